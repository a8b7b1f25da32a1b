/-
  real.Print where the exponent is written out.
-/
import Derived.Test.YtdgmokfdkophpaaGreatDoorParts
namespace Go.Proofs.YtdgmokfdkophpaaGreatDoor
open Go.RowKit

theorem bytes_ext (a : ByteArray) (l : List UInt8) (h : a.data.toList = l) : a = ⟨l.toArray⟩ := by
  subst h
  rfl
theorem app_list (a b : ByteArray) : (a ++ b).data.toList = a.data.toList ++ b.data.toList := by simp
theorem ret_str {a : ByteArray} {l : List UInt8} (h : a.data.toList = l) : Ending.returned (.string a) = .returned (.string ⟨l.toArray⟩) := by rw [bytes_ext a l h]
theorem itoa_at (n : Int) (w : World) (T : Tabs w) (h0 : -9223372036854775808 ≤ n) (h1 : n ≤ 9223372036854775807) :
    Calls Tryz.prog 29 #[.int .i64 n] w fun e w' => e = .returned (.string ⟨(Lib.itoa n).toArray⟩) ∧ Below w.heap.size w w' := by
  refine (Tryz.strconv_Itoa n h0 h1 w T.u10).mono ?_
  rintro e w' ⟨rfl, k, os, rfl⟩
  refine ⟨rfl, rfl, rfl, rfl, ?_, ?_⟩
  · show w.heap.size ≤ (w.heap ++ os).size
    simp
  · intro j hj
    show (w.heap ++ os)[j]? = w.heap[j]?
    rw [Array.getElem?_append_left hj]

theorem itoa_len (n : Int) (h0 : -9223372036854775808 ≤ n) (h1 : n ≤ 9223372036854775807) : (Lib.itoa n).length ≤ 21 := by
  unfold Lib.itoa
  split
  · rw [List.length_cons, Lib.decDigits_length]
    have := nDigits_le20 n.natAbs (by omega)
    omega
  · rw [Lib.decDigits_length]
    have := nDigits_le20 n.toNat (by omega)
    omega
/-- A finite float above 0, in the tests' words. -/
structure PosF (b : Nat) : Prop where
  real : (FloatKind.f64.format.order b b != some .eq) = false
  fin : infF b = false
  nz : (FloatKind.f64.format.order b 0 == some .eq) = false
  pos : (FloatKind.f64.format.order b 0 == some .lt) = false

set_option maxRecDepth 100000 in
set_option maxHeartbeats 600000 in
theorem print_one_neg (b : Nat) (txt hd tl : List UInt8) (d : UInt8) (x : Int) (w : World) (T : Tabs w) (hF : FtoaAt b txt) (hP : PartsAt txt [d] x hd tl) (hB : PosF b) (hx : x + 1 < -5) :
    Calls Tryz.prog 19 #[.float .f64 b] w fun e w' => e = .returned (.string ⟨(d :: [101, 45] ++ Lib.itoa (-x)).toArray⟩) ∧ Below w.heap.size w w' := by
  have HF := Lib.hid hF
  have HT := Lib.hid T
  have HP := Lib.hid hP
  have x1 := hP.lo
  have x2 := hP.hi
  have r1 := hB.real
  have r3 := hB.nz
  have r4 := hB.pos
  have II := fun w => isInf_at b false w hB.fin
  have HII := Lib.hid II
  obtain ⟨s, hs⟩ : ∃ s : ByteArray, s = ⟨[d].toArray⟩ := ⟨_, rfl⟩
  have hsl : s.data.toList = [d] := by rw [hs]
  have hsz : s.size = 1 := by rw [size_list, hsl]; rfl
  obtain ⟨s1, e1, z1, c1'⟩ := cut_to s 1 (by omega)
  have c1 : ∀ w, (Instr.slice 9 (.string s) none (some (.int .i64 1)) none).run Tryz.prog w = .ok (.string s1) w := c1'
  rw [hsl] at e1
  have HS := Lib.hid hs
  have HSL := Lib.hid hsl
  have HE1 := Lib.hid e1
  clear hF T hP hB II hs hsl e1 c1'
  go_enter Tryz.func19, Tryz.ntmps19
  go_wp2_with (go_at_call 26; ((with_reducible refine (HII.out _).mono ?_); rintro e w' ⟨rfl, rfl⟩))
  refine (parts_any b txt [d] hd tl x _ HT.out HF.out HP.out).mono ?_
  rw [← HS.out]
  rintro e w2 ⟨rfl, B2⟩
  have HB2 := Lib.hid B2
  have HT2 := Lib.hid (HT.out.below B2 (Nat.le_refl _))
  clear B2
  go_wp2_with fail
  have hil := itoa_len (1 - (x + 1)) (by omega) (by omega)
  refine (itoa_at (1 - (x + 1)) _ HT2.out (by omega) (by omega)).mono ?_
  rintro e w3 ⟨rfl, B3⟩
  have HB3 := Lib.hid (HB2.out.trans (B3.mono HB2.out.size))
  clear B3
  go_wp2
  go_ret
  refine ⟨ret_str ?_, HB3.out⟩
  simp only [app_list]
  rw [HE1.out, show 1 - (x + 1) = -x by omega]
  simp

set_option maxRecDepth 100000 in
set_option maxHeartbeats 600000 in
theorem print_one_pos (b : Nat) (txt hd tl : List UInt8) (d : UInt8) (x : Int) (w : World) (T : Tabs w) (hF : FtoaAt b txt) (hP : PartsAt txt [d] x hd tl) (hB : PosF b) (hx : 21 < x + 1) :
    Calls Tryz.prog 19 #[.float .f64 b] w fun e w' => e = .returned (.string ⟨(d :: [101, 43] ++ Lib.itoa x).toArray⟩) ∧ Below w.heap.size w w' := by
  have HF := Lib.hid hF
  have HT := Lib.hid T
  have HP := Lib.hid hP
  have x1 := hP.lo
  have x2 := hP.hi
  have r1 := hB.real
  have r3 := hB.nz
  have r4 := hB.pos
  have II := fun w => isInf_at b false w hB.fin
  have HII := Lib.hid II
  obtain ⟨s, hs⟩ : ∃ s : ByteArray, s = ⟨[d].toArray⟩ := ⟨_, rfl⟩
  have hsl : s.data.toList = [d] := by rw [hs]
  have hsz : s.size = 1 := by rw [size_list, hsl]; rfl
  obtain ⟨s1, e1, z1, c1'⟩ := cut_to s 1 (by omega)
  have c1 : ∀ w, (Instr.slice 9 (.string s) none (some (.int .i64 1)) none).run Tryz.prog w = .ok (.string s1) w := c1'
  rw [hsl] at e1
  have HS := Lib.hid hs
  have HSL := Lib.hid hsl
  have HE1 := Lib.hid e1
  clear hF T hP hB II hs hsl e1 c1'
  go_enter Tryz.func19, Tryz.ntmps19
  go_wp2_with (go_at_call 26; ((with_reducible refine (HII.out _).mono ?_); rintro e w' ⟨rfl, rfl⟩))
  refine (parts_any b txt [d] hd tl x _ HT.out HF.out HP.out).mono ?_
  rw [← HS.out]
  rintro e w2 ⟨rfl, B2⟩
  have HB2 := Lib.hid B2
  have HT2 := Lib.hid (HT.out.below B2 (Nat.le_refl _))
  clear B2
  go_wp2_with fail
  have hil := itoa_len x (by omega) (by omega)
  refine (itoa_at x _ HT2.out (by omega) (by omega)).mono ?_
  rintro e w3 ⟨rfl, B3⟩
  have HB3 := Lib.hid (HB2.out.trans (B3.mono HB2.out.size))
  clear B3
  go_wp2
  go_ret
  refine ⟨ret_str ?_, HB3.out⟩
  simp only [app_list]
  rw [HE1.out]
  simp

set_option maxRecDepth 100000 in
set_option maxHeartbeats 600000 in
theorem print_many_neg (b k : Nat) (txt hd tl : List UInt8) (d : UInt8) (D : List UInt8) (x : Int) (w : World) (T : Tabs w) (hF : FtoaAt b txt) (hP : PartsAt txt (d :: D) x hd tl) (hB : PosF b) (hx : x + 1 < -5) (hk : D.length = k) (k1 : 1 ≤ k) (k2 : k ≤ 20) :
    Calls Tryz.prog 19 #[.float .f64 b] w fun e w' => e = .returned (.string ⟨(d :: 46 :: D ++ [101, 45] ++ Lib.itoa (-x)).toArray⟩) ∧ Below w.heap.size w w' := by
  have HF := Lib.hid hF
  have HT := Lib.hid T
  have HP := Lib.hid hP
  have x1 := hP.lo
  have x2 := hP.hi
  have r1 := hB.real
  have r3 := hB.nz
  have r4 := hB.pos
  have II := fun w => isInf_at b false w hB.fin
  have HII := Lib.hid II
  obtain ⟨s, hs⟩ : ∃ s : ByteArray, s = ⟨(d :: D).toArray⟩ := ⟨_, rfl⟩
  have hsl : s.data.toList = (d :: D) := by rw [hs]
  have hsz : s.size = k + 1 := by rw [size_list, hsl]; simp [hk]
  obtain ⟨s1, e1, z1, c1'⟩ := cut_to s 1 (by omega)
  have c1 : ∀ w, (Instr.slice 9 (.string s) none (some (.int .i64 1)) none).run Tryz.prog w = .ok (.string s1) w := c1'
  rw [hsl] at e1
  obtain ⟨s2, e2, z2, c2'⟩ := cut_from s 1 (by omega)
  have c2 : ∀ w, (Instr.slice 9 (.string s) (some (.int .i64 1)) none none).run Tryz.prog w = .ok (.string s2) w := c2'
  rw [hsl] at e2
  have HE2 := Lib.hid e2
  clear e2 c2'
  have HS := Lib.hid hs
  have HSL := Lib.hid hsl
  have HE1 := Lib.hid e1
  clear hF T hP hB II hs hsl e1 c1'
  go_enter Tryz.func19, Tryz.ntmps19
  go_wp2_with (go_at_call 26; ((with_reducible refine (HII.out _).mono ?_); rintro e w' ⟨rfl, rfl⟩))
  refine (parts_any b txt (d :: D) hd tl x _ HT.out HF.out HP.out).mono ?_
  rw [← HS.out]
  rintro e w2 ⟨rfl, B2⟩
  have HB2 := Lib.hid B2
  have HT2 := Lib.hid (HT.out.below B2 (Nat.le_refl _))
  clear B2
  go_wp2_with fail
  have hil := itoa_len (1 - (x + 1)) (by omega) (by omega)
  refine (itoa_at (1 - (x + 1)) _ HT2.out (by omega) (by omega)).mono ?_
  rintro e w3 ⟨rfl, B3⟩
  have HB3 := Lib.hid (HB2.out.trans (B3.mono HB2.out.size))
  clear B3
  go_wp2
  go_ret
  refine ⟨ret_str ?_, HB3.out⟩
  simp only [app_list]
  rw [HE1.out, HE2.out, show 1 - (x + 1) = -x by omega]
  simp

set_option maxRecDepth 100000 in
set_option maxHeartbeats 600000 in
theorem print_many_pos (b k : Nat) (txt hd tl : List UInt8) (d : UInt8) (D : List UInt8) (x : Int) (w : World) (T : Tabs w) (hF : FtoaAt b txt) (hP : PartsAt txt (d :: D) x hd tl) (hB : PosF b) (hx : 21 < x + 1) (hk : D.length = k) (k1 : 1 ≤ k) (k2 : k ≤ 20) :
    Calls Tryz.prog 19 #[.float .f64 b] w fun e w' => e = .returned (.string ⟨(d :: 46 :: D ++ [101, 43] ++ Lib.itoa x).toArray⟩) ∧ Below w.heap.size w w' := by
  have HF := Lib.hid hF
  have HT := Lib.hid T
  have HP := Lib.hid hP
  have x1 := hP.lo
  have x2 := hP.hi
  have r1 := hB.real
  have r3 := hB.nz
  have r4 := hB.pos
  have II := fun w => isInf_at b false w hB.fin
  have HII := Lib.hid II
  obtain ⟨s, hs⟩ : ∃ s : ByteArray, s = ⟨(d :: D).toArray⟩ := ⟨_, rfl⟩
  have hsl : s.data.toList = (d :: D) := by rw [hs]
  have hsz : s.size = k + 1 := by rw [size_list, hsl]; simp [hk]
  obtain ⟨s1, e1, z1, c1'⟩ := cut_to s 1 (by omega)
  have c1 : ∀ w, (Instr.slice 9 (.string s) none (some (.int .i64 1)) none).run Tryz.prog w = .ok (.string s1) w := c1'
  rw [hsl] at e1
  obtain ⟨s2, e2, z2, c2'⟩ := cut_from s 1 (by omega)
  have c2 : ∀ w, (Instr.slice 9 (.string s) (some (.int .i64 1)) none none).run Tryz.prog w = .ok (.string s2) w := c2'
  rw [hsl] at e2
  have HE2 := Lib.hid e2
  clear e2 c2'
  have HS := Lib.hid hs
  have HSL := Lib.hid hsl
  have HE1 := Lib.hid e1
  clear hF T hP hB II hs hsl e1 c1'
  go_enter Tryz.func19, Tryz.ntmps19
  go_wp2_with (go_at_call 26; ((with_reducible refine (HII.out _).mono ?_); rintro e w' ⟨rfl, rfl⟩))
  refine (parts_any b txt (d :: D) hd tl x _ HT.out HF.out HP.out).mono ?_
  rw [← HS.out]
  rintro e w2 ⟨rfl, B2⟩
  have HB2 := Lib.hid B2
  have HT2 := Lib.hid (HT.out.below B2 (Nat.le_refl _))
  clear B2
  go_wp2_with fail
  have hil := itoa_len x (by omega) (by omega)
  refine (itoa_at x _ HT2.out (by omega) (by omega)).mono ?_
  rintro e w3 ⟨rfl, B3⟩
  have HB3 := Lib.hid (HB2.out.trans (B3.mono HB2.out.size))
  clear B3
  go_wp2
  go_ret
  refine ⟨ret_str ?_, HB3.out⟩
  simp only [app_list]
  rw [HE1.out, HE2.out]
  simp

end Go.Proofs.YtdgmokfdkophpaaGreatDoor
