/-
  real.Print where the exponent is written out.
  real.Print where the number is written without an exponent.
-/
import Derived.Test.YtcfgbdhpcboikaaGreatDoorParts
import Derived.Deep.QuietTactic
import Derived.BigQuiet
namespace Go.Proofs.YtcfgbdhpcboikaaGreatDoor
open Go.RowKit

theorem bytes_ext (a : ByteArray) (l : List UInt8) (h : a.data.toList = l) : a = ⟨l.toArray⟩ := by
  subst h
  rfl
theorem app_list (a b : ByteArray) : (a ++ b).data.toList = a.data.toList ++ b.data.toList := by simp
theorem ret_str {a : ByteArray} {l : List UInt8} (h : a.data.toList = l) : Ending.returned (.string a) = .returned (.string ⟨l.toArray⟩) := by rw [bytes_ext a l h]
theorem itoa_at (n : Int) (w : World) (T : Tabs w) (h0 : -9223372036854775808 ≤ n) (h1 : n ≤ 9223372036854775807) :
    Calls Tryz.prog 116 #[.int .i64 n] w fun e w' => e = .returned (.string ⟨(Lib.itoa n).toArray⟩) ∧ Below w.heap.size w w' := by
  refine (Tryz.strconv_Itoa n h0 h1 w T.u10).mono ?_
  rintro e w' ⟨rfl, k, os, rfl⟩
  refine ⟨rfl, rfl, rfl, rfl, ?_, ?_⟩
  · show w.heap.size ≤ (w.heap ++ os).size
    simp
  · intro j hj
    show (w.heap ++ os)[j]? = w.heap[j]?
    rw [Array.getElem?_append_left hj]

theorem itoa_len (n : Int) (h0 : -9223372036854775808 ≤ n) (h1 : n ≤ 9223372036854775807) : (Lib.itoa n).length ≤ 21 := by
  unfold Lib.itoa
  split
  · rw [List.length_cons, Lib.decDigits_length]
    have := nDigits_le20 n.natAbs (by omega)
    omega
  · rw [Lib.decDigits_length]
    have := nDigits_le20 n.toNat (by omega)
    omega
/-- A finite float above 0, in the tests' words. -/
structure PosF (b : Nat) : Prop where
  real : (FloatKind.f64.format.order b b != some .eq) = false
  fin : infF b = false
  nz : (FloatKind.f64.format.order b 0 == some .eq) = false
  pos : (FloatKind.f64.format.order b 0 == some .lt) = false

set_option maxRecDepth 100000 in
set_option maxHeartbeats 600000 in
theorem print_one_neg (b : Nat) (txt hd tl : List UInt8) (d : UInt8) (x : Int) (w : World) (T : Tabs w) (hF : FtoaAt b txt) (hP : PartsAt txt [d] x hd tl) (hB : PosF b) (hx : x + 1 < -5) :
    Calls Tryz.prog 63 #[.float .f64 b] w fun e w' => e = .returned (.string ⟨(d :: [101, 45] ++ Lib.itoa (-x)).toArray⟩) ∧ Below w.heap.size w w' := by
  have HF := Lib.hid hF
  have HT := Lib.hid T
  have HP := Lib.hid hP
  have x1 := hP.lo
  have x2 := hP.hi
  have r1 := hB.real
  have r3 := hB.nz
  have r4 := hB.pos
  have II := fun w => isInf_at b false w hB.fin
  have HII := Lib.hid II
  obtain ⟨s, hs⟩ : ∃ s : ByteArray, s = ⟨[d].toArray⟩ := ⟨_, rfl⟩
  have hsl : s.data.toList = [d] := by rw [hs]
  have hsz : s.size = 1 := by rw [size_list, hsl]; rfl
  obtain ⟨s1, e1, z1, c1'⟩ := cut_to s 1 (by omega)
  have c1 : ∀ w, (Instr.slice 9 (.string s) none (some (.int .i64 1)) none).run Tryz.prog w = .ok (.string s1) w := c1'
  rw [hsl] at e1
  have HS := Lib.hid hs
  have HSL := Lib.hid hsl
  have HE1 := Lib.hid e1
  clear hF T hP hB II hs hsl e1 c1'
  go_enter Tryz.func63, Tryz.ntmps63
  go_wp2_with (go_at_call 67; ((with_reducible refine (HII.out _).mono ?_); rintro e w' ⟨rfl, rfl⟩))
  refine (parts_any b txt [d] hd tl x _ HT.out HF.out HP.out).mono ?_
  rw [← HS.out]
  rintro e w2 ⟨rfl, B2⟩
  have HB2 := Lib.hid B2
  have HT2 := Lib.hid (HT.out.below B2 (Nat.le_refl _))
  clear B2
  go_wp2_with fail
  have hil := itoa_len (1 - (x + 1)) (by omega) (by omega)
  refine (itoa_at (1 - (x + 1)) _ HT2.out (by omega) (by omega)).mono ?_
  rintro e w3 ⟨rfl, B3⟩
  have HB3 := Lib.hid (HB2.out.trans (B3.mono HB2.out.size))
  clear B3
  go_wp2
  go_ret
  refine ⟨ret_str ?_, HB3.out⟩
  simp only [app_list]
  rw [HE1.out, show 1 - (x + 1) = -x by omega]
  simp

set_option maxRecDepth 100000 in
set_option maxHeartbeats 600000 in
theorem print_one_pos (b : Nat) (txt hd tl : List UInt8) (d : UInt8) (x : Int) (w : World) (T : Tabs w) (hF : FtoaAt b txt) (hP : PartsAt txt [d] x hd tl) (hB : PosF b) (hx : 21 < x + 1) :
    Calls Tryz.prog 63 #[.float .f64 b] w fun e w' => e = .returned (.string ⟨(d :: [101, 43] ++ Lib.itoa x).toArray⟩) ∧ Below w.heap.size w w' := by
  have HF := Lib.hid hF
  have HT := Lib.hid T
  have HP := Lib.hid hP
  have x1 := hP.lo
  have x2 := hP.hi
  have r1 := hB.real
  have r3 := hB.nz
  have r4 := hB.pos
  have II := fun w => isInf_at b false w hB.fin
  have HII := Lib.hid II
  obtain ⟨s, hs⟩ : ∃ s : ByteArray, s = ⟨[d].toArray⟩ := ⟨_, rfl⟩
  have hsl : s.data.toList = [d] := by rw [hs]
  have hsz : s.size = 1 := by rw [size_list, hsl]; rfl
  obtain ⟨s1, e1, z1, c1'⟩ := cut_to s 1 (by omega)
  have c1 : ∀ w, (Instr.slice 9 (.string s) none (some (.int .i64 1)) none).run Tryz.prog w = .ok (.string s1) w := c1'
  rw [hsl] at e1
  have HS := Lib.hid hs
  have HSL := Lib.hid hsl
  have HE1 := Lib.hid e1
  clear hF T hP hB II hs hsl e1 c1'
  go_enter Tryz.func63, Tryz.ntmps63
  go_wp2_with (go_at_call 67; ((with_reducible refine (HII.out _).mono ?_); rintro e w' ⟨rfl, rfl⟩))
  refine (parts_any b txt [d] hd tl x _ HT.out HF.out HP.out).mono ?_
  rw [← HS.out]
  rintro e w2 ⟨rfl, B2⟩
  have HB2 := Lib.hid B2
  have HT2 := Lib.hid (HT.out.below B2 (Nat.le_refl _))
  clear B2
  go_wp2_with fail
  have hil := itoa_len x (by omega) (by omega)
  refine (itoa_at x _ HT2.out (by omega) (by omega)).mono ?_
  rintro e w3 ⟨rfl, B3⟩
  have HB3 := Lib.hid (HB2.out.trans (B3.mono HB2.out.size))
  clear B3
  go_wp2
  go_ret
  refine ⟨ret_str ?_, HB3.out⟩
  simp only [app_list]
  rw [HE1.out]
  simp

set_option maxRecDepth 100000 in
set_option maxHeartbeats 600000 in
theorem print_many_neg (b k : Nat) (txt hd tl : List UInt8) (d : UInt8) (D : List UInt8) (x : Int) (w : World) (T : Tabs w) (hF : FtoaAt b txt) (hP : PartsAt txt (d :: D) x hd tl) (hB : PosF b) (hx : x + 1 < -5) (hk : D.length = k) (k1 : 1 ≤ k) (k2 : k ≤ 20) :
    Calls Tryz.prog 63 #[.float .f64 b] w fun e w' => e = .returned (.string ⟨(d :: 46 :: D ++ [101, 45] ++ Lib.itoa (-x)).toArray⟩) ∧ Below w.heap.size w w' := by
  have HF := Lib.hid hF
  have HT := Lib.hid T
  have HP := Lib.hid hP
  have x1 := hP.lo
  have x2 := hP.hi
  have r1 := hB.real
  have r3 := hB.nz
  have r4 := hB.pos
  have II := fun w => isInf_at b false w hB.fin
  have HII := Lib.hid II
  obtain ⟨s, hs⟩ : ∃ s : ByteArray, s = ⟨(d :: D).toArray⟩ := ⟨_, rfl⟩
  have hsl : s.data.toList = (d :: D) := by rw [hs]
  have hsz : s.size = k + 1 := by rw [size_list, hsl]; simp [hk]
  obtain ⟨s1, e1, z1, c1'⟩ := cut_to s 1 (by omega)
  have c1 : ∀ w, (Instr.slice 9 (.string s) none (some (.int .i64 1)) none).run Tryz.prog w = .ok (.string s1) w := c1'
  rw [hsl] at e1
  obtain ⟨s2, e2, z2, c2'⟩ := cut_from s 1 (by omega)
  have c2 : ∀ w, (Instr.slice 9 (.string s) (some (.int .i64 1)) none none).run Tryz.prog w = .ok (.string s2) w := c2'
  rw [hsl] at e2
  have HE2 := Lib.hid e2
  clear e2 c2'
  have HS := Lib.hid hs
  have HSL := Lib.hid hsl
  have HE1 := Lib.hid e1
  clear hF T hP hB II hs hsl e1 c1'
  go_enter Tryz.func63, Tryz.ntmps63
  go_wp2_with (go_at_call 67; ((with_reducible refine (HII.out _).mono ?_); rintro e w' ⟨rfl, rfl⟩))
  refine (parts_any b txt (d :: D) hd tl x _ HT.out HF.out HP.out).mono ?_
  rw [← HS.out]
  rintro e w2 ⟨rfl, B2⟩
  have HB2 := Lib.hid B2
  have HT2 := Lib.hid (HT.out.below B2 (Nat.le_refl _))
  clear B2
  go_wp2_with fail
  have hil := itoa_len (1 - (x + 1)) (by omega) (by omega)
  refine (itoa_at (1 - (x + 1)) _ HT2.out (by omega) (by omega)).mono ?_
  rintro e w3 ⟨rfl, B3⟩
  have HB3 := Lib.hid (HB2.out.trans (B3.mono HB2.out.size))
  clear B3
  go_wp2
  go_ret
  refine ⟨ret_str ?_, HB3.out⟩
  simp only [app_list]
  rw [HE1.out, HE2.out, show 1 - (x + 1) = -x by omega]
  simp

set_option maxRecDepth 100000 in
set_option maxHeartbeats 600000 in
theorem print_many_pos (b k : Nat) (txt hd tl : List UInt8) (d : UInt8) (D : List UInt8) (x : Int) (w : World) (T : Tabs w) (hF : FtoaAt b txt) (hP : PartsAt txt (d :: D) x hd tl) (hB : PosF b) (hx : 21 < x + 1) (hk : D.length = k) (k1 : 1 ≤ k) (k2 : k ≤ 20) :
    Calls Tryz.prog 63 #[.float .f64 b] w fun e w' => e = .returned (.string ⟨(d :: 46 :: D ++ [101, 43] ++ Lib.itoa x).toArray⟩) ∧ Below w.heap.size w w' := by
  have HF := Lib.hid hF
  have HT := Lib.hid T
  have HP := Lib.hid hP
  have x1 := hP.lo
  have x2 := hP.hi
  have r1 := hB.real
  have r3 := hB.nz
  have r4 := hB.pos
  have II := fun w => isInf_at b false w hB.fin
  have HII := Lib.hid II
  obtain ⟨s, hs⟩ : ∃ s : ByteArray, s = ⟨(d :: D).toArray⟩ := ⟨_, rfl⟩
  have hsl : s.data.toList = (d :: D) := by rw [hs]
  have hsz : s.size = k + 1 := by rw [size_list, hsl]; simp [hk]
  obtain ⟨s1, e1, z1, c1'⟩ := cut_to s 1 (by omega)
  have c1 : ∀ w, (Instr.slice 9 (.string s) none (some (.int .i64 1)) none).run Tryz.prog w = .ok (.string s1) w := c1'
  rw [hsl] at e1
  obtain ⟨s2, e2, z2, c2'⟩ := cut_from s 1 (by omega)
  have c2 : ∀ w, (Instr.slice 9 (.string s) (some (.int .i64 1)) none none).run Tryz.prog w = .ok (.string s2) w := c2'
  rw [hsl] at e2
  have HE2 := Lib.hid e2
  clear e2 c2'
  have HS := Lib.hid hs
  have HSL := Lib.hid hsl
  have HE1 := Lib.hid e1
  clear hF T hP hB II hs hsl e1 c1'
  go_enter Tryz.func63, Tryz.ntmps63
  go_wp2_with (go_at_call 67; ((with_reducible refine (HII.out _).mono ?_); rintro e w' ⟨rfl, rfl⟩))
  refine (parts_any b txt (d :: D) hd tl x _ HT.out HF.out HP.out).mono ?_
  rw [← HS.out]
  rintro e w2 ⟨rfl, B2⟩
  have HB2 := Lib.hid B2
  have HT2 := Lib.hid (HT.out.below B2 (Nat.le_refl _))
  clear B2
  go_wp2_with fail
  have hil := itoa_len x (by omega) (by omega)
  refine (itoa_at x _ HT2.out (by omega) (by omega)).mono ?_
  rintro e w3 ⟨rfl, B3⟩
  have HB3 := Lib.hid (HB2.out.trans (B3.mono HB2.out.size))
  clear B3
  go_wp2
  go_ret
  refine ⟨ret_str ?_, HB3.out⟩
  simp only [app_list]
  rw [HE1.out, HE2.out]
  simp
end Go.Proofs.YtcfgbdhpcboikaaGreatDoor

namespace Go.Proofs.YtcfgbdhpcboikaaGreatDoor
open Go.RowKit

theorem repeat_nought (n : Nat) : Lib.repeatL [48] n = List.replicate n 48 := by
  induction n with
  | zero => rfl
  | succ n ih => rw [Lib.repeatL, ih]; rfl
theorem noughts_at (n : Int) (w : World) (h0 : 0 ≤ n) (h1 : n ≤ 1000) :
    Calls Tryz.prog 115 #[.string { data := #[48] }, .int .i64 n] w fun e w' => e = .returned (.string ⟨(List.replicate n.toNat (48 : UInt8)).toArray⟩) ∧ Below w.heap.size w w' := by
  obtain ⟨c, rfl⟩ : ∃ c : Nat, n = c := ⟨n.toNat, by omega⟩
  refine (Tryz.strings_Repeat { data := #[48] } c w (by omega) (by have e : ({ data := #[48] } : ByteArray).size = 1 := rfl
                                                                   rw [e]; omega)).mono ?_
  rintro e w' ⟨rfl, h⟩
  refine ⟨?_, h⟩
  rw [show ({ data := #[48] } : ByteArray).data.toList = [48] from rfl, repeat_nought, Int.toNat_natCast]

set_option maxRecDepth 100000 in
set_option maxHeartbeats 600000 in
/-- A whole number of at most 21 digits. -/
theorem print_whole (b : Nat) (txt hd tl D : List UInt8) (x : Int) (w : World) (T : Tabs w) (hF : FtoaAt b txt) (hP : PartsAt txt D x hd tl) (hB : PosF b) (hk : (D.length : Int) ≤ x + 1) (hx : x + 1 ≤ 21) :
    Calls Tryz.prog 63 #[.float .f64 b] w fun e w' => e = .returned (.string ⟨(D ++ List.replicate (x + 1 - D.length).toNat 48).toArray⟩) ∧ Below w.heap.size w w' := by
  obtain ⟨k, hkk⟩ : ∃ k, k = D.length := ⟨_, rfl⟩
  rw [← hkk] at hk ⊢
  have HF := Lib.hid hF
  have HT := Lib.hid T
  have HP := Lib.hid hP
  have x1 := hP.lo
  have x2 := hP.hi
  have r1 := hB.real
  have r3 := hB.nz
  have r4 := hB.pos
  have II := fun w => isInf_at b false w hB.fin
  have HII := Lib.hid II
  obtain ⟨s, hs⟩ : ∃ s : ByteArray, s = ⟨D.toArray⟩ := ⟨_, rfl⟩
  have hsl : s.data.toList = D := by rw [hs]
  have hsz : s.size = k := by rw [size_list, hsl, hkk]
  have HS := Lib.hid hs
  have HSL := Lib.hid hsl
  clear hF T hP hB II hs hsl hkk
  go_enter Tryz.func63, Tryz.ntmps63
  go_wp2_with (go_at_call 67; ((with_reducible refine (HII.out _).mono ?_); rintro e w' ⟨rfl, rfl⟩))
  refine (parts_any b txt D hd tl x _ HT.out HF.out HP.out).mono ?_
  rw [← HS.out]
  rintro e w2 ⟨rfl, B2⟩
  have HB2 := Lib.hid B2
  clear B2
  obtain ⟨r, hr⟩ : ∃ r : ByteArray, r = ⟨(List.replicate (x + 1 - k).toNat (48 : UInt8)).toArray⟩ := ⟨_, rfl⟩
  have hrl : r.data.toList = List.replicate (x + 1 - k).toNat 48 := by rw [hr]
  have hrz : r.size ≤ 1000 := by rw [size_list, hrl, List.length_replicate]; omega
  have HR := Lib.hid hr
  have HRL := Lib.hid hrl
  clear hr hrl
  go_wp2_with fail
  refine (noughts_at (x + 1 - k) _ (by omega) (by omega)).mono ?_
  rw [← HR.out]
  rintro e w3 ⟨rfl, B3⟩
  have HB3 := Lib.hid (HB2.out.trans (B3.mono HB2.out.size))
  clear B3
  go_wp2
  go_ret
  refine ⟨ret_str ?_, HB3.out⟩
  simp only [app_list]
  rw [HSL.out, HRL.out]
set_option maxRecDepth 100000 in
set_option maxHeartbeats 600000 in
/-- A number below 1 with few noughts behind the point. -/
theorem print_tiny (b : Nat) (txt hd tl D : List UInt8) (x : Int) (w : World) (T : Tabs w) (hF : FtoaAt b txt) (hP : PartsAt txt D x hd tl) (hB : PosF b) (hk : D.length ≤ 30) (h1 : 1 ≤ D.length) (hx : x + 1 ≤ 0) (hl : -5 ≤ x + 1) :
    Calls Tryz.prog 63 #[.float .f64 b] w fun e w' => e = .returned (.string ⟨([48, 46] ++ List.replicate (-(x + 1)).toNat 48 ++ D).toArray⟩) ∧ Below w.heap.size w w' := by
  obtain ⟨k, hkk⟩ : ∃ k, k = D.length := ⟨_, rfl⟩
  rw [← hkk] at hk h1
  have HF := Lib.hid hF
  have HT := Lib.hid T
  have HP := Lib.hid hP
  have x1 := hP.lo
  have x2 := hP.hi
  have r1 := hB.real
  have r3 := hB.nz
  have r4 := hB.pos
  have II := fun w => isInf_at b false w hB.fin
  have HII := Lib.hid II
  obtain ⟨s, hs⟩ : ∃ s : ByteArray, s = ⟨D.toArray⟩ := ⟨_, rfl⟩
  have hsl : s.data.toList = D := by rw [hs]
  have hsz : s.size = k := by rw [size_list, hsl, hkk]
  have HS := Lib.hid hs
  have HSL := Lib.hid hsl
  clear hF T hP hB II hs hsl hkk
  have hng : ¬ (k : Int) ≤ x + 1 := by omega
  have hng2 : decide ((k : Int) ≤ x + 1) = false := decide_eq_false hng
  have hng3 : decide (1 ≤ x + 1) = false := decide_eq_false (by omega)
  go_enter Tryz.func63, Tryz.ntmps63
  go_wp2_with (go_at_call 67; ((with_reducible refine (HII.out _).mono ?_); rintro e w' ⟨rfl, rfl⟩))
  refine (parts_any b txt D hd tl x _ HT.out HF.out HP.out).mono ?_
  rw [← HS.out]
  rintro e w2 ⟨rfl, B2⟩
  have HB2 := Lib.hid B2
  clear B2
  obtain ⟨r, hr⟩ : ∃ r : ByteArray, r = ⟨(List.replicate (-(x + 1)).toNat (48 : UInt8)).toArray⟩ := ⟨_, rfl⟩
  have hrl : r.data.toList = List.replicate (-(x + 1)).toNat 48 := by rw [hr]
  have hrz : r.size ≤ 1000 := by rw [size_list, hrl, List.length_replicate]; omega
  have HR := Lib.hid hr
  have HRL := Lib.hid hrl
  clear hr hrl
  go_wp2_with fail
  refine (noughts_at (-(x + 1)) _ (by omega) (by omega)).mono ?_
  rw [← HR.out]
  rintro e w3 ⟨rfl, B3⟩
  have HB3 := Lib.hid (HB2.out.trans (B3.mono HB2.out.size))
  clear B3
  go_wp2
  go_ret
  refine ⟨ret_str ?_, HB3.out⟩
  simp only [app_list]
  rw [HSL.out, HRL.out]
  rfl
set_option maxRecDepth 100000 in
set_option maxHeartbeats 600000 in
/-- A number with a point in it. -/
theorem print_point (b : Nat) (txt hd tl D : List UInt8) (x : Int) (w : World) (T : Tabs w) (hF : FtoaAt b txt) (hP : PartsAt txt D x hd tl) (hB : PosF b) (hk : x + 1 < (D.length : Int)) (hl : 1 ≤ x + 1) (hx : x + 1 ≤ 21) (hk3 : D.length ≤ 30) :
    Calls Tryz.prog 63 #[.float .f64 b] w fun e w' => e = .returned (.string ⟨(D.take (x + 1).toNat ++ [46] ++ D.drop (x + 1).toNat).toArray⟩) ∧ Below w.heap.size w w' := by
  obtain ⟨k, hkk⟩ : ∃ k, k = D.length := ⟨_, rfl⟩
  rw [← hkk] at hk hk3
  have HF := Lib.hid hF
  have HT := Lib.hid T
  have HP := Lib.hid hP
  have x1 := hP.lo
  have x2 := hP.hi
  have r1 := hB.real
  have r3 := hB.nz
  have r4 := hB.pos
  have II := fun w => isInf_at b false w hB.fin
  have HII := Lib.hid II
  obtain ⟨s, hs⟩ : ∃ s : ByteArray, s = ⟨D.toArray⟩ := ⟨_, rfl⟩
  have hsl : s.data.toList = D := by rw [hs]
  have hsz : s.size = k := by rw [size_list, hsl, hkk]
  obtain ⟨p, hp⟩ : ∃ p : Nat, x + 1 = p := ⟨(x + 1).toNat, by omega⟩
  obtain ⟨s1, e1, z1, c1'⟩ := cut_to s p (by omega)
  have c1 : ∀ w, (Instr.slice 9 (.string s) none (some (.int .i64 (x + 1))) none).run Tryz.prog w = .ok (.string s1) w := by rw [hp]; exact c1'
  rw [hsl] at e1
  obtain ⟨s2, e2, z2, c2'⟩ := cut_from s p (by omega)
  have c2 : ∀ w, (Instr.slice 9 (.string s) (some (.int .i64 (x + 1))) none none).run Tryz.prog w = .ok (.string s2) w := by rw [hp]; exact c2'
  rw [hsl] at e2
  have b1 : s1.size ≤ 30 := by omega
  have b2 : s2.size ≤ 30 := by omega
  have HE1 := Lib.hid e1
  have HE2 := Lib.hid e2
  have HPP := Lib.hid hp
  clear e1 e2 c1' c2' hp
  have HS := Lib.hid hs
  have HSL := Lib.hid hsl
  clear hF T hP hB II hs hsl hkk
  go_enter Tryz.func63, Tryz.ntmps63
  go_wp2_with (go_at_call 67; ((with_reducible refine (HII.out _).mono ?_); rintro e w' ⟨rfl, rfl⟩))
  refine (parts_any b txt D hd tl x _ HT.out HF.out HP.out).mono ?_
  rw [← HS.out]
  rintro e w2 ⟨rfl, B2⟩
  have HB2 := Lib.hid B2
  clear B2
  go_wp2_with fail
  go_quiet (fail)
  go_wp2
  go_ret
  refine ⟨ret_str ?_, HB2.out.trans ⟨rfl, rfl, rfl, Nat.le_refl _, fun _ _ => rfl⟩⟩
  simp only [app_list]
  rw [HE1.out, HE2.out, HPP.out, Int.toNat_natCast]
set_option maxRecDepth 100000 in
set_option maxHeartbeats 600000 in
theorem print_zero (b : Nat) (w : World) (h1 : (FloatKind.f64.format.order b b != some .eq) = false) (h2 : infF b = false) (h3 : (FloatKind.f64.format.order b 0 == some .eq) = true) :
    Calls Tryz.prog 63 #[.float .f64 b] w fun e w' => e = .returned (.string { data := #[48] }) ∧ w = w' := by
  have II := fun w => isInf_at b false w h2
  have HII := Lib.hid II
  clear II h2
  go_enter Tryz.func63, Tryz.ntmps63
  go_wp2_with (go_at_call 67; ((with_reducible refine (HII.out _).mono ?_); rintro e w' ⟨rfl, rfl⟩))
  go_ret
  exact ⟨rfl, rfl⟩
end Go.Proofs.YtcfgbdhpcboikaaGreatDoor
