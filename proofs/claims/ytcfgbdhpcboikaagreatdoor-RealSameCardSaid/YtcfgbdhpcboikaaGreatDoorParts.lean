/-
  FormatFloat and real.parts: the digits of a float and where the point stands.
-/
import Derived.Test.YtcfgbdhpcboikaaGreatDoorFtoa
import Derived.Lib.SmallJoins
namespace Go.Proofs.YtcfgbdhpcboikaaGreatDoor
open Go.RowKit

/-- What ftoa64 tells of a float in the form 'e'. -/
def FtoaAt (b : Nat) (txt : List UInt8) : Prop :=
  ∀ (w : World) (B : Nat) (ad : Option Addr) (c : Nat) (S : Nat → Prop), Out w w B S ad c [] → Tabs w → (∀ k, S k → k < w.heap.size) → Calls Tryz.prog 228 #[.slice ad 0 c, .float .f64 b, .int .u8 101, .int .i64 (-1)] w (FmtOut w B S txt)

theorem make24 : ∃ Z : Array Value, Z.size = 24 ∧ ∀ w : World, (Instr.makeSlice 35 (.int .i64 0) (.int .i64 24)).run Tryz.prog w = .ok (.slice (some ⟨w.heap.size, 0, none⟩) 0 24) (w.alloc (.cells Z 5)) := by
  obtain ⟨i0, hi, hz0, hz1, hz2⟩ := info_parts infoE5
  refine ⟨madeCells (Value.int .u8 0).cells (24 * i0.size), ?_, fun w => ?_⟩
  · rw [hz1, toList_zeros 24]; simp
  · exact run_make (P := Tryz.prog) w 35 5 i0 (.int .u8 0) Tryz.underlying35 hi hz0 .i64 .i64 0 24 (by omega) (by omega) (by rw [hz2]; omega) (by omega)

set_option maxRecDepth 100000 in
set_option maxHeartbeats 1500000 in
theorem format52 (b : Nat) (txt : List UInt8) (w : World) (T : Tabs w) (hF : FtoaAt b txt) :
    Calls Tryz.prog 200 #[.float .f64 b, .int .u8 101, .int .i64 (-1), .int .i64 64] w fun e w' => e = .returned (.string ⟨txt.toArray⟩) ∧ Below w.heap.size w w' := by
  obtain ⟨Z, hZ, hmk⟩ := make24
  obtain ⟨g, hg⟩ : ∃ g, g = w.heap.size := ⟨_, rfl⟩
  obtain ⟨W, hW⟩ : ∃ W, W = w.alloc (.cells Z 5) := ⟨_, rfl⟩
  have bW : Below w.heap.size w W := by rw [hW]; exact (Below.refl _ _).alloc (Nat.le_refl _) _
  have sW : W.heap.size = g + 1 := by rw [hW, hg]; simp
  have O1 : Out W W g (· = g) (some ⟨g, 0, none⟩) 24 [] := by
    refine ⟨?_, Kept.refl _ _, fun y hy => .inl (by cases hy; rfl), by omega⟩
    rw [hW, hg]
    exact World.ownsRow_made w Z 24 (Nat.le_refl _) (by unfold maxLen; omega) (by rw [hZ])
  have TW := T.below bW (Nat.le_refl _)
  have FT := hF W g (some ⟨g, 0, none⟩) 24 (· = g) O1 TW (fun k hk => by omega)
  have ks := fun (w : World) (x : Option Addr) (bs : List UInt8) (n c : Nat) => run_convB (P := Tryz.prog) w 35 5 9 Tryz.underlying35 Tryz.underlying5 Tryz.underlying9 x bs n c
  have HKS := Lib.hid ks
  have HFT := Lib.hid FT
  have HW := Lib.hid hW
  have HG := Lib.hid hg
  clear ks FT hF T TW O1 hW hg hZ sW
  have mx : max (3 : Int) 24 = 24 := by decide
  go_enter Tryz.func200, Tryz.ntmps200
  go_wp2_with fail
  rw [← HW.out, ← HG.out]
  refine HFT.out.mono ?_
  rintro e w2 ⟨ad2, c2, rfl, O2⟩
  have k2 := HKS.out w2 ad2 txt txt.length c2 rfl O2.own.isB
  have HO := Lib.hid O2
  clear O2
  go_wp2
  go_ret
  refine ⟨rfl, ?_⟩
  have hg' := HG.out
  exact bW.trans (HO.out.kept.below (by have := bW.size; omega) (fun k _ e => by omega))

theorem format35 (b : Nat) (txt : List UInt8) (w : World) (T : Tabs w) (hF : FtoaAt b txt) :
    Calls Tryz.prog 158 #[.float .f64 b, .int .u8 101, .int .i64 (-1), .int .i64 64] w fun e w' => e = .returned (.string ⟨txt.toArray⟩) ∧ Below w.heap.size w w' := by
  have HF := Lib.hid hF
  have HT := Lib.hid T
  clear hF T
  go_enter Tryz.func158, Tryz.ntmps158
  go_wp2_with fail
  refine (format52 b txt _ HT.out HF.out).mono ?_
  rintro e w2 ⟨rfl, B2⟩
  have HB := Lib.hid B2
  clear B2
  go_wp2
  go_ret
  exact ⟨rfl, HB.out⟩

/-- The digits and the point's place, out of the form 'e'. -/
structure PartsAt (txt D : List UInt8) (x : Int) (hd tl : List UInt8) : Prop where
  cut : Lib.cut txt [101] = (hd, tl, true)
  num : Lib.atoi tl = some x
  rep : Lib.replace hd [46] [] 1 = D
  len : txt.length ≤ 1000
  tlen : tl.length ≤ 18
  hlen : hd.length ≤ 1000
  cnt : Lib.countB ⟨hd.toArray⟩ ⟨#[46]⟩ ≤ 1000
  lo : -1000 ≤ x
  hi : x ≤ 1000

theorem size_mk (l : List UInt8) : (⟨l.toArray⟩ : ByteArray).size = l.length := rfl
theorem cut_at (txt hd tl : List UInt8) (w : World) (T : Tabs w) (h : Lib.cut txt [101] = (hd, tl, true)) (hl : txt.length ≤ 1000) :
    Calls Tryz.prog 71 #[.string ⟨txt.toArray⟩, .string { data := #[101] }] w fun e w' => e = .returned (.tuple #[.string ⟨hd.toArray⟩, .string ⟨tl.toArray⟩, .bool true]) ∧ ∃ n, w' = w.drewN n := by
  obtain ⟨m, hm⟩ := T.most
  have := Tryz.strings_Cut ⟨txt.toArray⟩ { data := #[101] } m w (by rw [size_mk]; omega) hm
  have e : Lib.cut (⟨txt.toArray⟩ : ByteArray).data.toList ({ data := #[101] } : ByteArray).data.toList = (hd, tl, true) := h
  rw [e] at this
  exact this
theorem atoi_at (tl : List UInt8) (x : Int) (w : World) (h : Lib.atoi tl = some x) (hl : tl.length ≤ 18) :
    Calls Tryz.prog 113 #[.string ⟨tl.toArray⟩] w fun e w' => e = .returned (.tuple #[.int .i64 x, .nilIface]) ∧ Below w.heap.size w w' := by
  refine (Tryz.strconv_Atoi ⟨tl.toArray⟩ x (by rw [size_list]; exact hl) h w).mono ?_
  rintro e w' ⟨rfl, t, rfl⟩
  exact ⟨rfl, Lib.bytesWorld_below w 5 t⟩
theorem replace_at (hd D : List UInt8) (w : World) (T : Tabs w) (h : Lib.replace hd [46] [] 1 = D) (hl : hd.length ≤ 1000) (_hc : Lib.countB ⟨hd.toArray⟩ ⟨#[46]⟩ ≤ 1000) :
    Calls Tryz.prog 133 #[.string ⟨hd.toArray⟩, .string { data := #[46] }, .string { data := #[] }, .int .i64 1] w fun e w' => e = .returned (.string ⟨D.toArray⟩) ∧ Below w.heap.size w w' := by
  obtain ⟨m, hm⟩ := T.most
  have := Tryz.strings_Replace ⟨hd.toArray⟩ { data := #[46] } { data := #[] } 1 m w (by rw [size_mk]; omega) hm (by show 1 ≤ 1; omega) (by
    have e : ({ data := #[] } : ByteArray).size = 0 := rfl
    rw [size_mk, e]; omega)
  have e : Lib.replace (⟨hd.toArray⟩ : ByteArray).data.toList ({ data := #[46] } : ByteArray).data.toList ({ data := #[] } : ByteArray).data.toList 1 = D := h
  rw [e] at this
  exact this

set_option maxRecDepth 100000 in
set_option maxHeartbeats 1500000 in
theorem parts_any (b : Nat) (txt D hd tl : List UInt8) (x : Int) (w : World) (T : Tabs w) (hF : FtoaAt b txt) (hP : PartsAt txt D x hd tl) :
    Calls Tryz.prog 114 #[.float .f64 b] w fun e w' => e = .returned (.tuple #[.string ⟨D.toArray⟩, .int .i64 (x + 1)]) ∧ Below w.heap.size w w' := by
  have HF := Lib.hid hF
  have HT := Lib.hid T
  have HP := Lib.hid hP
  have x1 := hP.lo
  have x2 := hP.hi
  clear hF T hP
  go_enter Tryz.func114, Tryz.ntmps114
  go_wp2_with fail
  refine (format35 b txt _ HT.out HF.out).mono ?_
  rintro e w2 ⟨rfl, B2⟩
  have HB2 := Lib.hid B2
  have HT2 := Lib.hid (HT.out.below B2 (Nat.le_refl _))
  clear B2
  go_wp2_with fail
  refine (cut_at txt hd tl _ HT2.out HP.out.cut HP.out.len).mono ?_
  rintro e w3 ⟨rfl, n, rfl⟩
  go_wp2_with fail
  refine (atoi_at tl x _ HP.out.num HP.out.tlen).mono ?_
  rintro e w3 ⟨rfl, B3⟩
  have B03 : Below w.heap.size w w3 := (HB2.out.trans ⟨rfl, rfl, rfl, Nat.le_refl _, fun _ _ => rfl⟩ : Below w.heap.size w (w2.drewN n)).trans (B3.mono HB2.out.size)
  have HB3 := Lib.hid B03
  have HT3 := Lib.hid (HT.out.below B03 (Nat.le_refl _))
  clear B3 B03
  go_wp2_with fail
  refine (replace_at hd D _ HT3.out HP.out.rep HP.out.hlen HP.out.cnt).mono ?_
  rintro e w4 ⟨rfl, B4⟩
  have HB4 := Lib.hid (HB3.out.trans (B4.mono HB3.out.size))
  clear B4
  go_wp2
  go_ret2
  exact ⟨rfl, HB4.out⟩
end Go.Proofs.YtcfgbdhpcboikaaGreatDoor
