/-
  policy.holds of a body with one b in it.
-/
import Derived.Test.YtcfgbdhpcboikaaGreatDoorHoldC
namespace Go.Proofs.YtcfgbdhpcboikaaGreatDoor
open Go.RowKit

def sBody : ByteArray := ⟨#[98, 111, 100, 121]⟩
theorem kind_sBody : KindAt sBody 14 := fun w => kind_any sBody w
def SomeBool (r : Bool) (w : World) (e : Ending) (w' : World) : Prop := e = .returned (.bool r) ∧ Below w.heap.size w w'
set_option maxRecDepth 100000 in
set_option maxHeartbeats 4000000 in
theorem holds_body (g off c : Nat) (a' : Option Addr) (n' c' : Nat) (r : Bool) (w : World) (hx : Six w g off (.int .i64 1) (.int .i64 0) (.string ⟨#[98]⟩) (.slice none 0 0) (.string ⟨#[]⟩) (.slice a' n' c'))
    (HX : ∀ W, Below w.heap.size w W → Calls Tryz.prog 92 #[.agg #[.int .i64 1, .int .i64 0, .string ⟨#[98]⟩, .slice none 0 0, .string ⟨#[]⟩, .slice a' n' c'], .slice none 0 0] W (SomeBool r W)) :
    Calls Tryz.prog 92 #[elV sBody (some ⟨g, off, none⟩) 1 c, .slice none 0 0] w (SomeBool r w) := by
  have HX1 := Lib.hid hx
  have HX2 := Lib.hid HX
  have HK := Lib.hid kind_sBody
  clear hx HX
  unfold elV
  unfold sBody at *
  go_enter Tryz.func92, Tryz.ntmps92
  go_wp2_with fail
  refine (HK.out _).mono ?_
  rintro e w' ⟨rfl, rfl⟩
  go_wp2_with fail
  obtain ⟨W0, hW0⟩ : ∃ W0, W0 = w.alloc (.cells #[.int .i64 1, .int .i64 0, .string ⟨#[98, 111, 100, 121]⟩, .slice none 0 0, .string ⟨#[]⟩, .slice (some ⟨g, off, none⟩) 1 c] 45) := ⟨_, rfl⟩
  have hB0 : Below w.heap.size w W0 := by rw [hW0]; exact (Below.refl _ w).alloc (Nat.le_refl _) _
  have hz : W0.heap.size = w.heap.size + 1 := by rw [hW0]; simp
  have hP := six_alloc w (.int .i64 1) (.int .i64 0) (.string ⟨#[98, 111, 100, 121]⟩) (.slice none 0 0) (.string ⟨#[]⟩) (.slice (some ⟨g, off, none⟩) 1 c)
  rw [← hW0] at hP
  try rw [← hW0]
  have HP := Lib.hid hP
  have HB0 := Lib.hid hB0
  have HZ := Lib.hid hz
  clear hP hB0 hz hW0
  obtain ⟨y0, y1, y2, y3, y4, y5⟩ := HX1.out.below HB0.out (Nat.le_refl _)
  refine wp_loop_rounds 2 ?_
  rw [rounds_succ]
  go_wp2_with fail
  have hS0 := six_alloc W0 (.int .i64 1) (.int .i64 0) (.string ⟨#[98]⟩) (.slice none 0 0) (.string ⟨#[]⟩) (.slice a' n' c')
  have hB3 : Below W0.heap.size W0 (W0.alloc (.cells #[.int .i64 1, .int .i64 0, .string ⟨#[98]⟩, .slice none 0 0, .string ⟨#[]⟩, .slice a' n' c'] 45)) := (Below.refl _ W0).alloc (Nat.le_refl _) _
  refine (text_no 1 rfl 0 ⟨#[98]⟩ ⟨#[]⟩ (.slice none 0 0) (.slice a' n' c') _).mono ?_
  rintro e W3 ⟨rfl, B3⟩
  have hB3' := hB3.trans (B3.mono (by simp))
  have hS3 := hS0.below B3 (Nat.le_refl _)
  have k0 : W3.cell? ⟨W0.heap.size, 0, none⟩ = some (.int .i64 1) := hS3.x0
  have k1 : W3.cell? ⟨W0.heap.size, 1, none⟩ = some (.int .i64 0) := hS3.x1
  have k2 : W3.cell? ⟨W0.heap.size, 2, none⟩ = some (.string ⟨#[98]⟩) := hS3.x2
  have k3 : W3.cell? ⟨W0.heap.size, 3, none⟩ = some (.slice none 0 0) := hS3.x3
  have k4 : W3.cell? ⟨W0.heap.size, 4, none⟩ = some (.string ⟨#[]⟩) := hS3.x4
  have k5 : W3.cell? ⟨W0.heap.size, 5, none⟩ = some (.slice a' n' c') := hS3.x5
  have HS3 := Lib.hid hS3
  have HB3 := Lib.hid hB3'
  clear hS0 hB3 B3 hB3' hS3
  go_wp2_with fail
  refine (elem_yes ⟨#[98]⟩ (.slice none 0 0) (.slice a' n' c') W3).mono ?_
  rintro e W4 ⟨rfl, B4⟩
  have hS4 := HS3.out.below B4 (Nat.le_refl _)
  have hB4 := HB3.out.trans (B4.mono HB3.out.size)
  have q2 : W4.cell? ⟨W0.heap.size, 2, none⟩ = some (.string ⟨#[98]⟩) := hS4.x2
  have n2 : W4.cell? ⟨w.heap.size, 2, none⟩ = some (.string ⟨#[98, 111, 100, 121]⟩) := by
    rw [hB4.cell (p := ⟨w.heap.size, 2, none⟩) (by rw [HZ.out]; simp)]
    exact HP.out.x2
  have HB4 := Lib.hid hB4
  have HS4 := Lib.hid hS4
  clear hS4 hB4 B4 k0 k1 k2 k3 k4 k5 y0 y1 y2 y3 y4 y5
  go_wp2_with fail
  refine (may_any ⟨#[98, 111, 100, 121]⟩ ⟨#[98]⟩ W4).mono ?_
  have hm : mayL (⟨#[98, 111, 100, 121]⟩ : ByteArray).data.toList (⟨#[98]⟩ : ByteArray).data.toList = true := by decide +kernel
  rw [hm]
  rintro e w' ⟨rfl, rfl⟩
  clear hm
  go_wp2_with fail
  refine (Tryz.slices_Contains_string_empty none 0 ⟨#[98]⟩ W4).mono ?_
  rintro e w' ⟨rfl, hw'⟩
  have hw2 := hw'.symm
  subst hw2
  go_wp2_with fail
  obtain ⟨S, hS⟩ : ∃ S : World → Prop, ∀ u, S u ↔ Below W4.heap.size W4 u := ⟨_, fun _ => Iff.rfl⟩
  have g0 : ∀ s : WIn S, s.w.cell? ⟨W0.heap.size, 0, none⟩ = some (.int .i64 1) := fun s => (HS4.out.below ((hS _).1 s.h) (Nat.le_refl _)).x0
  have g1 : ∀ s : WIn S, s.w.cell? ⟨W0.heap.size, 1, none⟩ = some (.int .i64 0) := fun s => (HS4.out.below ((hS _).1 s.h) (Nat.le_refl _)).x1
  have g2 : ∀ s : WIn S, s.w.cell? ⟨W0.heap.size, 2, none⟩ = some (.string ⟨#[98]⟩) := fun s => (HS4.out.below ((hS _).1 s.h) (Nat.le_refl _)).x2
  have g3 : ∀ s : WIn S, s.w.cell? ⟨W0.heap.size, 3, none⟩ = some (.slice none 0 0) := fun s => (HS4.out.below ((hS _).1 s.h) (Nat.le_refl _)).x3
  have g4 : ∀ s : WIn S, s.w.cell? ⟨W0.heap.size, 4, none⟩ = some (.string ⟨#[]⟩) := fun s => (HS4.out.below ((hS _).1 s.h) (Nat.le_refl _)).x4
  have g5 : ∀ s : WIn S, s.w.cell? ⟨W0.heap.size, 5, none⟩ = some (.slice a' n' c') := fun s => (HS4.out.below ((hS _).1 s.h) (Nat.le_refl _)).x5
  haveI : Nonempty (WIn S) := ⟨⟨W4, (hS _).2 (Below.refl _ _)⟩⟩
  have HS := Lib.hid hS
  clear hS q2 n2
  refine region_segs 14 [([0, 1, 2, 3, 5, 6], 4), ([], 7), ([8, 9, 10, 11], 12)] [13] S (by kernel_rfl) (by kernel_rfl) ((HS.out _).2 (below_drewNm W4 1)) ?_
  refine segs_step (fun K' hK' => ?_)
  simp only [pick, List.getElem?_cons_zero, List.getElem?_cons_succ, Option.getD_some]
  repeat (go_big_quiet_step (fail))
  refine wpQuiet_nil (hK' _ (fun Q1 hQ1 => ?_))
  clear hK' K'
  simp only [pick, List.getElem?_cons_zero, List.getElem?_cons_succ, Option.getD_some]
  go_wp2_with fail
  refine (attrs_nil ⟨#[98]⟩ none 0 _).mono ?_
  rintro e w' ⟨rfl, rfl⟩
  go_wp2_with fail
  refine hQ1 _ _ ((HS.out _).2 (below_drewNm W4 1)) (segs_step (fun K' hK' => wpQuiet_nil (hK' _ (fun Q2 hQ2 => ?_))))
  clear hK' K' hQ1 Q1
  simp only [pick, List.getElem?_cons_zero, List.getElem?_cons_succ, Option.getD_some]
  go_wp2_with fail
  refine (equal_nil none none 0 0 _).mono ?_
  rintro e w' ⟨rfl, rfl⟩
  go_wp2_with fail
  refine hQ2 _ _ ((HS.out _).2 (below_drewNm W4 1)) (segs_step (fun K' hK' => ?_))
  clear hQ2 Q2
  simp only [pick, List.getElem?_cons_zero, List.getElem?_cons_succ, Option.getD_some]
  repeat (go_big_quiet_step (fail))
  refine wpQuiet_nil (hK' _ (fun Q3 hQ3 => ?_))
  clear hK' K'
  simp only [pick, List.getElem?_cons_zero, List.getElem?_cons_succ, Option.getD_some]
  go_wp2_with fail
  have hB41 : Below W4.heap.size W4 (W4.drewN 1) := below_drewNm W4 1
  have hBw : Below w.heap.size w (W4.drewN 1) := HB0.out.trans ((HB4.out.trans (hB41.mono HB4.out.size)).mono HB0.out.size)
  refine (HX2.out _ hBw).mono ?_
  unfold SomeBool
  rintro e W5 ⟨rfl, B5⟩
  have hB45 : Below W4.heap.size W4 W5 := hB41.trans (B5.mono hB41.size)
  have HB5 := Lib.hid (hBw.trans (B5.mono hBw.size))
  have HB45 := Lib.hid hB45
  clear hB41 hBw B5 hB45
  go_wp2_with fail
  refine hQ3 _ _ ((HS.out _).2 HB45.out) (segs_last (fun K' hK' => ?_))
  clear hQ3 Q3
  simp only [pick, List.getElem?_cons_zero, List.getElem?_cons_succ, Option.getD_some]
  repeat (go_big_quiet_step (fail))
  refine wpQuiet_nil (hK' _ (fun Q4 hQ4 => ?_))
  clear hK' K'
  simp only [List.drop_succ_cons, List.drop_zero]
  clear g0 g1 g2 g3 g4 g5
  cases r with
  | false =>
    go_wp2
    go_ret
    exact ⟨rfl, HB5.out⟩
  | true =>
    go_wp2_with fail
    rw [rounds_succ]
    go_wp2
    go_ret
    exact ⟨rfl, HB5.out⟩
end Go.Proofs.YtcfgbdhpcboikaaGreatDoor
