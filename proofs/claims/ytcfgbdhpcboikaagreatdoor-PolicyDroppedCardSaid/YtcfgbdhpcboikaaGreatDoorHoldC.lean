/-
  policy.holds of an element b: alone, and around another b.
-/
import Derived.Test.YtcfgbdhpcboikaaGreatDoorHoldB
import Derived.Lib.FrozenHead2
namespace Go.Proofs.YtcfgbdhpcboikaaGreatDoor
open Go.RowKit

theorem six_alloc (w : World) (c0 c1 c2 c3 c4 c5 : Value) : Six (w.alloc (.cells #[c0, c1, c2, c3, c4, c5] 45)) w.heap.size 0 c0 c1 c2 c3 c4 c5 := by
  have h : ∀ j, (w.alloc (.cells #[c0, c1, c2, c3, c4, c5] 45)).cell? ⟨w.heap.size, j, none⟩ = (#[c0, c1, c2, c3, c4, c5] : Array Value)[j]? := fun j => cell_of_row _ w.heap.size j _ 45 (0, 0) (heap_alloc_new w _)
  exact ⟨h 0, h 1, h 2, h 3, h 4, h 5⟩
def sB : ByteArray := ⟨#[98]⟩
theorem Tryz.info9 : (Tryz.prog.info? 9).map (fun i => (i.zero, i.size, i.bytes)) = some (some (.string ⟨#[]⟩), 1, 16) := by kernel_rfl
theorem kind_sB : KindAt sB 4 := fun w => kind_any sB w
/-- A node of the value: an element without attributes. -/
def elV (nm : ByteArray) (a : Option Addr) (n c : Nat) : Value := .agg #[.int .i64 1, .int .i64 0, .string nm, .slice none 0 0, .string ⟨#[]⟩, .slice a n c]
set_option maxRecDepth 100000 in
set_option maxHeartbeats 2000000 in
theorem holds_leaf (w : World) : Calls Tryz.prog 92 #[elV sB none 0 0, .slice none 0 0] w fun e w' => e = .returned (.bool true) ∧ Below w.heap.size w w' := by
  obtain ⟨i0, hi, hz0, hz1, hz2⟩ := info_parts Tryz.info9
  have HK := Lib.hid kind_sB
  unfold elV
  unfold sB at *
  go_enter Tryz.func92, Tryz.ntmps92
  go_wp2_with fail
  refine (HK.out _).mono ?_
  rintro e w' ⟨rfl, rfl⟩
  go_wp2_with fail
  obtain ⟨W0, hW0⟩ : ∃ W0, W0 = w.alloc (.cells #[.int .i64 1, .int .i64 0, .string ⟨#[98]⟩, .slice none 0 0, .string ⟨#[]⟩, .slice none 0 0] 45) := ⟨_, rfl⟩
  have hB0 : Below w.heap.size w W0 := by rw [hW0]; exact (Below.refl _ w).alloc (Nat.le_refl _) _
  have hc2 : W0.cell? ⟨w.heap.size, 2, none⟩ = some (.string ⟨#[98]⟩) := by rw [hW0, cell_of_row _ w.heap.size 2 _ 45 (0, 0) (heap_alloc_new w _)]; rfl
  have hc5 : W0.cell? ⟨w.heap.size, 5, none⟩ = some (.slice none 0 0) := by rw [hW0, cell_of_row _ w.heap.size 5 _ 45 (0, 0) (heap_alloc_new w _)]; rfl
  have hz : W0.heap.size = w.heap.size + 1 := by rw [hW0]; simp
  rw [← hW0]
  have HB0 := Lib.hid hB0
  have HZ := Lib.hid hz
  obtain ⟨S, hS⟩ : ∃ S : World → Prop, ∀ u, S u ↔ Below W0.heap.size W0 u := ⟨_, fun _ => Iff.rfl⟩
  have f1 : ∀ s : WIn S, s.w.cell? ⟨w.heap.size, 2, none⟩ = some (.string ⟨#[98]⟩) := fun s => by rw [((hS _).1 s.h).cell (p := ⟨w.heap.size, 2, none⟩) (by rw [hz]; simp)]; exact hc2
  haveI : Nonempty (WIn S) := ⟨⟨W0, (hS _).2 (Below.refl _ _)⟩⟩
  have HS := Lib.hid hS
  have HC5 := Lib.hid hc5
  clear hS hB0 hz hW0 hc5
  refine region_segs 10 [([0, 1, 2, 3, 4, 5, 6, 7], 8), ([], 9)] [] S (by kernel_rfl) (by kernel_rfl) ((HS.out _).2 (below_drewNm W0 1)) ?_
  refine segs_step (fun K' hK' => ?_)
  simp only [pick, List.getElem?_cons_zero, List.getElem?_cons_succ, Option.getD_some]
  repeat (go_big_quiet_step (fail))
  refine wpQuiet_nil (hK' _ (fun Q1 hQ1 => ?_))
  clear hK' K'
  simp only [pick, List.getElem?_cons_zero, List.getElem?_cons_succ, Option.getD_some]
  go_wp2
  have hB1 : Below W0.heap.size W0 ((W0.drewN 1).alloc (.cells #[.string ⟨#[98]⟩] 9)) := (below_drewNm W0 1).alloc (Nat.le_refl _) _
  have HB1 := Lib.hid hB1
  refine hQ1 _ _ ((HS.out _).2 hB1) (segs_step (fun K' hK' => wpQuiet_nil (hK' _ (fun Q2 hQ2 => ?_))))
  clear hK' K' hQ1 Q1 hB1
  simp only [pick, List.getElem?_cons_zero, List.getElem?_cons_succ, Option.getD_some]
  go_wp2_with (at_builtin; refine wpList_append_ownF _ rfl _ _ 55 rfl W0.heap.size 9 i0 (.string ⟨#[]⟩) 1 16 Tryz.underlying55 hi hz0 hz1 hz2 rfl (by decide) (.slice none 0 0) 0 [] rfl (World.ownsRowF_nil _ _ _ _) ⟨W0.heap.size, 0, none⟩ 1 1 [.string ⟨#[98]⟩] rfl rfl ?c1 ?c2 ?c3 ?c4 ?c5 ?_)
  case c1 =>
    intro j u hu
    cases j with
    | zero => simp at hu; subst hu; exact cell_of_row _ W0.heap.size 0 _ 9 (0, 0) (heap_alloc_new (W0.drewN 1) _)
    | succ j => simp at hu
  case c2 => intro u hu; simp at hu; subst hu; rfl
  case c3 => unfold maxLen; omega
  case c4 => omega
  case c5 => simp
  intro v' w2 hown hgrow _
  have hB2 : Below W0.heap.size W0 w2 := HB1.out.grown hgrow (by have := HB1.out.size; omega) (fun k hk => by simp [Value.ownBlock] at hk)
  have HB2 := Lib.hid hB2
  clear hB2 hown hgrow
  refine hQ2 _ _ ((HS.out _).2 HB2.out) (segs_last (fun K' hK' => ?_))
  clear hQ2 Q2
  simp only [pick]
  refine wpQuiet_nil (hK' _ (fun Q3 hQ3 => ?_))
  clear hK' K'
  simp only [List.drop_succ_cons, List.drop_zero]
  have c5 : w2.cell? ⟨w.heap.size, 5, none⟩ = some (.slice none 0 0) := by rw [HB2.out.cell (p := ⟨w.heap.size, 5, none⟩) (by rw [HZ.out]; simp)]; exact HC5.out
  clear hc2 f1
  go_wp2_with fail
  refine wp_loop_rounds 1 ?_
  rw [rounds_succ]
  go_wp2
  go_ret
  exact ⟨rfl, HB0.out.trans (HB2.out.mono HB0.out.size)⟩
set_option maxRecDepth 100000 in
set_option maxHeartbeats 2000000 in
theorem holds_bad (g off c : Nat) (w : World) (hx : Six w g off (.int .i64 1) (.int .i64 0) (.string ⟨#[98]⟩) (.slice none 0 0) (.string ⟨#[]⟩) (.slice none 0 0)) : Calls Tryz.prog 92 #[elV sB (some ⟨g, off, none⟩) 1 c, .slice none 0 0] w fun e w' => e = .returned (.bool false) ∧ Below w.heap.size w w' := by
  obtain ⟨i0, hi, hz0, hz1, hz2⟩ := info_parts Tryz.info9
  have HX := Lib.hid hx
  clear hx
  have HK := Lib.hid kind_sB
  unfold elV
  unfold sB at *
  go_enter Tryz.func92, Tryz.ntmps92
  go_wp2_with fail
  refine (HK.out _).mono ?_
  rintro e w' ⟨rfl, rfl⟩
  go_wp2_with fail
  obtain ⟨W0, hW0⟩ : ∃ W0, W0 = w.alloc (.cells #[.int .i64 1, .int .i64 0, .string ⟨#[98]⟩, .slice none 0 0, .string ⟨#[]⟩, .slice (some ⟨g, off, none⟩) 1 c] 45) := ⟨_, rfl⟩
  have hB0 : Below w.heap.size w W0 := by rw [hW0]; exact (Below.refl _ w).alloc (Nat.le_refl _) _
  have hc2 : W0.cell? ⟨w.heap.size, 2, none⟩ = some (.string ⟨#[98]⟩) := by rw [hW0, cell_of_row _ w.heap.size 2 _ 45 (0, 0) (heap_alloc_new w _)]; rfl
  have hc5 : W0.cell? ⟨w.heap.size, 5, none⟩ = some (.slice (some ⟨g, off, none⟩) 1 c) := by rw [hW0, cell_of_row _ w.heap.size 5 _ 45 (0, 0) (heap_alloc_new w _)]; rfl
  have hz : W0.heap.size = w.heap.size + 1 := by rw [hW0]; simp
  rw [← hW0]
  have HB0 := Lib.hid hB0
  have HZ := Lib.hid hz
  obtain ⟨S, hS⟩ : ∃ S : World → Prop, ∀ u, S u ↔ Below W0.heap.size W0 u := ⟨_, fun _ => Iff.rfl⟩
  have f1 : ∀ s : WIn S, s.w.cell? ⟨w.heap.size, 2, none⟩ = some (.string ⟨#[98]⟩) := fun s => by rw [((hS _).1 s.h).cell (p := ⟨w.heap.size, 2, none⟩) (by rw [hz]; simp)]; exact hc2
  haveI : Nonempty (WIn S) := ⟨⟨W0, (hS _).2 (Below.refl _ _)⟩⟩
  have HS := Lib.hid hS
  have HC5 := Lib.hid hc5
  clear hS hB0 hz hW0 hc5
  refine region_segs 10 [([0, 1, 2, 3, 4, 5, 6, 7], 8), ([], 9)] [] S (by kernel_rfl) (by kernel_rfl) ((HS.out _).2 (below_drewNm W0 1)) ?_
  refine segs_step (fun K' hK' => ?_)
  simp only [pick, List.getElem?_cons_zero, List.getElem?_cons_succ, Option.getD_some]
  repeat (go_big_quiet_step (fail))
  refine wpQuiet_nil (hK' _ (fun Q1 hQ1 => ?_))
  clear hK' K'
  simp only [pick, List.getElem?_cons_zero, List.getElem?_cons_succ, Option.getD_some]
  go_wp2
  have hB1 : Below W0.heap.size W0 ((W0.drewN 1).alloc (.cells #[.string ⟨#[98]⟩] 9)) := (below_drewNm W0 1).alloc (Nat.le_refl _) _
  have HB1 := Lib.hid hB1
  refine hQ1 _ _ ((HS.out _).2 hB1) (segs_step (fun K' hK' => wpQuiet_nil (hK' _ (fun Q2 hQ2 => ?_))))
  clear hK' K' hQ1 Q1 hB1
  simp only [pick, List.getElem?_cons_zero, List.getElem?_cons_succ, Option.getD_some]
  go_wp2_with (at_builtin; refine wpList_append_ownF _ rfl _ _ 55 rfl W0.heap.size 9 i0 (.string ⟨#[]⟩) 1 16 Tryz.underlying55 hi hz0 hz1 hz2 rfl (by decide) (.slice none 0 0) 0 [] rfl (World.ownsRowF_nil _ _ _ _) ⟨W0.heap.size, 0, none⟩ 1 1 [.string ⟨#[98]⟩] rfl rfl ?c1 ?c2 ?c3 ?c4 ?c5 ?_)
  case c1 =>
    intro j u hu
    cases j with
    | zero => simp at hu; subst hu; exact cell_of_row _ W0.heap.size 0 _ 9 (0, 0) (heap_alloc_new (W0.drewN 1) _)
    | succ j => simp at hu
  case c2 => intro u hu; simp at hu; subst hu; rfl
  case c3 => unfold maxLen; omega
  case c4 => omega
  case c5 => simp
  intro v' w2 hown hgrow _
  have hB2 : Below W0.heap.size W0 w2 := HB1.out.grown hgrow (by have := HB1.out.size; omega) (fun k hk => by simp [Value.ownBlock] at hk)
  have HB2 := Lib.hid hB2
  clear hB2 hown hgrow
  refine hQ2 _ _ ((HS.out _).2 HB2.out) (segs_last (fun K' hK' => ?_))
  clear hQ2 Q2
  simp only [pick]
  refine wpQuiet_nil (hK' _ (fun Q3 hQ3 => ?_))
  clear hK' K'
  simp only [List.drop_succ_cons, List.drop_zero]
  have c5 : w2.cell? ⟨w.heap.size, 5, none⟩ = some (.slice (some ⟨g, off, none⟩) 1 c) := by rw [HB2.out.cell (p := ⟨w.heap.size, 5, none⟩) (by rw [HZ.out]; simp)]; exact HC5.out
  have HC2 := Lib.hid hc2
  clear hc2 f1
  obtain ⟨y0, y1, y2, y3, y4, y5⟩ := (HX.out.below (HB0.out.trans (HB2.out.mono HB0.out.size)) (Nat.le_refl _))
  go_wp2_with fail
  refine wp_loop_rounds 1 ?_
  rw [rounds_succ]
  go_wp2_with fail
  have hS0 := six_alloc w2 (.int .i64 1) (.int .i64 0) (.string ⟨#[98]⟩) (.slice none 0 0) (.string ⟨#[]⟩) (.slice none 0 0)
  have hB3 : Below w2.heap.size w2 (w2.alloc (.cells #[.int .i64 1, .int .i64 0, .string ⟨#[98]⟩, .slice none 0 0, .string ⟨#[]⟩, .slice none 0 0] 45)) := (Below.refl _ w2).alloc (Nat.le_refl _) _
  have hz2 : w.heap.size < w2.heap.size := by have := HB2.out.size; have := HZ.out; omega
  have HZ2 := Lib.hid hz2
  refine (text_no 1 rfl 0 ⟨#[98]⟩ ⟨#[]⟩ (.slice none 0 0) (.slice none 0 0) _).mono ?_
  rintro e W3 ⟨rfl, B3⟩
  have hB3' := hB3.trans (B3.mono (by simp))
  have hS3 := hS0.below B3 (Nat.le_refl _)
  have k0 : W3.cell? ⟨w2.heap.size, 0, none⟩ = some (.int .i64 1) := hS3.x0
  have k1 : W3.cell? ⟨w2.heap.size, 1, none⟩ = some (.int .i64 0) := hS3.x1
  have k2 : W3.cell? ⟨w2.heap.size, 2, none⟩ = some (.string ⟨#[98]⟩) := hS3.x2
  have k3 : W3.cell? ⟨w2.heap.size, 3, none⟩ = some (.slice none 0 0) := hS3.x3
  have k4 : W3.cell? ⟨w2.heap.size, 4, none⟩ = some (.string ⟨#[]⟩) := hS3.x4
  have k5 : W3.cell? ⟨w2.heap.size, 5, none⟩ = some (.slice none 0 0) := hS3.x5
  have HS3 := Lib.hid hS3
  have HB3 := Lib.hid hB3'
  clear hS0 hB3 hz2 B3 hB3' hS3
  go_wp2_with fail
  refine (elem_yes ⟨#[98]⟩ (.slice none 0 0) (.slice none 0 0) W3).mono ?_
  rintro e W4 ⟨rfl, B4⟩
  have hS4 := HS3.out.below B4 (Nat.le_refl _)
  have hB4 := HB3.out.trans (B4.mono HB3.out.size)
  have q2 : W4.cell? ⟨w2.heap.size, 2, none⟩ = some (.string ⟨#[98]⟩) := hS4.x2
  have n2 : W4.cell? ⟨w.heap.size, 2, none⟩ = some (.string ⟨#[98]⟩) := by
    rw [hB4.cell (p := ⟨w.heap.size, 2, none⟩) HZ2.out, HB2.out.cell (p := ⟨w.heap.size, 2, none⟩) (by rw [HZ.out]; simp)]
    exact HC2.out
  have HB4 := Lib.hid hB4
  clear hS4 hB4 B4 k0 k1 k2 k3 k4 k5
  go_wp2_with fail
  refine (may_any ⟨#[98]⟩ ⟨#[98]⟩ W4).mono ?_
  have hm : mayL (⟨#[98]⟩ : ByteArray).data.toList (⟨#[98]⟩ : ByteArray).data.toList = false := by decide +kernel
  rw [hm]
  rintro e w' ⟨rfl, rfl⟩
  clear hm
  go_wp2
  go_ret
  exact ⟨rfl, HB0.out.trans ((HB2.out.trans (HB4.out.mono HB2.out.size)).mono HB0.out.size)⟩
end Go.Proofs.YtcfgbdhpcboikaaGreatDoor
