/-
  policy.Holds of the least pages.
-/
import Derived.Test.YtcfgbdhpcboikaaGreatDoorHoldA
import Derived.RegionTactic
import Derived.BigRegion
namespace Go.Proofs.YtcfgbdhpcboikaaGreatDoor
open Go.RowKit

def sHtml : ByteArray := ⟨#[104, 116, 109, 108]⟩
def sHead : ByteArray := ⟨#[104, 101, 97, 100]⟩
def sMeta : ByteArray := ⟨#[109, 101, 116, 97]⟩
structure PageAt (w : World) (gh oh gm om cm ga oa ca gb ob cb : Nat) (a' : Option Addr) (n' c' : Nat) : Prop where
  hd : Six w gh oh (.int .i64 1) (.int .i64 0) (.string ⟨#[104, 101, 97, 100]⟩) (.slice none 0 0) (.string ⟨#[]⟩) (.slice (some ⟨gm, om, none⟩) 1 cm)
  bd : Six w gh (oh + 6) (.int .i64 1) (.int .i64 0) (.string ⟨#[98, 111, 100, 121]⟩) (.slice none 0 0) (.string ⟨#[]⟩) (.slice (some ⟨gb, ob, none⟩) 1 cb)
  mt : Six w gm om (.int .i64 1) (.int .i64 0) (.string ⟨#[109, 101, 116, 97]⟩) (.slice (some ⟨ga, oa, none⟩) 1 ca) (.string ⟨#[]⟩) (.slice none 0 0)
  at' : Two w ga oa (.string ⟨#[99, 104, 97, 114, 115, 101, 116]⟩) (.string ⟨#[117, 116, 102, 45, 56]⟩)
  kid : Six w gb ob (.int .i64 1) (.int .i64 0) (.string ⟨#[98]⟩) (.slice none 0 0) (.string ⟨#[]⟩) (.slice a' n' c')
theorem PageAt.below {w w' : World} {B gh oh gm om cm ga oa ca gb ob cb : Nat} {a' : Option Addr} {n' c' : Nat} (h : PageAt w gh oh gm om cm ga oa ca gb ob cb a' n' c') (hb : Below B w w') (hB : w.heap.size ≤ B) : PageAt w' gh oh gm om cm ga oa ca gb ob cb a' n' c' :=
  ⟨h.hd.below hb hB, h.bd.below hb hB, h.mt.below hb hB, h.at'.below hb hB, h.kid.below hb hB⟩
set_option maxRecDepth 100000 in
set_option maxHeartbeats 4000000 in
theorem holds_page (gh oh ch gm om cm ga oa ca gb ob cb : Nat) (a' : Option Addr) (n' c' : Nat) (r : Bool) (L : Int) (n : Nd) (w : World) (hP : PageAt w gh oh gm om cm ga oa ca gb ob cb a' n' c')
    (hn : NodeV w n (elV sHtml (some ⟨gh, oh, none⟩) 2 ch)) (hf : fewL 32 n 1000 = L) (hL : 0 ≤ L)
    (HX : ∀ W, Below w.heap.size w W → Calls Tryz.prog 92 #[.agg #[.int .i64 1, .int .i64 0, .string ⟨#[98]⟩, .slice none 0 0, .string ⟨#[]⟩, .slice a' n' c'], .slice none 0 0] W (SomeBool r W)) :
    Calls Tryz.prog 41 #[elV sHtml (some ⟨gh, oh, none⟩) 2 ch] w (SomeBool r w) := by
  have HP := Lib.hid hP
  have HN := Lib.hid hn
  have HF := Lib.hid hf
  have HXX := Lib.hid HX
  clear hP hn hf HX
  unfold elV at *
  unfold sHtml at *
  go_enter Tryz.func41, Tryz.ntmps41
  go_wp2_with fail
  obtain ⟨W0, hW0⟩ : ∃ W0, W0 = w.alloc (.cells #[.int .i64 1, .int .i64 0, .string ⟨#[104, 116, 109, 108]⟩, .slice none 0 0, .string ⟨#[]⟩, .slice (some ⟨gh, oh, none⟩) 2 ch] 45) := ⟨_, rfl⟩
  have hB0 : Below w.heap.size w W0 := by rw [hW0]; exact (Below.refl _ w).alloc (Nat.le_refl _) _
  have hz : W0.heap.size = w.heap.size + 1 := by rw [hW0]; simp
  have hQ := six_alloc w (.int .i64 1) (.int .i64 0) (.string ⟨#[104, 116, 109, 108]⟩) (.slice none 0 0) (.string ⟨#[]⟩) (.slice (some ⟨gh, oh, none⟩) 2 ch)
  rw [← hW0] at hQ ⊢
  have HQ := Lib.hid hQ
  have HB0 := Lib.hid hB0
  have HZ := Lib.hid hz
  clear hQ hB0 hz hW0
  refine (few_any n.sz n (Nat.le_refl _) _ 32 32 1000 L W0 (Lib.hid rfl) (by omega) (by omega) (by omega) (Lib.hid (HN.out.below HB0.out (Nat.le_refl _))) HF).mono ?_
  rintro e W1 ⟨rfl, B1⟩
  have hq1 := HQ.out.below B1 (Nat.le_refl _)
  have q0 : W1.cell? ⟨w.heap.size, 0, none⟩ = some (.int .i64 1) := hq1.x0
  have q1 : W1.cell? ⟨w.heap.size, 1, none⟩ = some (.int .i64 0) := hq1.x1
  have q2 : W1.cell? ⟨w.heap.size, 2, none⟩ = some (.string ⟨#[104, 116, 109, 108]⟩) := hq1.x2
  have q3 : W1.cell? ⟨w.heap.size, 3, none⟩ = some (.slice none 0 0) := hq1.x3
  have q4 : W1.cell? ⟨w.heap.size, 4, none⟩ = some (.string ⟨#[]⟩) := hq1.x4
  have q5 : W1.cell? ⟨w.heap.size, 5, none⟩ = some (.slice (some ⟨gh, oh, none⟩) 2 ch) := hq1.x5
  have HQ1 := Lib.hid hq1
  have HB1 := Lib.hid (HB0.out.trans (B1.mono HB0.out.size))
  clear B1 hq1
  have hL0 : decide (L < 0) = false := by simp; omega
  go_wp2_with fail
  refine (plain_yes ⟨#[104, 116, 109, 108]⟩ none 0 (some ⟨gh, oh, none⟩) 2 ch W1).mono ?_
  rintro e W2 ⟨rfl, B2⟩
  have hq2 := HQ1.out.below B2 (Nat.le_refl _)
  have p5 : W2.cell? ⟨w.heap.size, 5, none⟩ = some (.slice (some ⟨gh, oh, none⟩) 2 ch) := hq2.x5
  have hb2 := HB1.out.trans (B2.mono HB1.out.size)
  have HQ2 := Lib.hid hq2
  have HB2 := Lib.hid hb2
  have hp2 := HP.out.below hb2 (Nat.le_refl _)
  have HP2 := Lib.hid hp2
  clear B2 hq2 hb2 hp2 q0 q1 q2 q3 q4 q5 hL0
  go_wp2_with fail
  obtain ⟨h0, h1, h2, h3, h4, h5⟩ := HP2.out.hd
  obtain ⟨i0, i1, i2, i3, i4, i5⟩ := HP2.out.bd
  have hg1 : gh < W2.heap.size := World.block_lt_of_cell? W2 _ h0
  have hg2 : w.heap.size < W2.heap.size := World.block_lt_of_cell? W2 _ p5
  have hg3 : ¬ gh = W2.heap.size := by omega
  have hg4 : ¬ w.heap.size = W2.heap.size := by omega
  have hg5 : ¬ gh = W2.heap.size + 1 := by omega
  have hg6 : ¬ w.heap.size = W2.heap.size + 1 := by omega
  have hg7 : ¬ W2.heap.size = gh := by omega
  have hg8 : ¬ W2.heap.size = w.heap.size := by omega
  go_region
  all_goals clear h0 h1 h2 h3 h4 h5 i0 i1 i2 i3 i4 i5 p5 hg1 hg2 hg3 hg4 hg5 hg6 hg7 hg8
  · obtain ⟨W5, hW5⟩ : ∃ W5, W5 = ((W2.alloc (.cells #[.int .i64 1, .int .i64 0, .string ⟨#[104, 101, 97, 100]⟩, .slice none 0 0, .string ⟨#[]⟩, .slice (some ⟨gm, om, none⟩) 1 cm] 45)).alloc (.cells #[.int .i64 1, .int .i64 0, .string ⟨#[98, 111, 100, 121]⟩, .slice none 0 0, .string ⟨#[]⟩, .slice (some ⟨gb, ob, none⟩) 1 cb] 45)).drew := ⟨_, rfl⟩
    have hb5 : Below W2.heap.size W2 W5 := by rw [hW5]; exact (((Below.refl _ W2).alloc (Nat.le_refl _) _).alloc (by simp) _).drew
    have s1 : Six W5 W2.heap.size 0 (.int .i64 1) (.int .i64 0) (.string ⟨#[104, 101, 97, 100]⟩) (.slice none 0 0) (.string ⟨#[]⟩) (.slice (some ⟨gm, om, none⟩) 1 cm) := by
      have h := (six_alloc W2 (.int .i64 1) (.int .i64 0) (.string ⟨#[104, 101, 97, 100]⟩) (.slice none 0 0) (.string ⟨#[]⟩) (.slice (some ⟨gm, om, none⟩) 1 cm)).below ((Below.refl _ (W2.alloc (.cells #[.int .i64 1, .int .i64 0, .string ⟨#[104, 101, 97, 100]⟩, .slice none 0 0, .string ⟨#[]⟩, .slice (some ⟨gm, om, none⟩) 1 cm] 45))).alloc (Nat.le_refl _) (.cells #[.int .i64 1, .int .i64 0, .string ⟨#[98, 111, 100, 121]⟩, .slice none 0 0, .string ⟨#[]⟩, .slice (some ⟨gb, ob, none⟩) 1 cb] 45)).drew (Nat.le_refl _)
      rw [hW5]; exact h
    have s2 : Six W5 (W2.heap.size + 1) 0 (.int .i64 1) (.int .i64 0) (.string ⟨#[98, 111, 100, 121]⟩) (.slice none 0 0) (.string ⟨#[]⟩) (.slice (some ⟨gb, ob, none⟩) 1 cb) := by
      have h := (six_alloc (W2.alloc (.cells #[.int .i64 1, .int .i64 0, .string ⟨#[104, 101, 97, 100]⟩, .slice none 0 0, .string ⟨#[]⟩, .slice (some ⟨gm, om, none⟩) 1 cm] 45)) (.int .i64 1) (.int .i64 0) (.string ⟨#[98, 111, 100, 121]⟩) (.slice none 0 0) (.string ⟨#[]⟩) (.slice (some ⟨gb, ob, none⟩) 1 cb)).below ((Below.refl _ ((W2.alloc (.cells #[.int .i64 1, .int .i64 0, .string ⟨#[104, 101, 97, 100]⟩, .slice none 0 0, .string ⟨#[]⟩, .slice (some ⟨gm, om, none⟩) 1 cm] 45)).alloc (.cells #[.int .i64 1, .int .i64 0, .string ⟨#[98, 111, 100, 121]⟩, .slice none 0 0, .string ⟨#[]⟩, .slice (some ⟨gb, ob, none⟩) 1 cb] 45))).drew) (Nat.le_refl _)
      rw [hW5]
      have e : (W2.alloc (.cells #[.int .i64 1, .int .i64 0, .string ⟨#[104, 101, 97, 100]⟩, .slice none 0 0, .string ⟨#[]⟩, .slice (some ⟨gm, om, none⟩) 1 cm] 45)).heap.size = W2.heap.size + 1 := by simp
      rw [e] at h
      exact h
    rw [← hW5]
    have SH : Hid (Six W5 (W2.heap.size) 0 (.int .i64 1) (.int .i64 0) (.string ⟨#[104, 101, 97, 100]⟩) (.slice none 0 0) (.string ⟨#[]⟩) (.slice (some ⟨gm, om, none⟩) 1 cm)) := s1
    have SB : Hid (Six W5 (W2.heap.size + 1) 0 (.int .i64 1) (.int .i64 0) (.string ⟨#[98, 111, 100, 121]⟩) (.slice none 0 0) (.string ⟨#[]⟩) (.slice (some ⟨gb, ob, none⟩) 1 cb)) := s2
    have HB5 := Lib.hid (HB2.out.trans (hb5.mono HB2.out.size))
    have HP5 := Lib.hid (HP2.out.below hb5 (Nat.le_refl _))
    clear hb5 s1 s2 hW5
    have x0 : W5.cell? ⟨W2.heap.size, 0, none⟩ = some (.int .i64 1) := SH.out.x0
    have x1 : W5.cell? ⟨W2.heap.size, 1, none⟩ = some (.int .i64 0) := SH.out.x1
    have x2 : W5.cell? ⟨W2.heap.size, 2, none⟩ = some (.string ⟨#[104, 101, 97, 100]⟩) := SH.out.x2
    have x3 : W5.cell? ⟨W2.heap.size, 3, none⟩ = some (.slice none 0 0) := SH.out.x3
    have x4 : W5.cell? ⟨W2.heap.size, 4, none⟩ = some (.string ⟨#[]⟩) := SH.out.x4
    have x5 : W5.cell? ⟨W2.heap.size, 5, none⟩ = some (.slice (some ⟨gm, om, none⟩) 1 cm) := SH.out.x5
    go_wp2_with fail
    refine (plain_yes ⟨#[104, 101, 97, 100]⟩ none 0 (some ⟨gm, om, none⟩) 1 cm W5).mono ?_
    rintro e W6 ⟨rfl, B6⟩
    have y5 : W6.cell? ⟨W2.heap.size, 5, none⟩ = some (.slice (some ⟨gm, om, none⟩) 1 cm) := (SH.out.below B6 (Nat.le_refl _)).x5
    have SB6 := Lib.hid (SB.out.below B6 (Nat.le_refl _))
    have HP6 := Lib.hid (HP5.out.below B6 (Nat.le_refl _))
    have HB6 := Lib.hid (HB5.out.trans (B6.mono HB5.out.size))
    clear B6 x0 x1 x2 x3 x4 x5
    go_wp2_with fail
    refine (heads_one gm om cm ga oa ca W6 HP6.out.mt HP6.out.at').mono ?_
    unfold SomeBool
    rintro e W7 ⟨rfl, B7⟩
    have z0 : W7.cell? ⟨W2.heap.size + 1, 0, none⟩ = some (.int .i64 1) := (SB6.out.below B7 (Nat.le_refl _)).x0
    have z1 : W7.cell? ⟨W2.heap.size + 1, 1, none⟩ = some (.int .i64 0) := (SB6.out.below B7 (Nat.le_refl _)).x1
    have z2 : W7.cell? ⟨W2.heap.size + 1, 2, none⟩ = some (.string ⟨#[98, 111, 100, 121]⟩) := (SB6.out.below B7 (Nat.le_refl _)).x2
    have z3 : W7.cell? ⟨W2.heap.size + 1, 3, none⟩ = some (.slice none 0 0) := (SB6.out.below B7 (Nat.le_refl _)).x3
    have z4 : W7.cell? ⟨W2.heap.size + 1, 4, none⟩ = some (.string ⟨#[]⟩) := (SB6.out.below B7 (Nat.le_refl _)).x4
    have z5 : W7.cell? ⟨W2.heap.size + 1, 5, none⟩ = some (.slice (some ⟨gb, ob, none⟩) 1 cb) := (SB6.out.below B7 (Nat.le_refl _)).x5
    have SB7 := Lib.hid (SB6.out.below B7 (Nat.le_refl _))
    have HP7 := Lib.hid (HP6.out.below B7 (Nat.le_refl _))
    have HB7 := Lib.hid (HB6.out.trans (B7.mono HB6.out.size))
    clear B7 y5
    go_wp2_with fail
    refine (plain_yes ⟨#[98, 111, 100, 121]⟩ none 0 (some ⟨gb, ob, none⟩) 1 cb W7).mono ?_
    rintro e W8 ⟨rfl, B8⟩
    have u0 : W8.cell? ⟨W2.heap.size + 1, 0, none⟩ = some (.int .i64 1) := (SB7.out.below B8 (Nat.le_refl _)).x0
    have u1 : W8.cell? ⟨W2.heap.size + 1, 1, none⟩ = some (.int .i64 0) := (SB7.out.below B8 (Nat.le_refl _)).x1
    have u2 : W8.cell? ⟨W2.heap.size + 1, 2, none⟩ = some (.string ⟨#[98, 111, 100, 121]⟩) := (SB7.out.below B8 (Nat.le_refl _)).x2
    have u3 : W8.cell? ⟨W2.heap.size + 1, 3, none⟩ = some (.slice none 0 0) := (SB7.out.below B8 (Nat.le_refl _)).x3
    have u4 : W8.cell? ⟨W2.heap.size + 1, 4, none⟩ = some (.string ⟨#[]⟩) := (SB7.out.below B8 (Nat.le_refl _)).x4
    have u5 : W8.cell? ⟨W2.heap.size + 1, 5, none⟩ = some (.slice (some ⟨gb, ob, none⟩) 1 cb) := (SB7.out.below B8 (Nat.le_refl _)).x5
    have HP8 := Lib.hid (HP7.out.below B8 (Nat.le_refl _))
    have HB8 := Lib.hid (HB7.out.trans (B8.mono HB7.out.size))
    clear B8 z0 z1 z2 z3 z4 z5
    go_wp2_with fail
    refine (holds_body gb ob cb a' n' c' r W8 HP8.out.kid (fun W hW => HXX.out W (HB8.out.trans (hW.mono HB8.out.size)))).mono ?_
    unfold SomeBool
    rintro e W9 ⟨rfl, B9⟩
    have HB9 := Lib.hid (HB8.out.trans (B9.mono HB8.out.size))
    clear B9
    go_wp2
    go_ret
    exact ⟨rfl, HB9.out⟩
  · obtain ⟨W5, hW5⟩ : ∃ W5, W5 = ((W2.alloc (.cells #[.int .i64 1, .int .i64 0, .string ⟨#[98, 111, 100, 121]⟩, .slice none 0 0, .string ⟨#[]⟩, .slice (some ⟨gb, ob, none⟩) 1 cb] 45)).alloc (.cells #[.int .i64 1, .int .i64 0, .string ⟨#[104, 101, 97, 100]⟩, .slice none 0 0, .string ⟨#[]⟩, .slice (some ⟨gm, om, none⟩) 1 cm] 45)).drew := ⟨_, rfl⟩
    have hb5 : Below W2.heap.size W2 W5 := by rw [hW5]; exact (((Below.refl _ W2).alloc (Nat.le_refl _) _).alloc (by simp) _).drew
    have s1 : Six W5 W2.heap.size 0 (.int .i64 1) (.int .i64 0) (.string ⟨#[98, 111, 100, 121]⟩) (.slice none 0 0) (.string ⟨#[]⟩) (.slice (some ⟨gb, ob, none⟩) 1 cb) := by
      have h := (six_alloc W2 (.int .i64 1) (.int .i64 0) (.string ⟨#[98, 111, 100, 121]⟩) (.slice none 0 0) (.string ⟨#[]⟩) (.slice (some ⟨gb, ob, none⟩) 1 cb)).below ((Below.refl _ (W2.alloc (.cells #[.int .i64 1, .int .i64 0, .string ⟨#[98, 111, 100, 121]⟩, .slice none 0 0, .string ⟨#[]⟩, .slice (some ⟨gb, ob, none⟩) 1 cb] 45))).alloc (Nat.le_refl _) (.cells #[.int .i64 1, .int .i64 0, .string ⟨#[104, 101, 97, 100]⟩, .slice none 0 0, .string ⟨#[]⟩, .slice (some ⟨gm, om, none⟩) 1 cm] 45)).drew (Nat.le_refl _)
      rw [hW5]; exact h
    have s2 : Six W5 (W2.heap.size + 1) 0 (.int .i64 1) (.int .i64 0) (.string ⟨#[104, 101, 97, 100]⟩) (.slice none 0 0) (.string ⟨#[]⟩) (.slice (some ⟨gm, om, none⟩) 1 cm) := by
      have h := (six_alloc (W2.alloc (.cells #[.int .i64 1, .int .i64 0, .string ⟨#[98, 111, 100, 121]⟩, .slice none 0 0, .string ⟨#[]⟩, .slice (some ⟨gb, ob, none⟩) 1 cb] 45)) (.int .i64 1) (.int .i64 0) (.string ⟨#[104, 101, 97, 100]⟩) (.slice none 0 0) (.string ⟨#[]⟩) (.slice (some ⟨gm, om, none⟩) 1 cm)).below ((Below.refl _ ((W2.alloc (.cells #[.int .i64 1, .int .i64 0, .string ⟨#[98, 111, 100, 121]⟩, .slice none 0 0, .string ⟨#[]⟩, .slice (some ⟨gb, ob, none⟩) 1 cb] 45)).alloc (.cells #[.int .i64 1, .int .i64 0, .string ⟨#[104, 101, 97, 100]⟩, .slice none 0 0, .string ⟨#[]⟩, .slice (some ⟨gm, om, none⟩) 1 cm] 45))).drew) (Nat.le_refl _)
      rw [hW5]
      have e : (W2.alloc (.cells #[.int .i64 1, .int .i64 0, .string ⟨#[98, 111, 100, 121]⟩, .slice none 0 0, .string ⟨#[]⟩, .slice (some ⟨gb, ob, none⟩) 1 cb] 45)).heap.size = W2.heap.size + 1 := by simp
      rw [e] at h
      exact h
    rw [← hW5]
    have SH : Hid (Six W5 (W2.heap.size + 1) 0 (.int .i64 1) (.int .i64 0) (.string ⟨#[104, 101, 97, 100]⟩) (.slice none 0 0) (.string ⟨#[]⟩) (.slice (some ⟨gm, om, none⟩) 1 cm)) := s2
    have SB : Hid (Six W5 (W2.heap.size) 0 (.int .i64 1) (.int .i64 0) (.string ⟨#[98, 111, 100, 121]⟩) (.slice none 0 0) (.string ⟨#[]⟩) (.slice (some ⟨gb, ob, none⟩) 1 cb)) := s1
    have HB5 := Lib.hid (HB2.out.trans (hb5.mono HB2.out.size))
    have HP5 := Lib.hid (HP2.out.below hb5 (Nat.le_refl _))
    clear hb5 s1 s2 hW5
    have x0 : W5.cell? ⟨W2.heap.size + 1, 0, none⟩ = some (.int .i64 1) := SH.out.x0
    have x1 : W5.cell? ⟨W2.heap.size + 1, 1, none⟩ = some (.int .i64 0) := SH.out.x1
    have x2 : W5.cell? ⟨W2.heap.size + 1, 2, none⟩ = some (.string ⟨#[104, 101, 97, 100]⟩) := SH.out.x2
    have x3 : W5.cell? ⟨W2.heap.size + 1, 3, none⟩ = some (.slice none 0 0) := SH.out.x3
    have x4 : W5.cell? ⟨W2.heap.size + 1, 4, none⟩ = some (.string ⟨#[]⟩) := SH.out.x4
    have x5 : W5.cell? ⟨W2.heap.size + 1, 5, none⟩ = some (.slice (some ⟨gm, om, none⟩) 1 cm) := SH.out.x5
    go_wp2_with fail
    refine (plain_yes ⟨#[104, 101, 97, 100]⟩ none 0 (some ⟨gm, om, none⟩) 1 cm W5).mono ?_
    rintro e W6 ⟨rfl, B6⟩
    have y5 : W6.cell? ⟨W2.heap.size + 1, 5, none⟩ = some (.slice (some ⟨gm, om, none⟩) 1 cm) := (SH.out.below B6 (Nat.le_refl _)).x5
    have SB6 := Lib.hid (SB.out.below B6 (Nat.le_refl _))
    have HP6 := Lib.hid (HP5.out.below B6 (Nat.le_refl _))
    have HB6 := Lib.hid (HB5.out.trans (B6.mono HB5.out.size))
    clear B6 x0 x1 x2 x3 x4 x5
    go_wp2_with fail
    refine (heads_one gm om cm ga oa ca W6 HP6.out.mt HP6.out.at').mono ?_
    unfold SomeBool
    rintro e W7 ⟨rfl, B7⟩
    have z0 : W7.cell? ⟨W2.heap.size, 0, none⟩ = some (.int .i64 1) := (SB6.out.below B7 (Nat.le_refl _)).x0
    have z1 : W7.cell? ⟨W2.heap.size, 1, none⟩ = some (.int .i64 0) := (SB6.out.below B7 (Nat.le_refl _)).x1
    have z2 : W7.cell? ⟨W2.heap.size, 2, none⟩ = some (.string ⟨#[98, 111, 100, 121]⟩) := (SB6.out.below B7 (Nat.le_refl _)).x2
    have z3 : W7.cell? ⟨W2.heap.size, 3, none⟩ = some (.slice none 0 0) := (SB6.out.below B7 (Nat.le_refl _)).x3
    have z4 : W7.cell? ⟨W2.heap.size, 4, none⟩ = some (.string ⟨#[]⟩) := (SB6.out.below B7 (Nat.le_refl _)).x4
    have z5 : W7.cell? ⟨W2.heap.size, 5, none⟩ = some (.slice (some ⟨gb, ob, none⟩) 1 cb) := (SB6.out.below B7 (Nat.le_refl _)).x5
    have SB7 := Lib.hid (SB6.out.below B7 (Nat.le_refl _))
    have HP7 := Lib.hid (HP6.out.below B7 (Nat.le_refl _))
    have HB7 := Lib.hid (HB6.out.trans (B7.mono HB6.out.size))
    clear B7 y5
    go_wp2_with fail
    refine (plain_yes ⟨#[98, 111, 100, 121]⟩ none 0 (some ⟨gb, ob, none⟩) 1 cb W7).mono ?_
    rintro e W8 ⟨rfl, B8⟩
    have u0 : W8.cell? ⟨W2.heap.size, 0, none⟩ = some (.int .i64 1) := (SB7.out.below B8 (Nat.le_refl _)).x0
    have u1 : W8.cell? ⟨W2.heap.size, 1, none⟩ = some (.int .i64 0) := (SB7.out.below B8 (Nat.le_refl _)).x1
    have u2 : W8.cell? ⟨W2.heap.size, 2, none⟩ = some (.string ⟨#[98, 111, 100, 121]⟩) := (SB7.out.below B8 (Nat.le_refl _)).x2
    have u3 : W8.cell? ⟨W2.heap.size, 3, none⟩ = some (.slice none 0 0) := (SB7.out.below B8 (Nat.le_refl _)).x3
    have u4 : W8.cell? ⟨W2.heap.size, 4, none⟩ = some (.string ⟨#[]⟩) := (SB7.out.below B8 (Nat.le_refl _)).x4
    have u5 : W8.cell? ⟨W2.heap.size, 5, none⟩ = some (.slice (some ⟨gb, ob, none⟩) 1 cb) := (SB7.out.below B8 (Nat.le_refl _)).x5
    have HP8 := Lib.hid (HP7.out.below B8 (Nat.le_refl _))
    have HB8 := Lib.hid (HB7.out.trans (B8.mono HB7.out.size))
    clear B8 z0 z1 z2 z3 z4 z5
    go_wp2_with fail
    refine (holds_body gb ob cb a' n' c' r W8 HP8.out.kid (fun W hW => HXX.out W (HB8.out.trans (hW.mono HB8.out.size)))).mono ?_
    unfold SomeBool
    rintro e W9 ⟨rfl, B9⟩
    have HB9 := Lib.hid (HB8.out.trans (B9.mono HB8.out.size))
    clear B9
    go_wp2
    go_ret
    exact ⟨rfl, HB9.out⟩
end Go.Proofs.YtcfgbdhpcboikaaGreatDoor
