/-
  The law's page, around one b.
  The law's shown: true.
  PolicyOnce: the walk.
-/
import Derived.Test.YtcfgbdhpcboikaaGreatDoorHoldF
import Derived.Test.YtcfgbdhpcboikaaGreatDoorLinkF
import Derived.Test.YtcfgbdhpcboikaaGreatDoorSortA
import Derived.Test.YtcfgbdhpcboikaaGreatDoorLookX
import Derived.Test.YtcfgbdhpcboikaaGreatDoorAttrL
namespace Go.Proofs.YtcfgbdhpcboikaaGreatDoor
open Go.RowKit

theorem five_allocs (w : World) (o0 o1 o2 o3 o4 : Obj) : ((((((w.alloc o0).alloc o1).alloc o2).alloc o3).alloc o4).heap[w.heap.size + 1]? = some o1) ∧ ((((((w.alloc o0).alloc o1).alloc o2).alloc o3).alloc o4).heap[w.heap.size + 1 + 1 + 1]? = some o3) ∧ ((((((w.alloc o0).alloc o1).alloc o2).alloc o3).alloc o4).heap[w.heap.size + 1 + 1 + 1 + 1]? = some o4) ∧ Below w.heap.size w (((((w.alloc o0).alloc o1).alloc o2).alloc o3).alloc o4) := by
  have e0 : (w.alloc o0).heap.size = w.heap.size + 1 := by simp
  have e1 : ((w.alloc o0).alloc o1).heap.size = w.heap.size + 1 + 1 := by simp
  have e2 : (((w.alloc o0).alloc o1).alloc o2).heap.size = w.heap.size + 1 + 1 + 1 := by simp
  have e3 : ((((w.alloc o0).alloc o1).alloc o2).alloc o3).heap.size = w.heap.size + 1 + 1 + 1 + 1 := by simp
  refine ⟨?_, ?_, ?_, ?_⟩
  · rw [Below.heap_alloc _ _ _ (by omega), Below.heap_alloc _ _ _ (by omega), Below.heap_alloc _ _ _ (by omega), ← e0]
    exact heap_alloc_new _ _
  · rw [Below.heap_alloc _ _ _ (by omega), ← e2]
    exact heap_alloc_new _ _
  · rw [← e3]
    exact heap_alloc_new _ _
  · exact (((((Below.refl _ w).alloc (Nat.le_refl _) _).alloc (by omega) _).alloc (by omega) _).alloc (by omega) _).alloc (by omega) _
def PagePost (w : World) (gb ob cb : Nat) (a' : Option Addr) (n' c' : Nat) (e : Ending) (w' : World) : Prop :=
  ∃ gh gm ga, e = .returned (elV sHtml (some ⟨gh, 0, none⟩) 2 2) ∧ PageAt w' gh 0 gm 0 1 ga 0 1 gb ob cb a' n' c' ∧ Below w.heap.size w w'
set_option maxRecDepth 100000 in
set_option maxHeartbeats 2000000 in
theorem page_one (gb ob cb : Nat) (a' : Option Addr) (n' c' : Nat) (w : World) (hk : Six w gb ob (.int .i64 1) (.int .i64 0) (.string ⟨#[98]⟩) (.slice none 0 0) (.string ⟨#[]⟩) (.slice a' n' c')) :
    Calls Tryz.prog 40 #[.slice (some ⟨gb, ob, none⟩) 1 cb] w (PagePost w gb ob cb a' n' c') := by
  have HK := Lib.hid hk
  clear hk
  go_enter Tryz.func40, Tryz.ntmps40
  go_wp2
  obtain ⟨h1, h3, h4, hb⟩ := five_allocs w (.cells #[.int .i64 1, .int .i64 0, .string ⟨#[104, 116, 109, 108]⟩, .slice none 0 0, .string ⟨#[]⟩, .slice (some ⟨w.heap.size + 1 + 1 + 1 + 1, 0, none⟩) 2 2] 45)
    (.cells #[.string ⟨#[99, 104, 97, 114, 115, 101, 116]⟩, .string ⟨#[117, 116, 102, 45, 56]⟩] 39)
    (.cells #[.int .i64 1, .int .i64 0, .string ⟨#[109, 101, 116, 97]⟩, .slice (some ⟨w.heap.size + 1, 0, none⟩) 1 1, .string ⟨#[]⟩, .slice none 0 0] 45)
    (.cells #[.int .i64 1, .int .i64 0, .string ⟨#[109, 101, 116, 97]⟩, .slice (some ⟨w.heap.size + 1, 0, none⟩) 1 1, .string ⟨#[]⟩, .slice none 0 0] 45)
    (.cells #[.int .i64 1, .int .i64 0, .string ⟨#[104, 101, 97, 100]⟩, .slice none 0 0, .string ⟨#[]⟩, .slice (some ⟨w.heap.size + 1 + 1 + 1, 0, none⟩) 1 1, .int .i64 1, .int .i64 0, .string ⟨#[98, 111, 100, 121]⟩, .slice none 0 0, .string ⟨#[]⟩, .slice (some ⟨gb, ob, none⟩) 1 cb] 45)
  refine bodyPost_ret (v := elV sHtml (some ⟨w.heap.size + 1 + 1 + 1 + 1, 0, none⟩) 2 2) (by unfold elV sHtml; simp [results, Tryz.results40, go_sem]) rfl ⟨w.heap.size + 1 + 1 + 1 + 1, w.heap.size + 1 + 1 + 1, w.heap.size + 1, rfl, ⟨?_, ?_, ?_, ?_, HK.out.below hb (Nat.le_refl _)⟩, hb⟩
  · have h : ∀ j, _ := fun j => cell_of_row _ (w.heap.size + 1 + 1 + 1 + 1) j _ 45 (0, 0) h4
    exact ⟨h 0, h 1, h 2, h 3, h 4, h 5⟩
  · have h : ∀ j, _ := fun j => cell_of_row _ (w.heap.size + 1 + 1 + 1 + 1) j _ 45 (0, 0) h4
    exact ⟨h 6, h 7, h 8, h 9, h 10, h 11⟩
  · have h : ∀ j, _ := fun j => cell_of_row _ (w.heap.size + 1 + 1 + 1) j _ 45 (0, 0) h3
    exact ⟨h 0, h 1, h 2, h 3, h 4, h 5⟩
  · have h : ∀ j, _ := fun j => cell_of_row _ (w.heap.size + 1) j _ 39 (0, 0) h1
    exact ⟨h 0, h 1⟩
end Go.Proofs.YtcfgbdhpcboikaaGreatDoor

namespace Go.Proofs.YtcfgbdhpcboikaaGreatDoor
open Go.RowKit

def sChar : ByteArray := ⟨#[99, 104, 97, 114, 115, 101, 116]⟩
def sUtf : ByteArray := ⟨#[117, 116, 102, 45, 56]⟩
def pageNd (X : Nd) : Nd := .mk 1 0 sHtml [] sMt [.mk 1 0 sHead [] sMt [.mk 1 0 sMeta [(sChar, sUtf)] sMt []], .mk 1 0 sBody [] sMt [X]]
def leafNd : Nd := .mk 1 0 sB [] sMt []
def bbNd : Nd := .mk 1 0 sB [] sMt [leafNd]
theorem attrs_none (w : World) : AttrsV w (.slice none 0 0) [] := ⟨none, 0, rfl, fun j h => absurd h (by simp)⟩
theorem leaf_node (w : World) : NodeV w leafNd (.agg #[.int .i64 1, .int .i64 0, .string ⟨#[98]⟩, .slice none 0 0, .string ⟨#[]⟩, .slice none 0 0]) := by
  unfold leafNd NodeV
  exact ⟨_, none, 0, rfl, by simp, attrs_none w, by unfold KidsV; trivial⟩
theorem bb_node (w : World) (g o c : Nat) (h : Six w g o (.int .i64 1) (.int .i64 0) (.string ⟨#[98]⟩) (.slice none 0 0) (.string ⟨#[]⟩) (.slice none 0 0)) : NodeV w bbNd (.agg #[.int .i64 1, .int .i64 0, .string ⟨#[98]⟩, .slice none 0 0, .string ⟨#[]⟩, .slice (some ⟨g, o, none⟩) 1 c]) := by
  unfold bbNd NodeV
  refine ⟨_, some ⟨g, o, none⟩, c, rfl, by simp, attrs_none w, ?_⟩
  unfold KidsV
  refine ⟨⟨g, o, _, _, _, _, _, _, rfl, h, leaf_node w⟩, ?_⟩
  unfold KidsV
  trivial
theorem page_node {w : World} {gh oh ch gm om cm ga oa ca gb ob cb : Nat} {a' : Option Addr} {n' c' : Nat} {X : Nd} (h : PageAt w gh oh gm om cm ga oa ca gb ob cb a' n' c')
    (hX : NodeV w X (.agg #[.int .i64 1, .int .i64 0, .string ⟨#[98]⟩, .slice none 0 0, .string ⟨#[]⟩, .slice a' n' c'])) : NodeV w (pageNd X) (elV sHtml (some ⟨gh, oh, none⟩) 2 ch) := by
  unfold pageNd NodeV
  refine ⟨_, some ⟨gh, oh, none⟩, ch, rfl, by simp, attrs_none w, ?_⟩
  unfold KidsV
  refine ⟨⟨gh, oh, _, _, _, _, _, _, rfl, h.hd, ?_⟩, ?_⟩
  · unfold NodeV
    refine ⟨_, some ⟨gm, om, none⟩, cm, rfl, by simp, attrs_none w, ?_⟩
    unfold KidsV
    refine ⟨⟨gm, om, _, _, _, _, _, _, rfl, h.mt, ?_⟩, by unfold KidsV; trivial⟩
    unfold NodeV
    refine ⟨_, none, 0, rfl, by simp, ⟨some ⟨ga, oa, none⟩, ca, rfl, ?_⟩, by unfold KidsV; trivial⟩
    intro j hj
    have : j = 0 := by simp at hj; omega
    subst this
    exact ⟨ga, oa, rfl, h.at'.1, h.at'.2⟩
  · unfold KidsV
    refine ⟨⟨gh, oh, _, _, _, _, _, _, rfl, h.bd, ?_⟩, by unfold KidsV; trivial⟩
    unfold NodeV
    refine ⟨_, some ⟨gb, ob, none⟩, cb, rfl, by simp, attrs_none w, ?_⟩
    unfold KidsV
    exact ⟨⟨gb, ob, _, _, _, _, _, _, rfl, h.kid, hX⟩, by unfold KidsV; trivial⟩
theorem few_leaf : fewL 32 (pageNd leafNd) 1000 = 995 := by decide +kernel
theorem few_bb : fewL 32 (pageNd bbNd) 1000 = 994 := by decide +kernel
theorem kind_li : KindAt ⟨#[108, 105]⟩ 8 := fun w => kind_any ⟨#[108, 105]⟩ w
theorem kind_script : KindAt ⟨#[115, 99, 114, 105, 112, 116]⟩ 1 := fun w => kind_any ⟨#[115, 99, 114, 105, 112, 116]⟩ w
theorem three_allocs (w : World) (c0 c1 c2 c3 c4 c5 d0 d1 d2 d3 d4 d5 e0 e1 e2 e3 e4 e5 : Value) :
    Six (((w.alloc (.cells #[c0, c1, c2, c3, c4, c5] 45)).alloc (.cells #[d0, d1, d2, d3, d4, d5] 45)).alloc (.cells #[e0, e1, e2, e3, e4, e5] 45)) w.heap.size 0 c0 c1 c2 c3 c4 c5 ∧
    Six (((w.alloc (.cells #[c0, c1, c2, c3, c4, c5] 45)).alloc (.cells #[d0, d1, d2, d3, d4, d5] 45)).alloc (.cells #[e0, e1, e2, e3, e4, e5] 45)) (w.heap.size + 1) 0 d0 d1 d2 d3 d4 d5 ∧
    Six (((w.alloc (.cells #[c0, c1, c2, c3, c4, c5] 45)).alloc (.cells #[d0, d1, d2, d3, d4, d5] 45)).alloc (.cells #[e0, e1, e2, e3, e4, e5] 45)) (w.heap.size + 1 + 1) 0 e0 e1 e2 e3 e4 e5 ∧
    Below w.heap.size w (((w.alloc (.cells #[c0, c1, c2, c3, c4, c5] 45)).alloc (.cells #[d0, d1, d2, d3, d4, d5] 45)).alloc (.cells #[e0, e1, e2, e3, e4, e5] 45)) := by
  have z1 : (w.alloc (.cells #[c0, c1, c2, c3, c4, c5] 45)).heap.size = w.heap.size + 1 := by simp
  have z2 : ((w.alloc (.cells #[c0, c1, c2, c3, c4, c5] 45)).alloc (.cells #[d0, d1, d2, d3, d4, d5] 45)).heap.size = w.heap.size + 1 + 1 := by simp
  refine ⟨?_, ?_, ?_, ?_⟩
  · exact (six_alloc w c0 c1 c2 c3 c4 c5).below (((Below.refl _ _).alloc (Nat.le_refl _) _).alloc (by simp) _) (Nat.le_refl _)
  · have h := (six_alloc (w.alloc (.cells #[c0, c1, c2, c3, c4, c5] 45)) d0 d1 d2 d3 d4 d5).below ((Below.refl _ _).alloc (Nat.le_refl _) (.cells #[e0, e1, e2, e3, e4, e5] 45)) (Nat.le_refl _)
    rw [z1] at h
    exact h
  · have h := six_alloc ((w.alloc (.cells #[c0, c1, c2, c3, c4, c5] 45)).alloc (.cells #[d0, d1, d2, d3, d4, d5] 45)) e0 e1 e2 e3 e4 e5
    rw [z2] at h
    exact h
  · exact (((Below.refl _ w).alloc (Nat.le_refl _) _).alloc (by omega) _).alloc (by omega) _
set_option maxRecDepth 100000 in
set_option maxHeartbeats 4000000 in
theorem shown18 (w : World) (T : Tabs w) : Calls Tryz.prog 23 #[] w (SomeBool true w) := by
  have HT := Lib.hid T
  clear T
  have V1 := Lib.hid value_v1
  have V2 := Lib.hid value_v2
  have L2 := Lib.hid links_v2
  have S2 := Lib.hid schemes_v2
  unfold v1 sA sHref at V1
  unfold v2 sA sHref at V2
  unfold v2 at L2
  go_enter Tryz.func23, Tryz.ntmps23
  go_wp2_with fail
  refine (V1.out w HT.out).mono ?_
  rintro e W1 ⟨rfl, B1⟩
  have HB1 := Lib.hid B1
  have HT1 := Lib.hid (HT.out.below HB1.out (Nat.le_refl _))
  clear B1
  go_wp2_with fail
  refine (V2.out W1 HT1.out).mono ?_
  rintro e W2 ⟨rfl, B2⟩
  have HB2 := Lib.hid (HB1.out.trans (B2.mono HB1.out.size))
  have HT2 := Lib.hid (HT.out.below HB2.out (Nat.le_refl _))
  clear B2
  go_wp2_with fail
  refine (L2.out W2 HT2.out).mono ?_
  rintro e W3 ⟨rfl, B3⟩
  have HB3 := Lib.hid (HB2.out.trans (B3.mono HB2.out.size))
  have HT3 := Lib.hid (HT.out.below HB3.out (Nat.le_refl _))
  clear B3
  go_wp2_with fail
  refine (S2.out W3 HT3.out).mono ?_
  rintro e W4 ⟨rfl, B4⟩
  have HB4 := Lib.hid (HB3.out.trans (B4.mono HB3.out.size))
  clear B4
  go_wp2_with fail
  obtain ⟨s1, s2, s3, hb⟩ := three_allocs W4 (.int .i64 1) (.int .i64 0) (.string ⟨#[98]⟩) (.slice none 0 0) (.string ⟨#[]⟩) (.slice none 0 0) (.int .i64 1) (.int .i64 0) (.string ⟨#[98]⟩) (.slice none 0 0) (.string ⟨#[]⟩) (.slice none 0 0) (.int .i64 1) (.int .i64 0) (.string ⟨#[98]⟩) (.slice none 0 0) (.string ⟨#[]⟩) (.slice (some ⟨W4.heap.size + 1, 0, none⟩) 1 1)
  obtain ⟨W5, hW5⟩ : ∃ W5, W5 = ((W4.alloc (.cells #[.int .i64 1, .int .i64 0, .string ⟨#[98]⟩, .slice none 0 0, .string ⟨#[]⟩, .slice none 0 0] 45)).alloc (.cells #[.int .i64 1, .int .i64 0, .string ⟨#[98]⟩, .slice none 0 0, .string ⟨#[]⟩, .slice none 0 0] 45)).alloc (.cells #[.int .i64 1, .int .i64 0, .string ⟨#[98]⟩, .slice none 0 0, .string ⟨#[]⟩, .slice (some ⟨W4.heap.size + 1, 0, none⟩) 1 1] 45) := ⟨_, rfl⟩
  rw [← hW5] at s1 s2 s3 hb ⊢
  clear hW5
  have HB5 := Lib.hid (HB4.out.trans (hb.mono HB4.out.size))
  have S1 := Lib.hid s1
  have S2' := Lib.hid s2
  have S3 := Lib.hid s3
  clear s1 s2 s3 hb
  refine (kind_li W5).mono ?_
  rintro e w' ⟨rfl, rfl⟩
  go_wp2_with fail
  refine (kind_script W5).mono ?_
  rintro e w' ⟨rfl, rfl⟩
  go_wp2_with fail
  refine (may_any ⟨#[117, 108]⟩ ⟨#[108, 105]⟩ W5).mono ?_
  have hm : mayL (⟨#[117, 108]⟩ : ByteArray).data.toList (⟨#[108, 105]⟩ : ByteArray).data.toList = true := by decide +kernel
  rw [hm]
  rintro e w' ⟨rfl, rfl⟩
  clear hm
  go_wp2_with fail
  refine (may_any ⟨#[98]⟩ ⟨#[98]⟩ W5).mono ?_
  have hm : mayL (⟨#[98]⟩ : ByteArray).data.toList (⟨#[98]⟩ : ByteArray).data.toList = false := by decide +kernel
  rw [hm]
  rintro e w' ⟨rfl, rfl⟩
  clear hm
  have x0 : W5.cell? ⟨W4.heap.size, 0, none⟩ = some (.int .i64 1) := S1.out.x0
  have x1 : W5.cell? ⟨W4.heap.size, 1, none⟩ = some (.int .i64 0) := S1.out.x1
  have x2 : W5.cell? ⟨W4.heap.size, 2, none⟩ = some (.string ⟨#[98]⟩) := S1.out.x2
  have x3 : W5.cell? ⟨W4.heap.size, 3, none⟩ = some (.slice none 0 0) := S1.out.x3
  have x4 : W5.cell? ⟨W4.heap.size, 4, none⟩ = some (.string ⟨#[]⟩) := S1.out.x4
  have x5 : W5.cell? ⟨W4.heap.size, 5, none⟩ = some (.slice none 0 0) := S1.out.x5
  go_wp2_with fail
  clear x0 x1 x2 x3 x4 x5
  refine (page_one W5.heap.size 0 1 none 0 0 _ (six_alloc W5 (.int .i64 1) (.int .i64 0) (.string ⟨#[98]⟩) (.slice none 0 0) (.string ⟨#[]⟩) (.slice none 0 0))).mono ?_
  rintro e W6 ⟨gh, gm, ga, rfl, P6, B6⟩
  have hb6 : Below W5.heap.size W5 W6 := ((Below.refl _ W5).alloc (Nat.le_refl _) _).trans (B6.mono (by simp))
  have HB6 := Lib.hid (HB5.out.trans (hb6.mono HB5.out.size))
  have S26 := Lib.hid (S2'.out.below hb6 (Nat.le_refl _))
  have S36 := Lib.hid (S3.out.below hb6 (Nat.le_refl _))
  have HP6 := Lib.hid P6
  clear hb6 B6 P6
  go_wp2_with fail
  refine (holds_page gh 0 2 gm 0 1 ga 0 1 W5.heap.size 0 1 none 0 0 true 995 (pageNd leafNd) W6 HP6.out (page_node HP6.out (leaf_node W6)) few_leaf (by omega) (fun W _ => holds_leaf W)).mono ?_
  unfold SomeBool
  rintro e W7 ⟨rfl, B7⟩
  have HB7 := Lib.hid (HB6.out.trans (B7.mono HB6.out.size))
  have S27 := Lib.hid (S26.out.below B7 (Nat.le_refl _))
  have s37 := S36.out.below B7 (Nat.le_refl _)
  have x0 : W7.cell? ⟨W4.heap.size + 1 + 1, 0, none⟩ = some (.int .i64 1) := s37.x0
  have x1 : W7.cell? ⟨W4.heap.size + 1 + 1, 1, none⟩ = some (.int .i64 0) := s37.x1
  have x2 : W7.cell? ⟨W4.heap.size + 1 + 1, 2, none⟩ = some (.string ⟨#[98]⟩) := s37.x2
  have x3 : W7.cell? ⟨W4.heap.size + 1 + 1, 3, none⟩ = some (.slice none 0 0) := s37.x3
  have x4 : W7.cell? ⟨W4.heap.size + 1 + 1, 4, none⟩ = some (.string ⟨#[]⟩) := s37.x4
  have x5 : W7.cell? ⟨W4.heap.size + 1 + 1, 5, none⟩ = some (.slice (some ⟨W4.heap.size + 1, 0, none⟩) 1 1) := s37.x5
  clear B7 s37
  go_wp2_with fail
  clear x0 x1 x2 x3 x4 x5
  refine (page_one W7.heap.size 0 1 (some ⟨W4.heap.size + 1, 0, none⟩) 1 1 _ (six_alloc W7 (.int .i64 1) (.int .i64 0) (.string ⟨#[98]⟩) (.slice none 0 0) (.string ⟨#[]⟩) (.slice (some ⟨W4.heap.size + 1, 0, none⟩) 1 1))).mono ?_
  rintro e W8 ⟨gh2, gm2, ga2, rfl, P8, B8⟩
  have hb8 : Below W7.heap.size W7 W8 := ((Below.refl _ W7).alloc (Nat.le_refl _) _).trans (B8.mono (by simp))
  have HB8 := Lib.hid (HB7.out.trans (hb8.mono HB7.out.size))
  have S28 := Lib.hid (S27.out.below hb8 (Nat.le_refl _))
  have HP8 := Lib.hid P8
  clear hb8 B8 P8
  go_wp2_with fail
  refine (holds_page gh2 0 2 gm2 0 1 ga2 0 1 W7.heap.size 0 1 (some ⟨W4.heap.size + 1, 0, none⟩) 1 1 false 994 (pageNd bbNd) W8 HP8.out (page_node HP8.out (bb_node W8 _ _ _ S28.out)) few_bb (by omega) (fun W hW => holds_bad (W4.heap.size + 1) 0 1 W (S28.out.below hW (Nat.le_refl _)))).mono ?_
  unfold SomeBool
  rintro e W9 ⟨rfl, B9⟩
  have HB9 := Lib.hid (HB8.out.trans (B9.mono HB8.out.size))
  clear B9
  go_wp2
  go_ret
  exact ⟨rfl, HB9.out⟩
end Go.Proofs.YtcfgbdhpcboikaaGreatDoor

namespace Go.Proofs.YtcfgbdhpcboikaaGreatDoor
open Go.RowKit

theorem less_of : ∀ a b : List UInt8, Lib.compareBytes a b < 0 → Op.bytesLess a b = true := by
  intro a
  induction a with
  | nil =>
    intro b h
    cases b with
    | nil => simp [Lib.compareBytes] at h
    | cons d b => rfl
  | cons c a ih =>
    intro b h
    cases b with
    | nil => simp [Lib.compareBytes] at h
    | cons d b =>
      rw [cb_cons] at h
      unfold Op.bytesLess
      by_cases h1 : c.toNat < d.toNat
      · have : decide (c < d) = true := by simp [UInt8.lt_iff_toNat_lt]; omega
        rw [this]; rfl
      · rw [if_neg h1] at h
        by_cases h2 : d.toNat < c.toNat
        · rw [if_pos h2] at h; omega
        · rw [if_neg h2] at h
          have e : c = d := UInt8.toNat_inj.1 (by omega)
          rw [ih b h, e]
          simp
theorem rising_less {r : List AT} (h : Rising r) (q : Nat) (hq : q + 1 < r.length) : Op.bytesLess (r[q]'(by omega)).1.toList (r[q + 1]'hq).1.toList = true := by
  unfold Rising at h
  rw [List.pairwise_iff_getElem] at h
  have := h q (q + 1) (by omega) hq (by omega)
  rw [toList_data, toList_data]
  exact less_of _ _ this
set_option maxRecDepth 100000 in
set_option maxHeartbeats 4000000 in
theorem once_walk (e n s t k : ByteArray) (V : ByteArray → ByteArray → Option ByteArray) (l : List AT) (la : Option Addr) (lc : Nat) (hll : l.length ≤ 1048576) (kd : Nat) (w : World) (HT : Hid (Tabs w)) (HS : Hid (Calls Tryz.prog 23 #[] w (SomeBool true w)))
    (T1 : Hid (∀ W, Tabs W → Calls Tryz.prog 32 #[.string s] W fun e w' => e = .returned (.string t) ∧ Below W.heap.size W w'))
    (K1 : Hid (∀ W, Tabs W → Calls Tryz.prog 34 #[.string s] W fun e w' => e = .returned (.string k) ∧ Below W.heap.size W w'))
    (T2 : Hid (∀ W, Tabs W → Calls Tryz.prog 32 #[.string t] W fun e w' => e = .returned (.string t) ∧ Below W.heap.size W w'))
    (K2 : Hid (∀ W, Tabs W → Calls Tryz.prog 34 #[.string k] W fun e w' => e = .returned (.string k) ∧ Below W.heap.size W w'))
    (T3 : Hid (∀ W, Tabs W → Calls Tryz.prog 32 #[.string k] W fun e w' => e = .returned (.string k) ∧ Below W.heap.size W w'))
    (hkt : k.size ≤ t.size) (_htz : t.size ≤ 4000000)
    (F : Hid (∀ W g cap, BytesAt W g 0 t.data.toList → Calls Tryz.prog 36 #[.slice (some ⟨g, 0, none⟩) t.size cap] W fun e w' => e = .returned (.int .i64 t.size) ∧ W = w'))
    (o : Option ByteArray) (V1 : Hid (∀ W, Tabs W → Calls Tryz.prog 37 #[.string e, .string n, .string s] W fun e w' => e = .returned (valueV o) ∧ Below W.heap.size W w'))
    (V2 : Hid (∀ v, o = some v → ∀ W, Tabs W → Calls Tryz.prog 37 #[.string e, .string n, .string v] W fun e w' => e = .returned (.tuple #[.string v, .bool true]) ∧ Below W.heap.size W w'))
    (KD : Hid (∀ W, Calls Tryz.prog 24 #[.string e] W fun e w' => e = .returned (.int .i64 (kd : Nat)) ∧ W = w')) (hkd : Hid (∀ v, o = some v → 2 ≤ kd))
    (A1 : Hid (∀ W, Tabs W → AttrsV W (.slice la l.length lc) l → Calls Tryz.prog 38 #[.string e, .slice la l.length lc] W (AttrsPost V l W)))
    (A2 : Hid (∀ r W v, AttrsR V l r → Tabs W → AttrsV W v r → Calls Tryz.prog 38 #[.string e, v] W (AttrsPost V r W)))
    (AU : Hid (∀ r r2, AttrsR V l r → AttrsR V r r2 → r2 = r))
    (AL : Hid (∀ r, AttrsR V l r → r.length ≤ l.length))
    (hA : Hid (AttrsV w (.slice la l.length lc) l)) : Calls Tryz.prog 6 #[.string e, .string n, .string s, .slice la l.length lc] w (SomeBool true w) := by
  have e1 : (t.toList == t.toList) = true := by simp
  have e2 : (k.toList == k.toList) = true := by simp
  have e3 : decide ((t.size : Int) < (k.size : Int)) = false := by simp; omega
  have e4 : ((t.size : Int) != (t.size : Int)) = false := by simp
  cases o with
  | none =>
    unfold valueV at V1
    clear V2 hkd
    go_enter Tryz.func6, Tryz.ntmps6
    go_wp2_with fail
    refine HS.out.mono ?_
    unfold SomeBool
    rintro x W1 ⟨rfl, B1⟩
    have HB1 := Lib.hid B1
    have HT1 := Lib.hid (HT.out.below HB1.out (Nat.le_refl _))
    clear B1
    go_wp2_with fail
    refine (T1.out _ HT1.out).mono ?_
    rintro x W2 ⟨rfl, B2⟩
    have HB2 := Lib.hid (HB1.out.trans (B2.mono HB1.out.size))
    have HT2 := Lib.hid (HT.out.below HB2.out (Nat.le_refl _))
    clear B2
    go_wp2_with fail
    refine (K1.out _ HT2.out).mono ?_
    rintro x W3 ⟨rfl, B3⟩
    have HB3 := Lib.hid (HB2.out.trans (B3.mono HB2.out.size))
    have HT3 := Lib.hid (HT.out.below HB3.out (Nat.le_refl _))
    clear B3
    go_wp2_with fail
    refine (T2.out _ HT3.out).mono ?_
    rintro x W4 ⟨rfl, B4⟩
    have HB4 := Lib.hid (HB3.out.trans (B4.mono HB3.out.size))
    have HT4 := Lib.hid (HT.out.below HB4.out (Nat.le_refl _))
    clear B4
    go_wp2_with fail
    refine (K2.out _ HT4.out).mono ?_
    rintro x W5 ⟨rfl, B5⟩
    have HB5 := Lib.hid (HB4.out.trans (B5.mono HB4.out.size))
    have HT5 := Lib.hid (HT.out.below HB5.out (Nat.le_refl _))
    clear B5
    go_wp2_with fail
    refine (T3.out _ HT5.out).mono ?_
    rintro x W6 ⟨rfl, B6⟩
    have HB6 := Lib.hid (HB5.out.trans (B6.mono HB5.out.size))
    clear B6
    obtain ⟨cap, W7, hrun, B7, hby, hcap, hsz⟩ := conv_bytes t W6
    have HB7 := Lib.hid (HB6.out.trans (B7.mono HB6.out.size))
    have HF := Lib.hid (F.out W7 W6.heap.size cap hby)
    clear B7 hby hcap hsz
    go_wp2_with fail
    refine HF.out.mono ?_
    rintro x W8 ⟨rfl, rfl⟩
    have HT7 := Lib.hid (HT.out.below HB7.out (Nat.le_refl _))
    go_wp2_with fail
    refine (V1.out _ HT7.out).mono ?_
    rintro x W8 ⟨rfl, B8⟩
    have HB8 := Lib.hid (HB7.out.trans (B8.mono HB7.out.size))
    have HT8 := Lib.hid (HT.out.below HB8.out (Nat.le_refl _))
    clear B8
    have HA8 := Lib.hid (hA.out.below HB8.out (Nat.le_refl _))
    go_wp2_with fail
    refine (A1.out _ HT8.out HA8.out).mono ?_
    rintro x W10 ⟨va, r, rfl, hR, hO⟩
    have HR := Lib.hid hR
    have HB10 := Lib.hid (HB8.out.trans (hO.bel.mono HB8.out.size))
    have HT10 := Lib.hid (HT.out.below HB10.out (Nat.le_refl _))
    have HV := Lib.hid hO.attrs
    clear hR hO
    obtain ⟨aa, ac, rfl, _⟩ := HV.out
    have hrl := AL.out r HR.out
    go_wp2
    go_loopw [8, 17] (fun rs i wx => rs = .bool false ∧ ∃ j : Nat, i = .int .i64 j ∧ Hid (1 ≤ j ∧ Below W10.heap.size W10 wx)) (fun _ i _ => r.length - (intOf i).toNat)
    case atStart => exact ⟨rfl, 1, rfl, Lib.hid ⟨Nat.le_refl _, Below.refl _ _⟩⟩
    case round =>
      obtain ⟨rfl, j, rfl, hJ⟩ := hrel
      have hj1 := hJ.out.1
      rcases Nat.lt_or_ge j r.length with hlt | hge
      · obtain ⟨q, rfl⟩ : ∃ q, j = q + 1 := ⟨j - 1, by omega⟩
        obtain ⟨g1, o1, c1, hv1, a1, _⟩ := (HV.out.below hJ.out.2 (Nat.le_refl _)).get q (by omega)
        obtain ⟨g2, o2, c2, hv2, b1, _⟩ := (HV.out.below hJ.out.2 (Nat.le_refl _)).get (q + 1) hlt
        simp only [Value.slice.injEq, true_and] at hv1
        obtain ⟨rfl, rfl⟩ := hv1
        simp only [Value.slice.injEq, Option.some.injEq, Addr.mk.injEq, true_and, and_true] at hv2
        obtain ⟨⟨rfl, rfl⟩, rfl⟩ := hv2
        have hless := rising_less HR.out.2 q hlt
        generalize (r[q]'(by omega)).1 = n1 at *
        generalize (r[q + 1]'hlt).1 = n2 at *
        go_wp2_with fail
        go_quiet (fail)
        go_wp2
        refine ⟨⟨rfl, q + 1 + 1, by congr 1, Lib.hid ⟨by omega, ⟨hJ.out.2.os, hJ.out.2.tape, hJ.out.2.output, hJ.out.2.size, hJ.out.2.block⟩⟩⟩, ?_⟩
        simp [intOf]; omega
      · have HB11 := Lib.hid (HB10.out.trans (hJ.out.2.mono HB10.out.size))
        have HT11 := Lib.hid (HT.out.below HB11.out (Nat.le_refl _))
        have HV11 := Lib.hid (HV.out.below hJ.out.2 (Nat.le_refl _))
        go_wp2_with fail
        refine (A2.out r _ _ HR.out HT11.out HV11.out).mono ?_
        rintro x W12 ⟨vb, r2, rfl, hR2, hO2⟩
        obtain rfl := AU.out r r2 HR.out hR2
        have HB12 := Lib.hid (HB11.out.trans (hO2.bel.mono HB11.out.size))
        have HV12 := Lib.hid (HV11.out.below hO2.bel (Nat.le_refl _))
        have HVb := Lib.hid hO2.attrs
        clear hR2 hO2
        go_wp2_with fail
        refine (same_attrs _ _ r2 (by omega) _ HV12 HVb).mono ?_
        rintro x W13 ⟨rfl, B13⟩
        have HB13 := Lib.hid (HB12.out.trans (B13.mono HB12.out.size))
        clear B13
        have hle : decide ((r2.length : Int) ≤ (l.length : Int)) = true := by simp; omega
        go_wp2
        go_ret
        exact ⟨rfl, HB13.out⟩
  | some v =>
    unfold valueV at V1
    have V3 := Lib.hid (V2.out v rfl)
    have hkd2 := hkd.out v rfl
    have e5 : (v.toList == v.toList) = true := by simp
    have e6 : decide ((kd : Int) < 2) = false := by simp; omega
    clear V2 hkd
    go_enter Tryz.func6, Tryz.ntmps6
    go_wp2_with fail
    refine HS.out.mono ?_
    unfold SomeBool
    rintro x W1 ⟨rfl, B1⟩
    have HB1 := Lib.hid B1
    have HT1 := Lib.hid (HT.out.below HB1.out (Nat.le_refl _))
    clear B1
    go_wp2_with fail
    refine (T1.out _ HT1.out).mono ?_
    rintro x W2 ⟨rfl, B2⟩
    have HB2 := Lib.hid (HB1.out.trans (B2.mono HB1.out.size))
    have HT2 := Lib.hid (HT.out.below HB2.out (Nat.le_refl _))
    clear B2
    go_wp2_with fail
    refine (K1.out _ HT2.out).mono ?_
    rintro x W3 ⟨rfl, B3⟩
    have HB3 := Lib.hid (HB2.out.trans (B3.mono HB2.out.size))
    have HT3 := Lib.hid (HT.out.below HB3.out (Nat.le_refl _))
    clear B3
    go_wp2_with fail
    refine (T2.out _ HT3.out).mono ?_
    rintro x W4 ⟨rfl, B4⟩
    have HB4 := Lib.hid (HB3.out.trans (B4.mono HB3.out.size))
    have HT4 := Lib.hid (HT.out.below HB4.out (Nat.le_refl _))
    clear B4
    go_wp2_with fail
    refine (K2.out _ HT4.out).mono ?_
    rintro x W5 ⟨rfl, B5⟩
    have HB5 := Lib.hid (HB4.out.trans (B5.mono HB4.out.size))
    have HT5 := Lib.hid (HT.out.below HB5.out (Nat.le_refl _))
    clear B5
    go_wp2_with fail
    refine (T3.out _ HT5.out).mono ?_
    rintro x W6 ⟨rfl, B6⟩
    have HB6 := Lib.hid (HB5.out.trans (B6.mono HB5.out.size))
    clear B6
    obtain ⟨cap, W7, hrun, B7, hby, hcap, hsz⟩ := conv_bytes t W6
    have HB7 := Lib.hid (HB6.out.trans (B7.mono HB6.out.size))
    have HF := Lib.hid (F.out W7 W6.heap.size cap hby)
    clear B7 hby hcap hsz
    go_wp2_with fail
    refine HF.out.mono ?_
    rintro x W8 ⟨rfl, rfl⟩
    have HT7 := Lib.hid (HT.out.below HB7.out (Nat.le_refl _))
    go_wp2_with fail
    refine (V1.out _ HT7.out).mono ?_
    rintro x W8 ⟨rfl, B8⟩
    have HB8 := Lib.hid (HB7.out.trans (B8.mono HB7.out.size))
    have HT8 := Lib.hid (HT.out.below HB8.out (Nat.le_refl _))
    clear B8
    go_wp2_with fail
    refine (V3.out _ HT8.out).mono ?_
    rintro x W9 ⟨rfl, B9⟩
    have HB9 := Lib.hid (HB8.out.trans (B9.mono HB8.out.size))
    have HT9 := Lib.hid (HT.out.below HB9.out (Nat.le_refl _))
    clear B9
    go_wp2_with fail
    refine (KD.out _).mono ?_
    rintro x W9' ⟨rfl, rfl⟩
    have HA8 := Lib.hid (hA.out.below HB9.out (Nat.le_refl _))
    go_wp2_with fail
    refine (A1.out _ HT9.out HA8.out).mono ?_
    rintro x W10 ⟨va, r, rfl, hR, hO⟩
    have HR := Lib.hid hR
    have HB10 := Lib.hid (HB9.out.trans (hO.bel.mono HB9.out.size))
    have HT10 := Lib.hid (HT.out.below HB10.out (Nat.le_refl _))
    have HV := Lib.hid hO.attrs
    clear hR hO
    obtain ⟨aa, ac, rfl, _⟩ := HV.out
    have hrl := AL.out r HR.out
    go_wp2
    go_loopw [8, 17] (fun rs i wx => rs = .bool false ∧ ∃ j : Nat, i = .int .i64 j ∧ Hid (1 ≤ j ∧ Below W10.heap.size W10 wx)) (fun _ i _ => r.length - (intOf i).toNat)
    case atStart => exact ⟨rfl, 1, rfl, Lib.hid ⟨Nat.le_refl _, Below.refl _ _⟩⟩
    case round =>
      obtain ⟨rfl, j, rfl, hJ⟩ := hrel
      have hj1 := hJ.out.1
      rcases Nat.lt_or_ge j r.length with hlt | hge
      · obtain ⟨q, rfl⟩ : ∃ q, j = q + 1 := ⟨j - 1, by omega⟩
        obtain ⟨g1, o1, c1, hv1, a1, _⟩ := (HV.out.below hJ.out.2 (Nat.le_refl _)).get q (by omega)
        obtain ⟨g2, o2, c2, hv2, b1, _⟩ := (HV.out.below hJ.out.2 (Nat.le_refl _)).get (q + 1) hlt
        simp only [Value.slice.injEq, true_and] at hv1
        obtain ⟨rfl, rfl⟩ := hv1
        simp only [Value.slice.injEq, Option.some.injEq, Addr.mk.injEq, true_and, and_true] at hv2
        obtain ⟨⟨rfl, rfl⟩, rfl⟩ := hv2
        have hless := rising_less HR.out.2 q hlt
        generalize (r[q]'(by omega)).1 = n1 at *
        generalize (r[q + 1]'hlt).1 = n2 at *
        go_wp2_with fail
        go_quiet (fail)
        go_wp2
        refine ⟨⟨rfl, q + 1 + 1, by congr 1, Lib.hid ⟨by omega, ⟨hJ.out.2.os, hJ.out.2.tape, hJ.out.2.output, hJ.out.2.size, hJ.out.2.block⟩⟩⟩, ?_⟩
        simp [intOf]; omega
      · have HB11 := Lib.hid (HB10.out.trans (hJ.out.2.mono HB10.out.size))
        have HT11 := Lib.hid (HT.out.below HB11.out (Nat.le_refl _))
        have HV11 := Lib.hid (HV.out.below hJ.out.2 (Nat.le_refl _))
        go_wp2_with fail
        refine (A2.out r _ _ HR.out HT11.out HV11.out).mono ?_
        rintro x W12 ⟨vb, r2, rfl, hR2, hO2⟩
        obtain rfl := AU.out r r2 HR.out hR2
        have HB12 := Lib.hid (HB11.out.trans (hO2.bel.mono HB11.out.size))
        have HV12 := Lib.hid (HV11.out.below hO2.bel (Nat.le_refl _))
        have HVb := Lib.hid hO2.attrs
        clear hR2 hO2
        go_wp2_with fail
        refine (same_attrs _ _ r2 (by omega) _ HV12 HVb).mono ?_
        rintro x W13 ⟨rfl, B13⟩
        have HB13 := Lib.hid (HB12.out.trans (B13.mono HB12.out.size))
        clear B13
        have hle : decide ((r2.length : Int) ≤ (l.length : Int)) = true := by simp; omega
        go_wp2
        go_ret
        exact ⟨rfl, HB13.out⟩
theorem once_all (e n s : ByteArray) (la : Option Addr) (lc : Nat) (l : List AT) (he : e.size ≤ 1048576) (hn : n.size ≤ 1048576) (hs : s.size ≤ 1048576) (hl : atBk l ≤ 1048576) (w : World) (T : Tabs w) (hA : AttrsV w (.slice la l.length lc) l) :
    Calls Tryz.prog 6 #[.string e, .string n, .string s, .slice la l.length lc] w (SomeBool true w) := by
  have hll := atBk_len l
  have hmem := atBk_mem l
  obtain ⟨V, hV⟩ := valFn w T e (by omega)
  obtain ⟨o, ho⟩ := value_all w T e n s hs
  have ht := textB_size s
  have hk := linkB_size s
  have hkt : (linkB s).size ≤ (textB s).size := (link_sub s.data.toList).length_le
  have htt := textB_idem s
  have hkk := linkB_idem s
  have htk : textB (linkB s) = linkB s := ba_ext (by rw [textB_data, linkB_data, text_link])
  obtain ⟨rs, hrs, hval⟩ := text_plainly s.data.toList
  have attrs : ∀ (m : List AT) (W : World) (v : Value), m.length ≤ 1048576 → (∀ x ∈ m, x.1.size ≤ 1048576 ∧ x.2.size ≤ 1048576) → Tabs W → AttrsV W v m → Calls Tryz.prog 38 #[.string e, v] W (AttrsPost V m W) :=
    fun m W v h1 h2 TW h3 => pattrs_any e (by omega) V (Lib.hid hV.val) m h1 (Lib.hid h2) v W TW (Lib.hid h3)
  have sub : ∀ r, AttrsR V l r → r.length ≤ l.length ∧ ∀ x ∈ r, x.1.size ≤ 1048576 ∧ x.2.size ≤ 1048576 := by
    intro r hr
    have h1 := hr.1.length_eq
    have h2 := attrs_len V l []
    refine ⟨by omega, fun x hx => ?_⟩
    obtain ⟨v, _, h4⟩ := attrs_from V l [] x (hr.1.mem_iff.1 hx)
    exact hV.big _ _ _ (hV.again _ _ _ h4)
  refine once_walk e n s (textB s) (linkB s) V l la lc (by omega) (kindL e.data.toList) w T (shown18 w T) (fun W TW => text_any s (by omega) W TW) (fun W TW => link_any s (by omega) W TW) ?_ ?_ ?_ hkt (by omega) ?_ o
    (fun W TW => value_any e n s o (by omega) (by omega) hs ho W TW) ?_ (fun W => kind_any e W) ?_ ?_ ?_ ?_ (fun r hr => (sub r hr).1) hA
  · intro W TW
    have := text_any (textB s) (by omega) W TW
    rw [show (⟨(textL (textB s).data.toList).toArray⟩ : ByteArray) = textB (textB s) from rfl, htt] at this
    exact this
  · intro W TW
    have := link_any (linkB s) (by omega) W TW
    rw [show (⟨(linkL (linkB s).data.toList).toArray⟩ : ByteArray) = linkB (linkB s) from rfl, hkk] at this
    exact this
  · intro W TW
    have := text_any (linkB s) (by omega) W TW
    rw [show (⟨(textL (linkB s).data.toList).toArray⟩ : ByteArray) = textB (linkB s) from rfl, htk] at this
    exact this
  · intro W g cap hB
    exact fault_plain g 0 cap rs (Lib.hid fun r hr => (hval r hr).1) (textB s).data.toList (Lib.hid hrs) (by show (textB s).size ≤ _; omega) W (Lib.hid hB)
  · intro v hv W TW
    subst hv
    have h1 := value_size ho
    exact value_any e n v (some v) (by omega) (by omega) (by omega) (value_again ho) W TW
  · intro v hv
    subst hv
    have := ho.1
    omega
  · intro W TW hAW
    exact attrs l W _ (by omega) (fun x hx => by have := hmem x hx; omega) TW hAW
  · intro r W v hr TW hAW
    obtain ⟨h1, h2⟩ := sub r hr
    exact attrs r W v (by omega) h2 TW hAW
  · intro r r2 h1 h2
    exact attrs_unique h2 (attrs_again hV.again h1)
end Go.Proofs.YtcfgbdhpcboikaaGreatDoor
