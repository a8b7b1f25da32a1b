/-
  The law's page, around one b.
  The law's shown: true.
  PolicySchemes, for every element, attribute and value of at most a million bytes: the walk.
-/
import Derived.Test.YtcfgbdhpcboikaaGreatDoorHoldF
import Derived.Test.YtcfgbdhpcboikaaGreatDoorTextLawB
import Derived.Test.YtcfgbdhpcboikaaGreatDoorDirW
namespace Go.Proofs.YtcfgbdhpcboikaaGreatDoor
open Go.RowKit

theorem five_allocs (w : World) (o0 o1 o2 o3 o4 : Obj) : ((((((w.alloc o0).alloc o1).alloc o2).alloc o3).alloc o4).heap[w.heap.size + 1]? = some o1) ∧ ((((((w.alloc o0).alloc o1).alloc o2).alloc o3).alloc o4).heap[w.heap.size + 1 + 1 + 1]? = some o3) ∧ ((((((w.alloc o0).alloc o1).alloc o2).alloc o3).alloc o4).heap[w.heap.size + 1 + 1 + 1 + 1]? = some o4) ∧ Below w.heap.size w (((((w.alloc o0).alloc o1).alloc o2).alloc o3).alloc o4) := by
  have e0 : (w.alloc o0).heap.size = w.heap.size + 1 := by simp
  have e1 : ((w.alloc o0).alloc o1).heap.size = w.heap.size + 1 + 1 := by simp
  have e2 : (((w.alloc o0).alloc o1).alloc o2).heap.size = w.heap.size + 1 + 1 + 1 := by simp
  have e3 : ((((w.alloc o0).alloc o1).alloc o2).alloc o3).heap.size = w.heap.size + 1 + 1 + 1 + 1 := by simp
  refine ⟨?_, ?_, ?_, ?_⟩
  · rw [Below.heap_alloc _ _ _ (by omega), Below.heap_alloc _ _ _ (by omega), Below.heap_alloc _ _ _ (by omega), ← e0]
    exact heap_alloc_new _ _
  · rw [Below.heap_alloc _ _ _ (by omega), ← e2]
    exact heap_alloc_new _ _
  · rw [← e3]
    exact heap_alloc_new _ _
  · exact (((((Below.refl _ w).alloc (Nat.le_refl _) _).alloc (by omega) _).alloc (by omega) _).alloc (by omega) _).alloc (by omega) _
def PagePost (w : World) (gb ob cb : Nat) (a' : Option Addr) (n' c' : Nat) (e : Ending) (w' : World) : Prop :=
  ∃ gh gm ga, e = .returned (elV sHtml (some ⟨gh, 0, none⟩) 2 2) ∧ PageAt w' gh 0 gm 0 1 ga 0 1 gb ob cb a' n' c' ∧ Below w.heap.size w w'
set_option maxRecDepth 100000 in
set_option maxHeartbeats 2000000 in
theorem page_one (gb ob cb : Nat) (a' : Option Addr) (n' c' : Nat) (w : World) (hk : Six w gb ob (.int .i64 1) (.int .i64 0) (.string ⟨#[98]⟩) (.slice none 0 0) (.string ⟨#[]⟩) (.slice a' n' c')) :
    Calls Tryz.prog 40 #[.slice (some ⟨gb, ob, none⟩) 1 cb] w (PagePost w gb ob cb a' n' c') := by
  have HK := Lib.hid hk
  clear hk
  go_enter Tryz.func40, Tryz.ntmps40
  go_wp2
  obtain ⟨h1, h3, h4, hb⟩ := five_allocs w (.cells #[.int .i64 1, .int .i64 0, .string ⟨#[104, 116, 109, 108]⟩, .slice none 0 0, .string ⟨#[]⟩, .slice (some ⟨w.heap.size + 1 + 1 + 1 + 1, 0, none⟩) 2 2] 45)
    (.cells #[.string ⟨#[99, 104, 97, 114, 115, 101, 116]⟩, .string ⟨#[117, 116, 102, 45, 56]⟩] 39)
    (.cells #[.int .i64 1, .int .i64 0, .string ⟨#[109, 101, 116, 97]⟩, .slice (some ⟨w.heap.size + 1, 0, none⟩) 1 1, .string ⟨#[]⟩, .slice none 0 0] 45)
    (.cells #[.int .i64 1, .int .i64 0, .string ⟨#[109, 101, 116, 97]⟩, .slice (some ⟨w.heap.size + 1, 0, none⟩) 1 1, .string ⟨#[]⟩, .slice none 0 0] 45)
    (.cells #[.int .i64 1, .int .i64 0, .string ⟨#[104, 101, 97, 100]⟩, .slice none 0 0, .string ⟨#[]⟩, .slice (some ⟨w.heap.size + 1 + 1 + 1, 0, none⟩) 1 1, .int .i64 1, .int .i64 0, .string ⟨#[98, 111, 100, 121]⟩, .slice none 0 0, .string ⟨#[]⟩, .slice (some ⟨gb, ob, none⟩) 1 cb] 45)
  refine bodyPost_ret (v := elV sHtml (some ⟨w.heap.size + 1 + 1 + 1 + 1, 0, none⟩) 2 2) (by unfold elV sHtml; simp [results, Tryz.results40, go_sem]) rfl ⟨w.heap.size + 1 + 1 + 1 + 1, w.heap.size + 1 + 1 + 1, w.heap.size + 1, rfl, ⟨?_, ?_, ?_, ?_, HK.out.below hb (Nat.le_refl _)⟩, hb⟩
  · have h : ∀ j, _ := fun j => cell_of_row _ (w.heap.size + 1 + 1 + 1 + 1) j _ 45 (0, 0) h4
    exact ⟨h 0, h 1, h 2, h 3, h 4, h 5⟩
  · have h : ∀ j, _ := fun j => cell_of_row _ (w.heap.size + 1 + 1 + 1 + 1) j _ 45 (0, 0) h4
    exact ⟨h 6, h 7, h 8, h 9, h 10, h 11⟩
  · have h : ∀ j, _ := fun j => cell_of_row _ (w.heap.size + 1 + 1 + 1) j _ 45 (0, 0) h3
    exact ⟨h 0, h 1, h 2, h 3, h 4, h 5⟩
  · have h : ∀ j, _ := fun j => cell_of_row _ (w.heap.size + 1) j _ 39 (0, 0) h1
    exact ⟨h 0, h 1⟩
end Go.Proofs.YtcfgbdhpcboikaaGreatDoor

namespace Go.Proofs.YtcfgbdhpcboikaaGreatDoor
open Go.RowKit

def sChar : ByteArray := ⟨#[99, 104, 97, 114, 115, 101, 116]⟩
def sUtf : ByteArray := ⟨#[117, 116, 102, 45, 56]⟩
def pageNd (X : Nd) : Nd := .mk 1 0 sHtml [] sMt [.mk 1 0 sHead [] sMt [.mk 1 0 sMeta [(sChar, sUtf)] sMt []], .mk 1 0 sBody [] sMt [X]]
def leafNd : Nd := .mk 1 0 sB [] sMt []
def bbNd : Nd := .mk 1 0 sB [] sMt [leafNd]
theorem attrs_none (w : World) : AttrsV w (.slice none 0 0) [] := ⟨none, 0, rfl, fun j h => absurd h (by simp)⟩
theorem leaf_node (w : World) : NodeV w leafNd (.agg #[.int .i64 1, .int .i64 0, .string ⟨#[98]⟩, .slice none 0 0, .string ⟨#[]⟩, .slice none 0 0]) := by
  unfold leafNd NodeV
  exact ⟨_, none, 0, rfl, by simp, attrs_none w, by unfold KidsV; trivial⟩
theorem bb_node (w : World) (g o c : Nat) (h : Six w g o (.int .i64 1) (.int .i64 0) (.string ⟨#[98]⟩) (.slice none 0 0) (.string ⟨#[]⟩) (.slice none 0 0)) : NodeV w bbNd (.agg #[.int .i64 1, .int .i64 0, .string ⟨#[98]⟩, .slice none 0 0, .string ⟨#[]⟩, .slice (some ⟨g, o, none⟩) 1 c]) := by
  unfold bbNd NodeV
  refine ⟨_, some ⟨g, o, none⟩, c, rfl, by simp, attrs_none w, ?_⟩
  unfold KidsV
  refine ⟨⟨g, o, _, _, _, _, _, _, rfl, h, leaf_node w⟩, ?_⟩
  unfold KidsV
  trivial
theorem page_node {w : World} {gh oh ch gm om cm ga oa ca gb ob cb : Nat} {a' : Option Addr} {n' c' : Nat} {X : Nd} (h : PageAt w gh oh gm om cm ga oa ca gb ob cb a' n' c')
    (hX : NodeV w X (.agg #[.int .i64 1, .int .i64 0, .string ⟨#[98]⟩, .slice none 0 0, .string ⟨#[]⟩, .slice a' n' c'])) : NodeV w (pageNd X) (elV sHtml (some ⟨gh, oh, none⟩) 2 ch) := by
  unfold pageNd NodeV
  refine ⟨_, some ⟨gh, oh, none⟩, ch, rfl, by simp, attrs_none w, ?_⟩
  unfold KidsV
  refine ⟨⟨gh, oh, _, _, _, _, _, _, rfl, h.hd, ?_⟩, ?_⟩
  · unfold NodeV
    refine ⟨_, some ⟨gm, om, none⟩, cm, rfl, by simp, attrs_none w, ?_⟩
    unfold KidsV
    refine ⟨⟨gm, om, _, _, _, _, _, _, rfl, h.mt, ?_⟩, by unfold KidsV; trivial⟩
    unfold NodeV
    refine ⟨_, none, 0, rfl, by simp, ⟨some ⟨ga, oa, none⟩, ca, rfl, ?_⟩, by unfold KidsV; trivial⟩
    intro j hj
    have : j = 0 := by simp at hj; omega
    subst this
    exact ⟨ga, oa, rfl, h.at'.1, h.at'.2⟩
  · unfold KidsV
    refine ⟨⟨gh, oh, _, _, _, _, _, _, rfl, h.bd, ?_⟩, by unfold KidsV; trivial⟩
    unfold NodeV
    refine ⟨_, some ⟨gb, ob, none⟩, cb, rfl, by simp, attrs_none w, ?_⟩
    unfold KidsV
    exact ⟨⟨gb, ob, _, _, _, _, _, _, rfl, h.kid, hX⟩, by unfold KidsV; trivial⟩
theorem few_leaf : fewL 32 (pageNd leafNd) 1000 = 995 := by decide +kernel
theorem few_bb : fewL 32 (pageNd bbNd) 1000 = 994 := by decide +kernel
theorem kind_li : KindAt ⟨#[108, 105]⟩ 8 := fun w => kind_any ⟨#[108, 105]⟩ w
theorem kind_script : KindAt ⟨#[115, 99, 114, 105, 112, 116]⟩ 1 := fun w => kind_any ⟨#[115, 99, 114, 105, 112, 116]⟩ w
theorem three_allocs (w : World) (c0 c1 c2 c3 c4 c5 d0 d1 d2 d3 d4 d5 e0 e1 e2 e3 e4 e5 : Value) :
    Six (((w.alloc (.cells #[c0, c1, c2, c3, c4, c5] 45)).alloc (.cells #[d0, d1, d2, d3, d4, d5] 45)).alloc (.cells #[e0, e1, e2, e3, e4, e5] 45)) w.heap.size 0 c0 c1 c2 c3 c4 c5 ∧
    Six (((w.alloc (.cells #[c0, c1, c2, c3, c4, c5] 45)).alloc (.cells #[d0, d1, d2, d3, d4, d5] 45)).alloc (.cells #[e0, e1, e2, e3, e4, e5] 45)) (w.heap.size + 1) 0 d0 d1 d2 d3 d4 d5 ∧
    Six (((w.alloc (.cells #[c0, c1, c2, c3, c4, c5] 45)).alloc (.cells #[d0, d1, d2, d3, d4, d5] 45)).alloc (.cells #[e0, e1, e2, e3, e4, e5] 45)) (w.heap.size + 1 + 1) 0 e0 e1 e2 e3 e4 e5 ∧
    Below w.heap.size w (((w.alloc (.cells #[c0, c1, c2, c3, c4, c5] 45)).alloc (.cells #[d0, d1, d2, d3, d4, d5] 45)).alloc (.cells #[e0, e1, e2, e3, e4, e5] 45)) := by
  have z1 : (w.alloc (.cells #[c0, c1, c2, c3, c4, c5] 45)).heap.size = w.heap.size + 1 := by simp
  have z2 : ((w.alloc (.cells #[c0, c1, c2, c3, c4, c5] 45)).alloc (.cells #[d0, d1, d2, d3, d4, d5] 45)).heap.size = w.heap.size + 1 + 1 := by simp
  refine ⟨?_, ?_, ?_, ?_⟩
  · exact (six_alloc w c0 c1 c2 c3 c4 c5).below (((Below.refl _ _).alloc (Nat.le_refl _) _).alloc (by simp) _) (Nat.le_refl _)
  · have h := (six_alloc (w.alloc (.cells #[c0, c1, c2, c3, c4, c5] 45)) d0 d1 d2 d3 d4 d5).below ((Below.refl _ _).alloc (Nat.le_refl _) (.cells #[e0, e1, e2, e3, e4, e5] 45)) (Nat.le_refl _)
    rw [z1] at h
    exact h
  · have h := six_alloc ((w.alloc (.cells #[c0, c1, c2, c3, c4, c5] 45)).alloc (.cells #[d0, d1, d2, d3, d4, d5] 45)) e0 e1 e2 e3 e4 e5
    rw [z2] at h
    exact h
  · exact (((Below.refl _ w).alloc (Nat.le_refl _) _).alloc (by omega) _).alloc (by omega) _
set_option maxRecDepth 100000 in
set_option maxHeartbeats 4000000 in
theorem shown18 (w : World) (T : Tabs w) : Calls Tryz.prog 23 #[] w (SomeBool true w) := by
  have HT := Lib.hid T
  clear T
  have V1 := Lib.hid value_v1
  have V2 := Lib.hid value_v2
  have L2 := Lib.hid links_v2
  have S2 := Lib.hid schemes_v2
  unfold v1 sA sHref at V1
  unfold v2 sA sHref at V2
  unfold v2 at L2
  go_enter Tryz.func23, Tryz.ntmps23
  go_wp2_with fail
  refine (V1.out w HT.out).mono ?_
  rintro e W1 ⟨rfl, B1⟩
  have HB1 := Lib.hid B1
  have HT1 := Lib.hid (HT.out.below HB1.out (Nat.le_refl _))
  clear B1
  go_wp2_with fail
  refine (V2.out W1 HT1.out).mono ?_
  rintro e W2 ⟨rfl, B2⟩
  have HB2 := Lib.hid (HB1.out.trans (B2.mono HB1.out.size))
  have HT2 := Lib.hid (HT.out.below HB2.out (Nat.le_refl _))
  clear B2
  go_wp2_with fail
  refine (L2.out W2 HT2.out).mono ?_
  rintro e W3 ⟨rfl, B3⟩
  have HB3 := Lib.hid (HB2.out.trans (B3.mono HB2.out.size))
  have HT3 := Lib.hid (HT.out.below HB3.out (Nat.le_refl _))
  clear B3
  go_wp2_with fail
  refine (S2.out W3 HT3.out).mono ?_
  rintro e W4 ⟨rfl, B4⟩
  have HB4 := Lib.hid (HB3.out.trans (B4.mono HB3.out.size))
  clear B4
  go_wp2_with fail
  obtain ⟨s1, s2, s3, hb⟩ := three_allocs W4 (.int .i64 1) (.int .i64 0) (.string ⟨#[98]⟩) (.slice none 0 0) (.string ⟨#[]⟩) (.slice none 0 0) (.int .i64 1) (.int .i64 0) (.string ⟨#[98]⟩) (.slice none 0 0) (.string ⟨#[]⟩) (.slice none 0 0) (.int .i64 1) (.int .i64 0) (.string ⟨#[98]⟩) (.slice none 0 0) (.string ⟨#[]⟩) (.slice (some ⟨W4.heap.size + 1, 0, none⟩) 1 1)
  obtain ⟨W5, hW5⟩ : ∃ W5, W5 = ((W4.alloc (.cells #[.int .i64 1, .int .i64 0, .string ⟨#[98]⟩, .slice none 0 0, .string ⟨#[]⟩, .slice none 0 0] 45)).alloc (.cells #[.int .i64 1, .int .i64 0, .string ⟨#[98]⟩, .slice none 0 0, .string ⟨#[]⟩, .slice none 0 0] 45)).alloc (.cells #[.int .i64 1, .int .i64 0, .string ⟨#[98]⟩, .slice none 0 0, .string ⟨#[]⟩, .slice (some ⟨W4.heap.size + 1, 0, none⟩) 1 1] 45) := ⟨_, rfl⟩
  rw [← hW5] at s1 s2 s3 hb ⊢
  clear hW5
  have HB5 := Lib.hid (HB4.out.trans (hb.mono HB4.out.size))
  have S1 := Lib.hid s1
  have S2' := Lib.hid s2
  have S3 := Lib.hid s3
  clear s1 s2 s3 hb
  refine (kind_li W5).mono ?_
  rintro e w' ⟨rfl, rfl⟩
  go_wp2_with fail
  refine (kind_script W5).mono ?_
  rintro e w' ⟨rfl, rfl⟩
  go_wp2_with fail
  refine (may_any ⟨#[117, 108]⟩ ⟨#[108, 105]⟩ W5).mono ?_
  have hm : mayL (⟨#[117, 108]⟩ : ByteArray).data.toList (⟨#[108, 105]⟩ : ByteArray).data.toList = true := by decide +kernel
  rw [hm]
  rintro e w' ⟨rfl, rfl⟩
  clear hm
  go_wp2_with fail
  refine (may_any ⟨#[98]⟩ ⟨#[98]⟩ W5).mono ?_
  have hm : mayL (⟨#[98]⟩ : ByteArray).data.toList (⟨#[98]⟩ : ByteArray).data.toList = false := by decide +kernel
  rw [hm]
  rintro e w' ⟨rfl, rfl⟩
  clear hm
  have x0 : W5.cell? ⟨W4.heap.size, 0, none⟩ = some (.int .i64 1) := S1.out.x0
  have x1 : W5.cell? ⟨W4.heap.size, 1, none⟩ = some (.int .i64 0) := S1.out.x1
  have x2 : W5.cell? ⟨W4.heap.size, 2, none⟩ = some (.string ⟨#[98]⟩) := S1.out.x2
  have x3 : W5.cell? ⟨W4.heap.size, 3, none⟩ = some (.slice none 0 0) := S1.out.x3
  have x4 : W5.cell? ⟨W4.heap.size, 4, none⟩ = some (.string ⟨#[]⟩) := S1.out.x4
  have x5 : W5.cell? ⟨W4.heap.size, 5, none⟩ = some (.slice none 0 0) := S1.out.x5
  go_wp2_with fail
  clear x0 x1 x2 x3 x4 x5
  refine (page_one W5.heap.size 0 1 none 0 0 _ (six_alloc W5 (.int .i64 1) (.int .i64 0) (.string ⟨#[98]⟩) (.slice none 0 0) (.string ⟨#[]⟩) (.slice none 0 0))).mono ?_
  rintro e W6 ⟨gh, gm, ga, rfl, P6, B6⟩
  have hb6 : Below W5.heap.size W5 W6 := ((Below.refl _ W5).alloc (Nat.le_refl _) _).trans (B6.mono (by simp))
  have HB6 := Lib.hid (HB5.out.trans (hb6.mono HB5.out.size))
  have S26 := Lib.hid (S2'.out.below hb6 (Nat.le_refl _))
  have S36 := Lib.hid (S3.out.below hb6 (Nat.le_refl _))
  have HP6 := Lib.hid P6
  clear hb6 B6 P6
  go_wp2_with fail
  refine (holds_page gh 0 2 gm 0 1 ga 0 1 W5.heap.size 0 1 none 0 0 true 995 (pageNd leafNd) W6 HP6.out (page_node HP6.out (leaf_node W6)) few_leaf (by omega) (fun W _ => holds_leaf W)).mono ?_
  unfold SomeBool
  rintro e W7 ⟨rfl, B7⟩
  have HB7 := Lib.hid (HB6.out.trans (B7.mono HB6.out.size))
  have S27 := Lib.hid (S26.out.below B7 (Nat.le_refl _))
  have s37 := S36.out.below B7 (Nat.le_refl _)
  have x0 : W7.cell? ⟨W4.heap.size + 1 + 1, 0, none⟩ = some (.int .i64 1) := s37.x0
  have x1 : W7.cell? ⟨W4.heap.size + 1 + 1, 1, none⟩ = some (.int .i64 0) := s37.x1
  have x2 : W7.cell? ⟨W4.heap.size + 1 + 1, 2, none⟩ = some (.string ⟨#[98]⟩) := s37.x2
  have x3 : W7.cell? ⟨W4.heap.size + 1 + 1, 3, none⟩ = some (.slice none 0 0) := s37.x3
  have x4 : W7.cell? ⟨W4.heap.size + 1 + 1, 4, none⟩ = some (.string ⟨#[]⟩) := s37.x4
  have x5 : W7.cell? ⟨W4.heap.size + 1 + 1, 5, none⟩ = some (.slice (some ⟨W4.heap.size + 1, 0, none⟩) 1 1) := s37.x5
  clear B7 s37
  go_wp2_with fail
  clear x0 x1 x2 x3 x4 x5
  refine (page_one W7.heap.size 0 1 (some ⟨W4.heap.size + 1, 0, none⟩) 1 1 _ (six_alloc W7 (.int .i64 1) (.int .i64 0) (.string ⟨#[98]⟩) (.slice none 0 0) (.string ⟨#[]⟩) (.slice (some ⟨W4.heap.size + 1, 0, none⟩) 1 1))).mono ?_
  rintro e W8 ⟨gh2, gm2, ga2, rfl, P8, B8⟩
  have hb8 : Below W7.heap.size W7 W8 := ((Below.refl _ W7).alloc (Nat.le_refl _) _).trans (B8.mono (by simp))
  have HB8 := Lib.hid (HB7.out.trans (hb8.mono HB7.out.size))
  have S28 := Lib.hid (S27.out.below hb8 (Nat.le_refl _))
  have HP8 := Lib.hid P8
  clear hb8 B8 P8
  go_wp2_with fail
  refine (holds_page gh2 0 2 gm2 0 1 ga2 0 1 W7.heap.size 0 1 (some ⟨W4.heap.size + 1, 0, none⟩) 1 1 false 994 (pageNd bbNd) W8 HP8.out (page_node HP8.out (bb_node W8 _ _ _ S28.out)) few_bb (by omega) (fun W hW => holds_bad (W4.heap.size + 1) 0 1 W (S28.out.below hW (Nat.le_refl _)))).mono ?_
  unfold SomeBool
  rintro e W9 ⟨rfl, B9⟩
  have HB9 := Lib.hid (HB8.out.trans (B9.mono HB8.out.size))
  clear B9
  go_wp2
  go_ret
  exact ⟨rfl, HB9.out⟩
end Go.Proofs.YtcfgbdhpcboikaaGreatDoor

namespace Go.Proofs.YtcfgbdhpcboikaaGreatDoor
open Go.RowKit

set_option maxRecDepth 100000 in
set_option maxHeartbeats 1000000 in
theorem sch_none (e n v : ByteArray) (w : World) (HT : Hid (Tabs w)) (HS : Hid (Calls Tryz.prog 23 #[] w (SomeBool true w)))
    (V1 : Hid (∀ W, Tabs W → Calls Tryz.prog 37 #[.string e, .string n, .string v] W fun e w' => e = .returned (.tuple #[.string ⟨#[]⟩, .bool false]) ∧ Below W.heap.size W w')) :
    Calls Tryz.prog 7 #[.string e, .string n, .string v] w (SomeBool true w) := by
  go_enter Tryz.func7, Tryz.ntmps7
  go_wp2_with fail
  refine HS.out.mono ?_
  unfold SomeBool
  rintro e W1 ⟨rfl, B1⟩
  have HB1 := Lib.hid B1
  have HT1 := Lib.hid (HT.out.below HB1.out (Nat.le_refl _))
  clear B1
  go_wp2_with fail
  refine (V1.out _ HT1.out).mono ?_
  rintro e W2 ⟨rfl, B2⟩
  have HB2 := Lib.hid (HB1.out.trans (B2.mono HB1.out.size))
  clear B2
  go_wp2
  go_ret
  exact ⟨rfl, HB2.out⟩
set_option maxRecDepth 100000 in
set_option maxHeartbeats 1000000 in
theorem sch_title (e v t : ByteArray) (w : World) (HT : Hid (Tabs w)) (HS : Hid (Calls Tryz.prog 23 #[] w (SomeBool true w)))
    (V1 : Hid (∀ W, Tabs W → Calls Tryz.prog 37 #[.string e, .string sTitle, .string v] W fun e w' => e = .returned (.tuple #[.string t, .bool true]) ∧ Below W.heap.size W w')) :
    Calls Tryz.prog 7 #[.string e, .string sTitle, .string v] w (SomeBool true w) := by
  unfold sTitle at *
  go_enter Tryz.func7, Tryz.ntmps7
  go_wp2_with fail
  refine HS.out.mono ?_
  unfold SomeBool
  rintro e W1 ⟨rfl, B1⟩
  have HB1 := Lib.hid B1
  have HT1 := Lib.hid (HT.out.below HB1.out (Nat.le_refl _))
  clear B1
  go_wp2_with fail
  refine (V1.out _ HT1.out).mono ?_
  rintro e W2 ⟨rfl, B2⟩
  have HB2 := Lib.hid (HB1.out.trans (B2.mono HB1.out.size))
  have HT2 := Lib.hid (HT.out.below HB2.out (Nat.le_refl _))
  clear B2
  go_wp2
  go_ret
  exact ⟨rfl, HB2.out⟩
set_option maxRecDepth 100000 in
set_option maxHeartbeats 1000000 in
theorem sch_alt (e v t : ByteArray) (w : World) (HT : Hid (Tabs w)) (HS : Hid (Calls Tryz.prog 23 #[] w (SomeBool true w)))
    (V1 : Hid (∀ W, Tabs W → Calls Tryz.prog 37 #[.string e, .string sAlt, .string v] W fun e w' => e = .returned (.tuple #[.string t, .bool true]) ∧ Below W.heap.size W w')) :
    Calls Tryz.prog 7 #[.string e, .string sAlt, .string v] w (SomeBool true w) := by
  unfold sAlt at *
  go_enter Tryz.func7, Tryz.ntmps7
  go_wp2_with fail
  refine HS.out.mono ?_
  unfold SomeBool
  rintro e W1 ⟨rfl, B1⟩
  have HB1 := Lib.hid B1
  have HT1 := Lib.hid (HT.out.below HB1.out (Nat.le_refl _))
  clear B1
  go_wp2_with fail
  refine (V1.out _ HT1.out).mono ?_
  rintro e W2 ⟨rfl, B2⟩
  have HB2 := Lib.hid (HB1.out.trans (B2.mono HB1.out.size))
  have HT2 := Lib.hid (HT.out.below HB2.out (Nat.le_refl _))
  clear B2
  go_wp2
  go_ret
  exact ⟨rfl, HB2.out⟩
set_option maxRecDepth 100000 in
set_option maxHeartbeats 1000000 in
theorem sch_bare (e n v t l s : ByteArray) (h1 : (n.toList == [116, 105, 116, 108, 101]) = false) (h2 : (n.toList == [97, 108, 116]) = false) (w : World) (HT : Hid (Tabs w)) (HS : Hid (Calls Tryz.prog 23 #[] w (SomeBool true w)))
    (V1 : Hid (∀ W, Tabs W → Calls Tryz.prog 37 #[.string e, .string n, .string v] W fun e w' => e = .returned (.tuple #[.string t, .bool true]) ∧ Below W.heap.size W w'))
    (L1 : Hid (∀ W, Tabs W → Calls Tryz.prog 34 #[.string t] W fun e w' => e = .returned (.string l) ∧ Below W.heap.size W w'))
    (S1 : Hid (∀ W, Tabs W → Calls Tryz.prog 30 #[.string l] W fun e w' => e = .returned (.tuple #[.string s, .bool false]) ∧ Below W.heap.size W w')) :
    Calls Tryz.prog 7 #[.string e, .string n, .string v] w (SomeBool true w) := by
  go_enter Tryz.func7, Tryz.ntmps7
  go_wp2_with fail
  refine HS.out.mono ?_
  unfold SomeBool
  rintro e W1 ⟨rfl, B1⟩
  have HB1 := Lib.hid B1
  have HT1 := Lib.hid (HT.out.below HB1.out (Nat.le_refl _))
  clear B1
  go_wp2_with fail
  refine (V1.out _ HT1.out).mono ?_
  rintro e W2 ⟨rfl, B2⟩
  have HB2 := Lib.hid (HB1.out.trans (B2.mono HB1.out.size))
  have HT2 := Lib.hid (HT.out.below HB2.out (Nat.le_refl _))
  clear B2
  go_wp2_with fail
  refine (L1.out _ HT2.out).mono ?_
  rintro e W3 ⟨rfl, B3⟩
  have HB3 := Lib.hid (HB2.out.trans (B3.mono HB2.out.size))
  have HT3 := Lib.hid (HT.out.below HB3.out (Nat.le_refl _))
  clear B3
  go_wp2_with fail
  refine (S1.out _ HT3.out).mono ?_
  rintro e W4 ⟨rfl, B4⟩
  have HB4 := Lib.hid (HB3.out.trans (B4.mono HB3.out.size))
  clear B4
  go_wp2
  go_ret
  exact ⟨rfl, HB4.out⟩
set_option maxRecDepth 100000 in
set_option maxHeartbeats 1000000 in
theorem sch_0 (v t l : ByteArray) (w : World) (HT : Hid (Tabs w)) (HS : Hid (Calls Tryz.prog 23 #[] w (SomeBool true w)))
    (V1 : Hid (∀ W, Tabs W → Calls Tryz.prog 37 #[.string sA, .string sHref, .string v] W fun e w' => e = .returned (.tuple #[.string t, .bool true]) ∧ Below W.heap.size W w'))
    (L1 : Hid (∀ W, Tabs W → Calls Tryz.prog 34 #[.string t] W fun e w' => e = .returned (.string l) ∧ Below W.heap.size W w'))
    (S1 : Hid (∀ W, Tabs W → Calls Tryz.prog 30 #[.string l] W fun e w' => e = .returned (.tuple #[.string sHttp, .bool true]) ∧ Below W.heap.size W w')) :
    Calls Tryz.prog 7 #[.string sA, .string sHref, .string v] w (SomeBool true w) := by
  unfold sA sHref sHttp at *
  go_enter Tryz.func7, Tryz.ntmps7
  go_wp2_with fail
  refine HS.out.mono ?_
  unfold SomeBool
  rintro e W1 ⟨rfl, B1⟩
  have HB1 := Lib.hid B1
  have HT1 := Lib.hid (HT.out.below HB1.out (Nat.le_refl _))
  clear B1
  go_wp2_with fail
  refine (V1.out _ HT1.out).mono ?_
  rintro e W2 ⟨rfl, B2⟩
  have HB2 := Lib.hid (HB1.out.trans (B2.mono HB1.out.size))
  have HT2 := Lib.hid (HT.out.below HB2.out (Nat.le_refl _))
  clear B2
  go_wp2_with fail
  refine (L1.out _ HT2.out).mono ?_
  rintro e W3 ⟨rfl, B3⟩
  have HB3 := Lib.hid (HB2.out.trans (B3.mono HB2.out.size))
  have HT3 := Lib.hid (HT.out.below HB3.out (Nat.le_refl _))
  clear B3
  go_wp2_with fail
  refine (S1.out _ HT3.out).mono ?_
  rintro e W4 ⟨rfl, B4⟩
  have HB4 := Lib.hid (HB3.out.trans (B4.mono HB3.out.size))
  clear B4
  go_wp2
  go_ret
  exact ⟨rfl, HB4.out⟩
set_option maxRecDepth 100000 in
set_option maxHeartbeats 1000000 in
theorem sch_1 (v t l : ByteArray) (w : World) (HT : Hid (Tabs w)) (HS : Hid (Calls Tryz.prog 23 #[] w (SomeBool true w)))
    (V1 : Hid (∀ W, Tabs W → Calls Tryz.prog 37 #[.string sA, .string sHref, .string v] W fun e w' => e = .returned (.tuple #[.string t, .bool true]) ∧ Below W.heap.size W w'))
    (L1 : Hid (∀ W, Tabs W → Calls Tryz.prog 34 #[.string t] W fun e w' => e = .returned (.string l) ∧ Below W.heap.size W w'))
    (S1 : Hid (∀ W, Tabs W → Calls Tryz.prog 30 #[.string l] W fun e w' => e = .returned (.tuple #[.string sHttps, .bool true]) ∧ Below W.heap.size W w')) :
    Calls Tryz.prog 7 #[.string sA, .string sHref, .string v] w (SomeBool true w) := by
  unfold sA sHref sHttps at *
  go_enter Tryz.func7, Tryz.ntmps7
  go_wp2_with fail
  refine HS.out.mono ?_
  unfold SomeBool
  rintro e W1 ⟨rfl, B1⟩
  have HB1 := Lib.hid B1
  have HT1 := Lib.hid (HT.out.below HB1.out (Nat.le_refl _))
  clear B1
  go_wp2_with fail
  refine (V1.out _ HT1.out).mono ?_
  rintro e W2 ⟨rfl, B2⟩
  have HB2 := Lib.hid (HB1.out.trans (B2.mono HB1.out.size))
  have HT2 := Lib.hid (HT.out.below HB2.out (Nat.le_refl _))
  clear B2
  go_wp2_with fail
  refine (L1.out _ HT2.out).mono ?_
  rintro e W3 ⟨rfl, B3⟩
  have HB3 := Lib.hid (HB2.out.trans (B3.mono HB2.out.size))
  have HT3 := Lib.hid (HT.out.below HB3.out (Nat.le_refl _))
  clear B3
  go_wp2_with fail
  refine (S1.out _ HT3.out).mono ?_
  rintro e W4 ⟨rfl, B4⟩
  have HB4 := Lib.hid (HB3.out.trans (B4.mono HB3.out.size))
  clear B4
  go_wp2
  go_ret
  exact ⟨rfl, HB4.out⟩
set_option maxRecDepth 100000 in
set_option maxHeartbeats 1000000 in
theorem sch_2 (v t l : ByteArray) (w : World) (HT : Hid (Tabs w)) (HS : Hid (Calls Tryz.prog 23 #[] w (SomeBool true w)))
    (V1 : Hid (∀ W, Tabs W → Calls Tryz.prog 37 #[.string sA, .string sHref, .string v] W fun e w' => e = .returned (.tuple #[.string t, .bool true]) ∧ Below W.heap.size W w'))
    (L1 : Hid (∀ W, Tabs W → Calls Tryz.prog 34 #[.string t] W fun e w' => e = .returned (.string l) ∧ Below W.heap.size W w'))
    (S1 : Hid (∀ W, Tabs W → Calls Tryz.prog 30 #[.string l] W fun e w' => e = .returned (.tuple #[.string sMailto, .bool true]) ∧ Below W.heap.size W w')) :
    Calls Tryz.prog 7 #[.string sA, .string sHref, .string v] w (SomeBool true w) := by
  unfold sA sHref sMailto at *
  go_enter Tryz.func7, Tryz.ntmps7
  go_wp2_with fail
  refine HS.out.mono ?_
  unfold SomeBool
  rintro e W1 ⟨rfl, B1⟩
  have HB1 := Lib.hid B1
  have HT1 := Lib.hid (HT.out.below HB1.out (Nat.le_refl _))
  clear B1
  go_wp2_with fail
  refine (V1.out _ HT1.out).mono ?_
  rintro e W2 ⟨rfl, B2⟩
  have HB2 := Lib.hid (HB1.out.trans (B2.mono HB1.out.size))
  have HT2 := Lib.hid (HT.out.below HB2.out (Nat.le_refl _))
  clear B2
  go_wp2_with fail
  refine (L1.out _ HT2.out).mono ?_
  rintro e W3 ⟨rfl, B3⟩
  have HB3 := Lib.hid (HB2.out.trans (B3.mono HB2.out.size))
  have HT3 := Lib.hid (HT.out.below HB3.out (Nat.le_refl _))
  clear B3
  go_wp2_with fail
  refine (S1.out _ HT3.out).mono ?_
  rintro e W4 ⟨rfl, B4⟩
  have HB4 := Lib.hid (HB3.out.trans (B4.mono HB3.out.size))
  clear B4
  go_wp2
  go_ret
  exact ⟨rfl, HB4.out⟩
set_option maxRecDepth 100000 in
set_option maxHeartbeats 1000000 in
theorem sch_3 (v t l : ByteArray) (w : World) (HT : Hid (Tabs w)) (HS : Hid (Calls Tryz.prog 23 #[] w (SomeBool true w)))
    (V1 : Hid (∀ W, Tabs W → Calls Tryz.prog 37 #[.string sImg, .string sSrc, .string v] W fun e w' => e = .returned (.tuple #[.string t, .bool true]) ∧ Below W.heap.size W w'))
    (L1 : Hid (∀ W, Tabs W → Calls Tryz.prog 34 #[.string t] W fun e w' => e = .returned (.string l) ∧ Below W.heap.size W w'))
    (S1 : Hid (∀ W, Tabs W → Calls Tryz.prog 30 #[.string l] W fun e w' => e = .returned (.tuple #[.string sHttp, .bool true]) ∧ Below W.heap.size W w')) :
    Calls Tryz.prog 7 #[.string sImg, .string sSrc, .string v] w (SomeBool true w) := by
  unfold sImg sSrc sHttp at *
  go_enter Tryz.func7, Tryz.ntmps7
  go_wp2_with fail
  refine HS.out.mono ?_
  unfold SomeBool
  rintro e W1 ⟨rfl, B1⟩
  have HB1 := Lib.hid B1
  have HT1 := Lib.hid (HT.out.below HB1.out (Nat.le_refl _))
  clear B1
  go_wp2_with fail
  refine (V1.out _ HT1.out).mono ?_
  rintro e W2 ⟨rfl, B2⟩
  have HB2 := Lib.hid (HB1.out.trans (B2.mono HB1.out.size))
  have HT2 := Lib.hid (HT.out.below HB2.out (Nat.le_refl _))
  clear B2
  go_wp2_with fail
  refine (L1.out _ HT2.out).mono ?_
  rintro e W3 ⟨rfl, B3⟩
  have HB3 := Lib.hid (HB2.out.trans (B3.mono HB2.out.size))
  have HT3 := Lib.hid (HT.out.below HB3.out (Nat.le_refl _))
  clear B3
  go_wp2_with fail
  refine (S1.out _ HT3.out).mono ?_
  rintro e W4 ⟨rfl, B4⟩
  have HB4 := Lib.hid (HB3.out.trans (B4.mono HB3.out.size))
  clear B4
  go_wp2
  go_ret
  exact ⟨rfl, HB4.out⟩
set_option maxRecDepth 100000 in
set_option maxHeartbeats 1000000 in
theorem sch_4 (v t l : ByteArray) (w : World) (HT : Hid (Tabs w)) (HS : Hid (Calls Tryz.prog 23 #[] w (SomeBool true w)))
    (V1 : Hid (∀ W, Tabs W → Calls Tryz.prog 37 #[.string sImg, .string sSrc, .string v] W fun e w' => e = .returned (.tuple #[.string t, .bool true]) ∧ Below W.heap.size W w'))
    (L1 : Hid (∀ W, Tabs W → Calls Tryz.prog 34 #[.string t] W fun e w' => e = .returned (.string l) ∧ Below W.heap.size W w'))
    (S1 : Hid (∀ W, Tabs W → Calls Tryz.prog 30 #[.string l] W fun e w' => e = .returned (.tuple #[.string sHttps, .bool true]) ∧ Below W.heap.size W w')) :
    Calls Tryz.prog 7 #[.string sImg, .string sSrc, .string v] w (SomeBool true w) := by
  unfold sImg sSrc sHttps at *
  go_enter Tryz.func7, Tryz.ntmps7
  go_wp2_with fail
  refine HS.out.mono ?_
  unfold SomeBool
  rintro e W1 ⟨rfl, B1⟩
  have HB1 := Lib.hid B1
  have HT1 := Lib.hid (HT.out.below HB1.out (Nat.le_refl _))
  clear B1
  go_wp2_with fail
  refine (V1.out _ HT1.out).mono ?_
  rintro e W2 ⟨rfl, B2⟩
  have HB2 := Lib.hid (HB1.out.trans (B2.mono HB1.out.size))
  have HT2 := Lib.hid (HT.out.below HB2.out (Nat.le_refl _))
  clear B2
  go_wp2_with fail
  refine (L1.out _ HT2.out).mono ?_
  rintro e W3 ⟨rfl, B3⟩
  have HB3 := Lib.hid (HB2.out.trans (B3.mono HB2.out.size))
  have HT3 := Lib.hid (HT.out.below HB3.out (Nat.le_refl _))
  clear B3
  go_wp2_with fail
  refine (S1.out _ HT3.out).mono ?_
  rintro e W4 ⟨rfl, B4⟩
  have HB4 := Lib.hid (HB3.out.trans (B4.mono HB3.out.size))
  clear B4
  go_wp2
  go_ret
  exact ⟨rfl, HB4.out⟩
theorem schemes_all (e n v : ByteArray) (he : e.size ≤ 1048576) (hn : n.size ≤ 1048576) (hs : v.size ≤ 1048576) (w : World) (T : Tabs w) : Calls Tryz.prog 7 #[.string e, .string n, .string v] w (SomeBool true w) := by
  have HS := Lib.hid (shown18 w T)
  obtain ⟨o, ho⟩ := value_all w T e n v hs
  have V1 := fun W TW => value_any e n v o (by omega) (by omega) hs ho W TW
  cases o with
  | none => exact sch_none e n v w T HS V1
  | some t =>
    by_cases h1 : n = sTitle
    · subst h1; exact sch_title e v t w T HS V1
    by_cases h2 : n = sAlt
    · subst h2; exact sch_alt e v t w T HS V1
    have ht := value_size ho
    have L1 := fun W TW => link_any t (by omega) W TW
    have hl := link_size t.data.toList
    have htl : t.data.toList.length = t.size := rfl
    have S1 := fun W TW => scheme_any ⟨(linkL t.data.toList).toArray⟩ (by rw [bytes_size]; omega) W TW
    cases hsc : schemeL (linkL t.data.toList) with
    | none =>
      have hv : schemeV (⟨(linkL t.data.toList).toArray⟩ : ByteArray).data.toList = .tuple #[.string ⟨#[]⟩, .bool false] := schemeV_none hsc
      rw [hv] at S1
      exact sch_bare e n v t _ _ (dir_neL _ h1 rfl) (dir_neL _ h2 rfl) w T HS V1 L1 S1
    | some s =>
      have hv : schemeV (⟨(linkL t.data.toList).toArray⟩ : ByteArray).data.toList = .tuple #[.string ⟨s.toArray⟩, .bool true] := schemeV_some hsc
      rw [hv] at S1
      rcases value_scheme ho h1 h2 hsc with ⟨rfl, rfl, h | h | h⟩ | ⟨rfl, rfl, h | h⟩ <;> rw [h] at S1
      · exact sch_0 v t _ w T HS V1 L1 S1
      · exact sch_1 v t _ w T HS V1 L1 S1
      · exact sch_2 v t _ w T HS V1 L1 S1
      · exact sch_3 v t _ w T HS V1 L1 S1
      · exact sch_4 v t _ w T HS V1 L1 S1
end Go.Proofs.YtcfgbdhpcboikaaGreatDoor
