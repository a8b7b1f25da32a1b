/-
  The law's page, around one b.
-/
import Derived.Test.YtcfgbdhpcboikaaGreatDoorHoldA
namespace Go.Proofs.YtcfgbdhpcboikaaGreatDoor
open Go.RowKit

theorem five_allocs (w : World) (o0 o1 o2 o3 o4 : Obj) : ((((((w.alloc o0).alloc o1).alloc o2).alloc o3).alloc o4).heap[w.heap.size + 1]? = some o1) ∧ ((((((w.alloc o0).alloc o1).alloc o2).alloc o3).alloc o4).heap[w.heap.size + 1 + 1 + 1]? = some o3) ∧ ((((((w.alloc o0).alloc o1).alloc o2).alloc o3).alloc o4).heap[w.heap.size + 1 + 1 + 1 + 1]? = some o4) ∧ Below w.heap.size w (((((w.alloc o0).alloc o1).alloc o2).alloc o3).alloc o4) := by
  have e0 : (w.alloc o0).heap.size = w.heap.size + 1 := by simp
  have e1 : ((w.alloc o0).alloc o1).heap.size = w.heap.size + 1 + 1 := by simp
  have e2 : (((w.alloc o0).alloc o1).alloc o2).heap.size = w.heap.size + 1 + 1 + 1 := by simp
  have e3 : ((((w.alloc o0).alloc o1).alloc o2).alloc o3).heap.size = w.heap.size + 1 + 1 + 1 + 1 := by simp
  refine ⟨?_, ?_, ?_, ?_⟩
  · rw [Below.heap_alloc _ _ _ (by omega), Below.heap_alloc _ _ _ (by omega), Below.heap_alloc _ _ _ (by omega), ← e0]
    exact heap_alloc_new _ _
  · rw [Below.heap_alloc _ _ _ (by omega), ← e2]
    exact heap_alloc_new _ _
  · rw [← e3]
    exact heap_alloc_new _ _
  · exact (((((Below.refl _ w).alloc (Nat.le_refl _) _).alloc (by omega) _).alloc (by omega) _).alloc (by omega) _).alloc (by omega) _
def PagePost (w : World) (gb ob cb : Nat) (a' : Option Addr) (n' c' : Nat) (e : Ending) (w' : World) : Prop :=
  ∃ gh gm ga, e = .returned (elV sHtml (some ⟨gh, 0, none⟩) 2 2) ∧ PageAt w' gh 0 gm 0 1 ga 0 1 gb ob cb a' n' c' ∧ Below w.heap.size w w'
set_option maxRecDepth 100000 in
set_option maxHeartbeats 2000000 in
theorem page_one (gb ob cb : Nat) (a' : Option Addr) (n' c' : Nat) (w : World) (hk : Six w gb ob (.int .i64 1) (.int .i64 0) (.string ⟨#[98]⟩) (.slice none 0 0) (.string ⟨#[]⟩) (.slice a' n' c')) :
    Calls Tryz.prog 40 #[.slice (some ⟨gb, ob, none⟩) 1 cb] w (PagePost w gb ob cb a' n' c') := by
  have HK := Lib.hid hk
  clear hk
  go_enter Tryz.func40, Tryz.ntmps40
  go_wp2
  obtain ⟨h1, h3, h4, hb⟩ := five_allocs w (.cells #[.int .i64 1, .int .i64 0, .string ⟨#[104, 116, 109, 108]⟩, .slice none 0 0, .string ⟨#[]⟩, .slice (some ⟨w.heap.size + 1 + 1 + 1 + 1, 0, none⟩) 2 2] 45)
    (.cells #[.string ⟨#[99, 104, 97, 114, 115, 101, 116]⟩, .string ⟨#[117, 116, 102, 45, 56]⟩] 39)
    (.cells #[.int .i64 1, .int .i64 0, .string ⟨#[109, 101, 116, 97]⟩, .slice (some ⟨w.heap.size + 1, 0, none⟩) 1 1, .string ⟨#[]⟩, .slice none 0 0] 45)
    (.cells #[.int .i64 1, .int .i64 0, .string ⟨#[109, 101, 116, 97]⟩, .slice (some ⟨w.heap.size + 1, 0, none⟩) 1 1, .string ⟨#[]⟩, .slice none 0 0] 45)
    (.cells #[.int .i64 1, .int .i64 0, .string ⟨#[104, 101, 97, 100]⟩, .slice none 0 0, .string ⟨#[]⟩, .slice (some ⟨w.heap.size + 1 + 1 + 1, 0, none⟩) 1 1, .int .i64 1, .int .i64 0, .string ⟨#[98, 111, 100, 121]⟩, .slice none 0 0, .string ⟨#[]⟩, .slice (some ⟨gb, ob, none⟩) 1 cb] 45)
  refine bodyPost_ret (v := elV sHtml (some ⟨w.heap.size + 1 + 1 + 1 + 1, 0, none⟩) 2 2) (by unfold elV sHtml; simp [results, Tryz.results40, go_sem]) rfl ⟨w.heap.size + 1 + 1 + 1 + 1, w.heap.size + 1 + 1 + 1, w.heap.size + 1, rfl, ⟨?_, ?_, ?_, ?_, HK.out.below hb (Nat.le_refl _)⟩, hb⟩
  · have h : ∀ j, _ := fun j => cell_of_row _ (w.heap.size + 1 + 1 + 1 + 1) j _ 45 (0, 0) h4
    exact ⟨h 0, h 1, h 2, h 3, h 4, h 5⟩
  · have h : ∀ j, _ := fun j => cell_of_row _ (w.heap.size + 1 + 1 + 1 + 1) j _ 45 (0, 0) h4
    exact ⟨h 6, h 7, h 8, h 9, h 10, h 11⟩
  · have h : ∀ j, _ := fun j => cell_of_row _ (w.heap.size + 1 + 1 + 1) j _ 45 (0, 0) h3
    exact ⟨h 0, h 1, h 2, h 3, h 4, h 5⟩
  · have h : ∀ j, _ := fun j => cell_of_row _ (w.heap.size + 1) j _ 39 (0, 0) h1
    exact ⟨h 0, h 1⟩
end Go.Proofs.YtcfgbdhpcboikaaGreatDoor
