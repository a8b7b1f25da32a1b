/-
  policy.Kind: what it answers, as a plain function of the name.
-/
import Derived.Test.YtcfgbdhpcboikaaGreatDoorKindV
namespace Go.Proofs.YtcfgbdhpcboikaaGreatDoor
open Go.RowKit

theorem results_one {P : Program} {fn : Func} {t : Nat} {tmps : Array Value} {v : Value} (w : World) (h : fn.results = #[.tmp t]) (hv : tmps.getD t undef = v) : (results fn tmps).run P w = .ok v w := by
  unfold results
  rw [h]
  rw [Array.getD_eq_getD_getElem?] at hv
  simp [hv]
set_option maxRecDepth 100000 in
set_option maxHeartbeats 1000000 in
theorem kind_none (s : ByteArray) (hN : ∀ l : List UInt8, (kindTab.map (·.1)).contains l = true → (s.toList == (⟨l.toArray⟩ : ByteArray).toList) = false) (w : World) : Calls Tryz.prog 24 #[.string s] w fun e w' => e = .returned (.int .i64 0) ∧ w = w' := by
  refine calls_of_wp Tryz.func24 rfl ?_
  have hC : Chain s 0 83 { tmps := #[.string s] ++ Array.replicate (Tryz.f24.ntmps - (#[Value.string s]).size) undef, defers := [] } := chain_start s 82
  refine wp_seq (chain_const hC rfl ?_)
  clear hC
  intro a hC _
  refine wp_seq (wp_seq (chain_move hC rfl ?_))
  clear hC
  intro a hC
  refine then_normal (wp_block ?_)
  repeat' (first
    | (refine chain_no 9 s _ 3 83 (hN _ (by decide +kernel)) hC rfl ?_; clear hC; intro a hC hb)
    | (with_reducible refine then_normal ?_)
    | (with_reducible refine block_normal ?_)
    | (with_reducible refine wp_cond_false hb ?_)
    | (with_reducible refine wp_seq ?_)
    | (with_reducible refine wp_skip ?_))
  refine chain_const hC rfl ?_
  clear hC hb
  intro a hC he
  refine then_normal (wp_ret ?_)
  exact ⟨hC.defers, .int .i64 0, results_one w rfl he, rfl, rfl⟩
set_option maxRecDepth 100000 in
theorem kind_all (w : World) : ∀ p ∈ kindTab, Calls Tryz.prog 24 #[.string ⟨p.1.toArray⟩] w fun e w' => e = .returned (.int .i64 (p.2 : Nat)) ∧ w = w' :=
  List.forall_mem_cons.2 ⟨kind_w0 w, List.forall_mem_cons.2 ⟨kind_w1 w, List.forall_mem_cons.2 ⟨kind_w2 w, List.forall_mem_cons.2 ⟨kind_w3 w, List.forall_mem_cons.2 ⟨kind_w4 w, List.forall_mem_cons.2 ⟨kind_w5 w, List.forall_mem_cons.2 ⟨kind_w6 w, List.forall_mem_cons.2 ⟨kind_w7 w, List.forall_mem_cons.2 ⟨kind_w8 w, List.forall_mem_cons.2 ⟨kind_w9 w, List.forall_mem_cons.2 ⟨kind_w10 w, List.forall_mem_cons.2 ⟨kind_w11 w, List.forall_mem_cons.2 ⟨kind_w12 w, List.forall_mem_cons.2 ⟨kind_w13 w, List.forall_mem_cons.2 ⟨kind_w14 w, List.forall_mem_cons.2 ⟨kind_w15 w, List.forall_mem_cons.2 ⟨kind_w16 w, List.forall_mem_cons.2 ⟨kind_w17 w, List.forall_mem_cons.2 ⟨kind_w18 w, List.forall_mem_cons.2 ⟨kind_w19 w, List.forall_mem_cons.2 ⟨kind_w20 w, List.forall_mem_cons.2 ⟨kind_w21 w, List.forall_mem_cons.2 ⟨kind_w22 w, List.forall_mem_cons.2 ⟨kind_w23 w, List.forall_mem_cons.2 ⟨kind_w24 w, List.forall_mem_cons.2 ⟨kind_w25 w, List.forall_mem_cons.2 ⟨kind_w26 w, List.forall_mem_cons.2 ⟨kind_w27 w, List.forall_mem_cons.2 ⟨kind_w28 w, List.forall_mem_cons.2 ⟨kind_w29 w, List.forall_mem_cons.2 ⟨kind_w30 w, List.forall_mem_cons.2 ⟨kind_w31 w, List.forall_mem_cons.2 ⟨kind_w32 w, List.forall_mem_cons.2 ⟨kind_w33 w, List.forall_mem_cons.2 ⟨kind_w34 w, List.forall_mem_cons.2 ⟨kind_w35 w, List.forall_mem_cons.2 ⟨kind_w36 w, List.forall_mem_cons.2 ⟨kind_w37 w, List.forall_mem_cons.2 ⟨kind_w38 w, List.forall_mem_cons.2 ⟨kind_w39 w, List.forall_mem_cons.2 ⟨kind_w40 w, List.forall_mem_cons.2 ⟨kind_w41 w, List.forall_mem_cons.2 ⟨kind_w42 w, List.forall_mem_cons.2 ⟨kind_w43 w, List.forall_mem_cons.2 ⟨kind_w44 w, List.forall_mem_cons.2 ⟨kind_w45 w, List.forall_mem_cons.2 ⟨kind_w46 w, List.forall_mem_cons.2 ⟨kind_w47 w, List.forall_mem_cons.2 ⟨kind_w48 w, List.forall_mem_cons.2 ⟨kind_w49 w, List.forall_mem_cons.2 ⟨kind_w50 w, List.forall_mem_cons.2 ⟨kind_w51 w, List.forall_mem_cons.2 ⟨kind_w52 w, List.forall_mem_cons.2 ⟨kind_w53 w, List.forall_mem_cons.2 ⟨kind_w54 w, List.forall_mem_cons.2 ⟨kind_w55 w, List.forall_mem_cons.2 ⟨kind_w56 w, List.forall_mem_cons.2 ⟨kind_w57 w, List.forall_mem_cons.2 ⟨kind_w58 w, List.forall_mem_cons.2 ⟨kind_w59 w, List.forall_mem_cons.2 ⟨kind_w60 w, List.forall_mem_cons.2 ⟨kind_w61 w, List.forall_mem_cons.2 ⟨kind_w62 w, List.forall_mem_cons.2 ⟨kind_w63 w, List.forall_mem_cons.2 ⟨kind_w64 w, fun _ h => by cases h⟩⟩⟩⟩⟩⟩⟩⟩⟩⟩⟩⟩⟩⟩⟩⟩⟩⟩⟩⟩⟩⟩⟩⟩⟩⟩⟩⟩⟩⟩⟩⟩⟩⟩⟩⟩⟩⟩⟩⟩⟩⟩⟩⟩⟩⟩⟩⟩⟩⟩⟩⟩⟩⟩⟩⟩⟩⟩⟩⟩⟩⟩⟩⟩⟩
theorem bytes_back (s : ByteArray) : s = ⟨s.data.toList.toArray⟩ := rfl
theorem kind_any (s : ByteArray) (w : World) : Calls Tryz.prog 24 #[.string s] w fun e w' => e = .returned (.int .i64 (kindL s.data.toList : Nat)) ∧ w = w' := by
  by_cases h : s.data.toList ∈ kindTab.map (·.1)
  · obtain ⟨p, hp, e⟩ := List.mem_map.1 h
    have hk := kind_all w p hp
    rw [e] at hk
    rw [← e, (kinds_in p hp).2]
    exact hk
  · rw [kindL_none _ h]
    refine kind_none s (fun l hl => ?_) w
    rw [beq_eq_false_iff_ne]
    intro e
    rw [toList_data, toList_data] at e
    apply h
    have e2 : s.data.toList = l := e
    rw [e2]
    simpa using hl
end Go.Proofs.YtcfgbdhpcboikaaGreatDoor
