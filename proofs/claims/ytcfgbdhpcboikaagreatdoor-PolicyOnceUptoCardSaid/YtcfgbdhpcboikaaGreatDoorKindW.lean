/-
  policy.Kind: what it answers, as a plain function of the name.
  policy.May and Takes: what they answer, as plain functions of the names (printed by wip/gen/mayw.py).
-/
import Derived.Test.YtcfgbdhpcboikaaGreatDoorKinds
import Derived.Lib.Hide
namespace Go.Proofs.YtcfgbdhpcboikaaGreatDoor
open Go.RowKit

theorem results_one {P : Program} {fn : Func} {t : Nat} {tmps : Array Value} {v : Value} (w : World) (h : fn.results = #[.tmp t]) (hv : tmps.getD t undef = v) : (results fn tmps).run P w = .ok v w := by
  unfold results
  rw [h]
  rw [Array.getD_eq_getD_getElem?] at hv
  simp [hv]
set_option maxRecDepth 100000 in
set_option maxHeartbeats 1000000 in
theorem kind_none (s : ByteArray) (hN : ∀ l : List UInt8, (kindTab.map (·.1)).contains l = true → (s.toList == (⟨l.toArray⟩ : ByteArray).toList) = false) (w : World) : Calls Tryz.prog 24 #[.string s] w fun e w' => e = .returned (.int .i64 0) ∧ w = w' := by
  refine calls_of_wp Tryz.func24 rfl ?_
  have hC : Chain s 0 83 { tmps := #[.string s] ++ Array.replicate (Tryz.f24.ntmps - (#[Value.string s]).size) undef, defers := [] } := chain_start s 82
  refine wp_seq (chain_const hC rfl ?_)
  clear hC
  intro a hC _
  refine wp_seq (wp_seq (chain_move hC rfl ?_))
  clear hC
  intro a hC
  refine then_normal (wp_block ?_)
  repeat' (first
    | (refine chain_no 9 s _ 3 83 (hN _ (by decide +kernel)) hC rfl ?_; clear hC; intro a hC hb)
    | (with_reducible refine then_normal ?_)
    | (with_reducible refine block_normal ?_)
    | (with_reducible refine wp_cond_false hb ?_)
    | (with_reducible refine wp_seq ?_)
    | (with_reducible refine wp_skip ?_))
  refine chain_const hC rfl ?_
  clear hC hb
  intro a hC he
  refine then_normal (wp_ret ?_)
  exact ⟨hC.defers, .int .i64 0, results_one w rfl he, rfl, rfl⟩
set_option maxRecDepth 100000 in
theorem kind_all (w : World) : ∀ p ∈ kindTab, Calls Tryz.prog 24 #[.string ⟨p.1.toArray⟩] w fun e w' => e = .returned (.int .i64 (p.2 : Nat)) ∧ w = w' :=
  List.forall_mem_cons.2 ⟨kind_w0 w, List.forall_mem_cons.2 ⟨kind_w1 w, List.forall_mem_cons.2 ⟨kind_w2 w, List.forall_mem_cons.2 ⟨kind_w3 w, List.forall_mem_cons.2 ⟨kind_w4 w, List.forall_mem_cons.2 ⟨kind_w5 w, List.forall_mem_cons.2 ⟨kind_w6 w, List.forall_mem_cons.2 ⟨kind_w7 w, List.forall_mem_cons.2 ⟨kind_w8 w, List.forall_mem_cons.2 ⟨kind_w9 w, List.forall_mem_cons.2 ⟨kind_w10 w, List.forall_mem_cons.2 ⟨kind_w11 w, List.forall_mem_cons.2 ⟨kind_w12 w, List.forall_mem_cons.2 ⟨kind_w13 w, List.forall_mem_cons.2 ⟨kind_w14 w, List.forall_mem_cons.2 ⟨kind_w15 w, List.forall_mem_cons.2 ⟨kind_w16 w, List.forall_mem_cons.2 ⟨kind_w17 w, List.forall_mem_cons.2 ⟨kind_w18 w, List.forall_mem_cons.2 ⟨kind_w19 w, List.forall_mem_cons.2 ⟨kind_w20 w, List.forall_mem_cons.2 ⟨kind_w21 w, List.forall_mem_cons.2 ⟨kind_w22 w, List.forall_mem_cons.2 ⟨kind_w23 w, List.forall_mem_cons.2 ⟨kind_w24 w, List.forall_mem_cons.2 ⟨kind_w25 w, List.forall_mem_cons.2 ⟨kind_w26 w, List.forall_mem_cons.2 ⟨kind_w27 w, List.forall_mem_cons.2 ⟨kind_w28 w, List.forall_mem_cons.2 ⟨kind_w29 w, List.forall_mem_cons.2 ⟨kind_w30 w, List.forall_mem_cons.2 ⟨kind_w31 w, List.forall_mem_cons.2 ⟨kind_w32 w, List.forall_mem_cons.2 ⟨kind_w33 w, List.forall_mem_cons.2 ⟨kind_w34 w, List.forall_mem_cons.2 ⟨kind_w35 w, List.forall_mem_cons.2 ⟨kind_w36 w, List.forall_mem_cons.2 ⟨kind_w37 w, List.forall_mem_cons.2 ⟨kind_w38 w, List.forall_mem_cons.2 ⟨kind_w39 w, List.forall_mem_cons.2 ⟨kind_w40 w, List.forall_mem_cons.2 ⟨kind_w41 w, List.forall_mem_cons.2 ⟨kind_w42 w, List.forall_mem_cons.2 ⟨kind_w43 w, List.forall_mem_cons.2 ⟨kind_w44 w, List.forall_mem_cons.2 ⟨kind_w45 w, List.forall_mem_cons.2 ⟨kind_w46 w, List.forall_mem_cons.2 ⟨kind_w47 w, List.forall_mem_cons.2 ⟨kind_w48 w, List.forall_mem_cons.2 ⟨kind_w49 w, List.forall_mem_cons.2 ⟨kind_w50 w, List.forall_mem_cons.2 ⟨kind_w51 w, List.forall_mem_cons.2 ⟨kind_w52 w, List.forall_mem_cons.2 ⟨kind_w53 w, List.forall_mem_cons.2 ⟨kind_w54 w, List.forall_mem_cons.2 ⟨kind_w55 w, List.forall_mem_cons.2 ⟨kind_w56 w, List.forall_mem_cons.2 ⟨kind_w57 w, List.forall_mem_cons.2 ⟨kind_w58 w, List.forall_mem_cons.2 ⟨kind_w59 w, List.forall_mem_cons.2 ⟨kind_w60 w, List.forall_mem_cons.2 ⟨kind_w61 w, List.forall_mem_cons.2 ⟨kind_w62 w, List.forall_mem_cons.2 ⟨kind_w63 w, List.forall_mem_cons.2 ⟨kind_w64 w, fun _ h => by cases h⟩⟩⟩⟩⟩⟩⟩⟩⟩⟩⟩⟩⟩⟩⟩⟩⟩⟩⟩⟩⟩⟩⟩⟩⟩⟩⟩⟩⟩⟩⟩⟩⟩⟩⟩⟩⟩⟩⟩⟩⟩⟩⟩⟩⟩⟩⟩⟩⟩⟩⟩⟩⟩⟩⟩⟩⟩⟩⟩⟩⟩⟩⟩⟩⟩
theorem kind_any (s : ByteArray) (w : World) : Calls Tryz.prog 24 #[.string s] w fun e w' => e = .returned (.int .i64 (kindL s.data.toList : Nat)) ∧ w = w' := by
  by_cases h : s.data.toList ∈ kindTab.map (·.1)
  · obtain ⟨p, hp, e⟩ := List.mem_map.1 h
    have hk := kind_all w p hp
    rw [e] at hk
    rw [← e, (kinds_in p hp).2]
    exact hk
  · rw [kindL_none _ h]
    refine kind_none s (fun l hl => ?_) w
    rw [beq_eq_false_iff_ne]
    intro e
    rw [toList_data, toList_data] at e
    apply h
    have e2 : s.data.toList = l := e
    rw [e2]
    simpa using hl
end Go.Proofs.YtcfgbdhpcboikaaGreatDoor

namespace Go.Proofs.YtcfgbdhpcboikaaGreatDoor
open Go.RowKit

def KindAt (s : ByteArray) (n : Int) : Prop := ∀ w, Calls Tryz.prog 24 #[.string s] w fun e w' => e = .returned (.int .i64 n) ∧ w = w'
theorem kind_at (s : ByteArray) : KindAt s (kindL s.data.toList : Nat) := fun w => kind_any s w
theorem retM_bool {a b : Bool} (h : a = b) : Ending.returned (.bool a) = .returned (.bool b) := by rw [h]

set_option maxRecDepth 100000 in
set_option maxHeartbeats 1000000 in
theorem may_0 (p k : ByteArray) (K : Int) (b : Bool) (w : World) (hp : Hid (KindAt p 0)) (hk : Hid (KindAt k K)) (hb : Hid ((false) = b)) :
    Calls Tryz.prog 26 #[.string p, .string k] w fun e w' => e = .returned (.bool b) ∧ w = w' := by
  go_enter Tryz.func26, Tryz.ntmps26
  go_wp2_with fail
  refine (hk.out _).mono ?_
  rintro e w' ⟨rfl, rfl⟩
  go_wp2_with fail
  refine (hp.out _).mono ?_
  rintro e w' ⟨rfl, rfl⟩
  go_wp2
  all_goals
    go_ret
    refine ⟨retM_bool ?_, rfl⟩
    first
      | (rw [← hb.out]; done)
      | (rw [← hb.out, Bool.eq_iff_iff]; simp; done)
      | (rw [← hb.out, Bool.eq_iff_iff]; simp; omega)
      | (rw [← hb.out]; simp_all; done)

set_option maxRecDepth 100000 in
set_option maxHeartbeats 1000000 in
theorem may_1 (p k : ByteArray) (K : Int) (b : Bool) (w : World) (hp : Hid (KindAt p 1)) (hk : Hid (KindAt k K)) (hb : Hid ((false) = b)) :
    Calls Tryz.prog 26 #[.string p, .string k] w fun e w' => e = .returned (.bool b) ∧ w = w' := by
  go_enter Tryz.func26, Tryz.ntmps26
  go_wp2_with fail
  refine (hk.out _).mono ?_
  rintro e w' ⟨rfl, rfl⟩
  go_wp2_with fail
  refine (hp.out _).mono ?_
  rintro e w' ⟨rfl, rfl⟩
  go_wp2
  all_goals
    go_ret
    refine ⟨retM_bool ?_, rfl⟩
    first
      | (rw [← hb.out]; done)
      | (rw [← hb.out, Bool.eq_iff_iff]; simp; done)
      | (rw [← hb.out, Bool.eq_iff_iff]; simp; omega)
      | (rw [← hb.out]; simp_all; done)

set_option maxRecDepth 100000 in
set_option maxHeartbeats 1000000 in
theorem may_2 (p k : ByteArray) (K : Int) (b : Bool) (w : World) (hp : Hid (KindAt p 2)) (hk : Hid (KindAt k K)) (hb : Hid ((decide (2 ≤ K) && decide (K ≤ 7) || decide (K = 9)) = b)) :
    Calls Tryz.prog 26 #[.string p, .string k] w fun e w' => e = .returned (.bool b) ∧ w = w' := by
  go_enter Tryz.func26, Tryz.ntmps26
  go_wp2_with fail
  refine (hk.out _).mono ?_
  rintro e w' ⟨rfl, rfl⟩
  go_wp2_with fail
  refine (hp.out _).mono ?_
  rintro e w' ⟨rfl, rfl⟩
  go_wp2
  all_goals
    go_ret
    refine ⟨retM_bool ?_, rfl⟩
    first
      | (rw [← hb.out]; done)
      | (rw [← hb.out, Bool.eq_iff_iff]; simp; done)
      | (rw [← hb.out, Bool.eq_iff_iff]; simp; omega)
      | (rw [← hb.out]; simp_all; done)

set_option maxRecDepth 100000 in
set_option maxHeartbeats 1000000 in
theorem may_3 (p k : ByteArray) (K : Int) (b : Bool) (w : World) (hp : Hid (KindAt p 3)) (hk : Hid (KindAt k K)) (hb : Hid ((decide (K = 4) || decide (K = 5)) = b)) :
    Calls Tryz.prog 26 #[.string p, .string k] w fun e w' => e = .returned (.bool b) ∧ w = w' := by
  go_enter Tryz.func26, Tryz.ntmps26
  go_wp2_with fail
  refine (hk.out _).mono ?_
  rintro e w' ⟨rfl, rfl⟩
  go_wp2_with fail
  refine (hp.out _).mono ?_
  rintro e w' ⟨rfl, rfl⟩
  go_wp2
  all_goals
    go_ret
    refine ⟨retM_bool ?_, rfl⟩
    first
      | (rw [← hb.out]; done)
      | (rw [← hb.out, Bool.eq_iff_iff]; simp; done)
      | (rw [← hb.out, Bool.eq_iff_iff]; simp; omega)
      | (rw [← hb.out]; simp_all; done)

set_option maxRecDepth 100000 in
set_option maxHeartbeats 1000000 in
theorem may_4 (p k : ByteArray) (K : Int) (b : Bool) (w : World) (hp : Hid (KindAt p 4)) (hk : Hid (KindAt k K)) (hb : Hid ((decide (K = 4) && !(k.toList == p.toList) || decide (K = 5)) = b)) :
    Calls Tryz.prog 26 #[.string p, .string k] w fun e w' => e = .returned (.bool b) ∧ w = w' := by
  go_enter Tryz.func26, Tryz.ntmps26
  go_wp2_with fail
  refine (hk.out _).mono ?_
  rintro e w' ⟨rfl, rfl⟩
  go_wp2_with fail
  refine (hp.out _).mono ?_
  rintro e w' ⟨rfl, rfl⟩
  go_wp2
  all_goals
    go_ret
    refine ⟨retM_bool ?_, rfl⟩
    first
      | (rw [← hb.out]; done)
      | (rw [← hb.out, Bool.eq_iff_iff]; simp; done)
      | (rw [← hb.out, Bool.eq_iff_iff]; simp; omega)
      | (rw [← hb.out]; simp_all; done)

set_option maxRecDepth 100000 in
set_option maxHeartbeats 1000000 in
theorem may_5 (p k : ByteArray) (K : Int) (b : Bool) (w : World) (hp : Hid (KindAt p 5)) (hk : Hid (KindAt k K)) (hb : Hid ((false) = b)) :
    Calls Tryz.prog 26 #[.string p, .string k] w fun e w' => e = .returned (.bool b) ∧ w = w' := by
  go_enter Tryz.func26, Tryz.ntmps26
  go_wp2_with fail
  refine (hk.out _).mono ?_
  rintro e w' ⟨rfl, rfl⟩
  go_wp2_with fail
  refine (hp.out _).mono ?_
  rintro e w' ⟨rfl, rfl⟩
  go_wp2
  all_goals
    go_ret
    refine ⟨retM_bool ?_, rfl⟩
    first
      | (rw [← hb.out]; done)
      | (rw [← hb.out, Bool.eq_iff_iff]; simp; done)
      | (rw [← hb.out, Bool.eq_iff_iff]; simp; omega)
      | (rw [← hb.out]; simp_all; done)

set_option maxRecDepth 100000 in
set_option maxHeartbeats 1000000 in
theorem may_6 (p k : ByteArray) (K : Int) (b : Bool) (w : World) (hp : Hid (KindAt p 6)) (hk : Hid (KindAt k K)) (hb : Hid ((false) = b)) :
    Calls Tryz.prog 26 #[.string p, .string k] w fun e w' => e = .returned (.bool b) ∧ w = w' := by
  go_enter Tryz.func26, Tryz.ntmps26
  go_wp2_with fail
  refine (hk.out _).mono ?_
  rintro e w' ⟨rfl, rfl⟩
  go_wp2_with fail
  refine (hp.out _).mono ?_
  rintro e w' ⟨rfl, rfl⟩
  go_wp2
  all_goals
    go_ret
    refine ⟨retM_bool ?_, rfl⟩
    first
      | (rw [← hb.out]; done)
      | (rw [← hb.out, Bool.eq_iff_iff]; simp; done)
      | (rw [← hb.out, Bool.eq_iff_iff]; simp; omega)
      | (rw [← hb.out]; simp_all; done)

set_option maxRecDepth 100000 in
set_option maxHeartbeats 1000000 in
theorem may_7 (p k : ByteArray) (K : Int) (b : Bool) (w : World) (hp : Hid (KindAt p 7)) (hk : Hid (KindAt k K)) (hb : Hid ((decide (K = 8)) = b)) :
    Calls Tryz.prog 26 #[.string p, .string k] w fun e w' => e = .returned (.bool b) ∧ w = w' := by
  go_enter Tryz.func26, Tryz.ntmps26
  go_wp2_with fail
  refine (hk.out _).mono ?_
  rintro e w' ⟨rfl, rfl⟩
  go_wp2_with fail
  refine (hp.out _).mono ?_
  rintro e w' ⟨rfl, rfl⟩
  go_wp2
  all_goals
    go_ret
    refine ⟨retM_bool ?_, rfl⟩
    first
      | (rw [← hb.out]; done)
      | (rw [← hb.out, Bool.eq_iff_iff]; simp; done)
      | (rw [← hb.out, Bool.eq_iff_iff]; simp; omega)
      | (rw [← hb.out]; simp_all; done)

set_option maxRecDepth 100000 in
set_option maxHeartbeats 1000000 in
theorem may_8 (p k : ByteArray) (K : Int) (b : Bool) (w : World) (hp : Hid (KindAt p 8)) (hk : Hid (KindAt k K)) (hb : Hid ((decide (2 ≤ K) && decide (K ≤ 7) || decide (K = 9)) = b)) :
    Calls Tryz.prog 26 #[.string p, .string k] w fun e w' => e = .returned (.bool b) ∧ w = w' := by
  go_enter Tryz.func26, Tryz.ntmps26
  go_wp2_with fail
  refine (hk.out _).mono ?_
  rintro e w' ⟨rfl, rfl⟩
  go_wp2_with fail
  refine (hp.out _).mono ?_
  rintro e w' ⟨rfl, rfl⟩
  go_wp2
  all_goals
    go_ret
    refine ⟨retM_bool ?_, rfl⟩
    first
      | (rw [← hb.out]; done)
      | (rw [← hb.out, Bool.eq_iff_iff]; simp; done)
      | (rw [← hb.out, Bool.eq_iff_iff]; simp; omega)
      | (rw [← hb.out]; simp_all; done)

set_option maxRecDepth 100000 in
set_option maxHeartbeats 1000000 in
theorem may_9 (p k : ByteArray) (K : Int) (b : Bool) (w : World) (hp : Hid (KindAt p 9)) (hk : Hid (KindAt k K)) (hb : Hid ((decide (K = 10) || decide (K = 11)) = b)) :
    Calls Tryz.prog 26 #[.string p, .string k] w fun e w' => e = .returned (.bool b) ∧ w = w' := by
  go_enter Tryz.func26, Tryz.ntmps26
  go_wp2_with fail
  refine (hk.out _).mono ?_
  rintro e w' ⟨rfl, rfl⟩
  go_wp2_with fail
  refine (hp.out _).mono ?_
  rintro e w' ⟨rfl, rfl⟩
  go_wp2
  all_goals
    go_ret
    refine ⟨retM_bool ?_, rfl⟩
    first
      | (rw [← hb.out]; done)
      | (rw [← hb.out, Bool.eq_iff_iff]; simp; done)
      | (rw [← hb.out, Bool.eq_iff_iff]; simp; omega)
      | (rw [← hb.out]; simp_all; done)

set_option maxRecDepth 100000 in
set_option maxHeartbeats 1000000 in
theorem may_10 (p k : ByteArray) (K : Int) (b : Bool) (w : World) (hp : Hid (KindAt p 10)) (hk : Hid (KindAt k K)) (hb : Hid ((decide (K = 4) || decide (K = 5)) = b)) :
    Calls Tryz.prog 26 #[.string p, .string k] w fun e w' => e = .returned (.bool b) ∧ w = w' := by
  go_enter Tryz.func26, Tryz.ntmps26
  go_wp2_with fail
  refine (hk.out _).mono ?_
  rintro e w' ⟨rfl, rfl⟩
  go_wp2_with fail
  refine (hp.out _).mono ?_
  rintro e w' ⟨rfl, rfl⟩
  go_wp2
  all_goals
    go_ret
    refine ⟨retM_bool ?_, rfl⟩
    first
      | (rw [← hb.out]; done)
      | (rw [← hb.out, Bool.eq_iff_iff]; simp; done)
      | (rw [← hb.out, Bool.eq_iff_iff]; simp; omega)
      | (rw [← hb.out]; simp_all; done)

set_option maxRecDepth 100000 in
set_option maxHeartbeats 1000000 in
theorem may_11 (p k : ByteArray) (K : Int) (b : Bool) (w : World) (hp : Hid (KindAt p 11)) (hk : Hid (KindAt k K)) (hb : Hid ((decide (K = 12)) = b)) :
    Calls Tryz.prog 26 #[.string p, .string k] w fun e w' => e = .returned (.bool b) ∧ w = w' := by
  go_enter Tryz.func26, Tryz.ntmps26
  go_wp2_with fail
  refine (hk.out _).mono ?_
  rintro e w' ⟨rfl, rfl⟩
  go_wp2_with fail
  refine (hp.out _).mono ?_
  rintro e w' ⟨rfl, rfl⟩
  go_wp2
  all_goals
    go_ret
    refine ⟨retM_bool ?_, rfl⟩
    first
      | (rw [← hb.out]; done)
      | (rw [← hb.out, Bool.eq_iff_iff]; simp; done)
      | (rw [← hb.out, Bool.eq_iff_iff]; simp; omega)
      | (rw [← hb.out]; simp_all; done)

set_option maxRecDepth 100000 in
set_option maxHeartbeats 1000000 in
theorem may_12 (p k : ByteArray) (K : Int) (b : Bool) (w : World) (hp : Hid (KindAt p 12)) (hk : Hid (KindAt k K)) (hb : Hid ((decide (K = 13)) = b)) :
    Calls Tryz.prog 26 #[.string p, .string k] w fun e w' => e = .returned (.bool b) ∧ w = w' := by
  go_enter Tryz.func26, Tryz.ntmps26
  go_wp2_with fail
  refine (hk.out _).mono ?_
  rintro e w' ⟨rfl, rfl⟩
  go_wp2_with fail
  refine (hp.out _).mono ?_
  rintro e w' ⟨rfl, rfl⟩
  go_wp2
  all_goals
    go_ret
    refine ⟨retM_bool ?_, rfl⟩
    first
      | (rw [← hb.out]; done)
      | (rw [← hb.out, Bool.eq_iff_iff]; simp; done)
      | (rw [← hb.out, Bool.eq_iff_iff]; simp; omega)
      | (rw [← hb.out]; simp_all; done)

set_option maxRecDepth 100000 in
set_option maxHeartbeats 1000000 in
theorem may_13 (p k : ByteArray) (K : Int) (b : Bool) (w : World) (hp : Hid (KindAt p 13)) (hk : Hid (KindAt k K)) (hb : Hid ((decide (2 ≤ K) && decide (K ≤ 7) || decide (K = 9)) = b)) :
    Calls Tryz.prog 26 #[.string p, .string k] w fun e w' => e = .returned (.bool b) ∧ w = w' := by
  go_enter Tryz.func26, Tryz.ntmps26
  go_wp2_with fail
  refine (hk.out _).mono ?_
  rintro e w' ⟨rfl, rfl⟩
  go_wp2_with fail
  refine (hp.out _).mono ?_
  rintro e w' ⟨rfl, rfl⟩
  go_wp2
  all_goals
    go_ret
    refine ⟨retM_bool ?_, rfl⟩
    first
      | (rw [← hb.out]; done)
      | (rw [← hb.out, Bool.eq_iff_iff]; simp; done)
      | (rw [← hb.out, Bool.eq_iff_iff]; simp; omega)
      | (rw [← hb.out]; simp_all; done)

set_option maxRecDepth 100000 in
set_option maxHeartbeats 1000000 in
theorem may_14 (p k : ByteArray) (K : Int) (b : Bool) (w : World) (hp : Hid (KindAt p 14)) (hk : Hid (KindAt k K)) (hb : Hid ((decide (2 ≤ K) && decide (K ≤ 7) || decide (K = 9)) = b)) :
    Calls Tryz.prog 26 #[.string p, .string k] w fun e w' => e = .returned (.bool b) ∧ w = w' := by
  go_enter Tryz.func26, Tryz.ntmps26
  go_wp2_with fail
  refine (hk.out _).mono ?_
  rintro e w' ⟨rfl, rfl⟩
  go_wp2_with fail
  refine (hp.out _).mono ?_
  rintro e w' ⟨rfl, rfl⟩
  go_wp2
  all_goals
    go_ret
    refine ⟨retM_bool ?_, rfl⟩
    first
      | (rw [← hb.out]; done)
      | (rw [← hb.out, Bool.eq_iff_iff]; simp; done)
      | (rw [← hb.out, Bool.eq_iff_iff]; simp; omega)
      | (rw [← hb.out]; simp_all; done)

theorem may_any (p k : ByteArray) (w : World) : Calls Tryz.prog 26 #[.string p, .string k] w fun e w' => e = .returned (.bool (mayL p.data.toList k.data.toList)) ∧ w = w' := by
  have hp := kind_at p
  have hk := kind_at k
  have hs : (k.toList == p.toList) = (k.data.toList == p.data.toList) := by rw [toList_data, toList_data]
  have lp := kindL_le p.data.toList
  unfold mayL
  rw [← hs]
  generalize kindL k.data.toList = K at hk
  generalize kindL p.data.toList = P at hp lp
  have key : ∀ (n : Nat) (f : Bool), P = n → f = mayN n K (k.toList == p.toList) → (∀ b, Hid (KindAt p n) → Hid (KindAt k (K : Nat)) → Hid (f = b) → Calls Tryz.prog 26 #[.string p, .string k] w fun e w' => e = .returned (.bool b) ∧ w = w') → Calls Tryz.prog 26 #[.string p, .string k] w fun e w' => e = .returned (.bool (mayN P K (k.toList == p.toList))) ∧ w = w' := by
    intro n f hn hf h
    subst hn
    exact h _ (Lib.hid hp) (Lib.hid hk) (Lib.hid hf)
  have hP : P = 0 ∨ P = 1 ∨ P = 2 ∨ P = 3 ∨ P = 4 ∨ P = 5 ∨ P = 6 ∨ P = 7 ∨ P = 8 ∨ P = 9 ∨ P = 10 ∨ P = 11 ∨ P = 12 ∨ P = 13 ∨ P = 14 := by omega
  rcases hP with h | h | h | h | h | h | h | h | h | h | h | h | h | h | h
  · exact key 0 _ h (by simp only [mayN]; rw [Bool.eq_iff_iff]; simp; try omega) fun b a1 a2 a3 => may_0 p k _ b w a1 a2 a3
  · exact key 1 _ h (by simp only [mayN]; rw [Bool.eq_iff_iff]; simp; try omega) fun b a1 a2 a3 => may_1 p k _ b w a1 a2 a3
  · exact key 2 _ h (by simp only [mayN]; rw [Bool.eq_iff_iff]; simp; try omega) fun b a1 a2 a3 => may_2 p k _ b w a1 a2 a3
  · exact key 3 _ h (by simp only [mayN]; rw [Bool.eq_iff_iff]; simp; try omega) fun b a1 a2 a3 => may_3 p k _ b w a1 a2 a3
  · exact key 4 _ h (by simp only [mayN]; rw [Bool.eq_iff_iff]; simp; rw [show ((K : Nat) : Int) = 4 ↔ K = 4 by omega, show ((K : Nat) : Int) = 5 ↔ K = 5 by omega]) fun b a1 a2 a3 => may_4 p k _ b w a1 a2 a3
  · exact key 5 _ h (by simp only [mayN]; rw [Bool.eq_iff_iff]; simp; try omega) fun b a1 a2 a3 => may_5 p k _ b w a1 a2 a3
  · exact key 6 _ h (by simp only [mayN]; rw [Bool.eq_iff_iff]; simp; try omega) fun b a1 a2 a3 => may_6 p k _ b w a1 a2 a3
  · exact key 7 _ h (by simp only [mayN]; rw [Bool.eq_iff_iff]; simp; try omega) fun b a1 a2 a3 => may_7 p k _ b w a1 a2 a3
  · exact key 8 _ h (by simp only [mayN]; rw [Bool.eq_iff_iff]; simp; try omega) fun b a1 a2 a3 => may_8 p k _ b w a1 a2 a3
  · exact key 9 _ h (by simp only [mayN]; rw [Bool.eq_iff_iff]; simp; try omega) fun b a1 a2 a3 => may_9 p k _ b w a1 a2 a3
  · exact key 10 _ h (by simp only [mayN]; rw [Bool.eq_iff_iff]; simp; try omega) fun b a1 a2 a3 => may_10 p k _ b w a1 a2 a3
  · exact key 11 _ h (by simp only [mayN]; rw [Bool.eq_iff_iff]; simp; try omega) fun b a1 a2 a3 => may_11 p k _ b w a1 a2 a3
  · exact key 12 _ h (by simp only [mayN]; rw [Bool.eq_iff_iff]; simp; try omega) fun b a1 a2 a3 => may_12 p k _ b w a1 a2 a3
  · exact key 13 _ h (by simp only [mayN]; rw [Bool.eq_iff_iff]; simp; try omega) fun b a1 a2 a3 => may_13 p k _ b w a1 a2 a3
  · exact key 14 _ h (by simp only [mayN]; rw [Bool.eq_iff_iff]; simp; try omega) fun b a1 a2 a3 => may_14 p k _ b w a1 a2 a3
end Go.Proofs.YtcfgbdhpcboikaaGreatDoor
