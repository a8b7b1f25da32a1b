/-
  One call of both rings (colanderlaw01.step): a clear, or nothing; and all calls together.
-/
import Derived.Test.YtfkchmkaccjjoaaStepB
namespace Go.Proofs.Ytfkchmkaccjjoaa
open Go.RowKit

set_option maxRecDepth 100000 in
set_option maxHeartbeats 2000000 in
theorem step_clear (w : World) (B r g cap c : Nat) (q : List UInt8) (sec : Bool) (x : Int) (oa : Option Addr) (ol oc : Nat) (hr : IsRing w r g cap q) (hc : IsRef w B c cap q)
    (lr : r < B) (hcr : c ≠ r) (hcg : c ≠ g) :
    Calls Try.prog 14 #[.pointer (some ⟨r, 0, none⟩), .pointer (some ⟨c, 0, none⟩), .agg #[.int .i64 3, .bool sec, .int .i64 x, .slice oa ol oc]] w (StepPost w B r g cap c) := by
  have Hr := Lib.hid hr
  have Hc := Lib.hid hc
  obtain ⟨N, hN⟩ : ∃ N, w.heap.size = N := ⟨_, rfl⟩
  have HN := Lib.hid hN
  clear hr hc hN
  go_enter Try.func14, Try.ntmps14
  go_upto_region 28 with fail
  obtain ⟨w0, hw0⟩ : ∃ w0, w0 = w.alloc (.cells #[.int .i64 3, .bool sec, .int .i64 x, .slice oa ol oc] 37) := ⟨_, rfl⟩
  rw [← hw0]
  have K0 : Hid (Kept (fun _ => False) w w0) := by rw [hw0]; exact (Kept.refl _ w).alloc _
  clear hw0
  go_wp2_with fail
  refine (ring_clear w0 r g cap q (Hr.out.kept K0.out (fun h => h) (fun h => h))).mono ?_
  rintro e w1 ⟨rfl, R1, K1⟩
  have C1 : IsRef w1 B c cap q := (Hc.out.kept K0.out (fun h => h) (fun _ _ h => h)).kept K1 hcr (fun i hi => by show ¬ i = r; omega)
  obtain ⟨a, cp, C1⟩ := C1
  have c1 := C1.c1
  have z1 := frozen_of_row w1 c 1 _ _ C1.hc
  have HC1 := Lib.hid C1
  have HR1 := Lib.hid R1
  have HK1 := Lib.hid K1
  clear C1 R1 K1
  go_wp2
  go_ret
  have ks := (Kept.refl (· = c) w1).setCell ⟨c, 1, none⟩ (.slice none 0 0) (fun _ => rfl)
  refine ⟨rfl, [], HR1.out.kept ks (show ¬ r = c by omega) (show ¬ g = c by omega), ⟨none, 0, ?_, IsB.nil _ _, Nat.le_refl _, by omega, fun h => absurd rfl h, Nat.zero_le _, HC1.out.top⟩, ?_⟩
  · rw [heap_setCell_same _ _ _ _ _ _ HC1.out.hc]; simp
  · exact (((K0.out.mono (fun _ _ h => h.elim)).trans' HK1.out (fun _ _ h => .inl h)).trans' ks (fun _ _ h => .inr (.inr h)))

set_option maxRecDepth 100000 in
set_option maxHeartbeats 2000000 in
theorem step_none (w : World) (B r g cap c : Nat) (q : List UInt8) (sec : Bool) (d x : Int) (oa : Option Addr) (ol oc : Nat) (hr : IsRing w r g cap q) (hc : IsRef w B c cap q)
    (d0 : d ≠ 0) (d1 : d ≠ 1) (d2 : d ≠ 2) (d3 : d ≠ 3) :
    Calls Try.prog 14 #[.pointer (some ⟨r, 0, none⟩), .pointer (some ⟨c, 0, none⟩), .agg #[.int .i64 d, .bool sec, .int .i64 x, .slice oa ol oc]] w (StepPost w B r g cap c) := by
  have Hr := Lib.hid hr
  have Hc := Lib.hid hc
  have e0 : (d == 0) = false := beq_eq_false_iff_ne.2 d0
  have e1 : (d == 1) = false := beq_eq_false_iff_ne.2 d1
  have e2 : (d == 2) = false := beq_eq_false_iff_ne.2 d2
  have e3 : (d == 3) = false := beq_eq_false_iff_ne.2 d3
  clear hr hc d0 d1 d2 d3
  go_enter Try.func14, Try.ntmps14
  go_wp2
  go_ret
  have K0 : Kept (fun _ => False) w (w.alloc (.cells #[.int .i64 d, .bool sec, .int .i64 x, .slice oa ol oc] 37)) := (Kept.refl _ w).alloc _
  exact ⟨rfl, q, Hr.out.kept K0 (fun h => h) (fun h => h), Hc.out.kept K0 (fun h => h) (fun _ _ h => h), K0.mono (fun _ _ h => h.elim)⟩

theorem cut_of (x : Int) (n : Nat) : ∃ k : Nat, x < 0 ∧ k = 0 ∨ x = k ∧ k ≤ n ∨ (n : Int) < x ∧ k = n := by
  by_cases h : x < 0
  · exact ⟨0, .inl ⟨h, rfl⟩⟩
  · by_cases h2 : x ≤ n
    · exact ⟨x.toNat, .inr (.inl ⟨by omega, by omega⟩)⟩
    · exact ⟨n, .inr (.inr ⟨by omega, rfl⟩)⟩

/-- One call of both, whatever it is. -/
theorem step_any (w : World) (B B0 r g cap c : Nat) (q : List UInt8) (d : Int) (sec : Bool) (x : Int) (oa : Option Addr) (ol oc : Nat) (bs : List UInt8) (hr : IsRing w r g cap q) (hc : IsRef w B c cap q)
    (hl : bs.length = ol) (hb : ol ≤ oc) (hb2 : oc ≤ 140737488351232) (hsrc : IsB w oa bs) (hap : bs ≠ [] → ∀ x, oa = some x → x.block < B0) (hB : B ≤ w.heap.size) (lr : r < B) (lg : g < B) (lc : c < B) (hcr : c ≠ r) (hcg : c ≠ g)
    (l0r : B0 ≤ r) (l0g : B0 ≤ g) (l0c : B0 ≤ c) :
    Calls Try.prog 14 #[.pointer (some ⟨r, 0, none⟩), .pointer (some ⟨c, 0, none⟩), .agg #[.int .i64 d, .bool sec, .int .i64 x, .slice oa ol oc]] w (StepPost w B r g cap c) := by
  obtain ⟨k, hk⟩ := cut_of x q.length
  by_cases d0 : d = 0
  · subst d0; exact step_put w B B0 r g cap c q sec x oa ol oc bs hr hc hl hb hb2 hsrc hap hB lr lg lc hcr hcg l0r l0g l0c
  by_cases d1 : d = 1
  · subst d1; exact step_take w B r g cap c k q sec x oa ol oc hr hc hk hB lr lg lc hcr hcg
  by_cases d2 : d = 2
  · subst d2; exact step_peek w B r g cap c k q sec x oa ol oc hr hc hk hB lr lg lc hcr hcg
  by_cases d3 : d = 3
  · subst d3; exact step_clear w B r g cap c q sec x oa ol oc hr hc lr hcr hcg
  exact step_none w B r g cap c q sec d x oa ol oc hr hc d0 d1 d2 d3
end Go.Proofs.Ytfkchmkaccjjoaa
