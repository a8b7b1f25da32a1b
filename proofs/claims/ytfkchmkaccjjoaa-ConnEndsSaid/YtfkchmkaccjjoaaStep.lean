/-
  One call of both rings (colanderlaw01.step) returns true.
-/
import Derived.Test.YtfkchmkaccjjoaaRefB
import Derived.Deep.DeepCutAuto
namespace Go.Proofs.Ytfkchmkaccjjoaa
open Go.RowKit

theorem OwnB.of_heap {w : World} {base g : Nat} {E : TypeId} {bs : List UInt8} {k : Nat} (h : w.heap[g]? = some (.cells (bs.map byteV).toArray E (0, 0))) (hb : base ≤ g) (hk : bs.length = k) (hm : k ≤ maxLen) : OwnB w base E (some ⟨g, 0, none⟩) k bs := by
  subst hk
  exact ⟨by simp, .inr ⟨g, bs.length, _, rfl, hb, h, Nat.le_refl _, hm, by simp, by rw [List.take_of_length_le (by simp)]⟩⟩
theorem OwnB.row {w : World} {base c : Nat} {E : TypeId} {x : Option Addr} {bs : List UInt8} (h : OwnB w base E x c bs) (hb : bs ≠ []) : ∃ g cur, x = some ⟨g, 0, none⟩ ∧ base ≤ g ∧ w.heap[g]? = some (.cells cur E (0, 0)) ∧ cur.size = c ∧ bs.length ≤ c := by
  rcases h.2 with ⟨hv, h0⟩ | ⟨g, cap, cur, hv, hbg, hg, hnc, hcm, hcs, htake⟩
  · exact absurd (List.eq_nil_of_length_eq_zero h0) hb
  · simp only [Value.slice.injEq] at hv
    obtain ⟨rfl, _, rfl⟩ := hv
    exact ⟨g, cur, rfl, hbg, hg, by omega, hnc⟩

theorem addr_zero_add (b j : Nat) : (⟨b, 0, none⟩ : Addr).add j = ⟨b, j, none⟩ := by unfold Addr.add; split <;> simp_all
theorem own_far {n M : Nat} {a : Option Addr} (hn : n ≤ M) (h : ∀ y, a = some y → M ≤ y.block) : ∀ i, i < n → a.map (·.block) = some i → False := by
  intro i hi e
  cases a with
  | none => cases e
  | some y => have := h y rfl; simp at e; omega

def StepPost (w : World) (B r g cap c : Nat) (e : Ending) (w' : World) : Prop :=
  e = .returned (.bool true) ∧ ∃ q, IsRing w' r g cap q ∧ IsRef w' B c cap q ∧ Kept (fun k => k = r ∨ k = g ∨ k = c) w w'

/-- What the loop that overwrites holds: it writes one row of its own. -/
def OverRel (w0 : World) (b n cp : Nat) (i : Value) (wr : World) : Prop :=
  ∃ j cur, i = .int .i64 (j : Nat) ∧ j ≤ n ∧ wr.heap[b]? = some (.cells cur 5 (0, 0)) ∧ cur.size = cp ∧ Kept (· = b) w0 wr

set_option maxRecDepth 100000 in
set_option maxHeartbeats 2000000 in
theorem step_put (w : World) (B B0 r g cap c : Nat) (q : List UInt8) (sec : Bool) (x : Int) (oa : Option Addr) (ol oc : Nat) (bs : List UInt8) (hr : IsRing w r g cap q) (hc : IsRef w B c cap q)
    (hl : bs.length = ol) (hb : ol ≤ oc) (hb2 : oc ≤ 140737488351232) (hsrc : IsB w oa bs) (hap : bs ≠ [] → ∀ x, oa = some x → x.block < B0) (hB : B ≤ w.heap.size) (lr : r < B) (lg : g < B) (lc : c < B) (hcr : c ≠ r) (hcg : c ≠ g)
    (l0r : B0 ≤ r) (l0g : B0 ≤ g) (l0c : B0 ≤ c) :
    Calls Try.prog 14 #[.pointer (some ⟨r, 0, none⟩), .pointer (some ⟨c, 0, none⟩), .agg #[.int .i64 0, .bool sec, .int .i64 x, .slice oa ol oc]] w (StepPost w B r g cap c) := by
  obtain ⟨i0, hi, hz0, hz1, hz2⟩ := info_parts Try.infoE5
  have Hi := Lib.hid hi
  have Hz0 := Lib.hid hz0
  have Hz1 := Lib.hid hz1
  have Hz2 := Lib.hid hz2
  have Hr := Lib.hid hr
  have Hc := Lib.hid hc
  have Hl := Lib.hid hl
  have Hsrc := Lib.hid hsrc
  have Hap := Lib.hid hap
  obtain ⟨N, hN⟩ : ∃ N, w.heap.size = N := ⟨_, rfl⟩
  have HN := Lib.hid hN
  have lBN : B ≤ N := by omega
  clear hi hz0 hz1 hz2 hr hc hl hsrc hap hN
  go_enter Try.func14, Try.ntmps14
  go_upto_region 3 with fail
  obtain ⟨w0, hw0⟩ : ∃ w0, w0 = w.alloc (.cells #[.int .i64 0, .bool sec, .int .i64 x, .slice oa ol oc] 37) := ⟨_, rfl⟩
  rw [← hw0, HN.out]
  have p0 : w0.heap[N]? = some (.cells #[.int .i64 0, .bool sec, .int .i64 x, .slice oa ol oc] 37 (0, 0)) := by rw [hw0, ← HN.out]; exact heap_alloc_new w _
  have k0 : Kept (fun _ => False) w w0 := by rw [hw0]; exact (Kept.refl _ w).alloc _
  have n0 : w0.heap.size = N + 1 := by rw [hw0, ← HN.out]; simp
  clear hw0
  have P0 := Lib.hid p0
  have K0 := Lib.hid k0
  have N0 := Lib.hid n0
  obtain ⟨M, hM⟩ : ∃ M, M = N + 1 := ⟨_, rfl⟩
  have HM := Lib.hid hM
  have lNM : N < M := by omega
  have O1 : Hid (OwnB (w0.alloc (.cells #[] 5)) M 5 (some ⟨w0.heap.size, 0, none⟩) 0 []) := OwnB.empty w0 M 5 (by omega)
  have K1 : Hid (Kept (fun _ => False) w0 (w0.alloc (.cells #[] 5))) := (Kept.refl _ w0).alloc _
  have c3 := K1.out.cell (show w0.cell? ⟨N, 3, none⟩ = some (.slice oa ol oc) by rw [cell_of_row w0 N 3 _ _ _ p0]; rfl) (fun h => h)
  have C3 : Hid (w0.cell? ⟨N, 3, none⟩ = some (.slice oa ol oc)) := (by rw [cell_of_row w0 N 3 _ _ _ p0]; rfl : w0.cell? ⟨N, 3, none⟩ = some (.slice oa ol oc))
  clear p0 k0 n0 hM
  go_wp2_with (first
    | (at_builtin; refine wpList_appendB (by rfl) (.tmp 17) (.tmp 19) 22 (by rfl) M 5 i0 Try.underlying22 Hi.out Hz0.out Hz1.out Hz2.out _ 0 0 [] (by rfl) rfl O1.out _ _ _ bs (by rfl) Hl.out ((Hsrc.out.kept K0.out (fun _ _ _ h => h)).kept K1.out (fun _ _ _ h => h)) (by omega) (by have := HM.out; have := N0.out; have := K1.out.size; omega) ?_; intro a2 c2 w2 O2 K2 hat2; clear hat2; have HO2 := Lib.hid O2; have HK2 : Hid (Kept (fun _ => False) w0 w2) := K1.out.trans' K2 (fun i hi e => by simp at e; omega); clear O2 K2)
    | (at_builtin; go_loud (refine wpList_appendB (by rfl) (.tmp 20) (.tmp 21) 22 (by rfl) M 5 i0 Try.underlying22 Hi.out Hz0.out Hz1.out Hz2.out a2 ol c2 bs (by rfl) Hl.out (by have := HO2.out.out; rw [List.nil_append] at this; exact this.kept ((Kept.refl (fun _ => False) w2).alloc _) (fun _ _ h => h)) _ 1 _ [7] (by rfl) rfl (IsB.of_heap (arr := [7]) (heap_alloc_new w2 _) 0) (by omega) (by have := HM.out; have := N0.out; have := HK2.out.size; simp; omega) ?_; intro ia ic w3 O3 K3 hat3; clear hat3; have HO3 := Lib.hid O3.out; have HK3 : Hid (Kept (fun _ => False) w0 w3) := (HK2.out.alloc _).trans' K3 (own_far (by have := N0.out; have := HM.out; omega) (fun y hy => (HO2.out.out.at y hy).1)); have c3' := HK3.out.cell C3.out (fun h => h); have hic : ol ≤ ic := (by have := HO3.out.cap.1; have := Hl.out; simp at *; omega); have hsl := fun w => run_cut_h 22 5 Try.underlying22 Try.info5 w ia (ol + 1) ic ol hic; clear O3 K3)))
  have hfit := Hr.out.fits
  have hi7 : bs = (bs ++ [7]).take ol := by have := Hl.out; rw [List.take_append_of_le_length (by omega), List.take_of_length_le (by omega)]
  have S3 : IsB w3 ia bs := by rw [hi7]; exact HO3.out.isB.take ol
  have K03 : Kept (fun _ => False) w w3 := K0.out.trans HK3.out
  obtain ⟨n1, hn1⟩ : ∃ n1, n1 = min ol (cap - q.length) := ⟨_, rfl⟩
  have hMg : ∀ y, ia = some y → M ≤ y.block := fun y hy => (HO3.out.at y hy).1
  have hicm := HO3.out.cap.2
  refine (ring_put _ r g cap n1 q (Hr.out.kept K03 (fun h => h) (fun h => h)) ia ol ic bs Hl.out hic (by unfold maxLen at hicm; omega) S3 (fun _ y hy => by have := hMg y hy; omega) hn1).mono ?_
  rintro e w4 ⟨rfl, R4, K4⟩
  have far : ∀ i, M ≤ i → ¬ (i = r ∨ i = g) := fun i hi => by omega
  have O4 : OwnB w4 M 5 ia ic (bs ++ [7]) := HO3.out.kept K4 (fun y hy => far _ (hMg y hy))
  have K14 : Kept (fun k => k = r ∨ k = g ∨ k = c) w w4 := (K03.mono (fun _ _ h => h.elim)).trans' K4 (fun _ _ h => by rcases h with h | h; exact .inl h; exact .inr (.inl h))
  have C4 : IsRef w4 B c cap q := (Hc.out.kept K03 (fun h => h) (fun _ _ h => h)).kept K4 (by omega) (fun i hi => by omega)
  have c4 := K4.cell c3' (show ¬ (N = r ∨ N = g) by omega)
  have S4 : IsB w4 oa bs := (Hsrc.out.kept K03 (fun _ _ _ h => h)).kept K4 (fun y hy hne => by have := Hap.out hne y hy; show ¬ (y.block = r ∨ y.block = g); omega)
  obtain ⟨ib, cur, rfl, _, hrow, hcs, _⟩ := O4.row (List.append_ne_nil_of_right_ne_nil _ (List.cons_ne_nil _ _))
  have lib := hMg _ rfl
  have x4 : w4.cell? ⟨ib, ol, none⟩ = some (.int .u8 7) := by
    have := O4.isB ol 7 (by have := Hl.out; rw [List.getElem?_append_right (by omega), this, Nat.sub_self]; rfl)
    obtain ⟨y, hy, hc⟩ := this
    cases hy
    rwa [addr_zero_add] at hc
  obtain ⟨S, hS⟩ : ∃ S : World → Prop, ∀ u, S u ↔ Kept (· = c) w4 u := ⟨_, fun _ => Iff.rfl⟩
  simp only at lib
  have f1 : ∀ s : WIn S, s.w.cell? ⟨N, 3, none⟩ = some (.slice oa ol oc) := fun s => Kept.cell ((hS _).1 s.h) c4 (show ¬ N = c by omega)
  have f2 : ∀ s : WIn S, s.w.cell? ⟨ib, ol, none⟩ = some (.int .u8 7) := fun s => Kept.cell ((hS _).1 s.h) x4 (show ¬ ib = c by omega)
  have f3 : ∀ s : WIn S, (convert 22 9 (.slice (some ⟨ib, 0, none⟩) ol ic)).run Try.prog s.w = .ok (.string ⟨bs.toArray⟩) s.w := fun s =>
    run_convB (P := Try.prog) s.w 22 5 9 Try.underlying22 Try.underlying5 Try.underlying9 _ bs ol ic Hl.out (by rw [hi7]; exact (O4.isB.kept ((hS _).1 s.h) (fun y hy _ => by cases hy; show ¬ ib = c; omega)).take ol)
  have f4 : ∀ s : WIn S, (convert 22 9 (.slice oa ol oc)).run Try.prog s.w = .ok (.string ⟨bs.toArray⟩) s.w := fun s =>
    run_convB (P := Try.prog) s.w 22 5 9 Try.underlying22 Try.underlying5 Try.underlying9 _ bs ol oc Hl.out (S4.kept ((hS _).1 s.h) (fun y hy hne => by have := Hap.out hne y hy; show ¬ y.block = c; omega))
  haveI : Nonempty (WIn S) := ⟨⟨w4, (hS _).2 (Kept.refl _ w4)⟩⟩
  have HS := Lib.hid hS
  have HR4 := Lib.hid R4
  have HK14 := Lib.hid K14
  have HC4 := Lib.hid C4
  have HO4 := Lib.hid O4
  have HS4 := Lib.hid S4
  have Hn1 := Lib.hid hn1
  have j1 : (0 : Int) ≤ ol := by omega
  have j2 : (ol : Int) < (ol + 1 : Nat) := by omega
  have j3 : (ol : Int) ≤ ic := by omega
  clear hS R4 K14 C4 O4 S4 hn1 hi7 S3 K03 hMg hicm K4 far hrow hcs hfit c3 c3' HO2 HK2 O1 K1
  go_wp2
  refine region_segs 26 [([0, 1, 2, 3], 4)] [5, 6, 7, 8, 9, 10, 11, 12, 13, 14, 15, 16, 17, 18, 19, 20, 21, 22, 23, 24, 25] S (by kernel_rfl) (by kernel_rfl) ((HS.out _).2 ((Kept.refl _ w4).drewN _)) ?_
  refine segs_step (fun K' hK' => ?_)
  simp only [pick, List.getElem?_cons_zero, List.getElem?_cons_succ, Option.getD_some]
  repeat (go_big_quiet_step (fail))
  refine wpQuiet_nil (hK' _ (fun Q1 hQ1 => ?_))
  clear hK' K'
  simp only [pick, List.getElem?_cons_zero, List.getElem?_cons_succ, Option.getD_some]
  go_wp2_with fail
  refine (ref_put (w4.drewN 1) B c cap n1 q (HC4.out.drewN 1) oa ol oc bs Hl.out hb hb2 (HS4.out.same rfl) Hn1.out).mono ?_
  rintro e w5 ⟨rfl, C5, K5⟩
  have K45 : Kept (· = c) w4 w5 := ⟨K5.os, K5.tape, K5.output, K5.size, K5.block⟩
  have C5' : IsRef w5 w4.heap.size c cap (q ++ bs.take n1) := C5
  have HC5 := Lib.hid C5'
  have HK45 := Lib.hid K45
  clear K5 C5 C5' K45
  go_wp2
  refine hQ1 _ _ ((HS.out _).2 HK45.out) (segs_last (fun K' hK' => ?_))
  clear hQ1 Q1
  simp only [pick, List.getElem?_cons_zero, List.getElem?_cons_succ, Option.getD_some]
  repeat (go_big_quiet_step (fail))
  refine wpQuiet_nil (hK' _ (fun Q2 hQ2 => ?_))
  clear hK' K'
  simp only [List.drop_succ_cons, List.drop_zero]
  go_wp2
  obtain ⟨ib0, cur0, e0, _, row4, size4, _⟩ := HO4.out.row (List.append_ne_nil_of_right_ne_nil _ (List.cons_ne_nil _ _))
  cases e0
  have icl := HO3.out.cap.1
  have icl2 : ol + 1 ≤ ic := by have := Hl.out; rw [List.length_append] at icl; simp at icl; omega
  have lib4 := (HO4.out.at _ rfl).2
  simp only at lib4
  have row5 := HK45.out.heap row4 (show ¬ ib = c by omega)
  have Row5 := Lib.hid row5
  have Size4 := Lib.hid size4
  clear row4 size4 row5 icl f1 f2 f3 f4 hsl c4 x4
  go_loopw [9] (OverRel w5 ib (ol + 1) ic) (fun i _ => ol + 1 - (intOf i).toNat)
  case atStart => exact ⟨0, _, rfl, Nat.zero_le _, Row5.out, Size4.out, Kept.refl _ _⟩
  case round =>
    obtain ⟨j, cur, rfl, hj, hrow, hcs, K6⟩ := hrel
    have HK6 := Lib.hid K6
    have Hrow := Lib.hid hrow
    have Hcs := Lib.hid hcs
    by_cases hlt : j < ol + 1
    · have hjc : j < cur.size := by omega
      have hcell : wr.cell? ⟨ib, j, none⟩ = some cur[j] := by rw [cell_of_row wr ib j _ _ _ hrow]; simp [hjc]
      have hz := frozen_of_row wr ib j _ _ hrow
      have k1 : (0 : Int) ≤ j := by omega
      have k2 : (j : Int) < (ol + 1 : Nat) := by omega
      obtain ⟨v, hv⟩ : ∃ v, v = cur[j] := ⟨_, rfl⟩
      rw [← hv] at hcell
      clear K6 hrow hcs hv hjc
      go_wp2
      go_roundw
      case rel => exact ⟨j + 1, _, by simp, by omega, heap_setCell_same _ _ _ _ _ _ Hrow.out, by simp; exact Hcs.out, HK6.out.setCell ⟨ib, j, none⟩ _ (fun _ => rfl)⟩
      case measure => simp [intOf]; omega
    · clear K6 hrow hcs
      go_wp2
      go_ret
      refine ⟨rfl, _, (HR4.out.kept HK45.out (show ¬ r = c by omega) (show ¬ g = c by omega)).kept HK6.out (show ¬ r = ib by omega) (show ¬ g = ib by omega),
        (HC5.out.kept HK6.out (show ¬ c = ib by omega) (fun i hi => by show ¬ i = ib; omega)).weaken (by have := HK14.out.size; omega), ?_⟩
      exact (HK14.out.trans' HK45.out (fun _ _ h => .inr (.inr h))).trans' HK6.out (fun i hi e => by subst e; have := HN.out; omega)
end Go.Proofs.Ytfkchmkaccjjoaa
