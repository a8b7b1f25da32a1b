/-
  One call of both connections (colanderlaw22.step): Taken, Peek, Read.
-/
import Derived.Test.YtfkchmkaccjjoaaEnd
import Derived.Deep.DeepCutAuto
namespace Go.Proofs.Ytfkchmkaccjjoaa
open Go.RowKit

set_option maxRecDepth 100000 in
set_option maxHeartbeats 2000000 in
theorem cstep_taken (w : World) (p : Pl) (L : Nat) (aa : Option Addr) (ac : Nat) (r : RPl) (qi qo all : List UInt8) (st : Nat) (en : Bool) (x : Int) (oa : Option Addr) (ol oc : Nat) (bs : List UInt8) (k : Nat)
    (s : StepIn w p L aa ac r qi qo all st en oa ol oc bs) (hx : x < 0 ∧ k = 0 ∨ x = k ∧ k ≤ qo.length ∨ (qo.length : Int) < x ∧ k = qo.length) :
    Calls Try.prog 26 #[.pointer (some ⟨p.c, 0, none⟩), .pointer (some ⟨r.c, 0, none⟩), .agg #[.int .i64 3, .int .i64 x, .slice oa ol oc]] w (CStepPost w p L r qi qo all st) := by
  obtain ⟨i0, hi, hz0, hz1, hz2⟩ := info_parts Try.infoE5
  have Hi := Lib.hid hi
  have Hz0 := Lib.hid hz0
  have Hz1 := Lib.hid hz1
  have Hz2 := Lib.hid hz2
  have Hs := Lib.hid s
  have hb := s.hb
  have hb2 := s.hb2
  have hLN := s.hL
  obtain ⟨N, hN⟩ : ∃ N, w.heap.size = N := ⟨_, rfl⟩
  rw [hN] at hLN
  have HN := Lib.hid hN
  have Hx := Lib.hid hx
  clear hx
  clear hi hz0 hz1 hz2 s hN
  go_enter Try.func26, Try.ntmps26
  go_upto_region 1 with fail
  obtain ⟨w0, hw0⟩ : ∃ w0, w0 = w.alloc (.cells #[.int .i64 3, .int .i64 x, .slice oa ol oc] 49) := ⟨_, rfl⟩
  rw [← hw0, HN.out]
  have p0 : w0.heap[N]? = some (.cells #[.int .i64 3, .int .i64 x, .slice oa ol oc] 49 (0, 0)) := by rw [hw0, ← HN.out]; exact heap_alloc_new w _
  have k0 : Kept (fun _ => False) w w0 := by rw [hw0]; exact (Kept.refl _ w).alloc _
  have n0 : w0.heap.size = N + 1 := by rw [hw0, ← HN.out]; simp
  clear hw0
  have P0 := Lib.hid p0
  have K0 := Lib.hid k0
  have N0 := Lib.hid n0
  obtain ⟨M, hM⟩ : ∃ M, M = N + 1 := ⟨_, rfl⟩
  have HM := Lib.hid hM
  have lNM : N < M := by omega
  have O1 : Hid (OwnB (w0.alloc (.cells #[] 5)) M 5 (some ⟨w0.heap.size, 0, none⟩) 0 []) := OwnB.empty w0 M 5 (by omega)
  have K1 : Hid (Kept (fun _ => False) w0 (w0.alloc (.cells #[] 5))) := (Kept.refl _ w0).alloc _
  have c2 := K1.out.cell (show w0.cell? ⟨N, 2, none⟩ = some (.slice oa ol oc) by rw [cell_of_row w0 N 2 _ _ _ p0]; rfl) (fun h => h)
  have hcap : ol ≤ 140737488355328 := by omega
  clear p0 k0 n0 hM
  go_upto_region 2 with (at_builtin; go_loud (refine wpList_appendB (by rfl) (.tmp 13) (.tmp 15) 22 (by rfl) M 5 i0 Try.underlying22 Hi.out Hz0.out Hz1.out Hz2.out _ 0 0 [] (by rfl) rfl O1.out _ _ _ bs (by rfl) Hs.out.hl ((Hs.out.hsrc.kept K0.out (fun _ _ _ h => h)).kept K1.out (fun _ _ _ h => h)) (by omega) (by have := HM.out; have := N0.out; have := K1.out.size; omega) ?_; intro a2 b2 w2 O2 K2 hat2; clear hat2; have HO2 : Hid (OwnB w2 M 5 a2 b2 bs) := (by have := O2.out; rw [List.nil_append] at this; exact this); have HK2 : Hid (Kept (fun _ => False) w0 w2) := K1.out.trans' K2 (fun i hi e => by simp at e; omega); clear O2 K2))
  have Kw2 : Hid (Kept (fun _ => False) w w2) := K0.out.trans HK2.out
  have HC2 := Lib.hid (Hs.out.h.kept Kw2.out (fun _ _ h => h))
  have P2 := Lib.hid (HK2.out.heap P0.out (fun h => h))
  have l2 : M ≤ w2.heap.size := by have := HM.out; have := N0.out; have := HK2.out.size; omega
  have lL2 : L ≤ w2.heap.size := by omega
  have c0' : w2.cell? ⟨N, 0, none⟩ = some (.int .i64 3) := by rw [cell_of_row w2 N 0 _ _ _ P2.out]; rfl
  have c1' : w2.cell? ⟨N, 1, none⟩ = some (.int .i64 x) := by rw [cell_of_row w2 N 1 _ _ _ P2.out]; rfl
  have c2' : w2.cell? ⟨N, 2, none⟩ = some (.slice oa ol oc) := by rw [cell_of_row w2 N 2 _ _ _ P2.out]; rfl
  have notN : Hid (¬ p.In aa N) := fun h => by have := Hs.out.lt N h; have := HN.out; omega
  have notR : Hid (¬ r.In N) := fun h => by have := Hs.out.hr N h; omega
  have ge2 : Hid (∀ y, a2 = some y → M ≤ y.block ∧ y.block < w2.heap.size) := fun y hy => HO2.out.at y hy
  have bl2 : bs.length ≤ b2 := HO2.out.cap.1
  have B2 : Hid (bs.length ≤ b2) := bl2
  have S2 : Hid (IsB w2 oa bs) := Hs.out.hsrc.kept Kw2.out (fun _ _ _ h => h)
  have Nin : Hid (∀ y, a2 = some y → ¬ p.In aa y.block) := fun y hy h => by
    have := Hs.out.lt _ h
    have := (ge2.out y hy).1
    have := HN.out
    omega
  clear c2 O1 K1 bl2 P0 K0 N0
  obtain ⟨G, hG⟩ : ∃ G, w2.heap.size = G := ⟨_, rfl⟩
  have HG := Lib.hid hG
  clear hG
  have hq := HC2.out.ho.fits
  have kq : k ≤ qo.length := by have := Hx.out; omega
  have k4 : k ≤ 4096 := by omega
  have kl : (qo.take k).length = k := by rw [List.length_take]; omega
  have gLen := Lib.hid kl
  have HR2 := Lib.hid ((Hs.out.far (aa' := aa) (a2 := a2) (ga := some ⟨G, 0, none⟩) (fun y hy => .inl (by rw [hy]; rfl)) (fun y hy => by have := (ge2.out y hy).1; have := HN.out; omega) (fun y hy => by cases hy; have := Kw2.out.size; have := HG.out; show w.heap.size ≤ G; omega)).kept Kw2.out (fun _ _ h => h) (fun _ _ h => h.elim))
  clear hq kq kl
  go_wp2_with fail
  refine (taken_any _ p L _ _ _ _ _ _ _ HC2.out x k Hx.out).mono ?_
  rintro e w3 ⟨rfl, G3, C3, K3⟩
  rw [HG.out] at G3
  rw [HG.out]
  have HC3 := Lib.hid C3
  have HK3 : Hid (Kept (p.In aa) w2 w3) := K3
  have RowG3 := Lib.hid G3
  have lG3 : Hid (G < w3.heap.size) := (Array.getElem?_eq_some_iff.1 G3).1
  have HR3 := Lib.hid (HR2.out.kept HK3.out Hs.out.apart (fun i _ h => by
    rcases h with h | h
    · exact .inl (by have := Hs.out.h.hL; omega)
    · exact .inr (.inl h)))
  have HX3 : Hid (∀ i, Xm L aa aa a2 (some ⟨G, 0, none⟩) i → i < w3.heap.size) := by
    have hc0 := HC2.out.hall.at
    have hz := HK3.out.size
    rintro i (h | h | h | h | h)
    · omega
    · have := map_lt (fun y hy => (hc0 y hy).2) h; omega
    · have := map_lt (fun y hy => (hc0 y hy).2) h; omega
    · have := map_lt (fun y hy => (ge2.out y hy).2) h; omega
    · simp at h; have := lG3.out; omega
  have c2b := HK3.out.cell c2' notN.out
  have c1b := HK3.out.cell c1' notN.out
  have GnotR : Hid (¬ r.In G) := fun h => by have := Hs.out.hr _ h; have := HG.out; omega
  clear C3 K3 G3 c0' c1' c2'
  go_wp2_with fail
  refine (rtaken_any _ r _ _ _ _ _ _ HR3.out HX3.out x k Hx.out).mono ?_
  rintro e w5 ⟨x5, b5, rfl, S6, R5, K5⟩
  have HR5 := Lib.hid R5
  have HK45 : Hid (Kept r.In w3 w5) := K5
  have st4 := run_convB (P := Try.prog) w5 22 5 9 Try.underlying22 Try.underlying5 Try.underlying9 x5 (qo.take k) k b5 gLen.out S6
  have c2c := HK45.out.cell c2b notR.out
  clear R5 K5 c2b S6
  obtain ⟨aa5, haa5⟩ : ∃ aa5, aa5 = aa := ⟨_, rfl⟩
  obtain ⟨ac5, hac5⟩ : ∃ ac5, ac5 = ac := ⟨_, rfl⟩
  have HC5 := Lib.hid (HC3.out.kept HK45.out (fun b hb h => Hs.out.apart b h hb))
  have gNin : Hid (∀ b, (some (⟨G, 0, none⟩ : Addr)).map (·.block) = some b → ¬ p.In aa5 b) := fun b h hb => by
    simp at h
    rw [haa5] at hb
    have := Hs.out.lt _ hb
    have := HG.out
    have := Kw2.out.size
    omega
  have gge : Hid (∀ i, (some (⟨G, 0, none⟩ : Addr)).map (·.block) = some i → N ≤ i) := fun b h => by
    simp at h
    have := HG.out
    omega
  have gG : Hid (w2.heap.size ≤ G) := (by have := HG.out; omega : w2.heap.size ≤ G)
  rw [← haa5, ← hac5] at HC5
  rw [← haa5] at HR5
  have HK25 : Hid (Kept (fun i => p.In aa i ∨ r.In i) w2 w5) := (HK3.out.mono (fun _ _ h => .inl h)).trans (HK45.out.mono (fun _ _ h => .inr h))
  have HK5 : Hid (Kept (fun i => p.B ≤ i) w w5) := (Kw2.out.mono (fun _ _ h => h.elim)).trans' HK25.out (fun i _ h => by
    rcases h with h | h
    · exact Hs.out.ge i h
    · have := Hs.out.hr i h; have := Hs.out.hBM; omega)
  have O5 : Hid (OwnB w5 M 5 a2 b2 bs) := HO2.out.kept HK25.out (fun y hy h => by
    rcases h with h | h
    · exact Nin.out y hy h
    · have := Hs.out.hr _ h; have := (ge2.out y hy).1; omega)
  have Nin5 : Hid (∀ y, a2 = some y → ¬ p.In aa5 y.block) := by rw [haa5]; exact Nin
  have S5 : Hid (IsB w5 oa bs) := S2.out.kept HK25.out (fun y hy hne h => by
    have e1 := Hs.out.hap hne y hy
    rcases h with h | h
    · have := Hs.out.ge _ h; omega
    · have := Hs.out.hr _ h; have := Hs.out.hBM; omega)
  have RowG := Lib.hid (HK45.out.heap RowG3.out GnotR.out)
  have st3 := run_convB (P := Try.prog) w5 22 5 9 Try.underlying22 Try.underlying5 Try.underlying9 (some ⟨G, 0, none⟩) (qo.take k) k k gLen.out (IsB.of_heap (arr := qo.take k) RowG.out 0)
  clear haa5 hac5 HK25 HK3 HK45

  have st1 := run_convB (P := Try.prog) w5 22 5 9 Try.underlying22 Try.underlying5 Try.underlying9 a2 bs ol b2 Hs.out.hl O5.out.isB
  have st2 := run_convB (P := Try.prog) w5 22 5 9 Try.underlying22 Try.underlying5 Try.underlying9 oa bs ol oc Hs.out.hl S5.out
  go_wp2_with fail
  clear st1 st2 st3 st4
  go_loopw [11] (OverRel2 w5 a2 ol) (fun i _ => ol - (intOf i).toNat)
  case atStart =>
    refine ⟨0, rfl, Nat.zero_le _, fun h => ?_, Kept.refl _ _⟩
    obtain ⟨g, cur, e1, _, e2, e3, e4⟩ := O5.out.row (fun e => by have := Hs.out.hl; rw [e] at this; simp at this; omega)
    exact ⟨g, cur, e1, e2, by have := Hs.out.hl; omega⟩
  case round =>
    obtain ⟨j, rfl, hj, hrow, K6⟩ := hrel
    have HK6 := Lib.hid K6
    clear K6
    by_cases hlt : j < ol
    · obtain ⟨g, cur, rfl, hrow, hcs⟩ := hrow (by omega)
      have Hrow := Lib.hid hrow
      have Hcs := Lib.hid hcs
      have hjc : j < cur.size := by omega
      have hcell : wr.cell? ⟨g, j, none⟩ = some cur[j] := by rw [cell_of_row wr g j _ _ _ hrow]; simp [hjc]
      have hz := frozen_of_row wr g j _ _ hrow
      have k1 : (0 : Int) ≤ j := by omega
      have k2 : (j : Int) < ol := by omega
      obtain ⟨v, hv⟩ : ∃ v, v = cur[j] := ⟨_, rfl⟩
      rw [← hv] at hcell
      clear hrow hcs hv hjc
      go_wp2
      go_roundw
      case rel => exact ⟨j + 1, by simp, by omega, fun _ => ⟨g, _, rfl, heap_setCell_same _ _ _ _ _ _ Hrow.out, by simp; exact Hcs.out⟩, HK6.out.setCell ⟨g, j, none⟩ _ (fun _ => rfl)⟩
      case measure => simp [intOf]; omega
    · clear hrow
      go_wp2_with fail
      go_loopw [12] (OverRel2 wr (some ⟨G, 0, none⟩) k) (fun i _ => k - (intOf i).toNat)
      case atStart =>
        refine ⟨0, rfl, Nat.zero_le _, fun h => ?_, Kept.refl _ _⟩
        have hne : ¬ (a2.map (·.block) = some G) := fun e => by have := map_lt (fun y hy => (ge2.out y hy).2) e; have := gG.out; omega
        exact ⟨G, _, rfl, HK6.out.heap RowG.out hne, by have := gLen.out; simp only [List.size_toArray, List.length_map]; omega⟩
      case round =>
        obtain ⟨j2, rfl, hj2, hrow, K7⟩ := hrel
        have HK7 := Lib.hid K7
        clear K7
        by_cases hlt2 : j2 < k
        · obtain ⟨g, cur, hg, hrow, hcs⟩ := hrow (by omega)
          simp only [Option.some.injEq, Addr.mk.injEq, and_true] at hg
          try subst hg
          have Hrow := Lib.hid hrow
          have Hcs := Lib.hid hcs
          have hjc : j2 < cur.size := by omega
          have hcell : wr.cell? ⟨G, j2, none⟩ = some cur[j2] := by rw [cell_of_row wr G j2 _ _ _ hrow]; simp [hjc]
          have hz := frozen_of_row wr G j2 _ _ hrow
          have k1 : (0 : Int) ≤ j2 := by omega
          have k2 : (j2 : Int) < k := by omega
          obtain ⟨v, hv⟩ : ∃ v, v = cur[j2] := ⟨_, rfl⟩
          rw [← hv] at hcell
          clear hrow hcs hv hjc
          go_wp2
          go_roundw
          case rel => exact ⟨j2 + 1, by simp, by omega, fun _ => ⟨_, _, rfl, heap_setCell_same _ _ _ _ _ _ Hrow.out, by simp; exact Hcs.out⟩, HK7.out.setCell ⟨G, j2, none⟩ _ (fun _ => rfl)⟩
          case measure => simp [intOf]; omega
        · clear hrow
          go_wp2
          go_ret
          have K57 : Kept (fun i => a2.map (·.block) = some i ∨ ((some ⟨G, 0, none⟩) : Option Addr).map (·.block) = some i) w5 wr := (HK6.out.mono (fun _ _ h => .inl h)).trans (HK7.out.mono (fun _ _ h => .inr h))
          have lw5 := HK5.out.size
          refine ⟨rfl, aa5, ac5, qi, (qo.drop k), all, (settled st (qo.drop k)), en, HC5.out.kept K57 (fun b hb h => ?_), (HR5.out.kept K57 (fun i hi h => ?_) (fun i _ h => ?_)).mono (fun i _ h => ?_) ?_, HK5.out.trans' K57 (fun i hi h => ?_), CNext.taken _ _ _ _ _⟩
          · rcases h with h | h
            · cases ha : a2 with
              | none => rw [ha] at h; cases h
              | some y => rw [ha] at h; simp at h; exact Nin5.out y ha (by rw [h]; exact hb)
            · exact gNin.out b h hb
          · have e1 := Hs.out.hr i hi
            rcases h with h | h
            · have := map_ge (fun y hy => (ge2.out y hy).1) h; omega
            · have := gge.out i h; have := HN.out; omega
          · rcases h with h | h
            · exact .inr (.inr (.inr (.inl h)))
            · exact .inr (.inr (.inr (.inr h)))
          · rcases h with h | h
            · exact .inl h
            · exact .inr (.inr (.inl h))
          · exact ⟨.inl (Hs.out.hr _ (.inl rfl)).2, .inl (Hs.out.hr _ (.inr (.inl rfl))).2, .inl (Hs.out.hr _ (.inr (.inr rfl))).2⟩
          · have e1 := Hs.out.h.hL
            have e2 := Hs.out.hBM
            rcases h with h | h
            · have := map_ge (fun y hy => (ge2.out y hy).1) h; omega
            · have := gge.out i h; have := HN.out; omega

set_option maxRecDepth 100000 in
set_option maxHeartbeats 2000000 in
theorem cstep_peek (w : World) (p : Pl) (L : Nat) (aa : Option Addr) (ac : Nat) (r : RPl) (qi qo all : List UInt8) (st : Nat) (en : Bool) (x : Int) (oa : Option Addr) (ol oc : Nat) (bs : List UInt8) (k : Nat)
    (s : StepIn w p L aa ac r qi qo all st en oa ol oc bs) (hx : x < 0 ∧ k = 0 ∨ x = k ∧ k ≤ qi.length ∨ (qi.length : Int) < x ∧ k = qi.length) :
    Calls Try.prog 26 #[.pointer (some ⟨p.c, 0, none⟩), .pointer (some ⟨r.c, 0, none⟩), .agg #[.int .i64 4, .int .i64 x, .slice oa ol oc]] w (CStepPost w p L r qi qo all st) := by
  obtain ⟨i0, hi, hz0, hz1, hz2⟩ := info_parts Try.infoE5
  have Hi := Lib.hid hi
  have Hz0 := Lib.hid hz0
  have Hz1 := Lib.hid hz1
  have Hz2 := Lib.hid hz2
  have Hs := Lib.hid s
  have hb := s.hb
  have hb2 := s.hb2
  have hLN := s.hL
  obtain ⟨N, hN⟩ : ∃ N, w.heap.size = N := ⟨_, rfl⟩
  rw [hN] at hLN
  have HN := Lib.hid hN
  have Hx := Lib.hid hx
  clear hx
  clear hi hz0 hz1 hz2 s hN
  go_enter Try.func26, Try.ntmps26
  go_upto_region 1 with fail
  obtain ⟨w0, hw0⟩ : ∃ w0, w0 = w.alloc (.cells #[.int .i64 4, .int .i64 x, .slice oa ol oc] 49) := ⟨_, rfl⟩
  rw [← hw0, HN.out]
  have p0 : w0.heap[N]? = some (.cells #[.int .i64 4, .int .i64 x, .slice oa ol oc] 49 (0, 0)) := by rw [hw0, ← HN.out]; exact heap_alloc_new w _
  have k0 : Kept (fun _ => False) w w0 := by rw [hw0]; exact (Kept.refl _ w).alloc _
  have n0 : w0.heap.size = N + 1 := by rw [hw0, ← HN.out]; simp
  clear hw0
  have P0 := Lib.hid p0
  have K0 := Lib.hid k0
  have N0 := Lib.hid n0
  obtain ⟨M, hM⟩ : ∃ M, M = N + 1 := ⟨_, rfl⟩
  have HM := Lib.hid hM
  have lNM : N < M := by omega
  have O1 : Hid (OwnB (w0.alloc (.cells #[] 5)) M 5 (some ⟨w0.heap.size, 0, none⟩) 0 []) := OwnB.empty w0 M 5 (by omega)
  have K1 : Hid (Kept (fun _ => False) w0 (w0.alloc (.cells #[] 5))) := (Kept.refl _ w0).alloc _
  have c2 := K1.out.cell (show w0.cell? ⟨N, 2, none⟩ = some (.slice oa ol oc) by rw [cell_of_row w0 N 2 _ _ _ p0]; rfl) (fun h => h)
  have hcap : ol ≤ 140737488355328 := by omega
  clear p0 k0 n0 hM
  go_upto_region 2 with (at_builtin; go_loud (refine wpList_appendB (by rfl) (.tmp 13) (.tmp 15) 22 (by rfl) M 5 i0 Try.underlying22 Hi.out Hz0.out Hz1.out Hz2.out _ 0 0 [] (by rfl) rfl O1.out _ _ _ bs (by rfl) Hs.out.hl ((Hs.out.hsrc.kept K0.out (fun _ _ _ h => h)).kept K1.out (fun _ _ _ h => h)) (by omega) (by have := HM.out; have := N0.out; have := K1.out.size; omega) ?_; intro a2 b2 w2 O2 K2 hat2; clear hat2; have HO2 : Hid (OwnB w2 M 5 a2 b2 bs) := (by have := O2.out; rw [List.nil_append] at this; exact this); have HK2 : Hid (Kept (fun _ => False) w0 w2) := K1.out.trans' K2 (fun i hi e => by simp at e; omega); clear O2 K2))
  have Kw2 : Hid (Kept (fun _ => False) w w2) := K0.out.trans HK2.out
  have HC2 := Lib.hid (Hs.out.h.kept Kw2.out (fun _ _ h => h))
  have P2 := Lib.hid (HK2.out.heap P0.out (fun h => h))
  have l2 : M ≤ w2.heap.size := by have := HM.out; have := N0.out; have := HK2.out.size; omega
  have lL2 : L ≤ w2.heap.size := by omega
  have c0' : w2.cell? ⟨N, 0, none⟩ = some (.int .i64 4) := by rw [cell_of_row w2 N 0 _ _ _ P2.out]; rfl
  have c1' : w2.cell? ⟨N, 1, none⟩ = some (.int .i64 x) := by rw [cell_of_row w2 N 1 _ _ _ P2.out]; rfl
  have c2' : w2.cell? ⟨N, 2, none⟩ = some (.slice oa ol oc) := by rw [cell_of_row w2 N 2 _ _ _ P2.out]; rfl
  have notN : Hid (¬ p.In aa N) := fun h => by have := Hs.out.lt N h; have := HN.out; omega
  have notR : Hid (¬ r.In N) := fun h => by have := Hs.out.hr N h; omega
  have ge2 : Hid (∀ y, a2 = some y → M ≤ y.block ∧ y.block < w2.heap.size) := fun y hy => HO2.out.at y hy
  have bl2 : bs.length ≤ b2 := HO2.out.cap.1
  have B2 : Hid (bs.length ≤ b2) := bl2
  have S2 : Hid (IsB w2 oa bs) := Hs.out.hsrc.kept Kw2.out (fun _ _ _ h => h)
  have Nin : Hid (∀ y, a2 = some y → ¬ p.In aa y.block) := fun y hy h => by
    have := Hs.out.lt _ h
    have := (ge2.out y hy).1
    have := HN.out
    omega
  clear c2 O1 K1 bl2 P0 K0 N0
  obtain ⟨G, hG⟩ : ∃ G, w2.heap.size = G := ⟨_, rfl⟩
  have HG := Lib.hid hG
  clear hG
  have hq := HC2.out.hi.fits
  have kq : k ≤ qi.length := by have := Hx.out; omega
  have k4 : k ≤ 4096 := by omega
  have kl : (qi.take k).length = k := by rw [List.length_take]; omega
  have gLen := Lib.hid kl
  have HR2 := Lib.hid ((Hs.out.far (aa' := aa) (a2 := a2) (ga := some ⟨G, 0, none⟩) (fun y hy => .inl (by rw [hy]; rfl)) (fun y hy => by have := (ge2.out y hy).1; have := HN.out; omega) (fun y hy => by cases hy; have := Kw2.out.size; have := HG.out; show w.heap.size ≤ G; omega)).kept Kw2.out (fun _ _ h => h) (fun _ _ h => h.elim))
  clear hq kq kl
  go_wp2_with fail
  refine (peekc_any _ p L _ _ _ _ _ _ _ HC2.out x k Hx.out).mono ?_
  rintro e w3 ⟨rfl, G3, C3, K3⟩
  rw [HG.out] at G3
  rw [HG.out]
  have HC3 := Lib.hid C3
  have HK3 : Hid (Kept (p.In aa) w2 w3) := K3
  have RowG3 := Lib.hid G3
  have lG3 : Hid (G < w3.heap.size) := (Array.getElem?_eq_some_iff.1 G3).1
  have HR3 := Lib.hid (HR2.out.kept HK3.out Hs.out.apart (fun i _ h => by
    rcases h with h | h
    · exact .inl (by have := Hs.out.h.hL; omega)
    · exact .inr (.inl h)))
  have HX3 : Hid (∀ i, Xm L aa aa a2 (some ⟨G, 0, none⟩) i → i < w3.heap.size) := by
    have hc0 := HC2.out.hall.at
    have hz := HK3.out.size
    rintro i (h | h | h | h | h)
    · omega
    · have := map_lt (fun y hy => (hc0 y hy).2) h; omega
    · have := map_lt (fun y hy => (hc0 y hy).2) h; omega
    · have := map_lt (fun y hy => (ge2.out y hy).2) h; omega
    · simp at h; have := lG3.out; omega
  have c2b := HK3.out.cell c2' notN.out
  have c1b := HK3.out.cell c1' notN.out
  have GnotR : Hid (¬ r.In G) := fun h => by have := Hs.out.hr _ h; have := HG.out; omega
  clear C3 K3 G3 c0' c1' c2'
  have r0 := HR3.out.c0
  obtain ⟨S, hS⟩ : ∃ S : World → Prop, ∀ u, S u ↔ Kept (fun _ => False) w3 u := ⟨_, fun _ => Iff.rfl⟩
  have f1 : ∀ s : WIn S, s.w.cell? ⟨N, 1, none⟩ = some (.int .i64 x) := fun s => Kept.cell ((hS _).1 s.h) c1b (fun h => h)
  have f2 : ∀ s : WIn S, s.w.cell? ⟨r.c, 0, none⟩ = some (.pointer (some ⟨r.i, 0, none⟩)) := fun s => Kept.cell ((hS _).1 s.h) r0 (fun h => h)
  haveI : Nonempty (WIn S) := ⟨⟨w3, (hS _).2 (Kept.refl _ w3)⟩⟩
  have HS := Lib.hid hS
  clear hS r0 c1b
  go_wp2_with fail
  refine region_segs 8 [([0, 1, 2, 3, 4, 5], 6), ([], 7)] [] S (by kernel_rfl) (by kernel_rfl) ((HS.out _).2 ((Kept.refl _ w3).drewN _)) ?_
  refine segs_step (fun K' hK' => ?_)
  simp only [pick, List.getElem?_cons_zero, List.getElem?_cons_succ, Option.getD_some]
  repeat (go_big_quiet_step (fail))
  refine wpQuiet_nil (hK' _ (fun Q1 hQ1 => ?_))
  clear hK' K'
  simp only [pick, List.getElem?_cons_zero, List.getElem?_cons_succ, Option.getD_some]
  go_wp2_with fail
  refine (ref_peek _ 0 r.i r.mi k x qi (HR3.out.drewN 1).hi.ref Hx.out).mono ?_
  rintro e w5 ⟨x5, b5, rfl, O6, K6⟩
  have S6 : IsB w5 x5 (qi.take k) := O6.isB
  have HKs : Hid (Kept (fun _ => False) w3 w5) := ((Kept.refl _ w3).drewN 1).trans K6
  have HR5 := Lib.hid (HR3.out.kept HKs.out (fun _ _ h => h) (fun _ _ h => h.elim))
  clear O6 K6
  have HK45 : Hid (Kept r.In w3 w5) := HKs.out.mono (fun _ _ h => h.elim)
  have st4 := run_convB (P := Try.prog) w5 22 5 9 Try.underlying22 Try.underlying5 Try.underlying9 x5 (qi.take k) k b5 gLen.out S6
  have c2c := HK45.out.cell c2b notR.out
  clear c2b S6
  go_wp2
  refine hQ1 _ _ ((HS.out _).2 HKs.out) (segs_step (fun K' hK' => wpQuiet_nil (hK' _ (fun Q2 hQ2 => ?_))))
  clear hK' K' hQ1 Q1
  simp only [pick, List.getElem?_cons_zero, List.getElem?_cons_succ, Option.getD_some]
  go_wp2
  refine hQ2 _ _ ((HS.out _).2 HKs.out) (segs_last (fun K' hK' => ?_))
  clear hQ2 Q2
  simp only [pick]
  refine wpQuiet_nil (hK' _ (fun Q3 hQ3 => ?_))
  clear hK' K' f1 f2
  simp only [List.drop_succ_cons, List.drop_zero]
  obtain ⟨aa5, haa5⟩ : ∃ aa5, aa5 = aa := ⟨_, rfl⟩
  obtain ⟨ac5, hac5⟩ : ∃ ac5, ac5 = ac := ⟨_, rfl⟩
  have HC5 := Lib.hid (HC3.out.kept HK45.out (fun b hb h => Hs.out.apart b h hb))
  have gNin : Hid (∀ b, (some (⟨G, 0, none⟩ : Addr)).map (·.block) = some b → ¬ p.In aa5 b) := fun b h hb => by
    simp at h
    rw [haa5] at hb
    have := Hs.out.lt _ hb
    have := HG.out
    have := Kw2.out.size
    omega
  have gge : Hid (∀ i, (some (⟨G, 0, none⟩ : Addr)).map (·.block) = some i → N ≤ i) := fun b h => by
    simp at h
    have := HG.out
    omega
  have gG : Hid (w2.heap.size ≤ G) := (by have := HG.out; omega : w2.heap.size ≤ G)
  rw [← haa5, ← hac5] at HC5
  rw [← haa5] at HR5
  have HK25 : Hid (Kept (fun i => p.In aa i ∨ r.In i) w2 w5) := (HK3.out.mono (fun _ _ h => .inl h)).trans (HK45.out.mono (fun _ _ h => .inr h))
  have HK5 : Hid (Kept (fun i => p.B ≤ i) w w5) := (Kw2.out.mono (fun _ _ h => h.elim)).trans' HK25.out (fun i _ h => by
    rcases h with h | h
    · exact Hs.out.ge i h
    · have := Hs.out.hr i h; have := Hs.out.hBM; omega)
  have O5 : Hid (OwnB w5 M 5 a2 b2 bs) := HO2.out.kept HK25.out (fun y hy h => by
    rcases h with h | h
    · exact Nin.out y hy h
    · have := Hs.out.hr _ h; have := (ge2.out y hy).1; omega)
  have Nin5 : Hid (∀ y, a2 = some y → ¬ p.In aa5 y.block) := by rw [haa5]; exact Nin
  have S5 : Hid (IsB w5 oa bs) := S2.out.kept HK25.out (fun y hy hne h => by
    have e1 := Hs.out.hap hne y hy
    rcases h with h | h
    · have := Hs.out.ge _ h; omega
    · have := Hs.out.hr _ h; have := Hs.out.hBM; omega)
  have RowG := Lib.hid (HK45.out.heap RowG3.out GnotR.out)
  have st3 := run_convB (P := Try.prog) w5 22 5 9 Try.underlying22 Try.underlying5 Try.underlying9 (some ⟨G, 0, none⟩) (qi.take k) k k gLen.out (IsB.of_heap (arr := qi.take k) RowG.out 0)
  clear haa5 hac5 HK25 HK3 HK45

  have st1 := run_convB (P := Try.prog) w5 22 5 9 Try.underlying22 Try.underlying5 Try.underlying9 a2 bs ol b2 Hs.out.hl O5.out.isB
  have st2 := run_convB (P := Try.prog) w5 22 5 9 Try.underlying22 Try.underlying5 Try.underlying9 oa bs ol oc Hs.out.hl S5.out
  go_wp2_with fail
  clear st1 st2 st3 st4
  go_loopw [11] (OverRel2 w5 a2 ol) (fun i _ => ol - (intOf i).toNat)
  case atStart =>
    refine ⟨0, rfl, Nat.zero_le _, fun h => ?_, Kept.refl _ _⟩
    obtain ⟨g, cur, e1, _, e2, e3, e4⟩ := O5.out.row (fun e => by have := Hs.out.hl; rw [e] at this; simp at this; omega)
    exact ⟨g, cur, e1, e2, by have := Hs.out.hl; omega⟩
  case round =>
    obtain ⟨j, rfl, hj, hrow, K6⟩ := hrel
    have HK6 := Lib.hid K6
    clear K6
    by_cases hlt : j < ol
    · obtain ⟨g, cur, rfl, hrow, hcs⟩ := hrow (by omega)
      have Hrow := Lib.hid hrow
      have Hcs := Lib.hid hcs
      have hjc : j < cur.size := by omega
      have hcell : wr.cell? ⟨g, j, none⟩ = some cur[j] := by rw [cell_of_row wr g j _ _ _ hrow]; simp [hjc]
      have hz := frozen_of_row wr g j _ _ hrow
      have k1 : (0 : Int) ≤ j := by omega
      have k2 : (j : Int) < ol := by omega
      obtain ⟨v, hv⟩ : ∃ v, v = cur[j] := ⟨_, rfl⟩
      rw [← hv] at hcell
      clear hrow hcs hv hjc
      go_wp2
      go_roundw
      case rel => exact ⟨j + 1, by simp, by omega, fun _ => ⟨g, _, rfl, heap_setCell_same _ _ _ _ _ _ Hrow.out, by simp; exact Hcs.out⟩, HK6.out.setCell ⟨g, j, none⟩ _ (fun _ => rfl)⟩
      case measure => simp [intOf]; omega
    · clear hrow
      go_wp2_with fail
      go_loopw [12] (OverRel2 wr (some ⟨G, 0, none⟩) k) (fun i _ => k - (intOf i).toNat)
      case atStart =>
        refine ⟨0, rfl, Nat.zero_le _, fun h => ?_, Kept.refl _ _⟩
        have hne : ¬ (a2.map (·.block) = some G) := fun e => by have := map_lt (fun y hy => (ge2.out y hy).2) e; have := gG.out; omega
        exact ⟨G, _, rfl, HK6.out.heap RowG.out hne, by have := gLen.out; simp only [List.size_toArray, List.length_map]; omega⟩
      case round =>
        obtain ⟨j2, rfl, hj2, hrow, K7⟩ := hrel
        have HK7 := Lib.hid K7
        clear K7
        by_cases hlt2 : j2 < k
        · obtain ⟨g, cur, hg, hrow, hcs⟩ := hrow (by omega)
          simp only [Option.some.injEq, Addr.mk.injEq, and_true] at hg
          try subst hg
          have Hrow := Lib.hid hrow
          have Hcs := Lib.hid hcs
          have hjc : j2 < cur.size := by omega
          have hcell : wr.cell? ⟨G, j2, none⟩ = some cur[j2] := by rw [cell_of_row wr G j2 _ _ _ hrow]; simp [hjc]
          have hz := frozen_of_row wr G j2 _ _ hrow
          have k1 : (0 : Int) ≤ j2 := by omega
          have k2 : (j2 : Int) < k := by omega
          obtain ⟨v, hv⟩ : ∃ v, v = cur[j2] := ⟨_, rfl⟩
          rw [← hv] at hcell
          clear hrow hcs hv hjc
          go_wp2
          go_roundw
          case rel => exact ⟨j2 + 1, by simp, by omega, fun _ => ⟨_, _, rfl, heap_setCell_same _ _ _ _ _ _ Hrow.out, by simp; exact Hcs.out⟩, HK7.out.setCell ⟨G, j2, none⟩ _ (fun _ => rfl)⟩
          case measure => simp [intOf]; omega
        · clear hrow
          go_wp2
          go_ret
          have K57 : Kept (fun i => a2.map (·.block) = some i ∨ ((some ⟨G, 0, none⟩) : Option Addr).map (·.block) = some i) w5 wr := (HK6.out.mono (fun _ _ h => .inl h)).trans (HK7.out.mono (fun _ _ h => .inr h))
          have lw5 := HK5.out.size
          refine ⟨rfl, aa5, ac5, qi, qo, all, st, en, HC5.out.kept K57 (fun b hb h => ?_), (HR5.out.kept K57 (fun i hi h => ?_) (fun i _ h => ?_)).mono (fun i _ h => ?_) ?_, HK5.out.trans' K57 (fun i hi h => ?_), CNext.same _ _ _ _⟩
          · rcases h with h | h
            · cases ha : a2 with
              | none => rw [ha] at h; cases h
              | some y => rw [ha] at h; simp at h; exact Nin5.out y ha (by rw [h]; exact hb)
            · exact gNin.out b h hb
          · have e1 := Hs.out.hr i hi
            rcases h with h | h
            · have := map_ge (fun y hy => (ge2.out y hy).1) h; omega
            · have := gge.out i h; have := HN.out; omega
          · rcases h with h | h
            · exact .inr (.inr (.inr (.inl h)))
            · exact .inr (.inr (.inr (.inr h)))
          · rcases h with h | h
            · exact .inl h
            · exact .inr (.inr (.inl h))
          · exact ⟨.inl (Hs.out.hr _ (.inl rfl)).2, .inl (Hs.out.hr _ (.inr (.inl rfl))).2, .inl (Hs.out.hr _ (.inr (.inr rfl))).2⟩
          · have e1 := Hs.out.h.hL
            have e2 := Hs.out.hBM
            rcases h with h | h
            · have := map_ge (fun y hy => (ge2.out y hy).1) h; omega
            · have := gge.out i h; have := HN.out; omega

set_option maxRecDepth 100000 in
set_option maxHeartbeats 2000000 in
theorem cstep_read (w : World) (p : Pl) (L : Nat) (aa : Option Addr) (ac : Nat) (r : RPl) (qi qo all : List UInt8) (st : Nat) (en : Bool) (x : Int) (oa : Option Addr) (ol oc : Nat) (bs : List UInt8) (k : Nat)
    (s : StepIn w p L aa ac r qi qo all st en oa ol oc bs) (hx : x < 0 ∧ k = 0 ∨ x = k ∧ k ≤ qi.length ∨ (qi.length : Int) < x ∧ k = qi.length) :
    Calls Try.prog 26 #[.pointer (some ⟨p.c, 0, none⟩), .pointer (some ⟨r.c, 0, none⟩), .agg #[.int .i64 5, .int .i64 x, .slice oa ol oc]] w (CStepPost w p L r qi qo all st) := by
  obtain ⟨i0, hi, hz0, hz1, hz2⟩ := info_parts Try.infoE5
  have Hi := Lib.hid hi
  have Hz0 := Lib.hid hz0
  have Hz1 := Lib.hid hz1
  have Hz2 := Lib.hid hz2
  have Hs := Lib.hid s
  have hb := s.hb
  have hb2 := s.hb2
  have hLN := s.hL
  obtain ⟨N, hN⟩ : ∃ N, w.heap.size = N := ⟨_, rfl⟩
  rw [hN] at hLN
  have HN := Lib.hid hN
  have Hx := Lib.hid hx
  clear hx
  clear hi hz0 hz1 hz2 s hN
  go_enter Try.func26, Try.ntmps26
  go_upto_region 1 with fail
  obtain ⟨w0, hw0⟩ : ∃ w0, w0 = w.alloc (.cells #[.int .i64 5, .int .i64 x, .slice oa ol oc] 49) := ⟨_, rfl⟩
  rw [← hw0, HN.out]
  have p0 : w0.heap[N]? = some (.cells #[.int .i64 5, .int .i64 x, .slice oa ol oc] 49 (0, 0)) := by rw [hw0, ← HN.out]; exact heap_alloc_new w _
  have k0 : Kept (fun _ => False) w w0 := by rw [hw0]; exact (Kept.refl _ w).alloc _
  have n0 : w0.heap.size = N + 1 := by rw [hw0, ← HN.out]; simp
  clear hw0
  have P0 := Lib.hid p0
  have K0 := Lib.hid k0
  have N0 := Lib.hid n0
  obtain ⟨M, hM⟩ : ∃ M, M = N + 1 := ⟨_, rfl⟩
  have HM := Lib.hid hM
  have lNM : N < M := by omega
  have O1 : Hid (OwnB (w0.alloc (.cells #[] 5)) M 5 (some ⟨w0.heap.size, 0, none⟩) 0 []) := OwnB.empty w0 M 5 (by omega)
  have K1 : Hid (Kept (fun _ => False) w0 (w0.alloc (.cells #[] 5))) := (Kept.refl _ w0).alloc _
  have c2 := K1.out.cell (show w0.cell? ⟨N, 2, none⟩ = some (.slice oa ol oc) by rw [cell_of_row w0 N 2 _ _ _ p0]; rfl) (fun h => h)
  have hcap : ol ≤ 140737488355328 := by omega
  clear p0 k0 n0 hM
  go_upto_region 2 with (at_builtin; go_loud (refine wpList_appendB (by rfl) (.tmp 13) (.tmp 15) 22 (by rfl) M 5 i0 Try.underlying22 Hi.out Hz0.out Hz1.out Hz2.out _ 0 0 [] (by rfl) rfl O1.out _ _ _ bs (by rfl) Hs.out.hl ((Hs.out.hsrc.kept K0.out (fun _ _ _ h => h)).kept K1.out (fun _ _ _ h => h)) (by omega) (by have := HM.out; have := N0.out; have := K1.out.size; omega) ?_; intro a2 b2 w2 O2 K2 hat2; clear hat2; have HO2 : Hid (OwnB w2 M 5 a2 b2 bs) := (by have := O2.out; rw [List.nil_append] at this; exact this); have HK2 : Hid (Kept (fun _ => False) w0 w2) := K1.out.trans' K2 (fun i hi e => by simp at e; omega); clear O2 K2))
  have Kw2 : Hid (Kept (fun _ => False) w w2) := K0.out.trans HK2.out
  have HC2 := Lib.hid (Hs.out.h.kept Kw2.out (fun _ _ h => h))
  have P2 := Lib.hid (HK2.out.heap P0.out (fun h => h))
  have l2 : M ≤ w2.heap.size := by have := HM.out; have := N0.out; have := HK2.out.size; omega
  have lL2 : L ≤ w2.heap.size := by omega
  have c0' : w2.cell? ⟨N, 0, none⟩ = some (.int .i64 5) := by rw [cell_of_row w2 N 0 _ _ _ P2.out]; rfl
  have c1' : w2.cell? ⟨N, 1, none⟩ = some (.int .i64 x) := by rw [cell_of_row w2 N 1 _ _ _ P2.out]; rfl
  have c2' : w2.cell? ⟨N, 2, none⟩ = some (.slice oa ol oc) := by rw [cell_of_row w2 N 2 _ _ _ P2.out]; rfl
  have notN : Hid (¬ p.In aa N) := fun h => by have := Hs.out.lt N h; have := HN.out; omega
  have notR : Hid (¬ r.In N) := fun h => by have := Hs.out.hr N h; omega
  have ge2 : Hid (∀ y, a2 = some y → M ≤ y.block ∧ y.block < w2.heap.size) := fun y hy => HO2.out.at y hy
  have bl2 : bs.length ≤ b2 := HO2.out.cap.1
  have B2 : Hid (bs.length ≤ b2) := bl2
  have S2 : Hid (IsB w2 oa bs) := Hs.out.hsrc.kept Kw2.out (fun _ _ _ h => h)
  have Nin : Hid (∀ y, a2 = some y → ¬ p.In aa y.block) := fun y hy h => by
    have := Hs.out.lt _ h
    have := (ge2.out y hy).1
    have := HN.out
    omega
  clear c2 O1 K1 bl2 P0 K0 N0
  obtain ⟨G, hG⟩ : ∃ G, w2.heap.size = G := ⟨_, rfl⟩
  have HG := Lib.hid hG
  clear hG
  have hq := HC2.out.hi.fits
  have kq : k ≤ qi.length := by have := Hx.out; omega
  have k4 : k ≤ 4096 := by omega
  have kl : (qi.take k).length = k := by rw [List.length_take]; omega
  have gLen := Lib.hid kl
  have HR2 := Lib.hid ((Hs.out.far (aa' := aa) (a2 := a2) (ga := some ⟨G, 0, none⟩) (fun y hy => .inl (by rw [hy]; rfl)) (fun y hy => by have := (ge2.out y hy).1; have := HN.out; omega) (fun y hy => by cases hy; have := Kw2.out.size; have := HG.out; show w.heap.size ≤ G; omega)).kept Kw2.out (fun _ _ h => h) (fun _ _ h => h.elim))
  clear hq kq kl
  go_wp2_with fail
  refine (readc_any _ p L _ _ _ _ _ _ _ HC2.out x k Hx.out).mono ?_
  rintro e w3 ⟨rfl, G3, C3, K3⟩
  rw [HG.out] at G3
  rw [HG.out]
  have HC3 := Lib.hid C3
  have HK3 : Hid (Kept (p.In aa) w2 w3) := K3
  have RowG3 := Lib.hid G3
  have lG3 : Hid (G < w3.heap.size) := (Array.getElem?_eq_some_iff.1 G3).1
  have HR3 := Lib.hid (HR2.out.kept HK3.out Hs.out.apart (fun i _ h => by
    rcases h with h | h
    · exact .inl (by have := Hs.out.h.hL; omega)
    · exact .inr (.inl h)))
  have HX3 : Hid (∀ i, Xm L aa aa a2 (some ⟨G, 0, none⟩) i → i < w3.heap.size) := by
    have hc0 := HC2.out.hall.at
    have hz := HK3.out.size
    rintro i (h | h | h | h | h)
    · omega
    · have := map_lt (fun y hy => (hc0 y hy).2) h; omega
    · have := map_lt (fun y hy => (hc0 y hy).2) h; omega
    · have := map_lt (fun y hy => (ge2.out y hy).2) h; omega
    · simp at h; have := lG3.out; omega
  have c2b := HK3.out.cell c2' notN.out
  have c1b := HK3.out.cell c1' notN.out
  have GnotR : Hid (¬ r.In G) := fun h => by have := Hs.out.hr _ h; have := HG.out; omega
  clear C3 K3 G3 c0' c1' c2'
  have r0 := HR3.out.c0
  obtain ⟨S, hS⟩ : ∃ S : World → Prop, ∀ u, S u ↔ Kept (· = r.i) w3 u := ⟨_, fun _ => Iff.rfl⟩
  have f1 : ∀ s : WIn S, s.w.cell? ⟨N, 1, none⟩ = some (.int .i64 x) := fun s => Kept.cell ((hS _).1 s.h) c1b (fun h => notR.out (.inr (.inl h)))
  have f2 : ∀ s : WIn S, s.w.cell? ⟨r.c, 0, none⟩ = some (.pointer (some ⟨r.i, 0, none⟩)) := fun s => Kept.cell ((hS _).1 s.h) r0 (HR3.out.d.1)
  haveI : Nonempty (WIn S) := ⟨⟨w3, (hS _).2 (Kept.refl _ w3)⟩⟩
  have HS := Lib.hid hS
  clear hS r0 c1b
  go_wp2_with fail
  refine region_segs 8 [([0, 1, 2, 3, 4, 5], 6), ([], 7)] [] S (by kernel_rfl) (by kernel_rfl) ((HS.out _).2 ((Kept.refl _ w3).drewN _)) ?_
  refine segs_step (fun K' hK' => ?_)
  simp only [pick, List.getElem?_cons_zero, List.getElem?_cons_succ, Option.getD_some]
  repeat (go_big_quiet_step (fail))
  refine wpQuiet_nil (hK' _ (fun Q1 hQ1 => ?_))
  clear hK' K'
  simp only [pick, List.getElem?_cons_zero, List.getElem?_cons_succ, Option.getD_some]
  go_wp2_with fail
  refine (ref_take _ 0 r.i r.mi k x qi (HR3.out.drewN 1).hi.ref Hx.out).mono ?_
  rintro e w5 ⟨x5, b5, rfl, O6, R6, K6⟩
  have S6 : IsB w5 x5 (qi.take k) := O6.isB
  have HKs : Hid (Kept (· = r.i) w3 w5) := ((Kept.refl _ w3).drewN 1).trans K6
  have HR5 := Lib.hid (HR3.out.setIn HKs.out (IsRefX.of_ref R6 HX3.out))
  clear O6 R6 K6
  have HK45 : Hid (Kept r.In w3 w5) := HKs.out.mono (fun _ _ h => .inr (.inl h))
  have st4 := run_convB (P := Try.prog) w5 22 5 9 Try.underlying22 Try.underlying5 Try.underlying9 x5 (qi.take k) k b5 gLen.out S6
  have c2c := HK45.out.cell c2b notR.out
  clear c2b S6
  go_wp2
  refine hQ1 _ _ ((HS.out _).2 HKs.out) (segs_step (fun K' hK' => wpQuiet_nil (hK' _ (fun Q2 hQ2 => ?_))))
  clear hK' K' hQ1 Q1
  simp only [pick, List.getElem?_cons_zero, List.getElem?_cons_succ, Option.getD_some]
  go_wp2
  refine hQ2 _ _ ((HS.out _).2 HKs.out) (segs_last (fun K' hK' => ?_))
  clear hQ2 Q2
  simp only [pick]
  refine wpQuiet_nil (hK' _ (fun Q3 hQ3 => ?_))
  clear hK' K' f1 f2
  simp only [List.drop_succ_cons, List.drop_zero]
  obtain ⟨aa5, haa5⟩ : ∃ aa5, aa5 = aa := ⟨_, rfl⟩
  obtain ⟨ac5, hac5⟩ : ∃ ac5, ac5 = ac := ⟨_, rfl⟩
  have HC5 := Lib.hid (HC3.out.kept HK45.out (fun b hb h => Hs.out.apart b h hb))
  have gNin : Hid (∀ b, (some (⟨G, 0, none⟩ : Addr)).map (·.block) = some b → ¬ p.In aa5 b) := fun b h hb => by
    simp at h
    rw [haa5] at hb
    have := Hs.out.lt _ hb
    have := HG.out
    have := Kw2.out.size
    omega
  have gge : Hid (∀ i, (some (⟨G, 0, none⟩ : Addr)).map (·.block) = some i → N ≤ i) := fun b h => by
    simp at h
    have := HG.out
    omega
  have gG : Hid (w2.heap.size ≤ G) := (by have := HG.out; omega : w2.heap.size ≤ G)
  rw [← haa5, ← hac5] at HC5
  rw [← haa5] at HR5
  have HK25 : Hid (Kept (fun i => p.In aa i ∨ r.In i) w2 w5) := (HK3.out.mono (fun _ _ h => .inl h)).trans (HK45.out.mono (fun _ _ h => .inr h))
  have HK5 : Hid (Kept (fun i => p.B ≤ i) w w5) := (Kw2.out.mono (fun _ _ h => h.elim)).trans' HK25.out (fun i _ h => by
    rcases h with h | h
    · exact Hs.out.ge i h
    · have := Hs.out.hr i h; have := Hs.out.hBM; omega)
  have O5 : Hid (OwnB w5 M 5 a2 b2 bs) := HO2.out.kept HK25.out (fun y hy h => by
    rcases h with h | h
    · exact Nin.out y hy h
    · have := Hs.out.hr _ h; have := (ge2.out y hy).1; omega)
  have Nin5 : Hid (∀ y, a2 = some y → ¬ p.In aa5 y.block) := by rw [haa5]; exact Nin
  have S5 : Hid (IsB w5 oa bs) := S2.out.kept HK25.out (fun y hy hne h => by
    have e1 := Hs.out.hap hne y hy
    rcases h with h | h
    · have := Hs.out.ge _ h; omega
    · have := Hs.out.hr _ h; have := Hs.out.hBM; omega)
  have RowG := Lib.hid (HK45.out.heap RowG3.out GnotR.out)
  have st3 := run_convB (P := Try.prog) w5 22 5 9 Try.underlying22 Try.underlying5 Try.underlying9 (some ⟨G, 0, none⟩) (qi.take k) k k gLen.out (IsB.of_heap (arr := qi.take k) RowG.out 0)
  clear haa5 hac5 HK25 HK3 HK45

  have st1 := run_convB (P := Try.prog) w5 22 5 9 Try.underlying22 Try.underlying5 Try.underlying9 a2 bs ol b2 Hs.out.hl O5.out.isB
  have st2 := run_convB (P := Try.prog) w5 22 5 9 Try.underlying22 Try.underlying5 Try.underlying9 oa bs ol oc Hs.out.hl S5.out
  go_wp2_with fail
  clear st1 st2 st3 st4
  go_loopw [11] (OverRel2 w5 a2 ol) (fun i _ => ol - (intOf i).toNat)
  case atStart =>
    refine ⟨0, rfl, Nat.zero_le _, fun h => ?_, Kept.refl _ _⟩
    obtain ⟨g, cur, e1, _, e2, e3, e4⟩ := O5.out.row (fun e => by have := Hs.out.hl; rw [e] at this; simp at this; omega)
    exact ⟨g, cur, e1, e2, by have := Hs.out.hl; omega⟩
  case round =>
    obtain ⟨j, rfl, hj, hrow, K6⟩ := hrel
    have HK6 := Lib.hid K6
    clear K6
    by_cases hlt : j < ol
    · obtain ⟨g, cur, rfl, hrow, hcs⟩ := hrow (by omega)
      have Hrow := Lib.hid hrow
      have Hcs := Lib.hid hcs
      have hjc : j < cur.size := by omega
      have hcell : wr.cell? ⟨g, j, none⟩ = some cur[j] := by rw [cell_of_row wr g j _ _ _ hrow]; simp [hjc]
      have hz := frozen_of_row wr g j _ _ hrow
      have k1 : (0 : Int) ≤ j := by omega
      have k2 : (j : Int) < ol := by omega
      obtain ⟨v, hv⟩ : ∃ v, v = cur[j] := ⟨_, rfl⟩
      rw [← hv] at hcell
      clear hrow hcs hv hjc
      go_wp2
      go_roundw
      case rel => exact ⟨j + 1, by simp, by omega, fun _ => ⟨g, _, rfl, heap_setCell_same _ _ _ _ _ _ Hrow.out, by simp; exact Hcs.out⟩, HK6.out.setCell ⟨g, j, none⟩ _ (fun _ => rfl)⟩
      case measure => simp [intOf]; omega
    · clear hrow
      go_wp2_with fail
      go_loopw [12] (OverRel2 wr (some ⟨G, 0, none⟩) k) (fun i _ => k - (intOf i).toNat)
      case atStart =>
        refine ⟨0, rfl, Nat.zero_le _, fun h => ?_, Kept.refl _ _⟩
        have hne : ¬ (a2.map (·.block) = some G) := fun e => by have := map_lt (fun y hy => (ge2.out y hy).2) e; have := gG.out; omega
        exact ⟨G, _, rfl, HK6.out.heap RowG.out hne, by have := gLen.out; simp only [List.size_toArray, List.length_map]; omega⟩
      case round =>
        obtain ⟨j2, rfl, hj2, hrow, K7⟩ := hrel
        have HK7 := Lib.hid K7
        clear K7
        by_cases hlt2 : j2 < k
        · obtain ⟨g, cur, hg, hrow, hcs⟩ := hrow (by omega)
          simp only [Option.some.injEq, Addr.mk.injEq, and_true] at hg
          try subst hg
          have Hrow := Lib.hid hrow
          have Hcs := Lib.hid hcs
          have hjc : j2 < cur.size := by omega
          have hcell : wr.cell? ⟨G, j2, none⟩ = some cur[j2] := by rw [cell_of_row wr G j2 _ _ _ hrow]; simp [hjc]
          have hz := frozen_of_row wr G j2 _ _ hrow
          have k1 : (0 : Int) ≤ j2 := by omega
          have k2 : (j2 : Int) < k := by omega
          obtain ⟨v, hv⟩ : ∃ v, v = cur[j2] := ⟨_, rfl⟩
          rw [← hv] at hcell
          clear hrow hcs hv hjc
          go_wp2
          go_roundw
          case rel => exact ⟨j2 + 1, by simp, by omega, fun _ => ⟨_, _, rfl, heap_setCell_same _ _ _ _ _ _ Hrow.out, by simp; exact Hcs.out⟩, HK7.out.setCell ⟨G, j2, none⟩ _ (fun _ => rfl)⟩
          case measure => simp [intOf]; omega
        · clear hrow
          go_wp2
          go_ret
          have K57 : Kept (fun i => a2.map (·.block) = some i ∨ ((some ⟨G, 0, none⟩) : Option Addr).map (·.block) = some i) w5 wr := (HK6.out.mono (fun _ _ h => .inl h)).trans (HK7.out.mono (fun _ _ h => .inr h))
          have lw5 := HK5.out.size
          refine ⟨rfl, aa5, ac5, (qi.drop k), qo, all, st, en, HC5.out.kept K57 (fun b hb h => ?_), (HR5.out.kept K57 (fun i hi h => ?_) (fun i _ h => ?_)).mono (fun i _ h => ?_) ?_, HK5.out.trans' K57 (fun i hi h => ?_), CNext.read _ _ _ _ _⟩
          · rcases h with h | h
            · cases ha : a2 with
              | none => rw [ha] at h; cases h
              | some y => rw [ha] at h; simp at h; exact Nin5.out y ha (by rw [h]; exact hb)
            · exact gNin.out b h hb
          · have e1 := Hs.out.hr i hi
            rcases h with h | h
            · have := map_ge (fun y hy => (ge2.out y hy).1) h; omega
            · have := gge.out i h; have := HN.out; omega
          · rcases h with h | h
            · exact .inr (.inr (.inr (.inl h)))
            · exact .inr (.inr (.inr (.inr h)))
          · rcases h with h | h
            · exact .inl h
            · exact .inr (.inr (.inl h))
          · exact ⟨.inl (Hs.out.hr _ (.inl rfl)).2, .inl (Hs.out.hr _ (.inr (.inl rfl))).2, .inl (Hs.out.hr _ (.inr (.inr rfl))).2⟩
          · have e1 := Hs.out.h.hL
            have e2 := Hs.out.hBM
            rcases h with h | h
            · have := map_ge (fun y hy => (ge2.out y hy).1) h; omega
            · have := gge.out i h; have := HN.out; omega
end Go.Proofs.Ytfkchmkaccjjoaa
