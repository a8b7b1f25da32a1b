/-
  One call of both connections (colanderlaw22.step): End.
-/
import Derived.Test.YtfkchmkaccjjoaaEnd
import Derived.Deep.DeepCutAuto
namespace Go.Proofs.Ytfkchmkaccjjoaa
open Go.RowKit

set_option maxRecDepth 100000 in
set_option maxHeartbeats 2000000 in
theorem cstep_end (w : World) (p : Pl) (L : Nat) (aa : Option Addr) (ac : Nat) (r : RPl) (qi qo all : List UInt8) (st : Nat) (en : Bool) (x : Int) (oa : Option Addr) (ol oc : Nat) (bs : List UInt8)
    (s : StepIn w p L aa ac r qi qo all st en oa ol oc bs) :
    Calls Try.prog 26 #[.pointer (some ⟨p.c, 0, none⟩), .pointer (some ⟨r.c, 0, none⟩), .agg #[.int .i64 1, .int .i64 x, .slice oa ol oc]] w (CStepPost w p L r qi qo all st) := by
  obtain ⟨i0, hi, hz0, hz1, hz2⟩ := info_parts Try.infoE5
  have Hi := Lib.hid hi
  have Hz0 := Lib.hid hz0
  have Hz1 := Lib.hid hz1
  have Hz2 := Lib.hid hz2
  have Hs := Lib.hid s
  have hb := s.hb
  have hb2 := s.hb2
  have hLN := s.hL
  obtain ⟨N, hN⟩ : ∃ N, w.heap.size = N := ⟨_, rfl⟩
  rw [hN] at hLN
  have HN := Lib.hid hN
  clear hi hz0 hz1 hz2 s hN
  go_enter Try.func26, Try.ntmps26
  go_upto_region 1 with fail
  obtain ⟨w0, hw0⟩ : ∃ w0, w0 = w.alloc (.cells #[.int .i64 1, .int .i64 x, .slice oa ol oc] 49) := ⟨_, rfl⟩
  rw [← hw0, HN.out]
  have p0 : w0.heap[N]? = some (.cells #[.int .i64 1, .int .i64 x, .slice oa ol oc] 49 (0, 0)) := by rw [hw0, ← HN.out]; exact heap_alloc_new w _
  have k0 : Kept (fun _ => False) w w0 := by rw [hw0]; exact (Kept.refl _ w).alloc _
  have n0 : w0.heap.size = N + 1 := by rw [hw0, ← HN.out]; simp
  clear hw0
  have P0 := Lib.hid p0
  have K0 := Lib.hid k0
  have N0 := Lib.hid n0
  obtain ⟨M, hM⟩ : ∃ M, M = N + 1 := ⟨_, rfl⟩
  have HM := Lib.hid hM
  have lNM : N < M := by omega
  have O1 : Hid (OwnB (w0.alloc (.cells #[] 5)) M 5 (some ⟨w0.heap.size, 0, none⟩) 0 []) := OwnB.empty w0 M 5 (by omega)
  have K1 : Hid (Kept (fun _ => False) w0 (w0.alloc (.cells #[] 5))) := (Kept.refl _ w0).alloc _
  have c2 := K1.out.cell (show w0.cell? ⟨N, 2, none⟩ = some (.slice oa ol oc) by rw [cell_of_row w0 N 2 _ _ _ p0]; rfl) (fun h => h)
  have hcap : ol ≤ 140737488355328 := by omega
  clear p0 k0 n0 hM
  go_upto_region 2 with (at_builtin; go_loud (refine wpList_appendB (by rfl) (.tmp 13) (.tmp 15) 22 (by rfl) M 5 i0 Try.underlying22 Hi.out Hz0.out Hz1.out Hz2.out _ 0 0 [] (by rfl) rfl O1.out _ _ _ bs (by rfl) Hs.out.hl ((Hs.out.hsrc.kept K0.out (fun _ _ _ h => h)).kept K1.out (fun _ _ _ h => h)) (by omega) (by have := HM.out; have := N0.out; have := K1.out.size; omega) ?_; intro a2 b2 w2 O2 K2 hat2; clear hat2; have HO2 : Hid (OwnB w2 M 5 a2 b2 bs) := (by have := O2.out; rw [List.nil_append] at this; exact this); have HK2 : Hid (Kept (fun _ => False) w0 w2) := K1.out.trans' K2 (fun i hi e => by simp at e; omega); clear O2 K2))
  have Kw2 : Hid (Kept (fun _ => False) w w2) := K0.out.trans HK2.out
  have HC2 := Lib.hid (Hs.out.h.kept Kw2.out (fun _ _ h => h))
  have P2 := Lib.hid (HK2.out.heap P0.out (fun h => h))
  have l2 : M ≤ w2.heap.size := by have := HM.out; have := N0.out; have := HK2.out.size; omega
  have lL2 : L ≤ w2.heap.size := by omega
  have c0' : w2.cell? ⟨N, 0, none⟩ = some (.int .i64 1) := by rw [cell_of_row w2 N 0 _ _ _ P2.out]; rfl
  have c1' : w2.cell? ⟨N, 1, none⟩ = some (.int .i64 x) := by rw [cell_of_row w2 N 1 _ _ _ P2.out]; rfl
  have c2' : w2.cell? ⟨N, 2, none⟩ = some (.slice oa ol oc) := by rw [cell_of_row w2 N 2 _ _ _ P2.out]; rfl
  have notN : Hid (¬ p.In aa N) := fun h => by have := Hs.out.lt N h; have := HN.out; omega
  have notR : Hid (¬ r.In N) := fun h => by have := Hs.out.hr N h; omega
  have ge2 : Hid (∀ y, a2 = some y → M ≤ y.block ∧ y.block < w2.heap.size) := fun y hy => HO2.out.at y hy
  have bl2 : bs.length ≤ b2 := HO2.out.cap.1
  have B2 : Hid (bs.length ≤ b2) := bl2
  have S2 : Hid (IsB w2 oa bs) := Hs.out.hsrc.kept Kw2.out (fun _ _ _ h => h)
  have Nin : Hid (∀ y, a2 = some y → ¬ p.In aa y.block) := fun y hy h => by
    have := Hs.out.lt _ h
    have := (ge2.out y hy).1
    have := HN.out
    omega
  clear c2 O1 K1 bl2 P0 K0 N0
  have HR2 := Lib.hid ((Hs.out.far (aa' := aa) (a2 := a2) (ga := none) (fun y hy => .inl (by rw [hy]; rfl)) (fun y hy => by have := (ge2.out y hy).1; have := HN.out; omega) (fun y hy => by cases hy)).kept Kw2.out (fun _ _ h => h) (fun _ _ h => h.elim))
  have HX2 : Hid (∀ i, Xm L aa aa a2 none i → i < w2.heap.size) := by
    have hc := HC2.out.hall.at
    rintro i (h | h | h | h | h)
    · omega
    · exact map_lt (fun y hy => (hc y hy).2) h
    · exact map_lt (fun y hy => (hc y hy).2) h
    · exact map_lt (fun y hy => (ge2.out y hy).2) h
    · cases h
  go_wp2_with fail
  refine (end_any _ p L _ _ _ _ _ _ _ HC2.out).mono ?_
  rintro e w3 ⟨rfl, C3, K3⟩
  have HC3 := Lib.hid C3
  have HK3 : Hid (Kept (p.In aa) w2 w3) := K3
  have HR3 := Lib.hid (HR2.out.kept HK3.out Hs.out.apart (fun i _ h => by
    rcases h with h | h
    · exact .inl (by have := Hs.out.h.hL; omega)
    · exact .inr (.inl h)))
  have c2b := HK3.out.cell c2' notN.out
  clear C3 K3 c0' c1'
  have z3 := HR3.out.fz 3
  have y3 := HR3.out.c3
  go_upto_region 31 with fail
  obtain ⟨w5, hw5⟩ : ∃ w5, w5 = w3.setCell ⟨r.c, 3, none⟩ (.bool true) := ⟨_, rfl⟩
  rw [← hw5]
  have HK45 : Hid (Kept r.In w3 w5) := by rw [hw5]; exact (Kept.refl _ w3).setCell _ _ (fun _ => .inl rfl)
  have HR5 : Hid (RefC w5 r (Xm L aa aa a2 none) qi qo all st true) := by rw [hw5]; exact HR3.out.store (st' := st) (en' := true) (all' := all) 3 _ (by simp)
  have c2c := HK45.out.cell c2b notR.out
  clear hw5 c2b z3 y3
  obtain ⟨aa5, haa5⟩ : ∃ aa5, aa5 = aa := ⟨_, rfl⟩
  obtain ⟨ac5, hac5⟩ : ∃ ac5, ac5 = ac := ⟨_, rfl⟩
  have HC5 := Lib.hid (HC3.out.kept HK45.out (fun b hb h => Hs.out.apart b h hb))
  rw [← haa5, ← hac5] at HC5
  rw [← haa5] at HR5
  have HK25 : Hid (Kept (fun i => p.In aa i ∨ r.In i) w2 w5) := (HK3.out.mono (fun _ _ h => .inl h)).trans (HK45.out.mono (fun _ _ h => .inr h))
  have HK5 : Hid (Kept (fun i => p.B ≤ i) w w5) := (Kw2.out.mono (fun _ _ h => h.elim)).trans' HK25.out (fun i _ h => by
    rcases h with h | h
    · exact Hs.out.ge i h
    · have := Hs.out.hr i h; have := Hs.out.hBM; omega)
  have O5 : Hid (OwnB w5 M 5 a2 b2 bs) := HO2.out.kept HK25.out (fun y hy h => by
    rcases h with h | h
    · exact Nin.out y hy h
    · have := Hs.out.hr _ h; have := (ge2.out y hy).1; omega)
  have Nin5 : Hid (∀ y, a2 = some y → ¬ p.In aa5 y.block) := by rw [haa5]; exact Nin
  have S5 : Hid (IsB w5 oa bs) := S2.out.kept HK25.out (fun y hy hne h => by
    have e1 := Hs.out.hap hne y hy
    rcases h with h | h
    · have := Hs.out.ge _ h; omega
    · have := Hs.out.hr _ h; have := Hs.out.hBM; omega)
  clear haa5 hac5 c2' HK25 HK3 HK45
  have gNin : Hid (∀ b, (none : Option Addr).map (·.block) = some b → ¬ p.In aa5 b) := fun b h => by cases h
  have gge : Hid (∀ i, (none : Option Addr).map (·.block) = some i → N ≤ i) := fun b h => by cases h
  have st3 : (convert 22 9 (.slice none 0 0)).run Try.prog w5 = .ok (.string ⟨#[]⟩) w5 := run_convB (P := Try.prog) w5 22 5 9 Try.underlying22 Try.underlying5 Try.underlying9 none [] 0 0 rfl (IsB.nil _ _)

  have st1 := run_convB (P := Try.prog) w5 22 5 9 Try.underlying22 Try.underlying5 Try.underlying9 a2 bs ol b2 Hs.out.hl O5.out.isB
  have st2 := run_convB (P := Try.prog) w5 22 5 9 Try.underlying22 Try.underlying5 Try.underlying9 oa bs ol oc Hs.out.hl S5.out
  go_wp2_with fail
  clear st1 st2 st3
  go_loopw [11] (OverRel2 w5 a2 ol) (fun i _ => ol - (intOf i).toNat)
  case atStart =>
    refine ⟨0, rfl, Nat.zero_le _, fun h => ?_, Kept.refl _ _⟩
    obtain ⟨g, cur, e1, _, e2, e3, e4⟩ := O5.out.row (fun e => by have := Hs.out.hl; rw [e] at this; simp at this; omega)
    exact ⟨g, cur, e1, e2, by have := Hs.out.hl; omega⟩
  case round =>
    obtain ⟨j, rfl, hj, hrow, K6⟩ := hrel
    have HK6 := Lib.hid K6
    clear K6
    by_cases hlt : j < ol
    · obtain ⟨g, cur, rfl, hrow, hcs⟩ := hrow (by omega)
      have Hrow := Lib.hid hrow
      have Hcs := Lib.hid hcs
      have hjc : j < cur.size := by omega
      have hcell : wr.cell? ⟨g, j, none⟩ = some cur[j] := by rw [cell_of_row wr g j _ _ _ hrow]; simp [hjc]
      have hz := frozen_of_row wr g j _ _ hrow
      have k1 : (0 : Int) ≤ j := by omega
      have k2 : (j : Int) < ol := by omega
      obtain ⟨v, hv⟩ : ∃ v, v = cur[j] := ⟨_, rfl⟩
      rw [← hv] at hcell
      clear hrow hcs hv hjc
      go_wp2
      go_roundw
      case rel => exact ⟨j + 1, by simp, by omega, fun _ => ⟨g, _, rfl, heap_setCell_same _ _ _ _ _ _ Hrow.out, by simp; exact Hcs.out⟩, HK6.out.setCell ⟨g, j, none⟩ _ (fun _ => rfl)⟩
      case measure => simp [intOf]; omega
    · clear hrow
      go_wp2_with fail
      go_loopw [12] (OverRel2 wr none 0) (fun i _ => 0 - (intOf i).toNat)
      case atStart =>
        refine ⟨0, rfl, Nat.zero_le _, fun h => ?_, Kept.refl _ _⟩
        omega
      case round =>
        obtain ⟨j2, rfl, hj2, hrow, K7⟩ := hrel
        have HK7 := Lib.hid K7
        clear K7
        have hlt2 : ¬ j2 < 0 := by omega
        · clear hrow
          go_wp2
          go_ret
          have K57 : Kept (fun i => a2.map (·.block) = some i ∨ (none : Option Addr).map (·.block) = some i) w5 wr := (HK6.out.mono (fun _ _ h => .inl h)).trans (HK7.out.mono (fun _ _ h => .inr h))
          have lw5 := HK5.out.size
          refine ⟨rfl, aa5, ac5, qi, qo, all, st, true, HC5.out.kept K57 (fun b hb h => ?_), (HR5.out.kept K57 (fun i hi h => ?_) (fun i _ h => ?_)).mono (fun i _ h => ?_) ?_, HK5.out.trans' K57 (fun i hi h => ?_), CNext.same _ _ _ _⟩
          · rcases h with h | h
            · cases ha : a2 with
              | none => rw [ha] at h; cases h
              | some y => rw [ha] at h; simp at h; exact Nin5.out y ha (by rw [h]; exact hb)
            · exact gNin.out b h hb
          · have e1 := Hs.out.hr i hi
            rcases h with h | h
            · have := map_ge (fun y hy => (ge2.out y hy).1) h; omega
            · have := gge.out i h; have := HN.out; omega
          · rcases h with h | h
            · exact .inr (.inr (.inr (.inl h)))
            · exact .inr (.inr (.inr (.inr h)))
          · rcases h with h | h
            · exact .inl h
            · exact .inr (.inr (.inl h))
          · exact ⟨.inl (Hs.out.hr _ (.inl rfl)).2, .inl (Hs.out.hr _ (.inr (.inl rfl))).2, .inl (Hs.out.hr _ (.inr (.inr rfl))).2⟩
          · have e1 := Hs.out.h.hL
            have e2 := Hs.out.hBM
            rcases h with h | h
            · have := map_ge (fun y hy => (ge2.out y hy).1) h; omega
            · have := gge.out i h; have := HN.out; omega
end Go.Proofs.Ytfkchmkaccjjoaa
