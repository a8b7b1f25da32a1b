/-
  The walk of RingPlays where both sizes are right.
-/
import Derived.Test.YtfkchmkaccjjoaaPlays
import Derived.Deep.RegionWith
namespace Go.Proofs.Ytfkchmkaccjjoaa
open Go.RowKit

/-- What holds at the loop's head. -/
def PlayRel (w0 : World) (B r1 g1 m1 c1 r2 g2 m2 c2 sl : Nat) (i : Value) (wr : World) : Prop :=
  ∃ (k : Nat) (q1 q2 : List UInt8), i = .int .i64 k ∧ k ≤ sl ∧ k ≤ 300 ∧ IsRing wr r1 g1 m1 q1 ∧ IsRef wr B c1 m1 q1 ∧ IsRing wr r2 g2 m2 q2 ∧ IsRef wr B c2 m2 q2 ∧ Kept (fun b => w0.heap.size ≤ b) w0 wr ∧ B ≤ wr.heap.size

theorem IsRef.new (w : World) (m B : Nat) (h : m ≤ 4096) : IsRef (w.alloc (.cells #[.int .i64 m, .slice none 0 0] 35)) B w.heap.size m [] :=
  ⟨none, 0, heap_alloc_new w _, IsB.nil _ _, Nat.le_refl _, by omega, fun h => absurd rfl h, Nat.zero_le _, h⟩

set_option maxRecDepth 100000 in
set_option maxHeartbeats 800000 in
theorem plays_yes (m1 m2 : Nat) (sa : Option Addr) (sl sc : Nat) (w : World) (h1a : 1 ≤ m1) (h1b : m1 ≤ 4096) (h2a : 1 ≤ m2) (h2b : m2 ≤ 4096) (_hsl : sl ≤ 140737488351232)
    (hops : sl = 0 ∨ ∃ sb so, sa = some ⟨sb, so, none⟩ ∧ ∀ j, j < sl → ∃ d sec x oa ol oc bs, OpAt w sb so j d sec x oa ol oc bs) :
    Calls Try.prog 4 #[.int .i64 m1, .int .i64 m2, .slice sa sl sc] w fun e w' => e = .returned (.bool true) ∧ Below w.heap.size w w' := by
  have e1 : decide (1 ≤ (m1 : Int) ∧ (m1 : Int) ≤ 4096) = true := decide_eq_true (by omega)
  have e2 : decide (1 ≤ (m2 : Int) ∧ (m2 : Int) ≤ 4096) = true := decide_eq_true (by omega)
  have Hops := Lib.hid hops
  clear hops
  go_enter Try.func4, Try.ntmps4
  go_wp2_with fail
  refine (shown_any _).mono ?_
  rintro e w1 ⟨rfl, K1⟩
  have HK1 := Lib.hid K1
  clear K1
  go_wp2_with fail
  refine (ring_new _ m1 h1a h1b).mono ?_
  rintro e w2 ⟨r1, g1, rfl, R1, lr1, lg1, K2⟩
  have KK2 := HK1.out.trans K2
  have lw1 := HK1.out.size
  have lt2 := R1.lt
  have HR1 := Lib.hid R1
  have HK2 := Lib.hid KK2
  clear K2 R1 KK2 HK1
  go_wp2_with fail
  refine (ring_new _ m2 h2a h2b).mono ?_
  rintro e w3 ⟨r2, g2, rfl, R2, lr2, lg2, K3⟩
  have KK3 := HK2.out.trans K3
  have lw2 := HK2.out.size
  have lw3 := K3.size
  have lt3 := R2.lt
  have HR13 := Lib.hid (HR1.out.kept K3 (fun h => h) (fun h => h))
  have HR2 := Lib.hid R2
  have HK3 := Lib.hid KK3
  clear K3 R2 KK3 HR1 HK2
  go_wp2_with (go_at_call 13; refine (right_any _ _).mono ?_; rintro e w9 ⟨rfl, rfl⟩)
  obtain ⟨C, hC⟩ : ∃ C, w3.heap.size = C := ⟨_, rfl⟩
  rw [hC]
  rw [hC] at lt3 lw3
  obtain ⟨w4, hw4⟩ : ∃ w4, w4 = (w3.alloc (.cells #[.int .i64 m1, .slice none 0 0] 35)).alloc (.cells #[.int .i64 m2, .slice none 0 0] 35) := ⟨_, rfl⟩
  rw [← hw4]
  have k34 : Kept (fun _ => False) w3 w4 := by rw [hw4]; exact ((Kept.refl _ w3).alloc _).alloc _
  have n4 : w4.heap.size = C + 2 := by rw [hw4]; simp; omega
  have D1 : IsRef w4 (C + 2) C m1 [] := by
    rw [hw4, ← hC]
    exact (IsRef.new w3 m1 _ h1b).kept ((Kept.refl (fun _ => False) _).alloc _) (fun h => h) (fun _ _ h => h)
  have D2 : IsRef w4 (C + 2) (C + 1) m2 [] := by
    have := IsRef.new (w3.alloc (.cells #[.int .i64 m1, .slice none 0 0] 35)) m2 (C + 2) h2b
    rw [hw4]
    simpa [hC] using this
  have HQ1 : Hid (IsRing w4 r1 g1 m1 []) := HR13.out.kept k34 (fun h => h) (fun h => h)
  have HQ2 : Hid (IsRing w4 r2 g2 m2 []) := HR2.out.kept k34 (fun h => h) (fun h => h)
  have HK4 : Hid (Kept (fun b => w.heap.size ≤ b) w w4) := (HK3.out.trans k34).mono (fun _ _ h => h.elim)
  have N4 := Lib.hid n4
  have HD1 := Lib.hid D1
  have HD2 := Lib.hid D2
  clear hw4 k34 n4 D1 D2 HR13 HR2 HK3 hC
  go_loopw [12] (PlayRel w (C + 2) r1 g1 m1 C r2 g2 m2 (C + 1) sl) (fun i _ => 300 - (intOf i).toNat)
  case atStart => exact ⟨0, [], [], rfl, Nat.zero_le _, Nat.zero_le _, HQ1.out, HD1.out, HQ2.out, HD2.out, HK4.out, by have := N4.out; omega⟩
  case round =>
    obtain ⟨k, q1, q2, rfl, hk1, hk2, hQ1, hD1, hQ2, hD2, hK, hB⟩ := hrel
    have HQ1 := Lib.hid hQ1
    have HD1 := Lib.hid hD1
    have HQ2 := Lib.hid hQ2
    have HD2 := Lib.hid hD2
    have HK := Lib.hid hK
    clear hQ1 hD1 hQ2 hD2 hK
    by_cases hgo : k < sl ∧ k < 300
    · obtain ⟨hgo1, hgo2⟩ := hgo
      have hops : ∃ sb so, sa = some ⟨sb, so, none⟩ ∧ ∃ d sec x oa ol oc bs, OpAt w sb so k d sec x oa ol oc bs := by
        rcases Hops.out with h | ⟨sb, so, h, ho⟩
        · omega
        · exact ⟨sb, so, h, ho k hgo1⟩
      obtain ⟨sb, so, rfl, d, sec, x, oa, ol, oc, bs, O⟩ := hops
      have lsb : sb < w.heap.size := World.block_lt_of_cell? w _ O.c0
      have c0 := HK.out.cell O.c0 (show ¬ w.heap.size ≤ sb by omega)
      have c1 := HK.out.cell O.c1 (show ¬ w.heap.size ≤ sb by omega)
      have c2 := HK.out.cell O.c2 (show ¬ w.heap.size ≤ sb by omega)
      have c3 := HK.out.cell O.c3 (show ¬ w.heap.size ≤ sb by omega)
      have SB : IsB wr oa bs := O.hb.kept HK.out (fun y hy hne => by subst hy; have := O.hb.lt hne; show ¬ w.heap.size ≤ y.block; omega)
      have HSB := Lib.hid SB
      have HO := Lib.hid O
      have j1 : (0 : Int) ≤ k := by omega
      have j2 : (k : Int) < sl := by omega
      clear SB O
      have hcase : sec = false ∨ sec = true := by cases sec; exact .inl rfl; exact .inr rfl
      rcases hcase with rfl | rfl
      all_goals
        go_wp2_with fail
      · refine (step_any wr (C + 2) w.heap.size r1 g1 m1 C q1 d false x oa ol oc bs HQ1.out HD1.out HO.out.hl HO.out.le HO.out.top HSB.out (fun hne y hy => by subst hy; exact HO.out.hb.lt hne) hB (by omega) (by omega) (by omega) (by omega) (by omega) (by omega) (by omega) (by omega)).mono ?_
        rintro e w5 ⟨rfl, p1, hA, hD, K5⟩
        obtain ⟨p2, hp2⟩ : ∃ p2, p2 = q2 := ⟨_, rfl⟩
        rw [← hp2] at HQ2 HD2
        have HA1 := Lib.hid hA
        have HE1 := Lib.hid hD
        have HA2 := Lib.hid (HQ2.out.kept K5 (show ¬ (r2 = r1 ∨ r2 = g1 ∨ r2 = C) by omega) (show ¬ (g2 = r1 ∨ g2 = g1 ∨ g2 = C) by omega))
        have HE2 := Lib.hid (HD2.out.kept K5 (show ¬ (C + 1 = r1 ∨ C + 1 = g1 ∨ C + 1 = C) by omega) (fun i hi => by omega))
        have HKn : Hid (Kept (fun b => w.heap.size ≤ b) w w5) := HK.out.trans' K5 (fun i hi e => by omega)
        have hB5 : C + 2 ≤ w5.heap.size := Nat.le_trans hB K5.size
        clear hA hD K5 HQ1 HQ2 HD1 HD2 HK c0 c1 c2 c3 HSB hp2
        obtain ⟨a1, cp1, RA1⟩ := HE1.out
        obtain ⟨a2, cp2, RA2⟩ := HE2.out
        have d1 := RA1.c1
        have d2 := RA2.c1
        obtain ⟨n1, hn1⟩ : ∃ n1, n1 = p1.length := ⟨_, rfl⟩
        obtain ⟨n2, hn2⟩ : ∃ n2, n2 = p2.length := ⟨_, rfl⟩
        rw [← hn1] at d1
        rw [← hn2] at d2
        obtain ⟨M1, hM1⟩ : ∃ M1, M1 = m1 - p1.length := ⟨_, rfl⟩
        obtain ⟨M2, hM2⟩ : ∃ M2, M2 = m2 - p2.length := ⟨_, rfl⟩
        have f1 := RA1.fits
        have f2 := RA2.fits
        have s1 : (m1 : Int) - n1 = M1 := by omega
        have s2 : (m2 : Int) - n2 = M2 := by omega
        have HM1 : Hid (p1.length + M1 = m1) := (by omega : p1.length + M1 = m1)
        have HM2 : Hid (p2.length + M2 = m2) := (by omega : p2.length + M2 = m2)
        have Hn1 := Lib.hid hn1
        have Hn2 := Lib.hid hn2
        clear RA1 RA2 hn1 hn2 hM1 hM2 f1 f2
        go_wp2
        go_quiet (first
          | (go_at_call_of 9 (Value.pointer (some ⟨r1, 0, none⟩)); exact Calls.quiet_of_same ((ring_len _ r1 g1 m1 n1 p1 (HA1.out.drewN _) Hn1.out.symm).mono fun _ _ h => ⟨h.1, h.2.symm⟩))
          | (go_at_call_of 9 (Value.pointer (some ⟨r2, 0, none⟩)); exact Calls.quiet_of_same ((ring_len _ r2 g2 m2 n2 p2 (HA2.out.drewN _) Hn2.out.symm).mono fun _ _ h => ⟨h.1, h.2.symm⟩))
          | (go_at_call_of 11 (Value.pointer (some ⟨r1, 0, none⟩)); exact Calls.quiet_of (ring_room _ r1 g1 m1 M1 p1 (HA1.out.drewN _) HM1.out))
          | (go_at_call_of 11 (Value.pointer (some ⟨r2, 0, none⟩)); exact Calls.quiet_of (ring_room _ r2 g2 m2 M2 p2 (HA2.out.drewN _) HM2.out)))
        go_wp2
        go_roundw
        case rel => exact ⟨k + 1, p1, p2, by simp, by omega, by omega, HA1.out.drewN nq, HE1.out.drewN nq, HA2.out.drewN nq, HE2.out.drewN nq, HKn.out.drewN nq, hB5⟩
        case measure => simp [intOf]; omega
      · refine (step_any wr (C + 2) w.heap.size r2 g2 m2 (C + 1) q2 d true x oa ol oc bs HQ2.out HD2.out HO.out.hl HO.out.le HO.out.top HSB.out (fun hne y hy => by subst hy; exact HO.out.hb.lt hne) hB (by omega) (by omega) (by omega) (by omega) (by omega) (by omega) (by omega) (by omega)).mono ?_
        rintro e w5 ⟨rfl, p2, hA, hD, K5⟩
        obtain ⟨p1, hp1⟩ : ∃ p1, p1 = q1 := ⟨_, rfl⟩
        rw [← hp1] at HQ1 HD1
        have HA2 := Lib.hid hA
        have HE2 := Lib.hid hD
        have HA1 := Lib.hid (HQ1.out.kept K5 (show ¬ (r1 = r2 ∨ r1 = g2 ∨ r1 = C + 1) by omega) (show ¬ (g1 = r2 ∨ g1 = g2 ∨ g1 = C + 1) by omega))
        have HE1 := Lib.hid (HD1.out.kept K5 (show ¬ (C = r2 ∨ C = g2 ∨ C = C + 1) by omega) (fun i hi => by omega))
        have HKn : Hid (Kept (fun b => w.heap.size ≤ b) w w5) := HK.out.trans' K5 (fun i hi e => by omega)
        have hB5 : C + 2 ≤ w5.heap.size := Nat.le_trans hB K5.size
        clear hA hD K5 HQ1 HQ2 HD1 HD2 HK c0 c1 c2 c3 HSB hp1
        obtain ⟨a1, cp1, RA1⟩ := HE1.out
        obtain ⟨a2, cp2, RA2⟩ := HE2.out
        have d1 := RA1.c1
        have d2 := RA2.c1
        obtain ⟨n1, hn1⟩ : ∃ n1, n1 = p1.length := ⟨_, rfl⟩
        obtain ⟨n2, hn2⟩ : ∃ n2, n2 = p2.length := ⟨_, rfl⟩
        rw [← hn1] at d1
        rw [← hn2] at d2
        obtain ⟨M1, hM1⟩ : ∃ M1, M1 = m1 - p1.length := ⟨_, rfl⟩
        obtain ⟨M2, hM2⟩ : ∃ M2, M2 = m2 - p2.length := ⟨_, rfl⟩
        have f1 := RA1.fits
        have f2 := RA2.fits
        have s1 : (m1 : Int) - n1 = M1 := by omega
        have s2 : (m2 : Int) - n2 = M2 := by omega
        have HM1 : Hid (p1.length + M1 = m1) := (by omega : p1.length + M1 = m1)
        have HM2 : Hid (p2.length + M2 = m2) := (by omega : p2.length + M2 = m2)
        have Hn1 := Lib.hid hn1
        have Hn2 := Lib.hid hn2
        clear RA1 RA2 hn1 hn2 hM1 hM2 f1 f2
        go_wp2
        go_quiet (first
          | (go_at_call_of 9 (Value.pointer (some ⟨r1, 0, none⟩)); exact Calls.quiet_of_same ((ring_len _ r1 g1 m1 n1 p1 (HA1.out.drewN _) Hn1.out.symm).mono fun _ _ h => ⟨h.1, h.2.symm⟩))
          | (go_at_call_of 9 (Value.pointer (some ⟨r2, 0, none⟩)); exact Calls.quiet_of_same ((ring_len _ r2 g2 m2 n2 p2 (HA2.out.drewN _) Hn2.out.symm).mono fun _ _ h => ⟨h.1, h.2.symm⟩))
          | (go_at_call_of 11 (Value.pointer (some ⟨r1, 0, none⟩)); exact Calls.quiet_of (ring_room _ r1 g1 m1 M1 p1 (HA1.out.drewN _) HM1.out))
          | (go_at_call_of 11 (Value.pointer (some ⟨r2, 0, none⟩)); exact Calls.quiet_of (ring_room _ r2 g2 m2 M2 p2 (HA2.out.drewN _) HM2.out)))
        go_wp2
        go_roundw
        case rel => exact ⟨k + 1, p1, p2, by simp, by omega, by omega, HA1.out.drewN nq, HE1.out.drewN nq, HA2.out.drewN nq, HE2.out.drewN nq, HKn.out.drewN nq, hB5⟩
        case measure => simp [intOf]; omega
    · obtain ⟨a1, cp1, RA1⟩ := HD1.out
      obtain ⟨a2, cp2, RA2⟩ := HD2.out
      have d1 := RA1.c1
      have d2 := RA2.c1
      obtain ⟨n1, hn1⟩ : ∃ n1, n1 = q1.length := ⟨_, rfl⟩
      obtain ⟨n2, hn2⟩ : ∃ n2, n2 = q2.length := ⟨_, rfl⟩
      rw [← hn1] at d1
      rw [← hn2] at d2
      have t1 := RA1.fits
      have t2 := RA2.fits
      obtain ⟨S, hS⟩ : ∃ S : World → Prop, ∀ u, S u ↔ Kept (· = r1) wr u := ⟨_, fun _ => Iff.rfl⟩
      have f1 : ∀ s : WIn S, s.w.cell? ⟨C, 1, none⟩ = some (.slice a1 n1 cp1) := fun s => Kept.cell ((hS _).1 s.h) d1 (show ¬ C = r1 by omega)
      have f2 : ∀ s : WIn S, s.w.cell? ⟨C + 1, 1, none⟩ = some (.slice a2 n2 cp2) := fun s => Kept.cell ((hS _).1 s.h) d2 (show ¬ C + 1 = r1 by omega)
      have f3 : ∀ s : WIn S, (convert 22 9 (.slice a1 n1 cp1)).run Try.prog s.w = .ok (.string ⟨q1.toArray⟩) s.w := fun s =>
        run_convB (P := Try.prog) s.w 22 5 9 Try.underlying22 Try.underlying5 Try.underlying9 _ q1 n1 cp1 hn1.symm (RA1.hb.kept ((hS _).1 s.h) (fun y hy hne => by have := RA1.far hne y hy; show ¬ y.block = r1; omega))
      have f4 : ∀ s : WIn S, (convert 22 9 (.slice a2 n2 cp2)).run Try.prog s.w = .ok (.string ⟨q2.toArray⟩) s.w := fun s =>
        run_convB (P := Try.prog) s.w 22 5 9 Try.underlying22 Try.underlying5 Try.underlying9 _ q2 n2 cp2 hn2.symm (RA2.hb.kept ((hS _).1 s.h) (fun y hy hne => by have := RA2.far hne y hy; show ¬ y.block = r1; omega))
      haveI : Nonempty (WIn S) := ⟨⟨wr, (hS _).2 (Kept.refl _ wr)⟩⟩
      have HS := Lib.hid hS
      have Hn1 := Lib.hid hn1
      have Hn2 := Lib.hid hn2
      have b1 : (q1.length : Int) < 5000 := by omega
      have b2 : (q2.length : Int) < 5000 := by omega
      have Hb1 := Lib.hid b1
      have Hb2 := Lib.hid b2
      clear RA1 RA2 hS hn1 hn2 d1 d2 HD1 HD2 t1 t2 b1 b2
      have hsplit : (¬ k < sl) ∨ (k < sl ∧ ¬ k < 300) := by omega
      clear hgo
      rcases hsplit with hs1 | ⟨hs1, hs2⟩
      all_goals
        go_wp2
        refine region_segs 20 [([0, 3, 4, 5, 6, 7], 1), ([], 2), ([8, 9, 10, 13, 14, 15, 16, 17], 11), ([], 12)] [18, 19] S (by kernel_rfl) (by kernel_rfl) ((HS.out _).2 ((Kept.refl _ wr).drewN _)) ?_
        refine segs_step (fun K' hK' => ?_)
        simp only [pick, List.getElem?_cons_zero, List.getElem?_cons_succ, Option.getD_some]
        repeat (go_big_quiet_step (fail))
        refine wpQuiet_nil (hK' _ (fun Q1 hQ1 => ?_))
        clear hK' K'
        simp only [pick, List.getElem?_cons_zero, List.getElem?_cons_succ, Option.getD_some]
        go_wp2_with fail
        refine (ring_take (wr.drewN 1) r1 g1 m1 n1 5000 q1 (HQ1.out.drewN 1) (.inr (.inr ⟨Hb1.out, Hn1.out⟩))).mono ?_
        rintro e w5 ⟨rfl, S5, _, _, K5⟩
        have e5 : q1.take n1 = q1 := List.take_of_length_le (by have := Hn1.out; omega)
        rw [e5] at S5
        have v5 := run_convB (P := Try.prog) w5 22 5 9 Try.underlying22 Try.underlying5 Try.underlying9 (some ⟨wr.heap.size, 0, none⟩) q1 n1 n1 Hn1.out.symm S5
        have HK5 : Hid (Kept (· = r1) wr w5) := ⟨K5.os, K5.tape, K5.output, K5.size, K5.block⟩
        clear S5 K5 e5
        go_wp2
        refine hQ1 _ _ ((HS.out _).2 HK5.out) (segs_step (fun K' hK' => wpQuiet_nil (hK' _ (fun Q2 hQ2 => ?_))))
        clear hK' K' hQ1 Q1
        simp only [pick, List.getElem?_cons_zero, List.getElem?_cons_succ, Option.getD_some]
        go_wp2
        refine hQ2 _ _ ((HS.out _).2 HK5.out) (segs_step (fun K' hK' => ?_))
        clear hQ2 Q2
        simp only [pick, List.getElem?_cons_zero, List.getElem?_cons_succ, Option.getD_some]
        repeat (go_big_quiet_step (fail))
        refine wpQuiet_nil (hK' _ (fun Q3 hQ3 => ?_))
        clear hK' K'
        simp only [pick, List.getElem?_cons_zero, List.getElem?_cons_succ, Option.getD_some]
        clear v5
        go_wp2_with fail
        refine (ring_peek w5 r2 g2 m2 n2 5000 q2 (HQ2.out.kept HK5.out (show ¬ r2 = r1 by omega) (show ¬ g2 = r1 by omega)) (.inr (.inr ⟨Hb2.out, Hn2.out⟩))).mono ?_
        rintro e w6 ⟨rfl, S6, _, K6⟩
        have e6 : q2.take n2 = q2 := List.take_of_length_le (by have := Hn2.out; omega)
        rw [e6] at S6
        have v6 := run_convB (P := Try.prog) w6 22 5 9 Try.underlying22 Try.underlying5 Try.underlying9 _ q2 n2 n2 Hn2.out.symm S6
        have HK6 : Hid (Kept (· = r1) wr w6) := HK5.out.trans' K6 (fun _ _ h => h.elim)
        clear S6 K6 e6
        go_wp2
        refine hQ3 _ _ ((HS.out _).2 HK6.out) (segs_step (fun K' hK' => wpQuiet_nil (hK' _ (fun Q4 hQ4 => ?_))))
        clear hK' K' hQ3 Q3
        simp only [pick, List.getElem?_cons_zero, List.getElem?_cons_succ, Option.getD_some]
        go_wp2
        refine hQ4 _ _ ((HS.out _).2 HK6.out) (segs_last (fun K' hK' => ?_))
        clear hQ4 Q4
        simp only [pick, List.getElem?_cons_zero, List.getElem?_cons_succ, Option.getD_some]
        repeat (go_big_quiet_step (fail))
        refine wpQuiet_nil (hK' _ (fun Q5 hQ5 => ?_))
        clear hK' K'
        simp only [List.drop_succ_cons, List.drop_zero]
        go_wp2
        go_ret
        exact ⟨rfl, (HK.out.trans' HK6.out (fun i hi e => by subst e; show w.heap.size ≤ _; omega)).below (Nat.le_refl _) (fun _ _ h => h)⟩
end Go.Proofs.Ytfkchmkaccjjoaa
