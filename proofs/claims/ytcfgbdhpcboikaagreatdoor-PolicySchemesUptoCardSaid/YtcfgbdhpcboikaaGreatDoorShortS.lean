/-
  shortFloat at the least normal float.
  shortFloat at the least normal float and below it.
-/
import Derived.Test.YtcfgbdhpcboikaaGreatDoorShortB
namespace Go.Proofs.YtcfgbdhpcboikaaGreatDoor
open Go.RowKit

set_option maxRecDepth 100000 in
set_option maxHeartbeats 4000000 in
theorem short_least (m : Nat) (e lp : Int) (i s odd umin umax um nmin nmax dmin dmax dm : Nat) (w : World) (T : Tabs w) (he1 : -1085 ≤ e) (he2 : e ≤ -1085) (hm1 : 9223372036854775808 ≤ m) (hm2 : m ≤ 9223372036854775808)
    (hp : -((e + 11) * 78913 / 262144) = (i : Int) - 348) (hi : i < 696) (hlp : ((i : Int) - 348) * 108853 / 32768 = lp) (hs : -(e + lp + 3) = s) (hs64 : s < 64) (hodd : m / 2048 % 2 = odd)
    (h1 : uscN (m - 1024) (p10hi i) (p10lo i) s = umin) (h2 : uscN (m + 1024) (p10hi i) (p10lo i) s = umax) (h3 : uscN m (p10hi i) (p10lo i) s = um)
    (n1 : nudgeN umin odd = nmin) (n2 : nudgeN umax (-(odd : Int)) = nmax) (k1 : ceilN nmin = dmin) (k2 : nmax / 4 = dmax) (k3 : roundN um = dm) (hH : p10hi i < 18446744073709551616) (hL : p10lo i < 18446744073709551616) :
    Calls Tryz.prog 265 #[.int .u64 m, .int .i64 e] w fun e' w' => e' = .returned (.tuple #[.int .u64 (shortD dmin dmax dm ((i : Int) - 348)).1, .int .i64 (shortD dmin dmax dm ((i : Int) - 348)).2]) ∧ Below w.heap.size w w' := by
  have U1 := fun (w : World) b o c0 c1 c2 => uscale_any (m - 1024) (p10hi i) (p10lo i) s w b o c0 c1 c2 (by omega) hH hL hs64
  have U2 := fun (w : World) b o c0 c1 c2 => uscale_any (m + 1024) (p10hi i) (p10lo i) s w b o c0 c1 c2 (by omega) hH hL hs64
  have U3 := fun (w : World) b o c0 c1 c2 => uscale_any m (p10hi i) (p10lo i) s w b o c0 c1 c2 (by omega) hH hL hs64
  rw [h1] at U1
  rw [h2] at U2
  rw [h3] at U3
  have em : ((m - 1024 : Nat) : Int) = (m : Int) - 1024 := by omega
  have ep : ((m + 1024 : Nat) : Int) = (m : Int) + 1024 := by omega
  rw [em] at U1
  rw [ep] at U2
  have ha := and1_i64 (m / 2048) (by omega)
  have e5 : ((m / 2048 : Nat) : Int) = (m : Int) / 2048 := by omega
  rw [hodd, e5] at ha
  have hodd2 : odd ≤ 1 := by omega
  have j1 : nmin < 18446744073709551616 := by rw [← n1]; exact nudgeN_lt _ _
  have j2 : nmax < 18446744073709551616 := by rw [← n2]; exact nudgeN_lt _ _
  have j3 : dmax < 18446744073709551616 := by omega
  have N1 := fun w => nudge_at umin nmin odd w (by rw [← h1]; exact uscN_lt _ _ _ _ (by omega) hH hL) n1
  have N2 := fun w => nudge_at umax nmax (-(odd : Int)) w (by rw [← h2]; exact uscN_lt _ _ _ _ (by omega) hH hL) n2
  have C1 := fun w => ceil_at nmin dmin w j1 k1
  have F1 := fun w => floor_at nmax dmax w j2 k2
  have R1 := fun w => round_at um dm w (by rw [← h3]; exact uscN_lt _ _ _ _ (by omega) hH hL) k3
  have l1 : umin < 18446744073709551616 := by rw [← h1]; exact uscN_lt _ _ _ _ (by omega) hH hL
  have l2 : umax < 18446744073709551616 := by rw [← h2]; exact uscN_lt _ _ _ _ (by omega) hH hL
  have l3 : um < 18446744073709551616 := by rw [← h3]; exact uscN_lt _ _ _ _ (by omega) hH hL
  have HU1 := Lib.hid U1
  have HU2 := Lib.hid U2
  have HU3 := Lib.hid U3
  have HT := Lib.hid T
  have HS := Lib.hid hs
  have HO := Lib.hid hodd
  have HN1 := Lib.hid N1
  have HN2 := Lib.hid N2
  have HC1 := Lib.hid C1
  have HF1 := Lib.hid F1
  have HR1 := Lib.hid R1
  clear U1 U2 U3 h1 h2 h3 hH hL T hs hodd N1 N2 C1 F1 R1 n1 n2 k1 k2 k3 em ep e5
  have hne : ((m : Int) == 9223372036854775808) = true := beq_iff_eq.2 (by omega)
  go_enter Tryz.func265, Tryz.ntmps265
  go_wp2_with (first
    | (go_at_call 260; refine (log10_any _ _ (by omega) (by omega)).mono ?_; rintro e w' ⟨rfl, rfl⟩)
    | (go_at_call 272; refine (log2_any _ _ (by omega) (by omega)).mono ?_; rintro e w' ⟨rfl, rfl⟩))
  have T1 : Tabs (w.alloc (.cells #[.int .u64 0, .int .u64 0, .int .i64 0] 265)) := HT.out.below ((Below.refl w.heap.size w).alloc (Nat.le_refl _) _) (Nat.le_refl _)
  have hg := heap_alloc_new w (.cells #[.int .u64 0, .int .u64 0, .int .i64 0] 265)
  have hsz := HT.out.size
  refine (prescale_any e lp s i _ w.heap.size _ _ _ _ hg rfl hi (by omega) T1 (by omega) (by omega) (by omega) (by omega) HS.out).mono ?_
  rintro e1 w1 ⟨rfl, hg1, K1⟩
  have hz1 : w.heap.size < w1.heap.size := by have := K1.size; simp at this; omega
  have B1 : Below w.heap.size w w1 := (((Kept.refl (fun _ => False) w).alloc _).trans' K1 (fun _ _ h => by omega)).below (Nat.le_refl _) (fun _ _ h => h.elim)
  have HB1 := Lib.hid B1
  have HK1 := Lib.hid K1
  have c0 := cell_of_row w1 w.heap.size 0 _ _ _ hg1
  have c1 := cell_of_row w1 w.heap.size 1 _ _ _ hg1
  have c2 := cell_of_row w1 w.heap.size 2 _ _ _ hg1
  simp at c0 c1 c2
  obtain ⟨g, hgg⟩ : ∃ g, w.heap.size = g := ⟨_, rfl⟩
  rw [hgg] at c0 c1 c2 hg1 hz1 ⊢
  clear T1 hg K1 B1 hgg hsz hg1
  go_wp2_with (first
    | (go_at_call 274; ((with_reducible refine (HU1.out _ _ _ ?_ ?_ ?_).mono ?_); all_goals first | exact c0 | exact c1 | exact c2 | skip); rintro e w' ⟨rfl, n, rfl⟩)
    | (go_at_call 274; ((with_reducible refine (HU2.out _ _ _ ?_ ?_ ?_).mono ?_); all_goals first | exact c0 | exact c1 | exact c2 | skip); rintro e w' ⟨rfl, n, rfl⟩)
    | (go_at_call 274; ((with_reducible refine (HU3.out _ _ _ ?_ ?_ ?_).mono ?_); all_goals first | exact c0 | exact c1 | exact c2 | skip); rintro e w' ⟨rfl, n, rfl⟩)
    | (go_at_call 277; ((with_reducible refine (HR1.out _).mono ?_); rintro e w' ⟨rfl, rfl⟩))
    | (go_at_call 283; ((with_reducible refine (HN1.out _).mono ?_); rintro e w' ⟨rfl, rfl⟩))
    | (go_at_call 283; ((with_reducible refine (HN2.out _).mono ?_); rintro e w' ⟨rfl, rfl⟩))
    | (go_at_call 284; ((with_reducible refine (HC1.out _).mono ?_); rintro e w' ⟨rfl, rfl⟩))
    | (go_at_call 285; ((with_reducible refine (HF1.out _).mono ?_); rintro e w' ⟨rfl, rfl⟩)))
  · have hle : dmin ≤ dmax / 10 * 10 := by omega
    go_ret2
    refine ⟨?_, HB1.out.trans ⟨rfl, rfl, rfl, Nat.le_refl _, fun _ _ => rfl⟩⟩
    have e : shortD dmin dmax dm ((i : Int) - 348) = (dmax / 10, -((i : Int) - 348 - 1)) := by unfold shortD; rw [if_pos hle]
    rw [e]
    rfl
  · have hle : ¬ dmin ≤ dmax / 10 * 10 := by omega
    have hlt : dmin < dmax := by assumption
    go_ret2
    refine ⟨?_, HB1.out.trans ⟨rfl, rfl, rfl, Nat.le_refl _, fun _ _ => rfl⟩⟩
    have e : shortD dmin dmax dm ((i : Int) - 348) = (dm, -((i : Int) - 348)) := by unfold shortD; rw [if_neg hle, if_pos hlt]
    rw [e]
    rfl
  · have hle : ¬ dmin ≤ dmax / 10 * 10 := by omega
    have hlt : ¬ dmin < dmax := by assumption
    go_ret2
    refine ⟨?_, HB1.out.trans ⟨rfl, rfl, rfl, Nat.le_refl _, fun _ _ => rfl⟩⟩
    have e : shortD dmin dmax dm ((i : Int) - 348) = (dmin, -((i : Int) - 348)) := by unfold shortD; rw [if_neg hle, if_neg hlt]
    rw [e]
    rfl
end Go.Proofs.YtcfgbdhpcboikaaGreatDoor

namespace Go.Proofs.YtcfgbdhpcboikaaGreatDoor
open Go.RowKit

theorem wrap64_nat (q : Nat) (h : q < 9223372036854775808) : wrap64 (q : Int) = (q : Int) := by unfold wrap64; omega
set_option maxRecDepth 100000 in
set_option maxHeartbeats 4000000 in
theorem short_sub (m z mn mx : Nat) (e lp : Int) (i s odd umin umax um nmin nmax dmin dmax dm : Nat) (w : World) (T : Tabs w) (he1 : -1137 ≤ e) (he2 : e < -1085) (hze : 11 + (-1085 - e) = (z : Int)) (hm1 : 9223372036854775808 ≤ m) (hm2 : m < 18446744073709551616) (hmn : m - 2 ^ (z - 1) = mn) (hmx : m + 2 ^ (z - 1) = mx) (hmx2 : mx < 18446744073709551616)
    (hp : -((e + z) * 78913 / 262144) = (i : Int) - 348) (hi : i < 696) (hlp : ((i : Int) - 348) * 108853 / 32768 = lp) (hs : -(e + lp + 3) = s) (hs64 : s < 64) (hodd : m / 2 ^ z % 2 = odd)
    (h1 : uscN mn (p10hi i) (p10lo i) s = umin) (h2 : uscN mx (p10hi i) (p10lo i) s = umax) (h3 : uscN m (p10hi i) (p10lo i) s = um)
    (n1 : nudgeN umin odd = nmin) (n2 : nudgeN umax (-(odd : Int)) = nmax) (k1 : ceilN nmin = dmin) (k2 : nmax / 4 = dmax) (k3 : roundN um = dm) (hH : p10hi i < 18446744073709551616) (hL : p10lo i < 18446744073709551616) :
    Calls Tryz.prog 265 #[.int .u64 m, .int .i64 e] w fun e' w' => e' = .returned (.tuple #[.int .u64 (shortD dmin dmax dm ((i : Int) - 348)).1, .int .i64 (shortD dmin dmax dm ((i : Int) - 348)).2]) ∧ Below w.heap.size w w' := by
  have hz1 : 12 ≤ (z : Int) := by omega
  have hz2 : (z : Int) ≤ 63 := by omega
  have hmg : ¬ (-1085 : Int) < e := by omega
  have hge : ¬ (-1085 : Int) ≤ e := by omega
  obtain ⟨Pz, hPz⟩ : ∃ P, 2 ^ (z - 1) = P := ⟨_, rfl⟩
  have hpz : Pz < 9223372036854775808 := by
    have : 2 ^ (z - 1) ≤ 2 ^ 62 := Nat.pow_le_pow_right (by decide) (by omega)
    have e62 : (2 : Nat) ^ 62 = 4611686018427387904 := by decide
    omega
  have ecast : ((2 : Int) ^ (z - 1)) = (Pz : Int) := by rw [← hPz, Int.natCast_pow]; rfl
  rw [hPz] at hmn hmx
  have f0 : IntKind.u64.wrap ((2 : Int) ^ (z - 1)) = (Pz : Int) := by rw [wrap_u64, ecast]; omega
  have f1 : IntKind.u64.wrap ((m : Int) - IntKind.u64.wrap ((2 : Int) ^ (z - 1))) = (mn : Int) := by rw [f0, wrap_u64]; omega
  have f2 : IntKind.u64.wrap ((m : Int) + IntKind.u64.wrap ((2 : Int) ^ (z - 1))) = (mx : Int) := by rw [f0, wrap_u64]; omega
  obtain ⟨q, hq'⟩ : ∃ q, m / 2 ^ z = q := ⟨_, rfl⟩
  have hq4 : q < 9007199254740992 := by
    rw [← hq']
    refine Nat.div_lt_of_lt_mul ?_
    have h12 : 2 ^ 12 ≤ 2 ^ z := Nat.pow_le_pow_right (by decide) (by omega)
    have e12 : (2 : Nat) ^ 12 = 4096 := by decide
    rw [e12] at h12
    have := Nat.mul_le_mul_right 9007199254740992 h12
    refine Nat.lt_of_lt_of_le hm2 (Nat.le_trans ?_ this)
    decide
  have e3 : (q : Int) = (m : Int) / 2 ^ z := by rw [← hq', Int.natCast_ediv, Int.natCast_pow]; rfl
  rw [hq'] at hodd
  have e4 : wrap64 (q : Int) = (q : Int) := wrap64_nat q (by clear e3; omega)
  have hq63 : q < 9223372036854775808 := Nat.lt_trans hq4 (by decide)
  have e5 := and1_i64 q hq63
  rw [hodd] at e5
  have f3 : bits .and .i64 (wrap64 ((m : Int) / 2 ^ z)) 1 = (odd : Int) := by rw [← e3, e4, e5]
  have HG1 := Lib.hid f1
  have HG2 := Lib.hid f2
  have HG3 := Lib.hid f3
  clear e3 e4 e5 hq' hq4 hq63 f1 f2 f3
  have hodd2 : odd ≤ 1 := by omega
  have hmn2 : mn < 18446744073709551616 := by omega
  have U1 := fun (w : World) b o c0 c1 c2 => uscale_any mn (p10hi i) (p10lo i) s w b o c0 c1 c2 hmn2 hH hL hs64
  have U2 := fun (w : World) b o c0 c1 c2 => uscale_any mx (p10hi i) (p10lo i) s w b o c0 c1 c2 hmx2 hH hL hs64
  have U3 := fun (w : World) b o c0 c1 c2 => uscale_any m (p10hi i) (p10lo i) s w b o c0 c1 c2 (by omega) hH hL hs64
  rw [h1] at U1
  rw [h2] at U2
  rw [h3] at U3
  have j1 : nmin < 18446744073709551616 := by rw [← n1]; exact nudgeN_lt _ _
  have j2 : nmax < 18446744073709551616 := by rw [← n2]; exact nudgeN_lt _ _
  have j3 : dmax < 18446744073709551616 := by omega
  have N1 := fun w => nudge_at umin nmin odd w (by rw [← h1]; exact uscN_lt _ _ _ _ (by omega) hH hL) n1
  have N2 := fun w => nudge_at umax nmax (-(odd : Int)) w (by rw [← h2]; exact uscN_lt _ _ _ _ (by omega) hH hL) n2
  have C1 := fun w => ceil_at nmin dmin w j1 k1
  have F1 := fun w => floor_at nmax dmax w j2 k2
  have R1 := fun w => round_at um dm w (by rw [← h3]; exact uscN_lt _ _ _ _ (by omega) hH hL) k3
  have l1 : umin < 18446744073709551616 := by rw [← h1]; exact uscN_lt _ _ _ _ (by omega) hH hL
  have l2 : umax < 18446744073709551616 := by rw [← h2]; exact uscN_lt _ _ _ _ (by omega) hH hL
  have l3 : um < 18446744073709551616 := by rw [← h3]; exact uscN_lt _ _ _ _ (by omega) hH hL
  have HU1 := Lib.hid U1
  have HU2 := Lib.hid U2
  have HU3 := Lib.hid U3
  have HT := Lib.hid T
  have HS := Lib.hid hs
  have HO := Lib.hid hodd
  have HN1 := Lib.hid N1
  have HN2 := Lib.hid N2
  have HC1 := Lib.hid C1
  have HF1 := Lib.hid F1
  have HR1 := Lib.hid R1
  clear U1 U2 U3 h1 h2 h3 hH hL T hs hodd N1 N2 C1 F1 R1 n1 n2 k1 k2 k3 f0 ecast hmn hmx hPz
  cases hq : ((m : Int) == 9223372036854775808)
  all_goals
    go_enter Tryz.func265, Tryz.ntmps265
    go_wp2_with (first
      | (go_at_call 260; refine (log10_any _ _ (by omega) (by omega)).mono ?_; rintro e w' ⟨rfl, rfl⟩)
      | (go_at_call 272; refine (log2_any _ _ (by omega) (by omega)).mono ?_; rintro e w' ⟨rfl, rfl⟩))
    rw [HG1.out, HG2.out, HG3.out]
    have T1 : Tabs (w.alloc (.cells #[.int .u64 0, .int .u64 0, .int .i64 0] 265)) := HT.out.below ((Below.refl w.heap.size w).alloc (Nat.le_refl _) _) (Nat.le_refl _)
    have hg := heap_alloc_new w (.cells #[.int .u64 0, .int .u64 0, .int .i64 0] 265)
    have hsz := HT.out.size
    refine (prescale_any e lp s i _ w.heap.size _ _ _ _ hg rfl hi (by omega) T1 (by omega) (by omega) (by omega) (by omega) HS.out).mono ?_
    rintro e1 w1 ⟨rfl, hg1, K1⟩
    have hz1 : w.heap.size < w1.heap.size := by have := K1.size; simp at this; omega
    have B1 : Below w.heap.size w w1 := (((Kept.refl (fun _ => False) w).alloc _).trans' K1 (fun _ _ h => by omega)).below (Nat.le_refl _) (fun _ _ h => h.elim)
    have HB1 := Lib.hid B1
    have HK1 := Lib.hid K1
    have c0 := cell_of_row w1 w.heap.size 0 _ _ _ hg1
    have c1 := cell_of_row w1 w.heap.size 1 _ _ _ hg1
    have c2 := cell_of_row w1 w.heap.size 2 _ _ _ hg1
    simp at c0 c1 c2
    obtain ⟨g, hgg⟩ : ∃ g, w.heap.size = g := ⟨_, rfl⟩
    rw [hgg] at c0 c1 c2 hg1 hz1 ⊢
    clear T1 hg K1 B1 hgg hsz hg1
    go_wp2_with (first
      | (go_at_call 274; ((with_reducible refine (HU1.out _ _ _ ?_ ?_ ?_).mono ?_); all_goals first | exact c0 | exact c1 | exact c2 | skip); rintro e w' ⟨rfl, n, rfl⟩)
      | (go_at_call 274; ((with_reducible refine (HU2.out _ _ _ ?_ ?_ ?_).mono ?_); all_goals first | exact c0 | exact c1 | exact c2 | skip); rintro e w' ⟨rfl, n, rfl⟩)
      | (go_at_call 274; ((with_reducible refine (HU3.out _ _ _ ?_ ?_ ?_).mono ?_); all_goals first | exact c0 | exact c1 | exact c2 | skip); rintro e w' ⟨rfl, n, rfl⟩)
      | (go_at_call 277; ((with_reducible refine (HR1.out _).mono ?_); rintro e w' ⟨rfl, rfl⟩))
      | (go_at_call 283; ((with_reducible refine (HN1.out _).mono ?_); rintro e w' ⟨rfl, rfl⟩))
      | (go_at_call 283; ((with_reducible refine (HN2.out _).mono ?_); rintro e w' ⟨rfl, rfl⟩))
      | (go_at_call 284; ((with_reducible refine (HC1.out _).mono ?_); rintro e w' ⟨rfl, rfl⟩))
      | (go_at_call 285; ((with_reducible refine (HF1.out _).mono ?_); rintro e w' ⟨rfl, rfl⟩)))
    · have hle : dmin ≤ dmax / 10 * 10 := by omega
      go_ret2
      refine ⟨?_, HB1.out.trans ⟨rfl, rfl, rfl, Nat.le_refl _, fun _ _ => rfl⟩⟩
      have e : shortD dmin dmax dm ((i : Int) - 348) = (dmax / 10, -((i : Int) - 348 - 1)) := by unfold shortD; rw [if_pos hle]
      rw [e]
      rfl
    · have hle : ¬ dmin ≤ dmax / 10 * 10 := by omega
      have hlt : dmin < dmax := by assumption
      go_ret2
      refine ⟨?_, HB1.out.trans ⟨rfl, rfl, rfl, Nat.le_refl _, fun _ _ => rfl⟩⟩
      have e : shortD dmin dmax dm ((i : Int) - 348) = (dm, -((i : Int) - 348)) := by unfold shortD; rw [if_neg hle, if_pos hlt]
      rw [e]
      rfl
    · have hle : ¬ dmin ≤ dmax / 10 * 10 := by omega
      have hlt : ¬ dmin < dmax := by assumption
      go_ret2
      refine ⟨?_, HB1.out.trans ⟨rfl, rfl, rfl, Nat.le_refl _, fun _ _ => rfl⟩⟩
      have e : shortD dmin dmax dm ((i : Int) - 348) = (dmin, -((i : Int) - 348)) := by unfold shortD; rw [if_neg hle, if_neg hlt]
      rw [e]
      rfl
end Go.Proofs.YtcfgbdhpcboikaaGreatDoor
