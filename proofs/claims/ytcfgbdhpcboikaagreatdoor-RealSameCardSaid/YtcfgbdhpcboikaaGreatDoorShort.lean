/-
  The small functions of the unrounded scaling; prescale.
  shortFloat at a normal float that is no power of two.
-/
import Derived.Test.YtcfgbdhpcboikaaGreatDoorUsc
namespace Go.Proofs.YtcfgbdhpcboikaaGreatDoor
open Go.RowKit

theorem ret_u64 {a b : Int} (h : a = b) : Ending.returned (.int .u64 a) = .returned (.int .u64 b) := by rw [h]
theorem log2_any (x : Int) (w : World) (h0 : -3000 ≤ x) (h1 : x ≤ 3000) : Calls Tryz.prog 272 #[.int .i64 x] w fun e w' => e = .returned (.int .i64 (x * 108853 / 32768)) ∧ w = w' := by
  go_enter Tryz.func272, Tryz.ntmps272
  go_wp2
  go_ret
  exact ⟨rfl, rfl⟩
theorem log10_any (x : Int) (w : World) (h0 : -3000 ≤ x) (h1 : x ≤ 3000) : Calls Tryz.prog 260 #[.int .i64 x] w fun e w' => e = .returned (.int .i64 (x * 78913 / 262144)) ∧ w = w' := by
  go_enter Tryz.func260, Tryz.ntmps260
  go_wp2
  go_ret
  exact ⟨rfl, rfl⟩
theorem skewed_any (x : Int) (w : World) (h0 : -3000 ≤ x) (h1 : x ≤ 3000) : Calls Tryz.prog 282 #[.int .i64 x] w fun e w' => e = .returned (.int .i64 ((x * 631305 - 261663) / 2097152)) ∧ w = w' := by
  go_enter Tryz.func282, Tryz.ntmps282
  go_wp2
  go_ret
  exact ⟨rfl, rfl⟩
theorem nudge_any (u : Nat) (d : Int) (w : World) (_hu : u < 18446744073709551616) : Calls Tryz.prog 283 #[.int .u64 u, .int .i64 d] w fun e w' => e = .returned (.int .u64 ((((u : Int) + d) % 18446744073709551616).toNat : Nat)) ∧ w = w' := by
  go_enter Tryz.func283, Tryz.ntmps283
  go_wp2
  go_ret
  refine ⟨ret_u64 ?_, rfl⟩
  rw [wrap_u64, wrap_u64]
  omega
theorem ceil_any (u : Nat) (w : World) (_hu : u < 18446744073709551616) : Calls Tryz.prog 284 #[.int .u64 u] w fun e w' => e = .returned (.int .u64 ((u + 3) % 18446744073709551616 / 4 : Nat)) ∧ w = w' := by
  go_enter Tryz.func284, Tryz.ntmps284
  go_wp2
  go_ret
  refine ⟨ret_u64 ?_, rfl⟩
  rw [wrap_u64]
  omega
theorem floor_any (u : Nat) (w : World) (hu : u < 18446744073709551616) : Calls Tryz.prog 285 #[.int .u64 u] w fun e w' => e = .returned (.int .u64 (u / 4 : Nat)) ∧ w = w' := by
  go_enter Tryz.func285, Tryz.ntmps285
  go_wp2
  go_ret
  refine ⟨ret_u64 ?_, rfl⟩
  omega
theorem and1_nat (n : Nat) (h : n < 18446744073709551616) : bits .and .u64 (n : Int) 1 = ((n % 2 : Nat) : Int) := by
  have := and_one_u64 (n : Int) (by omega) (by omega)
  rw [this]
  omega
theorem round_any (u : Nat) (w : World) (hu : u < 18446744073709551616) : Calls Tryz.prog 277 #[.int .u64 u] w fun e w' => e = .returned (.int .u64 ((u + 1 + u / 4 % 2) % 18446744073709551616 / 4 : Nat)) ∧ w = w' := by
  have ha := and1_nat (u / 4) (by omega)
  have e4 : ((u / 4 : Nat) : Int) = (u : Int) / 4 := by omega
  rw [e4] at ha
  have HA := Lib.hid ha
  clear ha e4
  go_enter Tryz.func277, Tryz.ntmps277
  go_wp2
  go_ret
  refine ⟨ret_u64 ?_, rfl⟩
  rw [HA.out, wrap_u64, wrap_u64]
  omega

set_option maxHeartbeats 1000000 in
theorem prescale_any (e lp s : Int) (i : Nat) (w : World) (g : Nat) (v0 v1 v2 : Value) (fz : Nat × Nat) (hg : w.heap[g]? = some (.cells #[v0, v1, v2] 265 fz)) (hf : fz = (0, 0)) (hi : i < 696) (_hne : 13 ≠ g)
    (T : Tabs w) (he : -3000 ≤ e) (he2 : e ≤ 3000) (hl : -3000 ≤ lp) (hl2 : lp ≤ 3000) (hs : -(e + lp + 3) = s) :
    Calls Tryz.prog 273 #[.pointer (some ⟨g, 0, none⟩), .int .i64 e, .int .i64 ((i : Int) - 348), .int .i64 lp] w
      fun e w' => e = .returned (.tuple #[]) ∧ w'.heap[g]? = some (.cells #[.int .u64 (p10hi i), .int .u64 (p10lo i), .int .i64 s] 265 (0, 0)) ∧ Kept (· = g) w w' := by
  subst hf
  obtain ⟨t0, t1⟩ := T.p10 i hi
  rw [Nat.mul_comm] at t0 t1
  have c0 := cell_of_row w g 0 _ _ _ hg
  have c1 := cell_of_row w g 1 _ _ _ hg
  have c2 := cell_of_row w g 2 _ _ _ hg
  have z0 := frozen_of_row w g 0 _ _ hg
  have z1 := frozen_of_row w g 1 _ _ hg
  have z2 := frozen_of_row w g 2 _ _ hg
  generalize p10hi i = H at *
  generalize p10lo i = L at *
  clear T
  have HG := Lib.hid hg
  clear hg
  simp at c0 c1 c2
  go_enter Tryz.func273, Tryz.ntmps273
  go_wp2
  go_end0
  refine ⟨rfl, ?_, (((Kept.refl (· = g) w).setCell ⟨g, 0, none⟩ _ (fun _ => rfl)).setCell ⟨g, 1, none⟩ _ (fun _ => rfl)).setCell ⟨g, 2, none⟩ _ (fun _ => rfl)⟩
  rw [heap_setCell_same _ _ _ _ _ _ (heap_setCell_same _ _ _ _ _ _ (heap_setCell_same _ _ _ _ _ _ HG.out))]
  simp
end Go.Proofs.YtcfgbdhpcboikaaGreatDoor

namespace Go.Proofs.YtcfgbdhpcboikaaGreatDoor
open Go.RowKit

def nudgeN (u : Nat) (d : Int) : Nat := (((u : Int) + d) % 18446744073709551616).toNat
def ceilN (u : Nat) : Nat := (u + 3) % 18446744073709551616 / 4
def roundN (u : Nat) : Nat := (u + 1 + u / 4 % 2) % 18446744073709551616 / 4
/-- The shortest digits between two bounds. -/
def shortD (dmin dmax dm : Nat) (p : Int) : Nat × Int :=
  if dmin ≤ dmax / 10 * 10 then (dmax / 10, -(p - 1)) else if dmin < dmax then (dm, -p) else (dmin, -p)

theorem uscN_lt (x h l s : Nat) (hx : x < 18446744073709551616) (hh : h < 18446744073709551616) (_hl : l < 18446744073709551616) : uscN x h l s < 18446744073709551616 := by
  have b1 := mul_hi_lt x h hx hh
  have two : (18446744073709551616 : Nat) = 2 ^ 64 := by decide
  unfold uscN
  simp only []
  split
  · rw [two]
    exact Nat.or_lt_two_pow (by rw [← two]; exact div_pow_lt _ _ b1) (by decide)
  · rw [two]
    refine Nat.or_lt_two_pow (by rw [← two]; exact div_pow_lt _ _ (by split <;> omega)) (by split <;> decide)

theorem nudge_at (u a : Nat) (d : Int) (w : World) (hu : u < 18446744073709551616) (h : nudgeN u d = a) : Calls Tryz.prog 283 #[.int .u64 u, .int .i64 d] w fun e w' => e = .returned (.int .u64 a) ∧ w = w' := by
  subst h; exact nudge_any u d w hu
theorem ceil_at (u a : Nat) (w : World) (hu : u < 18446744073709551616) (h : ceilN u = a) : Calls Tryz.prog 284 #[.int .u64 u] w fun e w' => e = .returned (.int .u64 a) ∧ w = w' := by
  subst h; exact ceil_any u w hu
theorem floor_at (u a : Nat) (w : World) (hu : u < 18446744073709551616) (h : u / 4 = a) : Calls Tryz.prog 285 #[.int .u64 u] w fun e w' => e = .returned (.int .u64 a) ∧ w = w' := by
  subst h; exact floor_any u w hu
theorem round_at (u a : Nat) (w : World) (hu : u < 18446744073709551616) (h : roundN u = a) : Calls Tryz.prog 277 #[.int .u64 u] w fun e w' => e = .returned (.int .u64 a) ∧ w = w' := by
  subst h; exact round_any u w hu
theorem nudgeN_lt (u : Nat) (d : Int) : nudgeN u d < 18446744073709551616 := by unfold nudgeN; omega
theorem wrap_i64_nat (n : Nat) (h : n < 9223372036854775808) : IntKind.i64.wrap (n : Int) = n := by
  have h1 : IntKind.i64.signed = true := rfl
  have h2 : IntKind.i64.bits = 64 := rfl
  unfold IntKind.wrap
  simp only [h1, h2, Bool.true_and, decide_eq_true_eq]
  have e : (n : Int) % (2 ^ 64 : Int) = n := by
    have : ((2 : Int) ^ 64) = 18446744073709551616 := by decide
    rw [this]; omega
  rw [e, if_neg]
  have : ((2 : Int) ^ (64 - 1)) = 9223372036854775808 := by decide
  rw [this]; omega
theorem and_i64_nat (a b : Nat) (ha : a < 9223372036854775808) (hb : b < 9223372036854775808) : bits .and .i64 (a : Int) (b : Int) = ((a &&& b : Nat) : Int) := by
  have hx : a &&& b ≤ a := Nat.and_le_left
  show IntKind.i64.wrap ((BitVec.ofInt 64 (a : Int) &&& BitVec.ofInt 64 (b : Int)).toNat : Int) = _
  rw [BitVec.toNat_and, ofInt_u64 a (by omega), ofInt_u64 b (by omega)]
  exact wrap_i64_nat _ (by omega)
theorem and1_i64 (n : Nat) (h : n < 9223372036854775808) : bits .and .i64 (n : Int) 1 = ((n % 2 : Nat) : Int) := by
  have := and_i64_nat n 1 h (by omega)
  rw [Nat.and_one_is_mod] at this
  exact this

set_option maxRecDepth 100000 in
set_option maxHeartbeats 4000000 in
theorem short_normal (m : Nat) (e lp : Int) (i s odd umin umax um nmin nmax dmin dmax dm : Nat) (w : World) (T : Tabs w) (he1 : -1085 ≤ e) (he2 : e ≤ 1000) (hm1 : 9223372036854775808 < m) (hm2 : m < 18446744073709550592)
    (hp : -((e + 11) * 78913 / 262144) = (i : Int) - 348) (hi : i < 696) (hlp : ((i : Int) - 348) * 108853 / 32768 = lp) (hs : -(e + lp + 3) = s) (hs64 : s < 64) (hodd : m / 2048 % 2 = odd)
    (h1 : uscN (m - 1024) (p10hi i) (p10lo i) s = umin) (h2 : uscN (m + 1024) (p10hi i) (p10lo i) s = umax) (h3 : uscN m (p10hi i) (p10lo i) s = um)
    (n1 : nudgeN umin odd = nmin) (n2 : nudgeN umax (-(odd : Int)) = nmax) (k1 : ceilN nmin = dmin) (k2 : nmax / 4 = dmax) (k3 : roundN um = dm) (hH : p10hi i < 18446744073709551616) (hL : p10lo i < 18446744073709551616) :
    Calls Tryz.prog 265 #[.int .u64 m, .int .i64 e] w fun e' w' => e' = .returned (.tuple #[.int .u64 (shortD dmin dmax dm ((i : Int) - 348)).1, .int .i64 (shortD dmin dmax dm ((i : Int) - 348)).2]) ∧ Below w.heap.size w w' := by
  have U1 := fun (w : World) b o c0 c1 c2 => uscale_any (m - 1024) (p10hi i) (p10lo i) s w b o c0 c1 c2 (by omega) hH hL hs64
  have U2 := fun (w : World) b o c0 c1 c2 => uscale_any (m + 1024) (p10hi i) (p10lo i) s w b o c0 c1 c2 (by omega) hH hL hs64
  have U3 := fun (w : World) b o c0 c1 c2 => uscale_any m (p10hi i) (p10lo i) s w b o c0 c1 c2 (by omega) hH hL hs64
  rw [h1] at U1
  rw [h2] at U2
  rw [h3] at U3
  have em : ((m - 1024 : Nat) : Int) = (m : Int) - 1024 := by omega
  have ep : ((m + 1024 : Nat) : Int) = (m : Int) + 1024 := by omega
  rw [em] at U1
  rw [ep] at U2
  have ha := and1_i64 (m / 2048) (by omega)
  have e5 : ((m / 2048 : Nat) : Int) = (m : Int) / 2048 := by omega
  rw [hodd, e5] at ha
  have hodd2 : odd ≤ 1 := by omega
  have j1 : nmin < 18446744073709551616 := by rw [← n1]; exact nudgeN_lt _ _
  have j2 : nmax < 18446744073709551616 := by rw [← n2]; exact nudgeN_lt _ _
  have j3 : dmax < 18446744073709551616 := by omega
  have N1 := fun w => nudge_at umin nmin odd w (by rw [← h1]; exact uscN_lt _ _ _ _ (by omega) hH hL) n1
  have N2 := fun w => nudge_at umax nmax (-(odd : Int)) w (by rw [← h2]; exact uscN_lt _ _ _ _ (by omega) hH hL) n2
  have C1 := fun w => ceil_at nmin dmin w j1 k1
  have F1 := fun w => floor_at nmax dmax w j2 k2
  have R1 := fun w => round_at um dm w (by rw [← h3]; exact uscN_lt _ _ _ _ (by omega) hH hL) k3
  have l1 : umin < 18446744073709551616 := by rw [← h1]; exact uscN_lt _ _ _ _ (by omega) hH hL
  have l2 : umax < 18446744073709551616 := by rw [← h2]; exact uscN_lt _ _ _ _ (by omega) hH hL
  have l3 : um < 18446744073709551616 := by rw [← h3]; exact uscN_lt _ _ _ _ (by omega) hH hL
  have HU1 := Lib.hid U1
  have HU2 := Lib.hid U2
  have HU3 := Lib.hid U3
  have HT := Lib.hid T
  have HS := Lib.hid hs
  have HO := Lib.hid hodd
  have HN1 := Lib.hid N1
  have HN2 := Lib.hid N2
  have HC1 := Lib.hid C1
  have HF1 := Lib.hid F1
  have HR1 := Lib.hid R1
  clear U1 U2 U3 h1 h2 h3 hH hL T hs hodd N1 N2 C1 F1 R1 n1 n2 k1 k2 k3 em ep e5
  have hne : ((m : Int) == 9223372036854775808) = false := beq_eq_false_iff_ne.2 (by omega)
  go_enter Tryz.func265, Tryz.ntmps265
  go_wp2_with (first
    | (go_at_call 260; refine (log10_any _ _ (by omega) (by omega)).mono ?_; rintro e w' ⟨rfl, rfl⟩)
    | (go_at_call 272; refine (log2_any _ _ (by omega) (by omega)).mono ?_; rintro e w' ⟨rfl, rfl⟩))
  have T1 : Tabs (w.alloc (.cells #[.int .u64 0, .int .u64 0, .int .i64 0] 265)) := HT.out.below ((Below.refl w.heap.size w).alloc (Nat.le_refl _) _) (Nat.le_refl _)
  have hg := heap_alloc_new w (.cells #[.int .u64 0, .int .u64 0, .int .i64 0] 265)
  have hsz := HT.out.size
  refine (prescale_any e lp s i _ w.heap.size _ _ _ _ hg rfl hi (by omega) T1 (by omega) (by omega) (by omega) (by omega) HS.out).mono ?_
  rintro e1 w1 ⟨rfl, hg1, K1⟩
  have hz1 : w.heap.size < w1.heap.size := by have := K1.size; simp at this; omega
  have B1 : Below w.heap.size w w1 := (((Kept.refl (fun _ => False) w).alloc _).trans' K1 (fun _ _ h => by omega)).below (Nat.le_refl _) (fun _ _ h => h.elim)
  have HB1 := Lib.hid B1
  have HK1 := Lib.hid K1
  have c0 := cell_of_row w1 w.heap.size 0 _ _ _ hg1
  have c1 := cell_of_row w1 w.heap.size 1 _ _ _ hg1
  have c2 := cell_of_row w1 w.heap.size 2 _ _ _ hg1
  simp at c0 c1 c2
  obtain ⟨g, hgg⟩ : ∃ g, w.heap.size = g := ⟨_, rfl⟩
  rw [hgg] at c0 c1 c2 hg1 hz1 ⊢
  clear T1 hg K1 B1 hgg hsz hg1
  go_wp2_with (first
    | (go_at_call 274; ((with_reducible refine (HU1.out _ _ _ ?_ ?_ ?_).mono ?_); all_goals first | exact c0 | exact c1 | exact c2 | skip); rintro e w' ⟨rfl, n, rfl⟩)
    | (go_at_call 274; ((with_reducible refine (HU2.out _ _ _ ?_ ?_ ?_).mono ?_); all_goals first | exact c0 | exact c1 | exact c2 | skip); rintro e w' ⟨rfl, n, rfl⟩)
    | (go_at_call 274; ((with_reducible refine (HU3.out _ _ _ ?_ ?_ ?_).mono ?_); all_goals first | exact c0 | exact c1 | exact c2 | skip); rintro e w' ⟨rfl, n, rfl⟩)
    | (go_at_call 277; ((with_reducible refine (HR1.out _).mono ?_); rintro e w' ⟨rfl, rfl⟩))
    | (go_at_call 283; ((with_reducible refine (HN1.out _).mono ?_); rintro e w' ⟨rfl, rfl⟩))
    | (go_at_call 283; ((with_reducible refine (HN2.out _).mono ?_); rintro e w' ⟨rfl, rfl⟩))
    | (go_at_call 284; ((with_reducible refine (HC1.out _).mono ?_); rintro e w' ⟨rfl, rfl⟩))
    | (go_at_call 285; ((with_reducible refine (HF1.out _).mono ?_); rintro e w' ⟨rfl, rfl⟩)))
  · have hle : dmin ≤ dmax / 10 * 10 := by omega
    go_ret2
    refine ⟨?_, HB1.out.trans ⟨rfl, rfl, rfl, Nat.le_refl _, fun _ _ => rfl⟩⟩
    have e : shortD dmin dmax dm ((i : Int) - 348) = (dmax / 10, -((i : Int) - 348 - 1)) := by unfold shortD; rw [if_pos hle]
    rw [e]
    rfl
  · have hle : ¬ dmin ≤ dmax / 10 * 10 := by omega
    have hlt : dmin < dmax := by assumption
    go_ret2
    refine ⟨?_, HB1.out.trans ⟨rfl, rfl, rfl, Nat.le_refl _, fun _ _ => rfl⟩⟩
    have e : shortD dmin dmax dm ((i : Int) - 348) = (dm, -((i : Int) - 348)) := by unfold shortD; rw [if_neg hle, if_pos hlt]
    rw [e]
    rfl
  · have hle : ¬ dmin ≤ dmax / 10 * 10 := by omega
    have hlt : ¬ dmin < dmax := by assumption
    go_ret2
    refine ⟨?_, HB1.out.trans ⟨rfl, rfl, rfl, Nat.le_refl _, fun _ _ => rfl⟩⟩
    have e : shortD dmin dmax dm ((i : Int) - 348) = (dmin, -((i : Int) - 348)) := by unfold shortD; rw [if_neg hle, if_neg hlt]
    rw [e]
    rfl
end Go.Proofs.YtcfgbdhpcboikaaGreatDoor
