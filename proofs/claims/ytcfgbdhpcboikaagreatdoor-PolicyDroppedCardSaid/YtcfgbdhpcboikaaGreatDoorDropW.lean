/-
  PolicyDropped, for every two names: the walk.
-/
import Derived.Test.YtcfgbdhpcboikaaGreatDoorShow18
namespace Go.Proofs.YtcfgbdhpcboikaaGreatDoor
open Go.RowKit

def sX : ByteArray := ⟨#[120]⟩
theorem text_x : (⟨(textL sX.data.toList).toArray⟩ : ByteArray) = sX := by decide +kernel
theorem esc_x : (escB sX).size ≤ 120 := by decide +kernel
def ValueAt (e n v t : ByteArray) (ok : Bool) : Prop := ∀ w, Tabs w → Calls Tryz.prog 37 #[.string e, .string n, .string v] w fun x w' => x = .returned (.tuple #[.string t, .bool ok]) ∧ Below w.heap.size w w'
/-- May an element of a kind have a title? -/
def titledN (k : Nat) : Bool := decide (2 ≤ k) && !decide (k = 14)
theorem value_title (e : ByteArray) : ∃ t, ValueAt e sTitle sX t (titledN (kindL e.data.toList)) := by
  have hk := kind_at e
  have F := form_title e sX (by decide)
  rw [text_x] at F
  generalize kindL e.data.toList = k at hk
  by_cases h : k < 2 ∨ k = 14
  · refine ⟨⟨#[]⟩, fun w _ => ?_⟩
    have ht : titledN k = false := by unfold titledN; rw [Bool.eq_false_iff]; simp; omega
    rw [ht]
    exact value_out e sTitle sX (k : Nat) (Lib.hid hk) (by omega) w
  · refine ⟨sX, fun w T => ?_⟩
    have ht : titledN k = true := by unfold titledN; simp; omega
    rw [ht]
    exact value_yes e sTitle sX sX (k : Nat) (Lib.hid hk) (by omega) (by rw [beq_eq_false_iff_ne]; omega) (Lib.hid F) (by decide) (Lib.hid esc_x) w T
theorem drop_law : ∀ p < 15, ∀ k < 15, ∀ b : Bool, mayN p k b = true → (decide (k < 2) || decide (k = 14) || decide (p < 2) || decide (p = 5) || decide (p = 6)) = false := by decide +kernel
theorem drop_takes : ∀ p < 15, takesN p = true → decide (2 ≤ p) = true := by decide +kernel
set_option maxRecDepth 100000 in
set_option maxHeartbeats 2000000 in
theorem drop_yt (p k t : ByteArray) (P K : Int) (w : World) (T : Tabs w) (hk : KindAt k K) (hp : KindAt p P)
    (M : ∀ w, Calls Tryz.prog 26 #[.string p, .string k] w fun e w' => e = .returned (.bool true) ∧ w = w') (V : ValueAt k sTitle sX t true)
    (K1 : ∀ w, Calls Tryz.prog 28 #[.string p] w fun e w' => e = .returned (.bool true) ∧ w = w')
    (l1 : decide (2 ≤ K) = true) (l2 : decide (K < 2) = false) (l3 : (K == 14) = false) (l4 : (K != 14) = true) (m1 : decide (P < 2) = false) (m2 : (P == 5) = false) (m3 : (P == 6) = false) (t1 : decide (2 ≤ P) = true) :
    Calls Tryz.prog 8 #[.string p, .string k] w (SomeBool true w) := by
  have HS := Lib.hid (shown18 w T)
  have HT := Lib.hid T
  have HK := Lib.hid hk
  have HP := Lib.hid hp
  have HM := Lib.hid M
  have HV := Lib.hid V
  have HK1 := Lib.hid K1
  clear T hk hp M V K1
  unfold sTitle sX at HV
  go_enter Tryz.func8, Tryz.ntmps8
  go_wp2_with fail
  refine HS.out.mono ?_
  unfold SomeBool
  rintro e W1 ⟨rfl, B1⟩
  have HB1 := Lib.hid B1
  have HT1 := Lib.hid (HT.out.below HB1.out (Nat.le_refl _))
  clear B1
  go_wp2_with fail
  refine (HK.out _).mono ?_
  rintro e w' ⟨rfl, rfl⟩
  go_wp2_with fail
  refine (HP.out _).mono ?_
  rintro e w' ⟨rfl, rfl⟩
  go_wp2_with fail
  refine (HM.out _).mono ?_
  rintro e w' ⟨rfl, rfl⟩
  go_wp2_with fail
  refine (HV.out W1 HT1.out).mono ?_
  rintro e W2 ⟨rfl, B2⟩
  have HB2 := Lib.hid (HB1.out.trans (B2.mono HB1.out.size))
  clear B2
  go_wp2_with fail
  refine (HK1.out _).mono ?_
  rintro e w' ⟨rfl, rfl⟩
  go_wp2
  go_ret
  refine ⟨?_, HB2.out⟩
  rfl
set_option maxRecDepth 100000 in
set_option maxHeartbeats 2000000 in
theorem drop_yf (p k t : ByteArray) (P K : Int) (w : World) (T : Tabs w) (hk : KindAt k K) (hp : KindAt p P)
    (M : ∀ w, Calls Tryz.prog 26 #[.string p, .string k] w fun e w' => e = .returned (.bool true) ∧ w = w') (V : ValueAt k sTitle sX t true)
    (K1 : ∀ w, Calls Tryz.prog 28 #[.string p] w fun e w' => e = .returned (.bool false) ∧ w = w')
    (l1 : decide (2 ≤ K) = true) (l2 : decide (K < 2) = false) (l3 : (K == 14) = false) (l4 : (K != 14) = true) (m1 : decide (P < 2) = false) (m2 : (P == 5) = false) (m3 : (P == 6) = false) :
    Calls Tryz.prog 8 #[.string p, .string k] w (SomeBool true w) := by
  have HS := Lib.hid (shown18 w T)
  have HT := Lib.hid T
  have HK := Lib.hid hk
  have HP := Lib.hid hp
  have HM := Lib.hid M
  have HV := Lib.hid V
  have HK1 := Lib.hid K1
  clear T hk hp M V K1
  unfold sTitle sX at HV
  go_enter Tryz.func8, Tryz.ntmps8
  go_wp2_with fail
  refine HS.out.mono ?_
  unfold SomeBool
  rintro e W1 ⟨rfl, B1⟩
  have HB1 := Lib.hid B1
  have HT1 := Lib.hid (HT.out.below HB1.out (Nat.le_refl _))
  clear B1
  go_wp2_with fail
  refine (HK.out _).mono ?_
  rintro e w' ⟨rfl, rfl⟩
  go_wp2_with fail
  refine (HP.out _).mono ?_
  rintro e w' ⟨rfl, rfl⟩
  go_wp2_with fail
  refine (HM.out _).mono ?_
  rintro e w' ⟨rfl, rfl⟩
  go_wp2_with fail
  refine (HV.out W1 HT1.out).mono ?_
  rintro e W2 ⟨rfl, B2⟩
  have HB2 := Lib.hid (HB1.out.trans (B2.mono HB1.out.size))
  clear B2
  go_wp2_with fail
  refine (HK1.out _).mono ?_
  rintro e w' ⟨rfl, rfl⟩
  go_wp2
  go_ret
  refine ⟨?_, HB2.out⟩
  rfl
set_option maxRecDepth 100000 in
set_option maxHeartbeats 2000000 in
theorem drop_at (p k t : ByteArray) (P K : Int) (w : World) (T : Tabs w) (hk : KindAt k K) (hp : KindAt p P)
    (M : ∀ w, Calls Tryz.prog 26 #[.string p, .string k] w fun e w' => e = .returned (.bool false) ∧ w = w') (V : ValueAt k sTitle sX t true)
    (K1 : ∀ w, Calls Tryz.prog 28 #[.string p] w fun e w' => e = .returned (.bool true) ∧ w = w')
    (l1 : decide (2 ≤ K) = true) (_l2 : decide (K < 2) = false) (_l3 : (K == 14) = false) (l4 : (K != 14) = true) (t1 : decide (2 ≤ P) = true) :
    Calls Tryz.prog 8 #[.string p, .string k] w (SomeBool true w) := by
  have HS := Lib.hid (shown18 w T)
  have HT := Lib.hid T
  have HK := Lib.hid hk
  have HP := Lib.hid hp
  have HM := Lib.hid M
  have HV := Lib.hid V
  have HK1 := Lib.hid K1
  clear T hk hp M V K1
  unfold sTitle sX at HV
  go_enter Tryz.func8, Tryz.ntmps8
  go_wp2_with fail
  refine HS.out.mono ?_
  unfold SomeBool
  rintro e W1 ⟨rfl, B1⟩
  have HB1 := Lib.hid B1
  have HT1 := Lib.hid (HT.out.below HB1.out (Nat.le_refl _))
  clear B1
  go_wp2_with fail
  refine (HK.out _).mono ?_
  rintro e w' ⟨rfl, rfl⟩
  go_wp2_with fail
  refine (HP.out _).mono ?_
  rintro e w' ⟨rfl, rfl⟩
  go_wp2_with fail
  refine (HM.out _).mono ?_
  rintro e w' ⟨rfl, rfl⟩
  go_wp2_with fail
  refine (HV.out W1 HT1.out).mono ?_
  rintro e W2 ⟨rfl, B2⟩
  have HB2 := Lib.hid (HB1.out.trans (B2.mono HB1.out.size))
  clear B2
  go_wp2_with fail
  refine (HK1.out _).mono ?_
  rintro e w' ⟨rfl, rfl⟩
  go_wp2
  go_ret
  refine ⟨?_, HB2.out⟩
  rfl
set_option maxRecDepth 100000 in
set_option maxHeartbeats 2000000 in
theorem drop_af (p k t : ByteArray) (P K : Int) (w : World) (T : Tabs w) (hk : KindAt k K) (hp : KindAt p P)
    (M : ∀ w, Calls Tryz.prog 26 #[.string p, .string k] w fun e w' => e = .returned (.bool false) ∧ w = w') (V : ValueAt k sTitle sX t true)
    (K1 : ∀ w, Calls Tryz.prog 28 #[.string p] w fun e w' => e = .returned (.bool false) ∧ w = w')
    (l1 : decide (2 ≤ K) = true) (_l2 : decide (K < 2) = false) (_l3 : (K == 14) = false) (l4 : (K != 14) = true) :
    Calls Tryz.prog 8 #[.string p, .string k] w (SomeBool true w) := by
  have HS := Lib.hid (shown18 w T)
  have HT := Lib.hid T
  have HK := Lib.hid hk
  have HP := Lib.hid hp
  have HM := Lib.hid M
  have HV := Lib.hid V
  have HK1 := Lib.hid K1
  clear T hk hp M V K1
  unfold sTitle sX at HV
  go_enter Tryz.func8, Tryz.ntmps8
  go_wp2_with fail
  refine HS.out.mono ?_
  unfold SomeBool
  rintro e W1 ⟨rfl, B1⟩
  have HB1 := Lib.hid B1
  have HT1 := Lib.hid (HT.out.below HB1.out (Nat.le_refl _))
  clear B1
  go_wp2_with fail
  refine (HK.out _).mono ?_
  rintro e w' ⟨rfl, rfl⟩
  go_wp2_with fail
  refine (HP.out _).mono ?_
  rintro e w' ⟨rfl, rfl⟩
  go_wp2_with fail
  refine (HM.out _).mono ?_
  rintro e w' ⟨rfl, rfl⟩
  go_wp2_with fail
  refine (HV.out W1 HT1.out).mono ?_
  rintro e W2 ⟨rfl, B2⟩
  have HB2 := Lib.hid (HB1.out.trans (B2.mono HB1.out.size))
  clear B2
  go_wp2_with fail
  refine (HK1.out _).mono ?_
  rintro e w' ⟨rfl, rfl⟩
  go_wp2
  go_ret
  refine ⟨?_, HB2.out⟩
  rfl
set_option maxRecDepth 100000 in
set_option maxHeartbeats 2000000 in
theorem drop_bt (p k t : ByteArray) (P K : Int) (w : World) (T : Tabs w) (hk : KindAt k K) (hp : KindAt p P)
    (M : ∀ w, Calls Tryz.prog 26 #[.string p, .string k] w fun e w' => e = .returned (.bool false) ∧ w = w') (V : ValueAt k sTitle sX t false)
    (K1 : ∀ w, Calls Tryz.prog 28 #[.string p] w fun e w' => e = .returned (.bool true) ∧ w = w')
    (l1 : decide (2 ≤ K) = false) (_l2 : decide (K < 2) = true) (_l3 : (K == 14) = false) (_l4 : (K != 14) = true) (t1 : decide (2 ≤ P) = true) :
    Calls Tryz.prog 8 #[.string p, .string k] w (SomeBool true w) := by
  have HS := Lib.hid (shown18 w T)
  have HT := Lib.hid T
  have HK := Lib.hid hk
  have HP := Lib.hid hp
  have HM := Lib.hid M
  have HV := Lib.hid V
  have HK1 := Lib.hid K1
  clear T hk hp M V K1
  unfold sTitle sX at HV
  go_enter Tryz.func8, Tryz.ntmps8
  go_wp2_with fail
  refine HS.out.mono ?_
  unfold SomeBool
  rintro e W1 ⟨rfl, B1⟩
  have HB1 := Lib.hid B1
  have HT1 := Lib.hid (HT.out.below HB1.out (Nat.le_refl _))
  clear B1
  go_wp2_with fail
  refine (HK.out _).mono ?_
  rintro e w' ⟨rfl, rfl⟩
  go_wp2_with fail
  refine (HP.out _).mono ?_
  rintro e w' ⟨rfl, rfl⟩
  go_wp2_with fail
  refine (HM.out _).mono ?_
  rintro e w' ⟨rfl, rfl⟩
  go_wp2_with fail
  refine (HV.out W1 HT1.out).mono ?_
  rintro e W2 ⟨rfl, B2⟩
  have HB2 := Lib.hid (HB1.out.trans (B2.mono HB1.out.size))
  clear B2
  go_wp2_with fail
  refine (HK1.out _).mono ?_
  rintro e w' ⟨rfl, rfl⟩
  go_wp2
  go_ret
  refine ⟨?_, HB2.out⟩
  rfl
set_option maxRecDepth 100000 in
set_option maxHeartbeats 2000000 in
theorem drop_bf (p k t : ByteArray) (P K : Int) (w : World) (T : Tabs w) (hk : KindAt k K) (hp : KindAt p P)
    (M : ∀ w, Calls Tryz.prog 26 #[.string p, .string k] w fun e w' => e = .returned (.bool false) ∧ w = w') (V : ValueAt k sTitle sX t false)
    (K1 : ∀ w, Calls Tryz.prog 28 #[.string p] w fun e w' => e = .returned (.bool false) ∧ w = w')
    (l1 : decide (2 ≤ K) = false) (_l2 : decide (K < 2) = true) (_l3 : (K == 14) = false) (_l4 : (K != 14) = true) :
    Calls Tryz.prog 8 #[.string p, .string k] w (SomeBool true w) := by
  have HS := Lib.hid (shown18 w T)
  have HT := Lib.hid T
  have HK := Lib.hid hk
  have HP := Lib.hid hp
  have HM := Lib.hid M
  have HV := Lib.hid V
  have HK1 := Lib.hid K1
  clear T hk hp M V K1
  unfold sTitle sX at HV
  go_enter Tryz.func8, Tryz.ntmps8
  go_wp2_with fail
  refine HS.out.mono ?_
  unfold SomeBool
  rintro e W1 ⟨rfl, B1⟩
  have HB1 := Lib.hid B1
  have HT1 := Lib.hid (HT.out.below HB1.out (Nat.le_refl _))
  clear B1
  go_wp2_with fail
  refine (HK.out _).mono ?_
  rintro e w' ⟨rfl, rfl⟩
  go_wp2_with fail
  refine (HP.out _).mono ?_
  rintro e w' ⟨rfl, rfl⟩
  go_wp2_with fail
  refine (HM.out _).mono ?_
  rintro e w' ⟨rfl, rfl⟩
  go_wp2_with fail
  refine (HV.out W1 HT1.out).mono ?_
  rintro e W2 ⟨rfl, B2⟩
  have HB2 := Lib.hid (HB1.out.trans (B2.mono HB1.out.size))
  clear B2
  go_wp2_with fail
  refine (HK1.out _).mono ?_
  rintro e w' ⟨rfl, rfl⟩
  go_wp2
  go_ret
  refine ⟨?_, HB2.out⟩
  rfl
set_option maxRecDepth 100000 in
set_option maxHeartbeats 2000000 in
theorem drop_ct (p k t : ByteArray) (P K : Int) (w : World) (T : Tabs w) (hk : KindAt k K) (hp : KindAt p P)
    (M : ∀ w, Calls Tryz.prog 26 #[.string p, .string k] w fun e w' => e = .returned (.bool false) ∧ w = w') (V : ValueAt k sTitle sX t false)
    (K1 : ∀ w, Calls Tryz.prog 28 #[.string p] w fun e w' => e = .returned (.bool true) ∧ w = w')
    (l1 : decide (2 ≤ K) = true) (_l2 : decide (K < 2) = false) (_l3 : (K == 14) = true) (l4 : (K != 14) = false) (t1 : decide (2 ≤ P) = true) :
    Calls Tryz.prog 8 #[.string p, .string k] w (SomeBool true w) := by
  have HS := Lib.hid (shown18 w T)
  have HT := Lib.hid T
  have HK := Lib.hid hk
  have HP := Lib.hid hp
  have HM := Lib.hid M
  have HV := Lib.hid V
  have HK1 := Lib.hid K1
  clear T hk hp M V K1
  unfold sTitle sX at HV
  go_enter Tryz.func8, Tryz.ntmps8
  go_wp2_with fail
  refine HS.out.mono ?_
  unfold SomeBool
  rintro e W1 ⟨rfl, B1⟩
  have HB1 := Lib.hid B1
  have HT1 := Lib.hid (HT.out.below HB1.out (Nat.le_refl _))
  clear B1
  go_wp2_with fail
  refine (HK.out _).mono ?_
  rintro e w' ⟨rfl, rfl⟩
  go_wp2_with fail
  refine (HP.out _).mono ?_
  rintro e w' ⟨rfl, rfl⟩
  go_wp2_with fail
  refine (HM.out _).mono ?_
  rintro e w' ⟨rfl, rfl⟩
  go_wp2_with fail
  refine (HV.out W1 HT1.out).mono ?_
  rintro e W2 ⟨rfl, B2⟩
  have HB2 := Lib.hid (HB1.out.trans (B2.mono HB1.out.size))
  clear B2
  go_wp2_with fail
  refine (HK1.out _).mono ?_
  rintro e w' ⟨rfl, rfl⟩
  go_wp2
  go_ret
  refine ⟨?_, HB2.out⟩
  rfl
set_option maxRecDepth 100000 in
set_option maxHeartbeats 2000000 in
theorem drop_cf (p k t : ByteArray) (P K : Int) (w : World) (T : Tabs w) (hk : KindAt k K) (hp : KindAt p P)
    (M : ∀ w, Calls Tryz.prog 26 #[.string p, .string k] w fun e w' => e = .returned (.bool false) ∧ w = w') (V : ValueAt k sTitle sX t false)
    (K1 : ∀ w, Calls Tryz.prog 28 #[.string p] w fun e w' => e = .returned (.bool false) ∧ w = w')
    (l1 : decide (2 ≤ K) = true) (_l2 : decide (K < 2) = false) (_l3 : (K == 14) = true) (l4 : (K != 14) = false) :
    Calls Tryz.prog 8 #[.string p, .string k] w (SomeBool true w) := by
  have HS := Lib.hid (shown18 w T)
  have HT := Lib.hid T
  have HK := Lib.hid hk
  have HP := Lib.hid hp
  have HM := Lib.hid M
  have HV := Lib.hid V
  have HK1 := Lib.hid K1
  clear T hk hp M V K1
  unfold sTitle sX at HV
  go_enter Tryz.func8, Tryz.ntmps8
  go_wp2_with fail
  refine HS.out.mono ?_
  unfold SomeBool
  rintro e W1 ⟨rfl, B1⟩
  have HB1 := Lib.hid B1
  have HT1 := Lib.hid (HT.out.below HB1.out (Nat.le_refl _))
  clear B1
  go_wp2_with fail
  refine (HK.out _).mono ?_
  rintro e w' ⟨rfl, rfl⟩
  go_wp2_with fail
  refine (HP.out _).mono ?_
  rintro e w' ⟨rfl, rfl⟩
  go_wp2_with fail
  refine (HM.out _).mono ?_
  rintro e w' ⟨rfl, rfl⟩
  go_wp2_with fail
  refine (HV.out W1 HT1.out).mono ?_
  rintro e W2 ⟨rfl, B2⟩
  have HB2 := Lib.hid (HB1.out.trans (B2.mono HB1.out.size))
  clear B2
  go_wp2_with fail
  refine (HK1.out _).mono ?_
  rintro e w' ⟨rfl, rfl⟩
  go_wp2
  go_ret
  refine ⟨?_, HB2.out⟩
  rfl
/-- PolicyDropped returns true. -/
theorem drop_all (p k : ByteArray) (w : World) (T : Tabs w) : Calls Tryz.prog 8 #[.string p, .string k] w (SomeBool true w) := by
  have hk := kind_at k
  have hp := kind_at p
  have M := may_any p k
  have K1 := takes_any p
  obtain ⟨t, V⟩ := value_title k
  have lk := kindL_le k.data.toList
  have lp := kindL_le p.data.toList
  unfold mayL at M
  unfold takesL at K1
  generalize (k.data.toList == p.data.toList) = b at M
  generalize kindL k.data.toList = K at hk M V lk
  generalize kindL p.data.toList = P at hp M K1 lp
  have dl := drop_law P (by omega) K (by omega) b
  have dt := drop_takes P (by omega)
  have hc : (titledN K = true ∧ 2 ≤ K ∧ K ≠ 14) ∨ (titledN K = false ∧ K < 2) ∨ (titledN K = false ∧ K = 14) := by
    unfold titledN
    by_cases h1 : K < 2
    · right; left; exact ⟨by rw [Bool.eq_false_iff]; simp; omega, h1⟩
    · by_cases h2 : K = 14
      · right; right; exact ⟨by rw [Bool.eq_false_iff]; simp; omega, h2⟩
      · left; exact ⟨by simp; omega, by omega, h2⟩
  cases hm : mayN P K b with
  | true =>
    have d := dl hm
    simp only [Bool.or_eq_false_iff, decide_eq_false_iff_not] at d
    obtain ⟨⟨⟨⟨d1, d2⟩, d3⟩, d4⟩, d5⟩ := d
    rcases hc with ⟨c0, c1, c2⟩ | ⟨_, c1⟩ | ⟨_, c1⟩
    · rw [hm] at M
      rw [c0] at V
      cases ht : takesN P with
      | true =>
        rw [ht] at K1
        have := dt ht
        simp only [decide_eq_true_eq] at this
        exact drop_yt p k t P K w T hk hp M V K1 (by simp; omega) (by simp; omega) (by simp; omega) (by simp; omega) (by simp; omega) (by simp; omega) (by simp; omega) (by simp; omega)
      | false =>
        rw [ht] at K1
        exact drop_yf p k t P K w T hk hp M V K1 (by simp; omega) (by simp; omega) (by simp; omega) (by simp; omega) (by simp; omega) (by simp; omega) (by simp; omega)
    · exact absurd c1 d1
    · exact absurd c1 d2
  | false =>
    rw [hm] at M
    cases ht : takesN P with
    | true =>
      rw [ht] at K1
      have := dt ht
      simp only [decide_eq_true_eq] at this
      rcases hc with ⟨c0, c1, c2⟩ | ⟨c0, c1⟩ | ⟨c0, c1⟩
      · rw [c0] at V
        exact drop_at p k t P K w T hk hp M V K1 (by simp; omega) (by simp; omega) (by simp; omega) (by simp; omega) (by simp; omega)
      · rw [c0] at V
        exact drop_bt p k t P K w T hk hp M V K1 (by simp; omega) (by simp; omega) (by simp; omega) (by simp; omega) (by simp; omega)
      · rw [c0] at V
        exact drop_ct p k t P K w T hk hp M V K1 (by simp; omega) (by simp; omega) (by simp; omega) (by simp; omega) (by simp; omega)
    | false =>
      rw [ht] at K1
      rcases hc with ⟨c0, c1, c2⟩ | ⟨c0, c1⟩ | ⟨c0, c1⟩
      · rw [c0] at V
        exact drop_af p k t P K w T hk hp M V K1 (by simp; omega) (by simp; omega) (by simp; omega) (by simp; omega)
      · rw [c0] at V
        exact drop_bf p k t P K w T hk hp M V K1 (by simp; omega) (by simp; omega) (by simp; omega) (by simp; omega)
      · rw [c0] at V
        exact drop_cf p k t P K w T hk hp M V K1 (by simp; omega) (by simp; omega) (by simp; omega) (by simp; omega)
end Go.Proofs.YtcfgbdhpcboikaaGreatDoor
