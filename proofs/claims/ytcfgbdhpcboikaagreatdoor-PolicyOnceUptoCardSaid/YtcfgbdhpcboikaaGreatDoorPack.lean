/-
  internal/strconv.pack64, unmin; bits put together.
  internal/strconv.parseFloat64, at any digits.
-/
import Derived.Test.YtcfgbdhpcboikaaGreatDoorSpec
import Derived.Test.YtcfgbdhpcboikaaGreatDoorShortB
import Derived.Test.YtcfgbdhpcboikaaGreatDoorUnr
namespace Go.Proofs.YtcfgbdhpcboikaaGreatDoor
open Go.RowKit

def IsSign (S : Nat) : Prop := S = 0 ∨ S = 9223372036854775808
theorem sign_or (S a : Nat) (hS : IsSign S) (ha : a < 9223372036854775808) : S ||| a = S + a := by
  rcases hS with rfl | rfl
  · rw [Nat.zero_or, Nat.zero_add]
  · have := Nat.two_pow_add_eq_or_of_lt (i := 63) (b := a) (by simpa using ha) 1
    simpa using this.symm
theorem sign_or_u64 (S a : Nat) (hS : IsSign S) (ha : a < 9223372036854775808) : bits .or .u64 (S : Int) (a : Int) = ((S + a : Nat) : Int) := by
  have : S ≤ 9223372036854775808 := by rcases hS with rfl | rfl <;> omega
  rw [u64_or_nat S a (by omega) (by omega), sign_or S a hS ha]
theorem sign_dvd (S : Nat) (hS : IsSign S) : ∃ h, h < 2048 ∧ S = h * 9007199254740992 := by
  rcases hS with rfl | rfl
  · exact ⟨0, by omega, rfl⟩
  · exact ⟨1024, by omega, rfl⟩
theorem and_bit (x n : Nat) : x &&& 2 ^ n = x / 2 ^ n % 2 * 2 ^ n := by
  have p := Nat.two_pow_pos n
  have d := Nat.and_div_two_pow (a := x) (b := 2 ^ n) (n := n)
  have r := Nat.and_mod_two_pow (a := x) (b := 2 ^ n) (n := n)
  rw [Nat.div_self p, Nat.and_one_is_mod] at d
  rw [Nat.mod_self, Nat.and_zero] at r
  have := Nat.div_add_mod (x &&& 2 ^ n) (2 ^ n)
  rw [d, r, Nat.add_zero, Nat.mul_comm] at this
  exact this.symm
theorem and_bit52 (S m : Nat) (hS : IsSign S) (hm : m < 9007199254740992) : bits .and .u64 ((S + m : Nat) : Int) 4503599627370496 = ((if m < 4503599627370496 then 0 else 4503599627370496 : Nat) : Int) := by
  have : S ≤ 9223372036854775808 := by rcases hS with rfl | rfl <;> omega
  obtain ⟨h, h1, rfl⟩ := sign_dvd S hS
  have e := u64_and_nat (h * 9007199254740992 + m) 4503599627370496 (by omega) (by omega)
  refine e.trans ?_
  congr 1
  have t := and_bit (h * 9007199254740992 + m) 52
  have e52 : (2 : Nat) ^ 52 = 4503599627370496 := by decide
  rw [e52] at t
  rw [t]
  split <;> omega
theorem and_sign (S m : Nat) (hS : IsSign S) (hm : m < 9223372036854775808) : bits .and .u64 ((S + m : Nat) : Int) 9223372036854775808 = (S : Int) := by
  have : S ≤ 9223372036854775808 := by rcases hS with rfl | rfl <;> omega
  have e := u64_and_nat (S + m) 9223372036854775808 (by omega) (by omega)
  refine e.trans ?_
  congr 1
  have t := and_bit (S + m) 63
  have e63 : (2 : Nat) ^ 63 = 9223372036854775808 := by decide
  rw [e63] at t
  rw [t]
  rcases hS with rfl | rfl <;> omega
theorem strike_bit52 (S f : Nat) (hS : IsSign S) (hf : f < 4503599627370496) : bits .andNot .u64 ((S + (4503599627370496 + f) : Nat) : Int) 4503599627370496 = ((S + f : Nat) : Int) := by
  obtain ⟨h, h1, rfl⟩ := sign_dvd S hS
  have e := u64_andNot_nat (h * 9007199254740992 + (4503599627370496 + f)) 4503599627370496 (by omega) (by omega)
  refine e.trans ?_
  congr 1
  have m : 18446744073709551615 - 4503599627370496 = 2047 * 9007199254740992 + 4503599627370495 := by decide
  rw [m]
  have p53 : (2 : Nat) ^ 53 = 9007199254740992 := by decide
  have d := Nat.and_div_two_pow (a := h * 9007199254740992 + (4503599627370496 + f)) (b := 2047 * 9007199254740992 + 4503599627370495) (n := 53)
  have r := Nat.and_mod_two_pow (a := h * 9007199254740992 + (4503599627370496 + f)) (b := 2047 * 9007199254740992 + 4503599627370495) (n := 53)
  rw [p53] at d r
  rw [show (h * 9007199254740992 + (4503599627370496 + f)) / 9007199254740992 = h by omega, show (2047 * 9007199254740992 + 4503599627370495) / 9007199254740992 = 2047 by omega, show (2047 : Nat) = 2 ^ 11 - 1 from rfl, Nat.and_two_pow_sub_one_eq_mod] at d
  rw [show (h * 9007199254740992 + (4503599627370496 + f)) % 9007199254740992 = 4503599627370496 + f by omega, show (2047 * 9007199254740992 + 4503599627370495) % 9007199254740992 = 2 ^ 52 - 1 by omega, Nat.and_two_pow_sub_one_eq_mod] at r
  have e11 : (2 : Nat) ^ 11 = 2048 := by decide
  have e52 : (2 : Nat) ^ 52 = 4503599627370496 := by decide
  rw [e11] at d
  rw [e52] at r
  generalize (h * 9007199254740992 + (4503599627370496 + f)) &&& ((2 ^ 11 - 1) * 9007199254740992 + 4503599627370495) = x at *
  omega
theorem or_exp (S f k : Nat) (hS : IsSign S) (hf : f < 4503599627370496) : bits .or .u64 ((S + f : Nat) : Int) ((k * 4503599627370496 : Nat) : Int) = ((S + (k * 4503599627370496 + f) : Nat) : Int) ∨ 2047 < k := by
  by_cases h : k < 2048
  · left
    have : S ≤ 9223372036854775808 := by rcases hS with rfl | rfl <;> omega
    rw [u64_or_nat (S + f) (k * 4503599627370496) (by omega) (by omega), ← sign_or S f hS (by omega)]
    have e : f ||| k * 4503599627370496 = k * 4503599627370496 + f := by
      have := Nat.two_pow_add_eq_or_of_lt (i := 52) (b := f) (by simpa using hf) k
      rw [Nat.or_comm, Nat.mul_comm]
      simpa using this.symm
    rw [Nat.or_assoc, e, sign_or S _ hS (by omega)]
  · exact .inr (by omega)

theorem pack_low (S m : Nat) (e : Int) (w : World) (hS : IsSign S) (hm : m < 4503599627370496) :
    Calls Tryz.prog 279 #[.int .u64 ((S + m : Nat) : Int), .int .i64 e] w fun e' w' => e' = .returned (.tuple #[.float .f64 (S + m), .nilIface]) ∧ w = w' := by
  have ha := and_bit52 S m hS (by omega)
  rw [if_pos hm] at ha
  have d := fun w => door115 ((S + m : Nat) : Int) w
  simp only [Int.toNat_natCast] at d
  obtain ⟨x, hx⟩ : ∃ x, S + m = x := ⟨_, rfl⟩
  rw [hx] at ha d ⊢
  clear hx hm hS
  go_enter Tryz.func279, Tryz.ntmps279
  go_wp2
  go_ret2
  exact ⟨rfl, rfl⟩
set_option maxRecDepth 100000 in
theorem pack_inf (S m : Nat) (e : Int) (w : World) (hS : IsSign S) (hm : 4503599627370496 ≤ m) (hm2 : m < 9007199254740992) (he : 972 ≤ e) :
    Calls Tryz.prog 279 #[.int .u64 ((S + m : Nat) : Int), .int .i64 e] w fun e' w' => e' = .returned (.tuple #[.float .f64 (S + 9218868437227405312), .iface 158 (.int .i64 1)]) ∧ w = w' := by
  have ha : bits .and .u64 ((S + m : Nat) : Int) 4503599627370496 = 4503599627370496 := by
    have ha := and_bit52 S m hS (by omega)
    rw [if_neg (by omega)] at ha
    exact ha
  have hb := and_sign S m hS (by omega)
  have hc : bits .or .u64 (S : Int) 9218868437227405312 = ((S + 9218868437227405312 : Nat) : Int) := sign_or_u64 S 9218868437227405312 hS (by omega)
  have d := fun w => door115 ((S + 9218868437227405312 : Nat) : Int) w
  simp only [Int.toNat_natCast] at d
  obtain ⟨x, hx⟩ : ∃ x, S + m = x := ⟨_, rfl⟩
  obtain ⟨y, hy⟩ : ∃ y, S + 9218868437227405312 = y := ⟨_, rfl⟩
  rw [hx] at ha hb ⊢
  rw [hy] at hc d ⊢
  clear hx hy hm hm2 hS
  go_enter Tryz.func279, Tryz.ntmps279
  go_wp2
  go_ret2
  exact ⟨rfl, rfl⟩
set_option maxRecDepth 100000 in
theorem pack_norm (S m : Nat) (k : Nat) (e : Int) (w : World) (hS : IsSign S) (hm : 4503599627370496 ≤ m) (hm2 : m < 9007199254740992) (he : e = (k : Int) - 1074) (hk : k < 2046) :
    Calls Tryz.prog 279 #[.int .u64 ((S + m : Nat) : Int), .int .i64 e] w fun e' w' => e' = .returned (.tuple #[.float .f64 (S + (k * 4503599627370496 + m)), .nilIface]) ∧ w = w' := by
  have ha := and_bit52 S m hS (by omega)
  rw [if_neg (by omega)] at ha
  obtain ⟨f, rfl⟩ : ∃ f, m = 4503599627370496 + f := ⟨m - 4503599627370496, by omega⟩
  have hb := strike_bit52 S f hS (by omega)
  have hc := (or_exp S f (k + 1) hS (by omega)).resolve_right (by omega)
  have e1 : ((k + 1) * 4503599627370496 : Nat) = k * 4503599627370496 + 4503599627370496 := by omega
  have e2 : S + ((k + 1) * 4503599627370496 + f) = S + (k * 4503599627370496 + (4503599627370496 + f)) := by omega
  rw [e2] at hc
  have d := fun w => door115 ((S + (k * 4503599627370496 + (4503599627370496 + f)) : Nat) : Int) w
  simp only [Int.toNat_natCast] at d
  have hsl : IntKind.u64.wrap (((k : Int) + 1) * 4503599627370496) = (((k + 1) * 4503599627370496 : Nat) : Int) := by rw [wrap_u64]; omega
  have hcv : (1075 : Int) + ((k : Int) - 1074) = (k : Int) + 1 := by omega
  have h0 : (0 : Int) ≤ (k : Int) + 1 := by omega
  have h1 : (k : Int) + 1 ≤ 2046 := by omega
  subst he
  obtain ⟨x, hx⟩ : ∃ x, S + (4503599627370496 + f) = x := ⟨_, rfl⟩
  obtain ⟨y, hy⟩ : ∃ y, S + (k * 4503599627370496 + (4503599627370496 + f)) = y := ⟨_, rfl⟩
  obtain ⟨z, hz⟩ : ∃ z, S + f = z := ⟨_, rfl⟩
  obtain ⟨v, hv⟩ : ∃ v, (k + 1) * 4503599627370496 = v := ⟨_, rfl⟩
  rw [hx] at ha hb ⊢
  rw [hz] at hb hc
  rw [hv] at hc hsl
  rw [hy] at hc d ⊢
  clear hx hy hz hv hm hm2 hS e1 e2
  go_enter Tryz.func279, Tryz.ntmps279
  go_wp2
  go_ret2
  exact ⟨rfl, rfl⟩
theorem unmin_53 (w : World) : Calls Tryz.prog 275 #[.int .u64 9007199254740992] w fun e w' => e = .returned (.int .u64 36028797018963966) ∧ w = w' := by
  go_enter Tryz.func275, Tryz.ntmps275
  go_wp2
  go_ret
  exact ⟨rfl, rfl⟩
end Go.Proofs.YtcfgbdhpcboikaaGreatDoor

namespace Go.Proofs.YtcfgbdhpcboikaaGreatDoor
open Go.RowKit

theorem len_at (d b : Nat) (w : World) (hd : d < 18446744073709551616) (hb : Lib.bitLen d = b) : Calls Tryz.prog 191 #[.int .u64 (d : Int)] w fun e w' => e = .returned (.int .i64 b) ∧ w = w' := by
  refine (Tryz.bits_Len64 _ _ (by omega) (by omega)).mono ?_
  rintro e w' ⟨rfl, rfl⟩
  rw [Int.toNat_natCast, hb]
  exact ⟨rfl, rfl⟩

set_option maxRecDepth 100000 in
set_option maxHeartbeats 1000000 in
theorem parseF_far (d i b S s : Nat) (lp e : Int) (w : World) (T : Tabs w) (hS : IsSign S) (hd : d < 18446744073709551616) (hb : Lib.bitLen d = b) (hb64 : b ≤ 64) (hi : i < 696) (hlp : ((i : Int) - 348) * 108853 / 32768 = lp) (he : min 1074 (53 - (b : Int) - lp) = e) (hs : -(e - (64 - (b : Int)) + lp + 3) = s) (h64 : 64 ≤ s) :
    Calls Tryz.prog 245 #[.int .u64 d, .int .i64 ((i : Int) - 348), .int .u64 S] w fun e' w' => e' = .returned (.tuple #[.float .f64 S, .nilIface]) ∧ Below w.heap.size w w' := by
  have L := fun w => len_at d b w hd hb
  have HL := Lib.hid L
  have d1 := fun w => door115 (S : Int) w
  simp only [Int.toNat_natCast] at d1
  have o0 : bits .or .u64 (S : Int) 0 = (S : Int) := by
    have := sign_or_u64 S 0 hS (by omega)
    exact this
  have HT := Lib.hid T
  have HLP := Lib.hid hlp
  have HE := Lib.hid he
  have HS := Lib.hid hs
  have hsz := T.size
  clear L T hlp he hs hb hS
  have LG : ∀ w, Calls Tryz.prog 272 #[.int .i64 ((i : Int) - 348)] w fun e w' => e = .returned (.int .i64 lp) ∧ w = w' := fun w => by
    have := log2_any ((i : Int) - 348) w (by omega) (by omega)
    rw [HLP.out] at this
    exact this
  have hl1 : -1200 ≤ lp := by have := HLP.out; omega
  have hl2 : lp ≤ 1200 := by have := HLP.out; omega
  have HLG := Lib.hid LG
  have he1 : -1300 ≤ e := by have := HE.out; omega
  have he2 : e ≤ 1074 := by have := HE.out; omega
  clear LG
  go_enter Tryz.func245, Tryz.ntmps245
  go_wp2_with (first
    | (go_at_call 191; ((with_reducible refine (HL.out _).mono ?_); rintro e w' ⟨rfl, rfl⟩))
    | (go_at_call 272; ((with_reducible refine (HLG.out _).mono ?_); rintro e w' ⟨rfl, rfl⟩)))
  rw [HE.out]
  have T1 : Tabs (w.alloc (.cells #[.int .u64 0, .int .u64 0, .int .i64 0] 265)) := HT.out.below ((Below.refl w.heap.size w).alloc (Nat.le_refl _) _) (Nat.le_refl _)
  have hg := heap_alloc_new w (.cells #[.int .u64 0, .int .u64 0, .int .i64 0] 265)
  refine (prescale_any (e - (64 - (b : Int))) lp s i _ w.heap.size _ _ _ _ hg rfl hi (by omega) T1 (by omega) (by omega) (by omega) (by omega) HS.out).mono ?_
  rintro e1 w1 ⟨rfl, hg1, K1⟩
  have hz1 : w.heap.size < w1.heap.size := by have := K1.size; simp at this; omega
  have B1 : Below w.heap.size w w1 := (((Kept.refl (fun _ => False) w).alloc _).trans' K1 (fun _ _ h => by omega)).below (Nat.le_refl _) (fun _ _ h => h.elim)
  have HB1 := Lib.hid B1
  have c0 := cell_of_row w1 w.heap.size 0 _ _ _ hg1
  have c1 := cell_of_row w1 w.heap.size 1 _ _ _ hg1
  have c2 := cell_of_row w1 w.heap.size 2 _ _ _ hg1
  simp at c0 c1 c2
  obtain ⟨g, hgg⟩ : ∃ g, w.heap.size = g := ⟨_, rfl⟩
  rw [hgg] at c0 c1 c2 hg1 hz1 ⊢
  clear T1 hg K1 B1 hgg hsz hg1
  go_wp2
  go_ret2
  exact ⟨rfl, HB1.out⟩

theorem cutU_le (u : Nat) : cutU u ≤ u + 1 := by
  unfold cutU
  split
  · have : u % 2 = 0 ∨ u % 2 = 1 := by omega
    rcases this with h | h
    · rw [h, Nat.or_zero]; omega
    · rw [h, or_one]; omega
  · omega
theorem cutK_le (u : Nat) : cutK u ≤ 1 := by unfold cutK; split <;> omega
def packBits (S k m : Nat) : Nat := S + min (k * 4503599627370496 + m) 9218868437227405312
def packErr (k : Nat) : Value := if 2046 ≤ k then .iface 158 (.int .i64 1) else .nilIface
def Packed (S k m : Nat) (e : Ending) : Prop := e = .returned (.tuple #[.float .f64 (packBits S k m), packErr k])
theorem pack_any (S k m : Nat) (w : World) (hS : IsSign S) (hm : m < 9007199254740992) (h : 4503599627370496 ≤ m ∨ k = 0) (hk : k < 4000) :
    Calls Tryz.prog 279 #[.int .u64 ((S + m : Nat) : Int), .int .i64 ((k : Int) - 1074)] w fun e' w' => Packed S k m e' ∧ w = w' := by
  unfold Packed packBits packErr
  by_cases h1 : m < 4503599627370496
  · obtain rfl : k = 0 := by omega
    rw [if_neg (by decide), Nat.zero_mul, Nat.zero_add, Nat.min_eq_left (by omega)]
    exact pack_low S m _ w hS h1
  · by_cases h2 : 2046 ≤ k
    · rw [if_pos h2, Nat.min_eq_right (by omega)]
      exact pack_inf S m ((k : Int) - 1074) w hS (by omega) hm (by omega)
    · rw [if_neg h2, Nat.min_eq_left (by omega)]
      exact pack_norm S m k _ w hS (by omega) hm rfl (by omega)

set_option maxRecDepth 100000 in
set_option maxHeartbeats 2000000 in
theorem parseF_near (d i b S s u k m x : Nat) (lp e : Int) (w : World) (T : Tabs w) (hS : IsSign S) (hd : d < 18446744073709551616) (hb : Lib.bitLen d = b) (hb64 : b ≤ 64) (hi : i < 696) (hlp : ((i : Int) - 348) * 108853 / 32768 = lp) (he : min 1074 (53 - (b : Int) - lp) = e) (hs : -(e - (64 - (b : Int)) + lp + 3) = s) (h64 : s < 64)
    (hx : d * 2 ^ (64 - b) = x) (hx2 : x < 18446744073709551616) (hu : uscN x (p10hi i) (p10lo i) s = u) (hu2 : u < 9223372036854775808) (hm : round4 (cutU u) = m) (hm' : roundN (cutU u) = m) (hm2 : m < 9007199254740992) (hk : ((k : Int) - 1074) = -(e - cutK u)) (hkm : 4503599627370496 ≤ m ∨ k = 0) :
    Calls Tryz.prog 245 #[.int .u64 d, .int .i64 ((i : Int) - 348), .int .u64 S] w fun e' w' => Packed S k m e' ∧ Below w.heap.size w w' := by
  have L := fun w => len_at d b w hd hb
  have HL := Lib.hid L
  obtain ⟨r1, r2, r3⟩ := row_ok i hi
  clear r3
  have U1 := fun (w : World) b o c0 c1 c2 => uscale_any x (p10hi i) (p10lo i) s w b o c0 c1 c2 hx2 r1 r2 h64
  rw [hu] at U1
  have HU1 := Lib.hid U1
  have hwx : IntKind.u64.wrap ((d : Int) * 2 ^ (64 - b)) = (x : Int) := by
    rw [wrap_u64, ← hx]
    have : ((d * 2 ^ (64 - b) : Nat) : Int) = (d : Int) * 2 ^ (64 - b) := by push_cast; rfl
    rw [← this]
    omega
  have HWX := Lib.hid hwx
  have RD := fun w => round_at (cutU u) m w (by have := cutU_le u; omega) hm'
  have PK := fun w => pack_any S k m w hS hm2 hkm (by have := cutK_le u; omega)
  have or1 := sign_or_u64 S m hS (by omega)
  have HRD := Lib.hid RD
  have HPK := Lib.hid PK
  have HHK := Lib.hid hk
  clear hwx RD PK hk hx hkm hm hm'
  clear U1 r1 r2 hu
  have HT := Lib.hid T
  have HLP := Lib.hid hlp
  have HE := Lib.hid he
  have HS := Lib.hid hs
  have hsz := T.size
  clear L T hlp he hs hb hS
  have LG : ∀ w, Calls Tryz.prog 272 #[.int .i64 ((i : Int) - 348)] w fun e w' => e = .returned (.int .i64 lp) ∧ w = w' := fun w => by
    have := log2_any ((i : Int) - 348) w (by omega) (by omega)
    rw [HLP.out] at this
    exact this
  have hl1 : -1200 ≤ lp := by have := HLP.out; omega
  have hl2 : lp ≤ 1200 := by have := HLP.out; omega
  have HLG := Lib.hid LG
  have he1 : -1300 ≤ e := by have := HE.out; omega
  have he2 : e ≤ 1074 := by have := HE.out; omega
  clear LG
  go_enter Tryz.func245, Tryz.ntmps245
  go_wp2_with (first
    | (go_at_call 191; ((with_reducible refine (HL.out _).mono ?_); rintro e w' ⟨rfl, rfl⟩))
    | (go_at_call 272; ((with_reducible refine (HLG.out _).mono ?_); rintro e w' ⟨rfl, rfl⟩)))
  rw [HE.out]
  have T1 : Tabs (w.alloc (.cells #[.int .u64 0, .int .u64 0, .int .i64 0] 265)) := HT.out.below ((Below.refl w.heap.size w).alloc (Nat.le_refl _) _) (Nat.le_refl _)
  have hg := heap_alloc_new w (.cells #[.int .u64 0, .int .u64 0, .int .i64 0] 265)
  refine (prescale_any (e - (64 - (b : Int))) lp s i _ w.heap.size _ _ _ _ hg rfl hi (by omega) T1 (by omega) (by omega) (by omega) (by omega) HS.out).mono ?_
  rintro e1 w1 ⟨rfl, hg1, K1⟩
  have hz1 : w.heap.size < w1.heap.size := by have := K1.size; simp at this; omega
  have B1 : Below w.heap.size w w1 := (((Kept.refl (fun _ => False) w).alloc _).trans' K1 (fun _ _ h => by omega)).below (Nat.le_refl _) (fun _ _ h => h.elim)
  have HB1 := Lib.hid B1
  have c0 := cell_of_row w1 w.heap.size 0 _ _ _ hg1
  have c1 := cell_of_row w1 w.heap.size 1 _ _ _ hg1
  have c2 := cell_of_row w1 w.heap.size 2 _ _ _ hg1
  simp at c0 c1 c2
  obtain ⟨g, hgg⟩ : ∃ g, w.heap.size = g := ⟨_, rfl⟩
  rw [hgg] at c0 c1 c2 hg1 hz1 ⊢
  clear T1 hg K1 B1 hgg hsz hg1
  go_wp2_with fail
  rw [HWX.out]
  refine (HU1.out w1 g 0 c0 c1 c2).mono ?_
  rintro e w2 ⟨rfl, n, rfl⟩
  by_cases c : 36028797018963966 ≤ u
  · have c' : (36028797018963966 : Int) ≤ u := by omega
    go_wp2_with (first
      | (go_at_call 275; ((with_reducible refine (unmin_53 _).mono ?_); rintro e w' ⟨rfl, rfl⟩))
      | (go_at_call 266; ((with_reducible refine (bool2_int_true _).mono ?_); rintro e w' ⟨rfl, rfl⟩)))
    have ecu : bits .or .u64 ((u : Int) / 2) (bits .and .u64 (u : Int) 1) = ((cutU u : Nat) : Int) := by
      have e1 := and1_nat u (by omega)
      have e2 := or_nat (u / 2) (u % 2) (by omega) (by omega)
      rw [e1]
      have e3 : ((u / 2 : Nat) : Int) = (u : Int) / 2 := by omega
      rw [← e3, e2]
      unfold cutU
      rw [if_pos c]
    rw [ecu]
    refine (HRD.out _).mono ?_
    rintro e1 w3 ⟨rfl, rfl⟩
    have ek : -(e - 1) = (k : Int) - 1074 := by
      have := HHK.out
      unfold cutK at this
      rw [if_pos c] at this
      omega
    have eSM : (S : Int) + (m : Int) = ((S + m : Nat) : Int) := by omega
    have HEK := Lib.hid ek
    have HES := Lib.hid eSM
    clear ek ecu eSM
    go_wp2_with fail
    rw [HES.out, HEK.out]
    refine (HPK.out _).mono ?_
    rintro e1 w4 ⟨hp, rfl⟩
    unfold Packed at hp
    subst hp
    go_wp2
    go_ret2
    exact ⟨rfl, HB1.out.trans ⟨rfl, rfl, rfl, Nat.le_refl _, fun _ _ => rfl⟩⟩
  · have c' : decide ((36028797018963966 : Int) ≤ (u : Int)) = false := decide_eq_false (by omega)
    go_wp2_with (first
      | (go_at_call 275; ((with_reducible refine (unmin_53 _).mono ?_); rintro e w' ⟨rfl, rfl⟩))
      | (go_at_call 266; ((with_reducible refine (bool2_int_false _).mono ?_); rintro e w' ⟨rfl, rfl⟩)))
    have ecu : bits .or .u64 (u : Int) (bits .and .u64 (u : Int) 1) = ((cutU u : Nat) : Int) := by
      have e1 := and1_nat u (by omega)
      have e2 := or_nat u (u % 2) (by omega) (by omega)
      rw [e1, e2]
      unfold cutU
      rw [if_neg c]
      congr 1
      have : u % 2 = 0 ∨ u % 2 = 1 := by omega
      rcases this with h | h
      · rw [h, Nat.or_zero]
      · rw [h, or_one]; omega
    rw [ecu]
    refine (HRD.out _).mono ?_
    rintro e1 w3 ⟨rfl, rfl⟩
    have ek : -e = (k : Int) - 1074 := by
      have := HHK.out
      unfold cutK at this
      rw [if_neg c] at this
      omega
    have eSM : (S : Int) + (m : Int) = ((S + m : Nat) : Int) := by omega
    have HEK := Lib.hid ek
    have HES := Lib.hid eSM
    clear ek ecu eSM
    go_wp2_with fail
    rw [HES.out, HEK.out]
    refine (HPK.out _).mono ?_
    rintro e1 w4 ⟨hp, rfl⟩
    unfold Packed at hp
    subst hp
    go_wp2
    go_ret2
    exact ⟨rfl, HB1.out.trans ⟨rfl, rfl, rfl, Nat.le_refl _, fun _ _ => rfl⟩⟩
end Go.Proofs.YtcfgbdhpcboikaaGreatDoor
