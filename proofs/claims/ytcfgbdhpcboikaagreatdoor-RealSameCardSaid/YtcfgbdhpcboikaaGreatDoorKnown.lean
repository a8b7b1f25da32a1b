/-
  Two floats' texts: 1e-7 and 1.23456789e21.
-/
import Derived.Test.YtcfgbdhpcboikaaGreatDoorPrint
namespace Go.Proofs.YtcfgbdhpcboikaaGreatDoor
open Go.RowKit

theorem ftoaAt_normal (b E f d : Nat) (lp p : Int) (i s odd umin umax um nmin nmax dmin dmax dm : Nat)
    (hb : b < 9223372036854775808) (hE : b / 4503599627370496 = E) (hf : b % 4503599627370496 = f) (E1 : 1 ≤ E) (E2 : E ≤ 2046) (f0 : 1 ≤ f) (f2 : f < 4503599627370495)
    (hp : -(((E : Int) - 1086 + 11) * 78913 / 262144) = (i : Int) - 348) (hi : i < 696) (hlp : ((i : Int) - 348) * 108853 / 32768 = lp) (hs : -((E : Int) - 1086 + lp + 3) = s) (hs64 : s < 64)
    (hodd : (4503599627370496 + f) * 2048 / 2048 % 2 = odd)
    (h1 : uscN ((4503599627370496 + f) * 2048 - 1024) (p10hi i) (p10lo i) s = umin) (h2 : uscN ((4503599627370496 + f) * 2048 + 1024) (p10hi i) (p10lo i) s = umax) (h3 : uscN ((4503599627370496 + f) * 2048) (p10hi i) (p10lo i) s = um)
    (n1 : nudgeN umin odd = nmin) (n2 : nudgeN umax (-(odd : Int)) = nmax) (k1 : ceilN nmin = dmin) (k2 : nmax / 4 = dmax) (k3 : roundN um = dm) (hH : p10hi i < 18446744073709551616) (hL : p10lo i < 18446744073709551616)
    (hd : shortD dmin dmax dm ((i : Int) - 348) = (d, p)) (hd1 : 1 ≤ d) (hd2 : d < 18446744073709551616) (p1 : -900 ≤ p) (p2 : p ≤ 900) :
    FtoaAt b (eText ((Lib.decDigits d).take (trimN (Lib.decDigits d))) ((Lib.nDigits d : Int) + p - 1)) := by
  intro w B ad c S hO T hS
  refine ftoa_normal w B ad c S b E f d p hO T hb hE hf E1 E2 (by omega) hS ?_ hd1 hd2 p1 p2
  intro w' T'
  have := short_normal ((4503599627370496 + f) * 2048) ((E : Int) - 1086) lp i s odd umin umax um nmin nmax dmin dmax dm w' T' (by omega) (by omega) (by omega) (by omega) hp hi hlp hs hs64 hodd h1 h2 h3 n1 n2 k1 k2 k3 hH hL
  rw [hd] at this
  exact this

theorem p10_all : (Pinned.pow10Rows.all fun x => decide (x.1 < 18446744073709551616) && decide (x.2 < 18446744073709551616)) = true := by kernel_rfl
theorem p10_lt (i : Nat) : p10hi i < 18446744073709551616 ∧ p10lo i < 18446744073709551616 := by
  unfold p10hi p10lo
  rw [List.getD]
  cases h : Pinned.pow10Rows[i]? with
  | none => exact ⟨by show 0 < _; omega, by show 0 < _; omega⟩
  | some x =>
    have := List.all_eq_true.1 p10_all x (List.mem_of_getElem? h)
    simpa using this
theorem dec_a : Lib.decDigits 1000000000000000 = [49, 48, 48, 48, 48, 48, 48, 48, 48, 48, 48, 48, 48, 48, 48, 48] := by simp [Lib.decDigits]
theorem dec_b : Lib.decDigits 1234567890000000 = [49, 50, 51, 52, 53, 54, 55, 56, 57, 48, 48, 48, 48, 48, 48, 48] := by simp [Lib.decDigits]
theorem len_a : Lib.nDigits 1000000000000000 = 16 := by rw [← Lib.decDigits_length, dec_a]; rfl
theorem len_b : Lib.nDigits 1234567890000000 = 16 := by rw [← Lib.decDigits_length, dec_b]; rfl

theorem ftoa_a : FtoaAt 4502148214488346440 [49, 101, 45, 48, 55] := by
  have := ftoaAt_normal 4502148214488346440 999 3052186745220936 1000000000000000 76 (-22) 371 8 0 39999999999999995 40000000000000001 39999999999999999 39999999999999995 40000000000000001 9999999999999999 10000000000000000 10000000000000000
    (by decide) (by decide) (by decide) (by decide) (by decide) (by decide) (by decide) (by decide) (by decide) (by decide) (by decide) (by decide) (by decide) (by kernel_rfl) (by kernel_rfl) (by kernel_rfl) (by kernel_rfl) (by kernel_rfl) (by kernel_rfl) (by kernel_rfl) (by kernel_rfl) (p10_lt _).1 (p10_lt _).2 (by kernel_rfl) (by decide) (by decide) (by decide) (by decide)
  rw [dec_a, len_a] at this
  exact this
theorem ftoa_b : FtoaAt 4922640295842793058 [49, 46, 50, 51, 52, 53, 54, 55, 56, 57, 101, 43, 50, 49] := by
  have := ftoaAt_normal 4922640295842793058 1093 205903126840930 1234567890000000 (-17) 6 343 7 0 49382715599999997 49382715600000007 49382715600000003 49382715599999997 49382715600000007 12345678900000000 12345678900000001 12345678900000001
    (by decide) (by decide) (by decide) (by decide) (by decide) (by decide) (by decide) (by decide) (by decide) (by decide) (by decide) (by decide) (by decide) (by kernel_rfl) (by kernel_rfl) (by kernel_rfl) (by kernel_rfl) (by kernel_rfl) (by kernel_rfl) (by kernel_rfl) (by kernel_rfl) (p10_lt _).1 (p10_lt _).2 (by kernel_rfl) (by decide) (by decide) (by decide) (by decide)
  rw [dec_b, len_b] at this
  exact this
theorem parts_a : PartsAt [49, 101, 45, 48, 55] [49] (-7) [49] [45, 48, 55] :=
  ⟨by kernel_rfl, by kernel_rfl, by kernel_rfl, by decide, by decide, by decide, by decide +kernel, by decide, by decide⟩
theorem parts_b : PartsAt [49, 46, 50, 51, 52, 53, 54, 55, 56, 57, 101, 43, 50, 49] [49, 50, 51, 52, 53, 54, 55, 56, 57] 21 [49, 46, 50, 51, 52, 53, 54, 55, 56, 57] [43, 50, 49] :=
  ⟨by kernel_rfl, by kernel_rfl, by kernel_rfl, by decide, by decide, by decide, by decide +kernel, by decide, by decide⟩
theorem pos_a : PosF 4502148214488346440 := ⟨by kernel_rfl, by kernel_rfl, by kernel_rfl, by kernel_rfl⟩
theorem pos_b : PosF 4922640295842793058 := ⟨by kernel_rfl, by kernel_rfl, by kernel_rfl, by kernel_rfl⟩
theorem itoa_7 : Lib.itoa (-(-7)) = [55] := by simp [Lib.itoa, Lib.decDigits]
theorem itoa_21 : Lib.itoa 21 = [50, 49] := by simp [Lib.itoa, Lib.decDigits]

/-- Print(1e-7). -/
theorem print_a (w : World) (T : Tabs w) : Calls Tryz.prog 63 #[.float .f64 4502148214488346440] w fun e w' => e = .returned (.string { data := #[49, 101, 45, 55] }) ∧ Below w.heap.size w w' := by
  have := print_one_neg _ _ _ _ 49 (-7) w T ftoa_a parts_a pos_a (by decide)
  rw [itoa_7] at this
  exact this
/-- Print(1.23456789e21). -/
theorem print_b (w : World) (T : Tabs w) : Calls Tryz.prog 63 #[.float .f64 4922640295842793058] w fun e w' => e = .returned (.string { data := #[49, 46, 50, 51, 52, 53, 54, 55, 56, 57, 101, 43, 50, 49] }) ∧ Below w.heap.size w w' := by
  have := print_many_pos _ 8 _ _ _ 49 [50, 51, 52, 53, 54, 55, 56, 57] 21 w T ftoa_b parts_b pos_b (by decide) rfl (by decide) (by decide)
  rw [itoa_21] at this
  exact this
end Go.Proofs.YtcfgbdhpcboikaaGreatDoor
