/-
  internal/strconv.ftoa64 in the form 'e', the shortest digits, at a subnormal float above 0.
-/
import Derived.Test.YtdgmokfdkophpaaGreatDoorFtoa
import Derived.Test.YtdgmokfdkophpaaGreatDoorPack
namespace Go.Proofs.YtdgmokfdkophpaaGreatDoor
open Go.RowKit Go.Sort

set_option maxRecDepth 100000 in
set_option maxHeartbeats 1500000 in
theorem ftoa_sub (w : World) (B : Nat) (ad : Option Addr) (c : Nat) (S : Nat → Prop) (b L x d : Nat) (p : Int) (hO : Out w w B S ad c []) (T : Tabs w)
    (hb1 : 1 ≤ b) (hb : b < 4503599627370496) (hL : Lib.bitLen b = L) (L1 : 1 ≤ L) (L2 : L ≤ 52) (hx : b * 2 ^ (64 - L) = x) (hx2 : x < 18446744073709551616)
    (hS : ∀ k, S k → k < w.heap.size)
    (SF : ∀ w', Tabs w' → Calls Tryz.prog 97 #[.int .u64 x, .int .i64 ((L : Int) - 1138)] w' fun e' w2 => e' = .returned (.tuple #[.int .u64 d, .int .i64 p]) ∧ Below w'.heap.size w' w2)
    (hd1 : 1 ≤ d) (hd : d < 18446744073709551616) (p1 : -900 ≤ p) (p2 : p ≤ 900) :
    Calls Tryz.prog 69 #[.slice ad 0 c, .float .f64 b, .int .u8 101, .int .i64 (-1)] w (FmtOut w B S (eText ((Lib.decDigits d).take (trimN (Lib.decDigits d))) ((Lib.nDigits d : Int) + p - 1))) := by
  have a1 : bits .and .i64 (0 : Int) 2047 = 0 := and2047 0 (by omega)
  have a2 := and52 b (by omega)
  rw [Nat.mod_eq_of_lt hb] at a2
  have g3 : (b : Int) / 4503599627370496 = 0 := by omega
  have g4 : ((b : Int) / 9223372036854775808 != 0) = false := bne_eq_false_iff_eq.2 (by omega)
  have g5 : ((b : Int) == 0) = false := beq_eq_false_iff_ne.2 (by omega)
  have LL := fun w => len_at b L w (by omega) hL
  have HL := Lib.hid LL
  have hwx : IntKind.u64.wrap ((b : Int) * 2 ^ (64 - L)) = (x : Int) := by
    rw [wrap_u64, ← hx]
    have : ((b * 2 ^ (64 - L) : Nat) : Int) = (b : Int) * 2 ^ (64 - L) := by push_cast; rfl
    rw [← this]
    omega
  have HWX := Lib.hid hwx
  have d85 := door85
  have HO := Lib.hid hO
  have HT := Lib.hid T
  have HSF := Lib.hid SF
  have HSS := Lib.hid hS
  clear hO T SF hS LL hwx hx hL
  go_enter Tryz.func69, Tryz.ntmps69
  go_wp2_with fail
  go_quiet (fail)
  go_wp2_with (go_at_call 89; ((with_reducible refine (HL.out _).mono ?_); rintro e w' ⟨rfl, rfl⟩))
  obtain ⟨g, hg⟩ : ∃ g, g = w.heap.size := ⟨_, rfl⟩
  obtain ⟨W, hW⟩ : ∃ W, W = (w.drewN nq).alloc (.cells zeros32 120) := ⟨_, rfl⟩
  have bW : Below w.heap.size w W := by rw [hW]; exact ((Below.refl w.heap.size w).trans ⟨rfl, rfl, rfl, Nat.le_refl _, fun _ _ => rfl⟩ : Below w.heap.size w (w.drewN nq)).alloc (Nat.le_refl _) _
  have sW : W.heap.size = g + 1 := by rw [hW, hg]; simp
  have hH : Holds (fun (b : UInt8) => Value.int .u8 (b.toNat : Int)) W g 0 (Array.replicate 32 (0 : UInt8)) := by rw [hW, hg]; exact holds32 (w.drewN nq) 120
  have TW := HT.out.below bW (Nat.le_refl _)
  have hW2 := hW
  unfold zeros32 at hW2
  rw [← hW2, ← hg]
  clear hW hW2
  rw [HWX.out, show (-1022 : Int) - (64 - (L : Int)) - 52 = (L : Int) - 1138 by omega]
  refine (HSF.out W TW).mono ?_
  rintro e1 w2 ⟨rfl, B2⟩
  have H2 : Holds (fun (b : UInt8) => Value.int .u8 (b.toNat : Int)) w2 g 0 (Array.replicate 32 (0 : UInt8)) := Holds.below hH B2 (by omega)
  have b2 : Below w.heap.size w w2 := bW.trans (B2.mono (by omega))
  have s2 : g < w2.heap.size := by have := B2.size; omega
  have T2 := HT.out.below b2 (Nat.le_refl _)
  have n20 := nDigits_le20 d hd
  have n1 := Lib.nDigits_pos d
  obtain ⟨N, hN⟩ : ∃ N, Lib.nDigits d = N := ⟨_, rfl⟩
  rw [hN] at n20 n1
  have ND := fun (w : World) (h : Lib.TabIs Tryz.prog w "internal/strconv.uint64pow10" .u64 Lib.pow10Tab) => Tryz.internal_strconv_numDigits d hd1 hd w h
  rw [hN] at ND
  have HGG := Lib.hid hg
  clear hg
  have ht1 := trim_pos d hd1
  have ht2 : trimN (Lib.decDigits d) ≤ N := by have := trimN_le (Lib.decDigits d); rw [Lib.decDigits_length, hN] at this; exact this
  obtain ⟨k, hk⟩ : ∃ k, trimN (Lib.decDigits d) = k + 1 := ⟨trimN (Lib.decDigits d) - 1, by omega⟩
  have k20 : k ≤ 19 := by omega
  have hmx : max (k : Int) 0 = k := by omega
  have HKK := Lib.hid hk
  clear ht1 ht2 hk
  have HH2 := Lib.hid H2
  have HB2 := Lib.hid b2
  have HT2 := Lib.hid T2
  have HN := Lib.hid hN
  have HND := Lib.hid ND
  clear hH B2 H2 b2 T2 TW bW sW hN ND
  go_wp2_with fail
  obtain ⟨C, hC⟩ : ∃ C : World → Prop, ∀ u, C u := ⟨fun _ => True, fun _ => trivial⟩
  haveI : Nonempty (WIn C) := ⟨⟨w2, hC _⟩⟩
  refine region_segs 10 [([0, 1, 2, 3], 4), ([], 5)] [6, 7, 8, 9] C (by kernel_rfl) (by kernel_rfl) (hC _) ?_
  refine segs_step (fun K' hK' => ?_)
  simp only [pick, List.getElem?_cons_zero, List.getElem?_cons_succ, Option.getD_some]
  repeat (go_big_quiet_step (fail))
  refine wpQuiet_nil (hK' _ (fun Q1 hQ1 => ?_))
  clear hK' K'
  simp only [pick, List.getElem?_cons_zero, List.getElem?_cons_succ, Option.getD_some]
  go_wp2_with fail
  refine (HND.out _ (HT2.out.drewN 1).u10).mono ?_
  rintro e w3 ⟨rfl, hw3⟩
  subst hw3
  go_wp2_with fail
  refine hQ1 _ _ (hC _) (segs_step (fun K' hK' => wpQuiet_nil (hK' _ (fun Q2 hQ2 => ?_))))
  clear hK' K' hQ1 Q1
  simp only [pick, List.getElem?_cons_zero, List.getElem?_cons_succ, Option.getD_some]
  go_wp2_with fail
  refine (setDigits_at g d k p N (w2.drewN 1) (Holds.drewN HH2.out 1) hd1 hd HN.out (by omega) (by omega) HKK.out).mono ?_
  rintro e w3 ⟨rfl, S3, K3⟩
  have HS3 := Lib.hid S3
  have HK3 := Lib.hid K3
  clear S3 K3
  go_wp2_with fail
  refine hQ2 _ _ (hC _) (segs_last (fun K' hK' => ?_))
  clear hQ2 Q2
  simp only [pick, List.getElem?_cons_zero, List.getElem?_cons_succ, Option.getD_some]
  repeat (go_big_quiet_step (fail))
  refine wpQuiet_nil (hK' _ (fun Q3 hQ3 => ?_))
  clear hK' K'
  simp only [List.drop_succ_cons, List.drop_zero]
  go_wp2_with fail
  have K03 : Kept (fun i => w.heap.size ≤ i) w w3 := (Kept.of_below HB2.out).trans ((((Kept.refl (· = g) w2).drewN 1).trans HK3.out).mono (fun i _ e => by have := HGG.out; omega))
  have K03f : Kept (fun _ => False) w w3 := K03.mono (fun i hi e => by omega)
  have O3 := HO.out.later K03
  have S3' : IsB w3 (some ⟨g, 0, none⟩) ((Lib.decDigits d).take (k + 1)) := HS3.out.take (k + 1)
  have hl3 : ((Lib.decDigits d).take (k + 1)).length = k + 1 := by
    have := HKK.out
    have := trimN_le (Lib.decDigits d)
    rw [List.length_take]; omega
  have hz3 : g < w3.heap.size := by have := HK3.out.size; simp at this; omega
  refine (fmt_e w3 B g k ad c S _ ((N : Int) + p) O3 S3' (fun e => by have := HSS.out g e; have := HGG.out; omega) hz3 hl3 (by omega) (by omega) (by omega)).mono ?_
  rintro e w4 ⟨ad4, c4, rfl, O4⟩
  go_wp2
  go_ret
  refine ⟨ad4, c4, ?_, ?_⟩
  · rw [HKK.out, HN.out]
    rfl
  · rw [HKK.out, HN.out]
    exact Out.first K03f O4
end Go.Proofs.YtdgmokfdkophpaaGreatDoor
