/-
  internal/strconv.fmtEFG in the form 'e': all ways in one.
-/
import Derived.Test.YtdgmokfdkophpaaGreatDoorFmtE
namespace Go.Proofs.YtdgmokfdkophpaaGreatDoor
open Go.RowKit

theorem eText_one (d : UInt8) (x : Int) : eText [d] x = d :: [101, if x < 0 then 45 else 43] ++ expText x.natAbs := by simp [eText]
theorem eText_many (d : UInt8) (D : List UInt8) (x : Int) (h : 1 ≤ D.length) : eText (d :: D) x = d :: 46 :: D ++ [101, if x < 0 then 45 else 43] ++ expText x.natAbs := by
  have : 1 < (d :: D).length := by simp; omega
  unfold eText
  rw [if_pos this]
  simp

theorem fmt_e (w : World) (B g k : Nat) (ad : Option Addr) (c : Nat) (S : Nat → Prop) (D : List UInt8) (dp : Int) (hO : Out w w B S ad c []) (hI : IsB w (some ⟨g, 0, none⟩) D) (hg : ¬ S g) (hgs : g < w.heap.size)
    (hk : D.length = k + 1) (k2 : k ≤ 20) (x1 : -999 ≤ dp - 1) (x2 : dp - 1 ≤ 999) :
    Calls Tryz.prog 88 #[.slice ad 0 c, .bool false, .slice (some ⟨g, 0, none⟩) 32 32, .int .i64 dp, .int .i64 ((k : Int) + 1), .int .i64 k, .int .u8 101, .bool true] w (FmtOut w B S (eText D (dp - 1))) := by
  obtain ⟨d, D', rfl⟩ : ∃ d D', D = d :: D' := by
    cases D with
    | nil => simp at hk
    | cons d D' => exact ⟨d, D', rfl⟩
  have hk' : D'.length = k := by simpa using hk
  by_cases hs : dp - 1 < 0
  · obtain ⟨x, hx⟩ : ∃ x : Nat, dp - 1 = -(x : Int) := ⟨(dp - 1).natAbs, by omega⟩
    have hab : (dp - 1).natAbs = x := by omega
    by_cases h0 : k = 0
    · subst h0
      obtain rfl : D' = [] := List.eq_nil_of_length_eq_zero hk'
      rw [eText_one, if_pos hs, hab]
      rcases Nat.lt_or_ge x 10 with h | h
      · exact fmt_e_one_neg1 w B g ad c S d dp x hO hI hx (by omega) h (by omega) (by omega)
      · rcases Nat.lt_or_ge x 100 with h' | h'
        · exact fmt_e_one_neg2 w B g ad c S d dp x hO hI hx (by omega) h h' (by omega) (by omega)
        · exact fmt_e_one_neg3 w B g ad c S d dp x hO hI hx (by omega) h' (by omega) (by omega) (by omega)
    · rw [eText_many d D' _ (by omega), if_pos hs, hab]
      rcases Nat.lt_or_ge x 10 with h | h
      · exact fmt_e_many_neg1 w B g k ad c S d D' dp x hO hI hg hgs hk' (by omega) k2 hx (by omega) h (by omega) (by omega)
      · rcases Nat.lt_or_ge x 100 with h' | h'
        · exact fmt_e_many_neg2 w B g k ad c S d D' dp x hO hI hg hgs hk' (by omega) k2 hx (by omega) h h' (by omega) (by omega)
        · exact fmt_e_many_neg3 w B g k ad c S d D' dp x hO hI hg hgs hk' (by omega) k2 hx (by omega) h' (by omega) (by omega) (by omega)
  · obtain ⟨x, hx⟩ : ∃ x : Nat, dp - 1 = (x : Int) := ⟨(dp - 1).natAbs, by omega⟩
    have hab : (dp - 1).natAbs = x := by omega
    by_cases h0 : k = 0
    · subst h0
      obtain rfl : D' = [] := List.eq_nil_of_length_eq_zero hk'
      rw [eText_one, if_neg hs, hab]
      rcases Nat.lt_or_ge x 10 with h | h
      · exact fmt_e_one_pos1 w B g ad c S d dp x hO hI hx h (by omega) (by omega)
      · rcases Nat.lt_or_ge x 100 with h' | h'
        · exact fmt_e_one_pos2 w B g ad c S d dp x hO hI hx h h' (by omega) (by omega)
        · exact fmt_e_one_pos3 w B g ad c S d dp x hO hI hx h' (by omega) (by omega) (by omega)
    · rw [eText_many d D' _ (by omega), if_neg hs, hab]
      rcases Nat.lt_or_ge x 10 with h | h
      · exact fmt_e_many_pos1 w B g k ad c S d D' dp x hO hI hg hgs hk' (by omega) k2 hx h (by omega) (by omega)
      · rcases Nat.lt_or_ge x 100 with h' | h'
        · exact fmt_e_many_pos2 w B g k ad c S d D' dp x hO hI hg hgs hk' (by omega) k2 hx h h' (by omega) (by omega)
        · exact fmt_e_many_pos3 w B g k ad c S d D' dp x hO hI hg hgs hk' (by omega) k2 hx h' (by omega) (by omega) (by omega)
end Go.Proofs.YtdgmokfdkophpaaGreatDoor
