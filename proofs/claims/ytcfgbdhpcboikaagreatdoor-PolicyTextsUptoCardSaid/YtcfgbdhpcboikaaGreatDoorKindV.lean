/-
  policy.Kind: what it answers, as a plain function of the name (printed by wip/gen/kindw.py).
-/
import Derived.Test.YtcfgbdhpcboikaaGreatDoorKinds
import Derived.Test.YtcfgbdhpcboikaaGreatDoorProg
import Derived.Test.YtcfgbdhpcboikaaGreatDoorChain
namespace Go.Proofs.YtcfgbdhpcboikaaGreatDoor
open Go.RowKit

theorem toList_loop0 (bs : ByteArray) : ∀ (k i : Nat) (r : List UInt8), bs.size - i = k → ByteArray.toList.loop bs i r = r.reverse ++ bs.data.toList.drop i := by
  intro k
  induction k with
  | zero =>
    intro i r h
    rw [ByteArray.toList.loop, if_neg (by omega)]
    have hs : bs.data.toList.length = bs.size := by simp
    rw [List.drop_eq_nil_of_le (by omega), List.append_nil]
  | succ k ih =>
    intro i r h
    have hs : bs.data.toList.length = bs.size := by simp
    rw [ByteArray.toList.loop, if_pos (by omega), ih _ _ (by omega)]
    rw [List.drop_eq_getElem_cons (i := i) (by omega)]
    have e : bs.get! i = bs.data.toList[i]'(by omega) := by
      unfold ByteArray.get!
      have : i < bs.data.size := by simpa using (by omega : i < bs.size)
      exact getElem!_pos bs.data i this
    rw [e]
    simp
theorem toList_data (bs : ByteArray) : bs.toList = bs.data.toList := by
  unfold ByteArray.toList
  rw [toList_loop0 bs _ 0 [] rfl]
  simp
set_option maxRecDepth 100000 in
theorem kind_w0 (w : World) : Calls Tryz.prog 24 #[.string { data := #[98, 111, 100, 121] }] w fun e w' => e = .returned (.int .i64 14) ∧ w = w' := by
  go_enter Tryz.func24, Tryz.ntmps24
  go_wp2
  go_ret
  exact ⟨rfl, rfl⟩
set_option maxRecDepth 100000 in
theorem kind_w1 (w : World) : Calls Tryz.prog 24 #[.string { data := #[100, 105, 118] }] w fun e w' => e = .returned (.int .i64 2) ∧ w = w' := by
  go_enter Tryz.func24, Tryz.ntmps24
  go_wp2
  go_ret
  exact ⟨rfl, rfl⟩
set_option maxRecDepth 100000 in
theorem kind_w2 (w : World) : Calls Tryz.prog 24 #[.string { data := #[98, 108, 111, 99, 107, 113, 117, 111, 116, 101] }] w fun e w' => e = .returned (.int .i64 2) ∧ w = w' := by
  go_enter Tryz.func24, Tryz.ntmps24
  go_wp2
  go_ret
  exact ⟨rfl, rfl⟩
set_option maxRecDepth 100000 in
theorem kind_w3 (w : World) : Calls Tryz.prog 24 #[.string { data := #[112] }] w fun e w' => e = .returned (.int .i64 3) ∧ w = w' := by
  go_enter Tryz.func24, Tryz.ntmps24
  go_wp2
  go_ret
  exact ⟨rfl, rfl⟩
set_option maxRecDepth 100000 in
theorem kind_w4 (w : World) : Calls Tryz.prog 24 #[.string { data := #[104, 49] }] w fun e w' => e = .returned (.int .i64 3) ∧ w = w' := by
  go_enter Tryz.func24, Tryz.ntmps24
  go_wp2
  go_ret
  exact ⟨rfl, rfl⟩
set_option maxRecDepth 100000 in
theorem kind_w5 (w : World) : Calls Tryz.prog 24 #[.string { data := #[104, 50] }] w fun e w' => e = .returned (.int .i64 3) ∧ w = w' := by
  go_enter Tryz.func24, Tryz.ntmps24
  go_wp2
  go_ret
  exact ⟨rfl, rfl⟩
set_option maxRecDepth 100000 in
theorem kind_w6 (w : World) : Calls Tryz.prog 24 #[.string { data := #[104, 51] }] w fun e w' => e = .returned (.int .i64 3) ∧ w = w' := by
  go_enter Tryz.func24, Tryz.ntmps24
  go_wp2
  go_ret
  exact ⟨rfl, rfl⟩
set_option maxRecDepth 100000 in
theorem kind_w7 (w : World) : Calls Tryz.prog 24 #[.string { data := #[104, 52] }] w fun e w' => e = .returned (.int .i64 3) ∧ w = w' := by
  go_enter Tryz.func24, Tryz.ntmps24
  go_wp2
  go_ret
  exact ⟨rfl, rfl⟩
set_option maxRecDepth 100000 in
theorem kind_w8 (w : World) : Calls Tryz.prog 24 #[.string { data := #[104, 53] }] w fun e w' => e = .returned (.int .i64 3) ∧ w = w' := by
  go_enter Tryz.func24, Tryz.ntmps24
  go_wp2
  go_ret
  exact ⟨rfl, rfl⟩
set_option maxRecDepth 100000 in
theorem kind_w9 (w : World) : Calls Tryz.prog 24 #[.string { data := #[104, 54] }] w fun e w' => e = .returned (.int .i64 3) ∧ w = w' := by
  go_enter Tryz.func24, Tryz.ntmps24
  go_wp2
  go_ret
  exact ⟨rfl, rfl⟩
set_option maxRecDepth 100000 in
theorem kind_w10 (w : World) : Calls Tryz.prog 24 #[.string { data := #[112, 114, 101] }] w fun e w' => e = .returned (.int .i64 3) ∧ w = w' := by
  go_enter Tryz.func24, Tryz.ntmps24
  go_wp2
  go_ret
  exact ⟨rfl, rfl⟩
set_option maxRecDepth 100000 in
theorem kind_w11 (w : World) : Calls Tryz.prog 24 #[.string { data := #[97] }] w fun e w' => e = .returned (.int .i64 4) ∧ w = w' := by
  go_enter Tryz.func24, Tryz.ntmps24
  go_wp2
  go_ret
  exact ⟨rfl, rfl⟩
set_option maxRecDepth 100000 in
theorem kind_w12 (w : World) : Calls Tryz.prog 24 #[.string { data := #[98] }] w fun e w' => e = .returned (.int .i64 4) ∧ w = w' := by
  go_enter Tryz.func24, Tryz.ntmps24
  go_wp2
  go_ret
  exact ⟨rfl, rfl⟩
set_option maxRecDepth 100000 in
theorem kind_w13 (w : World) : Calls Tryz.prog 24 #[.string { data := #[99, 111, 100, 101] }] w fun e w' => e = .returned (.int .i64 4) ∧ w = w' := by
  go_enter Tryz.func24, Tryz.ntmps24
  go_wp2
  go_ret
  exact ⟨rfl, rfl⟩
set_option maxRecDepth 100000 in
theorem kind_w14 (w : World) : Calls Tryz.prog 24 #[.string { data := #[101, 109] }] w fun e w' => e = .returned (.int .i64 4) ∧ w = w' := by
  go_enter Tryz.func24, Tryz.ntmps24
  go_wp2
  go_ret
  exact ⟨rfl, rfl⟩
set_option maxRecDepth 100000 in
theorem kind_w15 (w : World) : Calls Tryz.prog 24 #[.string { data := #[105] }] w fun e w' => e = .returned (.int .i64 4) ∧ w = w' := by
  go_enter Tryz.func24, Tryz.ntmps24
  go_wp2
  go_ret
  exact ⟨rfl, rfl⟩
set_option maxRecDepth 100000 in
theorem kind_w16 (w : World) : Calls Tryz.prog 24 #[.string { data := #[109, 101, 116, 101, 114] }] w fun e w' => e = .returned (.int .i64 4) ∧ w = w' := by
  go_enter Tryz.func24, Tryz.ntmps24
  go_wp2
  go_ret
  exact ⟨rfl, rfl⟩
set_option maxRecDepth 100000 in
theorem kind_w17 (w : World) : Calls Tryz.prog 24 #[.string { data := #[112, 114, 111, 103, 114, 101, 115, 115] }] w fun e w' => e = .returned (.int .i64 4) ∧ w = w' := by
  go_enter Tryz.func24, Tryz.ntmps24
  go_wp2
  go_ret
  exact ⟨rfl, rfl⟩
set_option maxRecDepth 100000 in
theorem kind_w18 (w : World) : Calls Tryz.prog 24 #[.string { data := #[115] }] w fun e w' => e = .returned (.int .i64 4) ∧ w = w' := by
  go_enter Tryz.func24, Tryz.ntmps24
  go_wp2
  go_ret
  exact ⟨rfl, rfl⟩
set_option maxRecDepth 100000 in
theorem kind_w19 (w : World) : Calls Tryz.prog 24 #[.string { data := #[115, 109, 97, 108, 108] }] w fun e w' => e = .returned (.int .i64 4) ∧ w = w' := by
  go_enter Tryz.func24, Tryz.ntmps24
  go_wp2
  go_ret
  exact ⟨rfl, rfl⟩
set_option maxRecDepth 100000 in
theorem kind_w20 (w : World) : Calls Tryz.prog 24 #[.string { data := #[115, 112, 97, 110] }] w fun e w' => e = .returned (.int .i64 4) ∧ w = w' := by
  go_enter Tryz.func24, Tryz.ntmps24
  go_wp2
  go_ret
  exact ⟨rfl, rfl⟩
set_option maxRecDepth 100000 in
theorem kind_w21 (w : World) : Calls Tryz.prog 24 #[.string { data := #[115, 116, 114, 111, 110, 103] }] w fun e w' => e = .returned (.int .i64 4) ∧ w = w' := by
  go_enter Tryz.func24, Tryz.ntmps24
  go_wp2
  go_ret
  exact ⟨rfl, rfl⟩
set_option maxRecDepth 100000 in
theorem kind_w22 (w : World) : Calls Tryz.prog 24 #[.string { data := #[115, 117, 98] }] w fun e w' => e = .returned (.int .i64 4) ∧ w = w' := by
  go_enter Tryz.func24, Tryz.ntmps24
  go_wp2
  go_ret
  exact ⟨rfl, rfl⟩
set_option maxRecDepth 100000 in
theorem kind_w23 (w : World) : Calls Tryz.prog 24 #[.string { data := #[115, 117, 112] }] w fun e w' => e = .returned (.int .i64 4) ∧ w = w' := by
  go_enter Tryz.func24, Tryz.ntmps24
  go_wp2
  go_ret
  exact ⟨rfl, rfl⟩
set_option maxRecDepth 100000 in
theorem kind_w24 (w : World) : Calls Tryz.prog 24 #[.string { data := #[117] }] w fun e w' => e = .returned (.int .i64 4) ∧ w = w' := by
  go_enter Tryz.func24, Tryz.ntmps24
  go_wp2
  go_ret
  exact ⟨rfl, rfl⟩
set_option maxRecDepth 100000 in
theorem kind_w25 (w : World) : Calls Tryz.prog 24 #[.string { data := #[98, 114] }] w fun e w' => e = .returned (.int .i64 5) ∧ w = w' := by
  go_enter Tryz.func24, Tryz.ntmps24
  go_wp2
  go_ret
  exact ⟨rfl, rfl⟩
set_option maxRecDepth 100000 in
theorem kind_w26 (w : World) : Calls Tryz.prog 24 #[.string { data := #[105, 109, 103] }] w fun e w' => e = .returned (.int .i64 5) ∧ w = w' := by
  go_enter Tryz.func24, Tryz.ntmps24
  go_wp2
  go_ret
  exact ⟨rfl, rfl⟩
set_option maxRecDepth 100000 in
theorem kind_w27 (w : World) : Calls Tryz.prog 24 #[.string { data := #[104, 114] }] w fun e w' => e = .returned (.int .i64 6) ∧ w = w' := by
  go_enter Tryz.func24, Tryz.ntmps24
  go_wp2
  go_ret
  exact ⟨rfl, rfl⟩
set_option maxRecDepth 100000 in
theorem kind_w28 (w : World) : Calls Tryz.prog 24 #[.string { data := #[111, 108] }] w fun e w' => e = .returned (.int .i64 7) ∧ w = w' := by
  go_enter Tryz.func24, Tryz.ntmps24
  go_wp2
  go_ret
  exact ⟨rfl, rfl⟩
set_option maxRecDepth 100000 in
theorem kind_w29 (w : World) : Calls Tryz.prog 24 #[.string { data := #[117, 108] }] w fun e w' => e = .returned (.int .i64 7) ∧ w = w' := by
  go_enter Tryz.func24, Tryz.ntmps24
  go_wp2
  go_ret
  exact ⟨rfl, rfl⟩
set_option maxRecDepth 100000 in
theorem kind_w30 (w : World) : Calls Tryz.prog 24 #[.string { data := #[108, 105] }] w fun e w' => e = .returned (.int .i64 8) ∧ w = w' := by
  go_enter Tryz.func24, Tryz.ntmps24
  go_wp2
  go_ret
  exact ⟨rfl, rfl⟩
set_option maxRecDepth 100000 in
theorem kind_w31 (w : World) : Calls Tryz.prog 24 #[.string { data := #[116, 97, 98, 108, 101] }] w fun e w' => e = .returned (.int .i64 9) ∧ w = w' := by
  go_enter Tryz.func24, Tryz.ntmps24
  go_wp2
  go_ret
  exact ⟨rfl, rfl⟩
set_option maxRecDepth 100000 in
theorem kind_w32 (w : World) : Calls Tryz.prog 24 #[.string { data := #[99, 97, 112, 116, 105, 111, 110] }] w fun e w' => e = .returned (.int .i64 10) ∧ w = w' := by
  go_enter Tryz.func24, Tryz.ntmps24
  go_wp2
  go_ret
  exact ⟨rfl, rfl⟩
set_option maxRecDepth 100000 in
theorem kind_w33 (w : World) : Calls Tryz.prog 24 #[.string { data := #[116, 98, 111, 100, 121] }] w fun e w' => e = .returned (.int .i64 11) ∧ w = w' := by
  go_enter Tryz.func24, Tryz.ntmps24
  go_wp2
  go_ret
  exact ⟨rfl, rfl⟩
set_option maxRecDepth 100000 in
theorem kind_w34 (w : World) : Calls Tryz.prog 24 #[.string { data := #[116, 102, 111, 111, 116] }] w fun e w' => e = .returned (.int .i64 11) ∧ w = w' := by
  go_enter Tryz.func24, Tryz.ntmps24
  go_wp2
  go_ret
  exact ⟨rfl, rfl⟩
set_option maxRecDepth 100000 in
theorem kind_w35 (w : World) : Calls Tryz.prog 24 #[.string { data := #[116, 104, 101, 97, 100] }] w fun e w' => e = .returned (.int .i64 11) ∧ w = w' := by
  go_enter Tryz.func24, Tryz.ntmps24
  go_wp2
  go_ret
  exact ⟨rfl, rfl⟩
set_option maxRecDepth 100000 in
theorem kind_w36 (w : World) : Calls Tryz.prog 24 #[.string { data := #[116, 114] }] w fun e w' => e = .returned (.int .i64 12) ∧ w = w' := by
  go_enter Tryz.func24, Tryz.ntmps24
  go_wp2
  go_ret
  exact ⟨rfl, rfl⟩
set_option maxRecDepth 100000 in
theorem kind_w37 (w : World) : Calls Tryz.prog 24 #[.string { data := #[116, 100] }] w fun e w' => e = .returned (.int .i64 13) ∧ w = w' := by
  go_enter Tryz.func24, Tryz.ntmps24
  go_wp2
  go_ret
  exact ⟨rfl, rfl⟩
set_option maxRecDepth 100000 in
theorem kind_w38 (w : World) : Calls Tryz.prog 24 #[.string { data := #[116, 104] }] w fun e w' => e = .returned (.int .i64 13) ∧ w = w' := by
  go_enter Tryz.func24, Tryz.ntmps24
  go_wp2
  go_ret
  exact ⟨rfl, rfl⟩
set_option maxRecDepth 100000 in
theorem kind_w39 (w : World) : Calls Tryz.prog 24 #[.string { data := #[97, 112, 112, 108, 101, 116] }] w fun e w' => e = .returned (.int .i64 1) ∧ w = w' := by
  go_enter Tryz.func24, Tryz.ntmps24
  go_wp2
  go_ret
  exact ⟨rfl, rfl⟩
set_option maxRecDepth 100000 in
theorem kind_w40 (w : World) : Calls Tryz.prog 24 #[.string { data := #[97, 117, 100, 105, 111] }] w fun e w' => e = .returned (.int .i64 1) ∧ w = w' := by
  go_enter Tryz.func24, Tryz.ntmps24
  go_wp2
  go_ret
  exact ⟨rfl, rfl⟩
set_option maxRecDepth 100000 in
theorem kind_w41 (w : World) : Calls Tryz.prog 24 #[.string { data := #[98, 97, 115, 101] }] w fun e w' => e = .returned (.int .i64 1) ∧ w = w' := by
  go_enter Tryz.func24, Tryz.ntmps24
  go_wp2
  go_ret
  exact ⟨rfl, rfl⟩
set_option maxRecDepth 100000 in
theorem kind_w42 (w : World) : Calls Tryz.prog 24 #[.string { data := #[98, 117, 116, 116, 111, 110] }] w fun e w' => e = .returned (.int .i64 1) ∧ w = w' := by
  go_enter Tryz.func24, Tryz.ntmps24
  go_wp2
  go_ret
  exact ⟨rfl, rfl⟩
set_option maxRecDepth 100000 in
theorem kind_w43 (w : World) : Calls Tryz.prog 24 #[.string { data := #[99, 97, 110, 118, 97, 115] }] w fun e w' => e = .returned (.int .i64 1) ∧ w = w' := by
  go_enter Tryz.func24, Tryz.ntmps24
  go_wp2
  go_ret
  exact ⟨rfl, rfl⟩
set_option maxRecDepth 100000 in
theorem kind_w44 (w : World) : Calls Tryz.prog 24 #[.string { data := #[101, 109, 98, 101, 100] }] w fun e w' => e = .returned (.int .i64 1) ∧ w = w' := by
  go_enter Tryz.func24, Tryz.ntmps24
  go_wp2
  go_ret
  exact ⟨rfl, rfl⟩
set_option maxRecDepth 100000 in
theorem kind_w45 (w : World) : Calls Tryz.prog 24 #[.string { data := #[102, 114, 97, 109, 101] }] w fun e w' => e = .returned (.int .i64 1) ∧ w = w' := by
  go_enter Tryz.func24, Tryz.ntmps24
  go_wp2
  go_ret
  exact ⟨rfl, rfl⟩
set_option maxRecDepth 100000 in
theorem kind_w46 (w : World) : Calls Tryz.prog 24 #[.string { data := #[102, 114, 97, 109, 101, 115, 101, 116] }] w fun e w' => e = .returned (.int .i64 1) ∧ w = w' := by
  go_enter Tryz.func24, Tryz.ntmps24
  go_wp2
  go_ret
  exact ⟨rfl, rfl⟩
set_option maxRecDepth 100000 in
theorem kind_w47 (w : World) : Calls Tryz.prog 24 #[.string { data := #[104, 101, 97, 100] }] w fun e w' => e = .returned (.int .i64 1) ∧ w = w' := by
  go_enter Tryz.func24, Tryz.ntmps24
  go_wp2
  go_ret
  exact ⟨rfl, rfl⟩
set_option maxRecDepth 100000 in
theorem kind_w48 (w : World) : Calls Tryz.prog 24 #[.string { data := #[105, 102, 114, 97, 109, 101] }] w fun e w' => e = .returned (.int .i64 1) ∧ w = w' := by
  go_enter Tryz.func24, Tryz.ntmps24
  go_wp2
  go_ret
  exact ⟨rfl, rfl⟩
set_option maxRecDepth 100000 in
theorem kind_w49 (w : World) : Calls Tryz.prog 24 #[.string { data := #[105, 110, 112, 117, 116] }] w fun e w' => e = .returned (.int .i64 1) ∧ w = w' := by
  go_enter Tryz.func24, Tryz.ntmps24
  go_wp2
  go_ret
  exact ⟨rfl, rfl⟩
set_option maxRecDepth 100000 in
theorem kind_w50 (w : World) : Calls Tryz.prog 24 #[.string { data := #[108, 105, 110, 107] }] w fun e w' => e = .returned (.int .i64 1) ∧ w = w' := by
  go_enter Tryz.func24, Tryz.ntmps24
  go_wp2
  go_ret
  exact ⟨rfl, rfl⟩
set_option maxRecDepth 100000 in
theorem kind_w51 (w : World) : Calls Tryz.prog 24 #[.string { data := #[109, 101, 116, 97] }] w fun e w' => e = .returned (.int .i64 1) ∧ w = w' := by
  go_enter Tryz.func24, Tryz.ntmps24
  go_wp2
  go_ret
  exact ⟨rfl, rfl⟩
set_option maxRecDepth 100000 in
theorem kind_w52 (w : World) : Calls Tryz.prog 24 #[.string { data := #[110, 111, 101, 109, 98, 101, 100] }] w fun e w' => e = .returned (.int .i64 1) ∧ w = w' := by
  go_enter Tryz.func24, Tryz.ntmps24
  go_wp2
  go_ret
  exact ⟨rfl, rfl⟩
set_option maxRecDepth 100000 in
theorem kind_w53 (w : World) : Calls Tryz.prog 24 #[.string { data := #[110, 111, 102, 114, 97, 109, 101, 115] }] w fun e w' => e = .returned (.int .i64 1) ∧ w = w' := by
  go_enter Tryz.func24, Tryz.ntmps24
  go_wp2
  go_ret
  exact ⟨rfl, rfl⟩
set_option maxRecDepth 100000 in
theorem kind_w54 (w : World) : Calls Tryz.prog 24 #[.string { data := #[111, 98, 106, 101, 99, 116] }] w fun e w' => e = .returned (.int .i64 1) ∧ w = w' := by
  go_enter Tryz.func24, Tryz.ntmps24
  go_wp2
  go_ret
  exact ⟨rfl, rfl⟩
set_option maxRecDepth 100000 in
theorem kind_w55 (w : World) : Calls Tryz.prog 24 #[.string { data := #[111, 112, 116, 105, 111, 110] }] w fun e w' => e = .returned (.int .i64 1) ∧ w = w' := by
  go_enter Tryz.func24, Tryz.ntmps24
  go_wp2
  go_ret
  exact ⟨rfl, rfl⟩
set_option maxRecDepth 100000 in
theorem kind_w56 (w : World) : Calls Tryz.prog 24 #[.string { data := #[112, 97, 114, 97, 109] }] w fun e w' => e = .returned (.int .i64 1) ∧ w = w' := by
  go_enter Tryz.func24, Tryz.ntmps24
  go_wp2
  go_ret
  exact ⟨rfl, rfl⟩
set_option maxRecDepth 100000 in
theorem kind_w57 (w : World) : Calls Tryz.prog 24 #[.string { data := #[115, 99, 114, 105, 112, 116] }] w fun e w' => e = .returned (.int .i64 1) ∧ w = w' := by
  go_enter Tryz.func24, Tryz.ntmps24
  go_wp2
  go_ret
  exact ⟨rfl, rfl⟩
set_option maxRecDepth 100000 in
theorem kind_w58 (w : World) : Calls Tryz.prog 24 #[.string { data := #[115, 101, 108, 101, 99, 116] }] w fun e w' => e = .returned (.int .i64 1) ∧ w = w' := by
  go_enter Tryz.func24, Tryz.ntmps24
  go_wp2
  go_ret
  exact ⟨rfl, rfl⟩
set_option maxRecDepth 100000 in
theorem kind_w59 (w : World) : Calls Tryz.prog 24 #[.string { data := #[115, 116, 121, 108, 101] }] w fun e w' => e = .returned (.int .i64 1) ∧ w = w' := by
  go_enter Tryz.func24, Tryz.ntmps24
  go_wp2
  go_ret
  exact ⟨rfl, rfl⟩
set_option maxRecDepth 100000 in
theorem kind_w60 (w : World) : Calls Tryz.prog 24 #[.string { data := #[116, 101, 109, 112, 108, 97, 116, 101] }] w fun e w' => e = .returned (.int .i64 1) ∧ w = w' := by
  go_enter Tryz.func24, Tryz.ntmps24
  go_wp2
  go_ret
  exact ⟨rfl, rfl⟩
set_option maxRecDepth 100000 in
theorem kind_w61 (w : World) : Calls Tryz.prog 24 #[.string { data := #[116, 101, 120, 116, 97, 114, 101, 97] }] w fun e w' => e = .returned (.int .i64 1) ∧ w = w' := by
  go_enter Tryz.func24, Tryz.ntmps24
  go_wp2
  go_ret
  exact ⟨rfl, rfl⟩
set_option maxRecDepth 100000 in
theorem kind_w62 (w : World) : Calls Tryz.prog 24 #[.string { data := #[116, 105, 116, 108, 101] }] w fun e w' => e = .returned (.int .i64 1) ∧ w = w' := by
  go_enter Tryz.func24, Tryz.ntmps24
  go_wp2
  go_ret
  exact ⟨rfl, rfl⟩
set_option maxRecDepth 100000 in
theorem kind_w63 (w : World) : Calls Tryz.prog 24 #[.string { data := #[118, 105, 100, 101, 111] }] w fun e w' => e = .returned (.int .i64 1) ∧ w = w' := by
  go_enter Tryz.func24, Tryz.ntmps24
  go_wp2
  go_ret
  exact ⟨rfl, rfl⟩
set_option maxRecDepth 100000 in
theorem kind_w64 (w : World) : Calls Tryz.prog 24 #[.string { data := #[120, 109, 112] }] w fun e w' => e = .returned (.int .i64 1) ∧ w = w' := by
  go_enter Tryz.func24, Tryz.ntmps24
  go_wp2
  go_ret
  exact ⟨rfl, rfl⟩
end Go.Proofs.YtcfgbdhpcboikaaGreatDoor
