/-
  The document's Whole, over any text and bounds.
-/
import Derived.Test.YtdgmokfdkophpaaGreatDoorNumB
import Derived.Lib.Atoi
namespace Go.Proofs.YtdgmokfdkophpaaGreatDoor
open Go.RowKit

theorem digs_lt : ∀ (l : List UInt8) (k : Nat) (h : k < l.length), k < digs l → isDig l[k] = true
  | [], k, h, _ => by simp at h
  | c :: l, k, h, hk => by
    unfold digs at hk
    rw [List.takeWhile_cons] at hk
    by_cases hc : isDig c = true
    · rw [if_pos hc] at hk
      cases k with
      | zero => exact hc
      | succ k => exact digs_lt l k (by simpa using h) (by unfold digs; simpa using hk)
    · rw [if_neg hc] at hk; simp at hk
theorem digs_not : ∀ (l : List UInt8) (h : digs l < l.length), isDig l[digs l] = false
  | [], h => by simp at h
  | c :: l, h => by
    by_cases hc : isDig c = true
    · have e : digs (c :: l) = digs l + 1 := by unfold digs; rw [List.takeWhile_cons, if_pos hc]; rfl
      have := digs_not l (by rw [e] at h; simpa using h)
      simp only [e, List.getElem_cons_succ]
      exact this
    · have e : digs (c :: l) = 0 := by unfold digs; rw [List.takeWhile_cons, if_neg hc]; rfl
      simp only [e, List.getElem_cons_zero]
      simpa using hc
theorem dig_bounds (c : UInt8) (h : isDig c = true) : 48 ≤ c.toNat ∧ c.toNat ≤ 57 := by simpa [isDig] using h
theorem dec_take (l : List UInt8) : ∀ k, k ≤ digs l → ∃ m, Lib.decFrom 0 (l.take k) = some m ∧ m < 10 ^ k
  | 0, _ => ⟨0, by simp [Lib.decFrom], by decide⟩
  | k + 1, hk => by
    obtain ⟨m, h1, h2⟩ := dec_take l k (by omega)
    have hl : k < l.length := by have := digs_le l; omega
    have hd := dig_bounds _ (digs_lt l k hl (by omega))
    refine ⟨m * 10 + (l[k].toNat - 48), Lib.decFrom_take l k 0 m l[k] _ h1 (List.getElem?_eq_getElem hl) (by unfold Lib.digitVal; rw [if_pos hd]), ?_⟩
    rw [Nat.pow_succ]
    omega

/-- A text of digits, its number. -/
theorem dec_step (s : ByteArray) (j m : Nat) (hj : j < s.size) (hd : j < digs s.data.toList) (h : Lib.decFrom 0 (s.data.toList.take j) = some m) :
    Lib.decFrom 0 (s.data.toList.take (j + 1)) = some (10 * m + (s[j].toNat - 48)) := by
  have hl : j < s.data.toList.length := by simpa using hj
  have := Lib.decFrom_take s.data.toList j 0 m s[j] (s[j].toNat - 48) h (List.getElem?_eq_getElem hl) (by unfold Lib.digitVal; exact if_pos (dig_bounds _ (digs_lt _ j hl hd)))
  rw [this, Nat.mul_comm]
theorem dec_small (s : ByteArray) (j m : Nat) (hj : j ≤ digs s.data.toList) (h9 : j ≤ 8) (h : Lib.decFrom 0 (s.data.toList.take j) = some m) : m ≤ 99999999 := by
  obtain ⟨m', h1, h2⟩ := dec_take s.data.toList j hj
  rw [h] at h1
  cases h1
  have : 10 ^ j ≤ 10 ^ 8 := Nat.pow_le_pow_right (by omega) h9
  omega

/-- A number between two bounds; else nothing. -/
def boundR (v lo hi : Int) : Value := if v < lo ∨ hi < v then .tuple #[.int .i64 0, .bool false] else .tuple #[.int .i64 v, .bool true]

set_option maxRecDepth 100000 in
set_option maxHeartbeats 1000000 in
theorem refWhole_len (s : ByteArray) (lo hi : Int) (w : World) (h : s.size = 0 ∨ 9 < s.size) :
    Calls Tryz.prog 18 #[.string s, .int .i64 lo, .int .i64 hi] w fun e w' => e = .returned (.tuple #[.int .i64 0, .bool false]) ∧ w = w' := by
  go_enter Tryz.func18, Tryz.ntmps18
  rcases h with h | h
  · as_aux_lemma =>
      go_wp2
      go_ret2
      exact ⟨rfl, rfl⟩
  · have h' : ¬ s.size = 0 := by omega
    as_aux_lemma =>
      go_wp2
      go_ret2
      exact ⟨rfl, rfl⟩

set_option maxRecDepth 100000 in
set_option maxHeartbeats 1000000 in
theorem refWhole_nought (s : ByteArray) (lo hi : Int) (w : World) (h1 : 1 < s.size) (h9 : s.size ≤ 9) (h0 : s[0].toNat = 48) :
    Calls Tryz.prog 18 #[.string s, .int .i64 lo, .int .i64 hi] w fun e w' => e = .returned (.tuple #[.int .i64 0, .bool false]) ∧ w = w' := by
  have h' : ¬ s.size = 0 := by omega
  have e0 : ((s[0].toNat : Int) == 48) = true := by simp [h0]
  go_enter Tryz.func18, Tryz.ntmps18
  go_wp2
  go_ret2
  exact ⟨rfl, rfl⟩

/-- Where the loop has come to. -/
def AtW (s : ByteArray) (a b : Value) (j m : Nat) : Prop :=
  a = .int .i64 (m : Nat) ∧ b = .int .i64 (j : Nat) ∧ j ≤ digs s.data.toList ∧ Lib.decFrom 0 (s.data.toList.take j) = some m

set_option maxRecDepth 100000 in
set_option maxHeartbeats 1500000 in
theorem refWhole_digits (s : ByteArray) (lo hi : Int) (w : World) (h1 : 1 ≤ s.size) (h9 : s.size ≤ 9) (h0 : s.size = 1 ∨ ∃ h : 0 < s.size, ((s[0].toNat : Int) == 48) = false) :
    Calls Tryz.prog 18 #[.string s, .int .i64 lo, .int .i64 hi] w fun e w' => e = .returned (if digs s.data.toList = s.size then boundR (Lib.decFrom 0 s.data.toList).get! lo hi else .tuple #[.int .i64 0, .bool false]) ∧ w = w' := by
  have h' : ¬ s.size = 0 := by omega
  have i1 : ((s.size : Int) == 0) = false := beq_eq_false_iff_ne.2 (by omega)
  have i2 : decide (9 < (s.size : Int)) = false := decide_eq_false (by omega)
  have hle : digs s.data.toList ≤ s.size := by have := digs_le s.data.toList; simpa using this
  have HLE := Lib.hid hle
  clear hle
  obtain ⟨V, hV⟩ : ∃ V, V = (if digs s.data.toList = s.size then boundR (Lib.decFrom 0 s.data.toList).get! lo hi else .tuple #[.int .i64 0, .bool false]) := ⟨_, rfl⟩
  rw [← hV]
  have HVV := Lib.hid hV
  clear hV
  have H0 := Lib.hid h0
  clear h0
  go_enter Tryz.func18, Tryz.ntmps18
  go_upto_region 2 with fail
  go_cut [27] (fun t wx => t = .bool false ∧ wx = w)
  case first =>
    rcases H0.out with h | ⟨h, e⟩
    · have i3 : decide (1 < (s.size : Int)) = false := decide_eq_false (by omega)
      as_aux_lemma =>
        go_wp2_with fail
        all_goals go_meet
        all_goals exact ⟨rfl, rfl⟩
    · as_aux_lemma =>
        go_wp2_with fail
        all_goals go_meet
        all_goals exact ⟨rfl, rfl⟩
  case rest =>
    obtain ⟨rfl, rfl⟩ := hcut
    go_wp2_with fail
    go_loopg [8, 9] (s.size) (fun g a b wx => ∃ j m, AtW s a b j m ∧ g = s.size - j ∧ wx = wc)
    case atStart => exact ⟨0, 0, ⟨rfl, rfl, Nat.zero_le _, by simp [Lib.decFrom]⟩, by omega, rfl⟩
    case round =>
      obtain ⟨j, m, ⟨rfl, rfl, hj, hm⟩, hg, rfl⟩ := hrel
      have hj9 : j ≤ s.size := by have := HLE.out; omega
      have HM := Lib.hid hm
      have HG := Lib.hid hg
      clear hm hg
      by_cases hjs : j < s.size
      · by_cases hjd : j < digs s.data.toList
        · obtain ⟨d1, d2⟩ := dig_bounds s[j] (digs_lt s.data.toList j (by simpa using hjs) hjd)
          have hm8 := dec_small s j m hj (by omega) HM.out
          have hs2 := dec_step s j m hjs hjd HM.out
          have HS2 := Lib.hid hs2
          have HJD := Lib.hid hjd
          clear hs2 hj hjd
          as_aux_lemma =>
            go_wp2_with fail
            go_roundg (s.size - (j + 1))
            case measure => have := HG.out; omega
            case rel => exact ⟨j + 1, _, ⟨by rw [Int.natCast_add, Int.natCast_mul, Int.ofNat_sub d1]; rfl, by go_num, by have := HJD.out; omega, HS2.out⟩, rfl, rfl⟩
        · have ej : digs s.data.toList = j := by omega
          have hnd := digs_not s.data.toList (by rw [ej]; simpa using hjs)
          have ne : ¬ digs s.data.toList = s.size := by omega
          simp only [ej] at hnd
          have hnd' : isDig s[j] = false := hnd
          have hlt : s[j].toNat < 256 := s[j].toNat_lt
          have hb : s[j].toNat < 48 ∨ 57 < s[j].toNat := by
            unfold isDig at hnd'
            simp at hnd'
            omega
          have NE := Lib.hid ne
          clear ej hnd hnd' ne hj
          rcases hb with hb | hb
          · as_aux_lemma =>
              go_wp2_with fail
              go_ret2
              exact ⟨by rw [HVV.out, if_neg NE.out]; rfl, rfl⟩
          · as_aux_lemma =>
              go_wp2_with fail
              go_ret2
              exact ⟨by rw [HVV.out, if_neg NE.out]; rfl, rfl⟩
      · have ej : digs s.data.toList = s.size := by have := HLE.out; omega
        have e : j = s.size := by omega
        subst e
        have hv : Lib.decFrom 0 s.data.toList = some m := by
          have := HM.out
          rwa [List.take_of_length_le (by simp)] at this
        have EJ := Lib.hid ej
        have HV := Lib.hid hv
        clear ej hv hj hjs
        by_cases c1 : (m : Int) < lo
        · as_aux_lemma =>
            go_wp2_with fail
            all_goals go_ret2
            all_goals exact ⟨by rw [HVV.out, if_pos EJ.out, HV.out]; unfold boundR; rw [if_pos (.inl c1)]; rfl, rfl⟩
        · by_cases c2 : hi < (m : Int)
          · as_aux_lemma =>
              go_wp2_with fail
              all_goals go_ret2
              all_goals exact ⟨by rw [HVV.out, if_pos EJ.out, HV.out]; unfold boundR; rw [if_pos (.inr c2)]; rfl, rfl⟩
          · as_aux_lemma =>
              go_wp2_with fail
              all_goals go_ret2
              all_goals exact ⟨by rw [HVV.out, if_pos EJ.out, HV.out]; unfold boundR; rw [if_neg (by simp [c1, c2])]; rfl, rfl⟩
end Go.Proofs.YtdgmokfdkophpaaGreatDoor
