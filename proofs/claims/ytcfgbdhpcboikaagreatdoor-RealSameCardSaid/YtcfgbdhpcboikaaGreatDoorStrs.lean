/-
  Cuts and bytes of strings, as equations that a walk may use.
  real.numeral: which texts are numerals, over lists of bytes.
  real.numeral: the walk.
  real.numeral: the walk's two ways (with a point, without one).
-/
import Derived.Test.YtcfgbdhpcboikaaGreatDoorNum
import Derived.Test.YtcfgbdhpcboikaaGreatDoorShelf
namespace Go.Proofs.YtcfgbdhpcboikaaGreatDoor
open Go.RowKit

/-- 's[n:]'. -/
theorem cut_from (s : ByteArray) (n : Nat) (h : n ≤ s.size) :
    ∃ s2 : ByteArray, s2.data.toList = s.data.toList.drop n ∧ s2.size = s.size - n ∧ ∀ w, (Instr.slice 9 (.string s) (some (.int .i64 n)) none none).run Tryz.prog w = .ok (.string s2) w := by
  refine ⟨s.extract n s.size, ?_, ?_, fun w => ?_⟩
  · rw [Lib.extract_data]
    exact List.take_of_length_le (by rw [List.length_drop]; exact Nat.le_refl _)
  · simp
  · rw [run_slice_string_from_if (P := Tryz.prog) w 9 s .i64 n Tryz.underlying9, if_pos (by omega)]
    simp
/-- 's[:n]'. -/
theorem cut_to (s : ByteArray) (n : Nat) (h : n ≤ s.size) :
    ∃ s2 : ByteArray, s2.data.toList = s.data.toList.take n ∧ s2.size = n ∧ ∀ w, (Instr.slice 9 (.string s) none (some (.int .i64 n)) none).run Tryz.prog w = .ok (.string s2) w := by
  refine ⟨s.extract 0 n, ?_, ?_, fun w => ?_⟩
  · rw [Lib.extract_data]
    simp
  · simp; omega
  · rw [run_slice_string_to_if (P := Tryz.prog) w 9 s .i64 n Tryz.underlying9, if_pos (by omega)]
    simp

theorem size_list (s : ByteArray) : s.size = s.data.toList.length := rfl
theorem empty_list (s : ByteArray) (h : s.size = 0) : s.data.toList = [] := List.eq_nil_of_length_eq_zero h
theorem trim_minus (l : List UInt8) : Lib.trimPrefix l [45] = if l.head? = some 45 then l.drop 1 else l := by
  unfold Lib.trimPrefix Lib.hasPrefix
  cases l with
  | nil => rfl
  | cons c l =>
    by_cases h : c = 45
    · subst h; simp
    · simp [h]; intro hh; exact absurd hh.symm h
theorem has_dot (l : List UInt8) : Lib.hasPrefix l [46] = decide (l.head? = some 46) := by
  unfold Lib.hasPrefix
  cases l with
  | nil => rfl
  | cons c l =>
    by_cases h : c = 46
    · subst h; simp
    · have h' : ¬ (46 : UInt8) = c := fun e => h e.symm
      simp [h, List.isPrefixOf, h']
end Go.Proofs.YtcfgbdhpcboikaaGreatDoor

namespace Go.Proofs.YtcfgbdhpcboikaaGreatDoor
open Go.RowKit

/-- What stands behind the e: perhaps a sign, then digits. -/
def num3 (l : List UInt8) : Bool :=
  let l5 := if l.head? = some 43 ∨ l.head? = some 45 then l.drop 1 else l
  !l5.isEmpty && digs l5 == l5.length
def num2 (n : Nat) (l : List UInt8) : Bool :=
  if n = 0 then false else if l = [] then true else if l.head? = some 101 ∨ l.head? = some 69 then num3 (l.drop 1) else false
def num1 (l : List UInt8) : Bool :=
  if (l.drop (digs l)).head? = some 46 then
    (if digs ((l.drop (digs l)).drop 1) = 0 then false else num2 (digs l + digs ((l.drop (digs l)).drop 1)) ((l.drop (digs l)).drop (1 + digs ((l.drop (digs l)).drop 1))))
  else num2 (digs l) (l.drop (digs l))
/-- Is a text a numeral? -/
def numB (l : List UInt8) : Bool := if 40 < l.length then false else num1 (if l.head? = some 45 then l.drop 1 else l)

theorem digits_at (s : ByteArray) (n : Nat) (w : World) (hs : s.size ≤ maxLen) (hn : digs s.data.toList = n) :
    Calls Tryz.prog 112 #[.string s] w fun e w' => e = .returned (.int .i64 n) ∧ w = w' := by
  subst hn
  exact digits_any s w hs
theorem trim_at (s s1 : ByteArray) (w : World) (h : s1.data.toList = if s.data.toList.head? = some 45 then s.data.toList.drop 1 else s.data.toList) :
    Calls Tryz.prog 117 #[.string s, .string { data := #[45] }] w fun e w' => e = .returned (.string s1) ∧ w = w' := by
  refine (Tryz.strings_TrimPrefix _ _ _).mono ?_
  rintro e w' ⟨rfl, rfl⟩
  refine ⟨?_, rfl⟩
  have : Lib.trimPrefix s.data.toList [45] = s1.data.toList := by rw [trim_minus, h]
  simp only [this]
theorem dot_at (s : ByteArray) (b : Bool) (w : World) (h : decide (s.data.toList.head? = some 46) = b) :
    Calls Tryz.prog 118 #[.string s, .string { data := #[46] }] w fun e w' => e = .returned (.bool b) ∧ w = w' := by
  refine (Tryz.strings_HasPrefix _ _ _).mono ?_
  rintro e w' ⟨rfl, rfl⟩
  have : Lib.hasPrefix s.data.toList [46] = b := by rw [has_dot, h]
  exact ⟨by simp only [this], rfl⟩
theorem head_byte (s : ByteArray) (h : 0 < s.size) : s.data.toList.head? = some s[0] := by
  rw [List.head?_eq_getElem?, List.getElem?_eq_getElem (by simpa using h)]
  rfl
theorem empty_toList (s : ByteArray) (h : s.size = 0) : s.toList.isEmpty = true := by rw [Lib.toList_data, empty_list s h]; rfl
theorem full_toList (s : ByteArray) (h : 0 < s.size) : s.toList.isEmpty = false := by
  rw [Lib.toList_data, List.isEmpty_eq_false_iff]
  intro e
  rw [size_list, e] at h
  exact absurd h (by simp)

theorem numeral_long (s : ByteArray) (w : World) (hs : s.size ≤ maxLen) (h : 40 < s.size) :
    Calls Tryz.prog 65 #[.string s] w fun e w' => e = .returned (.bool (numB s.data.toList)) ∧ w = w' := by
  have hv : numB s.data.toList = false := by unfold numB; rw [if_pos (by rw [← size_list]; exact h)]
  rw [hv]
  clear hv
  unfold maxLen at hs
  go_enter Tryz.func65, Tryz.ntmps65
  go_wp2
  go_ret
  exact ⟨rfl, rfl⟩

/-- The walk behind the digits: s3 is what is left, m how many digits there were. -/
theorem num_tail (s3 : ByteArray) (m : Nat) (hs3 : s3.size ≤ 40) (hm : m ≤ 40) :
    (m = 0 ∧ num2 m s3.data.toList = false) ∨ (0 < m ∧ s3.size = 0 ∧ num2 m s3.data.toList = true) ∨
    (0 < m ∧ 0 < s3.size ∧ ∃ c : UInt8, s3.data.toList.head? = some c ∧ c ≠ 101 ∧ c ≠ 69 ∧ num2 m s3.data.toList = false) ∨
    (0 < m ∧ 0 < s3.size ∧ ∃ c : UInt8, s3.data.toList.head? = some c ∧ (c = 101 ∨ c = 69) ∧ num2 m s3.data.toList = num3 (s3.data.toList.drop 1)) := by
  by_cases h0 : m = 0
  · exact .inl ⟨h0, by simp [num2, h0]⟩
  · by_cases h1 : s3.size = 0
    · exact .inr (.inl ⟨by omega, h1, by simp [num2, h0, empty_list s3 h1]⟩)
    · have hh := head_byte s3 (by omega)
      have hne : s3.data.toList ≠ [] := by intro e; rw [e] at hh; simp at hh
      by_cases hc : s3[0]'(by omega) = 101 ∨ s3[0]'(by omega) = 69
      · exact .inr (.inr (.inr ⟨by omega, by omega, _, hh, hc, by simp [num2, h0, hne, hh, hc]⟩))
      · have hc' := not_or.1 hc
        exact .inr (.inr (.inl ⟨by omega, by omega, _, hh, hc'.1, hc'.2, by simp [num2, h0, hne, hh, hc'.1, hc'.2]⟩))
end Go.Proofs.YtcfgbdhpcboikaaGreatDoor

namespace Go.Proofs.YtcfgbdhpcboikaaGreatDoor
open Go.RowKit

theorem head_size (s : ByteArray) (c : UInt8) (h : s.data.toList.head? = some c) : ∃ h : 0 < s.size, s[0] = c := by
  have h0 : 0 < s.size := by
    rw [size_list]
    cases hl : s.data.toList with
    | nil => rw [hl] at h; simp at h
    | cons a l => simp
  refine ⟨h0, ?_⟩
  rw [head_byte s h0] at h
  exact Option.some.inj h

/-- The text behind the e. -/
inductive Num3 (s4 : ByteArray) : Bool → Prop
  | none (h : s4.size = 0) : Num3 s4 false
  | bare (h : 0 < s4.size) (h1 : ((s4[0].toNat : Int) == 43) = false) (h2 : ((s4[0].toNat : Int) == 45) = false) (d : Nat) (hd : digs s4.data.toList = d) : Num3 s4 (decide ((d : Int) = s4.size))
  | plus (h : 0 < s4.size) (h1 : ((s4[0].toNat : Int) == 43) = true) (s5 : ByteArray) (h5 : s5.size ≤ s4.size) (c5 : ∀ w, (Instr.slice 9 (.string s4) (some (.int .i64 1)) none none).run Tryz.prog w = .ok (.string s5) w)
      (h0 : s5.size = 0) : Num3 s4 false
  | plusd (h : 0 < s4.size) (h1 : ((s4[0].toNat : Int) == 43) = true) (s5 : ByteArray) (h5 : s5.size ≤ s4.size) (c5 : ∀ w, (Instr.slice 9 (.string s4) (some (.int .i64 1)) none none).run Tryz.prog w = .ok (.string s5) w)
      (h0 : 0 < s5.size) (d : Nat) (hd : digs s5.data.toList = d) : Num3 s4 (decide ((d : Int) = s5.size))
  | minus (h : 0 < s4.size) (h1 : ((s4[0].toNat : Int) == 43) = false) (h2 : ((s4[0].toNat : Int) == 45) = true) (s5 : ByteArray) (h5 : s5.size ≤ s4.size) (c5 : ∀ w, (Instr.slice 9 (.string s4) (some (.int .i64 1)) none none).run Tryz.prog w = .ok (.string s5) w)
      (h0 : s5.size = 0) : Num3 s4 false
  | minusd (h : 0 < s4.size) (h1 : ((s4[0].toNat : Int) == 43) = false) (h2 : ((s4[0].toNat : Int) == 45) = true) (s5 : ByteArray) (h5 : s5.size ≤ s4.size) (c5 : ∀ w, (Instr.slice 9 (.string s4) (some (.int .i64 1)) none none).run Tryz.prog w = .ok (.string s5) w)
      (h0 : 0 < s5.size) (d : Nat) (hd : digs s5.data.toList = d) : Num3 s4 (decide ((d : Int) = s5.size))

theorem num3_intro (s4 : ByteArray) : Num3 s4 (num3 s4.data.toList) := by
  by_cases h : s4.size = 0
  · have : num3 s4.data.toList = false := by rw [empty_list s4 h]; rfl
    rw [this]
    exact .none h
  · have h0 : 0 < s4.size := by omega
    have hh := head_byte s4 h0
    by_cases h1 : s4[0].toNat = 43 ∨ s4[0].toNat = 45
    · obtain ⟨s5, e5, z5, c5⟩ := cut_from s4 1 h0
      have hs : s4[0] = 43 ∨ s4[0] = 45 := by
        rcases h1 with h1 | h1
        · exact .inl (UInt8.toNat_inj.1 h1)
        · exact .inr (UInt8.toNat_inj.1 h1)
      have hv : num3 s4.data.toList = (!s5.data.toList.isEmpty && digs s5.data.toList == s5.data.toList.length) := by
        unfold num3
        simp only [hh, Option.some.injEq]
        rw [if_pos hs, e5]
      rw [hv]
      by_cases h5 : s5.size = 0
      · rw [empty_list s5 h5]
        rcases h1 with h1 | h1
        · exact .plus h0 (by simp [h1]) s5 (by omega) c5 h5
        · exact .minus h0 (by simp [h1]) (by simp [h1]) s5 (by omega) c5 h5
      · have hne : s5.data.toList.isEmpty = false := by rw [← Lib.toList_data]; exact full_toList s5 (by omega)
        have hb : (!s5.data.toList.isEmpty && digs s5.data.toList == s5.data.toList.length) = decide (((digs s5.data.toList : Nat) : Int) = s5.size) := by
          rw [hne, size_list, Bool.eq_iff_iff]
          simp
          omega
        rw [hb]
        rcases h1 with h1 | h1
        · exact .plusd h0 (by simp [h1]) s5 (by omega) c5 (by omega) _ rfl
        · exact .minusd h0 (by simp [h1]) (by simp [h1]) s5 (by omega) c5 (by omega) _ rfl
    · have h1' := not_or.1 h1
      have hs : ¬ (s4[0] = 43 ∨ s4[0] = 45) := by
        rintro (e | e) <;> rw [e] at h1' <;> simp at h1'
      have hv : num3 s4.data.toList = (!s4.data.toList.isEmpty && digs s4.data.toList == s4.data.toList.length) := by
        unfold num3
        simp only [hh, Option.some.injEq]
        rw [if_neg hs]
      have hne : s4.data.toList.isEmpty = false := by rw [← Lib.toList_data]; exact full_toList s4 h0
      have hb : (!s4.data.toList.isEmpty && digs s4.data.toList == s4.data.toList.length) = decide (((digs s4.data.toList : Nat) : Int) = s4.size) := by
        rw [hne, size_list, Bool.eq_iff_iff]
        simp
        omega
      rw [hv, hb]
      exact .bare h0 (by simp; omega) (by simp; omega) _ rfl

/-- The text behind the digits. -/
inductive Num2 (s3 : ByteArray) (m : Nat) : Bool → Prop
  | zero (h : m = 0) : Num2 s3 m false
  | done (h : 0 < m) (h1 : s3.size = 0) : Num2 s3 m true
  | other (h : 0 < m) (h1 : 0 < s3.size) (h2 : ((s3[0].toNat : Int) != 101) = true) (h3 : ((s3[0].toNat : Int) != 69) = true) : Num2 s3 m false
  | small (h : 0 < m) (h1 : 0 < s3.size) (h2 : ((s3[0].toNat : Int) != 101) = false) (s4 : ByteArray) (z4 : s4.size ≤ s3.size) (c4 : ∀ w, (Instr.slice 9 (.string s3) (some (.int .i64 1)) none none).run Tryz.prog w = .ok (.string s4) w) (v : Bool) (hv : Num3 s4 v) : Num2 s3 m v
  | large (h : 0 < m) (h1 : 0 < s3.size) (h2 : ((s3[0].toNat : Int) != 101) = true) (h3 : ((s3[0].toNat : Int) != 69) = false) (s4 : ByteArray) (z4 : s4.size ≤ s3.size) (c4 : ∀ w, (Instr.slice 9 (.string s3) (some (.int .i64 1)) none none).run Tryz.prog w = .ok (.string s4) w) (v : Bool) (hv : Num3 s4 v) : Num2 s3 m v

theorem num2_intro (s3 : ByteArray) (m : Nat) (hs3 : s3.size ≤ 40) (hm : m ≤ 40) : Num2 s3 m (num2 m s3.data.toList) := by
  rcases num_tail s3 m hs3 hm with ⟨h, hv⟩ | ⟨h, h1, hv⟩ | ⟨h, h1, c, hc, h2, h3, hv⟩ | ⟨h, h1, c, hc, h2, hv⟩
  · rw [hv]; exact .zero h
  · rw [hv]; exact .done h h1
  · rw [hv]
    obtain ⟨_, rfl⟩ := head_size s3 c hc
    exact .other h h1 (by have := fun e => h2 (UInt8.toNat_inj.1 e); simp at this ⊢; omega) (by have := fun e => h3 (UInt8.toNat_inj.1 e); simp at this ⊢; omega)
  · rw [hv]
    obtain ⟨_, rfl⟩ := head_size s3 c hc
    obtain ⟨s4, e4, z4, c4⟩ := cut_from s3 1 h1
    rw [← e4]
    rcases h2 with h2 | h2
    · exact .small h h1 (by rw [h2]; rfl) s4 (by omega) c4 _ (num3_intro s4)
    · exact .large h h1 (by rw [h2]; rfl) (by rw [h2]; rfl) s4 (by omega) c4 _ (num3_intro s4)
end Go.Proofs.YtcfgbdhpcboikaaGreatDoor

namespace Go.Proofs.YtcfgbdhpcboikaaGreatDoor
open Go.RowKit

set_option maxHeartbeats 16000000 in
theorem numeral_bare (s s1 s2 : ByteArray) (n : Nat) (v : Bool) (w : World) (h40 : s.size ≤ 40) (hz1 : s1.size ≤ 40) (hz2 : s2.size ≤ s1.size)
    (TR : ∀ w, Calls Tryz.prog 117 #[.string s, .string { data := #[45] }] w fun e w' => e = .returned (.string s1) ∧ w = w')
    (D1 : ∀ w, Calls Tryz.prog 112 #[.string s1] w fun e w' => e = .returned (.int .i64 n) ∧ w = w')
    (c2 : ∀ w, (Instr.slice 9 (.string s1) (some (.int .i64 n)) none none).run Tryz.prog w = .ok (.string s2) w)
    (DOT : ∀ w, Calls Tryz.prog 118 #[.string s2, .string { data := #[46] }] w fun e w' => e = .returned (.bool false) ∧ w = w')
    (_hns : n ≤ s1.size) (hv : Num2 s2 n v) :
    Calls Tryz.prog 65 #[.string s] w fun e w' => e = .returned (.bool v) ∧ w = w' := by
  have HTR := Lib.hid TR
  have HD1 := Lib.hid D1
  have HDOT := Lib.hid DOT
  clear TR D1 DOT
  cases hv with
  | zero h =>
    have h' : (((n : Int)) == 0) = true := by simp; omega
    clear h
    go_enter Tryz.func65, Tryz.ntmps65
    go_wp2_with (first
      | (go_at_call 117; refine (HTR.out _).mono ?_; rintro e w' ⟨rfl, rfl⟩)
      | (go_at_call 118; refine (HDOT.out _).mono ?_; rintro e w' ⟨rfl, rfl⟩)
      | (go_at_call 112; ((with_reducible refine (HD1.out _).mono ?_); rintro e w' ⟨rfl, rfl⟩)))
    go_ret
    exact ⟨rfl, rfl⟩
  | done h h1 =>
    have h' : (((n : Int)) == 0) = false := by simp; omega
    have e1 := empty_toList s2 h1
    clear h h1
    go_enter Tryz.func65, Tryz.ntmps65
    go_wp2_with (first
      | (go_at_call 117; refine (HTR.out _).mono ?_; rintro e w' ⟨rfl, rfl⟩)
      | (go_at_call 118; refine (HDOT.out _).mono ?_; rintro e w' ⟨rfl, rfl⟩)
      | (go_at_call 112; ((with_reducible refine (HD1.out _).mono ?_); rintro e w' ⟨rfl, rfl⟩)))
    go_ret
    exact ⟨rfl, rfl⟩
  | other h h1 h2 h3 =>
    have h' : (((n : Int)) == 0) = false := by simp; omega
    have e1 := full_toList s2 h1
    go_enter Tryz.func65, Tryz.ntmps65
    go_wp2_with (first
      | (go_at_call 117; refine (HTR.out _).mono ?_; rintro e w' ⟨rfl, rfl⟩)
      | (go_at_call 118; refine (HDOT.out _).mono ?_; rintro e w' ⟨rfl, rfl⟩)
      | (go_at_call 112; ((with_reducible refine (HD1.out _).mono ?_); rintro e w' ⟨rfl, rfl⟩)))
    go_ret
    exact ⟨rfl, rfl⟩
  | small h h1 h2 s4 z4 c4 v hv =>
    have h' : (((n : Int)) == 0) = false := by simp; omega
    have e1 := full_toList s2 h1
    cases hv with
    | none h =>
      have e2 := empty_toList s4 h
      go_enter Tryz.func65, Tryz.ntmps65
      go_wp2_with (first
        | (go_at_call 117; refine (HTR.out _).mono ?_; rintro e w' ⟨rfl, rfl⟩)
        | (go_at_call 118; refine (HDOT.out _).mono ?_; rintro e w' ⟨rfl, rfl⟩)
        | (go_at_call 112; ((with_reducible refine (HD1.out _).mono ?_); rintro e w' ⟨rfl, rfl⟩)))
      go_ret
      exact ⟨rfl, rfl⟩
    | bare h g1 g2 d hd =>
      have e2 := full_toList s4 h
      have D3 := fun w => digits_at s4 d w (by unfold maxLen; omega) hd
      have HD3 := Lib.hid D3
      clear D3 hd
      go_enter Tryz.func65, Tryz.ntmps65
      go_wp2_with (first
        | (go_at_call 117; refine (HTR.out _).mono ?_; rintro e w' ⟨rfl, rfl⟩)
        | (go_at_call 118; refine (HDOT.out _).mono ?_; rintro e w' ⟨rfl, rfl⟩)
        | (go_at_call 112; ((with_reducible refine (HD1.out _).mono ?_); rintro e w' ⟨rfl, rfl⟩))
        | (go_at_call 112; ((with_reducible refine (HD3.out _).mono ?_); rintro e w' ⟨rfl, rfl⟩)))
      go_ret
      exact ⟨rfl, rfl⟩
    | plus h g1 s5 h5 c5 g0 =>
      have e2 := full_toList s4 h
      have e3 := empty_toList s5 g0
      go_enter Tryz.func65, Tryz.ntmps65
      go_wp2_with (first
        | (go_at_call 117; refine (HTR.out _).mono ?_; rintro e w' ⟨rfl, rfl⟩)
        | (go_at_call 118; refine (HDOT.out _).mono ?_; rintro e w' ⟨rfl, rfl⟩)
        | (go_at_call 112; ((with_reducible refine (HD1.out _).mono ?_); rintro e w' ⟨rfl, rfl⟩)))
      go_ret
      exact ⟨rfl, rfl⟩
    | plusd h g1 s5 h5 c5 g0 d hd =>
      have e2 := full_toList s4 h
      have e3 := full_toList s5 g0
      have D3 := fun w => digits_at s5 d w (by unfold maxLen; omega) hd
      have HD3 := Lib.hid D3
      clear D3 hd
      go_enter Tryz.func65, Tryz.ntmps65
      go_wp2_with (first
        | (go_at_call 117; refine (HTR.out _).mono ?_; rintro e w' ⟨rfl, rfl⟩)
        | (go_at_call 118; refine (HDOT.out _).mono ?_; rintro e w' ⟨rfl, rfl⟩)
        | (go_at_call 112; ((with_reducible refine (HD1.out _).mono ?_); rintro e w' ⟨rfl, rfl⟩))
        | (go_at_call 112; ((with_reducible refine (HD3.out _).mono ?_); rintro e w' ⟨rfl, rfl⟩)))
      go_ret
      exact ⟨rfl, rfl⟩
    | minus h g1 g2 s5 h5 c5 g0 =>
      have e2 := full_toList s4 h
      have e3 := empty_toList s5 g0
      go_enter Tryz.func65, Tryz.ntmps65
      go_wp2_with (first
        | (go_at_call 117; refine (HTR.out _).mono ?_; rintro e w' ⟨rfl, rfl⟩)
        | (go_at_call 118; refine (HDOT.out _).mono ?_; rintro e w' ⟨rfl, rfl⟩)
        | (go_at_call 112; ((with_reducible refine (HD1.out _).mono ?_); rintro e w' ⟨rfl, rfl⟩)))
      go_ret
      exact ⟨rfl, rfl⟩
    | minusd h g1 g2 s5 h5 c5 g0 d hd =>
      have e2 := full_toList s4 h
      have e3 := full_toList s5 g0
      have D3 := fun w => digits_at s5 d w (by unfold maxLen; omega) hd
      have HD3 := Lib.hid D3
      clear D3 hd
      go_enter Tryz.func65, Tryz.ntmps65
      go_wp2_with (first
        | (go_at_call 117; refine (HTR.out _).mono ?_; rintro e w' ⟨rfl, rfl⟩)
        | (go_at_call 118; refine (HDOT.out _).mono ?_; rintro e w' ⟨rfl, rfl⟩)
        | (go_at_call 112; ((with_reducible refine (HD1.out _).mono ?_); rintro e w' ⟨rfl, rfl⟩))
        | (go_at_call 112; ((with_reducible refine (HD3.out _).mono ?_); rintro e w' ⟨rfl, rfl⟩)))
      go_ret
      exact ⟨rfl, rfl⟩
  | large h h1 h2 h3 s4 z4 c4 v hv =>
    have h' : (((n : Int)) == 0) = false := by simp; omega
    have e1 := full_toList s2 h1
    cases hv with
    | none h =>
      have e2 := empty_toList s4 h
      go_enter Tryz.func65, Tryz.ntmps65
      go_wp2_with (first
        | (go_at_call 117; refine (HTR.out _).mono ?_; rintro e w' ⟨rfl, rfl⟩)
        | (go_at_call 118; refine (HDOT.out _).mono ?_; rintro e w' ⟨rfl, rfl⟩)
        | (go_at_call 112; ((with_reducible refine (HD1.out _).mono ?_); rintro e w' ⟨rfl, rfl⟩)))
      go_ret
      exact ⟨rfl, rfl⟩
    | bare h g1 g2 d hd =>
      have e2 := full_toList s4 h
      have D3 := fun w => digits_at s4 d w (by unfold maxLen; omega) hd
      have HD3 := Lib.hid D3
      clear D3 hd
      go_enter Tryz.func65, Tryz.ntmps65
      go_wp2_with (first
        | (go_at_call 117; refine (HTR.out _).mono ?_; rintro e w' ⟨rfl, rfl⟩)
        | (go_at_call 118; refine (HDOT.out _).mono ?_; rintro e w' ⟨rfl, rfl⟩)
        | (go_at_call 112; ((with_reducible refine (HD1.out _).mono ?_); rintro e w' ⟨rfl, rfl⟩))
        | (go_at_call 112; ((with_reducible refine (HD3.out _).mono ?_); rintro e w' ⟨rfl, rfl⟩)))
      go_ret
      exact ⟨rfl, rfl⟩
    | plus h g1 s5 h5 c5 g0 =>
      have e2 := full_toList s4 h
      have e3 := empty_toList s5 g0
      go_enter Tryz.func65, Tryz.ntmps65
      go_wp2_with (first
        | (go_at_call 117; refine (HTR.out _).mono ?_; rintro e w' ⟨rfl, rfl⟩)
        | (go_at_call 118; refine (HDOT.out _).mono ?_; rintro e w' ⟨rfl, rfl⟩)
        | (go_at_call 112; ((with_reducible refine (HD1.out _).mono ?_); rintro e w' ⟨rfl, rfl⟩)))
      go_ret
      exact ⟨rfl, rfl⟩
    | plusd h g1 s5 h5 c5 g0 d hd =>
      have e2 := full_toList s4 h
      have e3 := full_toList s5 g0
      have D3 := fun w => digits_at s5 d w (by unfold maxLen; omega) hd
      have HD3 := Lib.hid D3
      clear D3 hd
      go_enter Tryz.func65, Tryz.ntmps65
      go_wp2_with (first
        | (go_at_call 117; refine (HTR.out _).mono ?_; rintro e w' ⟨rfl, rfl⟩)
        | (go_at_call 118; refine (HDOT.out _).mono ?_; rintro e w' ⟨rfl, rfl⟩)
        | (go_at_call 112; ((with_reducible refine (HD1.out _).mono ?_); rintro e w' ⟨rfl, rfl⟩))
        | (go_at_call 112; ((with_reducible refine (HD3.out _).mono ?_); rintro e w' ⟨rfl, rfl⟩)))
      go_ret
      exact ⟨rfl, rfl⟩
    | minus h g1 g2 s5 h5 c5 g0 =>
      have e2 := full_toList s4 h
      have e3 := empty_toList s5 g0
      go_enter Tryz.func65, Tryz.ntmps65
      go_wp2_with (first
        | (go_at_call 117; refine (HTR.out _).mono ?_; rintro e w' ⟨rfl, rfl⟩)
        | (go_at_call 118; refine (HDOT.out _).mono ?_; rintro e w' ⟨rfl, rfl⟩)
        | (go_at_call 112; ((with_reducible refine (HD1.out _).mono ?_); rintro e w' ⟨rfl, rfl⟩)))
      go_ret
      exact ⟨rfl, rfl⟩
    | minusd h g1 g2 s5 h5 c5 g0 d hd =>
      have e2 := full_toList s4 h
      have e3 := full_toList s5 g0
      have D3 := fun w => digits_at s5 d w (by unfold maxLen; omega) hd
      have HD3 := Lib.hid D3
      clear D3 hd
      go_enter Tryz.func65, Tryz.ntmps65
      go_wp2_with (first
        | (go_at_call 117; refine (HTR.out _).mono ?_; rintro e w' ⟨rfl, rfl⟩)
        | (go_at_call 118; refine (HDOT.out _).mono ?_; rintro e w' ⟨rfl, rfl⟩)
        | (go_at_call 112; ((with_reducible refine (HD1.out _).mono ?_); rintro e w' ⟨rfl, rfl⟩))
        | (go_at_call 112; ((with_reducible refine (HD3.out _).mono ?_); rintro e w' ⟨rfl, rfl⟩)))
      go_ret
      exact ⟨rfl, rfl⟩

set_option maxHeartbeats 16000000 in
theorem numeral_dot (s s1 s2 s2' s3 : ByteArray) (n k : Nat) (v : Bool) (w : World) (h40 : s.size ≤ 40) (hz1 : s1.size ≤ 40) (_hz2 : s2.size ≤ s1.size) (hz3 : s3.size ≤ s1.size)
    (TR : ∀ w, Calls Tryz.prog 117 #[.string s, .string { data := #[45] }] w fun e w' => e = .returned (.string s1) ∧ w = w')
    (D1 : ∀ w, Calls Tryz.prog 112 #[.string s1] w fun e w' => e = .returned (.int .i64 n) ∧ w = w')
    (c2 : ∀ w, (Instr.slice 9 (.string s1) (some (.int .i64 n)) none none).run Tryz.prog w = .ok (.string s2) w)
    (DOT : ∀ w, Calls Tryz.prog 118 #[.string s2, .string { data := #[46] }] w fun e w' => e = .returned (.bool true) ∧ w = w')
    (c2' : ∀ w, (Instr.slice 9 (.string s2) (some (.int .i64 1)) none none).run Tryz.prog w = .ok (.string s2') w)
    (D2 : ∀ w, Calls Tryz.prog 112 #[.string s2'] w fun e w' => e = .returned (.int .i64 k) ∧ w = w')
    (hk0 : ((k : Int) == 0) = false)
    (c3 : ∀ w, (Instr.slice 9 (.string s2) (some (.int .i64 (1 + (k : Int)))) none none).run Tryz.prog w = .ok (.string s3) w)
    (_hns : n ≤ s1.size) (hks : n + k ≤ s1.size) (hv : Num2 s3 (n + k) v) :
    Calls Tryz.prog 65 #[.string s] w fun e w' => e = .returned (.bool v) ∧ w = w' := by
  have HTR := Lib.hid TR
  have HD1 := Lib.hid D1
  have HD2 := Lib.hid D2
  have HDOT := Lib.hid DOT
  clear TR D1 DOT D2
  cases hv with
  | zero h =>
    have h' : (((n : Int) + (k : Int)) == 0) = true := by simp; omega
    clear h
    go_enter Tryz.func65, Tryz.ntmps65
    go_wp2_with (first
      | (go_at_call 117; refine (HTR.out _).mono ?_; rintro e w' ⟨rfl, rfl⟩)
      | (go_at_call 118; refine (HDOT.out _).mono ?_; rintro e w' ⟨rfl, rfl⟩)
      | (go_at_call 112; ((with_reducible refine (HD1.out _).mono ?_); rintro e w' ⟨rfl, rfl⟩))
      | (go_at_call 112; ((with_reducible refine (HD2.out _).mono ?_); rintro e w' ⟨rfl, rfl⟩)))
    go_ret
    exact ⟨rfl, rfl⟩
  | done h h1 =>
    have h' : (((n : Int) + (k : Int)) == 0) = false := by simp; omega
    have e1 := empty_toList s3 h1
    clear h h1
    go_enter Tryz.func65, Tryz.ntmps65
    go_wp2_with (first
      | (go_at_call 117; refine (HTR.out _).mono ?_; rintro e w' ⟨rfl, rfl⟩)
      | (go_at_call 118; refine (HDOT.out _).mono ?_; rintro e w' ⟨rfl, rfl⟩)
      | (go_at_call 112; ((with_reducible refine (HD1.out _).mono ?_); rintro e w' ⟨rfl, rfl⟩))
      | (go_at_call 112; ((with_reducible refine (HD2.out _).mono ?_); rintro e w' ⟨rfl, rfl⟩)))
    go_ret
    exact ⟨rfl, rfl⟩
  | other h h1 h2 h3 =>
    have h' : (((n : Int) + (k : Int)) == 0) = false := by simp; omega
    have e1 := full_toList s3 h1
    go_enter Tryz.func65, Tryz.ntmps65
    go_wp2_with (first
      | (go_at_call 117; refine (HTR.out _).mono ?_; rintro e w' ⟨rfl, rfl⟩)
      | (go_at_call 118; refine (HDOT.out _).mono ?_; rintro e w' ⟨rfl, rfl⟩)
      | (go_at_call 112; ((with_reducible refine (HD1.out _).mono ?_); rintro e w' ⟨rfl, rfl⟩))
      | (go_at_call 112; ((with_reducible refine (HD2.out _).mono ?_); rintro e w' ⟨rfl, rfl⟩)))
    go_ret
    exact ⟨rfl, rfl⟩
  | small h h1 h2 s4 z4 c4 v hv =>
    have h' : (((n : Int) + (k : Int)) == 0) = false := by simp; omega
    have e1 := full_toList s3 h1
    cases hv with
    | none h =>
      have e2 := empty_toList s4 h
      go_enter Tryz.func65, Tryz.ntmps65
      go_wp2_with (first
        | (go_at_call 117; refine (HTR.out _).mono ?_; rintro e w' ⟨rfl, rfl⟩)
        | (go_at_call 118; refine (HDOT.out _).mono ?_; rintro e w' ⟨rfl, rfl⟩)
        | (go_at_call 112; ((with_reducible refine (HD1.out _).mono ?_); rintro e w' ⟨rfl, rfl⟩))
        | (go_at_call 112; ((with_reducible refine (HD2.out _).mono ?_); rintro e w' ⟨rfl, rfl⟩)))
      go_ret
      exact ⟨rfl, rfl⟩
    | bare h g1 g2 d hd =>
      have e2 := full_toList s4 h
      have D3 := fun w => digits_at s4 d w (by unfold maxLen; omega) hd
      have HD3 := Lib.hid D3
      clear D3 hd
      go_enter Tryz.func65, Tryz.ntmps65
      go_wp2_with (first
        | (go_at_call 117; refine (HTR.out _).mono ?_; rintro e w' ⟨rfl, rfl⟩)
        | (go_at_call 118; refine (HDOT.out _).mono ?_; rintro e w' ⟨rfl, rfl⟩)
        | (go_at_call 112; ((with_reducible refine (HD1.out _).mono ?_); rintro e w' ⟨rfl, rfl⟩))
        | (go_at_call 112; ((with_reducible refine (HD2.out _).mono ?_); rintro e w' ⟨rfl, rfl⟩))
        | (go_at_call 112; ((with_reducible refine (HD3.out _).mono ?_); rintro e w' ⟨rfl, rfl⟩)))
      go_ret
      exact ⟨rfl, rfl⟩
    | plus h g1 s5 h5 c5 g0 =>
      have e2 := full_toList s4 h
      have e3 := empty_toList s5 g0
      go_enter Tryz.func65, Tryz.ntmps65
      go_wp2_with (first
        | (go_at_call 117; refine (HTR.out _).mono ?_; rintro e w' ⟨rfl, rfl⟩)
        | (go_at_call 118; refine (HDOT.out _).mono ?_; rintro e w' ⟨rfl, rfl⟩)
        | (go_at_call 112; ((with_reducible refine (HD1.out _).mono ?_); rintro e w' ⟨rfl, rfl⟩))
        | (go_at_call 112; ((with_reducible refine (HD2.out _).mono ?_); rintro e w' ⟨rfl, rfl⟩)))
      go_ret
      exact ⟨rfl, rfl⟩
    | plusd h g1 s5 h5 c5 g0 d hd =>
      have e2 := full_toList s4 h
      have e3 := full_toList s5 g0
      have D3 := fun w => digits_at s5 d w (by unfold maxLen; omega) hd
      have HD3 := Lib.hid D3
      clear D3 hd
      go_enter Tryz.func65, Tryz.ntmps65
      go_wp2_with (first
        | (go_at_call 117; refine (HTR.out _).mono ?_; rintro e w' ⟨rfl, rfl⟩)
        | (go_at_call 118; refine (HDOT.out _).mono ?_; rintro e w' ⟨rfl, rfl⟩)
        | (go_at_call 112; ((with_reducible refine (HD1.out _).mono ?_); rintro e w' ⟨rfl, rfl⟩))
        | (go_at_call 112; ((with_reducible refine (HD2.out _).mono ?_); rintro e w' ⟨rfl, rfl⟩))
        | (go_at_call 112; ((with_reducible refine (HD3.out _).mono ?_); rintro e w' ⟨rfl, rfl⟩)))
      go_ret
      exact ⟨rfl, rfl⟩
    | minus h g1 g2 s5 h5 c5 g0 =>
      have e2 := full_toList s4 h
      have e3 := empty_toList s5 g0
      go_enter Tryz.func65, Tryz.ntmps65
      go_wp2_with (first
        | (go_at_call 117; refine (HTR.out _).mono ?_; rintro e w' ⟨rfl, rfl⟩)
        | (go_at_call 118; refine (HDOT.out _).mono ?_; rintro e w' ⟨rfl, rfl⟩)
        | (go_at_call 112; ((with_reducible refine (HD1.out _).mono ?_); rintro e w' ⟨rfl, rfl⟩))
        | (go_at_call 112; ((with_reducible refine (HD2.out _).mono ?_); rintro e w' ⟨rfl, rfl⟩)))
      go_ret
      exact ⟨rfl, rfl⟩
    | minusd h g1 g2 s5 h5 c5 g0 d hd =>
      have e2 := full_toList s4 h
      have e3 := full_toList s5 g0
      have D3 := fun w => digits_at s5 d w (by unfold maxLen; omega) hd
      have HD3 := Lib.hid D3
      clear D3 hd
      go_enter Tryz.func65, Tryz.ntmps65
      go_wp2_with (first
        | (go_at_call 117; refine (HTR.out _).mono ?_; rintro e w' ⟨rfl, rfl⟩)
        | (go_at_call 118; refine (HDOT.out _).mono ?_; rintro e w' ⟨rfl, rfl⟩)
        | (go_at_call 112; ((with_reducible refine (HD1.out _).mono ?_); rintro e w' ⟨rfl, rfl⟩))
        | (go_at_call 112; ((with_reducible refine (HD2.out _).mono ?_); rintro e w' ⟨rfl, rfl⟩))
        | (go_at_call 112; ((with_reducible refine (HD3.out _).mono ?_); rintro e w' ⟨rfl, rfl⟩)))
      go_ret
      exact ⟨rfl, rfl⟩
  | large h h1 h2 h3 s4 z4 c4 v hv =>
    have h' : (((n : Int) + (k : Int)) == 0) = false := by simp; omega
    have e1 := full_toList s3 h1
    cases hv with
    | none h =>
      have e2 := empty_toList s4 h
      go_enter Tryz.func65, Tryz.ntmps65
      go_wp2_with (first
        | (go_at_call 117; refine (HTR.out _).mono ?_; rintro e w' ⟨rfl, rfl⟩)
        | (go_at_call 118; refine (HDOT.out _).mono ?_; rintro e w' ⟨rfl, rfl⟩)
        | (go_at_call 112; ((with_reducible refine (HD1.out _).mono ?_); rintro e w' ⟨rfl, rfl⟩))
        | (go_at_call 112; ((with_reducible refine (HD2.out _).mono ?_); rintro e w' ⟨rfl, rfl⟩)))
      go_ret
      exact ⟨rfl, rfl⟩
    | bare h g1 g2 d hd =>
      have e2 := full_toList s4 h
      have D3 := fun w => digits_at s4 d w (by unfold maxLen; omega) hd
      have HD3 := Lib.hid D3
      clear D3 hd
      go_enter Tryz.func65, Tryz.ntmps65
      go_wp2_with (first
        | (go_at_call 117; refine (HTR.out _).mono ?_; rintro e w' ⟨rfl, rfl⟩)
        | (go_at_call 118; refine (HDOT.out _).mono ?_; rintro e w' ⟨rfl, rfl⟩)
        | (go_at_call 112; ((with_reducible refine (HD1.out _).mono ?_); rintro e w' ⟨rfl, rfl⟩))
        | (go_at_call 112; ((with_reducible refine (HD2.out _).mono ?_); rintro e w' ⟨rfl, rfl⟩))
        | (go_at_call 112; ((with_reducible refine (HD3.out _).mono ?_); rintro e w' ⟨rfl, rfl⟩)))
      go_ret
      exact ⟨rfl, rfl⟩
    | plus h g1 s5 h5 c5 g0 =>
      have e2 := full_toList s4 h
      have e3 := empty_toList s5 g0
      go_enter Tryz.func65, Tryz.ntmps65
      go_wp2_with (first
        | (go_at_call 117; refine (HTR.out _).mono ?_; rintro e w' ⟨rfl, rfl⟩)
        | (go_at_call 118; refine (HDOT.out _).mono ?_; rintro e w' ⟨rfl, rfl⟩)
        | (go_at_call 112; ((with_reducible refine (HD1.out _).mono ?_); rintro e w' ⟨rfl, rfl⟩))
        | (go_at_call 112; ((with_reducible refine (HD2.out _).mono ?_); rintro e w' ⟨rfl, rfl⟩)))
      go_ret
      exact ⟨rfl, rfl⟩
    | plusd h g1 s5 h5 c5 g0 d hd =>
      have e2 := full_toList s4 h
      have e3 := full_toList s5 g0
      have D3 := fun w => digits_at s5 d w (by unfold maxLen; omega) hd
      have HD3 := Lib.hid D3
      clear D3 hd
      go_enter Tryz.func65, Tryz.ntmps65
      go_wp2_with (first
        | (go_at_call 117; refine (HTR.out _).mono ?_; rintro e w' ⟨rfl, rfl⟩)
        | (go_at_call 118; refine (HDOT.out _).mono ?_; rintro e w' ⟨rfl, rfl⟩)
        | (go_at_call 112; ((with_reducible refine (HD1.out _).mono ?_); rintro e w' ⟨rfl, rfl⟩))
        | (go_at_call 112; ((with_reducible refine (HD2.out _).mono ?_); rintro e w' ⟨rfl, rfl⟩))
        | (go_at_call 112; ((with_reducible refine (HD3.out _).mono ?_); rintro e w' ⟨rfl, rfl⟩)))
      go_ret
      exact ⟨rfl, rfl⟩
    | minus h g1 g2 s5 h5 c5 g0 =>
      have e2 := full_toList s4 h
      have e3 := empty_toList s5 g0
      go_enter Tryz.func65, Tryz.ntmps65
      go_wp2_with (first
        | (go_at_call 117; refine (HTR.out _).mono ?_; rintro e w' ⟨rfl, rfl⟩)
        | (go_at_call 118; refine (HDOT.out _).mono ?_; rintro e w' ⟨rfl, rfl⟩)
        | (go_at_call 112; ((with_reducible refine (HD1.out _).mono ?_); rintro e w' ⟨rfl, rfl⟩))
        | (go_at_call 112; ((with_reducible refine (HD2.out _).mono ?_); rintro e w' ⟨rfl, rfl⟩)))
      go_ret
      exact ⟨rfl, rfl⟩
    | minusd h g1 g2 s5 h5 c5 g0 d hd =>
      have e2 := full_toList s4 h
      have e3 := full_toList s5 g0
      have D3 := fun w => digits_at s5 d w (by unfold maxLen; omega) hd
      have HD3 := Lib.hid D3
      clear D3 hd
      go_enter Tryz.func65, Tryz.ntmps65
      go_wp2_with (first
        | (go_at_call 117; refine (HTR.out _).mono ?_; rintro e w' ⟨rfl, rfl⟩)
        | (go_at_call 118; refine (HDOT.out _).mono ?_; rintro e w' ⟨rfl, rfl⟩)
        | (go_at_call 112; ((with_reducible refine (HD1.out _).mono ?_); rintro e w' ⟨rfl, rfl⟩))
        | (go_at_call 112; ((with_reducible refine (HD2.out _).mono ?_); rintro e w' ⟨rfl, rfl⟩))
        | (go_at_call 112; ((with_reducible refine (HD3.out _).mono ?_); rintro e w' ⟨rfl, rfl⟩)))
      go_ret
      exact ⟨rfl, rfl⟩

set_option maxHeartbeats 1000000 in
theorem numeral_nodig (s s1 s2 s2' : ByteArray) (n : Nat) (w : World) (h40 : s.size ≤ 40) (_hz1 : s1.size ≤ 40)
    (TR : ∀ w, Calls Tryz.prog 117 #[.string s, .string { data := #[45] }] w fun e w' => e = .returned (.string s1) ∧ w = w')
    (D1 : ∀ w, Calls Tryz.prog 112 #[.string s1] w fun e w' => e = .returned (.int .i64 n) ∧ w = w')
    (c2 : ∀ w, (Instr.slice 9 (.string s1) (some (.int .i64 n)) none none).run Tryz.prog w = .ok (.string s2) w)
    (DOT : ∀ w, Calls Tryz.prog 118 #[.string s2, .string { data := #[46] }] w fun e w' => e = .returned (.bool true) ∧ w = w')
    (c2' : ∀ w, (Instr.slice 9 (.string s2) (some (.int .i64 1)) none none).run Tryz.prog w = .ok (.string s2') w)
    (D2 : ∀ w, Calls Tryz.prog 112 #[.string s2'] w fun e w' => e = .returned (.int .i64 (0 : Nat)) ∧ w = w') :
    Calls Tryz.prog 65 #[.string s] w fun e w' => e = .returned (.bool false) ∧ w = w' := by
  have HTR := Lib.hid TR
  have HD1 := Lib.hid D1
  have HD2 := Lib.hid D2
  have HDOT := Lib.hid DOT
  clear TR D1 DOT D2

  go_enter Tryz.func65, Tryz.ntmps65
  go_wp2_with (first
    | (go_at_call 117; refine (HTR.out _).mono ?_; rintro e w' ⟨rfl, rfl⟩)
    | (go_at_call 118; refine (HDOT.out _).mono ?_; rintro e w' ⟨rfl, rfl⟩)
    | (go_at_call 112; ((with_reducible refine (HD1.out _).mono ?_); rintro e w' ⟨rfl, rfl⟩))
    | (go_at_call 112; ((with_reducible refine (HD2.out _).mono ?_); rintro e w' ⟨rfl, rfl⟩)))
  go_ret
  exact ⟨rfl, rfl⟩

theorem numeral_any (s : ByteArray) (w : World) (hs : s.size ≤ maxLen) :
    Calls Tryz.prog 65 #[.string s] w fun e w' => e = .returned (.bool (numB s.data.toList)) ∧ w = w' := by
  by_cases h40 : 40 < s.size
  · exact numeral_long s w hs h40
  · obtain ⟨s1, hs1⟩ : ∃ s1 : ByteArray, s1.data.toList = if s.data.toList.head? = some 45 then s.data.toList.drop 1 else s.data.toList := ⟨⟨(if s.data.toList.head? = some 45 then s.data.toList.drop 1 else s.data.toList).toArray⟩, rfl⟩
    have hz1 : s1.size ≤ 40 := by
      rw [size_list, hs1]; rw [size_list] at h40
      split
      · rw [List.length_drop]; omega
      · omega
    have hv : numB s.data.toList = num1 s1.data.toList := by
      unfold numB
      rw [if_neg (by rw [← size_list]; omega), hs1]
    rw [hv]
    have TR := fun w => trim_at s s1 w hs1
    obtain ⟨n, hn⟩ : ∃ n, n = digs s1.data.toList := ⟨_, rfl⟩
    have hns : n ≤ s1.size := by rw [hn, size_list]; exact digs_le _
    have D1 := fun w => digits_at s1 n w (by unfold maxLen; omega) hn.symm
    obtain ⟨s2, h2, hz2, c2⟩ := cut_from s1 n hns
    by_cases hd : s2.data.toList.head? = some 46
    · obtain ⟨l2, _⟩ := head_size s2 46 hd
      have DOT := fun w => dot_at s2 true w (by simp [hd])
      obtain ⟨s2', h2', hz2', c2'⟩ := cut_from s2 1 l2
      obtain ⟨k, hk⟩ : ∃ k, k = digs s2'.data.toList := ⟨_, rfl⟩
      have hks : k ≤ s2'.size := by rw [hk, size_list]; exact digs_le _
      have D2 := fun w => digits_at s2' k w (by unfold maxLen; omega) hk.symm
      obtain ⟨s3, h3, hz3, c3⟩ := cut_from s2 (1 + k) (by omega)
      have hv : num1 s1.data.toList = if k = 0 then false else num2 (n + k) s3.data.toList := by
        unfold num1
        rw [← hn, ← h2, if_pos hd, ← h2', ← hk, ← h3]
      rw [hv]
      by_cases hk0 : k = 0
      · rw [if_pos hk0]
        rw [hk0] at D2
        exact numeral_nodig s s1 s2 s2' n w (by omega) hz1 TR D1 c2 DOT c2' D2
      · rw [if_neg hk0]
        have e : ((1 + k : Nat) : Int) = 1 + (k : Int) := by omega
        rw [e] at c3
        exact numeral_dot s s1 s2 s2' s3 n k _ w (by omega) hz1 (by omega) (by omega) TR D1 c2 DOT c2' D2 (by simp; omega) c3 hns (by omega) (num2_intro s3 (n + k) (by omega) (by omega))
    · have DOT := fun w => dot_at s2 false w (by simp [hd])
      have hv : num1 s1.data.toList = num2 n s2.data.toList := by
        unfold num1
        rw [← hn, ← h2, if_neg hd]
      rw [hv]
      exact numeral_bare s s1 s2 n _ w (by omega) hz1 (by omega) TR D1 c2 DOT hns (num2_intro s2 n (by omega) (by omega))
end Go.Proofs.YtcfgbdhpcboikaaGreatDoor
