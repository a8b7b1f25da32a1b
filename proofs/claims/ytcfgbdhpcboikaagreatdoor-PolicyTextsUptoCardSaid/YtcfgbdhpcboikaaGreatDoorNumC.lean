/-
  real.numeral: the walk.
-/
import Derived.Test.YtcfgbdhpcboikaaGreatDoorNumB
namespace Go.Proofs.YtcfgbdhpcboikaaGreatDoor
open Go.RowKit

theorem head_size (s : ByteArray) (c : UInt8) (h : s.data.toList.head? = some c) : ∃ h : 0 < s.size, s[0] = c := by
  have h0 : 0 < s.size := by
    rw [size_list]
    cases hl : s.data.toList with
    | nil => rw [hl] at h; simp at h
    | cons a l => simp
  refine ⟨h0, ?_⟩
  rw [head_byte s h0] at h
  exact Option.some.inj h

/-- The text behind the e. -/
inductive Num3 (s4 : ByteArray) : Bool → Prop
  | none (h : s4.size = 0) : Num3 s4 false
  | bare (h : 0 < s4.size) (h1 : ((s4[0].toNat : Int) == 43) = false) (h2 : ((s4[0].toNat : Int) == 45) = false) (d : Nat) (hd : digs s4.data.toList = d) : Num3 s4 (decide ((d : Int) = s4.size))
  | plus (h : 0 < s4.size) (h1 : ((s4[0].toNat : Int) == 43) = true) (s5 : ByteArray) (h5 : s5.size ≤ s4.size) (c5 : ∀ w, (Instr.slice 9 (.string s4) (some (.int .i64 1)) none none).run Tryz.prog w = .ok (.string s5) w)
      (h0 : s5.size = 0) : Num3 s4 false
  | plusd (h : 0 < s4.size) (h1 : ((s4[0].toNat : Int) == 43) = true) (s5 : ByteArray) (h5 : s5.size ≤ s4.size) (c5 : ∀ w, (Instr.slice 9 (.string s4) (some (.int .i64 1)) none none).run Tryz.prog w = .ok (.string s5) w)
      (h0 : 0 < s5.size) (d : Nat) (hd : digs s5.data.toList = d) : Num3 s4 (decide ((d : Int) = s5.size))
  | minus (h : 0 < s4.size) (h1 : ((s4[0].toNat : Int) == 43) = false) (h2 : ((s4[0].toNat : Int) == 45) = true) (s5 : ByteArray) (h5 : s5.size ≤ s4.size) (c5 : ∀ w, (Instr.slice 9 (.string s4) (some (.int .i64 1)) none none).run Tryz.prog w = .ok (.string s5) w)
      (h0 : s5.size = 0) : Num3 s4 false
  | minusd (h : 0 < s4.size) (h1 : ((s4[0].toNat : Int) == 43) = false) (h2 : ((s4[0].toNat : Int) == 45) = true) (s5 : ByteArray) (h5 : s5.size ≤ s4.size) (c5 : ∀ w, (Instr.slice 9 (.string s4) (some (.int .i64 1)) none none).run Tryz.prog w = .ok (.string s5) w)
      (h0 : 0 < s5.size) (d : Nat) (hd : digs s5.data.toList = d) : Num3 s4 (decide ((d : Int) = s5.size))

theorem num3_intro (s4 : ByteArray) : Num3 s4 (num3 s4.data.toList) := by
  by_cases h : s4.size = 0
  · have : num3 s4.data.toList = false := by rw [empty_list s4 h]; rfl
    rw [this]
    exact .none h
  · have h0 : 0 < s4.size := by omega
    have hh := head_byte s4 h0
    by_cases h1 : s4[0].toNat = 43 ∨ s4[0].toNat = 45
    · obtain ⟨s5, e5, z5, c5⟩ := cut_from s4 1 h0
      have hs : s4[0] = 43 ∨ s4[0] = 45 := by
        rcases h1 with h1 | h1
        · exact .inl (UInt8.toNat_inj.1 h1)
        · exact .inr (UInt8.toNat_inj.1 h1)
      have hv : num3 s4.data.toList = (!s5.data.toList.isEmpty && digs s5.data.toList == s5.data.toList.length) := by
        unfold num3
        simp only [hh, Option.some.injEq]
        rw [if_pos hs, e5]
      rw [hv]
      by_cases h5 : s5.size = 0
      · rw [empty_list s5 h5]
        rcases h1 with h1 | h1
        · exact .plus h0 (by simp [h1]) s5 (by omega) c5 h5
        · exact .minus h0 (by simp [h1]) (by simp [h1]) s5 (by omega) c5 h5
      · have hne : s5.data.toList.isEmpty = false := by rw [← Lib.toList_data]; exact full_toList s5 (by omega)
        have hb : (!s5.data.toList.isEmpty && digs s5.data.toList == s5.data.toList.length) = decide (((digs s5.data.toList : Nat) : Int) = s5.size) := by
          rw [hne, size_list, Bool.eq_iff_iff]
          simp
          omega
        rw [hb]
        rcases h1 with h1 | h1
        · exact .plusd h0 (by simp [h1]) s5 (by omega) c5 (by omega) _ rfl
        · exact .minusd h0 (by simp [h1]) (by simp [h1]) s5 (by omega) c5 (by omega) _ rfl
    · have h1' := not_or.1 h1
      have hs : ¬ (s4[0] = 43 ∨ s4[0] = 45) := by
        rintro (e | e) <;> rw [e] at h1' <;> simp at h1'
      have hv : num3 s4.data.toList = (!s4.data.toList.isEmpty && digs s4.data.toList == s4.data.toList.length) := by
        unfold num3
        simp only [hh, Option.some.injEq]
        rw [if_neg hs]
      have hne : s4.data.toList.isEmpty = false := by rw [← Lib.toList_data]; exact full_toList s4 h0
      have hb : (!s4.data.toList.isEmpty && digs s4.data.toList == s4.data.toList.length) = decide (((digs s4.data.toList : Nat) : Int) = s4.size) := by
        rw [hne, size_list, Bool.eq_iff_iff]
        simp
        omega
      rw [hv, hb]
      exact .bare h0 (by simp; omega) (by simp; omega) _ rfl

/-- The text behind the digits. -/
inductive Num2 (s3 : ByteArray) (m : Nat) : Bool → Prop
  | zero (h : m = 0) : Num2 s3 m false
  | done (h : 0 < m) (h1 : s3.size = 0) : Num2 s3 m true
  | other (h : 0 < m) (h1 : 0 < s3.size) (h2 : ((s3[0].toNat : Int) != 101) = true) (h3 : ((s3[0].toNat : Int) != 69) = true) : Num2 s3 m false
  | small (h : 0 < m) (h1 : 0 < s3.size) (h2 : ((s3[0].toNat : Int) != 101) = false) (s4 : ByteArray) (z4 : s4.size ≤ s3.size) (c4 : ∀ w, (Instr.slice 9 (.string s3) (some (.int .i64 1)) none none).run Tryz.prog w = .ok (.string s4) w) (v : Bool) (hv : Num3 s4 v) : Num2 s3 m v
  | large (h : 0 < m) (h1 : 0 < s3.size) (h2 : ((s3[0].toNat : Int) != 101) = true) (h3 : ((s3[0].toNat : Int) != 69) = false) (s4 : ByteArray) (z4 : s4.size ≤ s3.size) (c4 : ∀ w, (Instr.slice 9 (.string s3) (some (.int .i64 1)) none none).run Tryz.prog w = .ok (.string s4) w) (v : Bool) (hv : Num3 s4 v) : Num2 s3 m v

theorem num2_intro (s3 : ByteArray) (m : Nat) (hs3 : s3.size ≤ 40) (hm : m ≤ 40) : Num2 s3 m (num2 m s3.data.toList) := by
  rcases num_tail s3 m hs3 hm with ⟨h, hv⟩ | ⟨h, h1, hv⟩ | ⟨h, h1, c, hc, h2, h3, hv⟩ | ⟨h, h1, c, hc, h2, hv⟩
  · rw [hv]; exact .zero h
  · rw [hv]; exact .done h h1
  · rw [hv]
    obtain ⟨_, rfl⟩ := head_size s3 c hc
    exact .other h h1 (by have := fun e => h2 (UInt8.toNat_inj.1 e); simp at this ⊢; omega) (by have := fun e => h3 (UInt8.toNat_inj.1 e); simp at this ⊢; omega)
  · rw [hv]
    obtain ⟨_, rfl⟩ := head_size s3 c hc
    obtain ⟨s4, e4, z4, c4⟩ := cut_from s3 1 h1
    rw [← e4]
    rcases h2 with h2 | h2
    · exact .small h h1 (by rw [h2]; rfl) s4 (by omega) c4 _ (num3_intro s4)
    · exact .large h h1 (by rw [h2]; rfl) (by rw [h2]; rfl) s4 (by omega) c4 _ (num3_intro s4)
end Go.Proofs.YtcfgbdhpcboikaaGreatDoor
