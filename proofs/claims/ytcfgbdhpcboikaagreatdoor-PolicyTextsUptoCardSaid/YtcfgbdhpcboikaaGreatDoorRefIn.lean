/-
  The document's 'in' (a word of a list's, with blanks between): what it answers.
-/
import Derived.Test.YtcfgbdhpcboikaaGreatDoorKindW
import Derived.Lib.Hide
namespace Go.Proofs.YtcfgbdhpcboikaaGreatDoor
open Go.RowKit

theorem words_end (cur : List UInt8) : wordsGo cur [] = if cur.isEmpty then [] else [cur] := by unfold wordsGo; rfl
theorem words_blank (cur l : List UInt8) : wordsGo cur (32 :: l) = if cur.isEmpty then wordsGo [] l else cur :: wordsGo [] l := by
  conv => lhs; unfold wordsGo
  rw [if_pos rfl]
theorem words_char (cur l : List UInt8) (c : UInt8) (h : ¬ c = 32) : wordsGo cur (c :: l) = wordsGo (cur ++ [c]) l := by
  conv => lhs; unfold wordsGo
  rw [if_neg h]
/-- The piece from f to k. -/
def pieceB (l : List UInt8) (f k : Nat) : List UInt8 := (l.take k).drop f
theorem piece_none (l : List UInt8) (k : Nat) : pieceB l k k = [] := by
  unfold pieceB
  apply List.drop_eq_nil_of_le
  rw [List.length_take]; omega
theorem piece_more (l : List UInt8) (f k : Nat) (h : k < l.length) (hf : f ≤ k) : pieceB l f (k + 1) = pieceB l f k ++ [l[k]] := by
  unfold pieceB
  rw [List.take_succ_eq_append_getElem h, List.drop_append_of_le_length (by rw [List.length_take]; omega)]
theorem piece_empty (l : List UInt8) (f k : Nat) (h : k ≤ l.length) (hf : f < k) : (pieceB l f k).isEmpty = false := by
  unfold pieceB
  rw [List.isEmpty_eq_false_iff]
  intro e
  have := congrArg List.length e
  rw [List.length_drop, List.length_take] at this
  simp at this
  omega
/-- What is to come at place k, the piece begun at f. -/
def toCome (w l : List UInt8) (f k : Nat) : Bool := (wordsGo (pieceB l f k) (l.drop k)).contains w
theorem come_start (w l : List UInt8) : toCome w l 0 0 = inB w l := by
  unfold toCome inB words
  rw [piece_none]
  rfl
theorem come_char (w l : List UInt8) (f k : Nat) (h : k < l.length) (hf : f ≤ k) (hc : ¬ l[k] = 32) : toCome w l f (k + 1) = toCome w l f k := by
  unfold toCome
  rw [List.drop_eq_getElem_cons h, words_char _ _ _ hc, piece_more l f k h hf]
theorem come_blank (w l : List UInt8) (f k : Nat) (h : k < l.length) (hf : f < k) (hc : l[k] = 32) (hw : ¬ pieceB l f k = w) : toCome w l (k + 1) (k + 1) = toCome w l f k := by
  unfold toCome
  rw [List.drop_eq_getElem_cons h, hc, words_blank, piece_none, piece_empty l f k (by omega) hf]
  simp only [Bool.false_eq_true, if_false, List.contains_cons]
  have : (w == pieceB l f k) = false := by rw [beq_eq_false_iff_ne]; exact fun e => hw e.symm
  rw [this, Bool.false_or]
theorem come_bare (w l : List UInt8) (k : Nat) (h : k < l.length) (hc : l[k] = 32) : toCome w l (k + 1) (k + 1) = toCome w l k k := by
  unfold toCome
  rw [List.drop_eq_getElem_cons h, hc, words_blank, piece_none, piece_none]
  rfl
theorem come_hit (w l : List UInt8) (f k : Nat) (h : k ≤ l.length) (hf : f < k) (hc : k = l.length ∨ ∃ h : k < l.length, l[k] = 32) (hw : pieceB l f k = w) : toCome w l f k = true := by
  unfold toCome
  rcases hc with rfl | ⟨h, hc⟩
  · rw [List.drop_eq_nil_of_le (Nat.le_refl _), words_end, piece_empty l f _ h hf, hw]
    simp
  · rw [List.drop_eq_getElem_cons h, hc, words_blank, piece_empty l f k (by omega) hf, hw]
    simp
theorem come_end (w l : List UInt8) (f : Nat) (hf : f ≤ l.length) (hw : f < l.length → ¬ pieceB l f l.length = w) : toCome w l f l.length = false := by
  unfold toCome
  rw [List.drop_eq_nil_of_le (Nat.le_refl _), words_end]
  rcases Nat.lt_or_ge f l.length with h | h
  · rw [piece_empty l f _ (Nat.le_refl _) h]
    have := hw h
    simp only [Bool.false_eq_true, if_false, List.contains_cons, List.contains_nil, Bool.or_false]
    rw [beq_eq_false_iff_ne]
    exact fun e => this e.symm
  · obtain rfl : f = l.length := by omega
    rw [piece_none]; rfl
theorem extract_piece (l : ByteArray) (f k : Nat) : (l.extract f k).toList = pieceB l.data.toList f k := by
  rw [toList_data]
  unfold pieceB
  simp [List.drop_take]

def InRel (s l : ByteArray) (f k : Nat) (b : Bool) : Prop :=
  f ≤ k ∧ (k ≤ l.size ∧ toCome s.data.toList l.data.toList f k = b ∨ k = l.size + 1 ∧ b = false)

set_option maxRecDepth 100000 in
set_option maxHeartbeats 2000000 in
theorem in_any (s l : ByteArray) (b : Bool) (hb : Hid (inB s.data.toList l.data.toList = b)) (ml : l.size ≤ 1000000000) (w : World) :
    Calls Tryz.prog 69 #[.string s, .string l] w fun e w' => e = .returned (.bool b) ∧ w = w' := by
  go_enter Tryz.func69, Tryz.ntmps69
  go_wp2
  go_loop [4, 5, 6] (fun r fr i => r = .bool false ∧ ∃ f k : Nat, fr = .int .i64 f ∧ i = .int .i64 k ∧ Hid (InRel s l f k b)) (fun _ _ i => l.size + 1 - (intOf i).toNat)
  case atStart => exact ⟨rfl, 0, 0, rfl, rfl, ⟨Nat.le_refl _, .inl ⟨Nat.zero_le _, by rw [come_start]; exact hb.out⟩⟩⟩
  case round =>
    obtain ⟨rfl, f, k, rfl, rfl, hR⟩ := hrel
    rcases Nat.lt_or_ge l.size k with hk | hk
    · have hfalse : b = false := by
        rcases hR.out.2 with ⟨h1, _⟩ | ⟨_, h⟩
        · omega
        · exact h
      have HF := Lib.hid hfalse
      clear hfalse
      go_wp2
      go_ret
      refine ⟨?_, rfl⟩
      rw [HF.out]
      rfl
    · have hfk : f ≤ k := hR.out.1
      have hto : toCome s.data.toList l.data.toList f k = b := by
        rcases hR.out.2 with ⟨_, h⟩ | ⟨h, _⟩
        · exact h
        · omega
      have hlen : l.data.toList.length = l.size := rfl
      have HT := Lib.hid hto
      have HL := Lib.hid hlen
      clear hto hlen
      rcases Nat.lt_or_ge k l.size with hlt | hge
      · by_cases hc : l[k] = 32
        · have hb32 : ((l[k].toNat : Int) == 32) = true := by rw [hc]; rfl
          have HC := Lib.hid hc
          clear hc
          rcases Nat.lt_or_ge f k with hf | hf
          · by_cases hw : pieceB l.data.toList f k = s.data.toList
            · have hx : ((l.extract f k).toList == s.toList) = true := by rw [extract_piece, toList_data, hw]; simp
              have HW := Lib.hid hw
              clear hw
              go_wp2
              go_ret
              refine ⟨?_, rfl⟩
              rw [← HT.out, come_hit _ _ f k (Nat.le_of_lt (HL.out ▸ hlt)) hf (.inr ⟨HL.out ▸ hlt, HC.out⟩) HW.out]
              rfl
            · have hx : ((l.extract f k).toList == s.toList) = false := by rw [extract_piece, toList_data, beq_eq_false_iff_ne]; exact hw
              have HW := Lib.hid hw
              clear hw
              go_wp2
              go_round
              case rel => exact ⟨rfl, k + 1, k + 1, by go_num, by go_num, ⟨Nat.le_refl _, .inl ⟨hlt, (come_blank _ _ f k (HL.out ▸ hlt) hf HC.out HW.out).trans HT.out⟩⟩⟩
              case measure => simp [intOf]; omega
          · obtain rfl : f = k := by omega
            go_wp2
            go_round
            case rel => exact ⟨rfl, f + 1, f + 1, by go_num, by go_num, ⟨Nat.le_refl _, .inl ⟨hlt, (come_bare _ _ f (HL.out ▸ hlt) HC.out).trans HT.out⟩⟩⟩
            case measure => simp [intOf]; omega
        · have hb32 : ((l[k].toNat : Int) == 32) = false := by
            rw [beq_eq_false_iff_ne]
            intro e
            exact hc (UInt8.toNat_inj.1 (by simpa using (by omega : l[k].toNat = 32)))
          have hks : ((k : Int) == (l.size : Int)) = false := by
            rw [beq_eq_false_iff_ne]; omega
          have HC := Lib.hid hc
          clear hc
          go_wp2
          go_round
          case rel => exact ⟨rfl, f, k + 1, rfl, by go_num, ⟨by omega, .inl ⟨hlt, (come_char _ _ f k (HL.out ▸ hlt) hfk HC.out).trans HT.out⟩⟩⟩
          case measure => simp [intOf]; omega
      · obtain rfl : k = l.size := by omega
        rcases Nat.lt_or_ge f l.size with hf | hf
        · by_cases hw : pieceB l.data.toList f l.size = s.data.toList
          · have hx : ((l.extract f l.size).toList == s.toList) = true := by rw [extract_piece, toList_data, hw]; simp
            have HW := Lib.hid hw
            clear hw
            go_wp2
            go_ret
            refine ⟨?_, rfl⟩
            rw [← HT.out, come_hit _ _ f l.size (Nat.le_of_eq HL.out.symm) hf (.inl HL.out.symm) HW.out]
            rfl
          · have hx : ((l.extract f l.size).toList == s.toList) = false := by rw [extract_piece, toList_data, beq_eq_false_iff_ne]; exact hw
            have HB : Hid (b = false) := by
              show b = false
              rw [← HT.out]
              have := come_end s.data.toList l.data.toList f (by rw [HL.out]; exact hfk) (fun _ => by rw [HL.out]; exact hw)
              rwa [HL.out] at this
            clear hw
            go_wp2
            go_round
            case rel => exact ⟨rfl, l.size + 1, l.size + 1, by go_num, by go_num, ⟨Nat.le_refl _, .inr ⟨rfl, HB.out⟩⟩⟩
            case measure => simp [intOf]
        · obtain rfl : f = l.size := by omega
          have HB : Hid (b = false) := by
            show b = false
            rw [← HT.out]
            have := come_end s.data.toList l.data.toList l.size (by rw [HL.out]; exact hfk) (fun h => by rw [HL.out] at h; omega)
            rwa [HL.out] at this
          go_wp2
          go_round
          case rel => exact ⟨rfl, l.size + 1, l.size + 1, by go_num, by go_num, ⟨Nat.le_refl _, .inr ⟨rfl, HB.out⟩⟩⟩
          case measure => simp [intOf]
end Go.Proofs.YtcfgbdhpcboikaaGreatDoor
