/-
  policy.Link and small: what they answer.
-/
import Derived.Test.YtcfgbdhpcboikaaGreatDoorTextW
namespace Go.Proofs.YtcfgbdhpcboikaaGreatDoor
open Go.RowKit

theorem bytes_size (l : List UInt8) : (⟨l.toArray⟩ : ByteArray).size = l.length := rfl
theorem text_size (l : List UInt8) : (textL l).length ≤ 3 * l.length := Nat.le_trans (text_len l) (dec_len l.length l (Nat.le_refl _))
set_option maxRecDepth 100000 in
theorem link_any (s : ByteArray) (hs : s.size ≤ 1000000000) (w : World) (T : Tabs w) : Calls Tryz.prog 34 #[.string s] w fun e w' => e = .returned (.string ⟨(linkL s.data.toList).toArray⟩) ∧ Below w.heap.size w w' := by
  have HT := Lib.hid T
  clear T
  have htl := text_size s.data.toList
  have hsl : s.data.toList.length = s.size := rfl
  have h1 : (⟨(textL s.data.toList).toArray⟩ : ByteArray).size < 4294967281 := by rw [bytes_size]; omega
  have h2 : ((textL s.data.toList).filter (fun b => b != 9)).length ≤ (textL s.data.toList).length := List.length_filter_le ..
  have h3 : (((textL s.data.toList).filter (fun b => b != 9)).filter (fun b => b != 10)).length ≤ ((textL s.data.toList).filter (fun b => b != 9)).length := List.length_filter_le ..
  have H1 := Lib.hid h1
  have H2 := Lib.hid h2
  have H3 := Lib.hid h3
  have HL := Lib.hid htl
  have HSL := Lib.hid hsl
  clear h1 h2 h3 htl hsl
  go_enter Tryz.func34, Tryz.ntmps34
  go_wp2_with fail
  refine (text_any s hs w HT.out).mono ?_
  rintro e W1 ⟨rfl, B1⟩
  have HB1 := Lib.hid B1
  have HT1 := Lib.hid (HT.out.below HB1.out (Nat.le_refl _))
  clear B1
  go_wp2_with fail
  obtain ⟨m, hm⟩ := HT1.out.most
  refine (Tryz.strings_ReplaceAll ⟨(textL s.data.toList).toArray⟩ ⟨#[9]⟩ ⟨#[]⟩ m _ H1.out hm (by decide) ?_).mono ?_
  · have e : (⟨#[]⟩ : ByteArray).size = 0 := rfl
    rw [e, Nat.mul_zero]
    have := H1.out
    omega
  have e1 : Lib.replaceAll (⟨(textL s.data.toList).toArray⟩ : ByteArray).data.toList (⟨#[9]⟩ : ByteArray).data.toList (⟨#[]⟩ : ByteArray).data.toList = (textL s.data.toList).filter (fun b => b != 9) := replaceAll_one 9 _
  rw [e1]
  rintro e W2 ⟨rfl, B2⟩
  have HB2 := Lib.hid (HB1.out.trans (B2.mono HB1.out.size))
  have HT2 := Lib.hid (HT.out.below HB2.out (Nat.le_refl _))
  clear B2 e1 hm
  go_wp2_with fail
  obtain ⟨m2, hm2⟩ := HT2.out.most
  have h4 : (⟨((textL s.data.toList).filter (fun b => b != 9)).toArray⟩ : ByteArray).size < 4294967281 := by
    rw [bytes_size]
    have := H2.out; have := HL.out; have := HSL.out; omega
  refine (Tryz.strings_ReplaceAll ⟨((textL s.data.toList).filter (fun b => b != 9)).toArray⟩ ⟨#[10]⟩ ⟨#[]⟩ m2 _ h4 hm2 (by decide) ?_).mono ?_
  · have e : (⟨#[]⟩ : ByteArray).size = 0 := rfl
    rw [e, Nat.mul_zero]
    omega
  have e2 : Lib.replaceAll (⟨((textL s.data.toList).filter (fun b => b != 9)).toArray⟩ : ByteArray).data.toList (⟨#[10]⟩ : ByteArray).data.toList (⟨#[]⟩ : ByteArray).data.toList = bareL s.data.toList := replaceAll_one 10 _
  rw [e2]
  rintro e W3 ⟨rfl, B3⟩
  have HB3 := Lib.hid (HB2.out.trans (B3.mono HB2.out.size))
  clear B3 e2 hm2 h4
  go_wp2_with fail
  have h5 : (⟨(bareL s.data.toList).toArray⟩ : ByteArray).size ≤ 9223372036854775807 := by
    rw [bytes_size]
    have := H2.out; have := H3.out; have := HL.out; have := HSL.out
    unfold bareL
    omega
  refine (Tryz.strings_Trim_one ⟨(bareL s.data.toList).toArray⟩ 32 (by decide) _ h5).mono ?_
  clear h5
  rintro e W4 ⟨rfl, hW4⟩
  have HB4 : Hid (Below w.heap.size w W4) := by
    rcases hW4 with rfl | rfl
    · exact HB3.out
    · exact HB3.out.drew
  clear hW4
  go_wp2
  go_ret
  exact ⟨rfl, HB4.out⟩

/-- A row of bytes of the call's own, as a conversion leaves it. -/
def RowAt (w : World) (B : Nat) (L : List UInt8) : Prop :=
  ∃ cur : Array Value, w.heap[B]? = some (.cells cur 5 (cur.size, cur.size + 1)) ∧ L.length ≤ cur.size ∧ ∀ j (h : j < L.length), cur[j]? = some (.int .u8 (L[j].toNat : Nat))
theorem RowAt.bytes {w : World} {B : Nat} {L : List UInt8} (h : RowAt w B L) : BytesAt w B 0 L := by
  obtain ⟨cur, h1, h2, h3⟩ := h
  intro j hj
  rw [Nat.zero_add, cell_of_row w B j cur 5 _ h1]
  exact h3 j hj
theorem RowAt.free {w : World} {B : Nat} {L : List UInt8} (h : RowAt w B L) {j : Nat} (hj : j < L.length) : w.frozen? ⟨B, j, none⟩ = false := by
  obtain ⟨cur, h1, h2, h3⟩ := h
  simp only [World.frozen?, h1, Bool.and_eq_false_iff, decide_eq_false_iff_not]
  left
  omega
theorem RowAt.lt {w : World} {B : Nat} {L : List UInt8} (h : RowAt w B L) : B < w.heap.size := by
  obtain ⟨cur, h1, _⟩ := h
  exact (Array.getElem?_eq_some_iff.1 h1).1
theorem RowAt.set {w : World} {B : Nat} {L : List UInt8} (h : RowAt w B L) (j : Nat) (hj : j < L.length) (c : UInt8) (v : Value) (hv : v = .int .u8 (c.toNat : Nat)) : RowAt (w.setCell ⟨B, j, none⟩ v) B (L.set j c) := by
  obtain ⟨cur, h1, h2, h3⟩ := h
  subst hv
  rw [setCell_eq_setRow w B j cur 5 _ _ h1]
  refine ⟨cur.setIfInBounds j (.int .u8 (c.toNat : Nat)), ?_, by simpa using h2, ?_⟩
  · have := setRow_heap w B cur (cur.setIfInBounds j (.int .u8 (c.toNat : Nat))) 5 _ h1
    simpa using this
  · intro i hi
    have hi' : i < L.length := by simpa using hi
    by_cases e : j = i
    · subst e
      rw [Array.getElem?_setIfInBounds_self_of_lt (by omega)]
      simp
    · rw [Array.getElem?_setIfInBounds_ne e, h3 i hi']
      simp [e]
theorem conv_row (s : ByteArray) (w : World) : ∃ cap W, (convert 9 35 (.string s)).run Tryz.prog w = .ok (.slice (some ⟨w.heap.size, 0, none⟩) s.size cap) W ∧ Below w.heap.size w W ∧ RowAt W w.heap.size s.data.toList ∧ s.size ≤ cap := by
  obtain ⟨cap, W, h1, h2, h3, h4, h5⟩ := conv_bytes s w
  refine ⟨cap, W, h1, h2, ?_, h4⟩
  have e := Lib.run_convert_string_bytes (P := Tryz.prog) w 9 35 5 s Tryz.underlying9 Tryz.underlying35 Tryz.underlying5
  rw [h1] at e
  cases e
  refine ⟨_, Lib.bytesWorld_at_new w 5 s, ?_, ?_⟩
  · unfold Lib.bytesCells
    simp
  · intro j hj
    have hj' : j < s.data.size := hj
    unfold Lib.bytesCells
    rw [Array.getElem?_append_left (by simpa using hj')]
    rw [Array.getElem?_map, Array.getElem?_eq_getElem hj']
    simp
end Go.Proofs.YtcfgbdhpcboikaaGreatDoor
