/-
  policy.form at dir.
  policy.Value, of every element, attribute and value: what it answers.
-/
import Derived.Test.YtcfgbdhpcboikaaGreatDoorFormL
import Derived.Test.YtcfgbdhpcboikaaGreatDoorFormV
namespace Go.Proofs.YtcfgbdhpcboikaaGreatDoor
open Go.RowKit

def zDir : List ByteArray := [sAuto, sLtr, sRtl]
structure DirAt (sm : ByteArray) (B k : Nat) (w wx : World) : Prop where
  le : k ≤ 3
  no1 : 1 ≤ k → sm ≠ sAuto
  no2 : 2 ≤ k → sm ≠ sLtr
  no3 : 3 ≤ k → sm ≠ sRtl
  str : StrsAt wx B 0 zDir
  bel : Below B w wx
  lt : B < wx.heap.size
structure DirEnd (sm t : ByteArray) (b : Bool) : Prop where
  yes : dirP sm → sm = t ∧ true = b
  no : ¬ dirP sm → t = ⟨#[]⟩ ∧ b = false
theorem dir_neL {sm c : ByteArray} (l : List UInt8) (h : sm ≠ c) (hl : c.data.toList = l) : (sm.toList == l) = false := by
  rw [beq_eq_false_iff_ne, toList_data, ← hl]
  exact fun e => h (ba_ext e)
set_option maxRecDepth 100000 in
set_option maxHeartbeats 2000000 in
theorem form_dir (e v t : ByteArray) (b : Bool) (hv : v.size ≤ 140737488355328) (hE : Hid (DirEnd (smallBA v) t b)) : FormAt e sDir v t b := by
  intro w T
  have S := fun W => small_any v hv W
  rw [show (⟨(smallL v.data.toList).toArray⟩ : ByteArray) = smallBA v from rfl] at S
  generalize smallBA v = sm at *
  have HS := Lib.hid S
  clear S T
  unfold sDir
  go_enter Tryz.func83, Tryz.ntmps83
  go_upto_region 8 with fail
  have H0 : Hid (DirAt sm w.heap.size 0 w (w.alloc (.cells #[Value.string ⟨#[97, 117, 116, 111]⟩, Value.string ⟨#[108, 116, 114]⟩, Value.string ⟨#[114, 116, 108]⟩] 9))) := by
    refine ⟨by omega, by omega, by omega, by omega, ?_, (Below.refl _ w).alloc (Nat.le_refl _) _, by simp⟩
    intro j hj
    rw [Nat.zero_add, cell_of_row _ w.heap.size j _ 9 (0, 0) (heap_alloc_new w _)]
    have : ∀ j < 3, (#[Value.string ⟨#[97, 117, 116, 111]⟩, Value.string ⟨#[108, 116, 114]⟩, Value.string ⟨#[114, 116, 108]⟩] : Array Value)[j]? = some (Value.string (zDir.getD j ByteArray.empty)) := by
      intro j hj
      match j, hj with
      | 0, _ => rfl
      | 1, _ => rfl
      | 2, _ => rfl
    exact this j hj
  go_loopw [6, 7, 24] (fun r6 r7 i wx => r6 = .string ⟨#[]⟩ ∧ r7 = .bool false ∧ ∃ k : Nat, i = .int .i64 k ∧ Hid (DirAt sm w.heap.size k w wx)) (fun _ _ i _ => 3 - (intOf i).toNat)
  case atStart => exact ⟨rfl, rfl, 0, rfl, H0⟩
  case round =>
    obtain ⟨rfl, rfl, k, rfl, hD⟩ := hrel
    have hk := hD.out.le
    have hcases : k = 0 ∨ k = 1 ∨ k = 2 ∨ k = 3 := by omega
    rcases hcases with rfl | rfl | rfl | rfl
    · have hcell : wr.cell? ⟨w.heap.size, 0, none⟩ = some (.string ⟨#[97, 117, 116, 111]⟩) := hD.out.str 0 (by decide)
      by_cases hs : sm = sAuto
      · obtain ⟨rfl, rfl⟩ := hE.out.yes (.inl hs)
        subst hs
        unfold sAuto at *
        go_wp2_with fail
        refine (HS.out _).mono ?_
        rintro x w1 ⟨rfl, B1⟩
        have HB := Lib.hid (hD.out.bel.trans (B1.mono (Nat.le_of_lt hD.out.lt)))
        clear B1
        go_wp2
        go_ret2
        exact ⟨rfl, HB.out⟩
      · have hn := dir_neL [97, 117, 116, 111] hs rfl
        have HH := Lib.hid hs
        clear hs
        go_wp2_with fail
        refine (HS.out _).mono ?_
        rintro x w1 ⟨rfl, B1⟩
        have HN : Hid (DirAt sm w.heap.size 1 w w1) := ⟨by omega, fun _ => HH.out, by omega, by omega, hD.out.str.below B1 hD.out.lt, hD.out.bel.trans (B1.mono (Nat.le_of_lt hD.out.lt)), Nat.lt_of_lt_of_le hD.out.lt B1.size⟩
        clear B1
        go_wp2
        go_roundw
        case rel => exact ⟨rfl, rfl, 1, by go_num, HN⟩
        case measure => simp [intOf]
    · have hcell : wr.cell? ⟨w.heap.size, 1, none⟩ = some (.string ⟨#[108, 116, 114]⟩) := hD.out.str 1 (by decide)
      by_cases hs : sm = sLtr
      · obtain ⟨rfl, rfl⟩ := hE.out.yes (.inr (.inl hs))
        subst hs
        unfold sLtr at *
        go_wp2_with fail
        refine (HS.out _).mono ?_
        rintro x w1 ⟨rfl, B1⟩
        have HB := Lib.hid (hD.out.bel.trans (B1.mono (Nat.le_of_lt hD.out.lt)))
        clear B1
        go_wp2
        go_ret2
        exact ⟨rfl, HB.out⟩
      · have hn := dir_neL [108, 116, 114] hs rfl
        have HH := Lib.hid hs
        clear hs
        go_wp2_with fail
        refine (HS.out _).mono ?_
        rintro x w1 ⟨rfl, B1⟩
        have HN : Hid (DirAt sm w.heap.size 2 w w1) := ⟨by omega, fun _ => hD.out.no1 (by omega), fun _ => HH.out, by omega, hD.out.str.below B1 hD.out.lt, hD.out.bel.trans (B1.mono (Nat.le_of_lt hD.out.lt)), Nat.lt_of_lt_of_le hD.out.lt B1.size⟩
        clear B1
        go_wp2
        go_roundw
        case rel => exact ⟨rfl, rfl, 2, by go_num, HN⟩
        case measure => simp [intOf]
    · have hcell : wr.cell? ⟨w.heap.size, 2, none⟩ = some (.string ⟨#[114, 116, 108]⟩) := hD.out.str 2 (by decide)
      by_cases hs : sm = sRtl
      · obtain ⟨rfl, rfl⟩ := hE.out.yes (.inr (.inr hs))
        subst hs
        unfold sRtl at *
        go_wp2_with fail
        refine (HS.out _).mono ?_
        rintro x w1 ⟨rfl, B1⟩
        have HB := Lib.hid (hD.out.bel.trans (B1.mono (Nat.le_of_lt hD.out.lt)))
        clear B1
        go_wp2
        go_ret2
        exact ⟨rfl, HB.out⟩
      · have hn := dir_neL [114, 116, 108] hs rfl
        have HH := Lib.hid hs
        clear hs
        go_wp2_with fail
        refine (HS.out _).mono ?_
        rintro x w1 ⟨rfl, B1⟩
        have HN : Hid (DirAt sm w.heap.size 3 w w1) := ⟨by omega, fun _ => hD.out.no1 (by omega), fun _ => hD.out.no2 (by omega), fun _ => HH.out, hD.out.str.below B1 hD.out.lt, hD.out.bel.trans (B1.mono (Nat.le_of_lt hD.out.lt)), Nat.lt_of_lt_of_le hD.out.lt B1.size⟩
        clear B1
        go_wp2
        go_roundw
        case rel => exact ⟨rfl, rfl, 3, by go_num, HN⟩
        case measure => simp [intOf]
    · obtain ⟨rfl, rfl⟩ := hE.out.no (fun hp => by
        rcases hp with h | h | h
        · exact hD.out.no1 (by omega) h
        · exact hD.out.no2 (by omega) h
        · exact hD.out.no3 (by omega) h)
      go_wp2
      go_ret2
      exact ⟨rfl, hD.out.bel⟩
end Go.Proofs.YtcfgbdhpcboikaaGreatDoor

namespace Go.Proofs.YtcfgbdhpcboikaaGreatDoor
open Go.RowKit

theorem split_one (a b x y : List UInt8) (c : UInt8) (h : a ++ c :: b = x ++ c :: y) (hx : c ∉ x) (hy : c ∉ y) : a = x ∧ b = y := by
  rcases List.append_eq_append_iff.1 h with ⟨l, h1, h2⟩ | ⟨l, h1, h2⟩
  · cases l with
    | nil =>
      simp only [List.nil_append, List.cons.injEq, true_and] at h2
      exact ⟨by rw [h1, List.append_nil], h2⟩
    | cons d l =>
      simp only [List.cons_append, List.cons.injEq] at h2
      exact absurd (by rw [h1, h2.1]; simp) hx
  · cases l with
    | nil =>
      simp only [List.nil_append, List.cons.injEq, true_and] at h2
      exact ⟨by rw [h1, List.append_nil], h2.symm⟩
    | cons d l =>
      simp only [List.cons_append, List.cons.injEq] at h2
      exact absurd (by rw [h2.2]; simp) hy
theorem form_keys : formKeys = formTab.map (fun p => p.1 ++ 32 :: p.2) := by decide
theorem form_tab : ∀ p ∈ formTab, (32 : UInt8) ∉ p.1 ∧ (32 : UInt8) ∉ p.2 ∧ fkind ⟨p.1.toArray⟩ ⟨p.2.toArray⟩ ≠ .none := by decide +kernel
theorem key_none {e n : ByteArray} (h : fkind e n = .none) (l : List UInt8) (hl : formKeys.contains l = true) : ((e ++ ⟨#[32]⟩ ++ n).toList == (⟨l.toArray⟩ : ByteArray).toList) = false := by
  rw [beq_eq_false_iff_ne, toList_data, toList_data]
  intro he
  rw [form_keys] at hl
  have hl2 : l ∈ formTab.map (fun p => p.1 ++ 32 :: p.2) := by
    rw [List.contains_iff_mem] at hl
    exact hl
  obtain ⟨p, hp, e1⟩ := List.mem_map.1 hl2
  obtain ⟨p1, p2, p3⟩ := form_tab p hp
  have he2 : e.data.toList ++ 32 :: n.data.toList = p.1 ++ 32 :: p.2 := by
    have e3 : (e ++ ⟨#[32]⟩ ++ n).data.toList = e.data.toList ++ 32 :: n.data.toList := by simp
    rw [← e3, he, ← e1]
  obtain ⟨h1, h2⟩ := split_one _ _ _ _ _ he2 p1 p2
  refine p3 ?_
  rw [← h1, ← h2]
  exact h
theorem textB_size (v : ByteArray) : (textB v).size ≤ 3 * v.size := text_size v.data.toList
theorem linkB_size (v : ByteArray) : (linkB v).size ≤ 3 * v.size := link_size v.data.toList
theorem dirP_size {v : ByteArray} (h : dirP v) : v.size ≤ 4 := by rcases h with rfl | rfl | rfl <;> decide
theorem fkind_none_title {e n : ByteArray} (h : fkind e n = .none) : n ≠ sTitle ∧ n ≠ sLang ∧ n ≠ sDir := by
  unfold fkind at h
  refine ⟨fun c => ?_, fun c => ?_, fun c => ?_⟩
  · rw [if_pos c] at h; cases h
  · by_cases d : n = sTitle
    · rw [if_pos d] at h; cases h
    · rw [if_neg d, if_pos c] at h; cases h
  · by_cases d : n = sTitle
    · rw [if_pos d] at h; cases h
    · by_cases d2 : n = sLang
      · rw [if_neg d, if_pos d2] at h; cases h
      · rw [if_neg d, if_neg d2, if_pos c] at h; cases h
theorem isFix_cases {e n : ByteArray} (h : isFix e n = true) : (e = sMeter ∧ (n = sMax ∨ n = sValue ∨ n = sHigh ∨ n = sLow ∨ n = sMin)) ∨ (e = sProgress ∧ (n = sMax ∨ n = sValue)) := by
  unfold isFix at h
  simp only [Bool.or_eq_true, Bool.and_eq_true, decide_eq_true_eq] at h
  rcases h with ⟨h1, h2⟩ | ⟨h1, h2⟩
  · refine .inl ⟨h1, ?_⟩
    rcases h2 with (((h | h) | h) | h) | h
    · exact .inl h
    · exact .inr (.inl h)
    · exact .inr (.inr (.inl h))
    · exact .inr (.inr (.inr (.inl h)))
    · exact .inr (.inr (.inr (.inr h)))
  · exact .inr ⟨h1, h2⟩
theorem form_fix {e n v t : ByteArray} {b : Bool} (h : isFix e n = true) (H : ∀ w, Tabs w → Calls Tryz.prog 20 #[.string v] w fun e w' => e = .returned (.tuple #[.string t, .bool b]) ∧ Below w.heap.size w w') : FormAt e n v t b := by
  rcases isFix_cases h with ⟨rfl, h | h | h | h | h⟩ | ⟨rfl, h | h⟩ <;> subst h
  · exact form_metermax v t b H
  · exact form_metervalue v t b H
  · exact form_meterhigh v t b H
  · exact form_meterlow v t b H
  · exact form_metermin v t b H
  · exact form_progressmax v t b H
  · exact form_progressvalue v t b H
theorem form_w3 {e n v : ByteArray} {x : Int} {b : Bool} (h : (e = sTd ∨ e = sTh) ∧ (n = sColspan ∨ n = sRowspan)) (H : WholeRet v 1 1000 x b) : FormAt e n v v b := by
  rcases h with ⟨rfl | rfl, rfl | rfl⟩
  · exact form_tdcolspan v x b H
  · exact form_tdrowspan v x b H
  · exact form_thcolspan v x b H
  · exact form_throwspan v x b H
theorem form_w1 {e n v : ByteArray} {x : Int} {b : Bool} (h : e = sImg ∧ (n = sHeight ∨ n = sWidth)) (H : WholeRet v 0 9999 x b) : FormAt e n v v b := by
  rcases h with ⟨rfl, rfl | rfl⟩
  · exact form_imgheight v x b H
  · exact form_imgwidth v x b H
theorem form_w2 {e n v : ByteArray} {x : Int} {b : Bool} (h : e = sOl ∧ n = sStart) (H : WholeRet v 0 999999 x b) : FormAt e n v v b := by
  rcases h with ⟨rfl, rfl⟩
  exact form_olstart v x b H
theorem form_some (e n v t : ByteArray) (hs : v.size ≤ 1048576) (h : FormR (fkind e n) v (some t)) : FormAt e n v t true ∧ t.size ≤ 4000000 := by
  have ht := textB_size v
  have hl := linkB_size v
  unfold fkind at h
  by_cases c0 : n = sTitle
  · rw [if_pos c0] at h
    subst c0
    have h' : t = textB v := h
    subst h'
    exact ⟨form_title e v (by omega), by omega⟩
  rw [if_neg c0] at h
  by_cases c1 : n = sLang
  · rw [if_pos c1] at h
    subst c1
    obtain ⟨hp, rfl⟩ := h
    exact ⟨form_lang e t (by omega) true (Lib.hid ⟨fun _ => hp, fun _ => rfl⟩), by omega⟩
  rw [if_neg c1] at h
  by_cases c2 : n = sDir
  · rw [if_pos c2] at h
    subst c2
    obtain ⟨hp, rfl⟩ := h
    exact ⟨form_dir e v _ true (by omega) (Lib.hid ⟨fun _ => ⟨rfl, rfl⟩, fun hn => absurd hp hn⟩), by have := dirP_size hp; omega⟩
  rw [if_neg c2] at h
  by_cases c3 : e = sA ∧ n = sHref
  · rw [if_pos c3] at h
    obtain ⟨rfl, rfl⟩ := c3
    obtain ⟨hp, rfl⟩ := h
    exact ⟨form_ahref v true (Lib.hid hp) (by omega), by omega⟩
  rw [if_neg c3] at h
  by_cases c4 : e = sImg ∧ n = sSrc
  · rw [if_pos c4] at h
    obtain ⟨rfl, rfl⟩ := c4
    obtain ⟨hp, rfl⟩ := h
    exact ⟨form_imgsrc v true (Lib.hid hp) (by omega), by omega⟩
  rw [if_neg c4] at h
  by_cases c9 : e = sImg ∧ n = sAlt
  · rw [if_pos c9] at h
    obtain ⟨rfl, rfl⟩ := c9
    have h' : t = textB v := h
    subst h'
    exact ⟨form_imgalt v (by omega), by omega⟩
  rw [if_neg c9] at h
  by_cases c5 : e = sImg ∧ (n = sHeight ∨ n = sWidth)
  · rw [if_pos c5] at h
    obtain ⟨⟨x, hx⟩, rfl⟩ := h
    exact ⟨form_w1 c5 hx, by omega⟩
  rw [if_neg c5] at h
  by_cases c6 : e = sOl ∧ n = sStart
  · rw [if_pos c6] at h
    obtain ⟨⟨x, hx⟩, rfl⟩ := h
    exact ⟨form_w2 c6 hx, by omega⟩
  rw [if_neg c6] at h
  by_cases c7 : (e = sTd ∨ e = sTh) ∧ (n = sColspan ∨ n = sRowspan)
  · rw [if_pos c7] at h
    obtain ⟨⟨x, hx⟩, rfl⟩ := h
    exact ⟨form_w3 c7 hx, by omega⟩
  rw [if_neg c7] at h
  by_cases c8 : isFix e n = true
  · rw [if_pos c8] at h
    exact ⟨form_fix c8 h.yes, by have := h.sz; omega⟩
  rw [if_neg c8] at h
  exact h.elim
theorem form_no (e n v : ByteArray) (he : e.size ≤ 1000000000) (hn : n.size ≤ 1000000000) (hs : v.size ≤ 1048576) (h : FormR (fkind e n) v none) : ∃ t, FormAt e n v t false := by
  by_cases hk : fkind e n = .none
  · obtain ⟨k1, k2, k3⟩ := fkind_none_title hk
    exact ⟨_, form_none e n v he hn _ (Lib.hid rfl) (dir_neL _ k1 rfl) (dir_neL _ k2 rfl) (dir_neL _ k3 rfl) (Lib.hid (key_none hk))⟩
  unfold fkind at h hk
  by_cases c0 : n = sTitle
  · rw [if_pos c0] at h
    exact h.elim
  rw [if_neg c0] at h hk
  by_cases c1 : n = sLang
  · rw [if_pos c1] at h
    subst c1
    exact ⟨v, form_lang e v (by omega) false (Lib.hid (Iff.intro (fun hh => by cases hh) (fun hh => absurd hh h)))⟩
  rw [if_neg c1] at h hk
  by_cases c2 : n = sDir
  · rw [if_pos c2] at h
    subst c2
    exact ⟨⟨#[]⟩, form_dir e v _ false (by omega) (Lib.hid ⟨fun hh => absurd hh h, fun _ => ⟨rfl, rfl⟩⟩)⟩
  rw [if_neg c2] at h hk
  by_cases c3 : e = sA ∧ n = sHref
  · rw [if_pos c3] at h
    obtain ⟨rfl, rfl⟩ := c3
    exact ⟨_, form_ahref v false (Lib.hid h) (by omega)⟩
  rw [if_neg c3] at h hk
  by_cases c4 : e = sImg ∧ n = sSrc
  · rw [if_pos c4] at h
    obtain ⟨rfl, rfl⟩ := c4
    exact ⟨_, form_imgsrc v false (Lib.hid h) (by omega)⟩
  rw [if_neg c4] at h hk
  by_cases c9 : e = sImg ∧ n = sAlt
  · rw [if_pos c9] at h
    exact h.elim
  rw [if_neg c9] at h hk
  by_cases c5 : e = sImg ∧ (n = sHeight ∨ n = sWidth)
  · rw [if_pos c5] at h
    obtain ⟨x, hx⟩ := h
    exact ⟨_, form_w1 c5 hx⟩
  rw [if_neg c5] at h hk
  by_cases c6 : e = sOl ∧ n = sStart
  · rw [if_pos c6] at h
    obtain ⟨x, hx⟩ := h
    exact ⟨_, form_w2 c6 hx⟩
  rw [if_neg c6] at h hk
  by_cases c7 : (e = sTd ∨ e = sTh) ∧ (n = sColspan ∨ n = sRowspan)
  · rw [if_pos c7] at h
    obtain ⟨x, hx⟩ := h
    exact ⟨_, form_w3 c7 hx⟩
  rw [if_neg c7] at h hk
  by_cases c8 : isFix e n = true
  · rw [if_pos c8] at h
    exact ⟨_, form_fix c8 h⟩
  rw [if_neg c8] at hk
  exact absurd rfl hk
def valueV : Option ByteArray → Value
  | some t => .tuple #[.string t, .bool true]
  | none => .tuple #[.string ⟨#[]⟩, .bool false]
theorem value_any (e n v : ByteArray) (o : Option ByteArray) (he : e.size ≤ 1000000000) (hn : n.size ≤ 1000000000) (hs : v.size ≤ 1048576) (h : ValueR e n v o) (w : World) (T : Tabs w) :
    Calls Tryz.prog 37 #[.string e, .string n, .string v] w fun x w' => x = .returned (valueV o) ∧ Below w.heap.size w w' := by
  have HK : Hid (KindAt e (kindL e.data.toList : Nat)) := fun w => kind_any e w
  cases o with
  | some t =>
    obtain ⟨h1, h2, h3⟩ := h
    obtain ⟨f1, f2⟩ := form_some e n v t hs h2
    exact value_yes e n v t _ HK (by omega) (by rw [beq_eq_false_iff_ne]; omega) (Lib.hid f1) f2 (Lib.hid h3) w T
  | none =>
    by_cases hk : kindL e.data.toList < 2 ∨ kindL e.data.toList = 14
    · exact value_out e n v _ HK (by omega) w
    · rcases h with h | h | ⟨t, h, h3⟩
      · exact absurd h hk
      · obtain ⟨t, f1⟩ := form_no e n v he hn hs h
        exact value_no e n v t _ HK (by omega) (by rw [beq_eq_false_iff_ne]; omega) (Lib.hid f1) w T
      · obtain ⟨f1, f2⟩ := form_some e n v t hs h
        exact value_long e n v t _ HK (by omega) (by rw [beq_eq_false_iff_ne]; omega) (Lib.hid f1) f2 (Lib.hid h3) w T
theorem form_all (w0 : World) (T0 : Tabs w0) (k : FK) (v : ByteArray) (hs : v.size ≤ 1048576) : ∃ o, FormR k v o := by
  cases k with
  | text => exact ⟨some _, rfl⟩
  | lang =>
    by_cases h : langP v
    · exact ⟨some v, h, rfl⟩
    · exact ⟨none, h⟩
  | dir =>
    by_cases h : dirP (smallBA v)
    · exact ⟨some _, h, rfl⟩
    · exact ⟨none, h⟩
  | linkA =>
    cases h : linkOk zHref (linkL v.data.toList) with
    | true => exact ⟨some _, h, rfl⟩
    | false => exact ⟨none, h⟩
  | linkI =>
    cases h : linkOk zSrc (linkL v.data.toList) with
    | true => exact ⟨some _, h, rfl⟩
    | false => exact ⟨none, h⟩
  | whole lo hi =>
    obtain ⟨x, b, hx⟩ := wholeRet v lo hi (by unfold maxLen; omega)
    cases b with
    | true => exact ⟨some v, ⟨x, hx⟩, rfl⟩
    | false => exact ⟨none, x, hx⟩
  | fix =>
    rcases fix_all w0 T0 v (by unfold maxLen; omega) with ⟨t, h⟩ | h
    · exact ⟨some t, h⟩
    · exact ⟨none, h⟩
  | none => exact ⟨none, trivial⟩
theorem value_all (w0 : World) (T0 : Tabs w0) (e n v : ByteArray) (hs : v.size ≤ 1048576) : ∃ o, ValueR e n v o := by
  by_cases hk : kindL e.data.toList < 2 ∨ kindL e.data.toList = 14
  · exact ⟨none, .inl hk⟩
  · obtain ⟨o, ho⟩ := form_all w0 T0 (fkind e n) v hs
    cases o with
    | none => exact ⟨none, .inr (.inl ho)⟩
    | some t =>
      rcases Nat.lt_or_ge 120 (escB t).size with h | h
      · exact ⟨none, .inr (.inr ⟨t, ho, h⟩)⟩
      · exact ⟨some t, hk, ho, h⟩
/-- A text is no longer than what is written of it. -/
theorem replaceK_ge (old new : List UInt8) (h : old.length ≤ new.length) (h1 : 1 ≤ old.length) : ∀ (k : Nat) (s : List UInt8), s.length ≤ (Lib.replaceK old new k s).length := by
  intro k
  induction k with
  | zero => intro s; simp [Lib.replaceK]
  | succ k ih =>
    intro s
    by_cases hi : Lib.index s old = -1
    · unfold Lib.replaceK
      rw [if_pos (by rw [hi]; rfl)]
      exact Nat.le_refl _
    · have hge := Lib.index_ge s old
      obtain ⟨i, hi'⟩ : ∃ i : Nat, Lib.index s old = i := ⟨(Lib.index s old).toNat, by omega⟩
      rw [Lib.replaceK_hit old new k s i hi']
      have := ih (s.drop (i + old.length))
      have hr := Lib.index_room s old (by omega)
      rw [List.length_append, List.length_append, List.length_take]
      rw [List.length_drop] at this
      omega
theorem repB_ge (s old new : ByteArray) (h : old.size ≤ new.size) (h1 : 1 ≤ old.size) : s.size ≤ (repB s old new).size := by
  show s.data.toList.length ≤ (Lib.replaceAll s.data.toList old.data.toList new.data.toList).length
  unfold Lib.replaceAll Lib.replace
  split
  · exact Nat.le_refl _
  · exact replaceK_ge _ _ h h1 _ _
theorem esc_ge (t : ByteArray) : t.size ≤ (escB t).size := by
  unfold escB
  refine Nat.le_trans ?_ (repB_ge _ _ _ (by decide) (by decide))
  refine Nat.le_trans ?_ (repB_ge _ _ _ (by decide) (by decide))
  refine Nat.le_trans ?_ (repB_ge _ _ _ (by decide) (by decide))
  refine Nat.le_trans ?_ (repB_ge _ _ _ (by decide) (by decide))
  exact repB_ge _ _ _ (by decide) (by decide)
theorem value_size {e n v t : ByteArray} (h : ValueR e n v (some t)) : t.size ≤ 120 := Nat.le_trans (esc_ge t) h.2.2
end Go.Proofs.YtcfgbdhpcboikaaGreatDoor
