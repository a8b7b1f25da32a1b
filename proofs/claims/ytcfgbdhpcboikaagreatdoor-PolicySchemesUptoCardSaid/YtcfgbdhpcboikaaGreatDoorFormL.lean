/-
  policy.form as a plain function: which form a value has, by its element and its attribute.
  policy.language: what it answers.
  atof64 at every numeral.
  real.Fix, of every text: its one text, or none.
-/
import Derived.Test.YtcfgbdhpcboikaaGreatDoorTextLawB
import Derived.Test.YtcfgbdhpcboikaaGreatDoorAtofB
import Derived.Test.YtcfgbdhpcboikaaGreatDoorCmp
import Derived.Test.YtcfgbdhpcboikaaGreatDoorDecV
namespace Go.Proofs.YtcfgbdhpcboikaaGreatDoor
open Go.RowKit

def sLang : ByteArray := ⟨#[108, 97, 110, 103]⟩
def sDir : ByteArray := ⟨#[100, 105, 114]⟩
def sSrc : ByteArray := ⟨#[115, 114, 99]⟩
def sImg : ByteArray := ⟨#[105, 109, 103]⟩
def sAlt : ByteArray := ⟨#[97, 108, 116]⟩
def sHeight : ByteArray := ⟨#[104, 101, 105, 103, 104, 116]⟩
def sWidth : ByteArray := ⟨#[119, 105, 100, 116, 104]⟩
def sOl : ByteArray := ⟨#[111, 108]⟩
def sStart : ByteArray := ⟨#[115, 116, 97, 114, 116]⟩
def sTd : ByteArray := ⟨#[116, 100]⟩
def sTh : ByteArray := ⟨#[116, 104]⟩
def sColspan : ByteArray := ⟨#[99, 111, 108, 115, 112, 97, 110]⟩
def sRowspan : ByteArray := ⟨#[114, 111, 119, 115, 112, 97, 110]⟩
def sMeter : ByteArray := ⟨#[109, 101, 116, 101, 114]⟩
def sProgress : ByteArray := ⟨#[112, 114, 111, 103, 114, 101, 115, 115]⟩
def sMax : ByteArray := ⟨#[109, 97, 120]⟩
def sValue : ByteArray := ⟨#[118, 97, 108, 117, 101]⟩
def sHigh : ByteArray := ⟨#[104, 105, 103, 104]⟩
def sLow : ByteArray := ⟨#[108, 111, 119]⟩
def sMin : ByteArray := ⟨#[109, 105, 110]⟩
def sMailto : ByteArray := ⟨#[109, 97, 105, 108, 116, 111]⟩
def sAuto : ByteArray := ⟨#[97, 117, 116, 111]⟩
def sLtr : ByteArray := ⟨#[108, 116, 114]⟩
def sRtl : ByteArray := ⟨#[114, 116, 108]⟩
def sHttp : ByteArray := ⟨#[104, 116, 116, 112]⟩
def sHttps : ByteArray := ⟨#[104, 116, 116, 112, 115]⟩
/-- The kinds of forms. -/
inductive FK where
  | text | lang | dir | linkA | linkI | whole (lo hi : Nat) | fix | none
deriving DecidableEq
def isFix (e n : ByteArray) : Bool := (decide (e = sMeter) && (decide (n = sMax) || decide (n = sValue) || decide (n = sHigh) || decide (n = sLow) || decide (n = sMin))) || (decide (e = sProgress) && (decide (n = sMax) || decide (n = sValue)))
def fkind (e n : ByteArray) : FK :=
  if n = sTitle then .text else if n = sLang then .lang else if n = sDir then .dir
  else if e = sA ∧ n = sHref then .linkA
  else if e = sImg ∧ n = sSrc then .linkI
  else if e = sImg ∧ n = sAlt then .text
  else if e = sImg ∧ (n = sHeight ∨ n = sWidth) then .whole 0 9999
  else if e = sOl ∧ n = sStart then .whole 0 999999
  else if (e = sTd ∨ e = sTh) ∧ (n = sColspan ∨ n = sRowspan) then .whole 1 1000
  else if isFix e n = true then .fix
  else .none
def letterB (c : UInt8) : Bool := (decide (97 ≤ c.toNat) && decide (c.toNat ≤ 122)) || (decide (65 ≤ c.toNat) && decide (c.toNat ≤ 90))
def langB (c : UInt8) (i : Nat) : Bool := letterB c || (decide (0 < i) && (decide (c.toNat = 45) || (decide (48 ≤ c.toNat) && decide (c.toNat ≤ 57))))
def langAll (l : List UInt8) : Prop := ∀ j (h : j < l.length), langB l[j] j = true
def langP (v : ByteArray) : Prop := langAll v.data.toList ∧ 1 ≤ v.size ∧ v.size ≤ 16
def dirP (v : ByteArray) : Prop := v = sAuto ∨ v = sLtr ∨ v = sRtl
def wholeP (lo hi : Nat) (v : ByteArray) : Prop := ∃ x, WholeRet v lo hi x true
def textB (v : ByteArray) : ByteArray := ⟨(textL v.data.toList).toArray⟩
def linkB (v : ByteArray) : ByteArray := ⟨(linkL v.data.toList).toArray⟩
def smallBA (v : ByteArray) : ByteArray := ⟨(smallL v.data.toList).toArray⟩
def zSrc : List ByteArray := [sHttp, sHttps]
/-- Fix answers this text. -/
structure FixAt (v t : ByteArray) : Prop where
  sz : t.size ≤ 25
  num : numB t.data.toList = true
  yes : ∀ w, Tabs w → Calls Tryz.prog 20 #[.string v] w fun e w' => e = .returned (.tuple #[.string t, .bool true]) ∧ Below w.heap.size w w'
  again : ∀ w, Tabs w → Calls Tryz.prog 20 #[.string t] w fun e w' => e = .returned (.tuple #[.string t, .bool true]) ∧ Below w.heap.size w w'
def FixNo (v : ByteArray) : Prop := ∀ w, Tabs w → Calls Tryz.prog 20 #[.string v] w fun e w' => e = .returned (.tuple #[.string ⟨#[]⟩, .bool false]) ∧ Below w.heap.size w w'
/-- What form answers: its text, where there is one. -/
def FormR (k : FK) (v : ByteArray) : Option ByteArray → Prop
  | some t => match k with
    | .text => t = textB v
    | .lang => langP v ∧ t = v
    | .dir => dirP (smallBA v) ∧ t = smallBA v
    | .linkA => linkOk zHref (linkL v.data.toList) = true ∧ t = linkB v
    | .linkI => linkOk zSrc (linkL v.data.toList) = true ∧ t = linkB v
    | .whole lo hi => wholeP lo hi v ∧ t = v
    | .fix => FixAt v t
    | .none => False
  | none => match k with
    | .text => False
    | .lang => ¬ langP v
    | .dir => ¬ dirP (smallBA v)
    | .linkA => linkOk zHref (linkL v.data.toList) = false
    | .linkI => linkOk zSrc (linkL v.data.toList) = false
    | .whole lo hi => ∃ x, WholeRet v lo hi x false
    | .fix => FixNo v
    | .none => True
/-- What Value answers. -/
def ValueR (e n v : ByteArray) (o : Option ByteArray) : Prop :=
  match o with
  | some t => ¬ (kindL e.data.toList < 2 ∨ kindL e.data.toList = 14) ∧ FormR (fkind e n) v (some t) ∧ (escB t).size ≤ 120
  | none => (kindL e.data.toList < 2 ∨ kindL e.data.toList = 14) ∨ FormR (fkind e n) v none ∨ ∃ t, FormR (fkind e n) v (some t) ∧ 120 < (escB t).size

theorem ba_ext {a b : ByteArray} (h : a.data.toList = b.data.toList) : a = b := by
  cases a; cases b
  simpa using h
theorem linkB_data (v : ByteArray) : (linkB v).data.toList = linkL v.data.toList := rfl
/-! ### No colon -/
theorem scheme_nocolon (l : List UInt8) (h : (58 : UInt8) ∉ l) : schemeL (linkL l) = none := schemeL_none _ fun hm => h (link_mem 58 (by decide) l hm)
theorem lang_nocolon {v : ByteArray} (h : langP v) : (58 : UInt8) ∉ v.data.toList := by
  intro hm
  obtain ⟨j, hj, e⟩ := List.getElem_of_mem hm
  have := h.1 j hj
  rw [e] at this
  unfold langB letterB at this
  simp at this
theorem dir_nocolon {v : ByteArray} (h : dirP v) : (58 : UInt8) ∉ v.data.toList := by
  rcases h with rfl | rfl | rfl <;> decide
theorem digs_rest (l : List UInt8) (c : UInt8) (hc : isDig c = false) (h : c ∈ l) : c ∈ l.drop (digs l) := by
  have e : l.takeWhile isDig ++ l.dropWhile isDig = l := List.takeWhile_append_dropWhile
  have hd : l.drop (digs l) = l.dropWhile isDig := by
    unfold digs
    conv => lhs; rw [← e]
    conv => lhs; arg 1; rw [e]
    rw [List.drop_append_of_le_length (Nat.le_refl _), List.drop_length, List.nil_append]
  rw [hd]
  rw [← e] at h
  rcases List.mem_append.1 h with h | h
  · have := List.all_eq_true.1 (List.all_takeWhile (l := l) (p := isDig)) c h
    rw [hc] at this
    cases this
  · exact h
theorem dig_58 : isDig 58 = false := by decide
theorem digs_no58 (l : List UInt8) (h : digs l = l.length) : (58 : UInt8) ∉ l := by
  intro hm
  have := digs_rest l 58 dig_58 hm
  rw [h, List.drop_length] at this
  simp at this
theorem mem_tail {l : List UInt8} {x y : UInt8} (h : x ∈ l) (hy : l.head? = some y) (hne : x ≠ y) : x ∈ l.drop 1 := by
  cases l with
  | nil => simp at h
  | cons a l =>
    simp only [List.head?_cons, Option.some.injEq] at hy
    subst hy
    rcases List.mem_cons.1 h with h | h
    · exact absurd h hne
    · simpa using h
theorem whole_nocolon {lo hi : Nat} {v : ByteArray} (h : wholeP lo hi v) : (58 : UInt8) ∉ v.data.toList := by
  intro hm
  obtain ⟨x, hx⟩ := h
  exact digs_no58 _ (by rw [(hx.dg rfl).1]; rfl) hm
theorem num3_nocolon (l : List UInt8) (h : num3 l = true) : (58 : UInt8) ∉ l := by
  intro hm
  unfold num3 at h
  by_cases c : l.head? = some 43 ∨ l.head? = some 45
  · rw [if_pos c] at h
    simp only [Bool.and_eq_true, beq_iff_eq] at h
    refine digs_no58 _ h.2 ?_
    rcases c with c | c
    · exact mem_tail hm c (by decide)
    · exact mem_tail hm c (by decide)
  · rw [if_neg c] at h
    simp only [Bool.and_eq_true, beq_iff_eq] at h
    exact digs_no58 _ h.2 hm
theorem num2_nocolon (n : Nat) (l : List UInt8) (h : num2 n l = true) : (58 : UInt8) ∉ l := by
  intro hm
  unfold num2 at h
  split at h
  · cases h
  · split at h
    · rename_i e
      subst e
      simp at hm
    · split at h
      · rename_i c
        refine num3_nocolon _ h ?_
        rcases c with c | c
        · exact mem_tail hm c (by decide)
        · exact mem_tail hm c (by decide)
      · cases h
theorem num1_nocolon (l : List UInt8) (h : num1 l = true) : (58 : UInt8) ∉ l := by
  intro hm
  have h1 := digs_rest l 58 dig_58 hm
  unfold num1 at h
  split at h
  · rename_i c
    split at h
    · cases h
    · refine num2_nocolon _ _ h ?_
      have h2 := digs_rest _ 58 dig_58 (mem_tail h1 c (by decide))
      rw [List.drop_drop] at h2
      exact h2
  · exact num2_nocolon _ _ h h1
theorem num_nocolon (l : List UInt8) (h : numB l = true) : (58 : UInt8) ∉ l := by
  intro hm
  unfold numB at h
  split at h
  · cases h
  · refine num1_nocolon _ h ?_
    split
    · rename_i c
      exact mem_tail hm c (by decide)
    · exact hm
theorem linkOk_some {zs : List ByteArray} {l s : List UInt8} (h : linkOk zs l = true) (hs : schemeL l = some s) : (⟨s.toArray⟩ : ByteArray) ∈ zs := by
  unfold linkOk at h
  rw [hs] at h
  exact (Lib.containsS_iff _ _).1 h
/-- A value whose Link has a Scheme is a link by one of the schemes. -/
theorem value_scheme {e n v t : ByteArray} {s : List UInt8} (h : ValueR e n v (some t)) (h1 : n ≠ sTitle) (h2 : n ≠ sAlt) (hs : schemeL (linkL t.data.toList) = some s) :
    (n = sHref ∧ e = sA ∧ ((⟨s.toArray⟩ : ByteArray) = sHttp ∨ (⟨s.toArray⟩ : ByteArray) = sHttps ∨ (⟨s.toArray⟩ : ByteArray) = sMailto)) ∨ (n = sSrc ∧ e = sImg ∧ ((⟨s.toArray⟩ : ByteArray) = sHttp ∨ (⟨s.toArray⟩ : ByteArray) = sHttps)) := by
  have hf := h.2.1
  unfold fkind at hf
  rw [if_neg h1] at hf
  by_cases c1 : n = sLang
  · rw [if_pos c1] at hf
    obtain ⟨hp, rfl⟩ := hf
    rw [scheme_nocolon _ (lang_nocolon hp)] at hs
    cases hs
  rw [if_neg c1] at hf
  by_cases c2 : n = sDir
  · rw [if_pos c2] at hf
    obtain ⟨hp, rfl⟩ := hf
    rw [scheme_nocolon _ (dir_nocolon hp)] at hs
    cases hs
  rw [if_neg c2] at hf
  by_cases c3 : e = sA ∧ n = sHref
  · rw [if_pos c3] at hf
    obtain ⟨hp, rfl⟩ := hf
    rw [linkB_data, link_link] at hs
    have := linkOk_some hp hs
    simp only [zHref, List.mem_cons, List.mem_nil_iff, or_false] at this
    exact .inl ⟨c3.2, c3.1, this⟩
  rw [if_neg c3] at hf
  by_cases c4 : e = sImg ∧ n = sSrc
  · rw [if_pos c4] at hf
    obtain ⟨hp, rfl⟩ := hf
    rw [linkB_data, link_link] at hs
    have := linkOk_some hp hs
    simp only [zSrc, List.mem_cons, List.mem_nil_iff, or_false] at this
    exact .inr ⟨c4.2, c4.1, this⟩
  rw [if_neg c4, if_neg (fun hh => h2 hh.2)] at hf
  by_cases c5 : e = sImg ∧ (n = sHeight ∨ n = sWidth)
  · rw [if_pos c5] at hf
    obtain ⟨hp, rfl⟩ := hf
    rw [scheme_nocolon _ (whole_nocolon hp)] at hs
    cases hs
  rw [if_neg c5] at hf
  by_cases c6 : e = sOl ∧ n = sStart
  · rw [if_pos c6] at hf
    obtain ⟨hp, rfl⟩ := hf
    rw [scheme_nocolon _ (whole_nocolon hp)] at hs
    cases hs
  rw [if_neg c6] at hf
  by_cases c7 : (e = sTd ∨ e = sTh) ∧ (n = sColspan ∨ n = sRowspan)
  · rw [if_pos c7] at hf
    obtain ⟨hp, rfl⟩ := hf
    rw [scheme_nocolon _ (whole_nocolon hp)] at hs
    cases hs
  rw [if_neg c7] at hf
  by_cases c8 : isFix e n = true
  · rw [if_pos c8] at hf
    rw [scheme_nocolon _ (num_nocolon _ hf.num)] at hs
    cases hs
  rw [if_neg c8] at hf
  exact hf.elim
end Go.Proofs.YtcfgbdhpcboikaaGreatDoor

namespace Go.Proofs.YtcfgbdhpcboikaaGreatDoor
open Go.RowKit

def LangAt (l : List UInt8) (k : Nat) : Prop := k ≤ l.length ∧ ∀ j (h : j < l.length), j < k → langB l[j] j = true
theorem LangAt.step {l : List UInt8} {k : Nat} (h : LangAt l k) (hk : k < l.length) (hb : langB l[k] k = true) : LangAt l (k + 1) :=
  ⟨hk, fun j hj hlt => by
    rcases Nat.lt_or_ge j k with h1 | h1
    · exact h.2 j hj h1
    · obtain rfl : j = k := by omega
      exact hb⟩
theorem lang_bad {l : List UInt8} {k : Nat} (hk : k < l.length) (hb : langB l[k] k = false) : ¬ langAll l := fun h => by
  have := h k hk
  rw [hb] at this
  cases this
theorem langB_of (c : UInt8) (d k : Nat) (h : c.toNat = d) : langB c k = (((decide (97 ≤ d) && decide (d ≤ 122)) || (decide (65 ≤ d) && decide (d ≤ 90))) || (decide (0 < k) && (decide (d = 45) || (decide (48 ≤ d) && decide (d ≤ 57))))) := by
  unfold langB letterB
  rw [h]
structure LangStep (v : ByteArray) (k d : Nat) : Prop where
  yes : (((decide (97 ≤ d) && decide (d ≤ 122)) || (decide (65 ≤ d) && decide (d ≤ 90))) || (decide (0 < k) && (decide (d = 45) || (decide (48 ≤ d) && decide (d ≤ 57))))) = true → LangAt v.data.toList (k + 1)
  no : (((decide (97 ≤ d) && decide (d ≤ 122)) || (decide (65 ≤ d) && decide (d ≤ 90))) || (decide (0 < k) && (decide (d = 45) || (decide (48 ≤ d) && decide (d ≤ 57))))) = false → ¬ langP v
theorem LangStep.of (v : ByteArray) (k d : Nat) (hk : k < v.data.toList.length) (h : LangAt v.data.toList k) (hd : v.data.toList[k].toNat = d) : LangStep v k d :=
  ⟨fun hy => by rw [← langB_of _ d k hd] at hy; exact h.step hk hy, fun hn hp => by rw [← langB_of _ d k hd] at hn; exact lang_bad hk hn hp.1⟩
set_option maxRecDepth 100000 in
set_option maxHeartbeats 4000000 in
theorem lang_any (v : ByteArray) (hv : v.size ≤ 140737488355328) (b : Bool) (hb : Hid (b = true ↔ langP v)) (w : World) : Calls Tryz.prog 142 #[.string v] w fun e w' => e = .returned (.bool b) ∧ Below w.heap.size w w' := by
  obtain ⟨cap, W, hrun, hbel, hby, hcap, hsz⟩ := conv_bytes v w
  have HB := Lib.hid hbel
  have HY : Hid (BytesAt W w.heap.size 0 v.data.toList) := hby
  have HNO : Hid (¬ langP v → b = false) := fun h => by
    cases b with
    | false => rfl
    | true => exact absurd (hb.out.1 rfl) h
  clear hbel hby hcap hsz
  go_enter Tryz.func142, Tryz.ntmps142
  go_wp2
  clear hrun
  go_loop [2, 9] (fun r i => r = .bool false ∧ ∃ k : Nat, i = .int .i64 k ∧ Hid (LangAt v.data.toList k)) (fun _ i => v.size - (intOf i).toNat)
  case atStart => exact ⟨rfl, 0, rfl, Lib.hid ⟨Nat.zero_le _, fun j hj h0 => absurd h0 (by omega)⟩⟩
  case round =>
    obtain ⟨rfl, k, rfl, hR⟩ := hrel
    rcases Nat.lt_or_ge k v.size with hlt | hge
    · have hcell := HY.out k hlt
      obtain ⟨d, hd⟩ : ∃ d, (v.data.toList[k]'hlt).toNat = d := ⟨_, rfl⟩
      have HS := Lib.hid (LangStep.of v k d hlt hR.out hd)
      have hd8 : d < 256 := by rw [← hd]; exact (v.data.toList[k]'hlt).toNat_lt
      rw [hd, Nat.zero_add] at hcell
      clear hd
      have hcases : (97 ≤ d ∧ d ≤ 122) ∨ (65 ≤ d ∧ d ≤ 90) ∨ d = 45 ∨ (48 ≤ d ∧ d ≤ 57) ∨ (d < 45 ∨ (45 < d ∧ d < 48) ∨ (57 < d ∧ d < 65) ∨ (90 < d ∧ d < 97) ∨ 122 < d) := by omega
      rcases hcases with ⟨h, h2⟩ | ⟨h, h2⟩ | rfl | ⟨h, h2⟩ | h
      · have HF := Lib.hid (HS.out.yes (by simp; omega))
        have l1 : decide ((d : Int) ≤ 122) = true := by simp; omega
        go_wp2
        go_round
        case rel => exact ⟨rfl, k + 1, by go_num, HF⟩
        case measure => simp [intOf]; omega
      · have HF := Lib.hid (HS.out.yes (by simp; omega))
        have l1 : decide ((d : Int) ≤ 90) = true := by simp; omega
        go_wp2
        go_round
        case rel => exact ⟨rfl, k + 1, by go_num, HF⟩
        case measure => simp [intOf]; omega
      · rcases Nat.eq_zero_or_pos k with hk0 | hk0
        · subst hk0
          have HF := Lib.hid (HNO.out (HS.out.no (by simp)))
          go_wp2
          go_ret
          exact ⟨by rw [HF.out]; rfl, HB.out⟩
        · have HF := Lib.hid (HS.out.yes (by simp; omega))
          have tk : ((k : Int) == 0) = false := by rw [beq_eq_false_iff_ne]; omega
          go_wp2
          go_round
          case rel => exact ⟨rfl, k + 1, by go_num, HF⟩
          case measure => simp [intOf]; omega
      · have t45 : ((d : Int) == 45) = false := by rw [beq_eq_false_iff_ne]; omega
        have t45' : ((d : Int) != 45) = true := by rw [bne_iff_ne]; omega
        have l1 : decide ((d : Int) ≤ 57) = true := by simp; omega
        rcases Nat.eq_zero_or_pos k with hk0 | hk0
        · subst hk0
          have HF := Lib.hid (HNO.out (HS.out.no (by simp; omega)))
          go_wp2
          go_ret
          exact ⟨by rw [HF.out]; rfl, HB.out⟩
        · have HF := Lib.hid (HS.out.yes (by simp; omega))
          have tk : ((k : Int) == 0) = false := by rw [beq_eq_false_iff_ne]; omega
          go_wp2
          go_round
          case rel => exact ⟨rfl, k + 1, by go_num, HF⟩
          case measure => simp [intOf]; omega
      · have t45 : ((d : Int) == 45) = false := by rw [beq_eq_false_iff_ne]; omega
        have t45' : ((d : Int) != 45) = true := by rw [bne_iff_ne]; omega
        have HF := Lib.hid (HNO.out (HS.out.no (by simp; omega)))
        rcases Nat.eq_zero_or_pos k with hk0 | hk0
        · subst hk0
          rcases h with h | ⟨h, h2⟩ | ⟨h, h2⟩ | ⟨h, h2⟩ | h
          all_goals
            try have l1 : decide ((d : Int) ≤ 122) = false := by simp; omega
            try have l2 : decide ((d : Int) ≤ 90) = false := by simp; omega
            try have l3 : decide ((d : Int) ≤ 57) = false := by simp; omega
            go_wp2
            go_ret
            exact ⟨by rw [HF.out]; rfl, HB.out⟩
        · have tk : ((k : Int) == 0) = false := by rw [beq_eq_false_iff_ne]; omega
          rcases h with h | ⟨h, h2⟩ | ⟨h, h2⟩ | ⟨h, h2⟩ | h
          all_goals
            try have l1 : decide ((d : Int) ≤ 122) = false := by simp; omega
            try have l2 : decide ((d : Int) ≤ 90) = false := by simp; omega
            try have l3 : decide ((d : Int) ≤ 57) = false := by simp; omega
            go_wp2
            go_ret
            exact ⟨by rw [HF.out]; rfl, HB.out⟩
    · have hall : langAll v.data.toList := fun j hj => hR.out.2 j hj (by have : v.data.toList.length = v.size := rfl; omega)
      have HX : Hid (1 ≤ v.size ∧ v.size ≤ 16 → b = true) := fun h => hb.out.2 ⟨hall, h.1, h.2⟩
      have HN : Hid (¬ (1 ≤ v.size ∧ v.size ≤ 16) → b = false) := fun h => HNO.out fun hp => h hp.2
      clear hall
      rcases Nat.lt_or_ge v.size 1 with h1 | h1
      · have HF := Lib.hid (HN.out (by omega))
        go_wp2
        go_ret
        exact ⟨by rw [HF.out]; rfl, HB.out⟩
      · rcases Nat.lt_or_ge 16 v.size with h2 | h2
        · have HF := Lib.hid (HN.out (by omega))
          have l16 : decide ((v.size : Int) ≤ 16) = false := by simp; omega
          go_wp2
          go_ret
          exact ⟨by rw [HF.out]; rfl, HB.out⟩
        · have HF := Lib.hid (HX.out ⟨h1, h2⟩)
          have l16 : decide ((v.size : Int) ≤ 16) = true := by simp; omega
          go_wp2
          go_ret
          exact ⟨by rw [HF.out]; rfl, HB.out⟩
end Go.Proofs.YtcfgbdhpcboikaaGreatDoor

namespace Go.Proofs.YtcfgbdhpcboikaaGreatDoor
open Go.RowKit

theorem atof_all (s : ByteArray) (hn : numB s.data.toList = true) : ARes s := by
  obtain ⟨neg, p0, q, ev, hs, hsg, N, hE, SP⟩ := numB_reads s hn
  have hlt := N.lt
  have hle := N.le
  have hch := part_all s p0 q N q (Nat.le_of_lt hlt) (Nat.le_refl _)
  have hpl := part_len s p0 q (Nat.le_of_lt hlt) hle
  have RD : RdAt s (rfold (part s p0 q)).mant ((rfold (part s p0 q)).expo ev) neg (rfold (part s p0 q)).trunc := fun w => read_any s neg p0 q w hs hsg N ev hE
  have rb := rb_at s p0 q N q (Nat.le_of_lt hlt) (Nat.le_refl _)
  have so := sok_fold neg (part s p0 q) (by omega) hch
  have few := rfold_few (part s p0 q) hch
  have SF : ∀ w B, DecAt w B decN → Calls Tryz.prog 240 #[.pointer (some ⟨B, 0, none⟩), .string s] w fun e w' => e = .returned (.bool true) ∧ DecAt w' B (setF neg (part s p0 q) ev) ∧ Kept (· = B) w w' :=
    fun w B h => set_any B s neg p0 q w h hs hsg N ev hE
  have hm := rb.mant
  have h19 := pow19 (rfold (part s p0 q)).ndM (by have := rb.ndM; omega)
  refine atof_any s _ _ neg _ hs SP RD (by omega) (setF neg (part s p0 q) ev) ⟨so.len, ?_, so.dig, so.head⟩ so.neg ?_ SF
  · have := so.le
    show (sfold neg (part s p0 q)).nd ≤ 800
    omega
  · intro hm0 ht
    have h20 : 20 ≤ (rfold (part s p0 q)).nd := by
      refine Nat.le_of_not_lt fun h => ?_
      rw [few (by omega)] at ht
      cases ht
    refine ⟨?_, ?_⟩
    · show 1 ≤ (sfold neg (part s p0 q)).nd
      have := so.nd
      omega
    · unfold RS.expo
      rw [if_neg hm0]
      have := rb.ndM
      show (rfold (part s p0 q)).place + ev - _ + 19 = (rfold (part s p0 q)).place + ev
      omega
end Go.Proofs.YtcfgbdhpcboikaaGreatDoor

namespace Go.Proofs.YtcfgbdhpcboikaaGreatDoor
open Go.RowKit

theorem fix_all (w0 : World) (T0 : Tabs w0) (v : ByteArray) (hv : v.size ≤ maxLen) : (∃ t, FixAt v t) ∨ FixNo v := by
  rcases parse_all atof_all v hv with ⟨neg, b, hb, hp⟩ | h
  · obtain ⟨t, ht⟩ := prn_all neg b hb
    refine .inl ⟨t, ht.sz, ?_, fun w T => fix_b v _ t w T hp ht.pr, ht.fx⟩
    cases hn : numB t.data.toList with
    | true => rfl
    | false =>
      have h1 := fun w (_ : Tabs w) => parse_no t w (by have := ht.sz; unfold maxLen; omega) hn
      have h2 := fix_no t w0 T0 (fun w T => same_below (h1 w T))
      have h3 := ht.fx w0 T0
      have := calls_det (by kernel_rfl) h3 h2
      simp at this
  · exact .inr fun w T => fix_no v w T h
end Go.Proofs.YtcfgbdhpcboikaaGreatDoor
