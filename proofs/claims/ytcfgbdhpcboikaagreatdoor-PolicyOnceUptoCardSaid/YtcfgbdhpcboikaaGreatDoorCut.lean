/-
  A cut of a slice of bytes, as one equation with the address written out.
  What has its form has it once for all: Text of Text, Link of Link. No program in sight.
  The document's utf8: size, least, Char.
-/
import Derived.Test.YtcfgbdhpcboikaaGreatDoorBase
import Derived.Test.YtcfgbdhpcboikaaGreatDoorTextLaw
import Derived.Test.YtcfgbdhpcboikaaGreatDoorShelf
namespace Go.Proofs.YtcfgbdhpcboikaaGreatDoor
open Go.RowKit
section
variable {P : Program} (T E : TypeId) (ht : P.underlying T = some (.slice E)) (hs : (P.info? E).map (·.size) = some 1) (w : World) (a : Option Addr) (n c l h : Nat)
include ht hs
theorem run_cut_h (h1 : h ≤ c) : (Instr.slice T (.slice a n c) none (some (.int .i64 h)) none).run P w = .ok (.slice a h c) w := by
  cases hq : P.info? E with
  | none => simp [hq] at hs
  | some i =>
    simp [Instr.slice, run_underlying ht, Instr.sliceBounds, run_sliceBound, sizeOf, typeInfo, hq, h1, Addr.add]
theorem run_cut_lh (h1 : l ≤ h) (h2 : h ≤ c) : (Instr.slice T (.slice a n c) (some (.int .i64 l)) (some (.int .i64 h)) none).run P w = .ok (.slice (if c = l then a else a.map (·.add l)) (h - l) (c - l)) w := by
  cases hq : P.info? E with
  | none => simp [hq] at hs
  | some i =>
    have hi : i.size = 1 := by simpa [hq] using hs
    simp [Instr.slice, run_underlying ht, Instr.sliceBounds, run_sliceBound, sizeOf, typeInfo, hq, hi, h1, h2]
end
theorem OwnB.empty (w : World) (base : Nat) (E : TypeId) (h : base ≤ w.heap.size) : OwnB (w.alloc (.cells #[] E)) base E (some ⟨w.heap.size, 0, none⟩) 0 [] :=
  World.ownsRow_made w #[] 0 h (by unfold maxLen; omega) rfl
theorem IsB.same {w w' : World} {a : Option Addr} {bs : List UInt8} (h : IsB w a bs) (hh : w'.heap = w.heap) : IsB w' a bs := by
  intro j b hb
  obtain ⟨x, hx, hc⟩ := h j b hb
  exact ⟨x, hx, by unfold World.cell? at *; rw [hh]; exact hc⟩
end Go.Proofs.YtcfgbdhpcboikaaGreatDoor

namespace Go.Proofs.YtcfgbdhpcboikaaGreatDoor
open PU8

theorem nats_enc (r : Nat) (h : Val r) : natsU (encU r) = encN r := by
  obtain ⟨h1, h2⟩ := h
  unfold natsU encU
  rw [List.map_map]
  conv => rhs; rw [← List.map_id (encN r)]
  apply List.map_congr_left
  intro c hc
  have hlt : c < 256 := by
    unfold encN at hc
    repeat' split at hc
    all_goals simp only [List.mem_cons, List.mem_nil_iff, or_false] at hc
    all_goals omega
  simp only [Function.comp]
  exact ofN c hlt
theorem nats_append (a b : List UInt8) : natsU (a ++ b) = natsU a ++ natsU b := by simp [natsU]
theorem cont_one (lo hi n c : Nat) (r : List Nat) (h : ¬ (c < lo ∨ hi < c)) : contU 1 lo hi n (c :: r) = (n + 1, true) := by
  unfold contU; rw [if_neg h]; rfl
theorem cont_two (lo hi n c d : Nat) (r : List Nat) (h : ¬ (c < lo ∨ hi < c)) (h2 : ¬ (d < 0x80 ∨ 0xbf < d)) : contU 2 lo hi n (c :: d :: r) = (n + 2, true) := by
  unfold contU; rw [if_neg h, cont_one _ _ _ _ _ h2]
theorem cont_three (lo hi n c d e : Nat) (r : List Nat) (h : ¬ (c < lo ∨ hi < c)) (h2 : ¬ (d < 0x80 ∨ 0xbf < d)) (h3 : ¬ (e < 0x80 ∨ 0xbf < e)) : contU 3 lo hi n (c :: d :: e :: r) = (n + 3, true) := by
  unfold contU; rw [if_neg h, cont_two _ _ _ _ _ _ h2 h3]
theorem look_enc (r : Nat) (h : Val r) (t : List Nat) : lookU (encN r ++ t) = ((encN r).length, true) := by
  obtain ⟨h1, h2⟩ := h
  by_cases a : r < 0x80
  · have e : encN r = [r] := by unfold encN; rw [if_pos a]
    rw [e, List.singleton_append, look_cons, if_pos a]; rfl
  · by_cases b : r < 0x800
    · rw [enc_two r (by omega) b]
      simp only [List.cons_append, List.nil_append]
      rw [look_cons, if_neg (by omega), if_neg (by omega), if_pos (by omega), cont_one _ _ _ _ _ (by omega)]
      rfl
    · by_cases c : r < 0x10000
      · rw [enc_three r (by omega) c]
        simp only [List.cons_append, List.nil_append]
        rw [look_cons, if_neg (by omega), if_neg (by omega), if_neg (by omega)]
        by_cases d : r / 4096 = 0
        · rw [if_pos (by omega), cont_two _ _ _ _ _ _ (by omega) (by omega)]; rfl
        · rw [if_neg (by omega)]
          by_cases f : r / 4096 = 13
          · rw [if_pos (by omega), cont_two _ _ _ _ _ _ (by omega) (by omega)]; rfl
          · rw [if_neg (by omega), if_pos (by omega), cont_two _ _ _ _ _ _ (by omega) (by omega)]; rfl
      · rw [enc_four r (by omega)]
        simp only [List.cons_append, List.nil_append]
        rw [look_cons, if_neg (by omega), if_neg (by omega), if_neg (by omega), if_neg (by omega), if_neg (by omega), if_neg (by omega)]
        by_cases d : r / 262144 = 0
        · rw [if_pos (by omega), cont_three _ _ _ _ _ _ _ (by omega) (by omega) (by omega)]; rfl
        · rw [if_neg (by omega)]
          by_cases f : r / 262144 < 4
          · rw [if_pos (by omega), cont_three _ _ _ _ _ _ _ (by omega) (by omega) (by omega)]; rfl
          · rw [if_neg (by omega), if_pos (by omega), cont_three _ _ _ _ _ _ _ (by omega) (by omega) (by omega)]; rfl
theorem enc_inj (r v : Nat) (h : encN r = encN v) : r = v := by
  unfold encN at h
  repeat' split at h
  all_goals simp only [List.cons.injEq, and_true, reduceCtorEq, and_false] at h
  all_goals omega
theorem piece_enc (r : Nat) (h : Val r) (t : List UInt8) : (pieceU (natsU (encU r ++ t))).2.1 = r ∧ (pieceU (natsU (encU r ++ t))).1 = (encU r).length := by
  have hl : lookU (natsU (encU r ++ t)) = ((encN r).length, true) := by
    rw [nats_append, nats_enc r h]; exact look_enc r h _
  have s := sameU (natsU (encU r ++ t)) (nats_ne (enc_ne r t))
  have hn := s.num
  rw [hl] at hn
  have h1 := (enc_len r).1
  have e1 : (encU r).length = (encN r).length := by unfold encU; simp
  have hn' : (pieceU (natsU (encU r ++ t))).1 = (encU r).length := by
    rw [hn, e1]
    simp only
    omega
  refine ⟨?_, hn'⟩
  have hv := (s.val (by rw [hl])).1
  have ht : (natsU (encU r ++ t)).take (encN r).length = encN r := by
    rw [nats_append, nats_enc r h, List.take_left]
  rw [hn', e1, ht] at hv
  exact enc_inj _ _ hv
theorem runes_enc (rs : List Nat) (h : ∀ r ∈ rs, Val r) : runesU (rs.flatMap encU) = rs := by
  induction rs with
  | nil => rfl
  | cons r rs ih =>
    have hr := h r (List.mem_cons_self ..)
    rw [List.flatMap_cons, runes_step _ (enc_ne r _)]
    obtain ⟨e1, e2⟩ := piece_enc r hr (rs.flatMap encU)
    rw [e1, e2, List.drop_left, ih fun x hx => h x (List.mem_cons_of_mem _ hx)]

def Plainly (l : List UInt8) : Prop := ∃ rs : List Nat, l = rs.flatMap encU ∧ ∀ r ∈ rs, Val r ∧ keepR r = true
theorem text_plainly (l : List UInt8) : Plainly (textL l) :=
  ⟨_, rfl, fun r hr => by
    obtain ⟨h1, h2⟩ := List.mem_filter.1 hr
    exact ⟨runes_val l.length l (Nat.le_refl _) r h1, h2⟩⟩
theorem text_of_plainly {l : List UInt8} (h : Plainly l) : textL l = l := by
  obtain ⟨rs, rfl, hrs⟩ := h
  unfold textL
  rw [runes_enc rs fun r hr => (hrs r hr).1, List.filter_eq_self.2 fun r hr => (hrs r hr).2]
theorem text_text (l : List UInt8) : textL (textL l) = textL l := text_of_plainly (text_plainly l)

theorem enc_low1 (r : Nat) (h : r < 128) : encU r = [UInt8.ofNat r] := by unfold encU encN; rw [if_pos (by omega)]; rfl
theorem enc_high (r : Nat) (h : 128 ≤ r) (h2 : r ≤ 0x10ffff) : ∀ b ∈ encU r, 128 ≤ b.toNat := by
  intro b hb
  unfold encU at hb
  obtain ⟨c, hc, rfl⟩ := List.mem_map.1 hb
  unfold encN at hc
  rw [if_neg (by omega)] at hc
  repeat' split at hc
  all_goals simp only [List.mem_cons, List.mem_nil_iff, or_false] at hc
  all_goals (rw [ofN c (by omega)]; omega)
theorem filter_enc (c : Nat) (hc : c < 128) (rs : List Nat) (h : ∀ r ∈ rs, Val r) : (rs.flatMap encU).filter (fun b => b != UInt8.ofNat c) = (rs.filter (fun r => r != c)).flatMap encU := by
  induction rs with
  | nil => rfl
  | cons r rs ih =>
    have hr := h r (List.mem_cons_self ..)
    rw [List.flatMap_cons, List.filter_append, ih fun x hx => h x (List.mem_cons_of_mem _ hx)]
    by_cases hl : r < 128
    · rw [enc_low1 r hl]
      by_cases e : r = c
      · subst e
        rw [List.filter_cons_of_neg (by simp), List.filter_cons_of_neg (by simp)]
        rfl
      · have hne : UInt8.ofNat r ≠ UInt8.ofNat c := by
          intro e2
          have := congrArg UInt8.toNat e2
          rw [ofN r (by omega), ofN c (by omega)] at this
          exact e this
        rw [List.filter_cons_of_pos (by simpa using hne), List.filter_cons_of_pos (by simpa using e), List.flatMap_cons, enc_low1 r hl]
        rfl
    · have hkeep : (encU r).filter (fun b => b != UInt8.ofNat c) = encU r := by
        rw [List.filter_eq_self]
        intro b hb
        have := enc_high r (by omega) hr.2 b hb
        simp only [bne_iff_ne, ne_eq]
        intro e2
        rw [e2, ofN c (by omega)] at this
        omega
      rw [hkeep, List.filter_cons_of_pos (by simp; omega), List.flatMap_cons]
theorem head_enc (r c : Nat) (hc : c < 128) (h : Val r) (hne : r ≠ c) (t : List UInt8) : ∀ b, (encU r ++ t).head? = some b → b ≠ UInt8.ofNat c := by
  intro b hb e
  have hm : b ∈ encU r := by
    cases he : encU r with
    | nil => have := (enc_len r).1; rw [he] at this; simp at this
    | cons x l => rw [he] at hb; simp at hb; subst hb; exact List.mem_cons_self ..
  by_cases hl : r < 128
  · rw [enc_low1 r hl] at hm
    simp at hm
    rw [hm] at e
    have := congrArg UInt8.toNat e
    rw [ofN r (by omega), ofN c (by omega)] at this
    exact hne this
  · have := enc_high r (by omega) h.2 b hm
    rw [e, ofN c (by omega)] at this
    omega
theorem dropWhile_enc (c : Nat) (hc : c < 128) (rs : List Nat) (h : ∀ r ∈ rs, Val r) : (rs.flatMap encU).dropWhile (· == UInt8.ofNat c) = (rs.dropWhile (· == c)).flatMap encU := by
  induction rs with
  | nil => rfl
  | cons r rs ih =>
    have hr := h r (List.mem_cons_self ..)
    by_cases e : r = c
    · subst e
      rw [List.flatMap_cons, enc_low1 r hc, List.singleton_append, List.dropWhile_cons_of_pos (by simp), List.dropWhile_cons_of_pos (by simp)]
      exact ih fun x hx => h x (List.mem_cons_of_mem _ hx)
    · rw [List.dropWhile_cons_of_neg (by simpa using e), List.flatMap_cons]
      have hh := head_enc r c hc hr e (rs.flatMap encU)
      cases hl : encU r ++ rs.flatMap encU with
      | nil => exact absurd hl (enc_ne r _)
      | cons b l =>
        rw [hl] at hh
        rw [List.dropWhile_cons_of_neg]
        simpa using hh b rfl
theorem trimLeft_plainly {l : List UInt8} (h : Plainly l) : Plainly (Lib.trimLeftB l 32) := by
  obtain ⟨rs, rfl, hrs⟩ := h
  refine ⟨rs.dropWhile (· == 32), dropWhile_enc 32 (by omega) rs fun r hr => (hrs r hr).1, fun r hr => hrs r ?_⟩
  exact (List.dropWhile_sublist _).subset hr
theorem trimRight_snoc (l : List UInt8) (b c : UInt8) : Lib.trimRightB (l ++ [b]) c = if b = c then Lib.trimRightB l c else l ++ [b] := by
  unfold Lib.trimRightB
  rw [List.reverse_append]
  simp only [List.reverse_cons, List.reverse_nil, List.nil_append, List.singleton_append]
  by_cases h : b = c
  · rw [if_pos h, List.dropWhile_cons_of_pos (by simpa using h)]
  · rw [if_neg h, List.dropWhile_cons_of_neg (by simpa using h)]
    simp
theorem trimRight_keep (l m : List UInt8) (c : UInt8) (hm : m ≠ []) (h : ∀ b ∈ m, b ≠ c) : Lib.trimRightB (l ++ m) c = l ++ m := by
  obtain ⟨m', b, rfl⟩ : ∃ m' b, m = m' ++ [b] := ⟨m.dropLast, m.getLast hm, (List.dropLast_concat_getLast hm).symm⟩
  rw [← List.append_assoc, trimRight_snoc, if_neg (h b (by simp))]
theorem snocB_ind {α : Type} {P : List α → Prop} (h0 : P []) (h1 : ∀ l x, P l → P (l ++ [x])) (l : List α) : P l := by
  have : ∀ n (l : List α), l.length = n → P l := by
    intro n
    induction n with
    | zero =>
      intro l hl
      have := List.eq_nil_of_length_eq_zero hl
      subst this
      exact h0
    | succ n ih =>
      intro l hl
      have hne : l ≠ [] := by intro e; subst e; simp at hl
      rw [← List.dropLast_concat_getLast hne]
      exact h1 _ _ (ih _ (by rw [List.length_dropLast]; omega))
  exact this l.length l rfl
theorem trimRight_plainly {l : List UInt8} (h : Plainly l) : Plainly (Lib.trimRightB l 32) := by
  obtain ⟨rs, rfl, hrs⟩ := h
  revert hrs
  refine snocB_ind (P := fun rs => (∀ r ∈ rs, Val r ∧ keepR r = true) → Plainly (Lib.trimRightB (rs.flatMap encU) 32)) ?_ ?_ rs
  · intro _; exact ⟨[], rfl, fun r hr => by cases hr⟩
  · intro rs r ih hrs
    have hr := hrs r (by simp)
    have hrs' : ∀ x ∈ rs, Val x ∧ keepR x = true := fun x hx => hrs x (by simp [hx])
    rw [List.flatMap_append, List.flatMap_singleton]
    by_cases e : r = 32
    · subst e
      have e32 : encU 32 = [32] := by decide
      rw [e32, trimRight_snoc, if_pos rfl]
      exact ih hrs'
    · rw [trimRight_keep _ _ 32 (by intro h0; have := (enc_len r).1; rw [h0] at this; simp at this)]
      · refine ⟨rs ++ [r], by rw [List.flatMap_append, List.flatMap_singleton], hrs⟩
      · intro b hb e2
        by_cases hl : r < 128
        · rw [enc_low1 r hl] at hb
          simp at hb
          rw [hb] at e2
          have := congrArg UInt8.toNat e2
          rw [ofN r (by omega)] at this
          exact e this
        · have := enc_high r (by omega) hr.1.2 b hb
          rw [e2] at this
          exact absurd this (by decide)
theorem bare_plainly (l : List UInt8) : Plainly (bareL l) := by
  obtain ⟨rs, e, hrs⟩ := text_plainly l
  unfold bareL
  rw [e]
  have h9 := filter_enc 9 (by omega) rs fun r hr => (hrs r hr).1
  have e9 : UInt8.ofNat 9 = 9 := rfl
  rw [e9] at h9
  rw [h9]
  have h10 := filter_enc 10 (by omega) (rs.filter (fun r => r != 9)) fun r hr => (hrs r (List.mem_filter.1 hr).1).1
  have e10 : UInt8.ofNat 10 = 10 := rfl
  rw [e10] at h10
  rw [h10]
  exact ⟨_, rfl, fun r hr => hrs r (List.mem_filter.1 (List.mem_filter.1 hr).1).1⟩
theorem link_plainly (l : List UInt8) : Plainly (linkL l) := by
  unfold linkL Lib.trimB
  exact trimLeft_plainly (trimRight_plainly (bare_plainly l))
theorem text_link (l : List UInt8) : textL (linkL l) = linkL l := text_of_plainly (link_plainly l)
theorem trimB_sub (l : List UInt8) (c : UInt8) : (Lib.trimB l c).Sublist l := by
  unfold Lib.trimB Lib.trimLeftB Lib.trimRightB
  refine (List.dropWhile_sublist _).trans ?_
  have := (List.dropWhile_sublist (fun x => x == c) (l := l.reverse)).reverse
  rwa [List.reverse_reverse] at this
theorem link_sub (l : List UInt8) : (linkL l).Sublist (textL l) := by
  unfold linkL
  refine (trimB_sub _ _).trans ?_
  unfold bareL
  exact (List.filter_sublist).trans List.filter_sublist
theorem trimRight_idem (l : List UInt8) (c : UInt8) : Lib.trimRightB (Lib.trimRightB l c) c = Lib.trimRightB l c := by
  refine snocB_ind (P := fun l => Lib.trimRightB (Lib.trimRightB l c) c = Lib.trimRightB l c) rfl ?_ l
  intro l b ih
  rw [trimRight_snoc]
  by_cases h : b = c
  · rw [if_pos h]; exact ih
  · rw [if_neg h, trimRight_snoc, if_neg h]
theorem trimLeft_idem (l : List UInt8) (c : UInt8) : Lib.trimLeftB (Lib.trimLeftB l c) c = Lib.trimLeftB l c := by
  unfold Lib.trimLeftB
  induction l with
  | nil => rfl
  | cons b l ih =>
    by_cases h : b = c
    · rw [List.dropWhile_cons_of_pos (by simpa using h)]; exact ih
    · rw [List.dropWhile_cons_of_neg (by simpa using h), List.dropWhile_cons_of_neg (by simpa using h)]
theorem trimRight_left (l : List UInt8) (c : UInt8) (h : Lib.trimRightB l c = l) : Lib.trimRightB (Lib.trimLeftB l c) c = Lib.trimLeftB l c := by
  unfold Lib.trimLeftB
  induction l with
  | nil => rfl
  | cons b l ih =>
    by_cases hb : b = c
    · rw [List.dropWhile_cons_of_pos (by simpa using hb)]
      apply ih
      by_cases hl : l = []
      · subst hl; rfl
      · obtain ⟨m, x, rfl⟩ : ∃ m x, l = m ++ [x] := ⟨l.dropLast, l.getLast hl, (List.dropLast_concat_getLast hl).symm⟩
        rw [← List.cons_append, trimRight_snoc] at h
        by_cases hx : x = c
        · rw [if_pos hx] at h
          have hle : (Lib.trimRightB (b :: m) c).length ≤ (b :: m).length := by
            unfold Lib.trimRightB
            rw [List.length_reverse]
            exact Nat.le_trans (List.dropWhile_sublist _).length_le (by simp)
          rw [h] at hle
          simp at hle
          omega
        · rw [trimRight_snoc, if_neg hx]
    · rw [List.dropWhile_cons_of_neg (by simpa using hb)]; exact h
theorem trimB_idem (l : List UInt8) (c : UInt8) : Lib.trimB (Lib.trimB l c) c = Lib.trimB l c := by
  unfold Lib.trimB
  rw [trimRight_left _ _ (trimRight_idem l c), trimLeft_idem]
theorem link_link (l : List UInt8) : linkL (linkL l) = linkL l := by
  have h : bareL (linkL l) = linkL l := by
    rw [bare_filter, text_link, List.filter_eq_self]
    intro b hb
    have hm : b ∈ bareL l := (trimB_sub _ _).subset hb
    rw [bare_filter] at hm
    exact (List.mem_filter.1 hm).2
  show Lib.trimB (bareL (linkL l)) 32 = linkL l
  rw [h]
  exact trimB_idem _ _
end Go.Proofs.YtcfgbdhpcboikaaGreatDoor

namespace Go.Proofs.YtcfgbdhpcboikaaGreatDoor
open Go.RowKit PU8

theorem size_b1 (c : Nat) (h : c < 128) : PU8.size c = (1, c) := by unfold PU8.size; rw [if_pos h]
theorem size_b0 (c : Nat) (h : 128 ≤ c) (h2 : c < 192) : PU8.size c = (0, 0) := by unfold PU8.size; rw [if_neg (by omega), if_neg (by omega), if_neg (by omega), if_neg (by omega)]
theorem size_b2 (c : Nat) (h : 192 ≤ c) (h2 : c < 224) : PU8.size c = (2, c - 192) := by unfold PU8.size; rw [if_neg (by omega), if_pos (by omega)]
theorem size_b3 (c : Nat) (h : 224 ≤ c) (h2 : c < 240) : PU8.size c = (3, c - 224) := by unfold PU8.size; rw [if_neg (by omega), if_neg (by omega), if_pos (by omega)]
theorem size_b4 (c : Nat) (h : 240 ≤ c) (h2 : c < 248) : PU8.size c = (4, c - 240) := by unfold PU8.size; rw [if_neg (by omega), if_neg (by omega), if_neg (by omega), if_pos (by omega)]
theorem size_b5 (c : Nat) (h : 248 ≤ c) : PU8.size c = (0, 0) := by unfold PU8.size; rw [if_neg (by omega), if_neg (by omega), if_neg (by omega), if_neg (by omega)]
theorem ret_ii {a b c d : Int} (h : a = c) (h2 : b = d) : Ending.returned (.tuple #[.int .i64 a, .int .i64 b]) = .returned (.tuple #[.int .i64 c, .int .i64 d]) := by rw [h, h2]
theorem ret_one {a b : Int} (h : a = b) : Ending.returned (.int .i64 a) = .returned (.int .i64 b) := by rw [h]
set_option maxRecDepth 100000 in
theorem rsize_any (c : UInt8) (n v : Nat) (w : World) (hs : Hid (PU8.size c.toNat = (n, v))) :
    Calls Tryz.prog 180 #[.int .u8 c.toNat] w fun e w' => e = .returned (.tuple #[.int .i64 n, .int .i64 v]) ∧ w = w' := by
  have hc : c.toNat < 256 := c.toNat_lt
  generalize c.toNat = c at hs hc
  have hcases : c < 128 ∨ (128 ≤ c ∧ c < 192) ∨ (192 ≤ c ∧ c < 224) ∨ (224 ≤ c ∧ c < 240) ∨ (240 ≤ c ∧ c < 248) ∨ 248 ≤ c := by omega
  rcases hcases with h | ⟨h, h2⟩ | ⟨h, h2⟩ | ⟨h, h2⟩ | ⟨h, h2⟩ | h
  · have hb := size_b1 c h
    rw [hs.out] at hb
    obtain ⟨rfl, rfl⟩ := Prod.mk.inj hb
    clear hb
    go_enter Tryz.func180, Tryz.ntmps180
    go_wp2
    go_ret2
    exact ⟨ret_ii (by omega) (by omega), rfl⟩
  · have hb := size_b0 c h h2
    rw [hs.out] at hb
    obtain ⟨rfl, rfl⟩ := Prod.mk.inj hb
    clear hb
    go_enter Tryz.func180, Tryz.ntmps180
    go_wp2
    go_ret2
    exact ⟨ret_ii (by omega) (by omega), rfl⟩
  · have hb := size_b2 c h h2
    rw [hs.out] at hb
    obtain ⟨rfl, rfl⟩ := Prod.mk.inj hb
    clear hb
    go_enter Tryz.func180, Tryz.ntmps180
    go_wp2
    go_ret2
    exact ⟨ret_ii (by omega) (by omega), rfl⟩
  · have hb := size_b3 c h h2
    rw [hs.out] at hb
    obtain ⟨rfl, rfl⟩ := Prod.mk.inj hb
    clear hb
    go_enter Tryz.func180, Tryz.ntmps180
    go_wp2
    go_ret2
    exact ⟨ret_ii (by omega) (by omega), rfl⟩
  · have hb := size_b4 c h h2
    rw [hs.out] at hb
    obtain ⟨rfl, rfl⟩ := Prod.mk.inj hb
    clear hb
    go_enter Tryz.func180, Tryz.ntmps180
    go_wp2
    go_ret2
    exact ⟨ret_ii (by omega) (by omega), rfl⟩
  · have hb := size_b5 c h
    rw [hs.out] at hb
    obtain ⟨rfl, rfl⟩ := Prod.mk.inj hb
    clear hb
    go_enter Tryz.func180, Tryz.ntmps180
    go_wp2
    go_ret2
    exact ⟨ret_ii (by omega) (by omega), rfl⟩

set_option maxRecDepth 100000 in
theorem rleast_any (n : Nat) (hn : n ≤ 4) (w : World) : Calls Tryz.prog 181 #[.int .i64 n] w fun e w' => e = .returned (.int .i64 (PU8.least n : Nat)) ∧ w = w' := by
  have hcases : n = 0 ∨ n = 1 ∨ n = 2 ∨ n = 3 ∨ n = 4 := by omega
  have hl0 : PU8.least 0 = 0 := rfl
  have hl1 : PU8.least 1 = 0 := rfl
  have hl2 : PU8.least 2 = 128 := rfl
  have hl3 : PU8.least 3 = 2048 := rfl
  have hl4 : PU8.least 4 = 65536 := rfl
  rcases hcases with rfl | rfl | rfl | rfl | rfl
  all_goals
    simp only [hl0, hl1, hl2, hl3, hl4]
    clear hl0 hl1 hl2 hl3 hl4
    go_enter Tryz.func181, Tryz.ntmps181
    go_wp2
    go_ret
    exact ⟨ret_one (by simp), rfl⟩
end Go.Proofs.YtcfgbdhpcboikaaGreatDoor
