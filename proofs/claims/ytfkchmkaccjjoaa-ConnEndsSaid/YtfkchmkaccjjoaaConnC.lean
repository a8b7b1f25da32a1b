/-
  Contracts of the connection's functions: slices.Clone, Written, Write, New.
-/
import Derived.Test.YtfkchmkaccjjoaaConnB
namespace Go.Proofs.Ytfkchmkaccjjoaa
open Go.RowKit

def ClonePost (w : World) (n : Nat) (bs : List UInt8) (e : Ending) (w' : World) : Prop :=
  ∃ x cp, e = .returned (.slice x n cp) ∧ OwnB w' w.heap.size 5 x cp bs ∧ Kept (fun _ => False) w w'

theorem clone_any (w : World) (ba : Option Addr) (bl bc : Nat) (bs : List UInt8) (hl : bs.length = bl) (hb2 : bl ≤ 140737488355328) (hsrc : IsB w ba bs) (hz : ba = none → bc = 0) :
    Calls Try.prog 38 #[.slice ba bl bc] w (ClonePost w bl bs) := by
  obtain ⟨i0, hi, hz0, hz1, hz2⟩ := info_parts Try.infoE5
  have Hi := Lib.hid hi
  have Hz0 := Lib.hid hz0
  have Hz1 := Lib.hid hz1
  have Hz2 := Lib.hid hz2
  have Hl := Lib.hid hl
  have Hsrc := Lib.hid hsrc
  obtain ⟨N, hN⟩ : ∃ N, w.heap.size = N := ⟨_, rfl⟩
  have HN := Lib.hid hN
  clear hi hz0 hz1 hz2 hl hsrc hN
  have q22 : ∀ (w : World) (a : Option Addr) (n c : Nat), (binOp .eql 22 (.slice a n c) (.slice none 0 0)).run Try.prog w = .ok (.bool a.isNone) w := fun w a n c => Lib.run_eql_slice_nil w 22 5 a n c 0 0 Try.underlying22
  cases ba with
  | none =>
    have e1 := Hsrc.out.none_eq
    have e2 := Hl.out
    rw [e1] at e2
    obtain rfl : bl = 0 := e2.symm
    obtain rfl : bc = 0 := hz rfl
    go_enter Try.func38, Try.ntmps38
    go_wp2
    go_ret
    exact ⟨none, 0, rfl, by first | exact OwnB.nil _ _ _ | (rw [e1]; exact OwnB.nil _ _ _), Kept.refl _ w⟩
  | some y =>
    have O1 : Hid (OwnB (w.alloc (.cells #[] 5)) N 5 (some ⟨w.heap.size, 0, none⟩) 0 []) := OwnB.empty w N 5 (by rw [← HN.out]; exact Nat.le_refl _)
    have K1 : Hid (Kept (fun _ => False) w (w.alloc (.cells #[] 5))) := (Kept.refl _ w).alloc _
    go_enter Try.func38, Try.ntmps38
    go_wp2_with (at_builtin; go_loud (refine wpList_appendB (by rfl) (.tmp 5) (.tmp 6) 22 (by rfl) N 5 i0 Try.underlying22 Hi.out Hz0.out Hz1.out Hz2.out _ 0 0 [] (by rfl) rfl O1.out _ _ _ bs (by rfl) Hl.out (Hsrc.out.kept K1.out (fun _ _ _ h => h)) (by omega) (by rw [← HN.out]; exact K1.out.size) ?_; intro a2 c2 w2 O2 K2 hat2))
    go_ret
    have hN := HN.out
    refine ⟨a2, c2, ?_, by rw [hN]; exact O2.out, K1.out.trans' K2 (fun i hi e => by simp at e; omega)⟩
    first
      | rfl
      | (rw [Nat.zero_add]; rfl)

section
variable (w : World) (p : Pl) (L : Nat) (aa : Option Addr) (ac : Nat) (qi qo all : List UInt8) (st : Nat) (en : Bool)

def WrittenPost (n : Nat) (e : Ending) (w' : World) : Prop :=
  ∃ x cp, e = .returned (.slice x n cp) ∧ OwnB w' w.heap.size 5 x cp all ∧ ConnAt w' p L aa ac qi qo all st en ∧ Kept (p.In aa) w w'

theorem written_any (h : ConnAt w p L aa ac qi qo all st en) (n : Nat) (hn : all.length = n) (hb : n ≤ 140737488355328) :
    Calls Try.prog 22 #[.pointer (some ⟨p.c, 0, none⟩)] w (WrittenPost w p L aa ac qi qo all st en n) := by
  have h4 := h.c4
  rw [hn] at h4
  have H := Lib.hid h
  have Hn := Lib.hid hn
  clear h hn
  have hz : aa = none → ac = 0 := by
    intro e
    rcases H.out.hall.2 with ⟨hv, _⟩ | ⟨g, cap, cur, hv, _⟩
    · simp only [Value.slice.injEq] at hv
      exact hv.2.2
    · rw [e] at hv; simp at hv
  have Hz := Lib.hid hz
  clear hz
  go_enter Try.func22, Try.ntmps22
  go_wp2_with (go_at_call 38; refine (clone_any _ _ _ _ all Hn.out hb H.out.hall.isB Hz.out).mono ?_; rintro e w1 ⟨x, cp, rfl, O1, K1⟩)
  go_ret
  exact ⟨x, cp, rfl, O1, H.out.kept K1 (fun _ _ h => h), K1.mono (fun _ _ h => h.elim)⟩

def CWritePost (k : Nat) (bs : List UInt8) (e : Ending) (w' : World) : Prop :=
  ∃ aa' ac', e = .returned (.int .i64 k) ∧ ConnAt w' p L aa' ac' qi (qo ++ bs.take k) (all ++ bs.take k) st en ∧ Kept (p.In aa) w w' ∧ (∀ y, aa' = some y → aa.map (·.block) = some y.block ∨ w.heap.size ≤ y.block)

def written (st bl m n : Nat) : Nat := if st = 0 then min bl (m - n) else 0

set_option maxHeartbeats 1000000 in
theorem write_any (h : ConnAt w p L aa ac qi qo all st en) (ba : Option Addr) (bl bc : Nat) (bs : List UInt8) (hl : bs.length = bl) (hb : bl ≤ bc) (hb2 : bc ≤ 9223372036854775807)
    (hsrc : IsB w ba bs) (hap : bs ≠ [] → ∀ x, ba = some x → ¬ p.In aa x.block) (hL : L ≤ w.heap.size) (hall : all.length ≤ 1000000000) :
    Calls Try.prog 18 #[.pointer (some ⟨p.c, 0, none⟩), .slice ba bl bc] w (CWritePost w p L aa qi qo all st en (written st bl p.mo qo.length) bs) := by
  have h2 := h.c2
  have h1 := h.c1
  have H := Lib.hid h
  have Hl := Lib.hid hl
  have Hsrc := Lib.hid hsrc
  have Hap := Lib.hid hap
  have Ho := Lib.hid (h.ok.own (aa := aa))
  clear h hl hsrc hap
  by_cases e1 : st = 0
  · subst e1
    have ek : written 0 bl p.mo qo.length = min bl (p.mo - qo.length) := by simp [written]
    rw [ek]
    have f1 := H.out.ho.fits
    obtain ⟨k, hk⟩ : ∃ k, k = min bl (p.mo - qo.length) := ⟨_, rfl⟩
    rw [← hk]
    have Hk := Lib.hid hk
    have k1 : k ≤ bl := by omega
    have k2 : k ≤ 4096 := by omega
    have i1 : (k : Int) ≤ bc := by omega
    have i2 : (0 : Int) ≤ k := by omega
    obtain ⟨al, hal⟩ : ∃ al, all.length = al := ⟨_, rfl⟩
    rw [hal] at hall
    have Hal := Lib.hid hal
    obtain ⟨i0, hi, hz0, hz1, hz2⟩ := info_parts Try.infoE5
    have Hi := Lib.hid hi
    have Hz0 := Lib.hid hz0
    have Hz1 := Lib.hid hz1
    have Hz2 := Lib.hid hz2
    clear hk ek f1 hal hi hz0 hz1 hz2
    have hsl : ∀ w, (Instr.slice 22 (.slice ba bl bc) none (some (.int .i64 k)) none).run Try.prog w = .ok (.slice ba k bc) w := fun w => run_cut_h 22 5 Try.underlying22 Try.info5 w ba bl bc k (by omega)
    go_enter Try.func18, Try.ntmps18
    go_wp2_with fail
    refine (ring_put _ _ _ _ k _ H.out.ho _ _ _ bs Hl.out hb hb2 Hsrc.out (fun hne x hx e => Hap.out hne x hx (by rw [e]; exact Ho.out.2.2.2.2)) Hk.out).mono ?_
    rintro e w1 ⟨rfl, R1, K1⟩
    have HK1 : Hid (Kept (p.In aa) w w1) := K1.mono (fun b _ hb => by
      rcases hb with rfl | rfl
      · exact Ho.out.2.2.2.1
      · exact Ho.out.2.2.2.2)
    have S1 : IsB w1 ba bs := Hsrc.out.kept HK1.out (fun x hx hne => Hap.out hne x hx)
    have HS1 := Lib.hid S1
    have HC1 := Lib.hid (H.out.setOut K1 (fun _ h => h) R1)
    have h4 := HC1.out.c4
    rw [Hal.out] at h4
    clear R1 K1 S1 h1 h2
    obtain ⟨S, hS⟩ : ∃ S : World → Prop, ∀ u, S u ↔ Kept (fun b => aa.map (·.block) = some b) w1 u := ⟨_, fun _ => Iff.rfl⟩
    haveI : Nonempty (WIn S) := ⟨⟨w1, (hS _).2 (Kept.refl _ w1)⟩⟩
    have HS := Lib.hid hS
    clear hS
    have hfar : ¬ (aa.map (·.block) = some p.c) := by
      intro e
      cases haa : aa with
      | none => rw [haa] at e; cases e
      | some y =>
        rw [haa] at e
        simp at e
        have := (H.out.hall.at y haa).1
        have := H.out.ok.hi
        have := H.out.hL
        omega
    have f1 : ∀ s : WIn S, s.w.cell? ⟨p.c, 4, none⟩ = some (.slice aa al ac) := fun s => Kept.cell ((HS.out _).1 s.h) h4 hfar
    have l1 : L ≤ w1.heap.size := Nat.le_trans hL HK1.out.size
    go_wp2_with fail
    refine region_segs 11 [([0, 1, 2, 3, 4, 5, 6, 7], 8)] [9, 10] S (by kernel_rfl) (by kernel_rfl) ((HS.out _).2 ((Kept.refl _ w1).drewN _)) ?_
    refine segs_step (fun K' hK' => ?_)
    simp only [pick, List.getElem?_cons_zero, List.getElem?_cons_succ, Option.getD_some]
    repeat (go_big_quiet_step (fail))
    refine wpQuiet_nil (hK' _ (fun Q1 hQ1 => ?_))
    clear hK' K'
    simp only [pick, List.getElem?_cons_zero, List.getElem?_cons_succ, Option.getD_some]
    have K1 : Kept (fun _ => False) w1 (w1.drewN 1) := (Kept.refl _ w1).drewN _
    have HKd := Lib.hid K1
    clear K1
    refine wpList_appendB (by rfl) (.tmp 21) (.tmp 24) 22 (by rfl) L 5 i0 Try.underlying22 Hi.out Hz0.out Hz1.out Hz2.out aa al ac all (by rfl) Hal.out (HC1.out.hall.kept HKd.out (fun _ _ h => h)) ba k bc (bs.take k) (by rfl) (by have := Hl.out; rw [List.length_take]; omega) ((HS1.out.kept HKd.out (fun _ _ _ h => h)).take k) (by omega) l1 ?_
    intro a2 c2 w2 O2 K2 hat2
    have HO2 := Lib.hid O2.out
    have HK2 : Hid (Kept (fun b => aa.map (·.block) = some b) w1 w2) := (HKd.out.mono (fun _ _ h => h.elim)).trans K2
    have Hat2 := Lib.hid hat2
    clear O2 K2 hat2
    go_wp2
    refine hQ1 _ _ ((HS.out _).2 HK2.out) (segs_last (fun K' hK' => ?_))
    simp only [pick, List.getElem?_cons_zero, List.getElem?_cons_succ, Option.getD_some]
    repeat (go_big_quiet_step (fail))
    refine wpQuiet_nil (hK' _ (fun Q4 hQ4 => ?_))
    clear hK' K'
    simp only [List.drop_succ_cons, List.drop_zero]
    have h4' := HK2.out.cell h4 hfar
    have hc2 := HK2.out.heap HC1.out.hc hfar
    have z4 := frozen_of_row w2 p.c 4 _ _ hc2
    have Hc2 := Lib.hid hc2
    clear hc2
    go_wp2
    go_ret
    refine ⟨a2, c2, rfl, ?_, ?_, ?_⟩
    · have hw : Kept (· = p.c) w2 (w2.setCell ⟨p.c, 4, none⟩ (.slice a2 (al + k : Nat) c2)) := (Kept.refl _ w2).setCell _ _ (fun _ => rfl)
      have d := H.out.ok.d
      have l2 := H.out.ok.hi
      have hLM := H.out.hL
      have far : ∀ b, b < L → ¬ (aa.map (·.block) = some b) := fun b hb e => by
        cases haa : aa with
        | none => rw [haa] at e; cases e
        | some y =>
          rw [haa] at e
          simp at e
          have := (H.out.hall.at y haa).1
          omega
      refine ⟨H.out.ok, ?_, (HC1.out.hi.kept HK2.out (far _ (by omega)) (far _ (by omega))).kept hw (by omega) (by omega), (HC1.out.ho.kept HK2.out (far _ (by omega)) (far _ (by omega))).kept hw (by omega) (by omega), HO2.out.kept hw (fun y hy => by have := (HO2.out.at y hy).1; show ¬ y.block = p.c; omega), hLM⟩
      rw [heap_setCell_same _ _ _ _ _ _ Hc2.out]
      have e : (all ++ bs.take k).length = al + k := by have := Hal.out; have := Hl.out; rw [List.length_append, List.length_take]; omega
      rw [e]
      simp
    · exact (HK1.out.trans (HK2.out.mono (fun b _ hb => .inr hb))).setCell _ _ (fun _ => Ho.out.1)
    · intro y hy
      rcases Hat2.out y hy with h | h
      · exact .inl h
      · exact .inr (by have := HK1.out.size; have : (w1.drewN 1).heap.size = w1.heap.size := rfl; omega)
  · have e2 : ¬ ((st : Int) = 0) := by omega
    have ek : written st bl p.mo qo.length = 0 := by simp [written, e1]
    go_enter Try.func18, Try.ntmps18
    go_wp2
    go_ret
    refine ⟨aa, ac, by rw [ek]; rfl, ?_, Kept.refl _ w, fun y hy => .inl (by rw [hy]; rfl)⟩
    rw [ek, List.take_zero, List.append_nil, List.append_nil]
    exact H.out
end
end Go.Proofs.Ytfkchmkaccjjoaa
