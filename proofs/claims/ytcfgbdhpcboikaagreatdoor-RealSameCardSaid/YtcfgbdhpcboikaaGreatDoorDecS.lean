/-
  The slow decimals: leftShift.
-/
import Derived.Test.YtcfgbdhpcboikaaGreatDoorDecM
import Derived.Deep.CutBlock
import Derived.Deep.CutRange
namespace Go.Proofs.YtcfgbdhpcboikaaGreatDoor
open Go.RowKit

/-- The tables of the slow decimals, away from the block B. -/
structure Slow (w : World) (B : Nat) : Prop where
  cheats : ∃ b o, b ≠ B ∧ w.cell? ⟨14, 0, none⟩ = some (.slice (some ⟨b, o, none⟩) 61 61) ∧ ∀ i, i < 61 → w.cell? ⟨b, o + i * 2, none⟩ = some (.int .i64 (Pinned.cheatRows.getD i (0, [])).1) ∧ w.cell? ⟨b, o + i * 2 + 1, none⟩ = some (.string ⟨(Pinned.cheatRows.getD i (0, [])).2.toArray⟩)
  p2 : ∃ b o, b ≠ B ∧ w.cell? ⟨11, 0, none⟩ = some (.slice (some ⟨b, o, none⟩) 9 9) ∧ ∀ i, i < 9 → w.cell? ⟨b, o + i, none⟩ = some (.int .i64 (([1, 3, 6, 9, 13, 16, 19, 23, 26] : List Int).getD i 0))
  info0 : w.cell? ⟨8, 0, none⟩ = some (.int .u64 52)
  info1 : w.cell? ⟨8, 1, none⟩ = some (.int .u64 11)
  info2 : w.cell? ⟨8, 2, none⟩ = some (.int .i64 (-1023))
  far : 14 < B
theorem Slow.kept {w w' : World} {B : Nat} (h : Slow w B) (k : Kept (· = B) w w') : Slow w' B := by
  obtain ⟨b, o, hb, h1, h2⟩ := h.cheats
  obtain ⟨b2, o2, hb2, h3, h4⟩ := h.p2
  have hf := h.far
  have c : ∀ {p : Addr} {v : Value}, w.cell? p = some v → p.block ≠ B → w'.cell? p = some v := fun hc hp => k.cell hc hp
  exact ⟨⟨b, o, hb, c h1 (show 14 ≠ B by omega), fun i hi => ⟨c (h2 i hi).1 hb, c (h2 i hi).2 hb⟩⟩, ⟨b2, o2, hb2, c h3 (show 11 ≠ B by omega), fun i hi => c (h4 i hi) hb2⟩,
    c h.info0 (show 8 ≠ B by omega), c h.info1 (show 8 ≠ B by omega), c h.info2 (show 8 ≠ B by omega), hf⟩

theorem len232 : Tryz.prog.arrayLen 232 = 800 := by kernel_rfl
theorem slice_dec (B n : Nat) (hn : n ≤ 800) (w : World) : (Instr.sliceAt 232 (.pointer (some ⟨B, 0, none⟩)) (some (.int .i64 0)) (some (.int .i64 n)) none).run Tryz.prog w = .ok (.slice (some ⟨B, 0, none⟩) n 800) w := by
  rw [run_sliceAt_array_lh w 232 ⟨B, 0, none⟩ (by kernel_rfl) .i64 .i64 0 n (Int.le_refl _) (by omega) (by rw [len232]; omega), len232]
  have hz : (sizeOf (Tryz.prog.elem 232)).run Tryz.prog w = .ok 1 w := by
    rw [show Tryz.prog.elem 232 = 5 by kernel_rfl]
    exact Tryz.sizeOf5 w
  rw [hz]
  simp [Result.andThen, slicedAt, Addr.add]

def ShPost (B : Nat) (s : Dec.Dc) (w : World) (e : Ending) (w' : World) : Prop := e = .returned (.tuple #[]) ∧ DecAt w' B s ∧ Kept (· = B) w w'
theorem wrapU (z : Int) : IntKind.u64.wrap z = z % 18446744073709551616 := by
  have h1 : IntKind.u64.signed = false := rfl
  have h2 : IntKind.u64.bits = 64 := rfl
  unfold IntKind.wrap
  simp only [h1, h2, Bool.false_and, Bool.false_eq_true, if_false]
  rfl
theorem pow60 (k : Nat) (hk : k < 61) : 2 ^ k ≤ 1152921504606846976 := Nat.le_trans (Nat.pow_le_pow_right (by decide) (show k ≤ 60 by omega)) (by decide)
/-- One digit of the carry, in the walk's words. -/
structure OneOut (Y q rm Z : Nat) : Prop where
  e3 : (Y : Int).tdiv 10 = q
  e3' : IntKind.u64.wrap (q : Int) = q
  e4 : IntKind.u64.wrap (10 * (q : Int)) = Z
  e5 : IntKind.u64.wrap ((Y : Int) - Z) = rm
  r9 : rm ≤ 9
  hq : q = Y / 10
  hr : rm = Y % 10
theorem one_out (Y : Nat) (h : Y < 18446744073709551616) : ∃ q rm Z, OneOut Y q rm Z := by
  refine ⟨Y / 10, Y % 10, 10 * (Y / 10), ?_, ?_, ?_, ?_, by omega, rfl, rfl⟩
  · rw [Int.tdiv_eq_ediv_of_nonneg (by omega)]; omega
  · rw [wrapU]; omega
  · rw [wrapU]; omega
  · rw [wrapU]; omega
theorem steps_le (f n : Nat) : Dec.steps f n ≤ f := by
  induction f generalizing n with
  | zero => simp [Dec.steps]
  | succ f ih => unfold Dec.steps; split <;> first | omega | (have := ih (n / 10); omega)

set_option maxRecDepth 100000 in
set_option maxHeartbeats 8000000 in
theorem lsh_any (B k : Nat) (s : Dec.Dc) (w : World) (T : Slow w B) (h : DecAt w B s) (hF : Dec.Fine s) (hn : 1 ≤ s.nd) (k1 : 1 ≤ k) (k2 : k < 61) (p1 : -100000000 ≤ s.dp) (p2 : s.dp ≤ 100000000) :
    Calls Tryz.prog 288 #[.pointer (some ⟨B, 0, none⟩), .int .u64 k] w (ShPost B (Dec.lsh k s) w) := by
  obtain ⟨b, o, hb, t1, t2⟩ := T.cheats
  obtain ⟨t3, t4⟩ := t2 k k2
  obtain ⟨r1, r2, r3⟩ := cheat_row k k2 (by omega)
  obtain ⟨str, hstr⟩ : ∃ str : ByteArray, str = ⟨(Pinned.cheatRows.getD k (0, [])).2.toArray⟩ := ⟨_, rfl⟩
  rw [← hstr] at t4
  obtain ⟨δ, hδ⟩ : ∃ δ, Dec.steps 25 (Dec.carry k (Dec.dgs s.D s.nd)) = δ := ⟨_, rfl⟩
  obtain ⟨L, hL⟩ : ∃ L, Dec.less (Dec.dgs s.D s.nd) (Dec.cut k) = L := ⟨_, rfl⟩
  obtain ⟨dd, dr, f1, f2, _, f4, f5⟩ := Dec.fine_cons hF hn
  have hds : ∀ d ∈ Dec.dgs s.D s.nd, d < 10 := by rw [f1]; exact f4
  have hlen : (Dec.dgs s.D s.nd).length = s.nd := by rw [f1, List.length_cons]; exact f5
  have PL : ∀ u, DecAt u B s → Calls Tryz.prog 296 #[.slice (some ⟨B, 0, none⟩) s.nd 800, .string str] u fun e w' => e = .returned (.bool L) ∧ ∃ m, w' = u.drewN m := by
    intro u hu
    have := pless_any B s.nd 800 s str u hu hF.le (by rw [hstr]; show (Pinned.cheatRows.getD k (0, [])).2.length ≤ 1000; omega)
    rw [nats_dgs s hF, show nats str.data.toList = (Dec.cut k).map (· + 48) by rw [hstr]; exact r2, less_shift, hL] at this
    exact this
  have c25 := Dec.carry_25 k (Dec.dgs s.D s.nd) k2 hds
  have hmore : (Pinned.cheatRows.getD k (0, [])).1 = (if L then δ + 1 else δ) := by
    have ft := Dec.front_table (Dec.dgs s.D s.nd) k 25 k2 (by omega) hds (by rw [f1]; simpa using f2) (by rw [f1]; simp) c25
    obtain ⟨_, _, _, _, _, g1, g2⟩ := Dec.cuts k k2 (by omega)
    rw [hδ, hL] at ft
    rw [r1]
    have hm : 1 ≤ Dec.more k := by unfold Dec.more; omega
    cases L
    · simpa using ft.symm
    · simp at ft ⊢; omega
  have hnd := hF.le
  have d25 : δ ≤ 25 := by rw [← hδ]; exact steps_le 25 _
  have c800 := h.nd
  have f800 := h.fz 800
  have SL := slice_dec B s.nd hnd
  have H := Lib.hid h
  have HF := Lib.hid hF
  have HPL := Lib.hid PL
  have HDel := Lib.hid hδ
  have HDS0 := Lib.hid hds
  have HLEN := Lib.hid hlen
  have HC25 := Lib.hid c25
  rw [hmore] at t3
  have lsb : ∀ m, ∀ d ∈ (Dec.dgs s.D s.nd).drop m, d < 10 := fun m d hd => hds d (List.mem_of_mem_drop hd)
  have HLSB := Lib.hid lsb
  clear h hF PL r1 r2 r3 hstr T t2 hδ hL hmore hds hlen c25 f1 f2 f4 f5 lsb
  cases L
  all_goals
    simp only [Bool.false_eq_true, if_false, if_true] at t3
    go_enter Tryz.func288, Tryz.ntmps288
    go_wp2_with fail
    go_quiet ((go_at_call 296; exact Calls.quiet_of (HPL.out _ (H.out.drewN _))))
    go_wp2_with fail
    go_loopw [5, 6, 7] (fun r wv n wr => ∃ m : Nat, m ≤ s.nd ∧ r = .int .i64 ((m : Int) - 1) ∧ wv = .int .i64 ((m : Int) + δ) ∧ n = .int .u64 (Dec.carry k ((Dec.dgs s.D s.nd).drop m) : Nat) ∧ Kept (· = B) w wr ∧
      DecAt wr B { s with D := Dec.ow s.D (m + δ) ((Dec.lows k ((Dec.dgs s.D s.nd).drop m)).map Dec.ch), trunc := s.trunc || Dec.over (m + δ) ((Dec.lows k ((Dec.dgs s.D s.nd).drop m)).map Dec.ch) }) (fun r _ _ _ => (intOf r + 1).toNat)
    case atStart =>
      have e : (Dec.dgs s.D s.nd).drop s.nd = [] := List.drop_eq_nil_of_le (by rw [HLEN.out]; omega)
      refine ⟨s.nd, Nat.le_refl _, rfl, ?_, by rw [e]; rfl, (Kept.refl _ w).drewN _, ?_⟩
      · first | rfl | exact congrArg (Value.int .i64) (by unfold wrap64; omega) | exact congrArg (Value.int .i64) (by omega)
      · rw [e]
        have := H.out.drewN nq
        simpa [Dec.lows, Dec.ow_nil, Dec.over_nil] using this
    case round =>
      obtain ⟨m, hm, hr, hw, hn, hK, hD⟩ := hrel
      cases m with
      | zero =>
        obtain rfl := (show _ = Value.int .i64 (-1) from hr.trans (congrArg (Value.int .i64) (by omega)))
        obtain rfl := (show _ = Value.int .i64 (δ : Int) from hw.trans (congrArg (Value.int .i64) (by omega)))
        rw [List.drop_zero] at hn hD
        rw [Nat.zero_add] at hD
        obtain ⟨Q, hQ⟩ : ∃ Q, Dec.carry k (Dec.dgs s.D s.nd) = Q := ⟨_, rfl⟩
        rw [hQ] at hn
        subst hn
        have HQ := Lib.hid hQ
        have HK0 := Lib.hid hK
        have HD0 := Lib.hid hD
        have hQ64 : Q < 18446744073709551616 := by
          have := Dec.carry_lt k (Dec.dgs s.D s.nd) HDS0.out
          have := pow60 k k2
          omega
        have HQ64 := Lib.hid hQ64
        clear hK hD hQ hr hw hQ64
        obtain ⟨wo, rfl⟩ : ∃ wo : World, wo = wr := ⟨_, rfl⟩
        go_wp2_with fail
        go_loopw [6, 7] (fun wv n wr => ∃ (f W q : Nat) (t : List Nat), wv = .int .i64 (W : Int) ∧ n = .int .u64 (q : Int) ∧ q < 10 ^ f ∧ Dec.steps f q = W ∧ W ≤ 25 ∧ q < 18446744073709551616 ∧ Dec.digs f q t = Dec.fullN k (Dec.dgs s.D s.nd) ∧ Kept (· = B) w wr ∧
          DecAt wr B { s with D := Dec.ow s.D W (t.map Dec.ch), trunc := s.trunc || Dec.over W (t.map Dec.ch) }) (fun wv _ _ => (intOf wv).toNat)
        case atStart =>
          refine ⟨25, δ, Q, Dec.lows k (Dec.dgs s.D s.nd), rfl, rfl, ?_, ?_, d25, HQ64.out, ?_, HK0.out, HD0.out⟩
          · rw [← HQ.out]; exact HC25.out
          · rw [← HQ.out]; exact HDel.out
          · rw [← HQ.out]; rfl
        case round =>
          obtain ⟨f, W, q, t, rfl, rfl, g1, g2, g3, g4, g5, hK, hD⟩ := hrel
          have HK := Lib.hid hK
          have HD := Lib.hid hD
          by_cases hq0 : q = 0
          · subst hq0
            have hz : ∀ g, Dec.steps g 0 = 0 := by intro g; cases g <;> simp [Dec.steps]
            have hz2 : ∀ g (l : List Nat), Dec.digs g 0 l = l := by intro g l; cases g <;> simp [Dec.digs]
            rw [hz] at g2
            subst g2
            rw [hz2] at g5
            subst g5
            have hfl : ((Dec.fullN k (Dec.dgs s.D s.nd)).map Dec.ch).length = s.nd + δ := by
              rw [List.length_map, Dec.fullN_len, HDel.out, HLEN.out]; omega
            have HFL := Lib.hid hfl
            have q800 : wr.cell? ⟨B, 800, none⟩ = some (.int .i64 s.nd) := hD.nd
            have q801 : wr.cell? ⟨B, 801, none⟩ = some (.int .i64 s.dp) := hD.dp
            have z800 := hD.fz 800
            have z801 := hD.fz 801
            have elsh : Dec.lshD k s = { ({ ({ s with D := Dec.ow s.D 0 ((Dec.fullN k (Dec.dgs s.D s.nd)).map Dec.ch), trunc := s.trunc || Dec.over 0 ((Dec.fullN k (Dec.dgs s.D s.nd)).map Dec.ch) } : Dec.Dc) with nd := min (s.nd + δ) 800 } : Dec.Dc) with dp := s.dp + δ } := by
              unfold Dec.lshD Dec.fullL
              rw [hfl]
              simp only [Dec.Dc.mk.injEq, true_and, and_true]
              omega
            have HEL := Lib.hid elsh
            clear hK hD hz hz2 g1 g3 g4 hfl elsh
            by_cases hbig : 800 ≤ s.nd + δ
            · go_wp2_with fail
              refine (trim_any B (Dec.lshD k s) _ ?_ ?_).mono ?_
              · rw [HEL.out, show min (s.nd + δ) 800 = 800 by omega]
                exact ((HD.out.setNdV (s.nd + δ) _ (by omega)).setNdV 800 _ (by omega)).setDpV _ _ (by omega)
              · rw [HEL.out]; exact Nat.min_le_right _ _
              rintro e w' ⟨rfl, hd', hk'⟩
              have HD' := Lib.hid hd'
              have HK' := Lib.hid hk'
              clear hd' hk'
              go_wp2
              go_end0
              exact ⟨rfl, HD'.out, (((HK.out.setCell _ _ (fun _ => rfl)).setCell _ _ (fun _ => rfl)).setCell _ _ (fun _ => rfl)).trans HK'.out⟩
            · go_wp2_with fail
              refine (trim_any B (Dec.lshD k s) _ ?_ ?_).mono ?_
              · rw [HEL.out, show min (s.nd + δ) 800 = s.nd + δ by omega]
                exact (HD.out.setNdV (s.nd + δ) _ (by omega)).setDpV _ _ (by omega)
              · rw [HEL.out]; exact Nat.min_le_right _ _
              rintro e w' ⟨rfl, hd', hk'⟩
              have HD' := Lib.hid hd'
              have HK' := Lib.hid hk'
              clear hd' hk'
              go_wp2
              go_end0
              exact ⟨rfl, HD'.out, ((HK.out.setCell _ _ (fun _ => rfl)).setCell _ _ (fun _ => rfl)).trans HK'.out⟩
          · cases f with
            | zero => exact absurd (by simpa using g1) hq0
            | succ f =>
              have gs : Dec.steps (f + 1) q = if q = 0 then 0 else 1 + Dec.steps f (q / 10) := rfl
              have gd : Dec.digs (f + 1) q t = if q = 0 then t else Dec.digs f (q / 10) (q % 10 :: t) := rfl
              rw [if_neg hq0] at gs gd
              obtain ⟨q', rm, Z, O⟩ := one_out q g4
              obtain ⟨o1, o2, o3, o4, o5, o6, o7⟩ := O
              rw [gs, ← o6] at g2
              rw [gd, ← o6, ← o7] at g5
              have g1' : q' < 10 ^ f := by rw [Nat.pow_succ] at g1; omega
              have g4' : q' < 18446744073709551616 := by omega
              obtain ⟨W', rfl⟩ : ∃ W', W = W' + 1 := ⟨W - 1, by omega⟩
              have g2' : Dec.steps f q' = W' := by omega
              have hlt : W' < 800 := by omega
              have w25 : W' ≤ 25 := by omega
              have hqp : (0 : Int) < q := by omega
              have fB := hD.fz W'
              obtain ⟨cold, cw⟩ : ∃ x : Value, wr.cell? ⟨B, W', none⟩ = some x := ⟨_, hD.byte W' (by rw [Dec.ow_len _ _ _ H.out.len]; exact hlt)⟩
              have hcw : ((Dec.ch rm).toNat : Int) = (rm : Int) + 48 := by rw [Dec.ch_nat rm (by omega)]; omega
              have HCW := Lib.hid hcw
              have G1 := Lib.hid g1'
              have G2 := Lib.hid g2'
              have G4 := Lib.hid g4'
              have G5 := Lib.hid g5
              clear hK hD gs gd g1 g2 g3 g4 g5 g1' g2' g4' o6 o7 hcw
              go_wp2
              go_roundw
              case measure => (simp [intOf]; try omega)
              case rel =>
                refine ⟨f, W', q', rm :: t, ?_, rfl, G1.out, G2.out, w25, G4.out, G5.out, HK.out.setCell _ _ (fun _ => rfl), ?_⟩
                · exact congrArg (Value.int .i64) (by omega)
                · rw [List.map_cons, ← Dec.ow_set _ _ _ _ H.out.len hlt, Dec.over_in _ _ _ hlt]
                  exact HD.out.setByte W' hlt (Dec.ch rm) _ HCW.out.symm
      | succ m =>
        obtain rfl := (show _ = Value.int .i64 (m : Int) from hr.trans (congrArg (Value.int .i64) (by omega)))
        obtain ⟨W, hW⟩ : ∃ W, m + δ = W := ⟨_, rfl⟩
        obtain rfl := (show _ = Value.int .i64 ((W : Int) + 1) from hw.trans (congrArg (Value.int .i64) (by omega)))
        obtain ⟨X, hX⟩ : ∃ X, Dec.carry k ((Dec.dgs s.D s.nd).drop (m + 1)) = X := ⟨_, rfl⟩
        rw [hX] at hn
        subst hn
        rw [show m + 1 + δ = W + 1 by omega] at hD
        have hmD : m < s.D.length := by have := H.out.len; omega
        have hmO : m < (Dec.ow s.D (W + 1) ((Dec.lows k ((Dec.dgs s.D s.nd).drop (m + 1))).map Dec.ch)).length := by rw [Dec.ow_len _ _ _ H.out.len]; omega
        have ci := hD.byte m hmO
        obtain ⟨c, hc⟩ : ∃ c, s.D[m] = c := ⟨_, rfl⟩
        have hg : (Dec.ow s.D (W + 1) ((Dec.lows k ((Dec.dgs s.D s.nd).drop (m + 1))).map Dec.ch))[m]? = some c := by
          rw [Dec.ow_get _ _ _ H.out.len, if_pos (by omega), List.getElem?_eq_getElem hmD, hc]
        rw [show (Dec.ow s.D (W + 1) ((Dec.lows k ((Dec.dgs s.D s.nd).drop (m + 1))).map Dec.ch))[m] = c from (List.getElem?_eq_some_iff.1 hg).2] at ci
        have hcd := HF.out.dig c (by rw [← hc]; exact List.mem_take_iff_getElem.2 ⟨m, by omega, rfl⟩)
        obtain ⟨d, hd⟩ : ∃ d, Dec.un c = d := ⟨_, rfl⟩
        have hcv : (c.toNat : Int) = (d : Int) + 48 := by unfold Dec.un at hd; omega
        rw [hcv] at ci
        have hds : (Dec.dgs s.D s.nd).drop m = d :: (Dec.dgs s.D s.nd).drop (m + 1) := by
          have : (Dec.dgs s.D s.nd)[m]? = some d := by
            unfold Dec.dgs
            rw [List.getElem?_map, List.getElem?_take, if_pos (by omega), List.getElem?_eq_getElem hmD, hc]
            exact congrArg some hd
          obtain ⟨h1, h2⟩ := List.getElem?_eq_some_iff.1 this
          rw [List.drop_eq_getElem_cons h1, h2]
        have d9 : d ≤ 9 := by unfold Dec.un at hd; omega
        obtain ⟨P, hP⟩ : ∃ P, d * 2 ^ k = P := ⟨_, rfl⟩
        have hXP : X + P < 18446744073709551616 := by
          have := Dec.carry_add_lt k d ((Dec.dgs s.D s.nd).drop (m + 1)) (HLSB.out (m + 1)) (by omega)
          have := pow60 k k2
          omega
        obtain ⟨Y, hY⟩ : ∃ Y, X + P = Y := ⟨_, rfl⟩
        have e1 : IntKind.u64.wrap ((d : Int) * 2 ^ k) = (P : Int) := by
          rw [wrapU, ← hP]
          have : ((d : Int) * 2 ^ k) = ((d * 2 ^ k : Nat) : Int) := by simp
          rw [this, hP]
          omega
        have e2 : IntKind.u64.wrap ((X : Int) + P) = (Y : Int) := by rw [wrapU]; omega
        obtain ⟨q, rm, Z, O⟩ := one_out Y (by omega)
        obtain ⟨o1, o2, o3, o4, o5, o6, o7⟩ := O
        have hlow : Dec.lows k ((Dec.dgs s.D s.nd).drop m) = rm :: Dec.lows k ((Dec.dgs s.D s.nd).drop (m + 1)) := by
          rw [hds]
          show (Dec.carry k _ + d * 2 ^ k) % 10 :: _ = _
          rw [hX, hP, hY, o7]
        have hcar : Dec.carry k ((Dec.dgs s.D s.nd).drop m) = q := by
          rw [hds]
          show (Dec.carry k _ + d * 2 ^ k) / 10 = _
          rw [hX, hP, hY, o6]
        have hcw : ((Dec.ch rm).toNat : Int) = (rm : Int) + 48 := by rw [Dec.ch_nat rm (by omega)]; omega
        have HKr := Lib.hid hK
        have HDr := Lib.hid hD
        have HW := Lib.hid hW
        have HLO := Lib.hid hlow
        have HCA := Lib.hid hcar
        have HCW := Lib.hid hcw
        have fB := hD.fz W
        have f803 := hD.fz 803
        have c803 : wr.cell? ⟨B, 803, none⟩ = some (.bool _) := hD.trunc
        have hW800 : W ≤ 825 := by omega
        have hm8 : m < 800 := by omega
        by_cases hlt : W < 800
        · obtain ⟨cold, cw⟩ : ∃ x : Value, wr.cell? ⟨B, W, none⟩ = some x := ⟨_, hD.byte W (by rw [Dec.ow_len _ _ _ H.out.len]; exact hlt)⟩
          clear hK hD hW hX hds hg hmO hc hd hcv hcd hmD hr hw hP hY o6 o7 hXP hlow hcar hcw
          go_wp2
          go_roundw
          case measure => (simp [intOf]; try omega)
          case rel =>
            refine ⟨m, by omega, by go_num, ?_, ?_, HKr.out.setCell _ _ (fun _ => rfl), ?_⟩
            · exact congrArg (Value.int .i64) (by have := HW.out; omega)
            · rw [HCA.out]
            · rw [HW.out, HLO.out, List.map_cons, ← Dec.ow_set _ _ _ _ H.out.len hlt, Dec.over_in _ _ _ hlt]
              exact HDr.out.setByte W hlt (Dec.ch rm) _ HCW.out.symm
        · have hge : 800 ≤ W := by omega
          by_cases h0 : rm = 0
          · subst h0
            clear hK hD hX hds hg hmO hc hd hcv hcd hmD hr hw hP hY o6 o7 hXP hlow hcar hcw hlt hW
            go_wp2
            go_roundw
            case measure => (simp [intOf]; try omega)
            case rel =>
              refine ⟨m, by omega, by go_num, ?_, ?_, HKr.out, ?_⟩
              · exact congrArg (Value.int .i64) (by have := HW.out; omega)
              · rw [HCA.out]
              · rw [HW.out, HLO.out, List.map_cons, ← Dec.ow_out _ _ _ _ H.out.len hge, Dec.over_out _ _ _ hge]
                have e0 : (Dec.ch 0 != 48) = false := by decide
                rw [e0, Bool.false_or]
                exact HDr.out
          · have hrz : ((rm : Int) != 0) = true := bne_iff_ne.2 (by omega)
            clear hK hD hX hds hg hmO hc hd hcv hcd hmD hr hw hP hY o6 o7 hXP hlow hcar hcw hlt hW
            go_wp2
            go_roundw
            case measure => (simp [intOf]; try omega)
            case rel =>
              refine ⟨m, by omega, by go_num, ?_, ?_, HKr.out.setCell _ _ (fun _ => rfl), ?_⟩
              · exact congrArg (Value.int .i64) (by have := HW.out; omega)
              · rw [HCA.out]
              · rw [HW.out, HLO.out, List.map_cons, ← Dec.ow_out _ _ _ _ H.out.len hge, Dec.over_out _ _ _ hge]
                have e0 : (Dec.ch rm != 48) = true := by
                  rw [bne_iff_ne]
                  intro e
                  have := congrArg UInt8.toNat e
                  rw [Dec.ch_nat rm (by omega)] at this
                  have e48 : (48 : UInt8).toNat = 48 := rfl
                  omega
                rw [e0, Bool.true_or, Bool.or_true]
                exact HDr.out.setTr true
end Go.Proofs.YtcfgbdhpcboikaaGreatDoor
