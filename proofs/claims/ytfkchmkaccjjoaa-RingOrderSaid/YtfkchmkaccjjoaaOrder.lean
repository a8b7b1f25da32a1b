/-
  The walk of RingOrder: whatever goes through a queue comes out as it went in.
-/
import Derived.Test.YtfkchmkaccjjoaaRingD
import Derived.Test.YtfkchmkaccjjoaaCut
namespace Go.Proofs.Ytfkchmkaccjjoaa
open Go.RowKit

def slen : Value → Nat | .slice _ n _ => n | _ => 0

/-- What holds at the loop's head: p bytes are put in, t are taken out. -/
def OrdRel (w0 : World) (B r g cap bl : Nat) (bs : List UInt8) (left out i : Value) (wr : World) : Prop :=
  ∃ (p t k m : Nat) (la : Option Addr) (lc : Nat) (oa : Option Addr) (oc : Nat), left = .slice la m lc ∧ out = .slice oa t oc ∧ i = .int .i64 k ∧
    t ≤ p ∧ p + m = bl ∧ k ≤ t ∧ m ≤ lc ∧ lc ≤ 140737488351232 ∧ IsB w0 la (bs.drop p) ∧ OwnB wr B 5 oa oc (bs.take t) ∧ IsRing wr r g cap ((bs.take p).drop t) ∧ Below w0.heap.size w0 wr ∧ B ≤ wr.heap.size

theorem order_bytes (bs : List UInt8) (p t n1 k2 bl m : Nat) (hl : bs.length = bl) (hpm : p + m = bl) (htp : t ≤ p) (hk : k2 ≤ p - t + n1) :
    ((bs.take p).drop t ++ (bs.drop p).take n1).drop k2 = (bs.take (p + n1)).drop (t + k2) ∧ bs.take t ++ ((bs.take p).drop t ++ (bs.drop p).take n1).take k2 = bs.take (t + k2) := by
  have e : (bs.take p).drop t ++ (bs.drop p).take n1 = (bs.take (p + n1)).drop t := by
    rw [List.take_add, List.drop_append_of_le_length (by rw [List.length_take]; omega)]
  rw [e, List.drop_drop]
  refine ⟨rfl, ?_⟩
  rw [List.take_add (l := bs) (i := t) (j := k2), List.drop_take, List.take_take, Nat.min_eq_left (by omega)]

theorem order_step {w wr w3 w4 w5 : World} {B r g cap bl : Nat} {bs q : List UInt8} {p t k m n1 k2 d L lc : Nat} {la oa oa' : Option Addr} {oc oc' : Nat} {kk m' lc' : Nat} {la' : Option Addr}
    (hl : bs.length = bl) (hpm : p + m = bl) (htp : t ≤ p) (hkt : k ≤ t) (hmlc : m ≤ lc) (hlc : lc ≤ 140737488351232) (hla : IsB w la (bs.drop p)) (hbel : Below w.heap.size w wr)
    (hq : q = (bs.take p).drop t) (hd : d = p - t) (hL : L = d + n1) (hn1 : n1 ≤ m) (k2a : 1 ≤ k2) (k2b : k2 ≤ L)
    (hm' : m' = m - n1) (hla' : la' = if lc = n1 then la else la.map (·.add n1)) (hlc' : lc' = lc - n1)
    (lrB : r < B) (lgB : g < B) (lr0 : w.heap.size ≤ r) (lg0 : w.heap.size ≤ g) (hown : OwnB wr B 5 oa oc (bs.take t))
    (K3 : Kept (fun b => b = r ∨ b = g) wr w3) (K4 : Kept (· = r) (w3.drewN kk) w4) (R4 : IsRing w4 r g cap ((q ++ (bs.drop p).take n1).drop k2)) (hB : B ≤ wr.heap.size)
    (O5 : OwnB w5 B 5 oa' oc' (bs.take t ++ (q ++ (bs.drop p).take n1).take k2)) (K5 : Kept (fun k => oa.map (·.block) = some k) w4 w5) :
    OrdRel w B r g cap bl bs (.slice la' m' lc') (.slice oa' (t + k2) oc') (.int .i64 (k + 1)) w5 := by
  subst hq hd hL
  have hb := order_bytes bs p t n1 k2 bl m hl hpm htp k2b
  rw [hb.1] at R4
  rw [hb.2] at O5
  have hoa : ∀ j, j < B → ¬ (oa.map (·.block) = some j) := by
    intro j hj h
    cases oa with
    | none => cases h
    | some y =>
      have := (hown.at y rfl).1
      simp at h
      omega
  have K34 : Kept (fun b => b = r ∨ b = g) wr w4 := K3.trans' (S' := (· = r)) ⟨K4.os, K4.tape, K4.output, K4.size, K4.block⟩ (fun _ _ h => .inl h)
  have b4 : Below w.heap.size wr w4 := K34.below hbel.size (fun k _ h => by rcases h with rfl | rfl <;> assumption)
  have hs : B ≤ w4.heap.size := Nat.le_trans hB K34.size
  have b5 : Below w.heap.size w4 w5 := K5.below (by have := hbel.size; have := K34.size; omega) (fun k _ h => by
    rcases Nat.lt_or_ge k B with h' | h'
    · exact absurd h (hoa k h')
    · omega)
  refine ⟨p + n1, t + k2, k + 1, m', la', lc', oa', oc', rfl, rfl, ?_, by omega, by omega, by omega, by omega, by omega, ?_, O5, R4.kept K5 (hoa r lrB) (hoa g lgB), (hbel.trans b4).trans b5, Nat.le_trans hs K5.size⟩
  · simp
  · subst hla'
    rw [← List.drop_drop]
    exact hla.cut n1 lc (by rw [List.length_drop]; omega)

theorem order_no (most : Int) (ba : Option Addr) (bl bc : Nat) (pa : Option Addr) (pl pc : Nat) (w : World) (h : most < 1 ∨ 4096 < most) :
    Calls Try.prog 3 #[.int .i64 most, .slice ba bl bc, .slice pa pl pc] w fun e w' => e = .returned (.bool true) ∧ Below w.heap.size w w' := by
  rcases h with h | h
  · go_enter Try.func3, Try.ntmps3
    go_wp2_with (first
      | (go_at_call 7; refine (shown_any _).mono ?_; rintro e w1 ⟨rfl, K1⟩)
      | (go_at_call 8; refine (new_no _ _ (by omega)).mono ?_; rintro e w2 ⟨rfl, rfl⟩))
    go_ret
    exact ⟨rfl, K1.below (Nat.le_refl _) (fun _ _ h => h.elim)⟩
  · have h' : ¬ most < 1 := by omega
    go_enter Try.func3, Try.ntmps3
    go_wp2_with (first
      | (go_at_call 7; refine (shown_any _).mono ?_; rintro e w1 ⟨rfl, K1⟩)
      | (go_at_call 8; refine (new_no _ _ (by omega)).mono ?_; rintro e w2 ⟨rfl, rfl⟩))
    go_ret
    exact ⟨rfl, K1.below (Nat.le_refl _) (fun _ _ h => h.elim)⟩

set_option maxRecDepth 100000 in
set_option maxHeartbeats 2000000 in
theorem order_yes (cap : Nat) (ba : Option Addr) (bl bc : Nat) (bs : List UInt8) (pa : Option Addr) (pl pc : Nat) (ps : List Int) (w : World) (h1 : 1 ≤ cap) (h2 : cap ≤ 4096)
    (hl : bs.length = bl) (hb : bl ≤ bc) (hb2 : bc ≤ 140737488351232) (hsrc : IsB w ba bs)
    (hpl : pl ≤ 140737488351232) (hps : pl = 0 ∨ ∃ pb po, pa = some ⟨pb, po, none⟩ ∧ ∀ j, j < pl → w.cell? ⟨pb, po + j, none⟩ = some (.int .i64 (ps.getD j 0))) :
    Calls Try.prog 3 #[.int .i64 cap, .slice ba bl bc, .slice pa pl pc] w fun e w' => e = .returned (.bool true) ∧ Below w.heap.size w w' := by
  obtain ⟨i0, hi, hz0, hz1, hz2⟩ := info_parts Try.infoE5
  have Hi := Lib.hid hi
  have Hz0 := Lib.hid hz0
  have Hz1 := Lib.hid hz1
  have Hz2 := Lib.hid hz2
  clear hi hz0 hz1 hz2
  have Hl := Lib.hid hl
  have Hsrc := Lib.hid hsrc
  have Hps := Lib.hid hps
  clear hl hsrc hps
  go_enter Try.func3, Try.ntmps3
  go_wp2_with (first
      | (go_at_call 7; refine (shown_any _).mono ?_; rintro e w1 ⟨rfl, K1⟩; have HK1 := Lib.hid K1; clear K1)
      | (go_at_call 8; refine (ring_new _ _ h1 h2).mono ?_; rintro e w2 ⟨r, g, rfl, R2, lr, lg, K2⟩; have HR2 := Lib.hid R2; have HK2 := Lib.hid K2; clear R2 K2))
  have K : Kept (fun _ => False) w w2 := HK1.out.trans HK2.out
  have l1 := HK1.out.size
  have HB : Hid (Below w.heap.size w w2) := K.below (Nat.le_refl _) (fun _ _ h => h.elim)
  obtain ⟨B, hB⟩ : ∃ B, w2.heap.size = B := ⟨_, rfl⟩
  have lt2 := HR2.out.lt
  have lrB : r < B := by omega
  have lgB : g < B := by omega
  have lr0 : w.heap.size ≤ r := by omega
  have lg0 : w.heap.size ≤ g := by omega
  have lB : w.heap.size ≤ B := by omega
  have HBB := Lib.hid hB
  clear K HK1 HK2 l1 lt2 hB lr lg
  go_loopw [9, 10, 11] (OrdRel w B r g cap bl bs) (fun _ out _ _ => bl - slen out)
  case atStart =>
    refine ⟨0, 0, 0, bl, ba, bc, none, 0, rfl, rfl, rfl, Nat.le_refl _, Nat.zero_add _, Nat.le_refl _, hb, hb2, by simpa using Hsrc.out, ?_, by simpa using HR2.out, HB.out, by have := HBB.out; omega⟩
    simpa using OwnB.nil w2 B 5
  case round =>
    obtain ⟨p, t, k, m, la, lc, oa, oc, rfl, rfl, rfl, htp, hpm, hkt, hlc, hlc2, hla, hown, hring, hbel, hBs⟩ := hrel
    have ql : ((bs.take p).drop t).length = p - t := by have := Hl.out; rw [List.length_drop, List.length_take]; omega
    have Hpm := Lib.hid hpm
    have Hla := Lib.hid hla
    have Hown := Lib.hid hown
    have Hring := Lib.hid hring
    have Hbel := Lib.hid hbel
    have hp : p ≤ bl := by omega
    have hm : m ≤ bl := by omega
    clear HR2 HB HBB hpm hla hown hring hbel
    by_cases hdone : m = 0 ∧ t = p
    · obtain ⟨rfl, rfl⟩ := hdone
      have Ql := Lib.hid ql
      have hbs : bs.take t = bs := List.take_of_length_le (by have := Hl.out; have := Hpm.out; omega)
      have ho : OwnB wr B 5 oa oc bs := by have := Hown.out; rw [hbs] at this; exact this
      have hol : bs.length = t := by have := Hl.out; have := Hpm.out; omega
      have s1 := run_convB (P := Try.prog) wr 22 5 9 Try.underlying22 Try.underlying5 Try.underlying9 oa bs t oc hol ho.isB
      have s2 := run_convB (P := Try.prog) wr 22 5 9 Try.underlying22 Try.underlying5 Try.underlying9 ba bs bl bc Hl.out (Hsrc.out.kept (Kept.of_below Hbel.out) (fun x hx hne => by subst hx; have := Hsrc.out.lt hne; omega))
      clear ql hbs ho hol
      go_wp2_with (go_at_call 9; refine (ring_len _ _ _ _ 0 _ Hring.out (by have := Ql.out; omega)).mono ?_; rintro e w3 ⟨rfl, rfl⟩)
      go_ret
      exact ⟨rfl, Hbel.out⟩
    · obtain ⟨q, hq⟩ : ∃ q, q = (bs.take p).drop t := ⟨_, rfl⟩
      rw [← hq] at Hring ql
      obtain ⟨d, hd⟩ : ∃ d, d = p - t := ⟨_, rfl⟩
      rw [← hd] at ql
      have Hd := Lib.hid hd
      obtain ⟨n1, hn1⟩ : ∃ n1, n1 = min m (cap - d) := ⟨_, rfl⟩
      have hfit := Hring.out.fits
      obtain ⟨L, hL⟩ : ∃ L, L = d + n1 := ⟨_, rfl⟩
      have i1 : 1 ≤ L := by have := Hpm.out; omega
      have i2 : L ≤ cap := by omega
      have i3 : n1 ≤ m := by omega
      have i3' : (n1 : Int) ≤ m := by omega
      have i4 : (0 : Int) ≤ n1 := by omega
      have i5 : d ≤ p := by omega
      obtain ⟨M, hM⟩ : ∃ M, L + M = cap := ⟨cap - L, by omega⟩
      have Hq := Lib.hid hq
      have Hql := Lib.hid ql
      have Hn1 := Lib.hid hn1
      have HL := Lib.hid hL
      have HM := Lib.hid hM
      have i6 : L + M ≤ cap := by omega
      have i7 : cap ≤ L + M := by omega
      have lt0 := Hring.out.lt
      have ld : (bs.drop p).length = m := by have := Hl.out; have := Hpm.out; rw [List.length_drop]; omega
      have Hld := Lib.hid ld
      clear hq ql hd hn1 hL hM hfit ld
      have hne : ((L : Int) + M == cap) = true := by have := HM.out; simp; omega
      have hne2 : ((L : Int) + M != cap) = false := by have := HM.out; simp; omega
      have hgo : m = 0 → 0 < d := by have := Hpm.out; have := Hd.out; omega
      have j4 : (0 : Int) ≤ k := by omega
      -- the piece to be taken
      have hpiece : ∃ (X : Int), 1 ≤ X ∧ ((X = 1 ∧ pl = 0) ∨ ∃ pb po j y, pa = some ⟨pb, po, none⟩ ∧ j < pl ∧ (k : Int) % pl = ((j : Nat) : Int) ∧ wr.cell? ⟨pb, po + j, none⟩ = some (.int .i64 y) ∧ ¬ (pb = r ∨ pb = g) ∧ ((X = 1 ∧ ¬ 1 < y) ∨ (X = y ∧ 1 < y))) := by
        rcases Hps.out with h | ⟨pb, po, h, hc⟩
        · exact ⟨1, by omega, .inl ⟨rfl, h⟩⟩
        · by_cases h0 : pl = 0
          · exact ⟨1, by omega, .inl ⟨rfl, h0⟩⟩
          · have j0 : k % pl < pl := Nat.mod_lt _ (by omega)
            have hcj := hc (k % pl) j0
            have hlt := World.block_lt_of_cell? w _ hcj
            have hw := (Hbel.out.cell (p := ⟨pb, po + k % pl, none⟩) hlt).trans hcj
            simp at hlt
            by_cases hy : 1 < ps.getD (k % pl) 0
            · exact ⟨_, by omega, .inr ⟨pb, po, k % pl, _, h, j0, by omega, hw, by omega, .inr ⟨rfl, hy⟩⟩⟩
            · exact ⟨1, by omega, .inr ⟨pb, po, k % pl, _, h, j0, by omega, hw, by omega, .inl ⟨rfl, hy⟩⟩⟩
      obtain ⟨X, hX, hcase⟩ := hpiece
      have hk2 : ∃ k2 : Nat, 1 ≤ k2 ∧ k2 ≤ L ∧ (k2 : Int) ≤ X ∧ (X = k2 ∧ k2 ≤ L ∨ (L : Int) < X ∧ k2 = L) := by
        by_cases h : X ≤ L
        · exact ⟨X.toNat, by omega, by omega, by omega, .inl ⟨by omega, by omega⟩⟩
        · exact ⟨L, by omega, by omega, by omega, .inr ⟨by omega, rfl⟩⟩
      obtain ⟨k2, k2a, k2b, k2c, hk2⟩ := hk2
      have Hk2 := Lib.hid hk2
      obtain ⟨m', hm'⟩ : ∃ m', m' = m - n1 := ⟨_, rfl⟩
      obtain ⟨la', hla'⟩ : ∃ x, x = (if lc = n1 then la else la.map (·.add n1)) := ⟨_, rfl⟩
      obtain ⟨lc', hlc'⟩ : ∃ x, x = lc - n1 := ⟨_, rfl⟩
      have hsl : ∀ w, (Instr.slice 22 (.slice la m lc) (some (.int .i64 n1)) none none).run Try.prog w = .ok (.slice la' m' lc') w := by
        intro w
        rw [hm', hla', hlc']
        exact run_cut_l 22 5 Try.underlying22 Try.info5 w la m lc n1 i3
      have Hm' := Lib.hid hm'
      have Hla' := Lib.hid hla'
      have Hlc' := Lib.hid hlc'
      clear hk2 hm' hla' hlc' Hps hdone
      have hhead : (m = 0 ∧ 0 < d) ∨ (0 : Int) < m := by
        by_cases h : m = 0
        · exact .inl ⟨h, hgo h⟩
        · exact .inr (by omega)
      clear hgo
      rcases hcase with ⟨rfl, rfl⟩ | ⟨pb, po, j, y, rfl, j0, ej, hc, hpb, ⟨rfl, hy⟩ | ⟨rfl, hy⟩⟩
      all_goals
        (try have Hc := Lib.hid hc)
        (try have Hpb := Lib.hid hpb)
        (try have j1 : (0 : Int) < pl := by omega)
        (try have j2 : (0 : Int) ≤ j := by omega)
        (try have j3 : (j : Int) < pl := by omega)
        (try clear hc hpb)
      all_goals
        rcases hhead with ⟨rfl, hd0⟩ | hm1
        all_goals
          go_wp2_with (go_at_call 9; refine (ring_len _ r g cap d _ Hring.out Hql.out).mono ?_; rintro e w4 ⟨rfl, rfl⟩)
        all_goals
          refine (ring_put _ r g cap n1 q Hring.out la _ lc (bs.drop p) Hld.out hlc hlc2 (Hla.out.kept (Kept.of_below Hbel.out) (fun x hx hne => by subst hx; have := Hla.out.lt hne; omega)) (fun hne x hx => by subst hx; have := Hla.out.lt hne; omega) (by rw [Hql.out]; exact Hn1.out)).mono ?_
          rintro e w3 ⟨rfl, hr3, K3⟩
          have lq3 : (q ++ (bs.drop p).take n1).length = L := by have := Hql.out; have := Hld.out; have := HL.out; rw [List.length_append, List.length_take]; omega
          have Hr3 := Lib.hid hr3
          have Hlq3 := Lib.hid lq3
          have HK3 := Lib.hid K3
          have lw3 : wr.heap.size ≤ w3.heap.size := HK3.out.size
          (try have hcell := HK3.out.cell Hc.out Hpb.out)
          clear hr3 lq3 K3
          go_wp2_with (go_at_call 9; refine (ring_len _ r g cap L _ Hr3.out Hlq3.out).mono ?_; rintro e w4 ⟨rfl, rfl⟩)
          refine (ring_room _ r g cap M _ Hr3.out (by have := Hlq3.out; have := HM.out; omega)).mono ?_
          rintro e w4 ⟨rfl, kk, rfl⟩
          go_wp2_with (go_at_call 9; refine (ring_len _ r g cap L _ (Hr3.out.drewN kk) Hlq3.out).mono ?_; rintro e w4 ⟨rfl, rfl⟩)
          refine (ring_take _ r g cap k2 _ _ (Hr3.out.drewN kk) (by rw [Hlq3.out]; exact .inr Hk2.out)).mono ?_
          rintro e w4 ⟨rfl, S4, _, R4, K4⟩
          have HS4 := Lib.hid S4
          have HR4 := Lib.hid R4
          have HK4 := Lib.hid K4
          have lw4 : wr.heap.size ≤ w4.heap.size := Nat.le_trans lw3 HK4.out.size
          obtain ⟨N, hN⟩ : ∃ N, N = L - k2 := ⟨_, rfl⟩
          have l4 : ((q ++ (bs.drop p).take n1).drop k2).length = N := by have := Hlq3.out; rw [List.length_drop]; omega
          have e4 : ((L : Int) - k2) = N := by omega
          have Hl4 := Lib.hid l4
          have t1 : ((k2 : Int) == 0) = false := by simp; omega
          have gl : ((q ++ (bs.drop p).take n1).take k2).length = k2 := by have := Hlq3.out; rw [List.length_take]; omega
          have tl : (bs.take t).length = t := by have := Hl.out; rw [List.length_take]; omega
          have o4 : OwnB w4 B 5 oa oc (bs.take t) := (Hown.out.kept HK3.out (fun y hy => by have := (Hown.out.at y hy).1; show ¬ (y.block = r ∨ y.block = g); omega)).kept (w' := w4) (S := (· = r)) ⟨HK4.out.os, HK4.out.tape, HK4.out.output, HK4.out.size, HK4.out.block⟩ (fun y hy => by have := (Hown.out.at y hy).1; show ¬ (y.block = r); omega)
          have Hgl := Lib.hid gl
          have Htl := Lib.hid tl
          have Ho4 := Lib.hid o4
          clear S4 R4 K4 l4 hN gl tl o4
          go_wp2_with (first
            | (go_at_call 9; refine (ring_len _ r g cap N _ HR4.out Hl4.out).mono ?_; rintro e w5 ⟨rfl, rfl⟩)
            | (at_builtin; go_loud (refine wpList_appendB (by rfl) (.tmp 117) (.tmp 118) 22 (by rfl) B 5 i0 Try.underlying22 Hi.out Hz0.out Hz1.out Hz2.out _ _ _ (bs.take t) (by rfl) Htl.out Ho4.out _ _ _ ((q ++ (bs.drop p).take n1).take k2) (by rfl) Hgl.out HS4.out (by omega) (by omega) ?_; intro oa' oc' w5 O5 K5 _)))
          go_roundw
          case rel => exact order_step Hl.out Hpm.out htp hkt hlc hlc2 Hla.out Hbel.out Hq.out Hd.out HL.out i3 k2a k2b Hm'.out Hla'.out Hlc'.out lrB lgB lr0 lg0 Hown.out HK3.out HK4.out HR4.out hBs O5.out K5
          case measure => have := Hl.out; have := Hpm.out; have := HL.out; have := Hd.out; simp only [slen]; omega
end Go.Proofs.Ytfkchmkaccjjoaa
