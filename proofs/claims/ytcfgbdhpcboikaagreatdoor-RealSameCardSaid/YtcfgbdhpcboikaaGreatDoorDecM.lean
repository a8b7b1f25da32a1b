/-
  The slow decimals in memory: a block that holds one; trim; prefixIsLessThan.
  The slow decimals: prefixIsLessThan, leftShift.
-/
import Derived.Test.YtcfgbdhpcboikaaGreatDoorBase
import Derived.Test.YtcfgbdhpcboikaaGreatDoorDecLaw
import Derived.Test.YtcfgbdhpcboikaaGreatDoorProg
import Derived.Deep.QuietTactic
import Derived.BigQuiet
import Derived.Lib.Hide
import Derived.Deep.LoopGhost
import Derived.IntWalk
import Derived.Outline
import GoSem.PinnedTables
namespace Go.Proofs.YtcfgbdhpcboikaaGreatDoor
open Go.RowKit

def decCells (s : Dec.Dc) : List Value := s.D.map byteV ++ [.int .i64 s.nd, .int .i64 s.dp, .bool s.neg, .bool s.trunc]
/-- A decimal at the head of a block. -/
structure DecAt (w : World) (B : Nat) (s : Dec.Dc) : Prop where
  h : w.heap[B]? = some (.cells (decCells s).toArray 234 (0, 0))
  len : s.D.length = 800

section
variable {w : World} {B : Nat} {s : Dec.Dc}
theorem DecAt.byte (h : DecAt w B s) (i : Nat) (hi : i < s.D.length) : w.cell? ⟨B, i, none⟩ = some (.int .u8 (s.D[i].toNat : Nat)) := by
  rw [cell_of_row w B i _ _ _ h.h]
  unfold decCells
  rw [List.getElem?_toArray, List.getElem?_append, if_pos (by rw [List.length_map]; exact hi), List.getElem?_map, List.getElem?_eq_getElem hi]
  rfl
theorem DecAt.tail (h : DecAt w B s) (j : Nat) : w.cell? ⟨B, 800 + j, none⟩ = [Value.int .i64 s.nd, .int .i64 s.dp, .bool s.neg, .bool s.trunc][j]? := by
  rw [cell_of_row w B _ _ _ _ h.h]
  unfold decCells
  rw [List.getElem?_toArray, List.getElem?_append, if_neg (by rw [List.length_map, h.len]; omega), List.length_map, h.len, show 800 + j - 800 = j by omega]
theorem DecAt.nd (h : DecAt w B s) : w.cell? ⟨B, 800, none⟩ = some (.int .i64 s.nd) := h.tail 0
theorem DecAt.dp (h : DecAt w B s) : w.cell? ⟨B, 801, none⟩ = some (.int .i64 s.dp) := h.tail 1
theorem DecAt.neg (h : DecAt w B s) : w.cell? ⟨B, 802, none⟩ = some (.bool s.neg) := h.tail 2
theorem DecAt.trunc (h : DecAt w B s) : w.cell? ⟨B, 803, none⟩ = some (.bool s.trunc) := h.tail 3
theorem DecAt.fz (h : DecAt w B s) (j : Nat) : w.frozen? ⟨B, j, none⟩ = false := frozen_of_row w B j _ _ h.h
theorem DecAt.lt (h : DecAt w B s) : B < w.heap.size := (Array.getElem?_eq_some_iff.1 h.h).1
theorem DecAt.same {w' : World} (h : DecAt w B s) (e : w'.heap = w.heap) : DecAt w' B s := ⟨by rw [e]; exact h.h, h.len⟩
theorem DecAt.drewN (h : DecAt w B s) (n : Nat) : DecAt (w.drewN n) B s := h.same rfl
theorem DecAt.kept {w' : World} {S : Nat → Prop} (h : DecAt w B s) (k : Kept S w w') (hs : ¬ S B) : DecAt w' B s := ⟨k.heap h.h hs, h.len⟩
theorem DecAt.setByte (h : DecAt w B s) (i : Nat) (hi : i < 800) (c : UInt8) (v : Int) (hv : v = (c.toNat : Nat)) : DecAt (w.setCell ⟨B, i, none⟩ (.int .u8 v)) B { s with D := s.D.set i c } := by
  subst hv
  refine ⟨?_, by rw [List.length_set]; exact h.len⟩
  rw [heap_setCell_same _ _ _ _ _ _ h.h]
  congr 2
  apply Array.toList_inj.1
  unfold decCells
  rw [Array.toList_setIfInBounds, List.set_append, if_pos (by rw [List.length_map, h.len]; exact hi)]
  simp only [List.map_set]
  rfl
theorem dec_set_tail (s s' : Dec.Dc) (hl : s.D.length = 800) (hD : s'.D = s.D) (j : Nat) (v : Value)
    (h : [Value.int .i64 s.nd, .int .i64 s.dp, .bool s.neg, .bool s.trunc].set j v = [Value.int .i64 s'.nd, .int .i64 s'.dp, .bool s'.neg, .bool s'.trunc]) :
    (decCells s).toArray.setIfInBounds (800 + j) v = (decCells s').toArray := by
  apply Array.toList_inj.1
  unfold decCells
  rw [Array.toList_setIfInBounds, List.set_append, if_neg (by rw [List.length_map, hl]; omega), List.length_map, hl, show 800 + j - 800 = j by omega, h, hD]
theorem DecAt.setNd (h : DecAt w B s) (n : Nat) : DecAt (w.setCell ⟨B, 800, none⟩ (.int .i64 n)) B { s with nd := n } :=
  ⟨by rw [heap_setCell_same _ _ _ _ _ _ h.h, dec_set_tail s { s with nd := n } h.len rfl 0 _ rfl], h.len⟩
theorem DecAt.setNdV (h : DecAt w B s) (n : Nat) (v : Int) (hv : v = (n : Nat)) : DecAt (w.setCell ⟨B, 800, none⟩ (.int .i64 v)) B { s with nd := n } := by
  subst hv
  exact h.setNd n
theorem DecAt.setDpV (h : DecAt w B s) (n v : Int) (hv : v = n) : DecAt (w.setCell ⟨B, 801, none⟩ (.int .i64 v)) B { s with dp := n } := by
  subst hv
  exact ⟨by rw [heap_setCell_same _ _ _ _ _ _ h.h, dec_set_tail s { s with dp := v } h.len rfl 1 _ rfl], h.len⟩
theorem DecAt.setDp (h : DecAt w B s) (n : Int) : DecAt (w.setCell ⟨B, 801, none⟩ (.int .i64 n)) B { s with dp := n } :=
  ⟨by rw [heap_setCell_same _ _ _ _ _ _ h.h, dec_set_tail s { s with dp := n } h.len rfl 1 _ rfl], h.len⟩
theorem DecAt.setNeg (h : DecAt w B s) (b : Bool) : DecAt (w.setCell ⟨B, 802, none⟩ (.bool b)) B { s with neg := b } :=
  ⟨by rw [heap_setCell_same _ _ _ _ _ _ h.h, dec_set_tail s { s with neg := b } h.len rfl 2 _ rfl], h.len⟩
theorem DecAt.setTr (h : DecAt w B s) (b : Bool) : DecAt (w.setCell ⟨B, 803, none⟩ (.bool b)) B { s with trunc := b } :=
  ⟨by rw [heap_setCell_same _ _ _ _ _ _ h.h, dec_set_tail s { s with trunc := b } h.len rfl 3 _ rfl], h.len⟩
end

def TrimPost (B : Nat) (s : Dec.Dc) (w : World) (e : Ending) (w' : World) : Prop := e = .returned (.tuple #[]) ∧ DecAt w' B (Dec.trimD s) ∧ Kept (· = B) w w'
set_option maxRecDepth 100000 in
set_option maxHeartbeats 1000000 in
theorem trim_any (B : Nat) (s : Dec.Dc) (w : World) (h : DecAt w B s) (hn : s.nd ≤ 800) :
    Calls Tryz.prog 287 #[.pointer (some ⟨B, 0, none⟩)] w (TrimPost B s w) := by
  have H := Lib.hid h
  have L := Lib.hid h.len
  clear h
  go_enter Tryz.func287, Tryz.ntmps287
  go_wp2_with fail
  go_loopg [] s.nd (fun g wr => ∃ k : Nat, g = k ∧ k ≤ s.nd ∧ DecAt wr B { s with nd := k } ∧ Dec.trimL (s.D.take k) = Dec.trimL (s.D.take s.nd) ∧ Kept (· = B) w wr)
  case atStart => exact ⟨s.nd, rfl, Nat.le_refl _, H.out, rfl, Kept.refl _ _⟩
  case round =>
    obtain ⟨k, hgk, hk, hd, ht, hK⟩ := hrel
    have HGK := Lib.hid hgk
    clear hgk
    have f0 := hd.fz 800
    have f1 := hd.fz 801
    have c801 : wr.cell? ⟨B, 801, none⟩ = some (.int .i64 s.dp) := hd.dp
    have HD := Lib.hid hd
    have HT := Lib.hid ht
    have HK := Lib.hid hK
    by_cases h0 : k = 0
    · subst h0
      have c8 : wr.cell? ⟨B, 800, none⟩ = some (.int .i64 0) := hd.nd
      clear hd ht hK hk
      go_wp2_with fail
      go_quiet (fail)
      go_wp2
      go_end0
      have t0 : Dec.trimL (s.D.take s.nd) = 0 := HT.out.symm
      have e : Dec.trimD s = { ({ s with nd := 0 } : Dec.Dc) with dp := 0 } := by unfold Dec.trimD; rw [t0, if_pos rfl]
      refine ⟨rfl, ?_, (HK.out.drewN _).setCell _ _ (fun _ => rfl)⟩
      rw [e]
      exact (HD.out.drewN _).setDp 0
    · obtain ⟨i, rfl⟩ : ∃ i, k = i + 1 := ⟨k - 1, by omega⟩
      have hi : i < s.D.length := by rw [L.out]; omega
      have c8 : wr.cell? ⟨B, 800, none⟩ = some (.int .i64 ((i : Int) + 1)) := by have := hd.nd; simpa using this
      have ci : wr.cell? ⟨B, i, none⟩ = some (.int .u8 (s.D[i].toNat : Nat)) := hd.byte i hi
      obtain ⟨c, hc⟩ : ∃ c, s.D[i] = c := ⟨_, rfl⟩
      rw [hc] at ci
      have hg : s.D[i]? = some c := by rw [List.getElem?_eq_getElem hi, hc]
      have HG := Lib.hid hg
      have i800 : i < 800 := by omega
      clear hd ht hK hc hg hi h0
      by_cases h48 : c = 48
      · have e1 : ((c.toNat : Int) == 48) = true := by rw [h48]; rfl
        have H48 := Lib.hid h48
        clear h48
        have w1 : IntKind.i64.wrap ((i : Int) + 1 - 1) = i := by rw [IntWalk.i64_in _ (by omega)]; omega
        go_wp2_with fail
        go_quiet (fail)
        go_wp2
        go_roundg i
        case measure => have := HGK.out; omega
        case rel => exact ⟨i, rfl, by omega, (HD.out.drewN _).setNd i, (Dec.trimL_take s.D i c HG.out H48.out).symm.trans HT.out, (HK.out.drewN _).setCell _ _ (fun _ => rfl)⟩
      · have e1 : ((c.toNat : Int) == 48) = false := beq_eq_false_iff_ne.2 (by intro e; exact h48 (UInt8.toNat_inj.1 (by show _ = 48; omega)))
        have H48 := Lib.hid h48
        clear h48
        have w1 : IntKind.i64.wrap ((i : Int) + 1 - 1) = i := by rw [IntWalk.i64_in _ (by omega)]; omega
        go_wp2_with fail
        go_quiet (fail)
        go_wp2
        go_end0
        have t0 : Dec.trimL (s.D.take s.nd) = i + 1 := HT.out.symm.trans (Dec.trimL_stop s.D i c HG.out H48.out)
        have e : Dec.trimD s = { s with nd := i + 1 } := by unfold Dec.trimD; rw [t0, if_neg (by omega)]
        refine ⟨rfl, ?_, HK.out.drewN _⟩
        rw [e]
        exact HD.out.drewN _
end Go.Proofs.YtcfgbdhpcboikaaGreatDoor

namespace Go.Proofs.YtcfgbdhpcboikaaGreatDoor
open Go.RowKit

def nats (l : List UInt8) : List Nat := l.map UInt8.toNat
theorem nats_drop (l : List UInt8) (k : Nat) (c : UInt8) (h : l[k]? = some c) : (nats l).drop k = c.toNat :: (nats l).drop (k + 1) := by
  obtain ⟨hk, e⟩ := List.getElem?_eq_some_iff.1 h
  unfold nats
  rw [← List.map_drop, ← List.map_drop, List.drop_eq_getElem_cons hk, e]
  rfl
theorem nats_end (l : List UInt8) (k : Nat) (h : l.length ≤ k) : (nats l).drop k = [] := List.drop_eq_nil_of_le (by unfold nats; rw [List.length_map]; exact h)
theorem ret_bool {a b : Bool} (h : a = b) : Ending.returned (.bool a) = .returned (.bool b) := by rw [h]

set_option maxRecDepth 100000 in
set_option maxHeartbeats 1000000 in
theorem pless_any (B n c : Nat) (d : Dec.Dc) (s : ByteArray) (w : World) (h : DecAt w B d) (hn : n ≤ 800) (_hs : s.size ≤ 1000) :
    Calls Tryz.prog 296 #[.slice (some ⟨B, 0, none⟩) n c, .string s] w fun e w' => e = .returned (.bool (Dec.less (nats (d.D.take n)) (nats s.data.toList))) ∧ ∃ m, w' = w.drewN m := by
  have H := Lib.hid h
  have L := Lib.hid h.len
  obtain ⟨r, hr⟩ : ∃ r, Dec.less (nats (d.D.take n)) (nats s.data.toList) = r := ⟨_, rfl⟩
  have HR := Lib.hid hr
  rw [hr]
  clear h hr
  go_enter Tryz.func296, Tryz.ntmps296
  go_wp2_with fail
  go_loopw [5] (fun i wr => ∃ k m : Nat, k ≤ s.size ∧ i = .int .i64 k ∧ Dec.less ((nats (d.D.take n)).drop k) ((nats s.data.toList).drop k) = r ∧ wr = w.drewN m) (fun i _ => s.size - (intOf i).toNat)
  case atStart => exact ⟨0, 0, Nat.zero_le _, rfl, HR.out, rfl⟩
  case round =>
    obtain ⟨k, m, hk, rfl, hl, hw⟩ := hrel
    have HD : Hid (DecAt wr B d) := by rw [hw]; exact H.out.drewN m
    have HW := Lib.hid hw
    have HL := Lib.hid hl
    clear hw hl
    by_cases hlt : k < s.size
    · by_cases hkn : k < n
      · have hkD : k < d.D.length := by rw [L.out]; omega
        have ci : wr.cell? ⟨B, k, none⟩ = some (.int .u8 (d.D[k].toNat : Nat)) := HD.out.byte k hkD
        obtain ⟨b, hb⟩ : ∃ b, d.D[k] = b := ⟨_, rfl⟩
        rw [hb] at ci
        have g1 : (d.D.take n)[k]? = some b := by rw [List.getElem?_take, if_pos hkn, List.getElem?_eq_getElem hkD, hb]
        have g2 : s.data.toList[k]? = some s[k] := by rw [List.getElem?_eq_getElem (by simpa using hlt)]; rfl
        have G1 := Lib.hid (nats_drop _ _ _ g1)
        have G2 := Lib.hid (nats_drop _ _ _ g2)
        clear g1 g2 hb hkD
        by_cases he : b.toNat = s[k].toNat
        · have e1 : ((b.toNat : Int) != (s[k].toNat : Int)) = false := bne_eq_false_iff_eq.2 (by omega)
          have HE := Lib.hid he
          clear he
          go_wp2_with fail
          go_quiet (fail)
          go_wp2
          go_roundw
          case measure => simp [intOf]; omega
          case rel =>
            refine ⟨k + 1, m + nq, by omega, by go_num, ?_, ?_⟩
            · rw [← HL.out, G1.out, G2.out]
              show _ = (if b.toNat = s[k].toNat then _ else _)
              rw [if_pos HE.out]
            · rw [HW.out, World.drewN_drewN]
        · have e1 : ((b.toNat : Int) != (s[k].toNat : Int)) = true := bne_iff_ne.2 (by omega)
          have HE := Lib.hid he
          clear he
          go_wp2_with fail
          go_quiet (fail)
          go_wp2_with fail
          go_quiet (fail)
          go_wp2
          go_ret
          refine ⟨ret_bool ?_, _, by rw [HW.out, World.drewN_drewN, World.drewN_drewN]⟩
          rw [← HL.out, G1.out, G2.out]
          show _ = (if b.toNat = s[k].toNat then _ else _)
          rw [if_neg HE.out]
      · have hl0 : (d.D.take n).length ≤ k := by rw [List.length_take]; omega
        have G1 := Lib.hid (nats_end _ _ hl0)
        have g2 : s.data.toList[k]? = some s[k] := by rw [List.getElem?_eq_getElem (by simpa using hlt)]; rfl
        have G2 := Lib.hid (nats_drop _ _ _ g2)
        clear g2 hl0
        go_wp2
        go_ret
        refine ⟨ret_bool ?_, m, HW.out⟩
        rw [← HL.out, G1.out, G2.out]
        rfl
    · have G2 := Lib.hid (nats_end s.data.toList k (by show s.size ≤ k; omega))
      go_wp2
      go_ret
      refine ⟨ret_bool ?_, m, HW.out⟩
      rw [← HL.out, G2.out]
      cases (nats (d.D.take n)).drop k <;> rfl

/-! ### leftShift -/
theorem less_shift (x y : List Nat) : Dec.less (x.map (· + 48)) (y.map (· + 48)) = Dec.less x y := by
  induction x generalizing y with
  | nil => cases y <;> rfl
  | cons a x ih =>
    cases y with
    | nil => rfl
    | cons b y =>
      show (if a + 48 = b + 48 then _ else _) = (if a = b then _ else _)
      by_cases h : a = b
      · rw [if_pos (by omega), if_pos h]; exact ih y
      · rw [if_neg (by omega), if_neg h]
        by_cases g : a < b
        · rw [decide_eq_true g, decide_eq_true (show a + 48 < b + 48 by omega)]
        · rw [decide_eq_false g, decide_eq_false (show ¬ a + 48 < b + 48 by omega)]
theorem nats_dgs (s : Dec.Dc) (h : Dec.Fine s) : nats (s.D.take s.nd) = (Dec.dgs s.D s.nd).map (· + 48) := by
  unfold nats Dec.dgs
  rw [List.map_map]
  refine List.map_congr_left fun c hc => ?_
  have := h.dig c hc
  show c.toNat = Dec.un c + 48
  unfold Dec.un
  omega
/-- The table's line k. -/
theorem cheat_row : ∀ k < 61, k ≠ 0 → (Pinned.cheatRows.getD k (0, [])).1 = Dec.more k ∧ nats (Pinned.cheatRows.getD k (0, [])).2 = (Dec.cut k).map (· + 48) ∧ (Pinned.cheatRows.getD k (0, [])).2.length ≤ 60 := by decide +kernel
end Go.Proofs.YtcfgbdhpcboikaaGreatDoor
