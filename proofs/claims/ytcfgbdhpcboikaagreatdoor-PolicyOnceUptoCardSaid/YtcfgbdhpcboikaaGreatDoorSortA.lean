/-
  slices.SortFunc at attributes, by their names: laid off the shelf, and what it makes of a slice of the call's own.
  policy.Attrs: what it answers.
-/
import Derived.Shelf.SlSortCmp.WholeK
import Derived.Test.YtcfgbdhpcboikaaGreatDoorAttrL
import Derived.Test.YtcfgbdhpcboikaaGreatDoorHoldA
import Derived.Test.YtcfgbdhpcboikaaGreatDoorFormV
namespace Go.Proofs.YtcfgbdhpcboikaaGreatDoor
open Go.RowKit Go.Shelf Go.Lib Go.Sort

def Tryz.sortAttr_ren : Go.Shelf.Ren := ⟨fun | 6 => 86 | 15 => 147 | 14 => 146 | 28 => 190 | 29 => 191 | 20 => 182 | 21 => 183 | 22 => 184 | 23 => 185 | 24 => 186 | 25 => 187 | 26 => 188 | 27 => 189 | 46 => 218 | 47 => 219 | 48 => 220 | 49 => 221 | 50 => 222 | 57 => 250 | n => n, fun | 22 => 33 | 24 => 39 | 25 => 96 | 3 => 3 | 39 => 148 | 0 => 0 | 53 => 177 | 55 => 163 | 4 => 4 | 46 => 171 | 45 => 170 | 50 => 68 | 5 => 5 | 9 => 9 | 66 => 202 | 70 => 206 | 76 => 245 | 77 => 102 | n => n, fun | n => n⟩
theorem Tryz.sortAttr : Go.Proofs.SlLaysF0.n6 Tryz.prog Tryz.sortAttr_ren := {
  mixed := by kernel_rfl
  f6 := ⟨ "slices.SortFunc[[]colander/api.Attr,colander/api.Attr]", of_decide_eq_true (by kernel_rfl), Tryz.func86.trans (congrArg some (by kernel_rfl))⟩
  f14 := ⟨ "slices.pdqsortCmpFunc[colander/api.Attr]", of_decide_eq_true (by kernel_rfl), Tryz.func146.trans (congrArg some (by kernel_rfl))⟩
  f15 := Tryz.func147.trans (congrArg some (by kernel_rfl))
  f20 := ⟨ "slices.insertionSortCmpFunc[colander/api.Attr]", of_decide_eq_true (by kernel_rfl), Tryz.func182.trans (congrArg some (by kernel_rfl))⟩
  f21 := ⟨ "slices.heapSortCmpFunc[colander/api.Attr]", of_decide_eq_true (by kernel_rfl), Tryz.func183.trans (congrArg some (by kernel_rfl))⟩
  f22 := ⟨ "slices.breakPatternsCmpFunc[colander/api.Attr]", of_decide_eq_true (by kernel_rfl), Tryz.func184.trans (congrArg some (by kernel_rfl))⟩
  f23 := ⟨ "slices.choosePivotCmpFunc[colander/api.Attr]", of_decide_eq_true (by kernel_rfl), Tryz.func185.trans (congrArg some (by kernel_rfl))⟩
  f24 := ⟨ "slices.reverseRangeCmpFunc[colander/api.Attr]", of_decide_eq_true (by kernel_rfl), Tryz.func186.trans (congrArg some (by kernel_rfl))⟩
  f25 := ⟨ "slices.partialInsertionSortCmpFunc[colander/api.Attr]", of_decide_eq_true (by kernel_rfl), Tryz.func187.trans (congrArg some (by kernel_rfl))⟩
  f26 := ⟨ "slices.partitionEqualCmpFunc[colander/api.Attr]", of_decide_eq_true (by kernel_rfl), Tryz.func188.trans (congrArg some (by kernel_rfl))⟩
  f27 := ⟨ "slices.partitionCmpFunc[colander/api.Attr]", of_decide_eq_true (by kernel_rfl), Tryz.func189.trans (congrArg some (by kernel_rfl))⟩
  f28 := Tryz.func190.trans (congrArg some (by kernel_rfl))
  f29 := Tryz.func191.trans (congrArg some (by kernel_rfl))
  f46 := ⟨ "slices.siftDownCmpFunc[colander/api.Attr]", of_decide_eq_true (by kernel_rfl), Tryz.func218.trans (congrArg some (by kernel_rfl))⟩
  f47 := Tryz.func219.trans (congrArg some (by kernel_rfl))
  f48 := Tryz.func220.trans (congrArg some (by kernel_rfl))
  f49 := ⟨ "slices.medianAdjacentCmpFunc[colander/api.Attr]", of_decide_eq_true (by kernel_rfl), Tryz.func221.trans (congrArg some (by kernel_rfl))⟩
  f50 := ⟨ "slices.medianCmpFunc[colander/api.Attr]", of_decide_eq_true (by kernel_rfl), Tryz.func222.trans (congrArg some (by kernel_rfl))⟩
  f57 := ⟨ "slices.order2CmpFunc[colander/api.Attr]", of_decide_eq_true (by kernel_rfl), Tryz.func250.trans (congrArg some (by kernel_rfl))⟩
  t0 := Tryz.underlying0
  a0 := Tryz.isAgg0
  z0 := Tryz.sizeOf0
  v0 := Tryz.zeroValue0
  t3 := Tryz.underlying3
  a3 := Tryz.isAgg3
  z3 := Tryz.sizeOf3
  v3 := Tryz.zeroValue3
  t4 := Tryz.underlying4
  a4 := Tryz.isAgg4
  z4 := Tryz.sizeOf4
  v4 := Tryz.zeroValue4
  t5 := Tryz.underlying5
  a5 := Tryz.isAgg5
  z5 := Tryz.sizeOf5
  v5 := Tryz.zeroValue5
  t9 := Tryz.underlying9
  a9 := Tryz.isAgg9
  z9 := Tryz.sizeOf9
  v9 := Tryz.zeroValue9
  t22 := Tryz.underlying33
  a22 := Tryz.isAgg33
  z22 := Tryz.sizeOf33
  v22 := Tryz.zeroValue33
  t25 := Tryz.underlying96
  a25 := Tryz.isAgg96
  z25 := Tryz.sizeOf96
  v25 := Tryz.zeroValue96
  t39 := Tryz.underlying148
  a39 := Tryz.isAgg148
  z39 := Tryz.sizeOf148
  v39 := Tryz.zeroValue148
  t45 := Tryz.underlying170
  a45 := Tryz.isAgg170
  z45 := Tryz.sizeOf170
  v45 := Tryz.zeroValue170
  t46 := Tryz.underlying171
  a46 := Tryz.isAgg171
  z46 := Tryz.sizeOf171
  v46 := Tryz.zeroValue171
  t50 := Tryz.underlying68
  a50 := Tryz.isAgg68
  z50 := Tryz.sizeOf68
  v50 := Tryz.zeroValue68
  t53 := Tryz.underlying177
  a53 := Tryz.isAgg177
  z53 := Tryz.sizeOf177
  v53 := Tryz.zeroValue177
  t55 := Tryz.underlying163
  a55 := Tryz.isAgg163
  z55 := Tryz.sizeOf163
  v55 := Tryz.zeroValue163
  t66 := Tryz.underlying202
  a66 := Tryz.isAgg202
  z66 := Tryz.sizeOf202
  v66 := Tryz.zeroValue202
  t70 := Tryz.underlying206
  a70 := Tryz.isAgg206
  z70 := Tryz.sizeOf206
  v70 := Tryz.zeroValue206
  t76 := Tryz.underlying245
  a76 := Tryz.isAgg245
  z76 := Tryz.sizeOf245
  v76 := Tryz.zeroValue245
  t77 := Tryz.underlying102
  a77 := Tryz.isAgg102
  z77 := Tryz.sizeOf102
  v77 := Tryz.zeroValue102 }

theorem flatK_list (l : List AT) : (flatK encA 2 l.toArray).toList = flatA l := by
  apply List.ext_getElem
  · simp [flatA_len]
  · intro i h1 h2
    have hi : i < l.length * 2 := by rw [flatA_len] at h2; exact h2
    have hj : i / 2 < l.length := by omega
    obtain ⟨a1, a2⟩ := flatA_at l (i / 2) hj
    have e : (flatK encA 2 l.toArray).toList[i] = (encA l.toArray[i / 2]!)[i % 2]! := by
      rw [Array.getElem_toList, ← getElem!_pos, get_flatK _ _ _ _ (by simpa using hi)]
    rw [e, getElem!_pos l.toArray (i / 2) (by simpa using hj)]
    have hl : l.toArray[i / 2]'(by simpa using hj) = l[i / 2] := by simp
    rw [hl]
    rcases Nat.mod_two_eq_zero_or_one i with hm | hm
    · rw [hm]
      have hii : i / 2 * 2 = i := by omega
      rw [hii, List.getElem?_eq_getElem h2] at a1
      rw [Option.some.inj a1]
      rfl
    · rw [hm]
      have hii : i / 2 * 2 + 1 = i := by omega
      rw [hii, List.getElem?_eq_getElem h2] at a2
      rw [Option.some.inj a2]
      rfl
theorem encA_len (x : AT) : (encA x).length = 2 := rfl
theorem encA_one (x : AT) : ∀ v ∈ encA x, v.oneCell' = true := by
  intro v hv
  simp [encA] at hv
  rcases hv with rfl | rfl <;> rfl
set_option maxHeartbeats 1000000 in
theorem Tryz.closure87 (x y : AT) (W : World) : Calls Tryz.prog 87 #[.agg #[.string x.1, .string x.2], .agg #[.string y.1, .string y.2]] W fun e w' => e = .returned (.int .i64 (cmpA x y)) ∧ ∃ q os', w' = grow (W.drewN q) os' := by
  have hcon := fun W' => Tryz.strings_Compare x.1 y.1 W'
  unfold cmpA
  generalize compareBytes x.1.data.toList y.1.data.toList = r at hcon ⊢
  go_enter Tryz.func87, Tryz.ntmps87
  go_wp2_with (go_at_call 88; refine (hcon _).mono ?_; rintro e w' ⟨rfl, rfl⟩)
  go_ret
  exact ⟨rfl, 0, _, by rw [alloc_eq_grow, alloc_eq_grow, grow_grow]; rfl⟩
theorem Tryz.cmp87 (blk off size : Nat) (w : World) : CmpLays Tryz.prog 87 #[] encA 2 cmpA blk off size w :=
  fun _ _ _ _ x y => Tryz.closure87 x y _
theorem sort_heap (w : World) (g n : Nat) (d : Array AT) (os : Array Obj) (k : Nat) (hk : k < w.heap.size) :
    (sortWorldK encA 2 w g 0 n d os).heap[k]? = if g = k then w.heap[k]?.map (onCells (putCells id 0 (flatK encA 2 d))) else w.heap[k]? := by
  unfold sortWorldK grow putRowK putRow mapBlock
  simp only
  rw [Array.getElem?_append_left (by simp; exact hk), Array.getElem?_modify]
  rfl
theorem sort_own {B : Nat} {v : Value} {l r : List AT} {W0 w w' : World} {g cap n : Nat} {cur : Array Value} {os : Array Obj} (hO : OwnV B 39 2 v l.length (flatA l) W0 w) (hv : v = .slice (some ⟨g, 0, none⟩) l.length cap) (hB : B ≤ g) (hg : w.heap[g]? = some (.cells cur 39 (0, 0)))
    (hnc : l.length ≤ cap) (hcm : cap ≤ maxLen) (hcs : cur.size = cap * 2) (hr : r.length = l.length) (hw : w' = sortWorldK encA 2 w g 0 n r.toArray os) : OwnV B 39 2 v r.length (flatA r) W0 w' := by
  have hlt : g < w.heap.size := (Array.getElem?_eq_some_iff.1 hg).1
  subst hw
  have hsz : w.heap.size ≤ (sortWorldK encA 2 w g 0 n r.toArray os).heap.size := by
    unfold sortWorldK grow putRowK putRow mapBlock
    simp
  refine ⟨⟨by rw [flatA_len], .inr ⟨g, cap, putCells id 0 (flatK encA 2 r.toArray) cur, by rw [hr]; exact hv, hB, ?_, by omega, hcm, ?_, ?_⟩⟩, ?_, Nat.le_trans hO.base hsz⟩
  · rw [sort_heap _ _ _ _ _ _ hlt, if_pos rfl, hg]
    rfl
  · unfold putCells
    simpa using hcs
  · rw [← flatK_list r]
    apply List.ext_getElem
    · rw [List.length_take]
      unfold putCells
      simp
      omega
    · intro i h1 h2
      have hi : i < (flatK encA 2 r.toArray).size := by simpa using h2
      rw [List.getElem_take]
      unfold putCells
      rw [Array.getElem_toList, Array.getElem_mapIdx, if_pos ⟨Nat.zero_le _, by rw [Nat.zero_add]; exact hi⟩]
      rw [Nat.sub_zero, getElem!_pos _ i hi]
      simp
  · refine hO.bel.trans ⟨rfl, rfl, rfl, hsz, fun k hk => ?_⟩
    rw [sort_heap _ _ _ _ _ _ (by omega), if_neg (by omega)]
theorem sort_any (v : Value) (l : List AT) (W0 w : World) (B : Nat) (hO : OwnV B 39 2 v l.length (flatA l) W0 w) (hl : l.length ≤ 1000000000) :
    Calls Tryz.prog 86 #[v, .func (.func 87) #[] #[]] w fun e w' => e = .returned (.tuple #[]) ∧ ∃ r : List AT, r.Perm l ∧ SortedIn (ltOf cmpA) 0 r.length r.toArray ∧ OwnV B 39 2 v r.length (flatA r) W0 w' := by
  rcases hO.own.2 with ⟨rfl, h0⟩ | ⟨g, cap, cur, hv, hB, hg, hnc, hcm, hcs, htake⟩
  · have hnil : l = [] := List.eq_nil_of_length_eq_zero h0
    subst hnil
    refine (sort_nil _ w).mono ?_
    rintro e w' ⟨rfl, rfl⟩
    exact ⟨rfl, [], List.Perm.refl _, fun i j _ _ h => absurd h (by simp), hO⟩
  · subst hv
    have hlt : g < w.heap.size := (Array.getElem?_eq_some_iff.1 hg).1
    have eg : ∀ args w, (callFunc 87 args).run Tryz.prog w = .ok (.enter 87 args) w := enters_of Tryz.func87 (by kernel_rfl) rfl
    have hH : HoldsK encA 2 w g 0 l.toArray := by
      intro j hj
      have hj' : j < l.length * 2 := by simpa using hj
      rw [Nat.zero_add]
      refine ⟨?_, ?_⟩
      · rw [cell_of_row w g j cur 39 (0, 0) hg]
        have e : (flatK encA 2 l.toArray)[j]! = (flatA l)[j]'(by rw [flatA_len]; exact hj') := by
          rw [getElem!_pos _ j hj, ← Array.getElem_toList]
          simp only [flatK_list]
        rw [e]
        have : (cur.toList.take (l.length * 2))[j]? = (flatA l)[j]? := by rw [htake]
        rw [List.getElem?_take, if_pos hj', List.getElem?_eq_getElem (l := flatA l) (by rw [flatA_len]; exact hj')] at this
        simpa using this
      · simp [World.frozen?, hg]
    have hcon := AnyQ.slices_SortFunc Tryz.sortAttr 2 Tryz.isAgg39 Tryz.sizeOf39 encA encA_len encA_one cmpA cmpA_swo 87 #[] g 0 cap l.toArray w eg (Tryz.cmp87 g 0 _ w) hH hlt (by simp; omega)
    change Calls Tryz.prog 86 _ _ _ at hcon
    simp only [List.size_toArray] at hcon
    refine hcon.mono ?_
    rintro e w' ⟨rfl, d', n, os, hp, hs, rfl⟩
    have hsz : d'.size = l.length := by simpa using hp.1
    have hperm : d'.toList.Perm l := by
      have h2 := hp.2.2
      have e1 : (d'.extract 0 l.length).toList = d'.toList := by rw [← hsz]; simp
      have e2 : (l.toArray.extract 0 l.length).toList = l := by simp
      rw [e1, e2] at h2
      exact h2
    refine ⟨rfl, d'.toList, hperm, ?_, ?_⟩
    · have : d'.toList.length = l.length := by simpa using hsz
      rw [this]
      simpa using hs
    · exact sort_own (n := n) (os := os) hO rfl hB hg hnc hcm hcs (by simpa using hsz) (by simp)
end Go.Proofs.YtcfgbdhpcboikaaGreatDoor

namespace Go.Proofs.YtcfgbdhpcboikaaGreatDoor
open Go.RowKit

structure AtAt (V : ByteArray → ByteArray → Option ByteArray) (l : List AT) (k : Nat) (sn : List ByteArray) (done : List AT) : Prop where
  le : k ≤ l.length
  sl : sn.length ≤ k
  dl : done.length ≤ k
  out : attrsGo V [] l = done ++ attrsGo V sn (l.drop k)
theorem AtAt.start (V : ByteArray → ByteArray → Option ByteArray) (l : List AT) : AtAt V l 0 [] [] := ⟨Nat.zero_le _, Nat.le_refl _, Nat.le_refl _, rfl⟩
theorem AtAt.old {V : ByteArray → ByteArray → Option ByteArray} {l : List AT} {k : Nat} {sn : List ByteArray} {done : List AT} (h : AtAt V l k sn done) (hk : k < l.length) (hm : (l[k]).1 ∈ sn) : AtAt V l (k + 1) sn done := by
  have h1 := h.sl
  have h2 := h.dl
  refine ⟨hk, by omega, by omega, ?_⟩
  rw [h.out, List.drop_eq_getElem_cons hk]
  conv => lhs; rhs; unfold attrsGo
  rw [if_pos ((Lib.containsS_iff _ _).2 hm)]
theorem AtAt.yes {V : ByteArray → ByteArray → Option ByteArray} {l : List AT} {k : Nat} {sn : List ByteArray} {done : List AT} {t : ByteArray} (h : AtAt V l k sn done) (hk : k < l.length) (hm : (l[k]).1 ∉ sn) (hv : V (l[k]).1 (l[k]).2 = some t) : AtAt V l (k + 1) (sn ++ [(l[k]).1]) (done ++ [((l[k]).1, t)]) := by
  have h1 := h.sl
  have h2 := h.dl
  refine ⟨hk, by simp; omega, by simp; omega, ?_⟩
  rw [h.out, List.drop_eq_getElem_cons hk]
  conv => lhs; rhs; unfold attrsGo
  rw [if_neg (fun h => hm ((Lib.containsS_iff _ _).1 h)), hv, List.append_assoc]
theorem AtAt.no {V : ByteArray → ByteArray → Option ByteArray} {l : List AT} {k : Nat} {sn : List ByteArray} {done : List AT} (h : AtAt V l k sn done) (hk : k < l.length) (hm : (l[k]).1 ∉ sn) (hv : V (l[k]).1 (l[k]).2 = none) : AtAt V l (k + 1) (sn ++ [(l[k]).1]) done := by
  have h1 := h.sl
  have h2 := h.dl
  refine ⟨hk, by simp; omega, by omega, ?_⟩
  rw [h.out, List.drop_eq_getElem_cons hk]
  conv => lhs; rhs; unfold attrsGo
  rw [if_neg (fun h => hm ((Lib.containsS_iff _ _).1 h)), hv, List.nil_append]
theorem AtAt.done {V : ByteArray → ByteArray → Option ByteArray} {l : List AT} {k : Nat} {sn : List ByteArray} {done : List AT} (h : AtAt V l k sn done) (hk : l.length ≤ k) : attrsGo V [] l = done := by
  rw [h.out, List.drop_eq_nil_of_le hk]
  unfold attrsGo
  rw [List.append_nil]
def AttrsPost (V : ByteArray → ByteArray → Option ByteArray) (l : List AT) (w : World) (e : Ending) (w' : World) : Prop :=
  ∃ v r, e = .returned v ∧ AttrsR V l r ∧ OwnV w.heap.size 39 2 v r.length (flatA r) w w'
set_option maxRecDepth 100000 in
set_option maxHeartbeats 4000000 in
theorem pattrs_any (e : ByteArray) (he : e.size ≤ 1000000000) (V : ByteArray → ByteArray → Option ByteArray) (hV : Hid (∀ n v, n.size ≤ 1048576 → v.size ≤ 1048576 → ValueR e n v (V n v))) (l : List AT) (hl : l.length ≤ 1048576) (hs : Hid (∀ x ∈ l, x.1.size ≤ 1048576 ∧ x.2.size ≤ 1048576)) (av : Value) (w : World) (T : Tabs w) (hA : Hid (AttrsV w av l)) :
    Calls Tryz.prog 38 #[.string e, av] w (AttrsPost V l w) := by
  have HT := Lib.hid T
  clear T
  obtain ⟨i9, hi9, hz9, hs9, hb9⟩ := info_parts Tryz.info9
  obtain ⟨i39, hi39, hz39, hs39, hb39⟩ := info_parts Tryz.info39
  obtain ⟨a, c, rfl, _⟩ := hA.out
  go_enter Tryz.func38, Tryz.ntmps38
  go_wp2
  go_loopw [5, 6, 13] (fun o n i wx => ∃ (k : Nat) (sn : List ByteArray) (done : List AT), i = .int .i64 k ∧ Hid (AtAt V l k sn done) ∧ Hid (OwnV w.heap.size 39 2 o done.length (flatA done) w wx) ∧ Hid (OwnV w.heap.size 9 1 n sn.length (sn.map strV) w wx) ∧ Hid (Apart n o)) (fun _ _ i _ => l.length - (intOf i).toNat)
  case atStart => exact ⟨0, [], [], rfl, Lib.hid (AtAt.start V l), Lib.hid (OwnV.nil w 39 2), Lib.hid (OwnV.nil w 9 1), Lib.hid (Apart.nil _)⟩
  case round =>
    obtain ⟨k, sn, done, rfl, hK, hO, hN, hP⟩ := hrel
    have hk := hK.out.le
    have hsl := hK.out.sl
    have hdl := hK.out.dl
    rcases Nat.lt_or_ge k l.length with hlt | hge
    · obtain ⟨g, off, c', hva, c1, c2⟩ := (hA.out.below hO.out.bel (Nat.le_refl _)).get k hlt
      simp only [Value.slice.injEq, true_and] at hva
      obtain ⟨rfl, rfl⟩ := hva
      have HOLD := Lib.hid (hK.out.old hlt)
      have HYES := Lib.hid (fun t => hK.out.yes (t := t) hlt)
      have HNO := Lib.hid (hK.out.no hlt)
      have HSZ := Lib.hid (hs.out l[k] (List.getElem_mem hlt))
      generalize l[k] = q at *
      obtain ⟨qn, qv⟩ := q
      simp only at c1 c2
      obtain ⟨W1, hW1⟩ : ∃ W1, W1 = wr.alloc (.cells #[.string qn, .string qv] 39) := ⟨_, rfl⟩
      have hB1 : Below wr.heap.size wr W1 := by rw [hW1]; exact (Below.refl _ wr).alloc (Nat.le_refl _) _
      have HO1 := Lib.hid (hO.out.keep hB1)
      have HN1 := Lib.hid (hN.out.keep hB1)
      have b1 : W1.cell? ⟨wr.heap.size, 0, none⟩ = some (.string qn) := by rw [hW1, cell_of_row _ _ 0 _ 39 (0, 0) (heap_alloc_new wr _)]; rfl
      have b2 : W1.cell? ⟨wr.heap.size, 1, none⟩ = some (.string qv) := by rw [hW1, cell_of_row _ _ 1 _ 39 (0, 0) (heap_alloc_new wr _)]; rfl
      have hlt1 : wr.heap.size < W1.heap.size := by rw [hW1]; simp
      have HW1 := Lib.hid hW1
      clear hW1
      by_cases hm : qn ∈ sn
      · have C := contains_vec _ sn qn W1 (by omega) HN1.out.vec true ((Lib.containsS_iff _ _).2 hm)
        have HC := Lib.hid C
        have HF := Lib.hid (HOLD.out hm)
        clear C hm
        go_wp2_with fail
        rw [← HW1.out]
        refine HC.out.mono ?_
        rintro x w' ⟨rfl, rfl⟩
        go_wp2
        go_roundw
        case rel => exact ⟨k + 1, sn, done, by go_num, HF, HO1, HN1, hP⟩
        case measure => simp [intOf]; omega
      · have C := contains_vec _ sn qn W1 (by omega) HN1.out.vec false (by cases h : Lib.containsS sn qn with | false => rfl | true => exact absurd ((Lib.containsS_iff _ _).1 h) hm)
        have HC := Lib.hid C
        have HM := Lib.hid hm
        have HVR := Lib.hid (hV.out qn qv HSZ.out.1 HSZ.out.2)
        clear C hm
        go_wp2_with fail
        rw [← HW1.out]
        refine HC.out.mono ?_
        rintro x w' ⟨rfl, rfl⟩
        go_wp2_with (at_builtin; refine wpList_append_one (by rfl) _ _ 55 (by rfl) 9 i9 (.string ⟨#[]⟩) 1 16 Tryz.underlying55 hi9 hz9 hs9 hb9 rfl (by decide) _ _ _ rfl HN1.out #[.string qn] rfl rfl rfl rfl (by omega) (by omega) ?_)
        intro vn' W2 hN2 hG
        have HO2 := Lib.hid (hG.out.other (HO1.out.alloc _) hP.out HN1.out.lo)
        have HP2 := Lib.hid (hG.out.apart (HO1.out.alloc _) hP.out)
        have hlo := hN.out.hi
        have d1 : W2.cell? ⟨wr.heap.size, 0, none⟩ = some (.string qn) := hG.out.cell (alloc_cell b1) (fun e => absurd (hlo _ e) (Nat.lt_irrefl _))
        have d2 : W2.cell? ⟨wr.heap.size, 1, none⟩ = some (.string qv) := hG.out.cell (alloc_cell b2) (fun e => absurd (hlo _ e) (Nat.lt_irrefl _))
        have hlt2 : wr.heap.size < W2.heap.size := World.block_lt_of_cell? _ _ d1
        have HT2 := Lib.hid (HT.out.below HO2.out.bel (Nat.le_refl _))
        clear hlo b1 b2 hlt1 hB1
        go_wp2_with fail
        refine (value_any e qn qv _ he (by have := HSZ.out.1; omega) HSZ.out.2 HVR.out W2 HT2.out).mono ?_
        rintro x W3 ⟨rfl, B3⟩
        have HO3 := Lib.hid (HO2.out.keep B3)
        have HN3 := Lib.hid (hN2.out.keep B3)
        have f1 : W3.cell? ⟨wr.heap.size, 0, none⟩ = some (.string qn) := by rw [B3.cell (p := ⟨wr.heap.size, 0, none⟩) hlt2]; exact d1
        clear d1 d2 B3
        cases hv : V qn qv with
        | none =>
          have HF := Lib.hid (HNO.out HM.out hv)
          unfold valueV
          clear hv
          go_wp2
          go_roundw
          case rel => exact ⟨k + 1, sn ++ [qn], done, by go_num, HF, HO3, Lib.hid (HN3.out.cast (by simp) (by simp [strV])), HP2⟩
          case measure => simp [intOf]; omega
        | some t =>
          have HF := Lib.hid (HYES.out t HM.out hv)
          unfold valueV
          clear hv
          go_wp2_with (at_builtin; refine wpList_append_one (by rfl) _ _ 33 (by rfl) 39 i39 (.agg #[.string ⟨#[]⟩, .string ⟨#[]⟩]) 2 32 Tryz.underlying33 hi39 hz39 hs39 hb39 rfl (by decide) _ _ _ rfl HO3.out #[.string qn, .string t] rfl rfl rfl rfl (by omega) (by omega) ?_)
          intro vo' W4 hO4 hG4
          have HN4 := Lib.hid (hG4.out.other (HN3.out.alloc _) HP2.out.symm HO3.out.lo)
          have HP4 := Lib.hid ((hG4.out.apart (HN3.out.alloc _) HP2.out.symm).symm)
          go_wp2
          go_roundw
          case rel => exact ⟨k + 1, sn ++ [qn], done ++ [(qn, t)], by go_num, HF, Lib.hid (hO4.out.cast (by simp) (by rw [flatA_app]; rfl)), Lib.hid (HN4.out.cast (by simp) (by simp [strV])), HP4⟩
          case measure => simp [intOf]; omega
    · have HD := Lib.hid (hK.out.done hge)
      have S := sort_any _ done w wr _ hO.out (by omega)
      have HS := Lib.hid S
      clear S
      go_wp2_with fail
      refine HS.out.mono ?_
      rintro x W2 ⟨rfl, r, h1, h2, h3⟩
      have HR : Hid (AttrsR V l r) := ⟨by rw [HD.out]; exact h1, by
        have h4 := rising_of (d := r.toArray) (by simpa using h2) (by
          have h5 := attrs_nodup V l []
          rw [HD.out] at h5
          exact (h1.pairwise_iff (fun {x y} hxy e => hxy e.symm)).2 h5)
        simpa using h4⟩
      have HO5 := Lib.hid h3
      clear h1 h2 h3
      go_wp2
      go_ret
      exact ⟨_, r, rfl, HR.out, HO5.out⟩
structure ValFn (e : ByteArray) (V : ByteArray → ByteArray → Option ByteArray) : Prop where
  val : ∀ n v, n.size ≤ 1048576 → v.size ≤ 1048576 → ValueR e n v (V n v)
  big : ∀ n v t, V n v = some t → n.size ≤ 1048576 ∧ v.size ≤ 1048576
  again : ∀ n v t, V n v = some t → V n t = some t
theorem valFn (w0 : World) (T0 : Tabs w0) (e : ByteArray) (he : e.size ≤ 1000000000) : ∃ V, ValFn e V := by
  have h : ∀ x : AT, ∃ o : Option ByteArray, (x.1.size ≤ 1048576 ∧ x.2.size ≤ 1048576 → ValueR e x.1 x.2 o) ∧ (¬ (x.1.size ≤ 1048576 ∧ x.2.size ≤ 1048576) → o = none) := by
    intro x
    by_cases hx : x.1.size ≤ 1048576 ∧ x.2.size ≤ 1048576
    · obtain ⟨o, ho⟩ := value_all w0 T0 e x.1 x.2 hx.2
      exact ⟨o, fun _ => ho, fun hn => absurd hx hn⟩
    · exact ⟨none, fun hy => absurd hy hx, fun _ => rfl⟩
  obtain ⟨f, hf⟩ := Classical.axiomOfChoice h
  have hb : ∀ n v t, f (n, v) = some t → n.size ≤ 1048576 ∧ v.size ≤ 1048576 := fun n v t ht => by
    by_cases hx : n.size ≤ 1048576 ∧ v.size ≤ 1048576
    · exact hx
    · rw [(hf (n, v)).2 hx] at ht; cases ht
  refine ⟨fun n v => f (n, v), fun n v h1 h2 => (hf (n, v)).1 ⟨h1, h2⟩, hb, fun n v t ht => ?_⟩
  obtain ⟨h1, h2⟩ := hb n v t ht
  have r1 := (hf (n, v)).1 ⟨h1, h2⟩
  simp only [ht] at r1
  have hsz := value_size r1
  have r2 := value_again r1
  have r3 := (hf (n, t)).1 ⟨h1, by show t.size ≤ 1048576; omega⟩
  exact value_det w0 T0 he (show n.size ≤ 1000000000 by omega) (show t.size ≤ 1048576 by omega) r3 r2
end Go.Proofs.YtcfgbdhpcboikaaGreatDoor
