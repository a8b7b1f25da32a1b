/-
  policy.Attrs as a plain function: which attributes come out, in which order. No program in sight.
  Attributes in memory, a slice of the call's own; Contains of a slice of strings.
  The document's SameAttrs at a list and itself.
  A row's claim where what it reads is small ('..Upto'): out of a contract that is given the listed variables, the world's shape and the bound.
  What comes in: attributes and trees of nodes, opened as the walks ask for them, with how much they hold.
-/
import Derived.Lib.Bytealg
import Derived.Lib.SlicesS
import Derived.Sort.Statements
import Derived.Shelf.SlSortCmp.Insertion
import Derived.Test.YtcfgbdhpcboikaaGreatDoorTextLaw
import Derived.Test.YtcfgbdhpcboikaaGreatDoorBase
import Derived.Test.YtcfgbdhpcboikaaGreatDoorNodes
import Derived.Test.YtcfgbdhpcboikaaGreatDoorShelf
import Derived.StillTailTactics
import Derived.BigQuiet
import Derived.Test.YtcfgbdhpcboikaaGreatDoorLaidA
import Derived.Test.YtcfgbdhpcboikaaGreatDoorRows
import Derived.JoinedCond
import Derived.Deep.Slices
namespace Go.Proofs.YtcfgbdhpcboikaaGreatDoor
open Go.Sort Go.Lib

theorem cb_cons (a b : UInt8) (x y : List UInt8) : compareBytes (a :: x) (b :: y) = if a.toNat < b.toNat then -1 else if b.toNat < a.toNat then 1 else compareBytes x y := by
  conv => lhs; unfold compareBytes
  simp only [UInt8.lt_iff_toNat_lt]
theorem cb_refl : ∀ a : List UInt8, compareBytes a a = 0 := by
  intro a
  induction a with
  | nil => rfl
  | cons c a ih => rw [cb_cons, if_neg (by omega), if_neg (by omega), ih]
theorem cb_anti : ∀ a b : List UInt8, compareBytes b a = - compareBytes a b := by
  intro a
  induction a with
  | nil => intro b; cases b <;> rfl
  | cons c a ih =>
    intro b
    cases b with
    | nil => rfl
    | cons d b =>
      rw [cb_cons, cb_cons]
      by_cases h1 : c.toNat < d.toNat
      · rw [if_pos h1, if_neg (by omega), if_pos h1]; rfl
      · by_cases h2 : d.toNat < c.toNat
        · rw [if_pos h2, if_neg h1, if_pos h2]
        · rw [if_neg h2, if_neg h1, if_neg h1, if_neg h2, ih]
theorem cb_eq : ∀ a b : List UInt8, compareBytes a b = 0 → a = b := by
  intro a
  induction a with
  | nil => intro b h; cases b with
    | nil => rfl
    | cons d b => simp [compareBytes] at h
  | cons c a ih =>
    intro b h
    cases b with
    | nil => simp [compareBytes] at h
    | cons d b =>
      rw [cb_cons] at h
      split at h
      · omega
      · split at h
        · omega
        · rw [ih b h, UInt8.toNat_inj.1 (by omega : c.toNat = d.toNat)]
theorem cb_trans : ∀ a b c : List UInt8, compareBytes a b < 0 → compareBytes b c < 0 → compareBytes a c < 0 := by
  intro a
  induction a with
  | nil =>
    intro b c h1 h2
    cases c with
    | nil =>
      rw [cb_anti [] b] at h2
      omega
    | cons d c => simp [compareBytes]
  | cons x a ih =>
    intro b c h1 h2
    cases b with
    | nil => simp [compareBytes] at h1
    | cons y b =>
      cases c with
      | nil => simp [compareBytes] at h2
      | cons z c =>
        rw [cb_cons] at h1 h2 ⊢
        by_cases p1 : x.toNat < y.toNat
        · by_cases p2 : z.toNat < y.toNat
          · rw [if_neg (by omega), if_pos p2] at h2; omega
          · rw [if_pos (by omega)]; omega
        · rw [if_neg p1] at h1
          by_cases p3 : y.toNat < x.toNat
          · rw [if_pos p3] at h1; omega
          · rw [if_neg p3] at h1
            by_cases p4 : y.toNat < z.toNat
            · rw [if_pos (by omega)]; omega
            · rw [if_neg p4] at h2
              by_cases p5 : z.toNat < y.toNat
              · rw [if_pos p5] at h2; omega
              · rw [if_neg p5] at h2
                rw [if_neg (by omega), if_neg (by omega)]
                exact ih b c h1 h2
abbrev AT := ByteArray × ByteArray
def cmpA (x y : AT) : Int := compareBytes x.1.data.toList y.1.data.toList
theorem cmpA_swo : SWO (ltOf cmpA) where
  irrefl x := by unfold ltOf cmpA; rw [cb_refl]; rfl
  trans x y z h1 h2 := by
    unfold ltOf cmpA at *
    simp only [decide_eq_true_eq] at *
    exact cb_trans _ _ _ h1 h2
  ntrans x y z h1 h2 := by
    unfold ltOf cmpA at *
    simp only [decide_eq_false_iff_not, Int.not_lt] at *
    rcases Int.lt_or_eq_of_le h1 with h1 | h1
    · rcases Int.lt_or_eq_of_le h2 with h2 | h2
      · have := cb_trans z.1.data.toList y.1.data.toList x.1.data.toList (by rw [cb_anti]; omega) (by rw [cb_anti]; omega)
        rw [cb_anti] at this
        omega
      · rw [← cb_eq _ _ h2.symm]; omega
    · rw [cb_eq _ _ h1.symm]; exact h2
def attrsGo (V : ByteArray → ByteArray → Option ByteArray) : List ByteArray → List AT → List AT
  | _, [] => []
  | sn, x :: l => if containsS sn x.1 = true then attrsGo V sn l else (match V x.1 x.2 with | some t => [(x.1, t)] | none => []) ++ attrsGo V (sn ++ [x.1]) l
def Rising (r : List AT) : Prop := r.Pairwise fun x y => cmpA x y < 0
def AttrsR (V : ByteArray → ByteArray → Option ByteArray) (l r : List AT) : Prop := r.Perm (attrsGo V [] l) ∧ Rising r

theorem rising_unique : ∀ (a b : List AT), Rising a → Rising b → a.Perm b → a = b := by
  intro a
  induction a with
  | nil => intro b _ _ h; exact (List.Perm.nil_eq h)
  | cons x a ih =>
    intro b ha hb h
    cases b with
    | nil => exact absurd h.length_eq (by simp)
    | cons y b =>
      have ha' := List.pairwise_cons.1 ha
      have hb' := List.pairwise_cons.1 hb
      have e : x = y := by
        have hx : x ∈ y :: b := h.mem_iff.1 (by simp)
        have hy : y ∈ x :: a := h.mem_iff.2 (by simp)
        rcases List.mem_cons.1 hx with hx | hx
        · exact hx
        · rcases List.mem_cons.1 hy with hy | hy
          · exact hy.symm
          · have h1 := hb'.1 x hx
            have h2 := ha'.1 y hy
            unfold cmpA at h1 h2
            rw [cb_anti] at h1
            omega
      subst e
      rw [ih b ha'.2 hb'.2 (List.perm_cons x |>.1 h)]
theorem attrs_unique {V : ByteArray → ByteArray → Option ByteArray} {l a b : List AT} (h1 : AttrsR V l a) (h2 : AttrsR V l b) : a = b :=
  rising_unique a b h1.2 h2.2 (h1.1.trans h2.1.symm)
theorem attrs_not (V : ByteArray → ByteArray → Option ByteArray) : ∀ (l : List AT) (sn : List ByteArray), ∀ x ∈ attrsGo V sn l, x.1 ∉ sn := by
  intro l
  induction l with
  | nil => intro sn x h; simp [attrsGo] at h
  | cons y l ih =>
    intro sn x h
    unfold attrsGo at h
    split at h
    · exact ih sn x h
    · rename_i hn
      rcases List.mem_append.1 h with h | h
      · cases hv : V y.1 y.2 with
        | none => rw [hv] at h; simp at h
        | some t =>
          rw [hv] at h
          simp only [List.mem_singleton] at h
          subst h
          exact fun hm => hn ((containsS_iff _ _).2 hm)
      · exact fun hm => ih _ x h (by simp [hm])
theorem attrs_nodup (V : ByteArray → ByteArray → Option ByteArray) : ∀ (l : List AT) (sn : List ByteArray), (attrsGo V sn l).Pairwise fun x y => x.1 ≠ y.1 := by
  intro l
  induction l with
  | nil => intro sn; exact List.Pairwise.nil
  | cons y l ih =>
    intro sn
    unfold attrsGo
    split
    · exact ih sn
    · cases hv : V y.1 y.2 with
      | none => exact ih _
      | some t =>
        refine List.pairwise_cons.2 ⟨fun x hx => ?_, ih _⟩
        have := attrs_not V l _ x hx
        simp only [List.mem_append, List.mem_singleton, not_or] at this
        exact fun e => this.2 e.symm
theorem attrs_len (V : ByteArray → ByteArray → Option ByteArray) : ∀ (l : List AT) (sn : List ByteArray), (attrsGo V sn l).length ≤ l.length := by
  intro l
  induction l with
  | nil => intro sn; exact Nat.le_refl _
  | cons y l ih =>
    intro sn
    unfold attrsGo
    split
    · have := ih sn; simp; omega
    · have := ih (sn ++ [y.1])
      cases V y.1 y.2 <;> simp <;> omega
theorem attrs_same (V : ByteArray → ByteArray → Option ByteArray) : ∀ (l : List AT) (sn : List ByteArray), (∀ x ∈ l, V x.1 x.2 = some x.2) → (∀ x ∈ l, x.1 ∉ sn) → (l.Pairwise fun x y => x.1 ≠ y.1) → attrsGo V sn l = l := by
  intro l
  induction l with
  | nil => intro sn _ _ _; rfl
  | cons y l ih =>
    intro sn hv hs hp
    have hp' := List.pairwise_cons.1 hp
    unfold attrsGo
    rw [if_neg (fun h => hs y (by simp) ((containsS_iff _ _).1 h)), hv y (by simp)]
    rw [ih (sn ++ [y.1]) (fun x hx => hv x (by simp [hx])) (fun x hx => ?_) hp'.2]
    · rfl
    · simp only [List.mem_append, List.mem_singleton, not_or]
      exact ⟨hs x (by simp [hx]), fun e => hp'.1 x hx e.symm⟩
theorem attrs_from (V : ByteArray → ByteArray → Option ByteArray) : ∀ (l : List AT) (sn : List ByteArray), ∀ x ∈ attrsGo V sn l, ∃ v, (x.1, v) ∈ l ∧ V x.1 v = some x.2 := by
  intro l
  induction l with
  | nil => intro sn x h; simp [attrsGo] at h
  | cons y l ih =>
    intro sn x h
    unfold attrsGo at h
    split at h
    · obtain ⟨v, h1, h2⟩ := ih sn x h
      exact ⟨v, by simp [h1], h2⟩
    · rcases List.mem_append.1 h with h | h
      · cases hv : V y.1 y.2 with
        | none => rw [hv] at h; simp at h
        | some t =>
          rw [hv] at h
          simp only [List.mem_singleton] at h
          subst h
          exact ⟨y.2, by simp, hv⟩
      · obtain ⟨v, h1, h2⟩ := ih _ x h
        exact ⟨v, by simp [h1], h2⟩
theorem rising_ne {r : List AT} (h : Rising r) : r.Pairwise fun x y => x.1 ≠ y.1 :=
  h.imp fun {x y} hxy e => by
    unfold cmpA at hxy
    rw [e, cb_refl] at hxy
    omega
theorem attrs_again {V : ByteArray → ByteArray → Option ByteArray} {l r : List AT} (hV : ∀ n v t, V n v = some t → V n t = some t) (h : AttrsR V l r) : AttrsR V r r := by
  refine ⟨?_, h.2⟩
  rw [attrs_same V r [] (fun x hx => ?_) (fun x _ => by simp) (rising_ne h.2)]
  obtain ⟨v, _, h2⟩ := attrs_from V l [] x (h.1.mem_iff.1 hx)
  exact hV _ _ _ h2
theorem rising_of {d : Array AT} (hs : SortedIn (ltOf cmpA) 0 d.size d) (hn : d.toList.Pairwise fun x y => x.1 ≠ y.1) : Rising d.toList := by
  unfold Rising
  rw [List.pairwise_iff_getElem] at hn ⊢
  intro i j hi hj hij
  have h1 := hn i j hi hj hij
  have hi' : i < d.size := by simpa using hi
  have hj' : j < d.size := by simpa using hj
  have h2 := hs i j (Nat.zero_le _) hij hj'
  unfold ltOf at h2
  simp only [decide_eq_false_iff_not, Int.not_lt] at h2
  rw [getElem!_pos d j hj', getElem!_pos d i hi'] at h2
  have e1 : d.toList[i] = d[i] := by simp
  have e2 : d.toList[j] = d[j] := by simp
  rw [e1, e2] at h1 ⊢
  unfold cmpA at h2 ⊢
  rw [cb_anti] at h2
  rcases Int.lt_or_eq_of_le (by omega : compareBytes (d[i]).1.data.toList (d[j]).1.data.toList ≤ 0) with h | h
  · exact h
  · exfalso
    apply h1
    have := cb_eq _ _ h
    cases hx : (d[i]).1; cases hy : (d[j]).1
    rw [hx, hy] at this
    simpa using this
end Go.Proofs.YtcfgbdhpcboikaaGreatDoor

namespace Go.Proofs.YtcfgbdhpcboikaaGreatDoor
open Go.RowKit

def encA (x : AT) : List Value := [.string x.1, .string x.2]
def flatA (l : List AT) : List Value := l.flatMap encA
theorem flatA_len (l : List AT) : (flatA l).length = l.length * 2 := by
  induction l with
  | nil => rfl
  | cons x l ih => unfold flatA at *; rw [List.flatMap_cons, List.length_append, ih]; simp [encA]; omega
theorem flatA_at : ∀ (l : List AT) (j : Nat) (h : j < l.length), (flatA l)[j * 2]? = some (.string (l[j]).1) ∧ (flatA l)[j * 2 + 1]? = some (.string (l[j]).2) := by
  intro l
  induction l with
  | nil => intro j h; simp at h
  | cons x l ih =>
    intro j h
    cases j with
    | zero => exact ⟨rfl, rfl⟩
    | succ j =>
      have := ih j (by simpa using h)
      rw [show (j + 1) * 2 = j * 2 + 2 by omega, show j * 2 + 2 + 1 = (j * 2 + 1) + 2 by omega]
      unfold flatA at *
      rw [List.flatMap_cons]
      exact this
theorem flatA_app (a b : List AT) : flatA (a ++ b) = flatA a ++ flatA b := by unfold flatA; rw [List.flatMap_append]
theorem OwnV.attrs {B : Nat} {v : Value} {l : List AT} {W0 w : World} (h : OwnV B 39 2 v l.length (flatA l) W0 w) : AttrsV w v l := by
  obtain ⟨a, c, e, hc⟩ := h.vec
  refine ⟨a, c, e, fun j hj => ?_⟩
  obtain ⟨h1, h2⟩ := flatA_at l j hj
  obtain ⟨g, off, ha, k1⟩ := hc _ _ h1
  obtain ⟨g', off', ha', k2⟩ := hc _ _ h2
  rw [ha] at ha'
  cases ha'
  exact ⟨g, off, ha, k1, by rw [Nat.add_assoc]; exact k2⟩
theorem AttrsV.get {w : World} {v : Value} {l : List AT} (h : AttrsV w v l) (j : Nat) (hj : j < l.length) : ∃ g off c, v = .slice (some ⟨g, off, none⟩) l.length c ∧ w.cell? ⟨g, off + j * 2, none⟩ = some (.string (l[j]).1) ∧ w.cell? ⟨g, off + j * 2 + 1, none⟩ = some (.string (l[j]).2) := by
  obtain ⟨a, c, e, hc⟩ := h
  obtain ⟨g, off, ha, h1, h2⟩ := hc j hj
  exact ⟨g, off, c, by rw [e, ha], h1, h2⟩
def strV (s : ByteArray) : Value := .string s
theorem contains_vec (v : Value) (zs : List ByteArray) (x : ByteArray) (w : World) (hn : zs.length ≤ 1000000000) (hV : VecAt w v zs.length (zs.map strV)) (b : Bool) (hb : Lib.containsS zs x = b) :
    Calls Tryz.prog 85 #[v, .string x] w fun e w' => e = .returned (.bool b) ∧ w = w' := by
  obtain ⟨a, c, rfl, hc⟩ := hV
  cases zs with
  | nil =>
    refine (Tryz.slices_Contains_string_empty a c x w).mono ?_
    rintro e w' ⟨rfl, rfl⟩
    exact ⟨by rw [← hb]; rfl, rfl⟩
  | cons z zs =>
    obtain ⟨g, off, rfl, _⟩ := hc 0 (strV z) (by simp)
    refine (Tryz.slices_Contains_string g off (z :: zs).length c (z :: zs) x w (Nat.le_refl _) (by omega) ?_).mono ?_
    · intro j hj
      obtain ⟨g', off', hg, hcell⟩ := hc j (strV ((z :: zs)[j])) (by rw [List.getElem?_map, List.getElem?_eq_getElem hj]; rfl)
      cases hg
      rw [hcell]
      simp [strV, List.getD_eq_getElem?_getD, List.getElem?_eq_getElem hj]
    · rintro e w' ⟨rfl, rfl⟩
      exact ⟨by rw [List.take_length, ← hb], rfl⟩
theorem Tryz.info39 : (Tryz.prog.info? 39).map (fun i => (i.zero, i.size, i.bytes)) = some (some (.agg #[.string ⟨#[]⟩, .string ⟨#[]⟩]), 2, 32) := by kernel_rfl
end Go.Proofs.YtcfgbdhpcboikaaGreatDoor

namespace Go.Proofs.YtcfgbdhpcboikaaGreatDoor
open Go.RowKit

set_option maxRecDepth 100000 in
set_option maxHeartbeats 1000000 in
theorem same_attrs (a b : Value) (l : List AT) (hl : l.length ≤ 1000000000) (w : World) (hA : Hid (AttrsV w a l)) (hB : Hid (AttrsV w b l)) :
    Calls Tryz.prog 39 #[a, b] w fun e w' => e = .returned (.bool true) ∧ Below w.heap.size w w' := by
  obtain ⟨aa, ca, rfl, _⟩ := hA.out
  obtain ⟨ab, cb, rfl, _⟩ := hB.out
  go_enter Tryz.func39, Tryz.ntmps39
  go_wp2
  go_loopw [4, 5] (fun r i wx => r = .bool false ∧ ∃ k : Nat, i = .int .i64 k ∧ Hid (k ≤ l.length ∧ Below w.heap.size w wx)) (fun _ i _ => l.length - (intOf i).toNat)
  case atStart => exact ⟨rfl, 0, rfl, Lib.hid ⟨Nat.zero_le _, Below.refl _ _⟩⟩
  case round =>
    obtain ⟨rfl, k, rfl, hK⟩ := hrel
    have hk := hK.out.1
    rcases Nat.lt_or_ge k l.length with hlt | hge
    · obtain ⟨g1, o1, c1, hv1, a1, a2⟩ := (hA.out.below hK.out.2 (Nat.le_refl _)).get k hlt
      obtain ⟨g2, o2, c2, hv2, b1, b2⟩ := (hB.out.below hK.out.2 (Nat.le_refl _)).get k hlt
      simp only [Value.slice.injEq, true_and] at hv1 hv2
      obtain ⟨rfl, rfl⟩ := hv1
      obtain ⟨rfl, rfl⟩ := hv2
      generalize l[k] = q at *
      obtain ⟨qn, qv⟩ := q
      simp only at a1 a2 b1 b2
      have e1 : (qn.toList == qn.toList) = true := by simp
      have e2 : (qv.toList == qv.toList) = true := by simp
      go_wp2_with fail
      go_quiet (fail)
      go_wp2
      refine ⟨⟨rfl, k + 1, by congr 1, Lib.hid ⟨hlt, ⟨hK.out.2.os, hK.out.2.tape, hK.out.2.output, hK.out.2.size, hK.out.2.block⟩⟩⟩, ?_⟩
      simp [intOf]; omega
    · go_wp2
      go_ret
      exact ⟨rfl, hK.out.2⟩
end Go.Proofs.YtcfgbdhpcboikaaGreatDoor

namespace Go.Proofs.YtcfgbdhpcboikaaGreatDoor
open Go.RowKit

def uptoB {H : Type} (enc : TypeId × Value → H) (P : Program) (fn : Func) (s : ChangeSpec) (w : World) (args : Array Value) (fuel : Nat) : Bool :=
  match DataW.whole enc P w fn.params.toList s.vars false args.toList fuel with
  | some x => Rows.uptoSmall H (x.1 ++ x.2.1)
  | none => false
theorem lift_upto {H : Type} {enc : TypeId × Value → H} {C : Checked} {os : Os} {f : FuncId} {fn : Func} {s : ChangeSpec} {again : Bool} {X : World → Array Value → Prop}
    (hX : ∀ (w w' : World) (args : Array Value), w.heap = w'.heap → X w args → X w' args)
    (own : ownKnob C.prog.godebug = none) (started : os.Started) (noInit : C.prog.inits.idxOf? f = none) (hfn : C.prog.funcs[f]? = some fn)
    (w0 : World) (args0 : Array Value) (fuel : Nat) (hos : w0.os = os)
    (hsh : (w0.forCall (fun _ _ => 0) ⟨#[], args0, []⟩).Shaped C.prog)
    (hok : Input.okWideB C.prog (w0.forCall (fun _ _ => 0) ⟨#[], args0, []⟩) f ⟨#[], args0, []⟩ = true)
    (hpre : uptoB enc C.prog fn s (w0.forCall (fun _ _ => 0) ⟨#[], args0, []⟩).memory args0 fuel = true)
    (hsz : s.sizedB enc C.prog fn false (w0.forCall (fun _ _ => 0) ⟨#[], args0, []⟩).memory args0 fuel = true)
    (hx : X (w0.forCall (fun _ _ => 0) ⟨#[], args0, []⟩).memory args0)
    (contract : ∀ (W : World) (base : Nat) (args : Array Value) (ds gs : List (DataW H)) (before : List MemPlace),
      (∀ (j : Nat) t v, fn.params[j]? = some t → args[j]? = some v → Value.okWide C.prog W .any base t v) →
      DataW.Whole enc C.prog fn.params.toList s.vars false W args.toList ds gs before → Rows.uptoBulkAll (ds ++ gs) ≤ 1048576 → X W args → W.ShapedOpen C.prog →
      Calls C.prog f args W fun e W' => ∃ v, e = .returned v ∧ s.post enc C.prog fn false true false again W args v W') (F : Stop.Interp) :
    ReturnsInHanded {} C os f .any (fun w args => ((Rows.OpenSpec.upto s).pre enc C.prog fn [] false w args ∧ X w args) ∧ sizedMet enc C.prog fn (Rows.OpenSpec.upto s) false w args) (((Rows.OpenSpec.upto s).at F).post enc C.prog fn false true false again) := by
  refine returnsInHanded_of_calls own started noInit ?_ ?_
  · refine ⟨w0, fun _ _ => 0, ⟨#[], args0, []⟩, hos, hsh, (Input.okWide_of_okWideB (base := 0) hok).1, (Input.okWide_of_okWideB hok).2, ⟨⟨?_, hx⟩, sizedMet_of_sizedB hsz⟩, ?_⟩
    · unfold uptoB at hpre
      split at hpre
      · rename_i x hw
        exact (OpenSpec.pre_some (s := Rows.OpenSpec.upto s) rfl [] false _ _).2 ⟨x.1, x.2.1, x.2.2, DataW.Whole_of_whole hw, rfl, hpre⟩
      · cases hpre
    · simp [Assume.holds]
  · intro w tape i _ hshape _ hok' hpre' _
    obtain ⟨_, _, _, fn', hfn', _, _, _, _, hval⟩ := hok'
    obtain rfl : fn' = fn := Option.some.inj (hfn'.symm.trans hfn)
    obtain ⟨⟨hp, hx'⟩, _⟩ := hpre'
    obtain ⟨ds, gs, before, hw, _, hkk⟩ := (OpenSpec.pre_some (s := Rows.OpenSpec.upto s) rfl [] false _ _).1 hp
    have hk : Rows.uptoBulkAll (ds ++ gs) ≤ 1048576 := of_decide_eq_true hkk
    have := contract (w.forCall tape i) _ i.args ds gs before hval (DataW.Whole.of_heap (w' := w.forCall tape i) (by rfl) hw) hk (hX _ _ _ (by rfl) hx') hshape
    exact this.mono fun e W' h => by
      obtain ⟨v, he, hp⟩ := h
      subst he
      exact ChangeSpec.post_blind hp
end Go.Proofs.YtcfgbdhpcboikaaGreatDoor

namespace Go.Proofs.YtcfgbdhpcboikaaGreatDoor
open Go.ChangeShapes Go.WideShapes Go.ChangeAt Go.RowKit

section
variable {H : Type} {enc : TypeId × Value → H} {P : Program} {w : World} {base : Nat} {spare : Nat → Bool} {held : Bool}
end
def atBk : List AT → Nat
  | [] => 0
  | x :: l => 1 + x.1.size + x.2.size + atBk l
mutual
def Nd.bk : Nd → Nat
  | .mk _ _ nm at' tx ks => 1 + nm.size + tx.size + atBk at' + bkAll ks
def bkAll : List Nd → Nat
  | [] => 0
  | k :: ks => k.bk + bkAll ks
end
theorem size_data (s : ByteArray) : s.data.toList.length = s.size := rfl
variable {H : Type} {enc : TypeId × Value → H} {W : World}
theorem bulk_range (D : Nat → DataW H) : ∀ (m k : Nat), k < m → Rows.uptoBulkAll ((List.range' k (m - k)).map D) = Rows.uptoBulk (D k) + Rows.uptoBulkAll ((List.range' (k + 1) (m - (k + 1))).map D) := by
  intro m k h
  rw [show m - k = (m - (k + 1)) + 1 by omega, List.range'_succ]
  rfl
theorem spot_none {a : Addr} {n : Nat} {cs : List Value} {b : Nat} (h : W.cells? b a n = some cs) (hn : 0 < n) : a.spot = none := by
  obtain ⟨_, hl, h2⟩ := World.cells?_some h
  have h3 := h2 0 (by omega)
  rw [List.getElem?_eq_getElem (by omega)] at h3
  simpa [Addr.add] using World.cell?_spot h3
set_option maxRecDepth 100000 in
theorem attrs_in {cs : List Value} {y : DataW H × List MemPlace} {n : Nat} (h : DataW.trod enc Tryz.prog W 0 (fun _ => true) true n 33 cs = some y) :
    ∃ v l, cs = [v] ∧ AttrsV W v l ∧ atBk l ≤ Rows.uptoBulk y.1 := by
  rcases Go.Deep.open_slice Tryz.underlying33 h with ⟨rfl, rfl⟩ | ⟨x, len, cap, m, n', D, Pl, rfl, _, hl, hm, hmm, rfl, hcell⟩
  · exact ⟨_, [], rfl, ⟨none, 0, rfl, fun j hj => absurd hj (by simp)⟩, by simp [atBk]⟩
  · simp only [if_true] at hmm
    subst hmm
    have hc : Tryz.prog.cellsOf 39 = 2 := by kernel_rfl
    rw [hc] at hcell
    have c9 : Tryz.prog.cellsOf 9 = 1 := by kernel_rfl
    have hspot : 0 < len → x.spot = none := fun h0 => by
      obtain ⟨cs', h1, _⟩ := hcell 0 (by omega)
      have := spot_none h1 (by omega)
      simpa [Addr.add] using this
    have step : ∀ j, j < len → x.spot = none ∧ ∃ q : AT, W.cell? ⟨x.block, x.off + j * 2, none⟩ = some (.string q.1) ∧ W.cell? ⟨x.block, x.off + j * 2 + 1, none⟩ = some (.string q.2) ∧ 1 + q.1.size + q.2.size ≤ Rows.uptoBulk (D j) := by
      intro j hj
      obtain ⟨cs', h1, h2⟩ := hcell j (by omega)
      obtain ⟨_, hn, hcc⟩ := World.cells?_some h1
      have hsp : x.spot = none := hspot (by omega)
      obtain ⟨y0, y1, k, hD, _, t0, t1⟩ := trod_struct2 Tryz.underlying39 h2
      obtain ⟨v0, v1, rfl⟩ : ∃ v0 v1, cs' = [v0, v1] := by
        match cs', hn with
        | [c0, c1], _ => exact ⟨c0, c1, rfl⟩
      rw [c9] at t0 t1
      have t0' : DataW.trod enc Tryz.prog W 0 (fun _ => true) true k 9 [v0] = some y0 := t0
      have t1' : DataW.trod enc Tryz.prog W 0 (fun _ => true) true k 9 [v1] = some y1 := t1
      obtain ⟨s0, e0, rfl, _⟩ := DataW.trod_string Tryz.underlying9 t0'
      obtain ⟨s1, e1, rfl, _⟩ := DataW.trod_string Tryz.underlying9 t1'
      simp only [List.cons.injEq, and_true] at e0 e1
      subst e0 e1
      refine ⟨hsp, (s0, s1), ?_, ?_, ?_⟩
      · have := hcc 0 (by omega)
        obtain ⟨b, o, s⟩ := x
        simp only at hsp
        subst hsp
        have e : ((⟨b, o, none⟩ : Addr).add (j * 2)).add 0 = ⟨b, o + j * 2, none⟩ := by unfold Addr.add; split <;> simp_all
        rw [e] at this
        exact this
      · have := hcc 1 (by omega)
        obtain ⟨b, o, s⟩ := x
        simp only at hsp
        subst hsp
        have e : ((⟨b, o, none⟩ : Addr).add (j * 2)).add 1 = ⟨b, o + j * 2 + 1, none⟩ := by
          have e' : ∀ o n, (⟨b, o, none⟩ : Addr).add n = ⟨b, o + n, none⟩ := fun o n => by unfold Addr.add; split <;> simp_all
          rw [e', e']
        rw [e] at this
        exact this
      · have e := congrArg Prod.fst hD
        simp only at e
        rw [e]
        simp only [Rows.uptoBulk, Rows.uptoBulkAll, size_data]
        omega
    have build : ∀ k, k ≤ len → ∃ l : List AT, l.length = len - k ∧ (∀ j (h : j < l.length), ∃ g off, some x = some ⟨g, off, none⟩ ∧ W.cell? ⟨g, off + (k + j) * 2, none⟩ = some (.string (l[j]).1) ∧ W.cell? ⟨g, off + (k + j) * 2 + 1, none⟩ = some (.string (l[j]).2)) ∧ atBk l ≤ Rows.uptoBulkAll ((List.range' k (len - k)).map D) := by
      intro k hk
      obtain ⟨i, hi⟩ : ∃ i, i = len - k := ⟨_, rfl⟩
      induction i generalizing k with
      | zero => exact ⟨[], by simp; omega, fun j hj => absurd hj (by simp), by simp [atBk]⟩
      | succ i ih =>
        obtain ⟨l, h1, h2, h3⟩ := ih (k + 1) (by omega) (by omega)
        obtain ⟨hsp, q, q1, q2, q3⟩ := step k (by omega)
        refine ⟨q :: l, by simp; omega, ?_, ?_⟩
        · intro j hj
          cases j with
          | zero =>
            refine ⟨x.block, x.off, ?_, q1, q2⟩
            obtain ⟨b, o, s⟩ := x
            simp only at hsp
            rw [hsp]
          | succ j =>
            obtain ⟨g, off, e, c1, c2⟩ := h2 j (by simpa using hj)
            rw [show k + 1 + j = k + (j + 1) by omega] at c1 c2
            exact ⟨g, off, e, c1, c2⟩
        · rw [bulk_range D len k (by omega)]
          unfold atBk
          omega
    obtain ⟨l, h1, h2, h3⟩ := build 0 (Nat.zero_le _)
    refine ⟨_, l, rfl, ⟨some x, _, by rw [h1, Nat.sub_zero], fun j hj => ?_⟩, ?_⟩
    · obtain ⟨g, off, e, c1, c2⟩ := h2 j hj
      rw [Nat.zero_add] at c1 c2
      exact ⟨g, off, e, c1, c2⟩
    · rw [Nat.sub_zero, ← List.range_eq_range'] at h3
      simp only [Rows.uptoBulk]
      omega
theorem atBk_len : ∀ l : List AT, l.length ≤ atBk l := by
  intro l
  induction l with
  | nil => exact Nat.le_refl _
  | cons x l ih => unfold atBk; simp; omega
theorem atBk_mem : ∀ (l : List AT) (x : AT), x ∈ l → x.1.size + x.2.size ≤ atBk l := by
  intro l
  induction l with
  | nil => intro x h; simp at h
  | cons y l ih =>
    intro x h
    unfold atBk
    rcases List.mem_cons.1 h with rfl | h
    · omega
    · have := ih x h; omega
theorem attrs_arg {a : Option Addr} {len cap : Nat} {d : DataW H} {p : List MemPlace} (h : DataW.Trod enc Tryz.prog W 0 (fun _ => true) true 33 (.slice a len cap) d p) :
    ∃ l : List AT, AttrsV W (.slice a len cap) l ∧ len = l.length ∧ atBk l ≤ Rows.uptoBulk d := by
  obtain ⟨fuel, hf⟩ := h
  obtain ⟨v, l, e, hA, hb⟩ := attrs_in hf
  simp [Value.cells] at e
  subst e
  have hA' := hA
  obtain ⟨a', c', e, _⟩ := hA'
  simp only [Value.slice.injEq] at e
  exact ⟨l, hA, e.2.1, hb⟩
end Go.Proofs.YtcfgbdhpcboikaaGreatDoor
