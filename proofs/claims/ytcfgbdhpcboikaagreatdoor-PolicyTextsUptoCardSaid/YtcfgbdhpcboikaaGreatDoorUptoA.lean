/-
  A row's claim where what it reads is small ('..Upto'): out of a contract that is given the listed variables, the world's shape and the bound.
-/
import Derived.Test.YtcfgbdhpcboikaaGreatDoorLaidA
import Derived.Test.YtcfgbdhpcboikaaGreatDoorRows
import Derived.JoinedCond
namespace Go.Proofs.YtcfgbdhpcboikaaGreatDoor
open Go.RowKit

def uptoB {H : Type} (enc : TypeId × Value → H) (P : Program) (fn : Func) (s : ChangeSpec) (w : World) (args : Array Value) (fuel : Nat) : Bool :=
  match DataW.whole enc P w fn.params.toList s.vars false args.toList fuel with
  | some x => Rows.uptoSmall H (x.1 ++ x.2.1)
  | none => false
theorem lift_upto {H : Type} {enc : TypeId × Value → H} {C : Checked} {os : Os} {f : FuncId} {fn : Func} {s : ChangeSpec} {again : Bool} {X : World → Array Value → Prop}
    (hX : ∀ (w w' : World) (args : Array Value), w.heap = w'.heap → X w args → X w' args)
    (own : ownKnob C.prog.godebug = none) (started : os.Started) (noInit : C.prog.inits.idxOf? f = none) (hfn : C.prog.funcs[f]? = some fn)
    (w0 : World) (args0 : Array Value) (fuel : Nat) (hos : w0.os = os)
    (hsh : (w0.forCall (fun _ _ => 0) ⟨#[], args0, []⟩).Shaped C.prog)
    (hok : Input.okWideB C.prog (w0.forCall (fun _ _ => 0) ⟨#[], args0, []⟩) f ⟨#[], args0, []⟩ = true)
    (hpre : uptoB enc C.prog fn s (w0.forCall (fun _ _ => 0) ⟨#[], args0, []⟩).memory args0 fuel = true)
    (hsz : s.sizedB enc C.prog fn false (w0.forCall (fun _ _ => 0) ⟨#[], args0, []⟩).memory args0 fuel = true)
    (hx : X (w0.forCall (fun _ _ => 0) ⟨#[], args0, []⟩).memory args0)
    (contract : ∀ (W : World) (base : Nat) (args : Array Value) (ds gs : List (DataW H)) (before : List MemPlace),
      (∀ (j : Nat) t v, fn.params[j]? = some t → args[j]? = some v → Value.okWide C.prog W .any base t v) →
      DataW.Whole enc C.prog fn.params.toList s.vars false W args.toList ds gs before → Rows.uptoBulkAll (ds ++ gs) ≤ 1048576 → X W args → W.ShapedOpen C.prog →
      Calls C.prog f args W fun e W' => ∃ v, e = .returned v ∧ s.post enc C.prog fn false true false again W args v W') (F : Stop.Interp) :
    ReturnsInHanded {} C os f .any (fun w args => ((Rows.OpenSpec.upto s).pre enc C.prog fn [] false w args ∧ X w args) ∧ sizedMet enc C.prog fn (Rows.OpenSpec.upto s) false w args) (((Rows.OpenSpec.upto s).at F).post enc C.prog fn false true false again) := by
  refine returnsInHanded_of_calls own started noInit ?_ ?_
  · refine ⟨w0, fun _ _ => 0, ⟨#[], args0, []⟩, hos, hsh, (Input.okWide_of_okWideB (base := 0) hok).1, (Input.okWide_of_okWideB hok).2, ⟨⟨?_, hx⟩, sizedMet_of_sizedB hsz⟩, ?_⟩
    · unfold uptoB at hpre
      split at hpre
      · rename_i x hw
        exact (OpenSpec.pre_some (s := Rows.OpenSpec.upto s) rfl [] false _ _).2 ⟨x.1, x.2.1, x.2.2, DataW.Whole_of_whole hw, rfl, hpre⟩
      · cases hpre
    · simp [Assume.holds]
  · intro w tape i _ hshape _ hok' hpre' _
    obtain ⟨_, _, _, fn', hfn', _, _, _, _, hval⟩ := hok'
    obtain rfl : fn' = fn := Option.some.inj (hfn'.symm.trans hfn)
    obtain ⟨⟨hp, hx'⟩, _⟩ := hpre'
    obtain ⟨ds, gs, before, hw, _, hkk⟩ := (OpenSpec.pre_some (s := Rows.OpenSpec.upto s) rfl [] false _ _).1 hp
    have hk : Rows.uptoBulkAll (ds ++ gs) ≤ 1048576 := of_decide_eq_true hkk
    have := contract (w.forCall tape i) _ i.args ds gs before hval (DataW.Whole.of_heap (w' := w.forCall tape i) (by rfl) hw) hk (hX _ _ _ (by rfl) hx') hshape
    exact this.mono fun e W' h => by
      obtain ⟨v, he, hp⟩ := h
      subst he
      exact ChangeSpec.post_blind hp
theorem bulk_append {H : Type} (a b : List (DataW H)) : Rows.uptoBulkAll (a ++ b) = Rows.uptoBulkAll a + Rows.uptoBulkAll b := by
  induction a with
  | nil => simp [Rows.uptoBulkAll]
  | cons x a ih => simp only [List.cons_append, Rows.uptoBulkAll, ih]; omega
end Go.Proofs.YtcfgbdhpcboikaaGreatDoor
