/-
  From the listed variables to the facts on cells that the walks ask.
-/
import Derived.Test.YtdgmokfdkophpaaGreatDoorTabs
import Derived.Test.YtdgmokfdkophpaaGreatDoorRows
import Derived.LaidMore
import Derived.OpenShut
import Derived.ProofKit
import Derived.Deep.Strs
import Derived.Stop.LaidErr
import Derived.Shelf.Vars
namespace Go.Proofs.YtdgmokfdkophpaaGreatDoor
open Go.RowKit

section
variable {P : Program} {W : World}
theorem head_parts {n : String} {d : DataW Unit} {rest : List (String × DataW Unit)} {g : Nat} {t : TypeId} (h : laidMet P ((n, d) :: rest) W) (hg : P.globalNamed n = some g) (hty : (P.globals[g]?).map (·.type) = some t) :
    ∃ cs fuel p, W.var? P n = some cs ∧ DataW.trod (fun _ => ()) P W 0 (fun _ => true) false fuel t cs.toList = some (d, p) := by
  obtain ⟨ps, ⟨g', t', cs, fuel, p, q, hg', ht', hv, hd, _, _⟩, _, _⟩ := h
  obtain rfl := Option.some.inj (hg.symm.trans hg')
  obtain rfl := Option.some.inj (hty.symm.trans ht')
  exact ⟨cs, fuel, p, hv, hd⟩

theorem trod_float {t : TypeId} {k : FloatKind} {fuel b : Nat} {cs : List Value} {p : List MemPlace} (ht : P.underlying t = some (.float k)) (h : DataW.trod (fun _ => ()) P W 0 (fun _ => true) false fuel t cs = some (.lit (.float k b), p)) : cs = [.float k b] := by
  cases fuel with
  | zero => simp [DataW.trod] at h
  | succ n =>
    unfold DataW.trod at h
    rw [ht] at h
    split at h <;> simp_all
theorem trod_intL {t : TypeId} {k : IntKind} {fuel : Nat} {z : Int} {cs : List Value} {p : List MemPlace} (ht : P.underlying t = some (.int k)) (h : DataW.trod (fun _ => ()) P W 0 (fun _ => true) false fuel t cs = some (.lit (.int k z), p)) : cs = [.int k z] := by
  obtain ⟨z', e1, e2, _⟩ := DataW.trod_int ht h
  simp only [Prod.mk.injEq, DataW.lit.injEq, Lit.int.injEq, true_and] at e2
  rw [e1, e2.1]
theorem trod_strL {t : TypeId} {fuel : Nat} {l : List UInt8} {cs : List Value} {p : List MemPlace} (ht : P.underlying t = some .string) (h : DataW.trod (fun _ => ()) P W 0 (fun _ => true) false fuel t cs = some (.lit (.string l), p)) : cs = [.string ⟨l.toArray⟩] := by
  cases fuel with
  | zero => simp [DataW.trod] at h
  | succ n =>
    unfold DataW.trod at h
    rw [ht] at h
    split at h
    all_goals first | (simp_all; done) | skip
    split at h
    · simp only [Option.some.injEq, Prod.mk.injEq, DataW.lit.injEq, Lit.string.injEq] at h
      obtain ⟨h1, _⟩ := h
      subst h1
      rfl
    · cases h
/-- A listed slice without spare. -/
theorem slice_parts {t e : TypeId} {fuel : Nat} {cs : List Value} {ds : List (DataW Unit)} {p : List MemPlace} (ht : P.underlying t = some (.slice e)) (h : DataW.trod (fun _ => ()) P W 0 (fun _ => true) false fuel t cs = some (.slice ds [], p)) :
    ∃ a n, cs = [.slice (some a) ds.length ds.length] ∧ ∀ i d, ds[i]? = some d → ∃ q, (W.cells? 0 (a.add (i * P.cellsOf e)) (P.cellsOf e)).bind (DataW.trod (fun _ => ()) P W 0 (fun _ => true) false n e) = some (d, q) := by
  rcases DataW.trod_slice ht h with ⟨_, hx⟩ | ⟨a, len, cap, elems, rest, n, _, hcs, hx, _, hl, _, hlen, hel, hsp, _⟩
  · simp at hx
  · simp only [Prod.mk.injEq, DataW.slice.injEq] at hx
    obtain ⟨⟨h1, h2⟩, _⟩ := hx
    have hr : rest = [] := by simpa using h2.symm
    have hc := (hsp rfl).1
    rw [hr] at hc
    have hcl : cap = len := by simp at hc; omega
    have hdl : ds.length = len := by rw [h1]; simpa using hlen
    refine ⟨a, n, by rw [hcs, hcl, hdl], ?_⟩
    intro i d hd
    have hi : i < len := by
      have := (List.getElem?_eq_some_iff.1 hd).1
      omega
    rw [hel i hi]
    rw [h1, List.getElem?_map] at hd
    cases he : elems[i]? with
    | none => rw [he] at hd; cases hd
    | some x =>
      rw [he] at hd
      simp only [Option.map_some, Option.some.injEq] at hd
      exact ⟨x.2, by rw [← hd]⟩
/-- The elements of a listed slice, one cell each, at plain places. -/
theorem slice_ones {t e : TypeId} {fuel : Nat} {cs : List Value} {ds : List (DataW Unit)} {p : List MemPlace} (ht : P.underlying t = some (.slice e)) (hc : P.cellsOf e = 1) (h : DataW.trod (fun _ => ()) P W 0 (fun _ => true) false fuel t cs = some (.slice ds [], p)) (hne : 0 < ds.length) :
    ∃ b o n, cs = [.slice (some ⟨b, o, none⟩) ds.length ds.length] ∧ ∀ i d, ds[i]? = some d → ∃ v q, W.cell? ⟨b, o + i, none⟩ = some v ∧ DataW.trod (fun _ => ()) P W 0 (fun _ => true) false n e [v] = some (d, q) := by
  obtain ⟨a, n, hcs, hel⟩ := slice_parts ht h
  have one : ∀ i d, ds[i]? = some d → ∃ v q, W.cell? (a.add i) = some v ∧ DataW.trod (fun _ => ()) P W 0 (fun _ => true) false n e [v] = some (d, q) := by
    intro i d hd
    obtain ⟨q, hq⟩ := hel i d hd
    rw [hc, Nat.mul_one] at hq
    cases hx : W.cells? 0 (a.add i) 1 with
    | none => rw [hx] at hq; cases hq
    | some l =>
      rw [hx] at hq
      obtain ⟨v, rfl⟩ : ∃ v, l = [v] := by
        have hl := Lib.mapM_length (f := fun i_1 => W.cell? ((a.add i).add i_1)) (l := List.range 1) (r := l) (by unfold World.cells? at hx; rw [if_pos (Nat.zero_le _)] at hx; exact hx)
        simp at hl
        match l, hl with
        | [v], _ => exact ⟨v, rfl⟩
      exact ⟨v, q, Go.ChangeShapes.cell_of_cells?_one hx, hq⟩
  obtain ⟨d0, hd0⟩ : ∃ d0, ds[0]? = some d0 := ⟨ds[0], List.getElem?_eq_getElem hne⟩
  obtain ⟨v0, q0, h0, _⟩ := one 0 d0 hd0
  obtain ⟨b, o, spot⟩ := a
  have hs : spot = none := by simpa [Addr.add] using World.cell?_spot h0
  subst hs
  refine ⟨b, o, n, hcs, ?_⟩
  intro i d hd
  obtain ⟨v, q, h1, h2⟩ := one i d hd
  rw [Lib.add_plain] at h1
  exact ⟨v, q, h1, h2⟩
/-- The elements of a listed slice, two cells each. -/
theorem slice_twos {t e : TypeId} {fuel : Nat} {cs : List Value} {ds : List (DataW Unit)} {p : List MemPlace} (ht : P.underlying t = some (.slice e)) (hc : P.cellsOf e = 2) (h : DataW.trod (fun _ => ()) P W 0 (fun _ => true) false fuel t cs = some (.slice ds [], p)) (hne : 0 < ds.length) :
    ∃ b o n, cs = [.slice (some ⟨b, o, none⟩) ds.length ds.length] ∧ ∀ i d, ds[i]? = some d → ∃ v u q, W.cell? ⟨b, o + 2 * i, none⟩ = some v ∧ W.cell? ⟨b, o + (2 * i + 1), none⟩ = some u ∧ DataW.trod (fun _ => ()) P W 0 (fun _ => true) false n e [v, u] = some (d, q) := by
  obtain ⟨a, n, hcs, hel⟩ := slice_parts ht h
  have one : ∀ i d, ds[i]? = some d → ∃ v u q, W.cell? ((a.add (i * 2)).add 0) = some v ∧ W.cell? ((a.add (i * 2)).add 1) = some u ∧ DataW.trod (fun _ => ()) P W 0 (fun _ => true) false n e [v, u] = some (d, q) := by
    intro i d hd
    obtain ⟨q, hq⟩ := hel i d hd
    rw [hc] at hq
    cases hx : W.cells? 0 (a.add (i * 2)) 2 with
    | none => rw [hx] at hq; cases hq
    | some l =>
      rw [hx] at hq
      have hm : (List.range 2).mapM (fun k => W.cell? ((a.add (i * 2)).add k)) = some l := by unfold World.cells? at hx; rw [if_pos (Nat.zero_le _)] at hx; exact hx
      have hl := Lib.mapM_length hm
      simp at hl
      match l, hl with
      | [v, u], _ =>
        obtain ⟨x0, hb0, hf0⟩ := Lib.mapM_at hm 0 0 (by simp)
        obtain ⟨x1, hb1, hf1⟩ := Lib.mapM_at hm 1 1 (by simp)
        simp only [List.getElem?_cons_zero, Option.some.injEq] at hb0
        simp only [List.getElem?_cons_succ, List.getElem?_cons_zero, Option.some.injEq] at hb1
        subst hb0
        subst hb1
        exact ⟨_, _, q, hf0, hf1, hq⟩
  obtain ⟨d0, hd0⟩ : ∃ d0, ds[0]? = some d0 := ⟨ds[0], List.getElem?_eq_getElem hne⟩
  obtain ⟨v0, u0, q0, h0, _, _⟩ := one 0 d0 hd0
  obtain ⟨b, o, spot⟩ := a
  have hs : spot = none := by simpa [Addr.add] using World.cell?_spot h0
  subst hs
  refine ⟨b, o, n, hcs, ?_⟩
  intro i d hd
  obtain ⟨v, u, q, h1, h1', h2⟩ := one i d hd
  rw [addr_add_add, Lib.add_plain] at h1 h1'
  rw [show o + 2 * i = o + (i * 2 + 0) by omega, show o + (2 * i + 1) = o + (i * 2 + 1) by omega]
  exact ⟨v, u, q, h1, h1', h2⟩
end

set_option maxRecDepth 100000 in
theorem opt_of {W : World} {rest : List (String × DataW Unit)} (h : laidMet Tryz.prog (("internal/strconv.optimize", Rows.laid_internal_strconv_optimize) :: rest) W) : W.cell? ⟨3, 0, none⟩ = some (.bool true) := by
  have hg : Tryz.prog.globalNamed "internal/strconv.optimize" = some 3 := by kernel_rfl
  obtain ⟨cs, fuel, p, hv, hd⟩ := head_parts h hg (show (Tryz.prog.globals[3]?).map (·.type) = some 4 by kernel_rfl)
  obtain ⟨b, e1, e2⟩ := DataW.trod_bool Tryz.underlying4 hd
  have hb : b = true := by
    have := (Prod.mk.inj e2).1
    simpa [Rows.laid_internal_strconv_optimize] using this.symm
  rw [World.var?_cell hg hv 0]
  have : cs.toList[0]? = some (.bool b) := by rw [e1]; rfl
  rw [hb] at this
  simpa using this
theorem u10_of {W : World} {rest : List (String × DataW Unit)} (h : laidMet Tryz.prog (("internal/strconv.uint64pow10", Rows.laid_internal_strconv_uint64pow10) :: rest) W) : Lib.TabIs Tryz.prog W "internal/strconv.uint64pow10" .u64 Lib.pow10Tab := by
  have e : (Rows.laid_internal_strconv_uint64pow10 : DataW Unit) = Lib.tabData .u64 Lib.pow10Tab := by kernel_rfl
  rw [e] at h
  exact Lib.tabIs_of_head glob7 (show (Tryz.prog.globals[7]?).map (·.type) = some 137 by kernel_rfl) Tryz.underlying137 Tryz.underlying22 (by kernel_rfl) (by kernel_rfl) h
end Go.Proofs.YtdgmokfdkophpaaGreatDoor
