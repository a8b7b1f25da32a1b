/-
  What comes in: a script of the second law's steps.
-/
import Derived.Test.YtfkchmkaccjjoaaInB
import Derived.Test.YtfkchmkaccjjoaaEnds
import Derived.Deep.Strs
namespace Go.Proofs.Ytfkchmkaccjjoaa
open Go.ChangeShapes Go.WideShapes Go.ChangeAt Go.RowKit

/-- A script of the second law's steps. -/
theorem ops2_in {H : Type} {enc : TypeId × Value → H} {W : World} {a : Option Addr} {len cap : Nat} {d : DataW H} {p : List MemPlace}
    (h : DataW.Trod enc Try.prog W 0 (fun _ => true) true 44 (.slice a len cap) d p) (hsz : ∀ n, n ∈ d.weights Try.prog 44 → n ≤ reachBytes) :
    len ≤ 140737488351232 ∧ (len = 0 ∨ ∃ sb so, a = some ⟨sb, so, none⟩ ∧ ∀ j, j < len → ∃ d x oa ol oc bs, OpAt2 W sb so j d x oa ol oc bs) := by
  obtain ⟨fuel, hf⟩ := h
  have e44 : Try.prog.underlying 44 = some (.slice 49) := Try.underlying44
  have hc : Try.prog.cellsOf 49 = 3 := by kernel_rfl
  have hb : Try.prog.bytesOf 49 = 40 := by kernel_rfl
  rcases Go.Deep.open_slice e44 hf with ⟨hcs, _⟩ | ⟨x, l, c, m, n, D, Pl, hcs, _, hl, hm, hmm, hx, hcell⟩
  · simp [Value.cells] at hcs
    obtain ⟨rfl, rfl, rfl⟩ := hcs
    exact ⟨Nat.zero_le _, .inl rfl⟩
  · simp [Value.cells] at hcs
    obtain ⟨rfl, rfl, rfl⟩ := hcs
    simp only [if_true] at hmm
    subst hmm
    simp only [Prod.mk.injEq] at hx
    obtain ⟨rfl, rfl⟩ := hx
    have hlen : len ≤ 140737488351232 := by
      have := hsz ((len + (m - len)) * 40) (by rw [← hb]; simp [DataW.weights, e44])
      simp only [reachBytes] at this
      omega
    refine ⟨hlen, ?_⟩
    by_cases h0 : len = 0
    · exact .inl h0
    obtain ⟨sb, so, spot⟩ := x
    have hspot : spot = none := by
      obtain ⟨cs', h1, _⟩ := hcell 0 (by omega)
      obtain ⟨_, hn, h2⟩ := World.cells?_some h1
      have h3 := h2 0 (by rw [hc]; omega)
      rw [List.getElem?_eq_getElem (by rw [hn, hc]; omega)] at h3
      simpa [Addr.add] using World.cell?_spot h3
    subst hspot
    refine .inr ⟨sb, so, rfl, fun j hj => ?_⟩
    obtain ⟨cs', h1, h2⟩ := hcell j (by omega)
    obtain ⟨_, hn, hcc⟩ := World.cells?_some h1
    rw [hc] at hn hcc
    obtain ⟨y0, y1, y3, k, hD, _, t0, t1, t3⟩ := Go.Deep.trod_struct3 Try.underlying49 h2
    obtain ⟨v0, v1, v3, rfl⟩ : ∃ v0 v1 v3, cs' = [v0, v1, v3] := by
      match cs', hn with
      | [c0, c1, c2], _ => exact ⟨c0, c1, c2, rfl⟩
    have c3 : Try.prog.cellsOf 3 = 1 := by kernel_rfl
    have c22 : Try.prog.cellsOf 22 = 1 := by kernel_rfl
    simp only [c3, c22] at t0 t1 t3
    have t0' : DataW.trod enc Try.prog W 0 (fun _ => true) true k 3 [v0] = some y0 := t0
    have t1' : DataW.trod enc Try.prog W 0 (fun _ => true) true k 3 [v1] = some y1 := t1
    have t3' : DataW.trod enc Try.prog W 0 (fun _ => true) true k 22 [v3] = some y3 := t3
    obtain ⟨z0, e0, _, _⟩ := DataW.trod_int Try.underlying3 t0'
    obtain ⟨z1, e1, _, _⟩ := DataW.trod_int Try.underlying3 t1'
    simp only [List.cons.injEq, and_true] at e0 e1
    subst e0 e1
    have hw : ∀ n, n ∈ y3.1.weights Try.prog 22 → n ≤ reachBytes := fun n hn' => by
      refine hsz n ?_
      have hm1 : n ∈ DataW.weights Try.prog 49 (D j) := by
        have e : D j = .agg [y0.1, y1.1, y3.1] := congrArg Prod.fst hD
        rw [e]
        simp only [DataW.weights, Try.underlying49]
        exact DataW.weights_mem_each (j := 2) (t := 22) rfl rfl n hn'
      simp only [DataW.weights, e44, List.mem_cons, List.mem_append]
      refine .inr (.inl (weights_mem_all (d := D j) ?_ n hm1))
      exact List.mem_map.2 ⟨j, List.mem_range.2 hj, rfl⟩
    obtain ⟨oa, ol, oc, bs, rfl, b1, b2, b3, b4⟩ := cell_in Try.underlying22 Try.underlying5 (by kernel_rfl) (by kernel_rfl) t3' hw
    refine ⟨z0, z1, oa, ol, oc, bs, ⟨?_, ?_, ?_, b1, b2, b3, b4⟩⟩
    · have := hcc 0 (by omega); rw [addr_add2] at this; exact this
    · have := hcc 1 (by omega); rw [addr_add2] at this; exact this
    · have := hcc 2 (by omega); rw [addr_add2] at this; exact this
end Go.Proofs.Ytfkchmkaccjjoaa
