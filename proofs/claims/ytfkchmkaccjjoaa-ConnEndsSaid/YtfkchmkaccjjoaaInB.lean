/-
  What comes in: a script of steps, opened as the walks ask for it.
-/
import Derived.Test.YtfkchmkaccjjoaaIn
import Derived.Test.YtfkchmkaccjjoaaPlays
import Derived.Deep.Slices
import Derived.Lib.SmallJoins
namespace Go.Proofs.Ytfkchmkaccjjoaa
open Go.ChangeShapes Go.WideShapes Go.ChangeAt Go.RowKit

theorem weights_mem_all {H : Type} {P : Program} {e : TypeId} : ∀ {l : List (DataW H)} {d : DataW H}, d ∈ l → ∀ n ∈ d.weights P e, n ∈ DataW.weightsAll P e l
  | _ :: l, d, h, n, hn => by
    simp only [DataW.weightsAll, List.mem_append]
    rcases List.mem_cons.1 h with rfl | h
    · exact .inl hn
    · exact .inr (weights_mem_all h n hn)

/-- One cell that is a slice of bytes. -/
theorem cell_in {H : Type} {enc : TypeId × Value → H} {P : Program} {W : World} {T E : TypeId} {n : Nat} {x : Value} {y : DataW H × List MemPlace}
    (hT : P.underlying T = some (.slice E)) (hE : P.underlying E = some (.int .u8)) (hc : P.cellsOf E = 1) (hB : P.bytesOf E = 1)
    (h : DataW.trod enc P W 0 (fun _ => true) true n T [x] = some y) (hsz : ∀ n, n ∈ y.1.weights P T → n ≤ reachBytes) :
    ∃ (a : Option Addr) (len cap : Nat) (bs : List UInt8), x = .slice a len cap ∧ bs.length = len ∧ len ≤ cap ∧ cap ≤ 140737488351232 ∧ IsB W a bs := by
  have hx : ∃ (a : Option Addr) (len cap : Nat), x = .slice a len cap := by
    rcases open_ints hT hE hc h with ⟨hcs, _⟩ | ⟨x', l, c, zs, hcs, _⟩ <;> simp at hcs <;> exact ⟨_, _, _, hcs⟩
  obtain ⟨a, len, cap, rfl⟩ := hx
  obtain ⟨bs, h1, h2, h3, h4⟩ := bytes_in (d := y.1) (p := y.2) (len := len) (cap := cap) (a := a) hT hE hc ⟨n, by simpa [Value.cells] using h⟩ (fun elems spare hd => by
    have := hsz ((elems.length + spare.length) * P.bytesOf E) (by rw [hd]; simp [DataW.weights, hT])
    rw [hB] at this
    simp only [reachBytes] at this
    omega)
  exact ⟨a, len, cap, bs, rfl, h1, h2, h3, h4⟩

theorem addr_add2 (b off i j : Nat) : ((⟨b, off, none⟩ : Addr).add i).add j = ⟨b, off + i + j, none⟩ := by
  have e : ∀ o n, (⟨b, o, none⟩ : Addr).add n = ⟨b, o + n, none⟩ := fun o n => by unfold Addr.add; split <;> simp_all
  rw [e, e]

/-- A script of the first law's steps. -/
theorem ops_in {H : Type} {enc : TypeId × Value → H} {W : World} {a : Option Addr} {len cap : Nat} {d : DataW H} {p : List MemPlace}
    (h : DataW.Trod enc Try.prog W 0 (fun _ => true) true 31 (.slice a len cap) d p) (hsz : ∀ n, n ∈ d.weights Try.prog 31 → n ≤ reachBytes) :
    len ≤ 140737488351232 ∧ (len = 0 ∨ ∃ sb so, a = some ⟨sb, so, none⟩ ∧ ∀ j, j < len → ∃ d sec x oa ol oc bs, OpAt W sb so j d sec x oa ol oc bs) := by
  obtain ⟨fuel, hf⟩ := h
  have e31 : Try.prog.underlying 31 = some (.slice 37) := Try.underlying31
  have hc : Try.prog.cellsOf 37 = 4 := by kernel_rfl
  have hb : Try.prog.bytesOf 37 = 48 := by kernel_rfl
  rcases Go.Deep.open_slice e31 hf with ⟨hcs, _⟩ | ⟨x, l, c, m, n, D, Pl, hcs, _, hl, hm, hmm, hx, hcell⟩
  · simp [Value.cells] at hcs
    obtain ⟨rfl, rfl, rfl⟩ := hcs
    exact ⟨Nat.zero_le _, .inl rfl⟩
  · simp [Value.cells] at hcs
    obtain ⟨rfl, rfl, rfl⟩ := hcs
    simp only [if_true] at hmm
    subst hmm
    simp only [Prod.mk.injEq] at hx
    obtain ⟨rfl, rfl⟩ := hx
    have hlen : len ≤ 140737488351232 := by
      have := hsz ((len + (m - len)) * 48) (by rw [← hb]; simp [DataW.weights, e31])
      simp only [reachBytes] at this
      omega
    refine ⟨hlen, ?_⟩
    by_cases h0 : len = 0
    · exact .inl h0
    obtain ⟨sb, so, spot⟩ := x
    have hspot : spot = none := by
      obtain ⟨cs', h1, _⟩ := hcell 0 (by omega)
      obtain ⟨_, hn, h2⟩ := World.cells?_some h1
      have h3 := h2 0 (by rw [hc]; omega)
      rw [List.getElem?_eq_getElem (by rw [hn, hc]; omega)] at h3
      simpa [Addr.add] using World.cell?_spot h3
    subst hspot
    refine .inr ⟨sb, so, rfl, fun j hj => ?_⟩
    obtain ⟨cs', h1, h2⟩ := hcell j (by omega)
    obtain ⟨_, hn, hcc⟩ := World.cells?_some h1
    rw [hc] at hn hcc
    obtain ⟨y0, y1, y2, y3, k, hD, _, t0, t1, t2, t3⟩ := Go.Joins.trod_struct4 Try.underlying37 h2
    obtain ⟨v0, v1, v2, v3, rfl⟩ : ∃ v0 v1 v2 v3, cs' = [v0, v1, v2, v3] := by
      match cs', hn with
      | [c0, c1, c2, c3], _ => exact ⟨c0, c1, c2, c3, rfl⟩
    have c3 : Try.prog.cellsOf 3 = 1 := by kernel_rfl
    have c4 : Try.prog.cellsOf 4 = 1 := by kernel_rfl
    have c22 : Try.prog.cellsOf 22 = 1 := by kernel_rfl
    simp only [c3, c4, c22] at t0 t1 t2 t3
    have t0' : DataW.trod enc Try.prog W 0 (fun _ => true) true k 3 [v0] = some y0 := t0
    have t1' : DataW.trod enc Try.prog W 0 (fun _ => true) true k 4 [v1] = some y1 := t1
    have t2' : DataW.trod enc Try.prog W 0 (fun _ => true) true k 3 [v2] = some y2 := t2
    have t3' : DataW.trod enc Try.prog W 0 (fun _ => true) true k 22 [v3] = some y3 := t3
    obtain ⟨z0, e0, _, _⟩ := DataW.trod_int Try.underlying3 t0'
    obtain ⟨z1, e1, _⟩ := DataW.trod_bool Try.underlying4 t1'
    obtain ⟨z2, e2, _, _⟩ := DataW.trod_int Try.underlying3 t2'
    simp only [List.cons.injEq, and_true] at e0 e1 e2
    subst e0 e1 e2
    have hw : ∀ n, n ∈ y3.1.weights Try.prog 22 → n ≤ reachBytes := fun n hn' => by
      refine hsz n ?_
      have hm1 : n ∈ DataW.weights Try.prog 37 (D j) := by
        have e : D j = .agg [y0.1, y1.1, y2.1, y3.1] := congrArg Prod.fst hD
        rw [e]
        simp only [DataW.weights, Try.underlying37]
        exact DataW.weights_mem_each (j := 3) (t := 22) rfl rfl n hn'
      simp only [DataW.weights, e31, List.mem_cons, List.mem_append]
      refine .inr (.inl (weights_mem_all (d := D j) ?_ n hm1))
      exact List.mem_map.2 ⟨j, List.mem_range.2 hj, rfl⟩
    obtain ⟨oa, ol, oc, bs, rfl, b1, b2, b3, b4⟩ := cell_in Try.underlying22 Try.underlying5 (by kernel_rfl) (by kernel_rfl) t3' hw
    refine ⟨z0, z1, z2, oa, ol, oc, bs, ⟨?_, ?_, ?_, ?_, b1, b2, b3, b4⟩⟩
    · have := hcc 0 (by omega); rw [addr_add2] at this; exact this
    · have := hcc 1 (by omega); rw [addr_add2] at this; exact this
    · have := hcc 2 (by omega); rw [addr_add2] at this; exact this
    · have := hcc 3 (by omega); rw [addr_add2] at this; exact this
end Go.Proofs.Ytfkchmkaccjjoaa
