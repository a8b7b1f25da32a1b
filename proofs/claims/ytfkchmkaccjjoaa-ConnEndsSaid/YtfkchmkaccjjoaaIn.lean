/-
  What comes in: slices of bytes and of ints, opened as the walks ask for them.
-/
import Derived.Test.YtfkchmkaccjjoaaBase
import Derived.ProofKit
import Derived.SizedLaws
namespace Go.Proofs.Ytfkchmkaccjjoaa
open Go.ChangeShapes Go.WideShapes Go.ChangeAt Go.RowKit

theorem byte_of_wf {z : Int} (h : (Lit.int .u8 z).wf = true) : Value.int .u8 z = byteV (UInt8.ofNat z.toNat) := by
  simp [Lit.wf, IntKind.min, IntKind.max, IntKind.signed, IntKind.bits] at h
  unfold byteV
  rw [UInt8.toNat_ofNat']
  congr 1
  omega

/-- A slice of bytes that came in. -/
theorem bytes_in {H : Type} {enc : TypeId × Value → H} {P : Program} {W : World} {T E : TypeId} {a : Option Addr} {len cap : Nat} {d : DataW H} {p : List MemPlace}
    (hT : P.underlying T = some (.slice E)) (hE : P.underlying E = some (.int .u8)) (hc : P.cellsOf E = 1)
    (h : DataW.Trod enc P W 0 (fun _ => true) true T (.slice a len cap) d p) (hsz : ∀ elems spare, d = .slice elems spare → elems.length + spare.length ≤ 140737488351232) :
    ∃ bs : List UInt8, bs.length = len ∧ len ≤ cap ∧ cap ≤ 140737488351232 ∧ IsB W a bs := by
  obtain ⟨fuel, hf⟩ := h
  rcases open_ints hT hE hc hf with ⟨hcs, _⟩ | ⟨x, l, c, zs, hcs, _, hl, hm, hz, hx, hcell, hwz⟩
  · simp [Value.cells] at hcs
    obtain ⟨rfl, rfl, rfl⟩ := hcs
    exact ⟨[], rfl, Nat.le_refl _, by omega, IsB.nil _ _⟩
  · simp [Value.cells] at hcs
    obtain ⟨rfl, rfl, rfl⟩ := hcs
    simp only [if_true] at hz
    simp only [Prod.mk.injEq] at hx
    have hs := hsz _ _ hx.1
    simp only [lits, List.length_map, List.length_take, List.length_drop] at hs
    refine ⟨(zs.take len).map fun z => UInt8.ofNat z.toNat, by simp; omega, hl, by omega, ?_⟩
    intro j b hb
    rw [List.getElem?_map, List.getElem?_take] at hb
    by_cases hj : j < len
    · rw [if_pos hj] at hb
      have hjz : j < zs.length := by omega
      rw [List.getElem?_eq_getElem hjz] at hb
      simp at hb
      refine ⟨x, rfl, ?_⟩
      rw [hcell j hjz, List.getD_eq_getElem?_getD, List.getElem?_eq_getElem hjz, ← hb]
      simp only [Option.getD_some]
      rw [byte_of_wf (hwz _ (List.getElem_mem hjz))]
    · rw [if_neg hj] at hb; cases hb

/-- A slice of ints that came in. -/
theorem ints_in {H : Type} {enc : TypeId × Value → H} {P : Program} {W : World} {T E : TypeId} {a : Option Addr} {len cap : Nat} {d : DataW H} {p : List MemPlace}
    (hT : P.underlying T = some (.slice E)) (hE : P.underlying E = some (.int .i64)) (hc : P.cellsOf E = 1)
    (h : DataW.Trod enc P W 0 (fun _ => true) true T (.slice a len cap) d p) (hsz : ∀ elems spare, d = .slice elems spare → elems.length + spare.length ≤ 140737488351232) :
    len ≤ 140737488351232 ∧ ∃ ps : List Int, (len = 0 ∨ ∃ pb po, a = some ⟨pb, po, none⟩ ∧ ∀ j, j < len → W.cell? ⟨pb, po + j, none⟩ = some (.int .i64 (ps.getD j 0))) := by
  obtain ⟨fuel, hf⟩ := h
  rcases open_ints hT hE hc hf with ⟨hcs, _⟩ | ⟨x, l, c, zs, hcs, _, hl, hm, hz, hx, hcell, hwz⟩
  · simp [Value.cells] at hcs
    obtain ⟨rfl, rfl, rfl⟩ := hcs
    exact ⟨by omega, [], .inl rfl⟩
  · simp [Value.cells] at hcs
    obtain ⟨rfl, rfl, rfl⟩ := hcs
    simp only [if_true] at hz
    simp only [Prod.mk.injEq] at hx
    have hs := hsz _ _ hx.1
    simp only [lits, List.length_map, List.length_take, List.length_drop] at hs
    refine ⟨by omega, zs, ?_⟩
    by_cases h0 : len = 0
    · exact .inl h0
    · obtain ⟨b, off, spot⟩ := x
      have hspot : spot = none := by simpa [Addr.add] using World.cell?_spot (hcell 0 (by omega))
      subst hspot
      refine .inr ⟨b, off, rfl, fun j hj => ?_⟩
      have := hcell j (by omega)
      rwa [show (⟨b, off, none⟩ : Addr).add j = ⟨b, off + j, none⟩ by unfold Addr.add; split <;> simp_all] at this
end Go.Proofs.Ytfkchmkaccjjoaa
