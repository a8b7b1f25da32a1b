/-
  ConnCarries holds: for every size, bytes, pieces, and whether it is aborted, the law returns true and its arguments read as before. No condition.
-/
import Derived.Test.YtfkchmkaccjjoaaCarries
import Derived.Test.YtfkchmkaccjjoaaIn
import Derived.ChangeOld
import Derived.OpenShut
namespace Go.Proofs.Ytfkchmkaccjjoaa.connCarries
open Go.ChangeShapes Go.WideShapes Go.ChangeAt Go.RowKit

theorem own : ownKnob Try.prog.godebug = none := by kernel_rfl
theorem laidOut : laidOutB Try.prog = true := by kernel_rfl

theorem cells5 : Try.prog.cellsOf 5 = 1 := by kernel_rfl
theorem cells3 : Try.prog.cellsOf 3 = 1 := by kernel_rfl
theorem bytes5 : Try.prog.bytesOf 5 = 1 := by kernel_rfl
theorem bytes3 : Try.prog.bytesOf 3 = 8 := by kernel_rfl

theorem carries_all (out : Int) (ba : Option Addr) (bl bc : Nat) (bs : List UInt8) (pa : Option Addr) (pl pc : Nat) (ps : List Int) (ab : Bool) (w : World)
    (hl : bs.length = bl) (hb : bl ≤ bc) (hb2 : bc ≤ 140737488351232) (hsrc : IsB w ba bs)
    (hpl : pl ≤ 140737488351232) (hps : pl = 0 ∨ ∃ pb po, pa = some ⟨pb, po, none⟩ ∧ ∀ j, j < pl → w.cell? ⟨pb, po + j, none⟩ = some (.int .i64 (ps.getD j 0))) :
    Calls Try.prog 5 #[.int .i64 out, .slice ba bl bc, .slice pa pl pc, .bool ab] w fun e w' => e = .returned (.bool true) ∧ Below w.heap.size w w' := by
  by_cases h : out < 1 ∨ 4096 < out
  · exact carries_no out ba bl bc pa pl pc ab w h
  · obtain ⟨m, rfl⟩ := Int.eq_ofNat_of_zero_le (show 0 ≤ out by omega)
    exact carries_yes m ba bl bc bs pa pl pc ps ab w (by omega) (by omega) hl hb hb2 hsrc hpl hps

set_option maxRecDepth 100000 in
theorem lifted (os : Os) (started : os.Started) (H : Type) (enc : TypeId × Value → H) :
    ReturnsInHanded {} Try.checked os 5 .any (Rows.connCarriesSpec.pre6 enc Try.prog Try.f5 Rows.connCarriesRow.domain false) (Rows.connCarriesSpec.post enc Try.prog Try.f5 false true false false) := by
  refine returnsInHanded_of_change_sized (C := Try.checked) own started (by kernel_rfl) Try.func5
    (ChangeSpec.witness6 (enc := enc) (C := Try.checked) false ⟨#[], #[.int .i64 0, .slice none 0 0, .slice none 0 0, .bool false], []⟩ 8 (by kernel_rfl) (by kernel_rfl) (by kernel_rfl) (by kernel_rfl)) ?_
  intro W base args ds gs before hval0 hW _ hsz0 _
  have hsz : (DataW.weightsEach Try.prog (Try.f5.params.toList ++ Rows.connCarriesSpec.plain.varTypes Try.prog) (ds ++ gs)).all (· ≤ reachBytes) = true := hsz0
  clear hsz0
  have hval : ∀ (j : Nat) t v, Try.f5.params[j]? = some t → args[j]? = some v → Value.okWide Try.prog W .any base t v := hval0
  have hW' := hW
  obtain ⟨p, q, hA0, hV, rfl, _, _⟩ := hW
  have hA : DataW.TrodAll enc Try.prog W 0 (fun _ => true) true Try.f5.params.toList args.toList ds p := hA0
  rw [Try.params5] at hA hval hsz
  obtain ⟨v0, vs0, d0, ds0, p0, q0, hargs, rfl, rfl, h0, r0⟩ := trodAll_cons hA
  obtain ⟨v1, vs1, d1, ds1, p1, q1, rfl, rfl, rfl, h1, r1⟩ := trodAll_cons r0
  obtain ⟨v2, vs2, d2, ds2, p2, q2, rfl, rfl, rfl, h2, r2⟩ := trodAll_cons r1
  obtain ⟨v3, vs3, d3, ds3, p3, q3, rfl, rfl, rfl, h3, r3⟩ := trodAll_cons r2
  obtain ⟨rfl, rfl, rfl⟩ := trodAll_nil r3
  obtain rfl : args = #[v0, v1, v2, v3] := by cases args; simp_all
  obtain ⟨rfl, rfl⟩ := trodVars_none hV
  obtain ⟨a0, rfl, rfl, rfl, w0⟩ := open_int Try.underlying3 (hval 0 3 v0 rfl rfl) h0
  obtain ⟨a1, len1, cap1, rfl⟩ := okWide_slice Try.underlying22 (hval 1 22 v1 rfl rfl)
  have k1 := h1
  have lt1 : ∀ x ∈ p1, x.block < W.heap.size := by obtain ⟨m, hm⟩ := k1; exact DataW.trod_lt m _ _ _ hm
  obtain ⟨bs, hbl, hbc, hbr, hbs⟩ := bytes_in Try.underlying22 Try.underlying5 cells5 h1 (fun elems spare hd => by
    subst hd
    have := sized_slice hsz (j := 1) (t := 22) (e := 5) rfl rfl Try.underlying22
    rw [bytes5] at this
    simp only [reachBytes] at this
    omega)
  obtain ⟨a2, len2, cap2, rfl⟩ := okWide_slice Try.underlying23 (hval 2 23 v2 rfl rfl)
  have k2 := h2
  have lt2 : ∀ x ∈ p2, x.block < W.heap.size := by obtain ⟨m, hm⟩ := k2; exact DataW.trod_lt m _ _ _ hm
  obtain ⟨hpl, ps, hps⟩ := ints_in Try.underlying23 Try.underlying3 cells3 h2 (fun elems spare hd => by
    subst hd
    have := sized_slice hsz (j := 2) (t := 23) (e := 3) rfl rfl Try.underlying23
    rw [bytes3] at this
    simp only [reachBytes] at this
    omega)
  obtain ⟨a3, rfl, rfl, rfl⟩ := open_bool Try.underlying4 (hval 3 4 v3 rfl rfl) h3
  clear hA0 hval0
  refine (carries_all a0 a1 len1 cap1 bs a2 len2 cap2 ps a3 W hbl hbc hbr hbs hpl hps).mono fun e W' ⟨he, bel⟩ => ?_
  subst he
  exact ⟨_, rfl, _, _, _, [], _, [], hW', trodAll_mk1 (shut_bool Try.underlying4 _), (trodAll_cons_mk (shut_int Try.underlying3 w0) (trodAll_cons_mk (Below.trod laidOut (by kernel_rfl) (of_decide_eq_true (by kernel_rfl)) k1 bel lt1) (trodAll_cons_mk (Below.trod laidOut (by kernel_rfl) (of_decide_eq_true (by kernel_rfl)) k2 bel lt2) (trodAll_cons_mk (shut_bool Try.underlying4 _) trodAll_mk0)))), rfl, bel.frame _, fun h => by cases h⟩

theorem over : Rows.connCarriesRow.holds Try.pinned (OpenSpec.ofChange Rows.connCarriesSpec) :=
  OpenClaim.holds_of_wide 5 Try.f5 rfl rfl rfl rfl rfl rfl rfl ⟨rfl, rfl, rfl, rfl, rfl⟩ rfl rfl rfl rfl rfl (by kernel_rfl) Try.func5 (by kernel_rfl)
    (of_decide_eq_true (by kernel_rfl)) (by unfold Func.isWrapper; first | (rw [if_pos (by decide +kernel)]; kernel_rfl) | (rw [if_neg (by decide +kernel)]; exact ⟨rfl, rfl⟩))
    (fun os started H enc _ => lifted os started H enc)

theorem proved : Rows.ConnCarriesSaid := over
#print axioms proved
end Go.Proofs.Ytfkchmkaccjjoaa.connCarries
