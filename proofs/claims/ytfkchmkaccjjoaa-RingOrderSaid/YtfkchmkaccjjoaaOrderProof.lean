/-
  RingOrder holds: for every size, bytes and pieces the law returns true and its arguments read as before. No condition.
-/
import Derived.Test.YtfkchmkaccjjoaaOrder
import Derived.Test.YtfkchmkaccjjoaaIn
import Derived.ChangeOld
import Derived.OpenShut
namespace Go.Proofs.Ytfkchmkaccjjoaa.ringOrder
open Go.ChangeShapes Go.WideShapes Go.ChangeAt Go.RowKit

theorem own : ownKnob Try.prog.godebug = none := by kernel_rfl
theorem laidOut : laidOutB Try.prog = true := by kernel_rfl

theorem cells5 : Try.prog.cellsOf 5 = 1 := by kernel_rfl
theorem cells3 : Try.prog.cellsOf 3 = 1 := by kernel_rfl
theorem bytes5 : Try.prog.bytesOf 5 = 1 := by kernel_rfl
theorem bytes3 : Try.prog.bytesOf 3 = 8 := by kernel_rfl

theorem order_all (most : Int) (ba : Option Addr) (bl bc : Nat) (bs : List UInt8) (pa : Option Addr) (pl pc : Nat) (ps : List Int) (w : World)
    (hl : bs.length = bl) (hb : bl ≤ bc) (hb2 : bc ≤ 140737488351232) (hsrc : IsB w ba bs)
    (hpl : pl ≤ 140737488351232) (hps : pl = 0 ∨ ∃ pb po, pa = some ⟨pb, po, none⟩ ∧ ∀ j, j < pl → w.cell? ⟨pb, po + j, none⟩ = some (.int .i64 (ps.getD j 0))) :
    Calls Try.prog 3 #[.int .i64 most, .slice ba bl bc, .slice pa pl pc] w fun e w' => e = .returned (.bool true) ∧ Below w.heap.size w w' := by
  by_cases h : most < 1 ∨ 4096 < most
  · exact order_no most ba bl bc pa pl pc w h
  · obtain ⟨cap, rfl⟩ := Int.eq_ofNat_of_zero_le (show 0 ≤ most by omega)
    exact order_yes cap ba bl bc bs pa pl pc ps w (by omega) (by omega) hl hb hb2 hsrc hpl hps

set_option maxRecDepth 100000 in
theorem lifted (os : Os) (started : os.Started) (H : Type) (enc : TypeId × Value → H) :
    ReturnsInHanded {} Try.checked os 3 .any (Rows.ringOrderSpec.pre6 enc Try.prog Try.f3 Rows.ringOrderRow.domain false) (Rows.ringOrderSpec.post enc Try.prog Try.f3 false true false false) := by
  refine returnsInHanded_of_change_sized (C := Try.checked) own started (by kernel_rfl) Try.func3
    (ChangeSpec.witness6 (enc := enc) (C := Try.checked) false ⟨#[], #[.int .i64 0, .slice none 0 0, .slice none 0 0], []⟩ 8 (by kernel_rfl) (by kernel_rfl) (by kernel_rfl) (by kernel_rfl)) ?_
  intro W base args ds gs before hval0 hW _ hsz0 _
  have hsz : (DataW.weightsEach Try.prog (Try.f3.params.toList ++ Rows.ringOrderSpec.plain.varTypes Try.prog) (ds ++ gs)).all (· ≤ reachBytes) = true := hsz0
  clear hsz0
  have hval : ∀ (j : Nat) t v, Try.f3.params[j]? = some t → args[j]? = some v → Value.okWide Try.prog W .any base t v := hval0
  have hW' := hW
  obtain ⟨p, q, hA0, hV, rfl, _, _⟩ := hW
  have hA : DataW.TrodAll enc Try.prog W 0 (fun _ => true) true Try.f3.params.toList args.toList ds p := hA0
  rw [Try.params3] at hA hval hsz
  obtain ⟨v0, vs0, d0, ds0, p0, q0, hargs, rfl, rfl, h0, r0⟩ := trodAll_cons hA
  obtain ⟨v1, vs1, d1, ds1, p1, q1, rfl, rfl, rfl, h1, r1⟩ := trodAll_cons r0
  obtain ⟨v2, vs2, d2, ds2, p2, q2, rfl, rfl, rfl, h2, r2⟩ := trodAll_cons r1
  obtain ⟨rfl, rfl, rfl⟩ := trodAll_nil r2
  obtain rfl : args = #[v0, v1, v2] := by cases args; simp_all
  obtain ⟨rfl, rfl⟩ := trodVars_none hV
  obtain ⟨a0, rfl, rfl, rfl, w0⟩ := open_int Try.underlying3 (hval 0 3 v0 rfl rfl) h0
  obtain ⟨a1, len1, cap1, rfl⟩ := okWide_slice Try.underlying22 (hval 1 22 v1 rfl rfl)
  have k1 := h1
  have lt1 : ∀ x ∈ p1, x.block < W.heap.size := by obtain ⟨m, hm⟩ := k1; exact DataW.trod_lt m _ _ _ hm
  obtain ⟨bs, hbl, hbc, hbr, hbs⟩ := bytes_in Try.underlying22 Try.underlying5 cells5 h1 (fun elems spare hd => by
    subst hd
    have := sized_slice hsz (j := 1) (t := 22) (e := 5) rfl rfl Try.underlying22
    rw [bytes5] at this
    simp only [reachBytes] at this
    omega)
  obtain ⟨a2, len2, cap2, rfl⟩ := okWide_slice Try.underlying23 (hval 2 23 v2 rfl rfl)
  have k2 := h2
  have lt2 : ∀ x ∈ p2, x.block < W.heap.size := by obtain ⟨m, hm⟩ := k2; exact DataW.trod_lt m _ _ _ hm
  obtain ⟨hpl, ps, hps⟩ := ints_in Try.underlying23 Try.underlying3 cells3 h2 (fun elems spare hd => by
    subst hd
    have := sized_slice hsz (j := 2) (t := 23) (e := 3) rfl rfl Try.underlying23
    rw [bytes3] at this
    simp only [reachBytes] at this
    omega)
  clear hA0 hval0
  refine (order_all a0 a1 len1 cap1 bs a2 len2 cap2 ps W hbl hbc hbr hbs hpl hps).mono fun e W' ⟨he, bel⟩ => ?_
  subst he
  exact ⟨_, rfl, _, _, _, [], _, [], hW', trodAll_mk1 (shut_bool Try.underlying4 _), (trodAll_cons_mk (shut_int Try.underlying3 w0) (trodAll_cons_mk (Below.trod laidOut (by kernel_rfl) (of_decide_eq_true (by kernel_rfl)) k1 bel lt1) (trodAll_cons_mk (Below.trod laidOut (by kernel_rfl) (of_decide_eq_true (by kernel_rfl)) k2 bel lt2) trodAll_mk0))), rfl, bel.frame _, fun h => by cases h⟩

theorem over : Rows.ringOrderRow.holds Try.pinned (OpenSpec.ofChange Rows.ringOrderSpec) :=
  OpenClaim.holds_of_wide 3 Try.f3 rfl rfl rfl rfl rfl rfl rfl ⟨rfl, rfl, rfl, rfl, rfl⟩ rfl rfl rfl rfl rfl (by kernel_rfl) Try.func3 (by kernel_rfl)
    (of_decide_eq_true (by kernel_rfl)) (by unfold Func.isWrapper; first | (rw [if_pos (by decide +kernel)]; kernel_rfl) | (rw [if_neg (by decide +kernel)]; exact ⟨rfl, rfl⟩))
    (fun os started H enc _ => lifted os started H enc)

theorem proved : Rows.RingOrderSaid := over
#print axioms proved
end Go.Proofs.Ytfkchmkaccjjoaa.ringOrder
