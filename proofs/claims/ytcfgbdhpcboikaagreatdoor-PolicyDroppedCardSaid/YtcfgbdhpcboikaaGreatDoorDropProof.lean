/-
  PolicyDropped, for every input: what is dropped may be nowhere.
  Condition: the listed tables of Go's library read as its text lays them (the card ties them).
-/
import Derived.Test.YtcfgbdhpcboikaaGreatDoorDropW
import Derived.Test.YtcfgbdhpcboikaaGreatDoorDropJ
import Derived.Test.YtcfgbdhpcboikaaGreatDoorDropK
import Derived.Test.YtcfgbdhpcboikaaGreatDoorLaidA
import Derived.ChangeMaps5
import Derived.Test.YtcfgbdhpcboikaaGreatDoorCards
namespace Go.Proofs.YtcfgbdhpcboikaaGreatDoor.policyDropped
open Go.ChangeMaps (open_string shut_string)
open Go.ChangeShapes Go.WideShapes Go.ChangeAt Go.RowKit

set_option maxRecDepth 100000 in
theorem lifted (os : Os) (started : os.Started) (H : Type) (enc : TypeId × Value → H) :
    ReturnsInHanded {} Tryz.checked os 8 .any (fun w args => (Rows.policyDroppedSpec.pre enc Tryz.prog Tryz.f8 Rows.policyDroppedRow.domain false w args ∧ laidMetH Tryz.prog laidList w) ∧ sizedMet enc Tryz.prog Tryz.f8 (OpenSpec.ofChange Rows.policyDroppedSpec) false w args)
      (Rows.policyDroppedSpec.post enc Tryz.prog Tryz.f8 false true false false) := by
  refine lift_both (C := Tryz.checked) (X := fun w _ => laidMetH Tryz.prog laidList w) (fun _ _ _ hh h => h.of_heap hh) own started (by kernel_rfl) Tryz.func8
    (ChangeSpec.witness_shaped (enc := enc) (C := Tryz.checked) (os := os) (X := fun w _ => laidMetH Tryz.prog laidList w) false (World.laidAll Tryz.prog os laidList) #[.string ByteArray.empty, .string ByteArray.empty] 8 (World.laidAll_os _ _ _)
      (World.shaped_of_ZipB (by kernel_rfl) (by kernel_rfl)) (by kernel_rfl) (by kernel_rfl) (by kernel_rfl)
      (by rw [MakeChecks.laidMetH_plain _ _ _ (by kernel_rfl)]; exact laidMet_laidAll _ (by kernel_rfl) (by kernel_rfl))) ?_
  intro W base args ds gs before hval0 hW hL hS
  have hval : ∀ (j : Nat) t v, Tryz.f8.params[j]? = some t → args[j]? = some v → Value.okWide Tryz.prog W .any base t v := hval0
  have hW' := hW
  obtain ⟨p, q, hA0, hV, rfl, hfz, hnd⟩ := hW
  have hA : DataW.TrodAll enc Tryz.prog W 0 (fun _ => true) true Tryz.f8.params.toList args.toList ds p := hA0
  rw [Tryz.params8] at hA hval
  obtain ⟨v0, v1, d0, d1, p0, p1, rfl, rfl, rfl, h0, h1⟩ := trodAll_two hA
  obtain ⟨rfl, rfl⟩ := trodVars_none hV
  obtain ⟨s0, rfl, rfl, rfl, m0⟩ := open_string Tryz.underlying9 (hval 0 9 v0 rfl rfl) h0
  obtain ⟨s1, rfl, rfl, rfl, m1⟩ := open_string Tryz.underlying9 (hval 1 9 v1 rfl rfl) h1
  clear hA0 hval0
  simp only [List.append_nil] at hW'
  have walk := drop_all s0 s1 W (tabs_of hL hS)
  refine walk.mono fun e W' ⟨he, hb⟩ => ?_
  subst he
  refine ⟨_, rfl, _, _, _, [], [], [], hW', trodAll_mk1 (shut_bool Tryz.underlying4 _), ?_, rfl, hb.frame _, fun h => by cases h⟩
  exact trodAll_mk2 (shut_string Tryz.underlying9 m0) (shut_string Tryz.underlying9 m1)

theorem over : Rows.policyDroppedRow.holds Tryz.pinned (OpenSpec.ofChange Rows.policyDroppedSpec) :=
  OpenClaim.holds_of_wide 8 Tryz.f8 rfl rfl rfl rfl rfl rfl rfl ⟨rfl, rfl, rfl, rfl, rfl⟩ rfl rfl rfl rfl rfl (by as_aux_lemma => kernel_rfl) Tryz.func8 joined
    (of_decide_eq_true (by kernel_rfl)) (by unfold Func.isWrapper; first | (rw [if_pos (by decide +kernel)]; kernel_rfl) | (rw [if_neg (by decide +kernel)]; exact ⟨rfl, rfl⟩))
    (fun os started H enc _ => lifted os started H enc)

/-- THE STATEMENT. -/
theorem proved : Rows.PolicyDroppedCardSaid :=
  Claim7.holds_tied_plain_at .later [] [.data, .data, .widerDeep, .widerDeep, .data, .data, .data, .data, .data, .data, .sentinel, .sentinel, .pinned, .pinned, .pinned] true (true, "794cf9c63e193e357b2310650565b2ed9be5052e667bbc52b7b459b6647c08dc") true
    over (fun _ h => by cases h) k1 (fun _ h => by cases h) policyDropped_row_tie rfl ⟨rfl, rfl⟩ k2 rfl
    (fun f fn hf hfn => by
      obtain rfl : f = 8 := Option.some.inj (k5.symm.trans hf) |>.symm
      obtain rfl : fn = Tryz.f8 := (Option.some.inj (Tryz.func8.symm.trans hfn)).symm
      exact ⟨k3, fun j t ht => by
        rw [Tryz.params8] at ht
        have hm : t ∈ [9, 9] := by simpa using Array.mem_of_getElem? ht
        exact (show Tryz.prog.wantsStandIn t = false by simpa using List.all_eq_true.1 k6 t hm)⟩)
    k4
#print axioms proved
end Go.Proofs.YtcfgbdhpcboikaaGreatDoor.policyDropped
