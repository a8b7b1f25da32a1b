/-
  PolicyTexts, for every text of at most 1048576 bytes: texts and links are made plain, and a link's scheme is found.
  Conditions: the arguments hold at most 1048576 values and letters; the listed tables of Go's library read as its text lays them (the card ties them).
-/
import Derived.Test.YtcfgbdhpcboikaaGreatDoorTextsW
import Derived.Test.YtcfgbdhpcboikaaGreatDoorTextsUJ
import Derived.Test.YtcfgbdhpcboikaaGreatDoorTextsUK
import Derived.Test.YtcfgbdhpcboikaaGreatDoorUptoA
import Derived.ChangeMaps5
import Derived.Test.YtcfgbdhpcboikaaGreatDoorCards
namespace Go.Proofs.YtcfgbdhpcboikaaGreatDoor.policyTextsUpto
open Go.ChangeMaps (open_string shut_string)
open Go.ChangeShapes Go.WideShapes Go.ChangeAt Go.RowKit

set_option maxRecDepth 100000 in
theorem lifted (os : Os) (started : os.Started) (H : Type) (enc : TypeId × Value → H) (F : Stop.Interp) :
    ReturnsInHanded {} Tryz.checked os 5 .any (fun w args => ((Rows.OpenSpec.upto Rows.policyTextsSpec).pre enc Tryz.prog Tryz.f5 [] false w args ∧ laidMetH Tryz.prog laidList w) ∧ sizedMet enc Tryz.prog Tryz.f5 (Rows.OpenSpec.upto Rows.policyTextsSpec) false w args)
      (((Rows.OpenSpec.upto Rows.policyTextsSpec).at F).post enc Tryz.prog Tryz.f5 false true false false) := by
  refine lift_upto (C := Tryz.checked) (X := fun w _ => laidMetH Tryz.prog laidList w) (fun _ _ _ hh h => h.of_heap hh) own started (by kernel_rfl) Tryz.func5
    (World.laidAll Tryz.prog os laidList) #[.string ByteArray.empty] 8 (World.laidAll_os _ _ _)
    (World.shaped_of_ZipB (by kernel_rfl) (by kernel_rfl)) (by kernel_rfl) (by kernel_rfl) (by kernel_rfl)
    (by rw [MakeChecks.laidMetH_plain _ _ _ (by kernel_rfl)]; exact laidMet_laidAll _ (by kernel_rfl) (by kernel_rfl)) ?_ F
  intro W base args ds gs before hval0 hW hbulk hL hS
  have hval : ∀ (j : Nat) t v, Tryz.f5.params[j]? = some t → args[j]? = some v → Value.okWide Tryz.prog W .any base t v := hval0
  have hW' := hW
  obtain ⟨p, q, hA0, hV, rfl, hfz, hnd⟩ := hW
  have hA : DataW.TrodAll enc Tryz.prog W 0 (fun _ => true) true Tryz.f5.params.toList args.toList ds p := hA0
  rw [Tryz.params5] at hA hval
  obtain ⟨v0, d0, rfl, rfl, h0⟩ := trodAll_one hA
  obtain ⟨rfl, rfl⟩ := trodVars_none hV
  obtain ⟨s0, rfl, rfl, rfl, m0⟩ := open_string Tryz.underlying9 (hval 0 9 v0 rfl rfl) h0
  clear hA0 hval0
  have hsz0 : s0.size ≤ 1048576 := by
    have h : Rows.uptoBulkAll _ ≤ 1048576 := hbulk
    simp only [List.append_nil, Rows.uptoBulkAll, Rows.uptoBulk] at h
    have e0 : s0.size = s0.data.toList.length := rfl
    simp at h
    omega
  simp only [List.append_nil] at hW'
  have walk := texts_all s0 hsz0 W (tabs_of hL hS)
  refine walk.mono fun e W' ⟨he, hb⟩ => ?_
  subst he
  refine ⟨_, rfl, _, _, _, [], [], [], hW', trodAll_mk1 (shut_bool Tryz.underlying4 _), ?_, rfl, hb.frame _, fun h => by cases h⟩
  exact trodAll_mk1 (shut_string Tryz.underlying9 m0)

theorem over : Rows.policyTextsUptoRow.holds Tryz.pinned (Rows.OpenSpec.upto Rows.policyTextsSpec) :=
  OpenClaim.holds_of_cond 5 Tryz.f5 rfl rfl rfl rfl rfl rfl rfl ⟨rfl, rfl, rfl, rfl, rfl⟩ rfl rfl rfl rfl rfl (by as_aux_lemma => kernel_rfl) Tryz.func5 joined
    (of_decide_eq_true (by kernel_rfl)) (by unfold Func.isWrapper; first | (rw [if_pos (by decide +kernel)]; kernel_rfl) | (rw [if_neg (by decide +kernel)]; exact ⟨rfl, rfl⟩))
    (fun os started H enc _ F => lifted os started H enc F)

/-- THE STATEMENT. -/
theorem proved : Rows.PolicyTextsUptoCardSaid :=
  Claim7.holds_tied_plain_at .later [] [.data, .data, .widerDeep, .widerDeep, .data, .data, .data, .data, .data, .data, .sentinel, .sentinel, .pinned, .pinned, .pinned] true (true, "794cf9c63e193e357b2310650565b2ed9be5052e667bbc52b7b459b6647c08dc") true
    over (fun _ h => by cases h) k1 (fun _ h => by cases h) policyTextsUpto_row_tie rfl ⟨rfl, rfl⟩ k2 rfl
    (fun f fn hf hfn => by
      obtain rfl : f = 5 := Option.some.inj (k5.symm.trans hf) |>.symm
      obtain rfl : fn = Tryz.f5 := (Option.some.inj (Tryz.func5.symm.trans hfn)).symm
      exact ⟨k3, fun j t ht => by
        rw [Tryz.params5] at ht
        have hm : t ∈ [9] := by simpa using Array.mem_of_getElem? ht
        exact (show Tryz.prog.wantsStandIn t = false by simpa using List.all_eq_true.1 k6 t hm)⟩)
    k4
#print axioms proved
end Go.Proofs.YtcfgbdhpcboikaaGreatDoor.policyTextsUpto
