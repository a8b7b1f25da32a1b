/-
  PolicySchemes, for every element, attribute and value that hold at most 1048576 letters: no link leads where it may not.
  Conditions: the arguments hold at most 1048576 values and letters; the listed tables of Go's library read as its text lays them (the card ties them).
-/
import Derived.Test.YtcfgbdhpcboikaaGreatDoorPageW
import Derived.Test.YtcfgbdhpcboikaaGreatDoorSchmUJ
import Derived.Test.YtcfgbdhpcboikaaGreatDoorSchmUK
import Derived.Test.YtcfgbdhpcboikaaGreatDoorLaidA
import Derived.ChangeMaps5
import Derived.Test.YtcfgbdhpcboikaaGreatDoorCards
namespace Go.Proofs.YtcfgbdhpcboikaaGreatDoor.policySchemesUpto
open Go.ChangeMaps (open_string shut_string)
open Go.ChangeShapes Go.WideShapes Go.ChangeAt Go.RowKit

set_option maxRecDepth 100000 in
theorem lifted (os : Os) (started : os.Started) (H : Type) (enc : TypeId × Value → H) (F : Stop.Interp) :
    ReturnsInHanded {} Tryz.checked os 7 .any (fun w args => ((Rows.OpenSpec.upto Rows.policySchemesSpec).pre enc Tryz.prog Tryz.f7 [] false w args ∧ laidMetH Tryz.prog laidList w) ∧ sizedMet enc Tryz.prog Tryz.f7 (Rows.OpenSpec.upto Rows.policySchemesSpec) false w args)
      (((Rows.OpenSpec.upto Rows.policySchemesSpec).at F).post enc Tryz.prog Tryz.f7 false true false false) := by
  refine lift_upto (C := Tryz.checked) (X := fun w _ => laidMetH Tryz.prog laidList w) (fun _ _ _ hh h => h.of_heap hh) own started (by kernel_rfl) Tryz.func7
    (World.laidAll Tryz.prog os laidList) #[.string ByteArray.empty, .string ByteArray.empty, .string ByteArray.empty] 8 (World.laidAll_os _ _ _)
    (World.shaped_of_ZipB (by kernel_rfl) (by kernel_rfl)) (by kernel_rfl) (by kernel_rfl) (by kernel_rfl)
    (by rw [MakeChecks.laidMetH_plain _ _ _ (by kernel_rfl)]; exact laidMet_laidAll _ (by kernel_rfl) (by kernel_rfl)) ?_ F
  intro W base args ds gs before hval0 hW hbulk hL hS
  have hval : ∀ (j : Nat) t v, Tryz.f7.params[j]? = some t → args[j]? = some v → Value.okWide Tryz.prog W .any base t v := hval0
  have hW' := hW
  obtain ⟨p, q, hA0, hV, rfl, hfz, hnd⟩ := hW
  have hA : DataW.TrodAll enc Tryz.prog W 0 (fun _ => true) true Tryz.f7.params.toList args.toList ds p := hA0
  rw [Tryz.params7] at hA hval
  obtain ⟨v0, v1, v2, d0, d1, d2, p0, p1, p2, rfl, rfl, rfl, h0, h1, h2⟩ := trodAll_three hA
  obtain ⟨rfl, rfl⟩ := trodVars_none hV
  obtain ⟨s0, rfl, rfl, rfl, m0⟩ := open_string Tryz.underlying9 (hval 0 9 v0 rfl rfl) h0
  obtain ⟨s1, rfl, rfl, rfl, m1⟩ := open_string Tryz.underlying9 (hval 1 9 v1 rfl rfl) h1
  obtain ⟨s2, rfl, rfl, rfl, m2⟩ := open_string Tryz.underlying9 (hval 2 9 v2 rfl rfl) h2
  clear hA0 hval0
  have hsz0 : s0.size ≤ 1048576 := by
    have h : Rows.uptoBulkAll _ ≤ 1048576 := hbulk
    simp only [List.append_nil, Rows.uptoBulkAll, Rows.uptoBulk] at h
    have e0 : s0.size = s0.data.toList.length := rfl
    have e1 : s1.size = s1.data.toList.length := rfl
    have e2 : s2.size = s2.data.toList.length := rfl
    simp at h
    omega
  have hsz1 : s1.size ≤ 1048576 := by
    have h : Rows.uptoBulkAll _ ≤ 1048576 := hbulk
    simp only [List.append_nil, Rows.uptoBulkAll, Rows.uptoBulk] at h
    have e0 : s0.size = s0.data.toList.length := rfl
    have e1 : s1.size = s1.data.toList.length := rfl
    have e2 : s2.size = s2.data.toList.length := rfl
    simp at h
    omega
  have hsz2 : s2.size ≤ 1048576 := by
    have h : Rows.uptoBulkAll _ ≤ 1048576 := hbulk
    simp only [List.append_nil, Rows.uptoBulkAll, Rows.uptoBulk] at h
    have e0 : s0.size = s0.data.toList.length := rfl
    have e1 : s1.size = s1.data.toList.length := rfl
    have e2 : s2.size = s2.data.toList.length := rfl
    simp at h
    omega
  simp only [List.append_nil] at hW'
  have walk := schemes_all s0 s1 s2 hsz0 hsz1 hsz2 W (tabs_of hL hS)
  refine walk.mono fun e W' ⟨he, hb⟩ => ?_
  subst he
  refine ⟨_, rfl, _, _, _, [], [], [], hW', trodAll_mk1 (shut_bool Tryz.underlying4 _), ?_, rfl, hb.frame _, fun h => by cases h⟩
  exact trodAll_mk3 (shut_string Tryz.underlying9 m0) (shut_string Tryz.underlying9 m1) (shut_string Tryz.underlying9 m2)

theorem over : Rows.policySchemesUptoRow.holds Tryz.pinned (Rows.OpenSpec.upto Rows.policySchemesSpec) :=
  OpenClaim.holds_of_cond 7 Tryz.f7 rfl rfl rfl rfl rfl rfl rfl ⟨rfl, rfl, rfl, rfl, rfl⟩ rfl rfl rfl rfl rfl (by as_aux_lemma => kernel_rfl) Tryz.func7 joined
    (of_decide_eq_true (by kernel_rfl)) (by unfold Func.isWrapper; first | (rw [if_pos (by decide +kernel)]; kernel_rfl) | (rw [if_neg (by decide +kernel)]; exact ⟨rfl, rfl⟩))
    (fun os started H enc _ F => lifted os started H enc F)

/-- THE STATEMENT. -/
theorem proved : Rows.PolicySchemesUptoCardSaid :=
  Claim7.holds_tied_plain_at .later [] [.data, .data, .widerDeep, .widerDeep, .data, .data, .data, .data, .data, .data, .sentinel, .sentinel, .pinned, .pinned, .pinned] true (true, "794cf9c63e193e357b2310650565b2ed9be5052e667bbc52b7b459b6647c08dc") true
    over (fun _ h => by cases h) k1 (fun _ h => by cases h) policySchemesUpto_row_tie rfl ⟨rfl, rfl⟩ k2 rfl
    (fun f fn hf hfn => by
      obtain rfl : f = 7 := Option.some.inj (k5.symm.trans hf) |>.symm
      obtain rfl : fn = Tryz.f7 := (Option.some.inj (Tryz.func7.symm.trans hfn)).symm
      exact ⟨k3, fun j t ht => by
        rw [Tryz.params7] at ht
        have hm : t ∈ [9, 9, 9] := by simpa using Array.mem_of_getElem? ht
        exact (show Tryz.prog.wantsStandIn t = false by simpa using List.all_eq_true.1 k6 t hm)⟩)
    k4
#print axioms proved
end Go.Proofs.YtcfgbdhpcboikaaGreatDoor.policySchemesUpto
