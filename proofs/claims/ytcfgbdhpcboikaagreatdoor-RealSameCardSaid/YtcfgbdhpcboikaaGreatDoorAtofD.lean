/-
  atof64 at every numeral.
-/
import Derived.Test.YtcfgbdhpcboikaaGreatDoorAtofA
import Derived.Test.YtcfgbdhpcboikaaGreatDoorDecV
namespace Go.Proofs.YtcfgbdhpcboikaaGreatDoor
open Go.RowKit

theorem atof_all (s : ByteArray) (hn : numB s.data.toList = true) : ARes s := by
  obtain ⟨neg, p0, q, ev, hs, hsg, N, hE, SP⟩ := numB_reads s hn
  have hlt := N.lt
  have hle := N.le
  have hch := part_all s p0 q N q (Nat.le_of_lt hlt) (Nat.le_refl _)
  have hpl := part_len s p0 q (Nat.le_of_lt hlt) hle
  have RD : RdAt s (rfold (part s p0 q)).mant ((rfold (part s p0 q)).expo ev) neg (rfold (part s p0 q)).trunc := fun w => read_any s neg p0 q w hs hsg N ev hE
  have rb := rb_at s p0 q N q (Nat.le_of_lt hlt) (Nat.le_refl _)
  have so := sok_fold neg (part s p0 q) (by omega) hch
  have few := rfold_few (part s p0 q) hch
  have SF : ∀ w B, DecAt w B decN → Calls Tryz.prog 240 #[.pointer (some ⟨B, 0, none⟩), .string s] w fun e w' => e = .returned (.bool true) ∧ DecAt w' B (setF neg (part s p0 q) ev) ∧ Kept (· = B) w w' :=
    fun w B h => set_any B s neg p0 q w h hs hsg N ev hE
  have hm := rb.mant
  have h19 := pow19 (rfold (part s p0 q)).ndM (by have := rb.ndM; omega)
  refine atof_any s _ _ neg _ hs SP RD (by omega) (setF neg (part s p0 q) ev) ⟨so.len, ?_, so.dig, so.head⟩ so.neg ?_ SF
  · have := so.le
    show (sfold neg (part s p0 q)).nd ≤ 800
    omega
  · intro hm0 ht
    have h20 : 20 ≤ (rfold (part s p0 q)).nd := by
      refine Nat.le_of_not_lt fun h => ?_
      rw [few (by omega)] at ht
      cases ht
    refine ⟨?_, ?_⟩
    · show 1 ≤ (sfold neg (part s p0 q)).nd
      have := so.nd
      omega
    · unfold RS.expo
      rw [if_neg hm0]
      have := rb.ndM
      show (rfold (part s p0 q)).place + ev - _ + 19 = (rfold (part s p0 q)).place + ev
      omega
end Go.Proofs.YtcfgbdhpcboikaaGreatDoor
