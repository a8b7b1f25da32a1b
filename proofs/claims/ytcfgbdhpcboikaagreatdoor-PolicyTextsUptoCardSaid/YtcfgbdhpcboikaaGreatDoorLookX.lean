/-
  utf8.look: what it answers at every byte.
-/
import Derived.Test.YtcfgbdhpcboikaaGreatDoorLookW
namespace Go.Proofs.YtcfgbdhpcboikaaGreatDoor
open Go.RowKit PU8

set_option maxRecDepth 100000 in
theorem look_low (g off cap i c : Nat) (L : List UInt8) (w : World) (hi : i < L.length) (_hL : L.length ≤ 140737488355328) (hc : w.cell? ⟨g, off + i, none⟩ = some (.int .u8 (c : Nat))) (hcc : c < 128) :
    Calls Tryz.prog 129 #[.slice (some ⟨g, off, none⟩) L.length cap, .int .i64 i] w fun e w' => e = .returned (.tuple #[.int .i64 1, .bool true]) ∧ w = w' := by
  have l128 : decide ((c : Int) < 128) = true := by simp; omega
  have HCC := Lib.hid hcc
  clear hcc
  go_enter Tryz.func129, Tryz.ntmps129
  go_wp2
  go_ret2
  exact ⟨rfl, rfl⟩
set_option maxRecDepth 100000 in
theorem look_none (g off cap i c : Nat) (L : List UInt8) (w : World) (hi : i < L.length) (_hL : L.length ≤ 140737488355328) (hc : w.cell? ⟨g, off + i, none⟩ = some (.int .u8 (c : Nat))) (hcc : 128 ≤ c ∧ c < 194) :
    Calls Tryz.prog 129 #[.slice (some ⟨g, off, none⟩) L.length cap, .int .i64 i] w fun e w' => e = .returned (.tuple #[.int .i64 0, .bool false]) ∧ w = w' := by
  have l128 : decide ((c : Int) < 128) = false := by simp; omega
  have l194 : decide ((c : Int) < 194) = true := by simp; omega
  have HCC := Lib.hid hcc
  clear hcc
  go_enter Tryz.func129, Tryz.ntmps129
  go_wp2
  go_ret2
  exact ⟨rfl, rfl⟩
set_option maxRecDepth 100000 in
theorem look_high (g off cap i c : Nat) (L : List UInt8) (w : World) (hi : i < L.length) (_hL : L.length ≤ 140737488355328) (hc : w.cell? ⟨g, off + i, none⟩ = some (.int .u8 (c : Nat))) (hcc : 244 < c) :
    Calls Tryz.prog 129 #[.slice (some ⟨g, off, none⟩) L.length cap, .int .i64 i] w fun e w' => e = .returned (.tuple #[.int .i64 0, .bool false]) ∧ w = w' := by
  have l128 : decide ((c : Int) < 128) = false := by simp; omega
  have l194 : decide ((c : Int) < 194) = false := by simp; omega
  have l224 : decide ((c : Int) < 224) = false := by simp; omega
  have l240 : decide ((c : Int) < 240) = false := by simp; omega
  have l244 : decide ((c : Int) < 244) = false := by simp; omega
  have q224 : ((c : Int) == 224) = false := by simp; omega
  have q237 : ((c : Int) == 237) = false := by simp; omega
  have q240 : ((c : Int) == 240) = false := by simp; omega
  have q244 : ((c : Int) == 244) = false := by simp; omega
  have HCC := Lib.hid hcc
  clear hcc
  go_enter Tryz.func129, Tryz.ntmps129
  go_wp2
  go_ret2
  exact ⟨rfl, rfl⟩
theorem lookRel_start (L : List UInt8) (i need lo hi m : Nat) (t : Bool) (h : i < L.length) (hl : contU need lo hi 1 (nats (L.drop (i + 1))) = (m, t)) : LookRel L i need m t 1 lo hi :=
  ⟨Nat.le_refl _, by omega, h, hl⟩
/-- utf8.look, of the bytes at a place. -/
theorem look_any (g off cap i m : Nat) (t : Bool) (L : List UInt8) (w : World) (hB : Hid (BytesAt w g off L)) (hi : i < L.length) (hL : L.length ≤ 140737488355328) (hr : Hid (lookU (nats (L.drop i)) = (m, t))) :
    Calls Tryz.prog 129 #[.slice (some ⟨g, off, none⟩) L.length cap, .int .i64 i] w fun e w' => e = .returned (.tuple #[.int .i64 m, .bool t]) ∧ w = w' := by
  have hc := hB.out i hi
  have h := hr.out
  rw [nats_drop _ _ hi, look_cons] at h
  have hc256 := L[i].toNat_lt
  generalize L[i].toNat = c at hc h hc256
  by_cases h1 : c < 128
  · rw [if_pos h1] at h
    cases h
    exact look_low g off cap i c L w hi hL hc h1
  rw [if_neg h1] at h
  by_cases h2 : c < 194
  · rw [if_pos h2] at h
    cases h
    exact look_none g off cap i c L w hi hL hc ⟨by omega, h2⟩
  rw [if_neg h2] at h
  by_cases h3 : c < 224
  · rw [if_pos h3] at h
    exact look_two g off cap i m c t L w hB hi hL hc ⟨by omega, h3⟩ (Lib.hid (lookRel_start L i _ _ _ m t hi h))
  rw [if_neg h3] at h
  by_cases h4 : c = 224
  · rw [if_pos h4] at h
    exact look_e0 g off cap i m c t L w hB hi hL hc h4 (Lib.hid (lookRel_start L i _ _ _ m t hi h))
  rw [if_neg h4] at h
  by_cases h5 : c = 237
  · rw [if_pos h5] at h
    exact look_ed g off cap i m c t L w hB hi hL hc h5 (Lib.hid (lookRel_start L i _ _ _ m t hi h))
  rw [if_neg h5] at h
  by_cases h6 : c < 240
  · rw [if_pos h6] at h
    exact look_three g off cap i m c t L w hB hi hL hc ⟨by omega, h6, h5⟩ (Lib.hid (lookRel_start L i _ _ _ m t hi h))
  rw [if_neg h6] at h
  by_cases h7 : c = 240
  · rw [if_pos h7] at h
    exact look_f0 g off cap i m c t L w hB hi hL hc h7 (Lib.hid (lookRel_start L i _ _ _ m t hi h))
  rw [if_neg h7] at h
  by_cases h8 : c < 244
  · rw [if_pos h8] at h
    exact look_four g off cap i m c t L w hB hi hL hc ⟨by omega, h8⟩ (Lib.hid (lookRel_start L i _ _ _ m t hi h))
  rw [if_neg h8] at h
  by_cases h9 : c = 244
  · rw [if_pos h9] at h
    exact look_f4 g off cap i m c t L w hB hi hL hc h9 (Lib.hid (lookRel_start L i _ _ _ m t hi h))
  rw [if_neg h9] at h
  cases h
  exact look_high g off cap i c L w hi hL hc (by omega)
end Go.Proofs.YtcfgbdhpcboikaaGreatDoor
