/-
  utf8.look: what it answers of the bytes at a place (printed by wip/gen/lookw.py).
-/
import Derived.Test.YtcfgbdhpcboikaaGreatDoorTextLaw
import Derived.Test.YtcfgbdhpcboikaaGreatDoorKindW
import Derived.LoopTactic
namespace Go.Proofs.YtcfgbdhpcboikaaGreatDoor
open Go.RowKit PU8

def BytesAt (w : World) (g off : Nat) (L : List UInt8) : Prop := ∀ j (h : j < L.length), w.cell? ⟨g, off + j, none⟩ = some (.int .u8 (L[j].toNat : Nat))
theorem natsU_drop (L : List UInt8) (k : Nat) (h : k < L.length) : natsU (L.drop k) = L[k].toNat :: natsU (L.drop (k + 1)) := by
  rw [List.drop_eq_getElem_cons h]; rfl
theorem natsU_end (L : List UInt8) (k : Nat) (h : L.length ≤ k) : natsU (L.drop k) = [] := by
  rw [List.drop_eq_nil_of_le h]; rfl
def LookRel (L : List UInt8) (i need m : Nat) (t : Bool) (n lo hi : Nat) : Prop :=
  1 ≤ n ∧ n ≤ need + 1 ∧ i + n ≤ L.length ∧ contU (need + 1 - n) lo hi n (natsU (L.drop (i + n))) = (m, t)
theorem LookRel.stop {L : List UInt8} {i need m : Nat} {t : Bool} {n lo hi : Nat} (h : LookRel L i need m t n lo hi) (hn : n = need + 1) : m = n ∧ t = true := by
  obtain ⟨_, _, _, h⟩ := h
  rw [hn, Nat.sub_self] at h
  unfold contU at h
  cases h
  exact ⟨hn.symm, rfl⟩
theorem LookRel.short {L : List UInt8} {i need m : Nat} {t : Bool} {n lo hi : Nat} (h : LookRel L i need m t n lo hi) (hn : n ≤ need) (he : i + n = L.length) : m = n ∧ t = false := by
  obtain ⟨_, _, _, h⟩ := h
  obtain ⟨k, hk⟩ : ∃ k, need + 1 - n = k + 1 := ⟨need - n, by omega⟩
  rw [hk, natsU_end _ _ (by omega)] at h
  unfold contU at h
  cases h
  exact ⟨rfl, rfl⟩
theorem LookRel.bad {L : List UInt8} {i need m : Nat} {t : Bool} {n lo hi : Nat} (h : LookRel L i need m t n lo hi) (hn : n ≤ need) (he : i + n < L.length) (hb : L[i + n].toNat < lo ∨ hi < L[i + n].toNat) : m = n ∧ t = false := by
  obtain ⟨_, _, _, h⟩ := h
  obtain ⟨k, hk⟩ : ∃ k, need + 1 - n = k + 1 := ⟨need - n, by omega⟩
  rw [hk, natsU_drop _ _ he] at h
  unfold contU at h
  rw [if_pos hb] at h
  cases h
  exact ⟨rfl, rfl⟩
theorem LookRel.next {L : List UInt8} {i need m : Nat} {t : Bool} {n lo hi : Nat} (h : LookRel L i need m t n lo hi) (hn : n ≤ need) (he : i + n < L.length) (hb : ¬ (L[i + n].toNat < lo ∨ hi < L[i + n].toNat)) : LookRel L i need m t (n + 1) 128 191 := by
  obtain ⟨h1, _, _, h⟩ := h
  obtain ⟨k, hk⟩ : ∃ k, need + 1 - n = k + 1 := ⟨need - n, by omega⟩
  rw [hk, natsU_drop _ _ he] at h
  unfold contU at h
  rw [if_neg hb] at h
  refine ⟨by omega, by omega, by omega, ?_⟩
  rw [show need + 1 - (n + 1) = k by omega]
  exact h
set_option maxRecDepth 100000 in
set_option maxHeartbeats 1000000 in
theorem look_two (g off cap i m c : Nat) (t : Bool) (L : List UInt8) (w : World) (hB : Hid (BytesAt w g off L)) (hi : i < L.length) (hL : L.length ≤ 140737488355328) (hc : w.cell? ⟨g, off + i, none⟩ = some (.int .u8 (c : Nat))) (hcc : 194 ≤ c ∧ c < 224)
    (hR : Hid (LookRel L i 1 m t 1 128 191)) : Calls Tryz.prog 129 #[.slice (some ⟨g, off, none⟩) L.length cap, .int .i64 i] w fun e w' => e = .returned (.tuple #[.int .i64 m, .bool t]) ∧ w = w' := by
  have l128 : decide ((c : Int) < 128) = false := by simp; omega
  have l194 : decide ((c : Int) < 194) = false := by simp; omega
  have l224 : decide ((c : Int) < 224) = true := by simp; omega

  have HCC := Lib.hid hcc
  clear hcc
  go_enter Tryz.func129, Tryz.ntmps129
  go_wp2
  clear hc l128 l194 l224 
  go_loop [4, 5, 8, 9, 10] (fun r4 r5 l h n => r4 = .int .i64 0 ∧ r5 = .bool false ∧ ∃ n' lo hi : Nat, n = .int .i64 n' ∧ l = .int .u8 lo ∧ h = .int .u8 hi ∧ Hid (LookRel L i 1 m t n' lo hi)) (fun _ _ _ _ n => 1 + 1 - (intOf n).toNat)
  case atStart => exact ⟨rfl, rfl, 1, 128, 191, rfl, rfl, rfl, hR⟩
  case round =>
    obtain ⟨rfl, rfl, n, lo, hi', rfl, rfl, rfl, hQ⟩ := hrel
    have n1 : 1 ≤ n := hQ.out.1
    have n2 : n ≤ 1 + 1 := hQ.out.2.1
    have n3 : i + n ≤ L.length := hQ.out.2.2.1
    rcases Nat.lt_or_ge 1 n with hn | hn
    · have hE := hQ.out.stop (by omega)
      have HE := Lib.hid hE
      clear hE
      go_wp2
      go_ret2
      refine ⟨?_, rfl⟩
      rw [HE.out.1, HE.out.2]
      rfl
    · rcases Nat.lt_or_ge (i + n) L.length with hlt | hge
      · have hcell := hB.out (i + n) hlt
        by_cases hbad : L[i + n].toNat < lo ∨ hi' < L[i + n].toNat
        · have HE := Lib.hid (hQ.out.bad hn hlt hbad)
          have HQ2 := Lib.hid hbad
          generalize L[i + n].toNat = d at hcell hbad
          have hne : ((i : Int) + (n : Int) == (L.length : Int)) = false := by rw [beq_eq_false_iff_ne]; omega
          rcases Nat.lt_or_ge d lo with hd | hd
          · clear hbad HQ2
            go_wp2
            go_ret2
            refine ⟨?_, rfl⟩
            rw [HE.out.1, HE.out.2]
            rfl
          · have hd2 : hi' < d := by omega
            clear hbad HQ2
            go_wp2
            go_ret2
            refine ⟨?_, rfl⟩
            rw [HE.out.1, HE.out.2]
            rfl
        · have HE := Lib.hid (hQ.out.next hn hlt hbad)
          generalize L[i + n].toNat = d at hcell hbad
          have hne : ((i : Int) + (n : Int) == (L.length : Int)) = false := by rw [beq_eq_false_iff_ne]; omega
          have hd1 : lo ≤ d := by omega
          have hd2 : d ≤ hi' := by omega
          clear hbad
          go_wp2
          go_round
          case rel => exact ⟨rfl, rfl, n + 1, 128, 191, by go_num, rfl, rfl, HE⟩
          case measure => simp [intOf]; omega
      · have he : i + n = L.length := by omega
        have HE := Lib.hid (hQ.out.short hn he)
        have heq : ((i : Int) + (n : Int) == (L.length : Int)) = true := by rw [beq_iff_eq]; omega
        clear he
        go_wp2
        go_ret2
        refine ⟨?_, rfl⟩
        rw [HE.out.1, HE.out.2]
        rfl

set_option maxRecDepth 100000 in
set_option maxHeartbeats 1000000 in
theorem look_e0 (g off cap i m c : Nat) (t : Bool) (L : List UInt8) (w : World) (hB : Hid (BytesAt w g off L)) (hi : i < L.length) (hL : L.length ≤ 140737488355328) (hc : w.cell? ⟨g, off + i, none⟩ = some (.int .u8 (c : Nat))) (hcc : c = 224)
    (hR : Hid (LookRel L i 2 m t 1 160 191)) : Calls Tryz.prog 129 #[.slice (some ⟨g, off, none⟩) L.length cap, .int .i64 i] w fun e w' => e = .returned (.tuple #[.int .i64 m, .bool t]) ∧ w = w' := by
  have l128 : decide ((c : Int) < 128) = false := by simp; omega
  have l194 : decide ((c : Int) < 194) = false := by simp; omega
  have l224 : decide ((c : Int) < 224) = false := by simp; omega
  have q224 : ((c : Int) == 224) = true := by simp; omega
  have HCC := Lib.hid hcc
  clear hcc
  go_enter Tryz.func129, Tryz.ntmps129
  go_wp2
  clear hc l128 l194 l224 q224
  go_loop [4, 5, 8, 9, 10] (fun r4 r5 l h n => r4 = .int .i64 0 ∧ r5 = .bool false ∧ ∃ n' lo hi : Nat, n = .int .i64 n' ∧ l = .int .u8 lo ∧ h = .int .u8 hi ∧ Hid (LookRel L i 2 m t n' lo hi)) (fun _ _ _ _ n => 2 + 1 - (intOf n).toNat)
  case atStart => exact ⟨rfl, rfl, 1, 160, 191, rfl, rfl, rfl, hR⟩
  case round =>
    obtain ⟨rfl, rfl, n, lo, hi', rfl, rfl, rfl, hQ⟩ := hrel
    have n1 : 1 ≤ n := hQ.out.1
    have n2 : n ≤ 2 + 1 := hQ.out.2.1
    have n3 : i + n ≤ L.length := hQ.out.2.2.1
    rcases Nat.lt_or_ge 2 n with hn | hn
    · have hE := hQ.out.stop (by omega)
      have HE := Lib.hid hE
      clear hE
      go_wp2
      go_ret2
      refine ⟨?_, rfl⟩
      rw [HE.out.1, HE.out.2]
      rfl
    · rcases Nat.lt_or_ge (i + n) L.length with hlt | hge
      · have hcell := hB.out (i + n) hlt
        by_cases hbad : L[i + n].toNat < lo ∨ hi' < L[i + n].toNat
        · have HE := Lib.hid (hQ.out.bad hn hlt hbad)
          have HQ2 := Lib.hid hbad
          generalize L[i + n].toNat = d at hcell hbad
          have hne : ((i : Int) + (n : Int) == (L.length : Int)) = false := by rw [beq_eq_false_iff_ne]; omega
          rcases Nat.lt_or_ge d lo with hd | hd
          · clear hbad HQ2
            go_wp2
            go_ret2
            refine ⟨?_, rfl⟩
            rw [HE.out.1, HE.out.2]
            rfl
          · have hd2 : hi' < d := by omega
            clear hbad HQ2
            go_wp2
            go_ret2
            refine ⟨?_, rfl⟩
            rw [HE.out.1, HE.out.2]
            rfl
        · have HE := Lib.hid (hQ.out.next hn hlt hbad)
          generalize L[i + n].toNat = d at hcell hbad
          have hne : ((i : Int) + (n : Int) == (L.length : Int)) = false := by rw [beq_eq_false_iff_ne]; omega
          have hd1 : lo ≤ d := by omega
          have hd2 : d ≤ hi' := by omega
          clear hbad
          go_wp2
          go_round
          case rel => exact ⟨rfl, rfl, n + 1, 128, 191, by go_num, rfl, rfl, HE⟩
          case measure => simp [intOf]; omega
      · have he : i + n = L.length := by omega
        have HE := Lib.hid (hQ.out.short hn he)
        have heq : ((i : Int) + (n : Int) == (L.length : Int)) = true := by rw [beq_iff_eq]; omega
        clear he
        go_wp2
        go_ret2
        refine ⟨?_, rfl⟩
        rw [HE.out.1, HE.out.2]
        rfl

set_option maxRecDepth 100000 in
set_option maxHeartbeats 1000000 in
theorem look_ed (g off cap i m c : Nat) (t : Bool) (L : List UInt8) (w : World) (hB : Hid (BytesAt w g off L)) (hi : i < L.length) (hL : L.length ≤ 140737488355328) (hc : w.cell? ⟨g, off + i, none⟩ = some (.int .u8 (c : Nat))) (hcc : c = 237)
    (hR : Hid (LookRel L i 2 m t 1 128 159)) : Calls Tryz.prog 129 #[.slice (some ⟨g, off, none⟩) L.length cap, .int .i64 i] w fun e w' => e = .returned (.tuple #[.int .i64 m, .bool t]) ∧ w = w' := by
  have l128 : decide ((c : Int) < 128) = false := by simp; omega
  have l194 : decide ((c : Int) < 194) = false := by simp; omega
  have l224 : decide ((c : Int) < 224) = false := by simp; omega
  have q224 : ((c : Int) == 224) = false := by simp; omega
  have q237 : ((c : Int) == 237) = true := by simp; omega
  have HCC := Lib.hid hcc
  clear hcc
  go_enter Tryz.func129, Tryz.ntmps129
  go_wp2
  clear hc l128 l194 l224 q224 q237
  go_loop [4, 5, 8, 9, 10] (fun r4 r5 l h n => r4 = .int .i64 0 ∧ r5 = .bool false ∧ ∃ n' lo hi : Nat, n = .int .i64 n' ∧ l = .int .u8 lo ∧ h = .int .u8 hi ∧ Hid (LookRel L i 2 m t n' lo hi)) (fun _ _ _ _ n => 2 + 1 - (intOf n).toNat)
  case atStart => exact ⟨rfl, rfl, 1, 128, 159, rfl, rfl, rfl, hR⟩
  case round =>
    obtain ⟨rfl, rfl, n, lo, hi', rfl, rfl, rfl, hQ⟩ := hrel
    have n1 : 1 ≤ n := hQ.out.1
    have n2 : n ≤ 2 + 1 := hQ.out.2.1
    have n3 : i + n ≤ L.length := hQ.out.2.2.1
    rcases Nat.lt_or_ge 2 n with hn | hn
    · have hE := hQ.out.stop (by omega)
      have HE := Lib.hid hE
      clear hE
      go_wp2
      go_ret2
      refine ⟨?_, rfl⟩
      rw [HE.out.1, HE.out.2]
      rfl
    · rcases Nat.lt_or_ge (i + n) L.length with hlt | hge
      · have hcell := hB.out (i + n) hlt
        by_cases hbad : L[i + n].toNat < lo ∨ hi' < L[i + n].toNat
        · have HE := Lib.hid (hQ.out.bad hn hlt hbad)
          have HQ2 := Lib.hid hbad
          generalize L[i + n].toNat = d at hcell hbad
          have hne : ((i : Int) + (n : Int) == (L.length : Int)) = false := by rw [beq_eq_false_iff_ne]; omega
          rcases Nat.lt_or_ge d lo with hd | hd
          · clear hbad HQ2
            go_wp2
            go_ret2
            refine ⟨?_, rfl⟩
            rw [HE.out.1, HE.out.2]
            rfl
          · have hd2 : hi' < d := by omega
            clear hbad HQ2
            go_wp2
            go_ret2
            refine ⟨?_, rfl⟩
            rw [HE.out.1, HE.out.2]
            rfl
        · have HE := Lib.hid (hQ.out.next hn hlt hbad)
          generalize L[i + n].toNat = d at hcell hbad
          have hne : ((i : Int) + (n : Int) == (L.length : Int)) = false := by rw [beq_eq_false_iff_ne]; omega
          have hd1 : lo ≤ d := by omega
          have hd2 : d ≤ hi' := by omega
          clear hbad
          go_wp2
          go_round
          case rel => exact ⟨rfl, rfl, n + 1, 128, 191, by go_num, rfl, rfl, HE⟩
          case measure => simp [intOf]; omega
      · have he : i + n = L.length := by omega
        have HE := Lib.hid (hQ.out.short hn he)
        have heq : ((i : Int) + (n : Int) == (L.length : Int)) = true := by rw [beq_iff_eq]; omega
        clear he
        go_wp2
        go_ret2
        refine ⟨?_, rfl⟩
        rw [HE.out.1, HE.out.2]
        rfl

set_option maxRecDepth 100000 in
set_option maxHeartbeats 1000000 in
theorem look_three (g off cap i m c : Nat) (t : Bool) (L : List UInt8) (w : World) (hB : Hid (BytesAt w g off L)) (hi : i < L.length) (hL : L.length ≤ 140737488355328) (hc : w.cell? ⟨g, off + i, none⟩ = some (.int .u8 (c : Nat))) (hcc : 225 ≤ c ∧ c < 240 ∧ c ≠ 237)
    (hR : Hid (LookRel L i 2 m t 1 128 191)) : Calls Tryz.prog 129 #[.slice (some ⟨g, off, none⟩) L.length cap, .int .i64 i] w fun e w' => e = .returned (.tuple #[.int .i64 m, .bool t]) ∧ w = w' := by
  have l128 : decide ((c : Int) < 128) = false := by simp; omega
  have l194 : decide ((c : Int) < 194) = false := by simp; omega
  have l224 : decide ((c : Int) < 224) = false := by simp; omega
  have l240 : decide ((c : Int) < 240) = true := by simp; omega
  have q224 : ((c : Int) == 224) = false := by simp; omega
  have q237 : ((c : Int) == 237) = false := by simp; omega
  have HCC := Lib.hid hcc
  clear hcc
  go_enter Tryz.func129, Tryz.ntmps129
  go_wp2
  clear hc l128 l194 l224 l240 q224 q237
  go_loop [4, 5, 8, 9, 10] (fun r4 r5 l h n => r4 = .int .i64 0 ∧ r5 = .bool false ∧ ∃ n' lo hi : Nat, n = .int .i64 n' ∧ l = .int .u8 lo ∧ h = .int .u8 hi ∧ Hid (LookRel L i 2 m t n' lo hi)) (fun _ _ _ _ n => 2 + 1 - (intOf n).toNat)
  case atStart => exact ⟨rfl, rfl, 1, 128, 191, rfl, rfl, rfl, hR⟩
  case round =>
    obtain ⟨rfl, rfl, n, lo, hi', rfl, rfl, rfl, hQ⟩ := hrel
    have n1 : 1 ≤ n := hQ.out.1
    have n2 : n ≤ 2 + 1 := hQ.out.2.1
    have n3 : i + n ≤ L.length := hQ.out.2.2.1
    rcases Nat.lt_or_ge 2 n with hn | hn
    · have hE := hQ.out.stop (by omega)
      have HE := Lib.hid hE
      clear hE
      go_wp2
      go_ret2
      refine ⟨?_, rfl⟩
      rw [HE.out.1, HE.out.2]
      rfl
    · rcases Nat.lt_or_ge (i + n) L.length with hlt | hge
      · have hcell := hB.out (i + n) hlt
        by_cases hbad : L[i + n].toNat < lo ∨ hi' < L[i + n].toNat
        · have HE := Lib.hid (hQ.out.bad hn hlt hbad)
          have HQ2 := Lib.hid hbad
          generalize L[i + n].toNat = d at hcell hbad
          have hne : ((i : Int) + (n : Int) == (L.length : Int)) = false := by rw [beq_eq_false_iff_ne]; omega
          rcases Nat.lt_or_ge d lo with hd | hd
          · clear hbad HQ2
            go_wp2
            go_ret2
            refine ⟨?_, rfl⟩
            rw [HE.out.1, HE.out.2]
            rfl
          · have hd2 : hi' < d := by omega
            clear hbad HQ2
            go_wp2
            go_ret2
            refine ⟨?_, rfl⟩
            rw [HE.out.1, HE.out.2]
            rfl
        · have HE := Lib.hid (hQ.out.next hn hlt hbad)
          generalize L[i + n].toNat = d at hcell hbad
          have hne : ((i : Int) + (n : Int) == (L.length : Int)) = false := by rw [beq_eq_false_iff_ne]; omega
          have hd1 : lo ≤ d := by omega
          have hd2 : d ≤ hi' := by omega
          clear hbad
          go_wp2
          go_round
          case rel => exact ⟨rfl, rfl, n + 1, 128, 191, by go_num, rfl, rfl, HE⟩
          case measure => simp [intOf]; omega
      · have he : i + n = L.length := by omega
        have HE := Lib.hid (hQ.out.short hn he)
        have heq : ((i : Int) + (n : Int) == (L.length : Int)) = true := by rw [beq_iff_eq]; omega
        clear he
        go_wp2
        go_ret2
        refine ⟨?_, rfl⟩
        rw [HE.out.1, HE.out.2]
        rfl

set_option maxRecDepth 100000 in
set_option maxHeartbeats 1000000 in
theorem look_f0 (g off cap i m c : Nat) (t : Bool) (L : List UInt8) (w : World) (hB : Hid (BytesAt w g off L)) (hi : i < L.length) (hL : L.length ≤ 140737488355328) (hc : w.cell? ⟨g, off + i, none⟩ = some (.int .u8 (c : Nat))) (hcc : c = 240)
    (hR : Hid (LookRel L i 3 m t 1 144 191)) : Calls Tryz.prog 129 #[.slice (some ⟨g, off, none⟩) L.length cap, .int .i64 i] w fun e w' => e = .returned (.tuple #[.int .i64 m, .bool t]) ∧ w = w' := by
  have l128 : decide ((c : Int) < 128) = false := by simp; omega
  have l194 : decide ((c : Int) < 194) = false := by simp; omega
  have l224 : decide ((c : Int) < 224) = false := by simp; omega
  have l240 : decide ((c : Int) < 240) = false := by simp; omega
  have q224 : ((c : Int) == 224) = false := by simp; omega
  have q237 : ((c : Int) == 237) = false := by simp; omega
  have q240 : ((c : Int) == 240) = true := by simp; omega
  have HCC := Lib.hid hcc
  clear hcc
  go_enter Tryz.func129, Tryz.ntmps129
  go_wp2
  clear hc l128 l194 l224 l240 q224 q237 q240
  go_loop [4, 5, 8, 9, 10] (fun r4 r5 l h n => r4 = .int .i64 0 ∧ r5 = .bool false ∧ ∃ n' lo hi : Nat, n = .int .i64 n' ∧ l = .int .u8 lo ∧ h = .int .u8 hi ∧ Hid (LookRel L i 3 m t n' lo hi)) (fun _ _ _ _ n => 3 + 1 - (intOf n).toNat)
  case atStart => exact ⟨rfl, rfl, 1, 144, 191, rfl, rfl, rfl, hR⟩
  case round =>
    obtain ⟨rfl, rfl, n, lo, hi', rfl, rfl, rfl, hQ⟩ := hrel
    have n1 : 1 ≤ n := hQ.out.1
    have n2 : n ≤ 3 + 1 := hQ.out.2.1
    have n3 : i + n ≤ L.length := hQ.out.2.2.1
    rcases Nat.lt_or_ge 3 n with hn | hn
    · have hE := hQ.out.stop (by omega)
      have HE := Lib.hid hE
      clear hE
      go_wp2
      go_ret2
      refine ⟨?_, rfl⟩
      rw [HE.out.1, HE.out.2]
      rfl
    · rcases Nat.lt_or_ge (i + n) L.length with hlt | hge
      · have hcell := hB.out (i + n) hlt
        by_cases hbad : L[i + n].toNat < lo ∨ hi' < L[i + n].toNat
        · have HE := Lib.hid (hQ.out.bad hn hlt hbad)
          have HQ2 := Lib.hid hbad
          generalize L[i + n].toNat = d at hcell hbad
          have hne : ((i : Int) + (n : Int) == (L.length : Int)) = false := by rw [beq_eq_false_iff_ne]; omega
          rcases Nat.lt_or_ge d lo with hd | hd
          · clear hbad HQ2
            go_wp2
            go_ret2
            refine ⟨?_, rfl⟩
            rw [HE.out.1, HE.out.2]
            rfl
          · have hd2 : hi' < d := by omega
            clear hbad HQ2
            go_wp2
            go_ret2
            refine ⟨?_, rfl⟩
            rw [HE.out.1, HE.out.2]
            rfl
        · have HE := Lib.hid (hQ.out.next hn hlt hbad)
          generalize L[i + n].toNat = d at hcell hbad
          have hne : ((i : Int) + (n : Int) == (L.length : Int)) = false := by rw [beq_eq_false_iff_ne]; omega
          have hd1 : lo ≤ d := by omega
          have hd2 : d ≤ hi' := by omega
          clear hbad
          go_wp2
          go_round
          case rel => exact ⟨rfl, rfl, n + 1, 128, 191, by go_num, rfl, rfl, HE⟩
          case measure => simp [intOf]; omega
      · have he : i + n = L.length := by omega
        have HE := Lib.hid (hQ.out.short hn he)
        have heq : ((i : Int) + (n : Int) == (L.length : Int)) = true := by rw [beq_iff_eq]; omega
        clear he
        go_wp2
        go_ret2
        refine ⟨?_, rfl⟩
        rw [HE.out.1, HE.out.2]
        rfl

set_option maxRecDepth 100000 in
set_option maxHeartbeats 1000000 in
theorem look_four (g off cap i m c : Nat) (t : Bool) (L : List UInt8) (w : World) (hB : Hid (BytesAt w g off L)) (hi : i < L.length) (hL : L.length ≤ 140737488355328) (hc : w.cell? ⟨g, off + i, none⟩ = some (.int .u8 (c : Nat))) (hcc : 241 ≤ c ∧ c < 244)
    (hR : Hid (LookRel L i 3 m t 1 128 191)) : Calls Tryz.prog 129 #[.slice (some ⟨g, off, none⟩) L.length cap, .int .i64 i] w fun e w' => e = .returned (.tuple #[.int .i64 m, .bool t]) ∧ w = w' := by
  have l128 : decide ((c : Int) < 128) = false := by simp; omega
  have l194 : decide ((c : Int) < 194) = false := by simp; omega
  have l224 : decide ((c : Int) < 224) = false := by simp; omega
  have l240 : decide ((c : Int) < 240) = false := by simp; omega
  have l244 : decide ((c : Int) < 244) = true := by simp; omega
  have q224 : ((c : Int) == 224) = false := by simp; omega
  have q237 : ((c : Int) == 237) = false := by simp; omega
  have q240 : ((c : Int) == 240) = false := by simp; omega
  have HCC := Lib.hid hcc
  clear hcc
  go_enter Tryz.func129, Tryz.ntmps129
  go_wp2
  clear hc l128 l194 l224 l240 l244 q224 q237 q240
  go_loop [4, 5, 8, 9, 10] (fun r4 r5 l h n => r4 = .int .i64 0 ∧ r5 = .bool false ∧ ∃ n' lo hi : Nat, n = .int .i64 n' ∧ l = .int .u8 lo ∧ h = .int .u8 hi ∧ Hid (LookRel L i 3 m t n' lo hi)) (fun _ _ _ _ n => 3 + 1 - (intOf n).toNat)
  case atStart => exact ⟨rfl, rfl, 1, 128, 191, rfl, rfl, rfl, hR⟩
  case round =>
    obtain ⟨rfl, rfl, n, lo, hi', rfl, rfl, rfl, hQ⟩ := hrel
    have n1 : 1 ≤ n := hQ.out.1
    have n2 : n ≤ 3 + 1 := hQ.out.2.1
    have n3 : i + n ≤ L.length := hQ.out.2.2.1
    rcases Nat.lt_or_ge 3 n with hn | hn
    · have hE := hQ.out.stop (by omega)
      have HE := Lib.hid hE
      clear hE
      go_wp2
      go_ret2
      refine ⟨?_, rfl⟩
      rw [HE.out.1, HE.out.2]
      rfl
    · rcases Nat.lt_or_ge (i + n) L.length with hlt | hge
      · have hcell := hB.out (i + n) hlt
        by_cases hbad : L[i + n].toNat < lo ∨ hi' < L[i + n].toNat
        · have HE := Lib.hid (hQ.out.bad hn hlt hbad)
          have HQ2 := Lib.hid hbad
          generalize L[i + n].toNat = d at hcell hbad
          have hne : ((i : Int) + (n : Int) == (L.length : Int)) = false := by rw [beq_eq_false_iff_ne]; omega
          rcases Nat.lt_or_ge d lo with hd | hd
          · clear hbad HQ2
            go_wp2
            go_ret2
            refine ⟨?_, rfl⟩
            rw [HE.out.1, HE.out.2]
            rfl
          · have hd2 : hi' < d := by omega
            clear hbad HQ2
            go_wp2
            go_ret2
            refine ⟨?_, rfl⟩
            rw [HE.out.1, HE.out.2]
            rfl
        · have HE := Lib.hid (hQ.out.next hn hlt hbad)
          generalize L[i + n].toNat = d at hcell hbad
          have hne : ((i : Int) + (n : Int) == (L.length : Int)) = false := by rw [beq_eq_false_iff_ne]; omega
          have hd1 : lo ≤ d := by omega
          have hd2 : d ≤ hi' := by omega
          clear hbad
          go_wp2
          go_round
          case rel => exact ⟨rfl, rfl, n + 1, 128, 191, by go_num, rfl, rfl, HE⟩
          case measure => simp [intOf]; omega
      · have he : i + n = L.length := by omega
        have HE := Lib.hid (hQ.out.short hn he)
        have heq : ((i : Int) + (n : Int) == (L.length : Int)) = true := by rw [beq_iff_eq]; omega
        clear he
        go_wp2
        go_ret2
        refine ⟨?_, rfl⟩
        rw [HE.out.1, HE.out.2]
        rfl

set_option maxRecDepth 100000 in
set_option maxHeartbeats 1000000 in
theorem look_f4 (g off cap i m c : Nat) (t : Bool) (L : List UInt8) (w : World) (hB : Hid (BytesAt w g off L)) (hi : i < L.length) (hL : L.length ≤ 140737488355328) (hc : w.cell? ⟨g, off + i, none⟩ = some (.int .u8 (c : Nat))) (hcc : c = 244)
    (hR : Hid (LookRel L i 3 m t 1 128 143)) : Calls Tryz.prog 129 #[.slice (some ⟨g, off, none⟩) L.length cap, .int .i64 i] w fun e w' => e = .returned (.tuple #[.int .i64 m, .bool t]) ∧ w = w' := by
  have l128 : decide ((c : Int) < 128) = false := by simp; omega
  have l194 : decide ((c : Int) < 194) = false := by simp; omega
  have l224 : decide ((c : Int) < 224) = false := by simp; omega
  have l240 : decide ((c : Int) < 240) = false := by simp; omega
  have l244 : decide ((c : Int) < 244) = false := by simp; omega
  have q224 : ((c : Int) == 224) = false := by simp; omega
  have q237 : ((c : Int) == 237) = false := by simp; omega
  have q240 : ((c : Int) == 240) = false := by simp; omega
  have q244 : ((c : Int) == 244) = true := by simp; omega
  have HCC := Lib.hid hcc
  clear hcc
  go_enter Tryz.func129, Tryz.ntmps129
  go_wp2
  clear hc l128 l194 l224 l240 l244 q224 q237 q240 q244
  go_loop [4, 5, 8, 9, 10] (fun r4 r5 l h n => r4 = .int .i64 0 ∧ r5 = .bool false ∧ ∃ n' lo hi : Nat, n = .int .i64 n' ∧ l = .int .u8 lo ∧ h = .int .u8 hi ∧ Hid (LookRel L i 3 m t n' lo hi)) (fun _ _ _ _ n => 3 + 1 - (intOf n).toNat)
  case atStart => exact ⟨rfl, rfl, 1, 128, 143, rfl, rfl, rfl, hR⟩
  case round =>
    obtain ⟨rfl, rfl, n, lo, hi', rfl, rfl, rfl, hQ⟩ := hrel
    have n1 : 1 ≤ n := hQ.out.1
    have n2 : n ≤ 3 + 1 := hQ.out.2.1
    have n3 : i + n ≤ L.length := hQ.out.2.2.1
    rcases Nat.lt_or_ge 3 n with hn | hn
    · have hE := hQ.out.stop (by omega)
      have HE := Lib.hid hE
      clear hE
      go_wp2
      go_ret2
      refine ⟨?_, rfl⟩
      rw [HE.out.1, HE.out.2]
      rfl
    · rcases Nat.lt_or_ge (i + n) L.length with hlt | hge
      · have hcell := hB.out (i + n) hlt
        by_cases hbad : L[i + n].toNat < lo ∨ hi' < L[i + n].toNat
        · have HE := Lib.hid (hQ.out.bad hn hlt hbad)
          have HQ2 := Lib.hid hbad
          generalize L[i + n].toNat = d at hcell hbad
          have hne : ((i : Int) + (n : Int) == (L.length : Int)) = false := by rw [beq_eq_false_iff_ne]; omega
          rcases Nat.lt_or_ge d lo with hd | hd
          · clear hbad HQ2
            go_wp2
            go_ret2
            refine ⟨?_, rfl⟩
            rw [HE.out.1, HE.out.2]
            rfl
          · have hd2 : hi' < d := by omega
            clear hbad HQ2
            go_wp2
            go_ret2
            refine ⟨?_, rfl⟩
            rw [HE.out.1, HE.out.2]
            rfl
        · have HE := Lib.hid (hQ.out.next hn hlt hbad)
          generalize L[i + n].toNat = d at hcell hbad
          have hne : ((i : Int) + (n : Int) == (L.length : Int)) = false := by rw [beq_eq_false_iff_ne]; omega
          have hd1 : lo ≤ d := by omega
          have hd2 : d ≤ hi' := by omega
          clear hbad
          go_wp2
          go_round
          case rel => exact ⟨rfl, rfl, n + 1, 128, 191, by go_num, rfl, rfl, HE⟩
          case measure => simp [intOf]; omega
      · have he : i + n = L.length := by omega
        have HE := Lib.hid (hQ.out.short hn he)
        have heq : ((i : Int) + (n : Int) == (L.length : Int)) = true := by rw [beq_iff_eq]; omega
        clear he
        go_wp2
        go_ret2
        refine ⟨?_, rfl⟩
        rw [HE.out.1, HE.out.2]
        rfl
end Go.Proofs.YtcfgbdhpcboikaaGreatDoor
