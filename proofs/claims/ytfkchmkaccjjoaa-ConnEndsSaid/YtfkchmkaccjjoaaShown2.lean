/-
  The small case that must be in any case (colanderlaw22.shown) returns true.
-/
import Derived.Test.YtfkchmkaccjjoaaConnD
namespace Go.Proofs.Ytfkchmkaccjjoaa
open Go.RowKit

theorem far_of_lt {w : World} {p : Pl} {L ac : Nat} {aa : Option Addr} {qi qo all : List UInt8} {st : Nat} {en : Bool} (h : ConnAt w p L aa ac qi qo all st en) {x : Nat} (hx : w.heap.size ≤ x) (hM : p.M ≤ w.heap.size) : ¬ p.In aa x := by
  rintro (⟨_, h2⟩ | h2)
  · omega
  · cases haa : aa with
    | none => rw [haa] at h2; cases h2
    | some y =>
      rw [haa] at h2
      simp at h2
      have := (h.hall.at y haa).2
      omega

set_option maxHeartbeats 1000000 in
theorem shown2_any (w : World) : Calls Try.prog 16 #[] w fun e w' => e = .returned (.bool true) ∧ Kept (fun _ => False) w w' := by
  have kc := fun (w : World) (C : Array Value) (n c : Nat) => Lib.run_convert_bytes_const (P := Try.prog) w 22 5 C n c Try.underlying22 Try.underlying5
  have ks := fun (w : World) (x : Option Addr) (bs : List UInt8) (n c : Nat) => run_convB (P := Try.prog) w 22 5 9 Try.underlying22 Try.underlying5 Try.underlying9 x bs n c
  have HS := Lib.hid ks
  clear ks
  go_enter Try.func16, Try.ntmps16
  go_wp2_with fail
  refine (connNew_yes _ 3 2 (by omega) (by omega) (by omega) (by omega)).mono ?_
  rintro e w1 ⟨p, rfl, hmi, hmo, hB, hM, C1, K1⟩
  have HC1 := Lib.hid (C1 w1.heap.size (Nat.le_refl _))
  have HK1 : Hid (Kept (fun b => w.heap.size ≤ b) w w1) := K1.mono (fun _ _ h => h.elim)
  have Hmi := Lib.hid hmi
  have Hmo := Lib.hid hmo
  have HB := Lib.hid hB
  have HM := Lib.hid hM
  clear hmi hmo hB hM C1 K1
  go_wp2_with fail
  refine (connNew_no _ _ _ (.inl (.inl (by omega)))).mono ?_
  rintro e w2 ⟨rfl, K2⟩
  obtain ⟨L, hL⟩ : ∃ L, w1.heap.size = L := ⟨_, rfl⟩
  rw [hL] at HC1
  have lL : L ≤ w2.heap.size := by rw [← hL]; exact K2.size
  have HML : p.M ≤ L := by have := HM.out; omega
  have lw : w.heap.size ≤ L := by rw [← hL]; exact HK1.out.size
  have HC2 := Lib.hid (HC1.out.kept K2 (fun _ _ h => h))
  have HK2 : Hid (Kept (fun b => w.heap.size ≤ b) w w2) := HK1.out.trans' K2 (fun _ _ h => h.elim)
  clear K2 HC1 HK1 hL HM
  go_wp2_with fail
  obtain ⟨w3, hw3⟩ : ∃ w3, w3 = w2.alloc (Obj.cells #[Value.int IntKind.u8 97, Value.int IntKind.u8 98, Value.int IntKind.u8 99, Value.int IntKind.u8 100] 5 (4, 5)) := ⟨_, rfl⟩
  have K3 : Kept (fun _ => False) w2 w3 := by rw [hw3]; exact (Kept.refl _ w2).alloc _
  have S3 : IsB w3 (some ⟨w2.heap.size, 0, none⟩) [97, 98, 99, 100] := by
    rw [hw3]
    exact IsB.of_heap (arr := [97, 98, 99, 100]) (heap_alloc_new _ _) 0
  have HC3 := Lib.hid (HC2.out.kept K3 (fun _ _ h => h))
  have HK3 : Hid (Kept (fun b => w.heap.size ≤ b) w w3) := HK2.out.trans' K3 (fun _ _ h => h.elim)
  have l3 : L ≤ w3.heap.size := Nat.le_trans lL K3.size
  have hf3 : ¬ p.In none w2.heap.size := far_of_lt HC2.out (Nat.le_refl _) (by omega)
  rw [← hw3]
  clear hw3 K3 HC2 HK2
  refine (arrive_any _ p L _ _ _ _ _ _ _ HC3.out _ 4 4 [97, 98, 99, 100] rfl (Nat.le_refl _) (by omega) S3 (fun _ x hx => by cases hx; exact hf3)).mono ?_
  have ea : arrived 0 false 4 p.mi ([] : List UInt8).length = 3 := by rw [Hmi.out]; rfl
  rw [ea]
  rintro e w4 ⟨rfl, C4, K4⟩
  have HC4 : Hid (ConnAt w4 p L none 0 [97, 98, 99] [] [] 0 false) := C4
  have HK4 : Hid (Kept (fun b => w.heap.size ≤ b) w w4) := HK3.out.trans' K4 (fun i hi h => by
    rcases h with h | h
    · have := HB.out; omega
    · cases h)
  have l4 : L ≤ w4.heap.size := Nat.le_trans l3 K4.size
  clear C4 K4 HC3 HK3 ea S3 hf3 l3
  go_wp2_with fail
  refine (readc_any _ p L _ _ _ _ _ _ _ HC4.out 2 2 (.inr (.inl ⟨rfl, by simp⟩))).mono ?_
  rintro e w5 ⟨rfl, G5, C5, K5⟩
  have S5 : IsB w5 (some ⟨w4.heap.size, 0, none⟩) [97, 98] := IsB.of_heap (arr := [97, 98]) G5 0
  have kc5 := HS.out w5 (some ⟨w4.heap.size, 0, none⟩) [97, 98] 2 2 rfl S5
  have HC5 : Hid (ConnAt w5 p L none 0 [99] [] [] 0 false) := C5
  have HK5 : Hid (Kept (fun b => w.heap.size ≤ b) w w5) := HK4.out.trans' K5 (fun i hi h => by
    rcases h with h | h
    · have := HB.out; omega
    · cases h)
  have l5 : L ≤ w5.heap.size := Nat.le_trans l4 K5.size
  clear C5 K5 HC4 HK4 G5 S5 l4
  go_wp2_with fail
  refine (end_any _ p L _ _ _ _ _ _ _ HC5.out).mono ?_
  rintro e w6 ⟨rfl, C6, K6⟩
  have HC6 := Lib.hid C6
  have HK6 : Hid (Kept (fun b => w.heap.size ≤ b) w w6) := HK5.out.trans' K6 (fun i hi h => by
    rcases h with h | h
    · have := HB.out; omega
    · cases h)
  have l6 : L ≤ w6.heap.size := Nat.le_trans l5 K6.size
  clear C6 K6 HC5 HK5 kc5 l5
  go_wp2_with fail
  obtain ⟨w7, hw7⟩ : ∃ w7, w7 = w6.alloc (Obj.cells #[Value.int IntKind.u8 120, Value.int IntKind.u8 121, Value.int IntKind.u8 122] 5 (3, 4)) := ⟨_, rfl⟩
  have K7 : Kept (fun _ => False) w6 w7 := by rw [hw7]; exact (Kept.refl _ w6).alloc _
  have S7 : IsB w7 (some ⟨w6.heap.size, 0, none⟩) [120, 121, 122] := by
    rw [hw7]
    exact IsB.of_heap (arr := [120, 121, 122]) (heap_alloc_new _ _) 0
  have HC7 := Lib.hid (HC6.out.kept K7 (fun _ _ h => h))
  have HK7 : Hid (Kept (fun b => w.heap.size ≤ b) w w7) := HK6.out.trans' K7 (fun _ _ h => h.elim)
  have l7 : L ≤ w7.heap.size := Nat.le_trans l6 K7.size
  have hf7 : ¬ p.In none w6.heap.size := far_of_lt HC6.out (Nat.le_refl _) (by omega)
  rw [← hw7]
  clear hw7 K7 HC6 HK6
  refine (write_any _ p L _ _ _ _ _ _ _ HC7.out _ 3 3 [120, 121, 122] rfl (Nat.le_refl _) (by omega) S7 (fun _ x hx => by cases hx; exact hf7) l7 (by simp)).mono ?_
  have ea : written 0 3 p.mo ([] : List UInt8).length = 2 := by rw [Hmo.out]; rfl
  rw [ea]
  rintro e w8 ⟨a8, c8, rfl, C8, K8, F8⟩
  have HC8 : Hid (ConnAt w8 p L a8 c8 [99] [120, 121] [120, 121] 0 true) := C8
  have HK8 : Hid (Kept (fun b => w.heap.size ≤ b) w w8) := HK7.out.trans' K8 (fun i hi h => by
    rcases h with h | h
    · have := HB.out; omega
    · cases h)
  have hin : ∀ i, p.In a8 i → w.heap.size ≤ i := fun i h => by
    rcases h with h | h
    · have := HB.out; omega
    · cases ha : a8 with
      | none => rw [ha] at h; cases h
      | some y => rw [ha] at h; simp at h; have := (HC8.out.hall.at y ha).1; omega
  have Hin := Lib.hid hin
  clear C8 K8 HC7 HK7 ea S7 hf7 l7 F8 hin
  go_wp2_with fail
  refine (close_any _ p L _ _ _ _ _ _ _ HC8.out).mono ?_
  rintro e w9 ⟨rfl, C9, K9⟩
  have HC9 : Hid (ConnAt w9 p L a8 c8 [] [120, 121] [120, 121] 1 true) := by
    have e1 : settled 1 [120, 121] = 1 := rfl
    rw [if_pos rfl, if_pos rfl, e1] at C9
    exact C9
  have HK9 : Hid (Kept (fun b => w.heap.size ≤ b) w w9) := HK8.out.trans' K9 (fun i _ h => Hin.out i h)
  clear C9 K9 HC8 HK8
  go_wp2_with fail
  refine (state_any _ p L _ _ _ _ _ _ _ HC9.out).mono ?_
  rintro e w10 ⟨rfl, rfl⟩
  go_wp2_with fail
  refine (taken_any _ p L _ _ _ _ _ _ _ HC9.out 5 2 (.inr (.inr ⟨by simp, rfl⟩))).mono ?_
  rintro e w11 ⟨rfl, G11, C11, K11⟩
  have S11 : IsB w11 (some ⟨w9.heap.size, 0, none⟩) [120, 121] := IsB.of_heap (arr := [120, 121]) G11 0
  have kc11 := HS.out w11 (some ⟨w9.heap.size, 0, none⟩) [120, 121] 2 2 rfl S11
  have HC11 : Hid (ConnAt w11 p L a8 c8 [] [] [120, 121] 2 true) := C11
  have HK11 : Hid (Kept (fun b => w.heap.size ≤ b) w w11) := HK9.out.trans' K11 (fun i _ h => Hin.out i h)
  clear C11 K11 HC9 HK9 G11 S11
  go_wp2_with fail
  refine (state_any _ p L _ _ _ _ _ _ _ HC11.out).mono ?_
  rintro e w12 ⟨rfl, rfl⟩
  go_wp2_with fail
  refine (written_any _ p L _ _ _ _ _ _ _ HC11.out 2 rfl (by omega)).mono ?_
  rintro e w13 ⟨x, cp, rfl, O13, C13, K13⟩
  have kc13 := HS.out w13 x [120, 121] 2 cp rfl O13.isB
  have HK13 : Hid (Kept (fun b => w.heap.size ≤ b) w w13) := HK11.out.trans' K13 (fun i _ h => Hin.out i h)
  clear O13 C13 K13 HC11 HK11 kc11
  go_wp2
  go_ret
  exact ⟨rfl, HK13.out.mono (fun k hk h => by omega)⟩
end Go.Proofs.Ytfkchmkaccjjoaa
