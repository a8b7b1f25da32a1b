/-
  Two numerals' values: 1.50 and 123456789e13.
-/
import Derived.Test.YtdgmokfdkophpaaGreatDoorReadC
import Derived.Test.YtdgmokfdkophpaaGreatDoorDoors
namespace Go.Proofs.YtdgmokfdkophpaaGreatDoor
open Go.RowKit

def s150 : ByteArray := { data := #[49, 46, 53, 48] }
def sBig : ByteArray := { data := #[49, 50, 51, 52, 53, 54, 55, 56, 57, 101, 49, 51] }

theorem num150 : NumText s150 0 4 := by
  refine ⟨by decide, by decide, ?_, ?_, by kernel_rfl, ?_⟩
  · intro j h _ hj
    match j, h, hj with
    | 0, _, _ => rfl
    | 1, _, _ => rfl
    | 2, _, _ => rfl
    | 3, _, _ => rfl
  · intro j h _ hj
    match j, h, hj with
    | 0, _, _ => intro _; kernel_rfl
    | 1, _, _ => intro _; kernel_rfl
    | 2, _, _ => intro e; exact absurd (show (53 : UInt8) = 46 from e) (by decide)
    | 3, _, _ => intro e; exact absurd (show (48 : UInt8) = 46 from e) (by decide)
  · intro h
    exact absurd h (by decide)
theorem numBig : NumText sBig 0 9 := by
  refine ⟨by decide, by decide, ?_, ?_, by kernel_rfl, ?_⟩
  · intro j h _ hj
    match j, h, hj with
    | 0, _, _ => rfl
    | 1, _, _ => rfl
    | 2, _, _ => rfl
    | 3, _, _ => rfl
    | 4, _, _ => rfl
    | 5, _, _ => rfl
    | 6, _, _ => rfl
    | 7, _, _ => rfl
    | 8, _, _ => rfl
  · intro j h _ hj
    match j, h, hj with
    | 0, _, _ => intro e; exact absurd (show (49 : UInt8) = 46 from e) (by decide)
    | 1, _, _ => intro e; exact absurd (show (50 : UInt8) = 46 from e) (by decide)
    | 2, _, _ => intro e; exact absurd (show (51 : UInt8) = 46 from e) (by decide)
    | 3, _, _ => intro e; exact absurd (show (52 : UInt8) = 46 from e) (by decide)
    | 4, _, _ => intro e; exact absurd (show (53 : UInt8) = 46 from e) (by decide)
    | 5, _, _ => intro e; exact absurd (show (54 : UInt8) = 46 from e) (by decide)
    | 6, _, _ => intro e; exact absurd (show (55 : UInt8) = 46 from e) (by decide)
    | 7, _, _ => intro e; exact absurd (show (56 : UInt8) = 46 from e) (by decide)
    | 8, _, _ => intro e; exact absurd (show (57 : UInt8) = 46 from e) (by decide)
  · intro h
    exact .inl rfl

theorem read150 (w : World) : Calls Tryz.prog 106 #[.string s150] w fun e w' => e = .returned (.tuple #[.int .u64 (150 : Nat), .int .i64 (-2), .bool false, .bool false, .bool false, .int .i64 s150.size, .bool true]) ∧ w = w' := by
  have := read_any s150 false 0 4 w (by decide) ⟨by decide, .inl ⟨rfl, rfl, rfl, rfl⟩⟩ num150 0 (.inl ⟨rfl, rfl⟩)
  have e : rfold (part s150 0 4) = ⟨150, 3, 3, 1, true, true, false⟩ := by kernel_rfl
  rw [e] at this
  exact this
theorem readBig (w : World) : Calls Tryz.prog 106 #[.string sBig] w fun e w' => e = .returned (.tuple #[.int .u64 (123456789 : Nat), .int .i64 (13 : Nat), .bool false, .bool false, .bool false, .int .i64 sBig.size, .bool true]) ∧ w = w' := by
  have := read_any sBig false 0 9 w (by decide) ⟨by decide, .inl ⟨rfl, rfl, rfl, rfl⟩⟩ numBig 13 (.inr ⟨by decide, 10, 1, .inl ⟨rfl, rfl, rfl⟩, by decide, (by
    intro j h hj
    match j, h, hj with
    | 10, _, _ => rfl
    | 11, _, _ => rfl), by kernel_rfl⟩)
  have e : rfold (part sBig 0 9) = ⟨123456789, 9, 9, 0, false, true, false⟩ := by kernel_rfl
  rw [e] at this
  exact this

theorem parse150 (w : World) (T : Tabs w) : Calls Tryz.prog 21 #[.string s150] w fun e w' => e = .returned (.tuple #[.float .f64 4609434218613702656, .bool true]) ∧ w = w' := by
  refine parse_ok s150 4609434218613702656 w (by decide) (by kernel_rfl) (by kernel_rfl) ?_
  intro w' hw
  subst hw
  refine atof_exact s150 150 (-2) false 4609434218613702656 w T (by decide) (by decide) (by decide) (by decide) (fun w => special_plain s150 w (by decide) (by decide) (by decide) rfl rfl) read150 ?_
  intro w' T'
  exact exact_div 150 2 false 4609434218613702656 w' T' (by decide) (by decide) (by decide) (by kernel_rfl)
theorem parseBig (w : World) (T : Tabs w) : Calls Tryz.prog 21 #[.string sBig] w fun e w' => e = .returned (.tuple #[.float .f64 4922640295842793058, .bool true]) ∧ w = w' := by
  refine parse_ok sBig 4922640295842793058 w (by decide) (by kernel_rfl) (by kernel_rfl) ?_
  intro w' hw
  subst hw
  refine atof_exact sBig 123456789 13 false 4922640295842793058 w T (by decide) (by decide) (by decide) (by decide) (fun w => special_plain sBig w (by decide) (by decide) (by decide) rfl rfl) readBig ?_
  intro w' T'
  exact exact_mul 123456789 13 false 4922640295842793058 w' T' (by decide) (by decide) (by decide) (by kernel_rfl) (by kernel_rfl) (by kernel_rfl)
end Go.Proofs.YtdgmokfdkophpaaGreatDoor
