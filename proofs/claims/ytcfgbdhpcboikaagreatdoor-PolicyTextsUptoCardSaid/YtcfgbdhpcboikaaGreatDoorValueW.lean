/-
  policy.Value: what it answers, by what form answers; form at a title and at a's href.
-/
import Derived.Test.YtcfgbdhpcboikaaGreatDoorLinkF
import Derived.Test.YtcfgbdhpcboikaaGreatDoorMayW
namespace Go.Proofs.YtcfgbdhpcboikaaGreatDoor
open Go.RowKit

def FormAt (e n v : ByteArray) (t : ByteArray) (ok : Bool) : Prop := ∀ w, Tabs w → Calls Tryz.prog 83 #[.string e, .string n, .string v] w fun x w' => x = .returned (.tuple #[.string t, .bool ok]) ∧ Below w.heap.size w w'
theorem value_out (e n v : ByteArray) (k : Int) (hk : Hid (KindAt e k)) (h : k < 2 ∨ k = 14) (w : World) :
    Calls Tryz.prog 37 #[.string e, .string n, .string v] w fun x w' => x = .returned (.tuple #[.string ⟨#[]⟩, .bool false]) ∧ Below w.heap.size w w' := by
  rcases h with h | h
  · have l1 : decide (k < 2) = true := by simpa using h
    clear h
    go_enter Tryz.func37, Tryz.ntmps37
    go_wp2_with fail
    refine (hk.out _).mono ?_
    rintro x w' ⟨rfl, rfl⟩
    go_wp2
    go_ret2
    exact ⟨rfl, Below.refl _ _⟩
  · subst h
    go_enter Tryz.func37, Tryz.ntmps37
    go_wp2_with fail
    refine (hk.out _).mono ?_
    rintro x w' ⟨rfl, rfl⟩
    go_wp2
    go_ret2
    exact ⟨rfl, Below.refl _ _⟩
set_option maxRecDepth 100000 in
theorem value_no (e n v t : ByteArray) (k : Int) (hk : Hid (KindAt e k)) (h2 : ¬ k < 2) (h14 : (k == 14) = false) (hF : Hid (FormAt e n v t false)) (w : World) (T : Tabs w) :
    Calls Tryz.prog 37 #[.string e, .string n, .string v] w fun x w' => x = .returned (.tuple #[.string ⟨#[]⟩, .bool false]) ∧ Below w.heap.size w w' := by
  have l1 : decide (k < 2) = false := by simpa using h2
  have HT := Lib.hid T
  clear h2 T
  go_enter Tryz.func37, Tryz.ntmps37
  go_wp2_with fail
  refine (hk.out _).mono ?_
  rintro x w' ⟨rfl, rfl⟩
  go_wp2_with fail
  refine (hF.out _ HT.out).mono ?_
  rintro x W1 ⟨rfl, B1⟩
  have HB1 := Lib.hid B1
  clear B1
  go_wp2
  go_ret2
  exact ⟨rfl, HB1.out⟩
set_option maxRecDepth 100000 in
theorem value_long (e n v t : ByteArray) (k : Int) (hk : Hid (KindAt e k)) (h2 : ¬ k < 2) (h14 : (k == 14) = false) (hF : Hid (FormAt e n v t true)) (ht : t.size ≤ 4000000) (hE : Hid (120 < (escB t).size)) (w : World) (T : Tabs w) :
    Calls Tryz.prog 37 #[.string e, .string n, .string v] w fun x w' => x = .returned (.tuple #[.string ⟨#[]⟩, .bool false]) ∧ Below w.heap.size w w' := by
  have l1 : decide (k < 2) = false := by simpa using h2
  have HT := Lib.hid T
  have hx : 120 < (escB t).size := hE.out
  have E := esc_any t ht
  generalize escB t = u at hx E
  have HEA := Lib.hid E
  clear h2 T E
  go_enter Tryz.func37, Tryz.ntmps37
  go_wp2_with fail
  refine (hk.out _).mono ?_
  rintro x w' ⟨rfl, rfl⟩
  go_wp2_with fail
  refine (hF.out _ HT.out).mono ?_
  rintro x W1 ⟨rfl, B1⟩
  have HB1 := Lib.hid B1
  have HT1 := Lib.hid (HT.out.below HB1.out (Nat.le_refl _))
  clear B1
  go_wp2_with fail
  refine (HEA.out W1 HT1.out).mono ?_
  rintro x W2 ⟨rfl, B2⟩
  have HB2 := Lib.hid (HB1.out.trans (B2.mono HB1.out.size))
  clear B2
  have l2 : decide ((120 : Int) < (u.size : Int)) = true := by simp; omega
  go_wp2
  go_ret2
  exact ⟨rfl, HB2.out⟩
set_option maxRecDepth 100000 in
theorem value_yes (e n v t : ByteArray) (k : Int) (hk : Hid (KindAt e k)) (h2 : ¬ k < 2) (h14 : (k == 14) = false) (hF : Hid (FormAt e n v t true)) (ht : t.size ≤ 4000000) (hE : Hid ((escB t).size ≤ 120)) (w : World) (T : Tabs w) :
    Calls Tryz.prog 37 #[.string e, .string n, .string v] w fun x w' => x = .returned (.tuple #[.string t, .bool true]) ∧ Below w.heap.size w w' := by
  have l1 : decide (k < 2) = false := by simpa using h2
  have HT := Lib.hid T
  have hx : (escB t).size ≤ 120 := hE.out
  have E := esc_any t ht
  generalize escB t = u at hx E
  have HEA := Lib.hid E
  clear h2 T E
  go_enter Tryz.func37, Tryz.ntmps37
  go_wp2_with fail
  refine (hk.out _).mono ?_
  rintro x w' ⟨rfl, rfl⟩
  go_wp2_with fail
  refine (hF.out _ HT.out).mono ?_
  rintro x W1 ⟨rfl, B1⟩
  have HB1 := Lib.hid B1
  have HT1 := Lib.hid (HT.out.below HB1.out (Nat.le_refl _))
  clear B1
  go_wp2_with fail
  refine (HEA.out W1 HT1.out).mono ?_
  rintro x W2 ⟨rfl, B2⟩
  have HB2 := Lib.hid (HB1.out.trans (B2.mono HB1.out.size))
  clear B2
  have l2 : decide ((120 : Int) < (u.size : Int)) = false := by simp; omega
  go_wp2
  go_ret2
  exact ⟨rfl, HB2.out⟩
def sTitle : ByteArray := ⟨#[116, 105, 116, 108, 101]⟩
def sHref : ByteArray := ⟨#[104, 114, 101, 102]⟩
def sA : ByteArray := ⟨#[97]⟩
set_option maxRecDepth 100000 in
theorem form_title (e v : ByteArray) (hv : v.size ≤ 1000000000) : FormAt e sTitle v ⟨(textL v.data.toList).toArray⟩ true := by
  intro w T
  have HX := Lib.hid (text_any v hv w T)
  clear T
  unfold sTitle
  go_enter Tryz.func83, Tryz.ntmps83
  go_wp2_with fail
  refine HX.out.mono ?_
  rintro x W1 ⟨rfl, B1⟩
  have HB1 := Lib.hid B1
  clear B1
  go_wp2
  go_ret2
  exact ⟨rfl, HB1.out⟩
end Go.Proofs.YtcfgbdhpcboikaaGreatDoor
