/-
  policy.form at each of its keys (printed by wip/gen/formv.py).
-/
import Derived.Test.YtcfgbdhpcboikaaGreatDoorFormL
namespace Go.Proofs.YtcfgbdhpcboikaaGreatDoor
open Go.RowKit

set_option maxRecDepth 100000 in
theorem pwhole_any (v : ByteArray) (lo hi : Nat) (n : Int) (b : Bool) (h : WholeRet v lo hi n b) (w : World) : Calls Tryz.prog 144 #[.string v, .int .i64 lo, .int .i64 hi] w fun e w' => e = .returned (.tuple #[.string v, .bool b]) ∧ Below w.heap.size w w' := by
  have H1 := Lib.hid h.one
  clear h
  go_enter Tryz.func144, Tryz.ntmps144
  go_wp2_with fail
  refine (H1.out _).mono ?_
  rintro e w1 ⟨rfl, B1⟩
  have HB := Lib.hid B1
  clear B1
  go_wp2
  go_ret2
  exact ⟨rfl, HB.out⟩
set_option maxRecDepth 100000 in
theorem form_lang (e v : ByteArray) (hv : v.size ≤ 140737488355328) (b : Bool) (hb : Hid (b = true ↔ langP v)) : FormAt e sLang v v b := by
  intro w T
  have HL := Lib.hid (lang_any v hv b hb)
  clear T
  unfold sLang
  go_enter Tryz.func83, Tryz.ntmps83
  go_wp2_with fail
  refine (HL.out _).mono ?_
  rintro x w1 ⟨rfl, B1⟩
  have HB := Lib.hid B1
  clear B1
  go_wp2
  go_ret2
  exact ⟨rfl, HB.out⟩
theorem cat1_1 : (⟨#[105, 109, 103]⟩ : ByteArray) ++ ⟨#[32]⟩ = ⟨#[105, 109, 103, 32]⟩ := by decide
theorem cat2_1 : (⟨#[105, 109, 103, 32]⟩ : ByteArray) ++ ⟨#[115, 114, 99]⟩ = ⟨#[105, 109, 103, 32, 115, 114, 99]⟩ := by decide
set_option maxRecDepth 100000 in
set_option maxHeartbeats 1000000 in
theorem form_imgsrc (v : ByteArray) (b : Bool) (hb : Hid (linkOk zSrc (linkL v.data.toList) = b)) (hv : v.size ≤ 1000000000) : FormAt sImg sSrc v (linkB v) b := by
  intro w T
  have HT := Lib.hid T
  clear T
  unfold sImg sSrc
  have c1 := cat1_1
  have c2 := cat2_1
  go_enter Tryz.func83, Tryz.ntmps83
  go_wp2_with fail
  have hB : Below w.heap.size w (w.alloc (.cells #[Value.string ⟨#[104, 116, 116, 112]⟩, Value.string ⟨#[104, 116, 116, 112, 115]⟩] 9)) := (Below.refl _ w).alloc (Nat.le_refl _) _
  have hS : StrsAt (w.alloc (.cells #[Value.string ⟨#[104, 116, 116, 112]⟩, Value.string ⟨#[104, 116, 116, 112, 115]⟩] 9)) w.heap.size 0 zSrc := by
    intro j hj
    rw [Nat.zero_add, cell_of_row _ w.heap.size j _ 9 (0, 0) (heap_alloc_new w _)]
    have : ∀ j < 2, (#[Value.string ⟨#[104, 116, 116, 112]⟩, Value.string ⟨#[104, 116, 116, 112, 115]⟩] : Array Value)[j]? = some (Value.string (zSrc.getD j ByteArray.empty)) := by
      intro j hj
      match j, hj with
      | 0, _ => rfl
      | 1, _ => rfl
    exact this j hj
  refine (linkf_any v hv w.heap.size 0 2 2 zSrc rfl (by omega) _ (HT.out.below hB (Nat.le_refl _)) hS (by simp) b hb).mono ?_
  rintro x W1 ⟨rfl, B1⟩
  have HB1 := Lib.hid (hB.trans (B1.mono (by simp)))
  clear B1 hB hS
  go_wp2
  go_ret2
  exact ⟨rfl, HB1.out⟩
theorem cat1_2 : (⟨#[105, 109, 103]⟩ : ByteArray) ++ ⟨#[32]⟩ = ⟨#[105, 109, 103, 32]⟩ := by decide
theorem cat2_2 : (⟨#[105, 109, 103, 32]⟩ : ByteArray) ++ ⟨#[97, 108, 116]⟩ = ⟨#[105, 109, 103, 32, 97, 108, 116]⟩ := by decide
set_option maxRecDepth 100000 in
set_option maxHeartbeats 1000000 in
theorem form_imgalt (v : ByteArray) (hv : v.size ≤ 1000000000) : FormAt sImg sAlt v (textB v) true := by
  intro w T
  have HX := Lib.hid (text_any v hv w T)
  clear T
  unfold sImg sAlt
  have c1 := cat1_2
  have c2 := cat2_2
  go_enter Tryz.func83, Tryz.ntmps83
  go_wp2_with fail
  refine HX.out.mono ?_
  rintro x W1 ⟨rfl, B1⟩
  have HB1 := Lib.hid B1
  clear B1
  go_wp2
  go_ret2
  exact ⟨rfl, HB1.out⟩
theorem cat1_3 : (⟨#[105, 109, 103]⟩ : ByteArray) ++ ⟨#[32]⟩ = ⟨#[105, 109, 103, 32]⟩ := by decide
theorem cat2_3 : (⟨#[105, 109, 103, 32]⟩ : ByteArray) ++ ⟨#[104, 101, 105, 103, 104, 116]⟩ = ⟨#[105, 109, 103, 32, 104, 101, 105, 103, 104, 116]⟩ := by decide
set_option maxRecDepth 100000 in
set_option maxHeartbeats 1000000 in
theorem form_imgheight (v : ByteArray) (x : Int) (b : Bool) (h : WholeRet v 0 9999 x b) : FormAt sImg sHeight v v b := by
  intro w T
  have HX := Lib.hid (pwhole_any v 0 9999 x b h)
  clear T
  unfold sImg sHeight
  have c1 := cat1_3
  have c2 := cat2_3
  go_enter Tryz.func83, Tryz.ntmps83
  go_wp2_with fail
  refine (HX.out _).mono ?_
  rintro x W1 ⟨rfl, B1⟩
  have HB1 := Lib.hid B1
  clear B1
  go_wp2
  go_ret2
  exact ⟨rfl, HB1.out⟩
theorem cat1_4 : (⟨#[105, 109, 103]⟩ : ByteArray) ++ ⟨#[32]⟩ = ⟨#[105, 109, 103, 32]⟩ := by decide
theorem cat2_4 : (⟨#[105, 109, 103, 32]⟩ : ByteArray) ++ ⟨#[119, 105, 100, 116, 104]⟩ = ⟨#[105, 109, 103, 32, 119, 105, 100, 116, 104]⟩ := by decide
set_option maxRecDepth 100000 in
set_option maxHeartbeats 1000000 in
theorem form_imgwidth (v : ByteArray) (x : Int) (b : Bool) (h : WholeRet v 0 9999 x b) : FormAt sImg sWidth v v b := by
  intro w T
  have HX := Lib.hid (pwhole_any v 0 9999 x b h)
  clear T
  unfold sImg sWidth
  have c1 := cat1_4
  have c2 := cat2_4
  go_enter Tryz.func83, Tryz.ntmps83
  go_wp2_with fail
  refine (HX.out _).mono ?_
  rintro x W1 ⟨rfl, B1⟩
  have HB1 := Lib.hid B1
  clear B1
  go_wp2
  go_ret2
  exact ⟨rfl, HB1.out⟩
theorem cat1_5 : (⟨#[111, 108]⟩ : ByteArray) ++ ⟨#[32]⟩ = ⟨#[111, 108, 32]⟩ := by decide
theorem cat2_5 : (⟨#[111, 108, 32]⟩ : ByteArray) ++ ⟨#[115, 116, 97, 114, 116]⟩ = ⟨#[111, 108, 32, 115, 116, 97, 114, 116]⟩ := by decide
set_option maxRecDepth 100000 in
set_option maxHeartbeats 1000000 in
theorem form_olstart (v : ByteArray) (x : Int) (b : Bool) (h : WholeRet v 0 999999 x b) : FormAt sOl sStart v v b := by
  intro w T
  have HX := Lib.hid (pwhole_any v 0 999999 x b h)
  clear T
  unfold sOl sStart
  have c1 := cat1_5
  have c2 := cat2_5
  go_enter Tryz.func83, Tryz.ntmps83
  go_wp2_with fail
  refine (HX.out _).mono ?_
  rintro x W1 ⟨rfl, B1⟩
  have HB1 := Lib.hid B1
  clear B1
  go_wp2
  go_ret2
  exact ⟨rfl, HB1.out⟩
theorem cat1_6 : (⟨#[116, 100]⟩ : ByteArray) ++ ⟨#[32]⟩ = ⟨#[116, 100, 32]⟩ := by decide
theorem cat2_6 : (⟨#[116, 100, 32]⟩ : ByteArray) ++ ⟨#[99, 111, 108, 115, 112, 97, 110]⟩ = ⟨#[116, 100, 32, 99, 111, 108, 115, 112, 97, 110]⟩ := by decide
set_option maxRecDepth 100000 in
set_option maxHeartbeats 1000000 in
theorem form_tdcolspan (v : ByteArray) (x : Int) (b : Bool) (h : WholeRet v 1 1000 x b) : FormAt sTd sColspan v v b := by
  intro w T
  have HX := Lib.hid (pwhole_any v 1 1000 x b h)
  clear T
  unfold sTd sColspan
  have c1 := cat1_6
  have c2 := cat2_6
  go_enter Tryz.func83, Tryz.ntmps83
  go_wp2_with fail
  refine (HX.out _).mono ?_
  rintro x W1 ⟨rfl, B1⟩
  have HB1 := Lib.hid B1
  clear B1
  go_wp2
  go_ret2
  exact ⟨rfl, HB1.out⟩
theorem cat1_7 : (⟨#[116, 100]⟩ : ByteArray) ++ ⟨#[32]⟩ = ⟨#[116, 100, 32]⟩ := by decide
theorem cat2_7 : (⟨#[116, 100, 32]⟩ : ByteArray) ++ ⟨#[114, 111, 119, 115, 112, 97, 110]⟩ = ⟨#[116, 100, 32, 114, 111, 119, 115, 112, 97, 110]⟩ := by decide
set_option maxRecDepth 100000 in
set_option maxHeartbeats 1000000 in
theorem form_tdrowspan (v : ByteArray) (x : Int) (b : Bool) (h : WholeRet v 1 1000 x b) : FormAt sTd sRowspan v v b := by
  intro w T
  have HX := Lib.hid (pwhole_any v 1 1000 x b h)
  clear T
  unfold sTd sRowspan
  have c1 := cat1_7
  have c2 := cat2_7
  go_enter Tryz.func83, Tryz.ntmps83
  go_wp2_with fail
  refine (HX.out _).mono ?_
  rintro x W1 ⟨rfl, B1⟩
  have HB1 := Lib.hid B1
  clear B1
  go_wp2
  go_ret2
  exact ⟨rfl, HB1.out⟩
theorem cat1_8 : (⟨#[116, 104]⟩ : ByteArray) ++ ⟨#[32]⟩ = ⟨#[116, 104, 32]⟩ := by decide
theorem cat2_8 : (⟨#[116, 104, 32]⟩ : ByteArray) ++ ⟨#[99, 111, 108, 115, 112, 97, 110]⟩ = ⟨#[116, 104, 32, 99, 111, 108, 115, 112, 97, 110]⟩ := by decide
set_option maxRecDepth 100000 in
set_option maxHeartbeats 1000000 in
theorem form_thcolspan (v : ByteArray) (x : Int) (b : Bool) (h : WholeRet v 1 1000 x b) : FormAt sTh sColspan v v b := by
  intro w T
  have HX := Lib.hid (pwhole_any v 1 1000 x b h)
  clear T
  unfold sTh sColspan
  have c1 := cat1_8
  have c2 := cat2_8
  go_enter Tryz.func83, Tryz.ntmps83
  go_wp2_with fail
  refine (HX.out _).mono ?_
  rintro x W1 ⟨rfl, B1⟩
  have HB1 := Lib.hid B1
  clear B1
  go_wp2
  go_ret2
  exact ⟨rfl, HB1.out⟩
theorem cat1_9 : (⟨#[116, 104]⟩ : ByteArray) ++ ⟨#[32]⟩ = ⟨#[116, 104, 32]⟩ := by decide
theorem cat2_9 : (⟨#[116, 104, 32]⟩ : ByteArray) ++ ⟨#[114, 111, 119, 115, 112, 97, 110]⟩ = ⟨#[116, 104, 32, 114, 111, 119, 115, 112, 97, 110]⟩ := by decide
set_option maxRecDepth 100000 in
set_option maxHeartbeats 1000000 in
theorem form_throwspan (v : ByteArray) (x : Int) (b : Bool) (h : WholeRet v 1 1000 x b) : FormAt sTh sRowspan v v b := by
  intro w T
  have HX := Lib.hid (pwhole_any v 1 1000 x b h)
  clear T
  unfold sTh sRowspan
  have c1 := cat1_9
  have c2 := cat2_9
  go_enter Tryz.func83, Tryz.ntmps83
  go_wp2_with fail
  refine (HX.out _).mono ?_
  rintro x W1 ⟨rfl, B1⟩
  have HB1 := Lib.hid B1
  clear B1
  go_wp2
  go_ret2
  exact ⟨rfl, HB1.out⟩
theorem cat1_10 : (⟨#[109, 101, 116, 101, 114]⟩ : ByteArray) ++ ⟨#[32]⟩ = ⟨#[109, 101, 116, 101, 114, 32]⟩ := by decide
theorem cat2_10 : (⟨#[109, 101, 116, 101, 114, 32]⟩ : ByteArray) ++ ⟨#[109, 97, 120]⟩ = ⟨#[109, 101, 116, 101, 114, 32, 109, 97, 120]⟩ := by decide
set_option maxRecDepth 100000 in
set_option maxHeartbeats 1000000 in
theorem form_metermax (v t : ByteArray) (b : Bool) (h : ∀ w, Tabs w → Calls Tryz.prog 20 #[.string v] w fun e w' => e = .returned (.tuple #[.string t, .bool b]) ∧ Below w.heap.size w w') : FormAt sMeter sMax v t b := by
  intro w T
  have HX := Lib.hid (h w T)
  clear T h
  unfold sMeter sMax
  have c1 := cat1_10
  have c2 := cat2_10
  go_enter Tryz.func83, Tryz.ntmps83
  go_wp2_with fail
  refine HX.out.mono ?_
  rintro x W1 ⟨rfl, B1⟩
  have HB1 := Lib.hid B1
  clear B1
  go_wp2
  go_ret2
  exact ⟨rfl, HB1.out⟩
theorem cat1_11 : (⟨#[109, 101, 116, 101, 114]⟩ : ByteArray) ++ ⟨#[32]⟩ = ⟨#[109, 101, 116, 101, 114, 32]⟩ := by decide
theorem cat2_11 : (⟨#[109, 101, 116, 101, 114, 32]⟩ : ByteArray) ++ ⟨#[118, 97, 108, 117, 101]⟩ = ⟨#[109, 101, 116, 101, 114, 32, 118, 97, 108, 117, 101]⟩ := by decide
set_option maxRecDepth 100000 in
set_option maxHeartbeats 1000000 in
theorem form_metervalue (v t : ByteArray) (b : Bool) (h : ∀ w, Tabs w → Calls Tryz.prog 20 #[.string v] w fun e w' => e = .returned (.tuple #[.string t, .bool b]) ∧ Below w.heap.size w w') : FormAt sMeter sValue v t b := by
  intro w T
  have HX := Lib.hid (h w T)
  clear T h
  unfold sMeter sValue
  have c1 := cat1_11
  have c2 := cat2_11
  go_enter Tryz.func83, Tryz.ntmps83
  go_wp2_with fail
  refine HX.out.mono ?_
  rintro x W1 ⟨rfl, B1⟩
  have HB1 := Lib.hid B1
  clear B1
  go_wp2
  go_ret2
  exact ⟨rfl, HB1.out⟩
theorem cat1_12 : (⟨#[109, 101, 116, 101, 114]⟩ : ByteArray) ++ ⟨#[32]⟩ = ⟨#[109, 101, 116, 101, 114, 32]⟩ := by decide
theorem cat2_12 : (⟨#[109, 101, 116, 101, 114, 32]⟩ : ByteArray) ++ ⟨#[104, 105, 103, 104]⟩ = ⟨#[109, 101, 116, 101, 114, 32, 104, 105, 103, 104]⟩ := by decide
set_option maxRecDepth 100000 in
set_option maxHeartbeats 1000000 in
theorem form_meterhigh (v t : ByteArray) (b : Bool) (h : ∀ w, Tabs w → Calls Tryz.prog 20 #[.string v] w fun e w' => e = .returned (.tuple #[.string t, .bool b]) ∧ Below w.heap.size w w') : FormAt sMeter sHigh v t b := by
  intro w T
  have HX := Lib.hid (h w T)
  clear T h
  unfold sMeter sHigh
  have c1 := cat1_12
  have c2 := cat2_12
  go_enter Tryz.func83, Tryz.ntmps83
  go_wp2_with fail
  refine HX.out.mono ?_
  rintro x W1 ⟨rfl, B1⟩
  have HB1 := Lib.hid B1
  clear B1
  go_wp2
  go_ret2
  exact ⟨rfl, HB1.out⟩
theorem cat1_13 : (⟨#[109, 101, 116, 101, 114]⟩ : ByteArray) ++ ⟨#[32]⟩ = ⟨#[109, 101, 116, 101, 114, 32]⟩ := by decide
theorem cat2_13 : (⟨#[109, 101, 116, 101, 114, 32]⟩ : ByteArray) ++ ⟨#[108, 111, 119]⟩ = ⟨#[109, 101, 116, 101, 114, 32, 108, 111, 119]⟩ := by decide
set_option maxRecDepth 100000 in
set_option maxHeartbeats 1000000 in
theorem form_meterlow (v t : ByteArray) (b : Bool) (h : ∀ w, Tabs w → Calls Tryz.prog 20 #[.string v] w fun e w' => e = .returned (.tuple #[.string t, .bool b]) ∧ Below w.heap.size w w') : FormAt sMeter sLow v t b := by
  intro w T
  have HX := Lib.hid (h w T)
  clear T h
  unfold sMeter sLow
  have c1 := cat1_13
  have c2 := cat2_13
  go_enter Tryz.func83, Tryz.ntmps83
  go_wp2_with fail
  refine HX.out.mono ?_
  rintro x W1 ⟨rfl, B1⟩
  have HB1 := Lib.hid B1
  clear B1
  go_wp2
  go_ret2
  exact ⟨rfl, HB1.out⟩
theorem cat1_14 : (⟨#[109, 101, 116, 101, 114]⟩ : ByteArray) ++ ⟨#[32]⟩ = ⟨#[109, 101, 116, 101, 114, 32]⟩ := by decide
theorem cat2_14 : (⟨#[109, 101, 116, 101, 114, 32]⟩ : ByteArray) ++ ⟨#[109, 105, 110]⟩ = ⟨#[109, 101, 116, 101, 114, 32, 109, 105, 110]⟩ := by decide
set_option maxRecDepth 100000 in
set_option maxHeartbeats 1000000 in
theorem form_metermin (v t : ByteArray) (b : Bool) (h : ∀ w, Tabs w → Calls Tryz.prog 20 #[.string v] w fun e w' => e = .returned (.tuple #[.string t, .bool b]) ∧ Below w.heap.size w w') : FormAt sMeter sMin v t b := by
  intro w T
  have HX := Lib.hid (h w T)
  clear T h
  unfold sMeter sMin
  have c1 := cat1_14
  have c2 := cat2_14
  go_enter Tryz.func83, Tryz.ntmps83
  go_wp2_with fail
  refine HX.out.mono ?_
  rintro x W1 ⟨rfl, B1⟩
  have HB1 := Lib.hid B1
  clear B1
  go_wp2
  go_ret2
  exact ⟨rfl, HB1.out⟩
theorem cat1_15 : (⟨#[112, 114, 111, 103, 114, 101, 115, 115]⟩ : ByteArray) ++ ⟨#[32]⟩ = ⟨#[112, 114, 111, 103, 114, 101, 115, 115, 32]⟩ := by decide
theorem cat2_15 : (⟨#[112, 114, 111, 103, 114, 101, 115, 115, 32]⟩ : ByteArray) ++ ⟨#[109, 97, 120]⟩ = ⟨#[112, 114, 111, 103, 114, 101, 115, 115, 32, 109, 97, 120]⟩ := by decide
set_option maxRecDepth 100000 in
set_option maxHeartbeats 1000000 in
theorem form_progressmax (v t : ByteArray) (b : Bool) (h : ∀ w, Tabs w → Calls Tryz.prog 20 #[.string v] w fun e w' => e = .returned (.tuple #[.string t, .bool b]) ∧ Below w.heap.size w w') : FormAt sProgress sMax v t b := by
  intro w T
  have HX := Lib.hid (h w T)
  clear T h
  unfold sProgress sMax
  have c1 := cat1_15
  have c2 := cat2_15
  go_enter Tryz.func83, Tryz.ntmps83
  go_wp2_with fail
  refine HX.out.mono ?_
  rintro x W1 ⟨rfl, B1⟩
  have HB1 := Lib.hid B1
  clear B1
  go_wp2
  go_ret2
  exact ⟨rfl, HB1.out⟩
theorem cat1_16 : (⟨#[112, 114, 111, 103, 114, 101, 115, 115]⟩ : ByteArray) ++ ⟨#[32]⟩ = ⟨#[112, 114, 111, 103, 114, 101, 115, 115, 32]⟩ := by decide
theorem cat2_16 : (⟨#[112, 114, 111, 103, 114, 101, 115, 115, 32]⟩ : ByteArray) ++ ⟨#[118, 97, 108, 117, 101]⟩ = ⟨#[112, 114, 111, 103, 114, 101, 115, 115, 32, 118, 97, 108, 117, 101]⟩ := by decide
set_option maxRecDepth 100000 in
set_option maxHeartbeats 1000000 in
theorem form_progressvalue (v t : ByteArray) (b : Bool) (h : ∀ w, Tabs w → Calls Tryz.prog 20 #[.string v] w fun e w' => e = .returned (.tuple #[.string t, .bool b]) ∧ Below w.heap.size w w') : FormAt sProgress sValue v t b := by
  intro w T
  have HX := Lib.hid (h w T)
  clear T h
  unfold sProgress sValue
  have c1 := cat1_16
  have c2 := cat2_16
  go_enter Tryz.func83, Tryz.ntmps83
  go_wp2_with fail
  refine HX.out.mono ?_
  rintro x W1 ⟨rfl, B1⟩
  have HB1 := Lib.hid B1
  clear B1
  go_wp2
  go_ret2
  exact ⟨rfl, HB1.out⟩
/-! ### No key -/
def formTab : List (List UInt8 × List UInt8) := [([97], [104, 114, 101, 102]), ([105, 109, 103], [115, 114, 99]), ([105, 109, 103], [97, 108, 116]), ([105, 109, 103], [104, 101, 105, 103, 104, 116]), ([105, 109, 103], [119, 105, 100, 116, 104]), ([111, 108], [115, 116, 97, 114, 116]), ([116, 100], [99, 111, 108, 115, 112, 97, 110]), ([116, 100], [114, 111, 119, 115, 112, 97, 110]), ([116, 104], [99, 111, 108, 115, 112, 97, 110]), ([116, 104], [114, 111, 119, 115, 112, 97, 110]), ([109, 101, 116, 101, 114], [109, 97, 120]), ([109, 101, 116, 101, 114], [118, 97, 108, 117, 101]), ([109, 101, 116, 101, 114], [104, 105, 103, 104]), ([109, 101, 116, 101, 114], [108, 111, 119]), ([109, 101, 116, 101, 114], [109, 105, 110]), ([112, 114, 111, 103, 114, 101, 115, 115], [109, 97, 120]), ([112, 114, 111, 103, 114, 101, 115, 115], [118, 97, 108, 117, 101])]
def formKeys : List (List UInt8) := [[97, 32, 104, 114, 101, 102], [105, 109, 103, 32, 115, 114, 99], [105, 109, 103, 32, 97, 108, 116], [105, 109, 103, 32, 104, 101, 105, 103, 104, 116], [105, 109, 103, 32, 119, 105, 100, 116, 104], [111, 108, 32, 115, 116, 97, 114, 116], [116, 100, 32, 99, 111, 108, 115, 112, 97, 110], [116, 100, 32, 114, 111, 119, 115, 112, 97, 110], [116, 104, 32, 99, 111, 108, 115, 112, 97, 110], [116, 104, 32, 114, 111, 119, 115, 112, 97, 110], [109, 101, 116, 101, 114, 32, 109, 97, 120], [109, 101, 116, 101, 114, 32, 118, 97, 108, 117, 101], [109, 101, 116, 101, 114, 32, 104, 105, 103, 104], [109, 101, 116, 101, 114, 32, 108, 111, 119], [109, 101, 116, 101, 114, 32, 109, 105, 110], [112, 114, 111, 103, 114, 101, 115, 115, 32, 109, 97, 120], [112, 114, 111, 103, 114, 101, 115, 115, 32, 118, 97, 108, 117, 101]]
theorem results_two {P : Program} {fn : Func} {s t : Nat} {tmps : Array Value} {u v : Value} (w : World) (h : fn.results = #[.tmp s, .tmp t]) (hu : tmps.getD s undef = u) (hv : tmps.getD t undef = v) : (results fn tmps).run P w = .ok (.tuple #[u, v]) w := by
  unfold results
  rw [h]
  rw [Array.getD_eq_getD_getElem?] at hu hv
  simp [hu, hv]
/-- Two constants laid into two slots. -/
theorem chain_two {P : Program} {Q : Exit → Act → World → Prop} {w : World} {s : ByteArray} {k n : Nat} {B C : TypeId} {t1 t2 : Nat} {v1 v2 : Value} {rid : Nat} {p1 p2 : String} {f1 f2 : Array Edge} {a : Act} (hC : Chain s k n a) (ht : (t1 != k && t2 != k && t1 != t2 && decide (t1 < n) && decide (t2 < n)) = true)
    (h : ∀ a', Chain s k n a' → a'.eval (.tmp t1) = v1 → a'.eval (.tmp t2) = v2 → Q .normal a' w) :
    (Code.region rid #[{ dst := some t1, op := Op.assign (Operand.const v1), type := B, pos := p1, after := f1, guard := none }, { dst := some t2, op := Op.assign (Operand.const v2), type := C, pos := p2, after := f2, guard := none }] false).wp P Q a w := by
  simp only [Bool.and_eq_true, bne_iff_ne, ne_eq, decide_eq_true_eq] at ht
  have h1 := hC.put t1 v1 ht.1.1.1.1
  have e1 := eval_put (a := a) (t := t1) (v := v1) (by rw [hC.size]; exact ht.1.2)
  have h2 := h1.put t2 v2 ht.1.1.1.2
  have e2 := eval_put (a := a.put (some t1) v1) (t := t2) (v := v2) (by rw [h1.size]; exact ht.2)
  have e3 : ((a.put (some t1) v1).put (some t2) v2).eval (.tmp t1) = v1 := by
    rw [← e1]
    simp [Act.eval, Act.put, Array.getD_eq_getD_getElem?, Ne.symm ht.1.1.2]
    intro x y
    omega
  have ec : a.eval (.const v1) = v1 := rfl
  have ec2 : (a.put (some t1) v1).eval (.const v2) = v2 := rfl
  refine wp_region_lit (l := [_, _]) ?_
  refine wpList_plain rfl fun K hK => ?_
  have hx := hK _ _ (wpList_plain (P := P) (w := w) (rest := []) (o := { dst := some t2, op := Op.assign (Operand.const v2), type := C, pos := p2, after := f2, guard := none }) (a := a.put (some t1) v1) rfl fun K2 hK2 => by
    have := hK2 _ _ (wpList_nil (h _ h2 e3 e2))
    unfold Oper.wp
    simp [execOp, ec2, Oper.upon]
    exact this)
  unfold Oper.wp
  simp [execOp, ec, Oper.upon]
  exact hx
set_option maxRecDepth 100000 in
set_option maxHeartbeats 2000000 in
theorem form_none (e n v : ByteArray) (he : e.size ≤ 1000000000) (hn : n.size ≤ 1000000000) (K : ByteArray) (hK : Hid (K = e ++ ⟨#[32]⟩ ++ n)) (h1 : (n.toList == [116, 105, 116, 108, 101]) = false) (h2 : (n.toList == [108, 97, 110, 103]) = false) (h3 : (n.toList == [100, 105, 114]) = false)
    (hN : Hid (∀ l : List UInt8, formKeys.contains l = true → (K.toList == (⟨l.toArray⟩ : ByteArray).toList) = false)) : FormAt e n v ⟨#[]⟩ false := by
  intro w T
  clear T
  have ek : e ++ ⟨#[32]⟩ ++ n = K := hK.out.symm
  go_enter Tryz.func83, Tryz.ntmps83
  go_upto_region 15 with fail
  rename_i _ k1 a1 k0 a0
  refine chain_no 9 K _ 37 90 (hN.out _ (by decide +kernel)) ⟨rfl, rfl, rfl⟩ rfl ?_
  intro a hC hb
  repeat' (first
    | (refine chain_no 9 K _ 37 90 (hN.out _ (by decide +kernel)) hC rfl ?_; clear hC; intro a hC hb)
    | (with_reducible refine then_normal ?_)
    | (with_reducible refine block_normal ?_)
    | (with_reducible refine wp_cond_false hb ?_)
    | (with_reducible refine wp_seq ?_)
    | (with_reducible refine wp_skip ?_)
    | (with_reducible refine a0 _ _ ?_)
    | (with_reducible refine a1 _ _ ?_))
  refine chain_two hC rfl ?_
  clear hC hb
  intro a hC h6 h7
  refine then_normal (wp_ret ?_)
  exact ⟨hC.defers, _, results_two w rfl h6 h7, rfl, Below.refl _ _⟩
end Go.Proofs.YtcfgbdhpcboikaaGreatDoor
