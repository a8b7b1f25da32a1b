/-
  policy.Text: what it answers.
-/
import Derived.Test.YtcfgbdhpcboikaaGreatDoorDecode
import Derived.Test.YtcfgbdhpcboikaaGreatDoorTabs
import Derived.Lib.ConvBytes
namespace Go.Proofs.YtcfgbdhpcboikaaGreatDoor
open Go.RowKit

/-- '[]byte(s)'. -/
theorem conv_bytes (s : ByteArray) (w : World) : ∃ cap W, (convert 9 35 (.string s)).run Tryz.prog w = .ok (.slice (some ⟨w.heap.size, 0, none⟩) s.size cap) W ∧ Below w.heap.size w W ∧ BytesAt W w.heap.size 0 s.data.toList ∧ s.size ≤ cap ∧ w.heap.size < W.heap.size := by
  refine ⟨_, _, Lib.run_convert_string_bytes w 9 35 5 s Tryz.underlying9 Tryz.underlying35 Tryz.underlying5, ?_, ?_, grownCap_ge w s.size 0 5, ?_⟩
  · refine ⟨?_, ?_, ?_, by rw [Lib.bytesWorld_size]; omega, fun k hk => Lib.bytesWorld_at_old w 5 s k hk⟩
    all_goals
      unfold Lib.bytesWorld World.freeze
      split <;> rfl
  · intro j hj
    have hj' : j < s.size := hj
    rw [Nat.zero_add, Lib.bytesWorld_cell w 5 s j hj']
    simp [List.getD_eq_getElem?_getD, List.getElem?_eq_getElem hj]
  · rw [Lib.bytesWorld_size]; omega
theorem ret_i32 {a b : Int} (h : a = b) : Ending.returned (.int .i32 a) = .returned (.int .i32 b) := by rw [h]
set_option maxRecDepth 100000 in
theorem text1_any (x : Nat) (w : World) (_hx : x ≤ 1114111) (v : Int) (hv : Hid (textF x = v)) : Calls Tryz.prog 76 #[.int .i32 x] w fun e w' => e = .returned (.int .i32 v) ∧ w = w' := by
  go_enter Tryz.func76, Tryz.ntmps76
  go_wp2
  all_goals
    go_ret
    refine ⟨?_, rfl⟩
    apply ret_i32
    rw [← hv.out]
    unfold textF
    first
      | (rw [if_pos (by omega)]; done)
      | (rw [if_neg (by omega)]; done)
      | (rw [if_neg (by omega)]; omega)
theorem text1_grows (w : World) : MapGrows Tryz.prog 76 #[] textF w := by
  intro W x hx _
  have := text1_any x W hx _ (Lib.hid rfl)
  exact this.mono fun e w' ⟨he, hw⟩ => ⟨he, hw ▸ Below.refl _ _⟩
set_option maxRecDepth 100000 in
theorem text_any (s : ByteArray) (hs : s.size ≤ 1000000000) (w : World) (T : Tabs w) : Calls Tryz.prog 32 #[.string s] w fun e w' => e = .returned (.string ⟨(textL s.data.toList).toArray⟩) ∧ Below w.heap.size w w' := by
  have HT := Lib.hid T
  clear T
  obtain ⟨cap, W, hrun, hb, hby, hcap, hsz⟩ := conv_bytes s w
  have HB := Lib.hid hb
  have HY : Hid (BytesAt W w.heap.size 0 s.data.toList) := hby
  have HC := Lib.hid (show s.data.toList.length ≤ cap from hcap)
  have HS := Lib.hid (show w.heap.size < W.heap.size from hsz)
  clear hb hby hcap hsz
  go_enter Tryz.func32, Tryz.ntmps32
  go_wp2_with fail
  refine (decode_any w.heap.size 0 cap s.data.toList (show s.size ≤ 1000000000 from hs) HC.out W HY HS.out).mono ?_
  rintro e W2 ⟨rfl, B2⟩
  have HB2 := Lib.hid (HB.out.trans (B2.mono HB.out.size))
  have HT2 := Lib.hid (HT.out.below HB2.out (Nat.le_refl _))
  clear B2
  have hlen : ((⟨(decU s.data.toList).toArray⟩ : ByteArray)).size < 35184372088832 := by
    have h1 := dec_len s.data.toList.length s.data.toList (Nat.le_refl _)
    have h2 : s.data.toList.length = s.size := rfl
    have h3 : ((⟨(decU s.data.toList).toArray⟩ : ByteArray)).size = (decU s.data.toList).length := rfl
    omega
  have HL := Lib.hid hlen
  clear hlen
  go_wp2_with fail
  refine (Tryz.strings_Map_grows 76 #[] (fun _ _ => by kernel_rfl) textF _ W2 HL.out (text1_grows W2) textF_range HT2.out.u8).mono ?_
  rintro e W3 ⟨rfl, B3⟩
  have HB3 := Lib.hid (HB2.out.trans (B3.mono HB2.out.size))
  clear B3
  go_wp2
  go_ret
  refine ⟨?_, HB3.out⟩
  have : Lib.mapD textF (⟨(decU s.data.toList).toArray⟩ : ByteArray).data.toList = textL s.data.toList := map_dec s.data.toList
  rw [← this]
  rfl
end Go.Proofs.YtcfgbdhpcboikaaGreatDoor
