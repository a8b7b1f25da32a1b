/-
  PolicyKinds, for every two names: the walk.
-/
import Derived.Test.YtcfgbdhpcboikaaGreatDoorShow18
import Derived.Test.YtcfgbdhpcboikaaGreatDoorRefMay
namespace Go.Proofs.YtcfgbdhpcboikaaGreatDoor
open Go.RowKit

set_option maxRecDepth 100000 in
set_option maxHeartbeats 2000000 in
theorem kinds_all (p k : ByteArray) (w : World) (T : Tabs w) : Calls Tryz.prog 4 #[.string p, .string k] w (SomeBool true w) := by
  have HS := Lib.hid (shown18 w T)
  have K1 := Lib.hid (kind_any k)
  have K2 := Lib.hid (refkind_any k)
  have M1 := Lib.hid (may_any p k)
  have M2 := Lib.hid (refmay_any p k)
  have T1 := Lib.hid (takes_any p)
  have T2 := Lib.hid (reftakes_any p)
  clear T
  generalize kindL k.data.toList = kk at K1 K2
  generalize mayL p.data.toList k.data.toList = mm at M1 M2
  generalize takesL p.data.toList = tt at T1 T2
  have e1 : ((kk : Int) == (kk : Int)) = true := by simp
  have e2 : (mm == mm) = true := by simp
  have e3 : (tt == tt) = true := by simp
  go_enter Tryz.func4, Tryz.ntmps4
  go_wp2_with fail
  refine HS.out.mono ?_
  unfold SomeBool
  rintro e W1 ⟨rfl, B1⟩
  have HB1 := Lib.hid B1
  clear B1
  go_wp2_with fail
  refine (K1.out _).mono ?_
  rintro e w' ⟨rfl, rfl⟩
  go_wp2_with fail
  refine (K2.out _).mono ?_
  rintro e W2 ⟨rfl, B2⟩
  have HB2 := Lib.hid (HB1.out.trans (B2.mono HB1.out.size))
  clear B2
  go_wp2_with fail
  refine (M1.out _).mono ?_
  rintro e w' ⟨rfl, rfl⟩
  go_wp2_with fail
  refine (M2.out _).mono ?_
  rintro e W3 ⟨rfl, B3⟩
  have HB3 := Lib.hid (HB2.out.trans (B3.mono HB2.out.size))
  clear B3
  go_wp2_with fail
  refine (T1.out _).mono ?_
  rintro e w' ⟨rfl, rfl⟩
  go_wp2_with fail
  refine (T2.out _).mono ?_
  rintro e W4 ⟨rfl, B4⟩
  have HB4 := Lib.hid (HB3.out.trans (B4.mono HB3.out.size))
  clear B4
  go_wp2
  go_ret
  refine ⟨?_, HB4.out⟩
  rfl
end Go.Proofs.YtcfgbdhpcboikaaGreatDoor
