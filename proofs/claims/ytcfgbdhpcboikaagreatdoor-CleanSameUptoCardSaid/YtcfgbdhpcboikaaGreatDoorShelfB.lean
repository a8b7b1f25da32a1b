/-
What the shelf says of strings.Builder's writing methods, at this program (begun by a tool of the kit: its shelf's printer; the layings by a program of mine).
-/
import Derived.Shelf.Strings.BuilderRune
import Derived.Test.YtcfgbdhpcboikaaGreatDoorProg
namespace Go.Proofs
open Go.Shelf
theorem nW {α:Type}{a:Option α}{f g:α}(h:a=some f)(e:f=g):a=some g:=h.trans (congrArg some e)
def Tryz.lays240_ren:Go.Shelf.Ren:=⟨fun|240=>156|276=>198|n=>n,fun|0=>0|4=>4|9=>9|20=>20|37=>35|70=>110|72=>112|164=>180|n=>n,fun|n=>n⟩
theorem Tryz.lays240:Go.Proofs.Lays.n240 Tryz.prog Tryz.lays240_ren:={
 mixed:=by kernel_rfl
 f240:=nW Tryz.func156 (by kernel_rfl)
 f276:=nW Tryz.func198 (by kernel_rfl)
 t0:=Tryz.underlying0
 a0:=Tryz.isAgg0
 z0:=Tryz.sizeOf0
 v0:=Tryz.zeroValue0
 t4:=Tryz.underlying4
 a4:=Tryz.isAgg4
 z4:=Tryz.sizeOf4
 v4:=Tryz.zeroValue4
 t9:=Tryz.underlying9
 a9:=Tryz.isAgg9
 z9:=Tryz.sizeOf9
 v9:=Tryz.zeroValue9
 t20:=Tryz.underlying20
 a20:=Tryz.isAgg20
 z20:=Tryz.sizeOf20
 v20:=Tryz.zeroValue20
 t70:=Tryz.underlying110
 a70:=Tryz.isAgg110
 z70:=Tryz.sizeOf110
 v70:=Tryz.zeroValue110
 t72:=Tryz.underlying112
 a72:=Tryz.isAgg112
 z72:=Tryz.sizeOf112
 v72:=Tryz.zeroValue112
 t164:=Tryz.underlying180
 a164:=Tryz.isAgg180
 z164:=Tryz.sizeOf180
 v164:=Tryz.zeroValue180 }
def Tryz.lays166_ren:Go.Shelf.Ren:=⟨fun|166=>110|240=>156|276=>198|n=>n,fun|0=>0|3=>3|4=>4|5=>5|9=>9|20=>20|37=>35|70=>110|72=>112|75=>73|80=>115|164=>180|n=>n,fun|n=>n⟩
theorem Tryz.lays166:Go.Proofs.Lays.n166 Tryz.prog Tryz.lays166_ren:={
 mixed:=by kernel_rfl
 f166:=nW Tryz.func110 (by kernel_rfl)
 f240:=nW Tryz.func156 (by kernel_rfl)
 f276:=nW Tryz.func198 (by kernel_rfl)
 t0:=Tryz.underlying0
 a0:=Tryz.isAgg0
 z0:=Tryz.sizeOf0
 v0:=Tryz.zeroValue0
 t3:=Tryz.underlying3
 a3:=Tryz.isAgg3
 z3:=Tryz.sizeOf3
 v3:=Tryz.zeroValue3
 t4:=Tryz.underlying4
 a4:=Tryz.isAgg4
 z4:=Tryz.sizeOf4
 v4:=Tryz.zeroValue4
 t9:=Tryz.underlying9
 a9:=Tryz.isAgg9
 z9:=Tryz.sizeOf9
 v9:=Tryz.zeroValue9
 t20:=Tryz.underlying20
 a20:=Tryz.isAgg20
 z20:=Tryz.sizeOf20
 v20:=Tryz.zeroValue20
 t37:=Tryz.underlying35
 a37:=Tryz.isAgg35
 z37:=Tryz.sizeOf35
 v37:=Tryz.zeroValue35
 t70:=Tryz.underlying110
 a70:=Tryz.isAgg110
 z70:=Tryz.sizeOf110
 v70:=Tryz.zeroValue110
 t72:=Tryz.underlying112
 a72:=Tryz.isAgg112
 z72:=Tryz.sizeOf112
 v72:=Tryz.zeroValue112
 t75:=Tryz.underlying73
 a75:=Tryz.isAgg73
 z75:=Tryz.sizeOf73
 v75:=Tryz.zeroValue73
 t164:=Tryz.underlying180
 a164:=Tryz.isAgg180
 z164:=Tryz.sizeOf180
 v164:=Tryz.zeroValue180 }
def Tryz.lays168_ren:Go.Shelf.Ren:=⟨fun|168=>126|240=>156|242=>174|276=>198|278=>213|n=>n,fun|0=>0|3=>3|4=>4|5=>5|9=>9|20=>20|21=>21|37=>35|46=>148|51=>177|70=>110|72=>112|75=>73|80=>115|164=>180|n=>n,fun|n=>n⟩
theorem Tryz.lays168:Go.Proofs.Lays.n168 Tryz.prog Tryz.lays168_ren:={
 mixed:=by kernel_rfl
 f168:=nW Tryz.func126 (by kernel_rfl)
 f240:=nW Tryz.func156 (by kernel_rfl)
 f242:=nW Tryz.func174 (by kernel_rfl)
 f276:=nW Tryz.func198 (by kernel_rfl)
 f278:=nW Tryz.func213 (by kernel_rfl)
 t0:=Tryz.underlying0
 a0:=Tryz.isAgg0
 z0:=Tryz.sizeOf0
 v0:=Tryz.zeroValue0
 t3:=Tryz.underlying3
 a3:=Tryz.isAgg3
 z3:=Tryz.sizeOf3
 v3:=Tryz.zeroValue3
 t4:=Tryz.underlying4
 a4:=Tryz.isAgg4
 z4:=Tryz.sizeOf4
 v4:=Tryz.zeroValue4
 t5:=Tryz.underlying5
 a5:=Tryz.isAgg5
 z5:=Tryz.sizeOf5
 v5:=Tryz.zeroValue5
 t9:=Tryz.underlying9
 a9:=Tryz.isAgg9
 z9:=Tryz.sizeOf9
 v9:=Tryz.zeroValue9
 t20:=Tryz.underlying20
 a20:=Tryz.isAgg20
 z20:=Tryz.sizeOf20
 v20:=Tryz.zeroValue20
 t21:=Tryz.underlying21
 a21:=Tryz.isAgg21
 z21:=Tryz.sizeOf21
 v21:=Tryz.zeroValue21
 t37:=Tryz.underlying35
 a37:=Tryz.isAgg35
 z37:=Tryz.sizeOf35
 v37:=Tryz.zeroValue35
 t46:=Tryz.underlying148
 a46:=Tryz.isAgg148
 z46:=Tryz.sizeOf148
 v46:=Tryz.zeroValue148
 t51:=Tryz.underlying177
 a51:=Tryz.isAgg177
 z51:=Tryz.sizeOf177
 v51:=Tryz.zeroValue177
 t70:=Tryz.underlying110
 a70:=Tryz.isAgg110
 z70:=Tryz.sizeOf110
 v70:=Tryz.zeroValue110
 t72:=Tryz.underlying112
 a72:=Tryz.isAgg112
 z72:=Tryz.sizeOf112
 v72:=Tryz.zeroValue112
 t75:=Tryz.underlying73
 a75:=Tryz.isAgg73
 z75:=Tryz.sizeOf73
 v75:=Tryz.zeroValue73
 t164:=Tryz.underlying180
 a164:=Tryz.isAgg180
 z164:=Tryz.sizeOf180
 v164:=Tryz.zeroValue180 }
theorem Tryz.Builder_X72_240:Builder.X72 Tryz.prog Tryz.lays240_ren:={
 sizeBuilder:=by kernel_rfl
 liesBuilder:=by kernel_rfl }
theorem Tryz.Builder_Extra_166:Builder.Extra Tryz.prog Tryz.lays166_ren:={
 sizeBuilder:=by kernel_rfl
 liesBuilder:=by kernel_rfl
 t5:=Tryz.underlying5
 a5:=Tryz.isAgg5
 z5:=Tryz.sizeOf5
 v5:=Tryz.zeroValue5
 infoByte:=by kernel_rfl
 cellsByte:=by kernel_rfl
 sizeByte:=by kernel_rfl
 neB5:=by decide }
theorem Tryz.Builder_Extra_168:Builder.Extra Tryz.prog Tryz.lays168_ren:={
 sizeBuilder:=by kernel_rfl
 liesBuilder:=by kernel_rfl
 t5:=Tryz.underlying5
 a5:=Tryz.isAgg5
 z5:=Tryz.sizeOf5
 v5:=Tryz.zeroValue5
 infoByte:=by kernel_rfl
 cellsByte:=by kernel_rfl
 sizeByte:=by kernel_rfl
 neB5:=by decide }
open Go.RowKit in
theorem Tryz.Builder_WriteString_k (B b:Nat)(bs:List Value)(s:ByteArray)(w:World)(h:Lib.IsBuilderF 112 5 B b bs w)(hlen:bs.length+s.size≤140737488355328)(hBw:B≤w.heap.size) :
  Calls Tryz.prog 110 #[.pointer (some ⟨b,0,none⟩),.string s] w fun e w'=>e=.returned (.tuple #[.int .i64 s.size,.nilIface])∧(Lib.BuilderAtF 112 5 B b (.pointer (some ⟨b,0,none⟩)) (bs++Lib.strCells s) w'∧Below B w w'∧Lib.OthersKept 5 (some b) w w'):=Any.Builder_WriteString_k Tryz.lays166 Tryz.Builder_Extra_166 B b bs s w h hlen hBw
open Go.RowKit in
open Go.RowKit in
theorem Tryz.Builder_WriteRune_k (B b:Nat)(bs:List Value)(r:Int)(hr0:-2147483648≤r)(hr1:r≤2147483647)(w:World)(h:Lib.IsBuilderF 112 5 B b bs w)(hlen:bs.length+4≤140737488355328)(hBw:B≤w.heap.size) :
  Calls Tryz.prog 126 #[.pointer (some ⟨b,0,none⟩),.int .i32 r] w fun e w'=>e=.returned (.tuple #[.int .i64 (Lib.runeCells r).length,.nilIface])∧(Lib.BuilderAtF 112 5 B b (.pointer (some ⟨b,0,none⟩)) (bs++Lib.runeCells r) w'∧Below B w w'∧Lib.OthersKept 5 (some b) w w'):=Any.Builder_WriteRune_k Tryz.lays168 Tryz.Builder_Extra_168 B b bs r hr0 hr1 w h hlen hBw
open Go.RowKit in
theorem Tryz.Builder_copyCheck_k (B b:Nat)(bs:List Value)(w:World)(h:Lib.IsBuilderF 112 5 B b bs w) :
  Calls Tryz.prog 156 #[.pointer (some ⟨b,0,none⟩)] w fun e w'=>e=.returned (.tuple #[])∧(Lib.BuilderAtF 112 5 B b (.pointer (some ⟨b,0,none⟩)) bs w'∧Below B w w'∧Lib.OthersKept 5 (some b) w w'):=Any.Builder_copyCheck_k Tryz.lays240 Tryz.Builder_X72_240 B b bs w h
