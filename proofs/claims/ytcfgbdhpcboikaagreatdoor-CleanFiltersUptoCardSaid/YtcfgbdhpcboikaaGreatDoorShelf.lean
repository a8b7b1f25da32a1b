/-
What the shelf says of the library's functions, at this program (begun by a tool of the kit: its shelf's printer; trimmed).
-/
import Derived.Shelf.Strconv.ParseIntPublic10
import Derived.Shelf.Strings.Trim
import Derived.Shelf.Utf8.RuneCount
import Derived.Shelf.Strconv.Itoa4
import Derived.Shelf.Strconv.ErrVarAll
import Derived.Shelf.Strings.Shaped
import Derived.Shelf.Strings.SplitShaped
import Derived.Shelf.Unicode.Decode
import Derived.Shelf.Strings.Runes
import Derived.Shelf.Strings.RuneCount
import Derived.Shelf.Strings.AsciiSet
import Derived.Shelf.Strings.Repeat
import Derived.Shelf.Unicode.DecodeLast
import Derived.Shelf.Strings.MapGrows
import Derived.Shelf.Slices.Turned
import Derived.Test.YtcfgbdhpcboikaaGreatDoorProg
namespace Go.Proofs
set_option maxRecDepth 100000
open Go.Shelf
def Tryz.ren:Go.Shelf.Ren:=⟨fun|99=>118|101=>117|105=>115|106=>88|109=>145|110=>85|118=>124|119=>249|120=>217|129=>191|137=>248|138=>175|143=>176|145=>71|151=>178|152=>216|154=>133|155=>80|160=>81|165=>125|166=>110|167=>128|168=>126|169=>111|170=>160|171=>116|172=>113|173=>225|174=>224|195=>214|197=>123|205=>207|206=>163|208=>162|212=>159|213=>148|217=>208|218=>215|219=>171|220=>122|224=>210|225=>209|227=>136|228=>177|230=>75|231=>134|232=>135|233=>137|234=>138|235=>139|236=>140|240=>156|241=>173|242=>174|243=>161|244=>157|245=>120|246=>203|247=>199|260=>172|263=>201|264=>202|265=>192|266=>246|267=>211|270=>127|271=>179|276=>198|277=>212|278=>213|279=>165|280=>166|281=>167|282=>168|283=>229|284=>230|285=>231|286=>232|287=>226|314=>247|316=>206|317=>260|318=>266|319=>267|320=>268|321=>251|322=>252|337=>293|338=>294|n=>n,fun|31=>55|37=>35|46=>148|51=>177|53=>163|59=>79|70=>110|72=>112|75=>73|76=>113|80=>115|85=>182|105=>122|107=>83|109=>154|116=>136|117=>137|119=>197|124=>140|127=>152|138=>199|139=>200|143=>240|145=>242|146=>184|148=>186|164=>180|167=>158|168=>159|171=>214|173=>216|175=>210|210=>194|212=>259|213=>260|232=>251|233=>289|n=>n,fun|3=>4|4=>5|15=>2|16=>3|17=>9|18=>15|19=>16|n=>n⟩
theorem Tryz.lays169:Go.Proofs.Lays.n169 Tryz.prog Tryz.ren:=by
 repeat' (first|kernel_rfl|exact fun _=>rfl|decide|constructor)
theorem Tryz.Builder_Extra_169:Builder.Extra Tryz.prog Tryz.ren:=by
 repeat' (first|kernel_rfl|exact fun _=>rfl|decide|constructor)
theorem Tryz.lays160:Go.Proofs.Lays.n160 Tryz.prog Tryz.ren:=by
 repeat' (first|kernel_rfl|exact fun _=>rfl|decide|constructor)
open Go.RowKit in
theorem Tryz.strings_Trim_one (s:ByteArray)(c:UInt8)(a:c.toNat<128)(w:World)(b:s.size<=9223372036854775807) :
  Calls Tryz.prog 81 #[.string s,.string ⟨#[c]⟩] w fun e w'=>e=.returned (.string ⟨(Lib.trimB s.data.toList c).toArray⟩)/\(w'=w\/w'=w.drew):=Any.strings_Trim_one Tryz.lays160 s c a w b
theorem Tryz.lays106:Go.Proofs.Lays.n106 Tryz.prog Tryz.ren:=by
 repeat' (first|kernel_rfl|exact fun _=>rfl|decide|constructor)
open Go.RowKit in
theorem Tryz.strings_Compare (a b:ByteArray)(w:World) :
  Calls Tryz.prog 88 #[.string a,.string b] w fun e w'=>e=.returned (.int .i64 (Lib.compareBytes a.data.toList b.data.toList))/\w'=w:=Any.strings_Compare Tryz.lays106 a b w
open Go.RowKit in
open Go.RowKit in
theorem Tryz.Builder_String_any_k (B b:Nat)(l:List UInt8)(w:World)(h:Lib.IsBuilderF 112 5 B b (Lib.byteCells l) w)(a:B<=w.heap.size) :
  Calls Tryz.prog 111 #[.pointer (some ⟨b,0,none⟩)] w fun e w'=>e=.returned (.string ⟨l.toArray⟩)/\(Lib.IsBuilderF 112 5 B b (Lib.byteCells l) w'/\Below B w w'/\Lib.OthersKept 5 (some b) w w'):=Any.Builder_String_any_k Tryz.lays169 Tryz.Builder_Extra_169 B b l w h a
theorem Tryz.lays172:Go.Proofs.Lays.n172 Tryz.prog Tryz.ren:=by
 repeat' (first|kernel_rfl|exact fun _=>rfl|decide|constructor)
open Go.RowKit in
theorem Tryz.strconv_Atoi (s:ByteArray)(n:Int)(a:s.size<=18)(h:Lib.atoi s.data.toList=some n)(w:World) :
  Calls Tryz.prog 113 #[.string s] w fun e w'=>e=.returned (.tuple #[.int .i64 n,.nilIface])/\∃t,w'=Lib.bytesWorld w 5 t:=Any.strconv_Atoi Tryz.lays172 s n a h w
theorem Tryz.lays129:Go.Proofs.Lays.n129 Tryz.prog Tryz.ren:=by
 repeat' (first|kernel_rfl|exact fun _=>rfl|decide|constructor)
theorem Tryz.bits_Len64 (x:Int)(w:World)(a:0<=x)(b:x<=18446744073709551615) :
  Calls Tryz.prog 191 #[.int .u64 x] w fun e w'=>e=.returned (.int .i64 (Lib.bitLen x.toNat))/\w'=w:=Any.bits_Len64 Tryz.lays129 x w a b
theorem Tryz.laysM284:Go.Proofs.LaysM.n284 Tryz.prog Tryz.ren:=by
 repeat' (first|kernel_rfl|exact fun _=>rfl|decide|constructor)
open Go.Lib in
theorem Tryz.internal_strconv_numDigits (u:Nat)(a:1<=u)(b:u<18446744073709551616)(w:World)(c:Lib.TabIs Tryz.prog w "internal/strconv.uint64pow10" .u64 Lib.pow10Tab) :
  Calls Tryz.prog 230 #[.int .u64 u] w fun e w'=>e=.returned (.int .i64 (Lib.nDigits u))/\w'=w:=Any.internal_strconv_numDigits Tryz.laysM284 u a b w c
theorem Tryz.lays285:Go.Proofs.Lays.n285 Tryz.prog Tryz.ren:=by
 repeat' (first|kernel_rfl|exact fun _=>rfl|decide|constructor)
open Go.RowKit Go.Sort Go.Lib in
theorem Tryz.internal_strconv_formatBase10 (a c cap:Nat)(u:Nat)(d:Array UInt8)(w:World)(f:Holds (fun(b:UInt8)=>Value.int .u8 (b.toNat:Int)) w a c d)(h:u<10^d.size)(i:u<18446744073709551616)(g:d.size<4611686018427387904) :
  Calls Tryz.prog 231 #[.slice (some ⟨a,c,none⟩) d.size cap,.int .u64 u] w fun e w' =>
   e=.returned (.tuple #[])/\∃(n v':Nat) (dk:Array UInt8),w'=(putRow (fun(b:UInt8)=>Value.int .u8 (b.toNat:Int)) w a c dk).drewN n/\FmtInv d.size u 0 v' dk:=Any.internal_strconv_formatBase10 Tryz.lays285 a c cap u d w f h i g
theorem Tryz.laysM171:Go.Proofs.LaysM.n171 Tryz.prog Tryz.ren:=by
 repeat' (first|kernel_rfl|exact fun _=>rfl|decide|constructor)
open Go.RowKit Go.Sort Go.Lib in
theorem Tryz.strconv_Itoa (n:Int)(a:-9223372036854775808<=n)(b:n<=9223372036854775807)(w:World)(c:Lib.TabIs Tryz.prog w "internal/strconv.uint64pow10" .u64 Lib.pow10Tab) :
  Calls Tryz.prog 116 #[.int .i64 n] w fun e w'=>e=.returned (.string ⟨(Lib.itoa n).toArray⟩)/\∃k os,w'=grow (w.drewN k) os:=Any.strconv_Itoa Tryz.laysM171 n a b w c
theorem Tryz.laysC245:Go.Proofs.LaysC.n245 Tryz.prog Tryz.ren:=by
 repeat' (first|kernel_rfl|exact fun _=>rfl|decide|constructor)
theorem Tryz.lays321:Go.Proofs.Lays.n321 Tryz.prog Tryz.ren:=by
 repeat' (first|kernel_rfl|exact fun _=>rfl|decide|constructor)
open Go.RowKit in
theorem Tryz.internal_strconv_lower (c:Int)(w:World) :
  Calls Tryz.prog 251 #[.int .u8 c] w fun e w'=>e=.returned (.int .u8 (bits .or .u8 c 32))/\w'=w:=Any.internal_strconv_lower Tryz.lays321 c w
open Go.RowKit in
theorem Tryz.strconv_toError_range (a s:ByteArray)(base b:Int)(ev:Value)(w:World)(d:s.size<=281474976710656)(f:w.cell? ⟨3,0,none⟩=some ev)(c:ev=.nilIface\/∃te pe,ev=.iface te pe) :
  Calls Tryz.prog 120 #[.string a,.string s,.int .i64 base,.int .i64 b,.iface 158 (.int .i64 1)] w fun e w'=>∃N,e=.returned (.iface 159 (.pointer (some ⟨N,0,none⟩)))/\w.heap.size<=N/\w'.heap[N]?=some (.cells #[.string a,.string s,ev] 194 (0,0))/\Below w.heap.size w w':=Any.strconv_toError_range Tryz.laysC245 a s base b ev w d f c
theorem Tryz.lays145:Go.Proofs.Lays.n145 Tryz.prog Tryz.ren:=by
 repeat' (first|kernel_rfl|exact fun _=>rfl|decide|constructor)
open Go.RowKit Go.Lib in
theorem Tryz.strings_Cut (s a:ByteArray)(m:Int)(w:World)(c:s.size<4294967281)(b:w.cell? ⟨1,0,none⟩=some (.int .i64 m)) :
  Calls Tryz.prog 71 #[.string s,.string a] w fun e w'=>e=.returned (.tuple #[.string ⟨(Lib.cut s.data.toList a.data.toList).1.toArray⟩,.string ⟨(Lib.cut s.data.toList a.data.toList).2.1.toArray⟩,.bool (Lib.cut s.data.toList a.data.toList).2.2])/\∃n,w'=w.drewN n:=Any.strings_Cut Tryz.lays145 s a m w c b
open Go.RowKit Go.Lib in
theorem Tryz.lays99:Go.Proofs.Lays.n99 Tryz.prog Tryz.ren:=by
 repeat' (first|kernel_rfl|exact fun _=>rfl|decide|constructor)
open Go.RowKit Go.Lib in
theorem Tryz.strings_HasPrefix (s p:ByteArray)(w:World) :
  Calls Tryz.prog 118 #[.string s,.string p] w fun e w'=>e=.returned (.bool (Lib.hasPrefix s.data.toList p.data.toList))/\w'=w:=Any.strings_HasPrefix Tryz.lays99 s p w
theorem Tryz.lays101:Go.Proofs.Lays.n101 Tryz.prog Tryz.ren:=by
 repeat' (first|kernel_rfl|exact fun _=>rfl|decide|constructor)
open Go.RowKit Go.Lib in
theorem Tryz.strings_TrimPrefix (s p:ByteArray)(w:World) :
  Calls Tryz.prog 117 #[.string s,.string p] w fun e w'=>e=.returned (.string ⟨(Lib.trimPrefix s.data.toList p.data.toList).toArray⟩)/\w'=w:=Any.strings_TrimPrefix Tryz.lays101 s p w
theorem Tryz.lays154:Go.Proofs.Lays.n154 Tryz.prog Tryz.ren:=by
 repeat' (first|kernel_rfl|exact fun _=>rfl|decide|constructor)
theorem Tryz.Builder_Extra_154:Builder.Extra Tryz.prog Tryz.ren:=by
 repeat' (first|kernel_rfl|exact fun _=>rfl|decide|constructor)
open Go.RowKit Go.Lib in
theorem Tryz.strings_Replace (s a b:ByteArray)(n:Int)(m:Int)(w:World)(f:s.size<4294967281)(d:w.cell? ⟨1,0,none⟩=some (.int .i64 m))(c:1<=a.size)(hlen:s.size+Lib.countB s a*b.size<=140737488355328) :
  Calls Tryz.prog 133 #[.string s,.string a,.string b,.int .i64 n] w fun e w' =>
   e=.returned (.string ⟨(Lib.replace s.data.toList a.data.toList b.data.toList n).toArray⟩)/\Below w.heap.size w w':=Any.strings_Replace Tryz.lays154 Tryz.Builder_Extra_154 s a b n m w f d c hlen
theorem Tryz.lays155:Go.Proofs.Lays.n155 Tryz.prog Tryz.ren:=by
 repeat' (first|kernel_rfl|exact fun _=>rfl|decide|constructor)
theorem Tryz.Builder_Extra_155:Builder.Extra Tryz.prog Tryz.ren:=by
 repeat' (first|kernel_rfl|exact fun _=>rfl|decide|constructor)
open Go.RowKit Go.Lib in
theorem Tryz.strings_ReplaceAll (s a b:ByteArray)(m:Int)(w:World)(f:s.size<4294967281)(d:w.cell? ⟨1,0,none⟩=some (.int .i64 m))(c:1<=a.size)(hlen:s.size+Lib.countB s a*b.size<=140737488355328) :
  Calls Tryz.prog 80 #[.string s,.string a,.string b] w fun e w' =>
   e=.returned (.string ⟨(Lib.replaceAll s.data.toList a.data.toList b.data.toList).toArray⟩)/\Below w.heap.size w w':=Any.strings_ReplaceAll Tryz.lays155 Tryz.Builder_Extra_155 s a b m w f d c hlen
open Go.RowKit Go.Lib in
theorem Tryz.lays264:Go.Proofs.Lays.n264 Tryz.prog Tryz.ren:=by
 repeat' (first|kernel_rfl|exact fun _=>rfl|decide|constructor)
open Go.RowKit Go.Lib in
theorem Tryz.bits_Mul64 (x y:Nat)(hx:x<18446744073709551616)(a:y<18446744073709551616)(w:World) :
  Calls Tryz.prog 202 #[.int .u64 x,.int .u64 y] w fun e w'=>e=.returned (.tuple #[.int .u64 ((x*y / 18446744073709551616:Nat):Int),.int .u64 ((x*y%18446744073709551616:Nat):Int)])/\w'=w:=Any.bits_Mul64 Tryz.lays264 x y hx a w
theorem Tryz.lays105:Go.Proofs.Lays.n105 Tryz.prog Tryz.ren:=by
 repeat' (first|kernel_rfl|exact fun _=>rfl|decide|constructor)
theorem Tryz.Builder_Extra_105:Builder.Extra Tryz.prog Tryz.ren:=by
 repeat' (first|kernel_rfl|exact fun _=>rfl|decide|constructor)
open Go.RowKit Go.Lib in
open Go.RowKit Go.Lib in
theorem Tryz.strings_Repeat (s:ByteArray)(c:Nat)(w:World)(a:c<=9223372036854775807)(hlen:s.size*c<=140737488355328) :
  Calls Tryz.prog 115 #[.string s,.int .i64 c] w fun e w'=>e=.returned (.string ⟨(Lib.repeatL s.data.toList c).toArray⟩)/\Below w.heap.size w w':=Any.strings_Repeat Tryz.lays105 Tryz.Builder_Extra_105 s c w a hlen
theorem Tryz.lays230:Go.Proofs.Lays.n230 Tryz.prog Tryz.ren:=by
 repeat' (first|kernel_rfl|exact fun _=>rfl|decide|constructor)
theorem Tryz.Builder_Extra_230:Builder.Extra Tryz.prog Tryz.ren:=by
 repeat' (first|kernel_rfl|exact fun _=>rfl|decide|constructor)
open Go.RowKit Go.Lib in
theorem Tryz.strings_Map_grows (g:Nat)(a:Array Value)(c:∀b w,(callFunc g b).run Tryz.prog w=.ok (.enter g b) w)(f:Int->Int)(s:ByteArray)(w:World)(j:s.size<35184372088832)(h:MapGrows Tryz.prog g a f w)(i:∀x:Nat,x<=1114111->-2147483648<=f x/\f x<=2147483647)(d:Lib.Utf8Tabs 4 5 w) :
  Calls Tryz.prog 75 #[.func (.func g) #[] a,.string s] w fun e w'=>e=.returned (.string ⟨(Lib.mapD f s.data.toList).toArray⟩)/\Below w.heap.size w w':=Any.strings_Map_grows Tryz.lays230 Tryz.Builder_Extra_230 g a c f s w j h i d
theorem Tryz.lays110:Go.Proofs.Lays.n110 Tryz.prog Tryz.ren:=by
 repeat' (first|kernel_rfl|exact fun _=>rfl|decide|constructor)
open Go.Lib in
theorem Tryz.slices_Contains_string (b a n c:Nat)(zs:List ByteArray)(x:ByteArray)(w:World)(g:n<=zs.length)(d:n<=9223372036854775807)(f:∀j,j<zs.length->w.cell? ⟨b,a+j,none⟩=some (.string (zs.getD j ByteArray.empty))) :
  Calls Tryz.prog 85 #[.slice (some ⟨b,a,none⟩) n c,.string x] w fun e w'=>e=.returned (.bool (Lib.containsS (zs.take n) x))/\w'=w:=Any.slices_Contains_string Tryz.lays110 b a n c zs x w g d f
open Go.Lib in
theorem Tryz.slices_Contains_string_empty (a:Option Addr)(c:Nat)(x:ByteArray)(w:World) :
  Calls Tryz.prog 85 #[.slice a 0 c,.string x] w fun e w'=>e=.returned (.bool false)/\w'=w:=Any.slices_Contains_string_empty Tryz.lays110 a c x w
theorem Tryz.lays240:Go.Proofs.Lays.n240 Tryz.prog Tryz.ren:=by
 repeat' (first|kernel_rfl|exact fun _=>rfl|decide|constructor)
theorem Tryz.lays168:Go.Proofs.Lays.n168 Tryz.prog Tryz.ren:=by
 repeat' (first|kernel_rfl|exact fun _=>rfl|decide|constructor)
theorem Tryz.Builder_X72_240:Builder.X72 Tryz.prog Tryz.ren:=by
 repeat' (first|kernel_rfl|exact fun _=>rfl|decide|constructor)
theorem Tryz.Builder_Extra_168:Builder.Extra Tryz.prog Tryz.ren:=by
 repeat' (first|kernel_rfl|exact fun _=>rfl|decide|constructor)
open Go.RowKit in
open Go.RowKit in
open Go.RowKit in
theorem Tryz.Builder_WriteRune_k (B b:Nat)(a:List Value)(r:Int)(d:-2147483648<=r)(f:r<=2147483647)(w:World)(h:Lib.IsBuilderF 112 5 B b a w)(hlen:a.length+4<=140737488355328)(c:B<=w.heap.size) :
  Calls Tryz.prog 126 #[.pointer (some ⟨b,0,none⟩),.int .i32 r] w fun e w'=>e=.returned (.tuple #[.int .i64 (Lib.runeCells r).length,.nilIface])/\(Lib.BuilderAtF 112 5 B b (.pointer (some ⟨b,0,none⟩)) (a++Lib.runeCells r) w'/\Below B w w'/\Lib.OthersKept 5 (some b) w w'):=Any.Builder_WriteRune_k Tryz.lays168 Tryz.Builder_Extra_168 B b a r d f w h hlen c
open Go.RowKit in
theorem Tryz.Builder_copyCheck_k (B b:Nat)(a:List Value)(w:World)(h:Lib.IsBuilderF 112 5 B b a w) :
  Calls Tryz.prog 156 #[.pointer (some ⟨b,0,none⟩)] w fun e w'=>e=.returned (.tuple #[])/\(Lib.BuilderAtF 112 5 B b (.pointer (some ⟨b,0,none⟩)) a w'/\Below B w w'/\Lib.OthersKept 5 (some b) w w'):=Any.Builder_copyCheck_k Tryz.lays240 Tryz.Builder_X72_240 B b a w h
theorem Tryz.laysC174:Go.Proofs.LaysC.n174 Tryz.prog Tryz.ren:=by
 repeat' (first|kernel_rfl|exact fun _=>rfl|decide|constructor)
theorem Tryz.laysM173:Go.Proofs.LaysM.n173 Tryz.prog Tryz.ren:=by
 repeat' (first|kernel_rfl|exact fun _=>rfl|decide|constructor)
theorem Tryz.strconv_FormatInt (n:Int)(a:-9223372036854775808<=n)(b:n<=9223372036854775807)(w:World)(c:Lib.TabIs Tryz.prog w "internal/strconv.uint64pow10" .u64 Lib.pow10Tab) :
  Calls Tryz.prog 225 #[.int .i64 n,.int .i64 10] w fun e w'=>e=.returned (.string ⟨(Lib.itoa n).toArray⟩)/\∃k os,w'=Sort.grow (w.drewN k) os:=Any.strconv_FormatInt_10 Tryz.laysM173 n a b w c
theorem Tryz.strconv_ParseInt (s:ByteArray)(a:s.size<=9223372036854775806)(v:Int)(h:Lib.parseIntB 64 s.data.toList=.ok v)(w:World) :
  Calls Tryz.prog 224 #[.string s,.int .i64 10,.int .i64 64] w fun e w'=>e=.returned (.tuple #[.int .i64 v,.nilIface])/\(w'=w\/∃t,w'=Lib.bytesWorld w 5 t):=Any.strconv_ParseInt_10_at64_ok Tryz.laysC174 s a v h w
