/-
  policy.form at each of its keys (printed by wip/gen/formv.py).
  policy.Value, of every element, attribute and value: what it answers.
-/
import Derived.Test.YtcfgbdhpcboikaaGreatDoorTxtB
namespace Go.Proofs.YtcfgbdhpcboikaaGreatDoor
set_option maxHeartbeats 2000000
set_option maxRecDepth 100000
open Go.RowKit
theorem pwhole_any (v:ByteArray)(lo hi:Nat)(n:Int)(b:Bool)(h:WholeRet v lo hi n b)(w:World):Calls Tryz.prog 144 #[.string v,.int .i64 lo,.int .i64 hi] w fun e w'=>e=.returned (.tuple #[.string v,.bool b])∧Below w.heap.size w w':=by
 have H1:=Lib.hid h.one
 clear h
 go_enter Tryz.func144,Tryz.ntmps144
 go_wp2_with fail
 refine(H1.out _).mono ?_
 rintro e w1 ⟨rfl,B1⟩
 have HB:=Lib.hid B1
 clear B1
 go_wp2
 go_ret2
 exact⟨rfl,HB.out⟩
theorem form_lang (e v:ByteArray)(hv:v.size≤140737488355328)(b:Bool)(hb:Hid (b=true↔langP v)):FormAt e sLang v v b:=by
 intro w T
 have HL:=Lib.hid (lang_any v hv b hb)
 clear T
 unfold sLang
 go_enter Tryz.func83,Tryz.ntmps83
 go_wp2_with fail
 refine(HL.out _).mono ?_
 rintro x w1 ⟨rfl,B1⟩
 have HB:=Lib.hid B1
 clear B1
 go_wp2
 go_ret2
 exact⟨rfl,HB.out⟩
theorem cat1_1:(⟨#[105,109,103]⟩:ByteArray)++⟨#[32]⟩=⟨#[105,109,103,32]⟩:=by decide
theorem cat2_1:(⟨#[105,109,103,32]⟩:ByteArray)++⟨#[115,114,99]⟩=⟨#[105,109,103,32,115,114,99]⟩:=by decide
theorem form_imgsrc (v:ByteArray)(b:Bool)(hb:Hid (linkOk zSrc (linkL v.data.toList)=b))(hv:v.size≤1000000000):FormAt sImg sSrc v (linkB v) b:=by
 intro w T
 have HT:=Lib.hid T
 clear T
 unfold sImg sSrc
 have c1:=cat1_1
 have c2:=cat2_1
 go_enter Tryz.func83,Tryz.ntmps83
 go_wp2_with fail
 have hB:Below w.heap.size w (w.alloc (.cells #[Value.string ⟨#[104,116,116,112]⟩,Value.string ⟨#[104,116,116,112,115]⟩] 9)):=(Below.refl _ w).alloc (Nat.le_refl _) _
 have hS:StrsAt (w.alloc (.cells #[Value.string ⟨#[104,116,116,112]⟩,Value.string ⟨#[104,116,116,112,115]⟩] 9)) w.heap.size 0 zSrc:=by
  intro j hj
  rw[Nat.zero_add,cell_of_row _ w.heap.size j _ 9 (0,0) (heap_alloc_new w _)]
  have:∀ j<2,(#[Value.string ⟨#[104,116,116,112]⟩,Value.string ⟨#[104,116,116,112,115]⟩]:Array Value)[j]?=some (Value.string (zSrc.getD j ByteArray.empty)):=by
   intro j hj
   match j,hj with
   | 0,_=>rfl
   | 1,_=>rfl
  exact this j hj
 refine(linkf_any v hv w.heap.size 0 2 2 zSrc rfl (by omega) _ (HT.out.below hB (Nat.le_refl _)) hS (by simp) b hb).mono ?_
 rintro x W1 ⟨rfl,B1⟩
 have HB1:=Lib.hid (hB.trans (B1.mono (by simp)))
 clear B1 hB hS
 go_wp2
 go_ret2
 exact⟨rfl,HB1.out⟩
theorem cat1_2:(⟨#[105,109,103]⟩:ByteArray)++⟨#[32]⟩=⟨#[105,109,103,32]⟩:=by decide
theorem cat2_2:(⟨#[105,109,103,32]⟩:ByteArray)++⟨#[97,108,116]⟩=⟨#[105,109,103,32,97,108,116]⟩:=by decide
theorem form_imgalt (v:ByteArray)(hv:v.size≤1000000000):FormAt sImg sAlt v (textB v) true:=by
 intro w T
 have HX:=Lib.hid (text_any v hv w T)
 clear T
 unfold sImg sAlt
 have c1:=cat1_2
 have c2:=cat2_2
 go_enter Tryz.func83,Tryz.ntmps83
 go_wp2_with fail
 refine HX.out.mono ?_
 rintro x W1 ⟨rfl,B1⟩
 have HB1:=Lib.hid B1
 clear B1
 go_wp2
 go_ret2
 exact⟨rfl,HB1.out⟩
theorem cat1_3:(⟨#[105,109,103]⟩:ByteArray)++⟨#[32]⟩=⟨#[105,109,103,32]⟩:=by decide
theorem cat2_3:(⟨#[105,109,103,32]⟩:ByteArray)++⟨#[104,101,105,103,104,116]⟩=⟨#[105,109,103,32,104,101,105,103,104,116]⟩:=by decide
theorem form_imgheight (v:ByteArray)(x:Int)(b:Bool)(h:WholeRet v 0 9999 x b):FormAt sImg sHeight v v b:=by
 intro w T
 have HX:=Lib.hid (pwhole_any v 0 9999 x b h)
 clear T
 unfold sImg sHeight
 have c1:=cat1_3
 have c2:=cat2_3
 go_enter Tryz.func83,Tryz.ntmps83
 go_wp2_with fail
 refine(HX.out _).mono ?_
 rintro x W1 ⟨rfl,B1⟩
 have HB1:=Lib.hid B1
 clear B1
 go_wp2
 go_ret2
 exact⟨rfl,HB1.out⟩
theorem cat1_4:(⟨#[105,109,103]⟩:ByteArray)++⟨#[32]⟩=⟨#[105,109,103,32]⟩:=by decide
theorem cat2_4:(⟨#[105,109,103,32]⟩:ByteArray)++⟨#[119,105,100,116,104]⟩=⟨#[105,109,103,32,119,105,100,116,104]⟩:=by decide
theorem form_imgwidth (v:ByteArray)(x:Int)(b:Bool)(h:WholeRet v 0 9999 x b):FormAt sImg sWidth v v b:=by
 intro w T
 have HX:=Lib.hid (pwhole_any v 0 9999 x b h)
 clear T
 unfold sImg sWidth
 have c1:=cat1_4
 have c2:=cat2_4
 go_enter Tryz.func83,Tryz.ntmps83
 go_wp2_with fail
 refine(HX.out _).mono ?_
 rintro x W1 ⟨rfl,B1⟩
 have HB1:=Lib.hid B1
 clear B1
 go_wp2
 go_ret2
 exact⟨rfl,HB1.out⟩
theorem cat1_5:(⟨#[111,108]⟩:ByteArray)++⟨#[32]⟩=⟨#[111,108,32]⟩:=by decide
theorem cat2_5:(⟨#[111,108,32]⟩:ByteArray)++⟨#[115,116,97,114,116]⟩=⟨#[111,108,32,115,116,97,114,116]⟩:=by decide
theorem form_olstart (v:ByteArray)(x:Int)(b:Bool)(h:WholeRet v 0 999999 x b):FormAt sOl sStart v v b:=by
 intro w T
 have HX:=Lib.hid (pwhole_any v 0 999999 x b h)
 clear T
 unfold sOl sStart
 have c1:=cat1_5
 have c2:=cat2_5
 go_enter Tryz.func83,Tryz.ntmps83
 go_wp2_with fail
 refine(HX.out _).mono ?_
 rintro x W1 ⟨rfl,B1⟩
 have HB1:=Lib.hid B1
 clear B1
 go_wp2
 go_ret2
 exact⟨rfl,HB1.out⟩
theorem cat1_6:(⟨#[116,100]⟩:ByteArray)++⟨#[32]⟩=⟨#[116,100,32]⟩:=by decide
theorem cat2_6:(⟨#[116,100,32]⟩:ByteArray)++⟨#[99,111,108,115,112,97,110]⟩=⟨#[116,100,32,99,111,108,115,112,97,110]⟩:=by decide
theorem form_tdcolspan (v:ByteArray)(x:Int)(b:Bool)(h:WholeRet v 1 1000 x b):FormAt sTd sColspan v v b:=by
 intro w T
 have HX:=Lib.hid (pwhole_any v 1 1000 x b h)
 clear T
 unfold sTd sColspan
 have c1:=cat1_6
 have c2:=cat2_6
 go_enter Tryz.func83,Tryz.ntmps83
 go_wp2_with fail
 refine(HX.out _).mono ?_
 rintro x W1 ⟨rfl,B1⟩
 have HB1:=Lib.hid B1
 clear B1
 go_wp2
 go_ret2
 exact⟨rfl,HB1.out⟩
theorem cat1_7:(⟨#[116,100]⟩:ByteArray)++⟨#[32]⟩=⟨#[116,100,32]⟩:=by decide
theorem cat2_7:(⟨#[116,100,32]⟩:ByteArray)++⟨#[114,111,119,115,112,97,110]⟩=⟨#[116,100,32,114,111,119,115,112,97,110]⟩:=by decide
theorem form_tdrowspan (v:ByteArray)(x:Int)(b:Bool)(h:WholeRet v 1 1000 x b):FormAt sTd sRowspan v v b:=by
 intro w T
 have HX:=Lib.hid (pwhole_any v 1 1000 x b h)
 clear T
 unfold sTd sRowspan
 have c1:=cat1_7
 have c2:=cat2_7
 go_enter Tryz.func83,Tryz.ntmps83
 go_wp2_with fail
 refine(HX.out _).mono ?_
 rintro x W1 ⟨rfl,B1⟩
 have HB1:=Lib.hid B1
 clear B1
 go_wp2
 go_ret2
 exact⟨rfl,HB1.out⟩
theorem cat1_8:(⟨#[116,104]⟩:ByteArray)++⟨#[32]⟩=⟨#[116,104,32]⟩:=by decide
theorem cat2_8:(⟨#[116,104,32]⟩:ByteArray)++⟨#[99,111,108,115,112,97,110]⟩=⟨#[116,104,32,99,111,108,115,112,97,110]⟩:=by decide
theorem form_thcolspan (v:ByteArray)(x:Int)(b:Bool)(h:WholeRet v 1 1000 x b):FormAt sTh sColspan v v b:=by
 intro w T
 have HX:=Lib.hid (pwhole_any v 1 1000 x b h)
 clear T
 unfold sTh sColspan
 have c1:=cat1_8
 have c2:=cat2_8
 go_enter Tryz.func83,Tryz.ntmps83
 go_wp2_with fail
 refine(HX.out _).mono ?_
 rintro x W1 ⟨rfl,B1⟩
 have HB1:=Lib.hid B1
 clear B1
 go_wp2
 go_ret2
 exact⟨rfl,HB1.out⟩
theorem cat1_9:(⟨#[116,104]⟩:ByteArray)++⟨#[32]⟩=⟨#[116,104,32]⟩:=by decide
theorem cat2_9:(⟨#[116,104,32]⟩:ByteArray)++⟨#[114,111,119,115,112,97,110]⟩=⟨#[116,104,32,114,111,119,115,112,97,110]⟩:=by decide
theorem form_throwspan (v:ByteArray)(x:Int)(b:Bool)(h:WholeRet v 1 1000 x b):FormAt sTh sRowspan v v b:=by
 intro w T
 have HX:=Lib.hid (pwhole_any v 1 1000 x b h)
 clear T
 unfold sTh sRowspan
 have c1:=cat1_9
 have c2:=cat2_9
 go_enter Tryz.func83,Tryz.ntmps83
 go_wp2_with fail
 refine(HX.out _).mono ?_
 rintro x W1 ⟨rfl,B1⟩
 have HB1:=Lib.hid B1
 clear B1
 go_wp2
 go_ret2
 exact⟨rfl,HB1.out⟩
theorem cat1_10:(⟨#[109,101,116,101,114]⟩:ByteArray)++⟨#[32]⟩=⟨#[109,101,116,101,114,32]⟩:=by decide
theorem cat2_10:(⟨#[109,101,116,101,114,32]⟩:ByteArray)++⟨#[109,97,120]⟩=⟨#[109,101,116,101,114,32,109,97,120]⟩:=by decide
theorem form_metermax (v t:ByteArray)(b:Bool)(h:∀ w,Tabs w→Calls Tryz.prog 20 #[.string v] w fun e w'=>e=.returned (.tuple #[.string t,.bool b])∧Below w.heap.size w w'):FormAt sMeter sMax v t b:=by
 intro w T
 have HX:=Lib.hid (h w T)
 clear T h
 unfold sMeter sMax
 have c1:=cat1_10
 have c2:=cat2_10
 go_enter Tryz.func83,Tryz.ntmps83
 go_wp2_with fail
 refine HX.out.mono ?_
 rintro x W1 ⟨rfl,B1⟩
 have HB1:=Lib.hid B1
 clear B1
 go_wp2
 go_ret2
 exact⟨rfl,HB1.out⟩
theorem cat1_11:(⟨#[109,101,116,101,114]⟩:ByteArray)++⟨#[32]⟩=⟨#[109,101,116,101,114,32]⟩:=by decide
theorem cat2_11:(⟨#[109,101,116,101,114,32]⟩:ByteArray)++⟨#[118,97,108,117,101]⟩=⟨#[109,101,116,101,114,32,118,97,108,117,101]⟩:=by decide
theorem form_metervalue (v t:ByteArray)(b:Bool)(h:∀ w,Tabs w→Calls Tryz.prog 20 #[.string v] w fun e w'=>e=.returned (.tuple #[.string t,.bool b])∧Below w.heap.size w w'):FormAt sMeter sValue v t b:=by
 intro w T
 have HX:=Lib.hid (h w T)
 clear T h
 unfold sMeter sValue
 have c1:=cat1_11
 have c2:=cat2_11
 go_enter Tryz.func83,Tryz.ntmps83
 go_wp2_with fail
 refine HX.out.mono ?_
 rintro x W1 ⟨rfl,B1⟩
 have HB1:=Lib.hid B1
 clear B1
 go_wp2
 go_ret2
 exact⟨rfl,HB1.out⟩
theorem cat1_12:(⟨#[109,101,116,101,114]⟩:ByteArray)++⟨#[32]⟩=⟨#[109,101,116,101,114,32]⟩:=by decide
theorem cat2_12:(⟨#[109,101,116,101,114,32]⟩:ByteArray)++⟨#[104,105,103,104]⟩=⟨#[109,101,116,101,114,32,104,105,103,104]⟩:=by decide
theorem form_meterhigh (v t:ByteArray)(b:Bool)(h:∀ w,Tabs w→Calls Tryz.prog 20 #[.string v] w fun e w'=>e=.returned (.tuple #[.string t,.bool b])∧Below w.heap.size w w'):FormAt sMeter sHigh v t b:=by
 intro w T
 have HX:=Lib.hid (h w T)
 clear T h
 unfold sMeter sHigh
 have c1:=cat1_12
 have c2:=cat2_12
 go_enter Tryz.func83,Tryz.ntmps83
 go_wp2_with fail
 refine HX.out.mono ?_
 rintro x W1 ⟨rfl,B1⟩
 have HB1:=Lib.hid B1
 clear B1
 go_wp2
 go_ret2
 exact⟨rfl,HB1.out⟩
theorem cat1_13:(⟨#[109,101,116,101,114]⟩:ByteArray)++⟨#[32]⟩=⟨#[109,101,116,101,114,32]⟩:=by decide
theorem cat2_13:(⟨#[109,101,116,101,114,32]⟩:ByteArray)++⟨#[108,111,119]⟩=⟨#[109,101,116,101,114,32,108,111,119]⟩:=by decide
theorem form_meterlow (v t:ByteArray)(b:Bool)(h:∀ w,Tabs w→Calls Tryz.prog 20 #[.string v] w fun e w'=>e=.returned (.tuple #[.string t,.bool b])∧Below w.heap.size w w'):FormAt sMeter sLow v t b:=by
 intro w T
 have HX:=Lib.hid (h w T)
 clear T h
 unfold sMeter sLow
 have c1:=cat1_13
 have c2:=cat2_13
 go_enter Tryz.func83,Tryz.ntmps83
 go_wp2_with fail
 refine HX.out.mono ?_
 rintro x W1 ⟨rfl,B1⟩
 have HB1:=Lib.hid B1
 clear B1
 go_wp2
 go_ret2
 exact⟨rfl,HB1.out⟩
theorem cat1_14:(⟨#[109,101,116,101,114]⟩:ByteArray)++⟨#[32]⟩=⟨#[109,101,116,101,114,32]⟩:=by decide
theorem cat2_14:(⟨#[109,101,116,101,114,32]⟩:ByteArray)++⟨#[109,105,110]⟩=⟨#[109,101,116,101,114,32,109,105,110]⟩:=by decide
theorem form_metermin (v t:ByteArray)(b:Bool)(h:∀ w,Tabs w→Calls Tryz.prog 20 #[.string v] w fun e w'=>e=.returned (.tuple #[.string t,.bool b])∧Below w.heap.size w w'):FormAt sMeter sMin v t b:=by
 intro w T
 have HX:=Lib.hid (h w T)
 clear T h
 unfold sMeter sMin
 have c1:=cat1_14
 have c2:=cat2_14
 go_enter Tryz.func83,Tryz.ntmps83
 go_wp2_with fail
 refine HX.out.mono ?_
 rintro x W1 ⟨rfl,B1⟩
 have HB1:=Lib.hid B1
 clear B1
 go_wp2
 go_ret2
 exact⟨rfl,HB1.out⟩
theorem cat1_15:(⟨#[112,114,111,103,114,101,115,115]⟩:ByteArray)++⟨#[32]⟩=⟨#[112,114,111,103,114,101,115,115,32]⟩:=by decide
theorem cat2_15:(⟨#[112,114,111,103,114,101,115,115,32]⟩:ByteArray)++⟨#[109,97,120]⟩=⟨#[112,114,111,103,114,101,115,115,32,109,97,120]⟩:=by decide
theorem form_progressmax (v t:ByteArray)(b:Bool)(h:∀ w,Tabs w→Calls Tryz.prog 20 #[.string v] w fun e w'=>e=.returned (.tuple #[.string t,.bool b])∧Below w.heap.size w w'):FormAt sProgress sMax v t b:=by
 intro w T
 have HX:=Lib.hid (h w T)
 clear T h
 unfold sProgress sMax
 have c1:=cat1_15
 have c2:=cat2_15
 go_enter Tryz.func83,Tryz.ntmps83
 go_wp2_with fail
 refine HX.out.mono ?_
 rintro x W1 ⟨rfl,B1⟩
 have HB1:=Lib.hid B1
 clear B1
 go_wp2
 go_ret2
 exact⟨rfl,HB1.out⟩
theorem cat1_16:(⟨#[112,114,111,103,114,101,115,115]⟩:ByteArray)++⟨#[32]⟩=⟨#[112,114,111,103,114,101,115,115,32]⟩:=by decide
theorem cat2_16:(⟨#[112,114,111,103,114,101,115,115,32]⟩:ByteArray)++⟨#[118,97,108,117,101]⟩=⟨#[112,114,111,103,114,101,115,115,32,118,97,108,117,101]⟩:=by decide
theorem form_progressvalue (v t:ByteArray)(b:Bool)(h:∀ w,Tabs w→Calls Tryz.prog 20 #[.string v] w fun e w'=>e=.returned (.tuple #[.string t,.bool b])∧Below w.heap.size w w'):FormAt sProgress sValue v t b:=by
 intro w T
 have HX:=Lib.hid (h w T)
 clear T h
 unfold sProgress sValue
 have c1:=cat1_16
 have c2:=cat2_16
 go_enter Tryz.func83,Tryz.ntmps83
 go_wp2_with fail
 refine HX.out.mono ?_
 rintro x W1 ⟨rfl,B1⟩
 have HB1:=Lib.hid B1
 clear B1
 go_wp2
 go_ret2
 exact⟨rfl,HB1.out⟩
def formTab:List (List UInt8 × List UInt8):=[([97],[104,114,101,102]),([105,109,103],[115,114,99]),([105,109,103],[97,108,116]),([105,109,103],[104,101,105,103,104,116]),([105,109,103],[119,105,100,116,104]),([111,108],[115,116,97,114,116]),([116,100],[99,111,108,115,112,97,110]),([116,100],[114,111,119,115,112,97,110]),([116,104],[99,111,108,115,112,97,110]),([116,104],[114,111,119,115,112,97,110]),([109,101,116,101,114],[109,97,120]),([109,101,116,101,114],[118,97,108,117,101]),([109,101,116,101,114],[104,105,103,104]),([109,101,116,101,114],[108,111,119]),([109,101,116,101,114],[109,105,110]),([112,114,111,103,114,101,115,115],[109,97,120]),([112,114,111,103,114,101,115,115],[118,97,108,117,101])]
def formKeys:List (List UInt8):=[[97,32,104,114,101,102],[105,109,103,32,115,114,99],[105,109,103,32,97,108,116],[105,109,103,32,104,101,105,103,104,116],[105,109,103,32,119,105,100,116,104],[111,108,32,115,116,97,114,116],[116,100,32,99,111,108,115,112,97,110],[116,100,32,114,111,119,115,112,97,110],[116,104,32,99,111,108,115,112,97,110],[116,104,32,114,111,119,115,112,97,110],[109,101,116,101,114,32,109,97,120],[109,101,116,101,114,32,118,97,108,117,101],[109,101,116,101,114,32,104,105,103,104],[109,101,116,101,114,32,108,111,119],[109,101,116,101,114,32,109,105,110],[112,114,111,103,114,101,115,115,32,109,97,120],[112,114,111,103,114,101,115,115,32,118,97,108,117,101]]
theorem results_two {P:Program}{fn:Func}{s t:Nat}{tmps:Array Value}{u v:Value}(w:World)(h:fn.results=#[.tmp s,.tmp t])(hu:tmps.getD s undef=u)(hv:tmps.getD t undef=v):(results fn tmps).run P w=.ok (.tuple #[u,v]) w:=by
 unfold results
 rw[h]
 rw[Array.getD_eq_getD_getElem?] at hu hv
 simp[hu,hv]
theorem chain_two {P:Program}{Q:Exit→Act→World→Prop}{w:World}{s:ByteArray}{k n:Nat}{B C:TypeId}{t1 t2:Nat}{v1 v2:Value}{rid:Nat}{p1 p2:String}{f1 f2:Array Edge}{a:Act}(hC:Chain s k n a)(ht:(t1 !=k&&t2 !=k&&t1 !=t2&&decide (t1<n)&&decide (t2<n))=true)
  (h:∀ a',Chain s k n a'→a'.eval (.tmp t1)=v1→a'.eval (.tmp t2)=v2→Q .normal a' w) :
  (Code.region rid #[{ dst:=some t1,op:=Op.assign (Operand.const v1),type:=B,pos:=p1,after:=f1,guard:=none },{ dst:=some t2,op:=Op.assign (Operand.const v2),type:=C,pos:=p2,after:=f2,guard:=none }] false).wp P Q a w:=by
 simp only[Bool.and_eq_true,bne_iff_ne,ne_eq,decide_eq_true_eq] at ht
 have h1:=hC.put t1 v1 ht.1.1.1.1
 have e1:=eval_put (a:=a) (t:=t1) (v:=v1) (by rw[hC.size];exact ht.1.2)
 have h2:=h1.put t2 v2 ht.1.1.1.2
 have e2:=eval_put (a:=a.put (some t1) v1) (t:=t2) (v:=v2) (by rw[h1.size];exact ht.2)
 have e3:((a.put (some t1) v1).put (some t2) v2).eval (.tmp t1)=v1:=by
  rw[← e1]
  simp[Act.eval,Act.put,Array.getD_eq_getD_getElem?,Ne.symm ht.1.1.2]
  intro x y
  omega
 have ec:a.eval (.const v1)=v1:=rfl
 have ec2:(a.put (some t1) v1).eval (.const v2)=v2:=rfl
 refine wp_region_lit (l:=[_,_]) ?_
 refine wpList_plain rfl fun K hK=>?_
 have hx:=hK _ _ (wpList_plain (P:=P) (w:=w) (rest:=[]) (o:={ dst:=some t2,op:=Op.assign (Operand.const v2),type:=C,pos:=p2,after:=f2,guard:=none }) (a:=a.put (some t1) v1) rfl fun K2 hK2=>by
  have:=hK2 _ _ (wpList_nil (h _ h2 e3 e2))
  unfold Oper.wp
  simp[execOp,ec2,Oper.upon]
  exact this)
 unfold Oper.wp
 simp[execOp,ec,Oper.upon]
 exact hx
theorem form_none (e n v:ByteArray)(he:e.size≤1000000000)(hn:n.size≤1000000000)(K:ByteArray)(hK:Hid (K=e++⟨#[32]⟩++n))(h1:(n.toList==[116,105,116,108,101])=false)(h2:(n.toList==[108,97,110,103])=false)(h3:(n.toList==[100,105,114])=false)
  (hN:Hid (∀ l:List UInt8,formKeys.contains l=true→(K.toList==(⟨l.toArray⟩:ByteArray).toList)=false)):FormAt e n v ⟨#[]⟩ false:=by
 intro w T
 clear T
 have ek:e++⟨#[32]⟩++n=K:=hK.out.symm
 go_enter Tryz.func83,Tryz.ntmps83
 go_upto_region 15 with fail
 rename_i _ k1 a1 k0 a0
 refine chain_no 9 K _ 37 90 (hN.out _ (by decide +kernel)) ⟨rfl,rfl,rfl⟩ rfl ?_
 intro a hC hb
 repeat' (first
  | (refine chain_no 9 K _ 37 90 (hN.out _ (by decide +kernel)) hC rfl ?_;clear hC;intro a hC hb)
  | (with_reducible refine then_normal ?_)
  | (with_reducible refine block_normal ?_)
  | (with_reducible refine wp_cond_false hb ?_)
  | (with_reducible refine wp_seq ?_)
  | (with_reducible refine wp_skip ?_)
  | (with_reducible refine a0 _ _ ?_)
  | (with_reducible refine a1 _ _ ?_))
 refine chain_two hC rfl ?_
 clear hC hb
 intro a hC h6 h7
 refine then_normal (wp_ret ?_)
 exact⟨hC.defers,_,results_two w rfl h6 h7,rfl,Below.refl _ _⟩
open Go.RowKit
theorem split_one (a b x y:List UInt8)(c:UInt8)(h:a++c :: b=x++c :: y)(hx:c∉x)(hy:c∉y):a=x∧b=y:=by
 rcases List.append_eq_append_iff.1 h with⟨l,h1,h2⟩|⟨l,h1,h2⟩
 ·cases l with
  | nil =>
   simp only[List.nil_append,List.cons.injEq,true_and] at h2
   exact⟨by rw[h1,List.append_nil],h2⟩
  | cons d l =>
   simp only[List.cons_append,List.cons.injEq] at h2
   exact absurd (by rw[h1,h2.1];simp) hx
 ·cases l with
  | nil =>
   simp only[List.nil_append,List.cons.injEq,true_and] at h2
   exact⟨by rw[h1,List.append_nil],h2.symm⟩
  | cons d l =>
   simp only[List.cons_append,List.cons.injEq] at h2
   exact absurd (by rw[h2.2];simp) hy
theorem form_keys:formKeys=formTab.map (fun p=>p.1++32 :: p.2):=by decide
theorem form_tab:∀ p∈formTab,(32:UInt8)∉p.1∧(32:UInt8)∉p.2∧fkind ⟨p.1.toArray⟩ ⟨p.2.toArray⟩≠.none:=by decide +kernel
theorem key_none {e n:ByteArray}(h:fkind e n=.none)(l:List UInt8)(hl:formKeys.contains l=true):((e++⟨#[32]⟩++n).toList==(⟨l.toArray⟩:ByteArray).toList)=false:=by
 rw[beq_eq_false_iff_ne,toList_data,toList_data]
 intro he
 rw[form_keys] at hl
 have hl2:l∈formTab.map (fun p=>p.1++32 :: p.2):=by
  rw[List.contains_iff_mem] at hl
  exact hl
 obtain⟨p,hp,e1⟩:=List.mem_map.1 hl2
 obtain⟨p1,p2,p3⟩:=form_tab p hp
 have he2:e.data.toList++32 :: n.data.toList=p.1++32 :: p.2:=by
  have e3:(e++⟨#[32]⟩++n).data.toList=e.data.toList++32 :: n.data.toList:=by simp
  rw[← e3,he,← e1]
 obtain⟨h1,h2⟩:=split_one _ _ _ _ _ he2 p1 p2
 refine p3 ?_
 rw[← h1,← h2]
 exact h
theorem textB_size (v:ByteArray):(textB v).size≤3*v.size:=text_size v.data.toList
theorem linkB_size (v:ByteArray):(linkB v).size≤3*v.size:=link_size v.data.toList
theorem dirP_size {v:ByteArray}(h:dirP v):v.size≤4:=by rcases h with rfl|rfl|rfl<;>decide
theorem fkind_none_title {e n:ByteArray}(h:fkind e n=.none):n≠sTitle∧n≠sLang∧n≠sDir:=by
 unfold fkind at h
 refine⟨fun c=>?_,fun c=>?_,fun c=>?_⟩
 ·rw[if_pos c] at h;cases h
 ·by_cases d:n=sTitle
  ·rw[if_pos d] at h;cases h
  ·rw[if_neg d,if_pos c] at h;cases h
 ·by_cases d:n=sTitle
  ·rw[if_pos d] at h;cases h
  ·by_cases d2:n=sLang
   ·rw[if_neg d,if_pos d2] at h;cases h
   ·rw[if_neg d,if_neg d2,if_pos c] at h;cases h
theorem isFix_cases {e n:ByteArray}(h:isFix e n=true):(e=sMeter∧(n=sMax∨n=sValue∨n=sHigh∨n=sLow∨n=sMin))∨(e=sProgress∧(n=sMax∨n=sValue)):=by
 unfold isFix at h
 simp only[Bool.or_eq_true,Bool.and_eq_true,decide_eq_true_eq] at h
 rcases h with⟨h1,h2⟩|⟨h1,h2⟩
 ·refine .inl ⟨h1,?_⟩
  rcases h2 with(((h|h)|h)|h)|h
  ·exact .inl h
  ·exact .inr (.inl h)
  ·exact .inr (.inr (.inl h))
  ·exact .inr (.inr (.inr (.inl h)))
  ·exact .inr (.inr (.inr (.inr h)))
 ·exact .inr ⟨h1,h2⟩
theorem form_fix {e n v t:ByteArray}{b:Bool}(h:isFix e n=true)(H:∀ w,Tabs w→Calls Tryz.prog 20 #[.string v] w fun e w'=>e=.returned (.tuple #[.string t,.bool b])∧Below w.heap.size w w'):FormAt e n v t b:=by
 rcases isFix_cases h with⟨rfl,h|h|h|h|h⟩|⟨rfl,h|h⟩<;>subst h
 ·exact form_metermax v t b H
 ·exact form_metervalue v t b H
 ·exact form_meterhigh v t b H
 ·exact form_meterlow v t b H
 ·exact form_metermin v t b H
 ·exact form_progressmax v t b H
 ·exact form_progressvalue v t b H
theorem form_w3 {e n v:ByteArray}{x:Int}{b:Bool}(h:(e=sTd∨e=sTh)∧(n=sColspan∨n=sRowspan))(H:WholeRet v 1 1000 x b):FormAt e n v v b:=by
 rcases h with⟨rfl|rfl,rfl|rfl⟩
 ·exact form_tdcolspan v x b H
 ·exact form_tdrowspan v x b H
 ·exact form_thcolspan v x b H
 ·exact form_throwspan v x b H
theorem form_w1 {e n v:ByteArray}{x:Int}{b:Bool}(h:e=sImg∧(n=sHeight∨n=sWidth))(H:WholeRet v 0 9999 x b):FormAt e n v v b:=by
 rcases h with⟨rfl,rfl|rfl⟩
 ·exact form_imgheight v x b H
 ·exact form_imgwidth v x b H
theorem form_w2 {e n v:ByteArray}{x:Int}{b:Bool}(h:e=sOl∧n=sStart)(H:WholeRet v 0 999999 x b):FormAt e n v v b:=by
 rcases h with⟨rfl,rfl⟩
 exact form_olstart v x b H
theorem form_some (e n v t:ByteArray)(hs:v.size≤1048576)(h:FormR (fkind e n) v (some t)):FormAt e n v t true∧t.size≤4000000:=by
 have ht:=textB_size v
 have hl:=linkB_size v
 unfold fkind at h
 by_cases c0:n=sTitle
 ·rw[if_pos c0] at h
  subst c0
  have h':t=textB v:=h
  subst h'
  exact⟨form_title e v (by omega),by omega⟩
 rw[if_neg c0] at h
 by_cases c1:n=sLang
 ·rw[if_pos c1] at h
  subst c1
  obtain⟨hp,rfl⟩:=h
  exact⟨form_lang e t (by omega) true (Lib.hid ⟨fun _=>hp,fun _=>rfl⟩),by omega⟩
 rw[if_neg c1] at h
 by_cases c2:n=sDir
 ·rw[if_pos c2] at h
  subst c2
  obtain⟨hp,rfl⟩:=h
  exact⟨form_dir e v _ true (by omega) (Lib.hid ⟨fun _=>⟨rfl,rfl⟩,fun hn=>absurd hp hn⟩),by have:=dirP_size hp;omega⟩
 rw[if_neg c2] at h
 by_cases c3:e=sA∧n=sHref
 ·rw[if_pos c3] at h
  obtain⟨rfl,rfl⟩:=c3
  obtain⟨hp,rfl⟩:=h
  exact⟨form_ahref v true (Lib.hid hp) (by omega),by omega⟩
 rw[if_neg c3] at h
 by_cases c4:e=sImg∧n=sSrc
 ·rw[if_pos c4] at h
  obtain⟨rfl,rfl⟩:=c4
  obtain⟨hp,rfl⟩:=h
  exact⟨form_imgsrc v true (Lib.hid hp) (by omega),by omega⟩
 rw[if_neg c4] at h
 by_cases c9:e=sImg∧n=sAlt
 ·rw[if_pos c9] at h
  obtain⟨rfl,rfl⟩:=c9
  have h':t=textB v:=h
  subst h'
  exact⟨form_imgalt v (by omega),by omega⟩
 rw[if_neg c9] at h
 by_cases c5:e=sImg∧(n=sHeight∨n=sWidth)
 ·rw[if_pos c5] at h
  obtain⟨⟨x,hx⟩,rfl⟩:=h
  exact⟨form_w1 c5 hx,by omega⟩
 rw[if_neg c5] at h
 by_cases c6:e=sOl∧n=sStart
 ·rw[if_pos c6] at h
  obtain⟨⟨x,hx⟩,rfl⟩:=h
  exact⟨form_w2 c6 hx,by omega⟩
 rw[if_neg c6] at h
 by_cases c7:(e=sTd∨e=sTh)∧(n=sColspan∨n=sRowspan)
 ·rw[if_pos c7] at h
  obtain⟨⟨x,hx⟩,rfl⟩:=h
  exact⟨form_w3 c7 hx,by omega⟩
 rw[if_neg c7] at h
 by_cases c8:isFix e n=true
 ·rw[if_pos c8] at h
  exact⟨form_fix c8 h.yes,by have:=h.sz;omega⟩
 rw[if_neg c8] at h
 exact h.elim
theorem form_no (e n v:ByteArray)(he:e.size≤1000000000)(hn:n.size≤1000000000)(hs:v.size≤1048576)(h:FormR (fkind e n) v none):∃ t,FormAt e n v t false:=by
 by_cases hk:fkind e n=.none
 ·obtain⟨k1,k2,k3⟩:=fkind_none_title hk
  exact⟨_,form_none e n v he hn _ (Lib.hid rfl) (dir_neL _ k1 rfl) (dir_neL _ k2 rfl) (dir_neL _ k3 rfl) (Lib.hid (key_none hk))⟩
 unfold fkind at h hk
 by_cases c0:n=sTitle
 ·rw[if_pos c0] at h
  exact h.elim
 rw[if_neg c0] at h hk
 by_cases c1:n=sLang
 ·rw[if_pos c1] at h
  subst c1
  exact⟨v,form_lang e v (by omega) false (Lib.hid (Iff.intro (fun hh=>by cases hh) (fun hh=>absurd hh h)))⟩
 rw[if_neg c1] at h hk
 by_cases c2:n=sDir
 ·rw[if_pos c2] at h
  subst c2
  exact⟨⟨#[]⟩,form_dir e v _ false (by omega) (Lib.hid ⟨fun hh=>absurd hh h,fun _=>⟨rfl,rfl⟩⟩)⟩
 rw[if_neg c2] at h hk
 by_cases c3:e=sA∧n=sHref
 ·rw[if_pos c3] at h
  obtain⟨rfl,rfl⟩:=c3
  exact⟨_,form_ahref v false (Lib.hid h) (by omega)⟩
 rw[if_neg c3] at h hk
 by_cases c4:e=sImg∧n=sSrc
 ·rw[if_pos c4] at h
  obtain⟨rfl,rfl⟩:=c4
  exact⟨_,form_imgsrc v false (Lib.hid h) (by omega)⟩
 rw[if_neg c4] at h hk
 by_cases c9:e=sImg∧n=sAlt
 ·rw[if_pos c9] at h
  exact h.elim
 rw[if_neg c9] at h hk
 by_cases c5:e=sImg∧(n=sHeight∨n=sWidth)
 ·rw[if_pos c5] at h
  obtain⟨x,hx⟩:=h
  exact⟨_,form_w1 c5 hx⟩
 rw[if_neg c5] at h hk
 by_cases c6:e=sOl∧n=sStart
 ·rw[if_pos c6] at h
  obtain⟨x,hx⟩:=h
  exact⟨_,form_w2 c6 hx⟩
 rw[if_neg c6] at h hk
 by_cases c7:(e=sTd∨e=sTh)∧(n=sColspan∨n=sRowspan)
 ·rw[if_pos c7] at h
  obtain⟨x,hx⟩:=h
  exact⟨_,form_w3 c7 hx⟩
 rw[if_neg c7] at h hk
 by_cases c8:isFix e n=true
 ·rw[if_pos c8] at h
  exact⟨_,form_fix c8 h⟩
 rw[if_neg c8] at hk
 exact absurd rfl hk
def valueV:Option ByteArray→Value
 | some t=>.tuple #[.string t,.bool true]
 | none=>.tuple #[.string ⟨#[]⟩,.bool false]
theorem valueV_inj {a b:Option ByteArray}(h:valueV a=valueV b):a=b:=by
 cases a<;>cases b<;>simp[valueV] at h ⊢
 exact h
theorem value_any (e n v:ByteArray)(o:Option ByteArray)(he:e.size≤1000000000)(hn:n.size≤1000000000)(hs:v.size≤1048576)(h:ValueR e n v o)(w:World)(T:Tabs w) :
  Calls Tryz.prog 37 #[.string e,.string n,.string v] w fun x w'=>x=.returned (valueV o)∧Below w.heap.size w w':=by
 have HK:Hid (KindAt e (kindL e.data.toList:Nat)):=fun w=>kind_any e w
 cases o with
 | some t =>
  obtain⟨h1,h2,h3⟩:=h
  obtain⟨f1,f2⟩:=form_some e n v t hs h2
  exact value_yes e n v t _ HK (by omega) (by rw[beq_eq_false_iff_ne];omega) (Lib.hid f1) f2 (Lib.hid h3) w T
 | none =>
  by_cases hk:kindL e.data.toList<2∨kindL e.data.toList=14
  ·exact value_out e n v _ HK (by omega) w
  ·rcases h with h|h|⟨t,h,h3⟩
   ·exact absurd h hk
   ·obtain⟨t,f1⟩:=form_no e n v he hn hs h
    exact value_no e n v t _ HK (by omega) (by rw[beq_eq_false_iff_ne];omega) (Lib.hid f1) w T
   ·obtain⟨f1,f2⟩:=form_some e n v t hs h
    exact value_long e n v t _ HK (by omega) (by rw[beq_eq_false_iff_ne];omega) (Lib.hid f1) f2 (Lib.hid h3) w T
theorem form_all (w0:World)(T0:Tabs w0)(k:FK)(v:ByteArray)(hs:v.size≤1048576):∃ o,FormR k v o:=by
 cases k with
 | text=>exact⟨some _,rfl⟩
 | lang =>
  by_cases h:langP v
  ·exact⟨some v,h,rfl⟩
  ·exact⟨none,h⟩
 | dir =>
  by_cases h:dirP (smallBA v)
  ·exact⟨some _,h,rfl⟩
  ·exact⟨none,h⟩
 | linkA =>
  cases h:linkOk zHref (linkL v.data.toList) with
  | true=>exact⟨some _,h,rfl⟩
  | false=>exact⟨none,h⟩
 | linkI =>
  cases h:linkOk zSrc (linkL v.data.toList) with
  | true=>exact⟨some _,h,rfl⟩
  | false=>exact⟨none,h⟩
 | whole lo hi =>
  obtain⟨x,b,hx⟩:=wholeRet v lo hi (by unfold maxLen;omega)
  cases b with
  | true=>exact⟨some v,⟨x,hx⟩,rfl⟩
  | false=>exact⟨none,x,hx⟩
 | fix =>
  rcases fix_all w0 T0 v (by unfold maxLen;omega) with⟨t,h⟩|h
  ·exact⟨some t,h⟩
  ·exact⟨none,h⟩
 | none=>exact⟨none,trivial⟩
theorem value_all (w0:World)(T0:Tabs w0)(e n v:ByteArray)(hs:v.size≤1048576):∃ o,ValueR e n v o:=by
 by_cases hk:kindL e.data.toList<2∨kindL e.data.toList=14
 ·exact⟨none,.inl hk⟩
 ·obtain⟨o,ho⟩:=form_all w0 T0 (fkind e n) v hs
  cases o with
  | none=>exact⟨none,.inr (.inl ho)⟩
  | some t =>
   rcases Nat.lt_or_ge 120 (escB t).size with h|h
   ·exact⟨none,.inr (.inr ⟨t,ho,h⟩)⟩
   ·exact⟨some t,hk,ho,h⟩
theorem value_det (w0:World)(T0:Tabs w0){e n v:ByteArray}{o o':Option ByteArray}(he:e.size≤1000000000)(hn:n.size≤1000000000)(hs:v.size≤1048576)(h:ValueR e n v o)(h':ValueR e n v o'):o=o' :=
 valueV_inj (calls_det (by kernel_rfl) (value_any e n v o he hn hs h w0 T0) (value_any e n v o' he hn hs h' w0 T0))
theorem replaceK_ge (old new:List UInt8)(h:old.length≤new.length)(h1:1≤old.length):∀ (k:Nat) (s:List UInt8),s.length≤(Lib.replaceK old new k s).length:=by
 intro k
 induction k with
 | zero=>intro s;simp[Lib.replaceK]
 | succ k ih =>
  intro s
  by_cases hi:Lib.index s old=-1
  ·unfold Lib.replaceK
   rw[if_pos (by rw[hi];rfl)]
   exact Nat.le_refl _
  ·have hge:=Lib.index_ge s old
   obtain⟨i,hi'⟩:∃ i:Nat,Lib.index s old=i:=⟨(Lib.index s old).toNat,by omega⟩
   rw[Lib.replaceK_hit old new k s i hi']
   have:=ih (s.drop (i+old.length))
   have hr:=Lib.index_room s old (by omega)
   rw[List.length_append,List.length_append,List.length_take]
   rw[List.length_drop] at this
   omega
theorem repB_ge (s old new:ByteArray)(h:old.size≤new.size)(h1:1≤old.size):s.size≤(repB s old new).size:=by
 show s.data.toList.length≤(Lib.replaceAll s.data.toList old.data.toList new.data.toList).length
 unfold Lib.replaceAll Lib.replace
 split
 ·exact Nat.le_refl _
 ·exact replaceK_ge _ _ h h1 _ _
theorem esc_ge (t:ByteArray):t.size≤(escB t).size:=by
 unfold escB
 refine Nat.le_trans ?_ (repB_ge _ _ _ (by decide) (by decide))
 refine Nat.le_trans ?_ (repB_ge _ _ _ (by decide) (by decide))
 refine Nat.le_trans ?_ (repB_ge _ _ _ (by decide) (by decide))
 refine Nat.le_trans ?_ (repB_ge _ _ _ (by decide) (by decide))
 exact repB_ge _ _ _ (by decide) (by decide)
theorem value_size {e n v t:ByteArray}(h:ValueR e n v (some t)):t.size≤120:=Nat.le_trans (esc_ge t) h.2.2
end Go.Proofs.YtcfgbdhpcboikaaGreatDoor
