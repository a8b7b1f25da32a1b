/-
policy.form at each of its keys (printed by wip/gen/formv.py).
-/
import Derived.Test.YtcfgbdhpcboikaaGreatDoorLinkF
namespace Go.Proofs.YtcfgbdhpcboikaaGreatDoor
open Go.Lib (hid)
set_option maxHeartbeats 2000000
set_option maxRecDepth 100000
open Go.RowKit
theorem jU (v:ByteArray)(lo hi:Nat)(n:Int)(b:Bool)(h:eJ v lo hi n b)(w:World):Calls Tryz.prog 144 #[.string v,.int .i64 lo,.int .i64 hi] w fun e w'=>e=.returned (.tuple #[.string v,.bool b])∧Below w.heap.size w w':=by
 have H1:=hid h.one;clear h;go_enter Tryz.func144,Tryz.ntmps144
 go_wp2_with fail
 refine(H1.out _).mono ?_;rintro e w1 ⟨rfl,B1⟩;have HB:=hid B1;clear B1;go_wp2
 go_ret2;exact⟨rfl,HB.out⟩
theorem aCP (e v:ByteArray)(hv:v.size≤140737488355328)(b:Bool)(hb:Hid (b=true↔mM v)):bZ e pF v v b:=by
 intro w T;have HL:=hid (aLL v hv b hb);clear T;unfold pF;go_enter Tryz.func83,Tryz.ntmps83
 go_wp2_with fail
 refine(HL.out _).mono ?_;rintro x w1 ⟨rfl,B1⟩;have HB:=hid B1;clear B1;go_wp2
 go_ret2;exact⟨rfl,HB.out⟩
theorem aO6:(⟨#[105,109,103]⟩:ByteArray)++⟨#[32]⟩=⟨#[105,109,103,32]⟩:=by decide
theorem aPf:(⟨#[105,109,103,32]⟩:ByteArray)++⟨#[115,114,99]⟩=⟨#[105,109,103,32,115,114,99]⟩:=by decide
theorem zY (v:ByteArray)(b:Bool)(hb:Hid (dT tT (cM v.data.toList)=b))(hv:v.size≤1000000000):bZ eR yJ v (lP v) b:=by
 intro w T;have HT:=hid T;clear T;unfold eR yJ;have c1:=aO6;have c2:=aPf;go_enter Tryz.func83,Tryz.ntmps83
 go_wp2_with fail
 have hB:Below w.heap.size w (w.alloc (.cells #[Value.string ⟨#[104,116,116,112]⟩,Value.string ⟨#[104,116,116,112,115]⟩] 9)):=(Below.refl _ w).alloc (Nat.le_refl _) _;have hS:pN (w.alloc (.cells #[Value.string ⟨#[104,116,116,112]⟩,Value.string ⟨#[104,116,116,112,115]⟩] 9)) w.heap.size 0 tT:=by
  intro j hj;rw[Nat.zero_add,cell_of_row _ w.heap.size j _ 9 (0,0) (heap_alloc_new w _)];have:∀j<2,(#[Value.string ⟨#[104,116,116,112]⟩,Value.string ⟨#[104,116,116,112,115]⟩]:Array Value)[j]?=some (Value.string (tT.getD j ByteArray.empty)):=by
   intro j hj;match j,hj with
   | 0,_=>rfl
   | 1,_=>rfl
  exact this j hj
 refine(aCU v hv w.heap.size 0 2 2 tT rfl (by omega) _ (HT.out.below hB (Nat.le_refl _)) hS (by simp) b hb).mono ?_;rintro x W1 ⟨rfl,B1⟩;have HB1:=hid (hB.trans (B1.mono (by simp)));clear B1 hB hS;go_wp2
 go_ret2;exact⟨rfl,HB1.out⟩
theorem aO7:(⟨#[105,109,103]⟩:ByteArray)++⟨#[32]⟩=⟨#[105,109,103,32]⟩:=by decide
theorem aPg:(⟨#[105,109,103,32]⟩:ByteArray)++⟨#[97,108,116]⟩=⟨#[105,109,103,32,97,108,116]⟩:=by decide
theorem aFG (v:ByteArray)(hv:v.size≤1000000000):bZ eR yF v (gE v) true:=by
 intro w T;have HX:=hid (wA v hv w T);clear T;unfold eR yF;have c1:=aO7;have c2:=aPg;go_enter Tryz.func83,Tryz.ntmps83
 go_wp2_with fail
 refine HX.out.mono ?_;rintro x W1 ⟨rfl,B1⟩;have HB1:=hid B1;clear B1;go_wp2
 go_ret2;exact⟨rfl,HB1.out⟩
theorem aO8:(⟨#[105,109,103]⟩:ByteArray)++⟨#[32]⟩=⟨#[105,109,103,32]⟩:=by decide
theorem aPh:(⟨#[105,109,103,32]⟩:ByteArray)++⟨#[104,101,105,103,104,116]⟩=⟨#[105,109,103,32,104,101,105,103,104,116]⟩:=by decide
theorem aCk (v:ByteArray)(x:Int)(b:Bool)(h:eJ v 0 9999 x b):bZ eR lR v v b:=by
 intro w T;have HX:=hid (jU v 0 9999 x b h);clear T;unfold eR lR;have c1:=aO8;have c2:=aPh;go_enter Tryz.func83,Tryz.ntmps83
 go_wp2_with fail
 refine(HX.out _).mono ?_;rintro x W1 ⟨rfl,B1⟩;have HB1:=hid B1;clear B1;go_wp2
 go_ret2;exact⟨rfl,HB1.out⟩
theorem aO9:(⟨#[105,109,103]⟩:ByteArray)++⟨#[32]⟩=⟨#[105,109,103,32]⟩:=by decide
theorem aPi:(⟨#[105,109,103,32]⟩:ByteArray)++⟨#[119,105,100,116,104]⟩=⟨#[105,109,103,32,119,105,100,116,104]⟩:=by decide
theorem aDm (v:ByteArray)(x:Int)(b:Bool)(h:eJ v 0 9999 x b):bZ eR oI v v b:=by
 intro w T;have HX:=hid (jU v 0 9999 x b h);clear T;unfold eR oI;have c1:=aO9;have c2:=aPi;go_enter Tryz.func83,Tryz.ntmps83
 go_wp2_with fail
 refine(HX.out _).mono ?_;rintro x W1 ⟨rfl,B1⟩;have HB1:=hid B1;clear B1;go_wp2
 go_ret2;exact⟨rfl,HB1.out⟩
theorem aPa:(⟨#[111,108]⟩:ByteArray)++⟨#[32]⟩=⟨#[111,108,32]⟩:=by decide
theorem aPj:(⟨#[111,108,32]⟩:ByteArray)++⟨#[115,116,97,114,116]⟩=⟨#[111,108,32,115,116,97,114,116]⟩:=by decide
theorem aEi (v:ByteArray)(x:Int)(b:Bool)(h:eJ v 0 999999 x b):bZ sOl oH v v b:=by
 intro w T;have HX:=hid (jU v 0 999999 x b h);clear T;unfold sOl oH;have c1:=aPa;have c2:=aPj;go_enter Tryz.func83,Tryz.ntmps83
 go_wp2_with fail
 refine(HX.out _).mono ?_;rintro x W1 ⟨rfl,B1⟩;have HB1:=hid B1;clear B1;go_wp2
 go_ret2;exact⟨rfl,HB1.out⟩
theorem aPb:(⟨#[116,100]⟩:ByteArray)++⟨#[32]⟩=⟨#[116,100,32]⟩:=by decide
theorem aPk:(⟨#[116,100,32]⟩:ByteArray)++⟨#[99,111,108,115,112,97,110]⟩=⟨#[116,100,32,99,111,108,115,112,97,110]⟩:=by decide
theorem aCm (v:ByteArray)(x:Int)(b:Bool)(h:eJ v 1 1000 x b):bZ sTd gO v v b:=by
 intro w T;have HX:=hid (jU v 1 1000 x b h);clear T;unfold sTd gO;have c1:=aPb;have c2:=aPk;go_enter Tryz.func83,Tryz.ntmps83
 go_wp2_with fail
 refine(HX.out _).mono ?_;rintro x W1 ⟨rfl,B1⟩;have HB1:=hid B1;clear B1;go_wp2
 go_ret2;exact⟨rfl,HB1.out⟩
theorem aPc:(⟨#[116,100]⟩:ByteArray)++⟨#[32]⟩=⟨#[116,100,32]⟩:=by decide
theorem aPl:(⟨#[116,100,32]⟩:ByteArray)++⟨#[114,111,119,115,112,97,110]⟩=⟨#[116,100,32,114,111,119,115,112,97,110]⟩:=by decide
theorem aCn (v:ByteArray)(x:Int)(b:Bool)(h:eJ v 1 1000 x b):bZ sTd gP v v b:=by
 intro w T;have HX:=hid (jU v 1 1000 x b h);clear T;unfold sTd gP;have c1:=aPc;have c2:=aPl;go_enter Tryz.func83,Tryz.ntmps83
 go_wp2_with fail
 refine(HX.out _).mono ?_;rintro x W1 ⟨rfl,B1⟩;have HB1:=hid B1;clear B1;go_wp2
 go_ret2;exact⟨rfl,HB1.out⟩
theorem aPd:(⟨#[116,104]⟩:ByteArray)++⟨#[32]⟩=⟨#[116,104,32]⟩:=by decide
theorem aPm:(⟨#[116,104,32]⟩:ByteArray)++⟨#[99,111,108,115,112,97,110]⟩=⟨#[116,104,32,99,111,108,115,112,97,110]⟩:=by decide
theorem aCo (v:ByteArray)(x:Int)(b:Bool)(h:eJ v 1 1000 x b):bZ sTh gO v v b:=by
 intro w T;have HX:=hid (jU v 1 1000 x b h);clear T;unfold sTh gO;have c1:=aPd;have c2:=aPm;go_enter Tryz.func83,Tryz.ntmps83
 go_wp2_with fail
 refine(HX.out _).mono ?_;rintro x W1 ⟨rfl,B1⟩;have HB1:=hid B1;clear B1;go_wp2
 go_ret2;exact⟨rfl,HB1.out⟩
theorem aPe:(⟨#[116,104]⟩:ByteArray)++⟨#[32]⟩=⟨#[116,104,32]⟩:=by decide
theorem aPn:(⟨#[116,104,32]⟩:ByteArray)++⟨#[114,111,119,115,112,97,110]⟩=⟨#[116,104,32,114,111,119,115,112,97,110]⟩:=by decide
theorem aCp (v:ByteArray)(x:Int)(b:Bool)(h:eJ v 1 1000 x b):bZ sTh gP v v b:=by
 intro w T;have HX:=hid (jU v 1 1000 x b h);clear T;unfold sTh gP;have c1:=aPe;have c2:=aPn;go_enter Tryz.func83,Tryz.ntmps83
 go_wp2_with fail
 refine(HX.out _).mono ?_;rintro x W1 ⟨rfl,B1⟩;have HB1:=hid B1;clear B1;go_wp2
 go_ret2;exact⟨rfl,HB1.out⟩
theorem aM9:(⟨#[109,101,116,101,114]⟩:ByteArray)++⟨#[32]⟩=⟨#[109,101,116,101,114,32]⟩:=by decide
theorem aNg:(⟨#[109,101,116,101,114,32]⟩:ByteArray)++⟨#[109,97,120]⟩=⟨#[109,101,116,101,114,32,109,97,120]⟩:=by decide
theorem aDo (v t:ByteArray)(b:Bool)(h:∀w,aA w→Calls Tryz.prog 20 #[.string v] w fun e w'=>e=.returned (.tuple #[.string t,.bool b])∧Below w.heap.size w w'):bZ dE rT v t b:=by
 intro w T;have HX:=hid (h w T);clear T h;unfold dE rT;have c1:=aM9;have c2:=aNg;go_enter Tryz.func83,Tryz.ntmps83
 go_wp2_with fail
 refine HX.out.mono ?_;rintro x W1 ⟨rfl,B1⟩;have HB1:=hid B1;clear B1;go_wp2
 go_ret2;exact⟨rfl,HB1.out⟩
theorem aNa:(⟨#[109,101,116,101,114]⟩:ByteArray)++⟨#[32]⟩=⟨#[109,101,116,101,114,32]⟩:=by decide
theorem aNh:(⟨#[109,101,116,101,114,32]⟩:ByteArray)++⟨#[118,97,108,117,101]⟩=⟨#[109,101,116,101,114,32,118,97,108,117,101]⟩:=by decide
theorem aBh (v t:ByteArray)(b:Bool)(h:∀w,aA w→Calls Tryz.prog 20 #[.string v] w fun e w'=>e=.returned (.tuple #[.string t,.bool b])∧Below w.heap.size w w'):bZ dE lC v t b:=by
 intro w T;have HX:=hid (h w T);clear T h;unfold dE lC;have c1:=aNa;have c2:=aNh;go_enter Tryz.func83,Tryz.ntmps83
 go_wp2_with fail
 refine HX.out.mono ?_;rintro x W1 ⟨rfl,B1⟩;have HB1:=hid B1;clear B1;go_wp2
 go_ret2;exact⟨rfl,HB1.out⟩
theorem aNb:(⟨#[109,101,116,101,114]⟩:ByteArray)++⟨#[32]⟩=⟨#[109,101,116,101,114,32]⟩:=by decide
theorem aNi:(⟨#[109,101,116,101,114,32]⟩:ByteArray)++⟨#[104,105,103,104]⟩=⟨#[109,101,116,101,114,32,104,105,103,104]⟩:=by decide
theorem aCl (v t:ByteArray)(b:Bool)(h:∀w,aA w→Calls Tryz.prog 20 #[.string v] w fun e w'=>e=.returned (.tuple #[.string t,.bool b])∧Below w.heap.size w w'):bZ dE vW v t b:=by
 intro w T;have HX:=hid (h w T);clear T h;unfold dE vW;have c1:=aNb;have c2:=aNi;go_enter Tryz.func83,Tryz.ntmps83
 go_wp2_with fail
 refine HX.out.mono ?_;rintro x W1 ⟨rfl,B1⟩;have HB1:=hid B1;clear B1;go_wp2
 go_ret2;exact⟨rfl,HB1.out⟩
theorem aNc:(⟨#[109,101,116,101,114]⟩:ByteArray)++⟨#[32]⟩=⟨#[109,101,116,101,114,32]⟩:=by decide
theorem aNj:(⟨#[109,101,116,101,114,32]⟩:ByteArray)++⟨#[108,111,119]⟩=⟨#[109,101,116,101,114,32,108,111,119]⟩:=by decide
theorem aDn (v t:ByteArray)(b:Bool)(h:∀w,aA w→Calls Tryz.prog 20 #[.string v] w fun e w'=>e=.returned (.tuple #[.string t,.bool b])∧Below w.heap.size w w'):bZ dE aAK v t b:=by
 intro w T;have HX:=hid (h w T);clear T h;unfold dE aAK;have c1:=aNc;have c2:=aNj;go_enter Tryz.func83,Tryz.ntmps83
 go_wp2_with fail
 refine HX.out.mono ?_;rintro x W1 ⟨rfl,B1⟩;have HB1:=hid B1;clear B1;go_wp2
 go_ret2;exact⟨rfl,HB1.out⟩
theorem aNd:(⟨#[109,101,116,101,114]⟩:ByteArray)++⟨#[32]⟩=⟨#[109,101,116,101,114,32]⟩:=by decide
theorem aNk:(⟨#[109,101,116,101,114,32]⟩:ByteArray)++⟨#[109,105,110]⟩=⟨#[109,101,116,101,114,32,109,105,110]⟩:=by decide
theorem aDp (v t:ByteArray)(b:Bool)(h:∀w,aA w→Calls Tryz.prog 20 #[.string v] w fun e w'=>e=.returned (.tuple #[.string t,.bool b])∧Below w.heap.size w w'):bZ dE aAL v t b:=by
 intro w T;have HX:=hid (h w T);clear T h;unfold dE aAL;have c1:=aNd;have c2:=aNk;go_enter Tryz.func83,Tryz.ntmps83
 go_wp2_with fail
 refine HX.out.mono ?_;rintro x W1 ⟨rfl,B1⟩;have HB1:=hid B1;clear B1;go_wp2
 go_ret2;exact⟨rfl,HB1.out⟩
theorem aNe:(⟨#[112,114,111,103,114,101,115,115]⟩:ByteArray)++⟨#[32]⟩=⟨#[112,114,111,103,114,101,115,115,32]⟩:=by decide
theorem aNl:(⟨#[112,114,111,103,114,101,115,115,32]⟩:ByteArray)++⟨#[109,97,120]⟩=⟨#[112,114,111,103,114,101,115,115,32,109,97,120]⟩:=by decide
theorem aAy (v t:ByteArray)(b:Bool)(h:∀w,aA w→Calls Tryz.prog 20 #[.string v] w fun e w'=>e=.returned (.tuple #[.string t,.bool b])∧Below w.heap.size w w'):bZ fK rT v t b:=by
 intro w T;have HX:=hid (h w T);clear T h;unfold fK rT;have c1:=aNe;have c2:=aNl;go_enter Tryz.func83,Tryz.ntmps83
 go_wp2_with fail
 refine HX.out.mono ?_;rintro x W1 ⟨rfl,B1⟩;have HB1:=hid B1;clear B1;go_wp2
 go_ret2;exact⟨rfl,HB1.out⟩
theorem aNf:(⟨#[112,114,111,103,114,101,115,115]⟩:ByteArray)++⟨#[32]⟩=⟨#[112,114,111,103,114,101,115,115,32]⟩:=by decide
theorem aNm:(⟨#[112,114,111,103,114,101,115,115,32]⟩:ByteArray)++⟨#[118,97,108,117,101]⟩=⟨#[112,114,111,103,114,101,115,115,32,118,97,108,117,101]⟩:=by decide
theorem wY (v t:ByteArray)(b:Bool)(h:∀w,aA w→Calls Tryz.prog 20 #[.string v] w fun e w'=>e=.returned (.tuple #[.string t,.bool b])∧Below w.heap.size w w'):bZ fK lC v t b:=by
 intro w T;have HX:=hid (h w T);clear T h;unfold fK lC;have c1:=aNf;have c2:=aNm;go_enter Tryz.func83,Tryz.ntmps83
 go_wp2_with fail
 refine HX.out.mono ?_;rintro x W1 ⟨rfl,B1⟩;have HB1:=hid B1;clear B1;go_wp2
 go_ret2;exact⟨rfl,HB1.out⟩
def aCj:List (List UInt8 × List UInt8):=[([97],[104,114,101,102]),([105,109,103],[115,114,99]),([105,109,103],[97,108,116]),([105,109,103],[104,101,105,103,104,116]),([105,109,103],[119,105,100,116,104]),([111,108],[115,116,97,114,116]),([116,100],[99,111,108,115,112,97,110]),([116,100],[114,111,119,115,112,97,110]),([116,104],[99,111,108,115,112,97,110]),([116,104],[114,111,119,115,112,97,110]),([109,101,116,101,114],[109,97,120]),([109,101,116,101,114],[118,97,108,117,101]),([109,101,116,101,114],[104,105,103,104]),([109,101,116,101,114],[108,111,119]),([109,101,116,101,114],[109,105,110]),([112,114,111,103,114,101,115,115],[109,97,120]),([112,114,111,103,114,101,115,115],[118,97,108,117,101])]
def aAx:List (List UInt8):=[[97,32,104,114,101,102],[105,109,103,32,115,114,99],[105,109,103,32,97,108,116],[105,109,103,32,104,101,105,103,104,116],[105,109,103,32,119,105,100,116,104],[111,108,32,115,116,97,114,116],[116,100,32,99,111,108,115,112,97,110],[116,100,32,114,111,119,115,112,97,110],[116,104,32,99,111,108,115,112,97,110],[116,104,32,114,111,119,115,112,97,110],[109,101,116,101,114,32,109,97,120],[109,101,116,101,114,32,118,97,108,117,101],[109,101,116,101,114,32,104,105,103,104],[109,101,116,101,114,32,108,111,119],[109,101,116,101,114,32,109,105,110],[112,114,111,103,114,101,115,115,32,109,97,120],[112,114,111,103,114,101,115,115,32,118,97,108,117,101]]
theorem aF0 {P:Program}{fn:Func}{s t:Nat}{tmps:Array Value}{u v:Value}(w:World)(h:fn.results=#[.tmp s,.tmp t])(hu:tmps.getD s undef=u)(hv:tmps.getD t undef=v):(results fn tmps).run P w=.ok (.tuple #[u,v]) w:=by
 unfold results;rw[h];rw[Array.getD_eq_getD_getElem?]at hu hv
 simp[hu,hv]
theorem aID {P:Program}{Q:Exit→Act→World→Prop}{w:World}{s:ByteArray}{k n:Nat}{B C:TypeId}{t1 t2:Nat}{v1 v2:Value}{rid:Nat}{p1 p2:String}{f1 f2:Array Edge}{a:Act}(hC:gT s k n a)(ht:(t1 !=k&&t2 !=k&&t1 !=t2&&decide (t1<n)&&decide (t2<n))=true)
  (h:∀a',gT s k n a'→a'.eval (.tmp t1)=v1→a'.eval (.tmp t2)=v2→Q .normal a' w) :
  (Code.region rid #[{ dst:=some t1,op:=Op.assign (Operand.const v1),type:=B,pos:=p1,after:=f1,guard:=none },{ dst:=some t2,op:=Op.assign (Operand.const v2),type:=C,pos:=p2,after:=f2,guard:=none }] false).wp P Q a w:=by
 simp only[Bool.and_eq_true,bne_iff_ne,ne_eq,decide_eq_true_eq]at ht;have h1:=hC.put t1 v1 ht.1.1.1.1;have e1:=rK (a:=a) (t:=t1) (v:=v1) (by rw[hC.size];exact ht.1.2);have h2:=h1.put t2 v2 ht.1.1.1.2;have e2:=rK (a:=a.put (some t1) v1) (t:=t2) (v:=v2) (by rw[h1.size];exact ht.2);have e3:((a.put (some t1) v1).put (some t2) v2).eval (.tmp t1)=v1:=by
  rw[←e1];simp[Act.eval,Act.put,Array.getD_eq_getD_getElem?,Ne.symm ht.1.1.2];intro x y;omega
 have ec:a.eval (.const v1)=v1:=rfl;have ec2:(a.put (some t1) v1).eval (.const v2)=v2:=rfl;refine wp_region_lit (l:=[_,_]) ?_;refine wpList_plain rfl fun K hK=>?_
 have hx:=hK _ _ (wpList_plain (P:=P) (w:=w) (rest:=[]) (o:={ dst:=some t2,op:=Op.assign (Operand.const v2),type:=C,pos:=p2,after:=f2,guard:=none }) (a:=a.put (some t1) v1) rfl fun K2 hK2=>by
  have:=hK2 _ _ (wpList_nil (h _ h2 e3 e2));unfold Oper.wp;simp[execOp,ec2,Oper.upon];exact this)
 unfold Oper.wp;simp[execOp,ec,Oper.upon];exact hx
theorem aI8 (e n v:ByteArray)(he:e.size≤1000000000)(hn:n.size≤1000000000)(K:ByteArray)(hK:Hid (K=e++⟨#[32]⟩++n))(h1:(n.toList==[116,105,116,108,101])=false)(h2:(n.toList==[108,97,110,103])=false)(h3:(n.toList==[100,105,114])=false)
  (hN:Hid (∀l:List UInt8,aAx.contains l=true→(K.toList==(⟨l.toArray⟩:ByteArray).toList)=false)):bZ e n v ⟨#[]⟩ false:=by
 intro w T;clear T;have ek:e++⟨#[32]⟩++n=K:=hK.out.symm;go_enter Tryz.func83,Tryz.ntmps83
 go_upto_region 15 with fail
 rename_i _ k1 a1 k0 a0;refine aAp 9 K _ 37 90 (hN.out _ (by decide +kernel)) ⟨rfl,rfl,rfl⟩ rfl ?_;intro a hC hb;repeat' (first
  | (refine aAp 9 K _ 37 90 (hN.out _ (by decide +kernel)) hC rfl ?_;clear hC;intro a hC hb)
  | (with_reducible refine mJ ?_)
  | (with_reducible refine wV ?_)
  | (with_reducible refine wp_cond_false hb ?_)
  | (with_reducible refine wp_seq ?_)
  | (with_reducible refine wp_skip ?_)
  | (with_reducible refine a0 _ _ ?_)
  | (with_reducible refine a1 _ _ ?_))
 refine aID hC rfl ?_;clear hC hb;intro a hC h6 h7;refine mJ (wp_ret ?_);exact⟨hC.defers,_,aF0 w rfl h6 h7,rfl,Below.refl _ _⟩
open Go.RowKit
theorem aKp (a b x y:List UInt8)(c:UInt8)(h:a++c :: b=x++c :: y)(hx:c∉x)(hy:c∉y):a=x∧b=y:=by
 rcases List.append_eq_append_iff.1 h with⟨l,h1,h2⟩|⟨l,h1,h2⟩
 ·cases l with
  | nil =>
   simp only[List.nil_append,List.cons.injEq,true_and]at h2;exact⟨by rw[h1,List.append_nil],h2⟩
  | cons d l =>
   simp only[List.cons_append,List.cons.injEq]at h2;exact absurd (by rw[h1,h2.1];simp) hx
 ·cases l with
  | nil =>
   simp only[List.nil_append,List.cons.injEq,true_and]at h2;exact⟨by rw[h1,List.append_nil],h2.symm⟩
  | cons d l =>
   simp only[List.cons_append,List.cons.injEq]at h2;exact absurd (by rw[h2.2];simp) hy
theorem aI7:aAx=aCj.map (fun p=>p.1++32 :: p.2):=by decide
theorem aLx:∀p∈aCj,(32:UInt8)∉p.1∧(32:UInt8)∉p.2∧aY ⟨p.1.toArray⟩ ⟨p.2.toArray⟩≠.none:=by decide +kernel
theorem aLI {e n:ByteArray}(h:aY e n=.none)(l:List UInt8)(hl:aAx.contains l=true):((e++⟨#[32]⟩++n).toList==(⟨l.toArray⟩:ByteArray).toList)=false:=by
 rw[beq_eq_false_iff_ne,toList_data,toList_data];intro he;rw[aI7]at hl
 have hl2:l∈aCj.map (fun p=>p.1++32 :: p.2):=by
  rw[List.contains_iff_mem]at hl
  exact hl
 obtain⟨p,hp,e1⟩:=List.mem_map.1 hl2;obtain⟨p1,p2,p3⟩:=aLx p hp;have he2:e.data.toList++32 :: n.data.toList=p.1++32 :: p.2:=by
  have e3:(e++⟨#[32]⟩++n).data.toList=e.data.toList++32 :: n.data.toList:=by simp
  rw[←e3,he,←e1]
 obtain⟨h1,h2⟩:=aKp _ _ _ _ _ he2 p1 p2;refine p3 ?_;rw[←h1,←h2];exact h
theorem aB1 (v:ByteArray):(gE v).size≤3*v.size:=tB v.data.toList
theorem aBq (v:ByteArray):(lP v).size≤3*v.size:=xO v.data.toList
theorem aIM {v:ByteArray}(h:aCg v):v.size≤4:=by rcases h with rfl|rfl|rfl<;>decide
theorem aAv {e n:ByteArray}(h:aY e n=.none):n≠dY∧n≠pF∧n≠vV:=by
 unfold aY at h;refine⟨fun c=>?_,fun c=>?_,fun c=>?_⟩
 ·rw[if_pos c]at h;cases h
 ·by_cases d:n=dY
  ·rw[if_pos d]at h;cases h
  ·rw[if_neg d,if_pos c]at h;cases h
 ·by_cases d:n=dY
  ·rw[if_pos d]at h;cases h
  ·by_cases d2:n=pF
   ·rw[if_neg d,if_pos d2]at h;cases h
   ·rw[if_neg d,if_neg d2,if_pos c]at h;cases h
theorem aFJ {e n:ByteArray}(h:fN e n=true):(e=dE∧(n=rT∨n=lC∨n=vW∨n=aAK∨n=aAL))∨(e=fK∧(n=rT∨n=lC)):=by
 unfold fN at h;simp only[Bool.or_eq_true,Bool.and_eq_true,decide_eq_true_eq]at h;rcases h with⟨h1,h2⟩|⟨h1,h2⟩
 ·refine .inl ⟨h1,?_⟩;rcases h2 with(((h|h)|h)|h)|h
  ·exact .inl h
  ·exact .inr (.inl h)
  ·exact .inr (.inr (.inl h))
  ·exact .inr (.inr (.inr (.inl h)))
  ·exact .inr (.inr (.inr (.inr h)))
 ·exact .inr ⟨h1,h2⟩
theorem aEh {e n v t:ByteArray}{b:Bool}(h:fN e n=true)(H:∀w,aA w→Calls Tryz.prog 20 #[.string v] w fun e w'=>e=.returned (.tuple #[.string t,.bool b])∧Below w.heap.size w w'):bZ e n v t b:=by
 rcases aFJ h with⟨rfl,h|h|h|h|h⟩|⟨rfl,h|h⟩<;>subst h
 ·exact aDo v t b H
 ·exact aBh v t b H
 ·exact aCl v t b H
 ·exact aDn v t b H
 ·exact aDp v t b H
 ·exact aAy v t b H
 ·exact wY v t b H
theorem aGu {e n v:ByteArray}{x:Int}{b:Bool}(h:(e=sTd∨e=sTh)∧(n=gO∨n=gP))(H:eJ v 1 1000 x b):bZ e n v v b:=by
 rcases h with⟨rfl|rfl,rfl|rfl⟩
 ·exact aCm v x b H
 ·exact aCn v x b H
 ·exact aCo v x b H
 ·exact aCp v x b H
theorem aGs {e n v:ByteArray}{x:Int}{b:Bool}(h:e=eR∧(n=lR∨n=oI))(H:eJ v 0 9999 x b):bZ e n v v b:=by
 rcases h with⟨rfl,rfl|rfl⟩
 ·exact aCk v x b H
 ·exact aDm v x b H
theorem aGt {e n v:ByteArray}{x:Int}{b:Bool}(h:e=sOl∧n=oH)(H:eJ v 0 999999 x b):bZ e n v v b:=by
 rcases h with⟨rfl,rfl⟩
 exact aEi v x b H
theorem aCQ (e n v t:ByteArray)(hs:v.size≤1048576)(h:uU (aY e n) v (some t)):bZ e n v t true∧t.size≤4000000:=by
 have ht:=aB1 v;have hl:=aBq v;unfold aY at h;by_cases c0:n=dY
 ·rw[if_pos c0]at h
  subst c0;have h':t=gE v:=h;subst h';exact⟨aHm e v (by omega),by omega⟩
 rw[if_neg c0]at h
 by_cases c1:n=pF
 ·rw[if_pos c1]at h
  subst c1;obtain⟨hp,rfl⟩:=h;exact⟨aCP e t (by omega) true (hid ⟨fun _=>hp,fun _=>rfl⟩),by omega⟩
 rw[if_neg c1]at h
 by_cases c2:n=vV
 ·rw[if_pos c2]at h
  subst c2;obtain⟨hp,rfl⟩:=h;exact⟨aEg e v _ true (by omega) (hid ⟨fun _=>⟨rfl,rfl⟩,fun hn=>absurd hp hn⟩),by have:=aIM hp;omega⟩
 rw[if_neg c2]at h
 by_cases c3:e=sA∧n=kK
 ·rw[if_pos c3]at h
  obtain⟨rfl,rfl⟩:=c3;obtain⟨hp,rfl⟩:=h;exact⟨qL v true (hid hp) (by omega),by omega⟩
 rw[if_neg c3]at h
 by_cases c4:e=eR∧n=yJ
 ·rw[if_pos c4]at h
  obtain⟨rfl,rfl⟩:=c4;obtain⟨hp,rfl⟩:=h;exact⟨zY v true (hid hp) (by omega),by omega⟩
 rw[if_neg c4]at h
 by_cases c9:e=eR∧n=yF
 ·rw[if_pos c9]at h
  obtain⟨rfl,rfl⟩:=c9;have h':t=gE v:=h;subst h';exact⟨aFG v (by omega),by omega⟩
 rw[if_neg c9]at h
 by_cases c5:e=eR∧(n=lR∨n=oI)
 ·rw[if_pos c5]at h
  obtain⟨⟨x,hx⟩,rfl⟩:=h;exact⟨aGs c5 hx,by omega⟩
 rw[if_neg c5]at h
 by_cases c6:e=sOl∧n=oH
 ·rw[if_pos c6]at h
  obtain⟨⟨x,hx⟩,rfl⟩:=h;exact⟨aGt c6 hx,by omega⟩
 rw[if_neg c6]at h
 by_cases c7:(e=sTd∨e=sTh)∧(n=gO∨n=gP)
 ·rw[if_pos c7]at h
  obtain⟨⟨x,hx⟩,rfl⟩:=h;exact⟨aGu c7 hx,by omega⟩
 rw[if_neg c7]at h
 by_cases c8:fN e n=true
 ·rw[if_pos c8]at h
  exact⟨aEh c8 h.yes,by have:=h.sz;omega⟩
 rw[if_neg c8]at h
 exact h.elim
theorem aNJ (e n v:ByteArray)(he:e.size≤1000000000)(hn:n.size≤1000000000)(hs:v.size≤1048576)(h:uU (aY e n) v none):∃t,bZ e n v t false:=by
 by_cases hk:aY e n=.none
 ·obtain⟨k1,k2,k3⟩:=aAv hk;exact⟨_,aI8 e n v he hn _ (hid rfl) (qZ _ k1 rfl) (qZ _ k2 rfl) (qZ _ k3 rfl) (hid (aLI hk))⟩
 unfold aY at h hk;by_cases c0:n=dY
 ·rw[if_pos c0]at h
  exact h.elim
 rw[if_neg c0]at h hk
 by_cases c1:n=pF
 ·rw[if_pos c1]at h
  subst c1;exact⟨v,aCP e v (by omega) false (hid (Iff.intro (fun hh=>by cases hh) (fun hh=>absurd hh h)))⟩
 rw[if_neg c1]at h hk
 by_cases c2:n=vV
 ·rw[if_pos c2]at h
  subst c2;exact⟨⟨#[]⟩,aEg e v _ false (by omega) (hid ⟨fun hh=>absurd hh h,fun _=>⟨rfl,rfl⟩⟩)⟩
 rw[if_neg c2]at h hk
 by_cases c3:e=sA∧n=kK
 ·rw[if_pos c3]at h
  obtain⟨rfl,rfl⟩:=c3;exact⟨_,qL v false (hid h) (by omega)⟩
 rw[if_neg c3]at h hk
 by_cases c4:e=eR∧n=yJ
 ·rw[if_pos c4]at h
  obtain⟨rfl,rfl⟩:=c4;exact⟨_,zY v false (hid h) (by omega)⟩
 rw[if_neg c4]at h hk
 by_cases c9:e=eR∧n=yF
 ·rw[if_pos c9]at h
  exact h.elim
 rw[if_neg c9]at h hk
 by_cases c5:e=eR∧(n=lR∨n=oI)
 ·rw[if_pos c5]at h
  obtain⟨x,hx⟩:=h;exact⟨_,aGs c5 hx⟩
 rw[if_neg c5]at h hk
 by_cases c6:e=sOl∧n=oH
 ·rw[if_pos c6]at h
  obtain⟨x,hx⟩:=h;exact⟨_,aGt c6 hx⟩
 rw[if_neg c6]at h hk
 by_cases c7:(e=sTd∨e=sTh)∧(n=gO∨n=gP)
 ·rw[if_pos c7]at h
  obtain⟨x,hx⟩:=h;exact⟨_,aGu c7 hx⟩
 rw[if_neg c7]at h hk
 by_cases c8:fN e n=true
 ·rw[if_pos c8]at h
  exact⟨_,aEh c8 h⟩
 rw[if_neg c8]at hk
 exact absurd rfl hk
def kD:Option ByteArray→Value
 | some t=>.tuple #[.string t,.bool true]
 | none=>.tuple #[.string ⟨#[]⟩,.bool false]
theorem aId {a b:Option ByteArray}(h:kD a=kD b):a=b:=by
 cases a<;>cases b<;>simp[kD]at h ⊢
 exact h
theorem yS (e n v:ByteArray)(o:Option ByteArray)(he:e.size≤1000000000)(hn:n.size≤1000000000)(hs:v.size≤1048576)(h:mC e n v o)(w:World)(T:aA w) :
  Calls Tryz.prog 37 #[.string e,.string n,.string v] w fun x w'=>x=.returned (kD o)∧Below w.heap.size w w':=by
 have HK:Hid (aP e (aW e.data.toList:Nat)):=fun w=>kS e w
 cases o with
 | some t =>
  obtain⟨h1,h2,h3⟩:=h;obtain⟨f1,f2⟩:=aCQ e n v t hs h2;exact aDi e n v t _ HK (by omega) (by rw[beq_eq_false_iff_ne];omega) (hid f1) f2 (hid h3) w T
 | none =>
  by_cases hk:aW e.data.toList<2∨aW e.data.toList=14
  ·exact aKH e n v _ HK (by omega) w
  ·rcases h with h|h|⟨t,h,h3⟩
   ·exact absurd h hk
   ·obtain⟨t,f1⟩:=aNJ e n v he hn hs h;exact aFq e n v t _ HK (by omega) (by rw[beq_eq_false_iff_ne];omega) (hid f1) w T
   ·obtain⟨f1,f2⟩:=aCQ e n v t hs h;exact aIe e n v t _ HK (by omega) (by rw[beq_eq_false_iff_ne];omega) (hid f1) f2 (hid h3) w T
theorem aLw (w0:World)(T0:aA w0)(k:FK)(v:ByteArray)(hs:v.size≤1048576):∃o,uU k v o:=by
 cases k with
 | text=>exact⟨some _,rfl⟩
 | lang =>
  by_cases h:mM v
  ·exact⟨some v,h,rfl⟩
  ·exact⟨none,h⟩
 | dir =>
  by_cases h:aCg (dB v)
  ·exact⟨some _,h,rfl⟩
  ·exact⟨none,h⟩
 | linkA =>
  cases h:dT mR (cM v.data.toList)with
  | true=>exact⟨some _,h,rfl⟩
  | false=>exact⟨none,h⟩
 | linkI =>
  cases h:dT tT (cM v.data.toList)with
  | true=>exact⟨some _,h,rfl⟩
  | false=>exact⟨none,h⟩
 | whole lo hi =>
  obtain⟨x,b,hx⟩:=aFr v lo hi (by unfold maxLen;omega);cases b with
  | true=>exact⟨some v,⟨x,hx⟩,rfl⟩
  | false=>exact⟨none,x,hx⟩
 | fix =>
  rcases aGr w0 T0 v (by unfold maxLen;omega)with⟨t,h⟩|h
  ·exact⟨some t,h⟩
  ·exact⟨none,h⟩
 | none=>exact⟨none,trivial⟩
theorem aKF (w0:World)(T0:aA w0)(e n v:ByteArray)(hs:v.size≤1048576):∃o,mC e n v o:=by
 by_cases hk:aW e.data.toList<2∨aW e.data.toList=14
 ·exact⟨none,.inl hk⟩
 ·obtain⟨o,ho⟩:=aLw w0 T0 (aY e n) v hs;cases o with
  | none=>exact⟨none,.inr (.inl ho)⟩
  | some t =>
   rcases Nat.lt_or_ge 120 (gZ t).size with h|h
   ·exact⟨none,.inr (.inr ⟨t,ho,h⟩)⟩
   ·exact⟨some t,hk,ho,h⟩
theorem aKG (w0:World)(T0:aA w0){e n v:ByteArray}{o o':Option ByteArray}(he:e.size≤1000000000)(hn:n.size≤1000000000)(hs:v.size≤1048576)(h:mC e n v o)(h':mC e n v o'):o=o' :=
 aId (sE (by kernel_rfl) (yS e n v o he hn hs h w0 T0) (yS e n v o' he hn hs h' w0 T0))
end Go.Proofs.YtcfgbdhpcboikaaGreatDoor
