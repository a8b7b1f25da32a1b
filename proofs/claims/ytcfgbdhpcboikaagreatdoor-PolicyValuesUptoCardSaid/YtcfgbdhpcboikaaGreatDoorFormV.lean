/-
policy.form at each of its keys (printed by wip/gen/formv.py).
-/
import Derived.Test.YtcfgbdhpcboikaaGreatDoorTxtB
namespace Go.Proofs.YtcfgbdhpcboikaaGreatDoor
open Go.Lib (hid)
set_option maxHeartbeats 2000000
set_option maxRecDepth 100000
open Go.RowKit
theorem iH (v:ByteArray)(lo hi:Nat)(n:Int)(b:Bool)(h:dQ v lo hi n b)(w:World):Calls Tryz.prog 144 #[.string v,.int .i64 lo,.int .i64 hi] w fun e w'=>e=.returned (.tuple #[.string v,.bool b])∧Below w.heap.size w w':=by
 have H1:=hid h.one;clear h;go_enter Tryz.func144,Tryz.ntmps144
 go_wp2_with fail
 refine(H1.out _).mono ?_;rintro e w1 ⟨rfl,B1⟩;have HB:=hid B1;clear B1;go_wp2
 go_ret2;exact⟨rfl,HB.out⟩
theorem aBw (e v:ByteArray)(hv:v.size≤140737488355328)(b:Bool)(hb:Hid (b=true↔kQ v)):bS e nE v v b:=by
 intro w T;have HL:=hid (aJR v hv b hb);clear T;unfold nE;go_enter Tryz.func83,Tryz.ntmps83
 go_wp2_with fail
 refine(HL.out _).mono ?_;rintro x w1 ⟨rfl,B1⟩;have HB:=hid B1;clear B1;go_wp2
 go_ret2;exact⟨rfl,HB.out⟩
theorem aMJ:(⟨#[105,109,103]⟩:ByteArray)++⟨#[32]⟩=⟨#[105,109,103,32]⟩:=by decide
theorem aMS:(⟨#[105,109,103,32]⟩:ByteArray)++⟨#[115,114,99]⟩=⟨#[105,109,103,32,115,114,99]⟩:=by decide
theorem wH (v:ByteArray)(b:Bool)(hb:Hid (dI qZ (aZ v.data.toList)=b))(hv:v.size≤1000000000):bS dW uV v (gG v) b:=by
 intro w T;have HT:=hid T;clear T;unfold dW uV;have c1:=aMJ;have c2:=aMS;go_enter Tryz.func83,Tryz.ntmps83
 go_wp2_with fail
 have hB:Below w.heap.size w (w.alloc (.cells #[Value.string ⟨#[104,116,116,112]⟩,Value.string ⟨#[104,116,116,112,115]⟩] 9)):=(Below.refl _ w).alloc (Nat.le_refl _) _;have hS:nM (w.alloc (.cells #[Value.string ⟨#[104,116,116,112]⟩,Value.string ⟨#[104,116,116,112,115]⟩] 9)) w.heap.size 0 qZ:=by
  intro j hj;rw[Nat.zero_add,cell_of_row _ w.heap.size j _ 9 (0,0) (heap_alloc_new w _)];have:∀j<2,(#[Value.string ⟨#[104,116,116,112]⟩,Value.string ⟨#[104,116,116,112,115]⟩]:Array Value)[j]?=some (Value.string (qZ.getD j ByteArray.empty)):=by
   intro j hj;match j,hj with
   | 0,_=>rfl
   | 1,_=>rfl
  exact this j hj
 refine(aBA v hv w.heap.size 0 2 2 qZ rfl (by omega) _ (HT.out.below hB (Nat.le_refl _)) hS (by simp) b hb).mono ?_;rintro x W1 ⟨rfl,B1⟩;have HB1:=hid (hB.trans (B1.mono (by simp)));clear B1 hB hS;go_wp2
 go_ret2;exact⟨rfl,HB1.out⟩
theorem aMK:(⟨#[105,109,103]⟩:ByteArray)++⟨#[32]⟩=⟨#[105,109,103,32]⟩:=by decide
theorem aMT:(⟨#[105,109,103,32]⟩:ByteArray)++⟨#[97,108,116]⟩=⟨#[105,109,103,32,97,108,116]⟩:=by decide
theorem aEd (v:ByteArray)(hv:v.size≤1000000000):bS dW uS v (nI v) true:=by
 intro w T;have HX:=hid (yN v hv w T);clear T;unfold dW uS;have c1:=aMK;have c2:=aMT;go_enter Tryz.func83,Tryz.ntmps83
 go_wp2_with fail
 refine HX.out.mono ?_;rintro x W1 ⟨rfl,B1⟩;have HB1:=hid B1;clear B1;go_wp2
 go_ret2;exact⟨rfl,HB1.out⟩
theorem aML:(⟨#[105,109,103]⟩:ByteArray)++⟨#[32]⟩=⟨#[105,109,103,32]⟩:=by decide
theorem aMU:(⟨#[105,109,103,32]⟩:ByteArray)++⟨#[104,101,105,103,104,116]⟩=⟨#[105,109,103,32,104,101,105,103,104,116]⟩:=by decide
theorem aA2 (v:ByteArray)(x:Int)(b:Bool)(h:dQ v 0 9999 x b):bS dW jW v v b:=by
 intro w T;have HX:=hid (iH v 0 9999 x b h);clear T;unfold dW jW;have c1:=aML;have c2:=aMU;go_enter Tryz.func83,Tryz.ntmps83
 go_wp2_with fail
 refine(HX.out _).mono ?_;rintro x W1 ⟨rfl,B1⟩;have HB1:=hid B1;clear B1;go_wp2
 go_ret2;exact⟨rfl,HB1.out⟩
theorem aMM:(⟨#[105,109,103]⟩:ByteArray)++⟨#[32]⟩=⟨#[105,109,103,32]⟩:=by decide
theorem aMV:(⟨#[105,109,103,32]⟩:ByteArray)++⟨#[119,105,100,116,104]⟩=⟨#[105,109,103,32,119,105,100,116,104]⟩:=by decide
theorem aB1 (v:ByteArray)(x:Int)(b:Bool)(h:dQ v 0 9999 x b):bS dW mJ v v b:=by
 intro w T;have HX:=hid (iH v 0 9999 x b h);clear T;unfold dW mJ;have c1:=aMM;have c2:=aMV;go_enter Tryz.func83,Tryz.ntmps83
 go_wp2_with fail
 refine(HX.out _).mono ?_;rintro x W1 ⟨rfl,B1⟩;have HB1:=hid B1;clear B1;go_wp2
 go_ret2;exact⟨rfl,HB1.out⟩
theorem aMN:(⟨#[111,108]⟩:ByteArray)++⟨#[32]⟩=⟨#[111,108,32]⟩:=by decide
theorem aMW:(⟨#[111,108,32]⟩:ByteArray)++⟨#[115,116,97,114,116]⟩=⟨#[111,108,32,115,116,97,114,116]⟩:=by decide
theorem aCX (v:ByteArray)(x:Int)(b:Bool)(h:dQ v 0 999999 x b):bS sOl mI v v b:=by
 intro w T;have HX:=hid (iH v 0 999999 x b h);clear T;unfold sOl mI;have c1:=aMN;have c2:=aMW;go_enter Tryz.func83,Tryz.ntmps83
 go_wp2_with fail
 refine(HX.out _).mono ?_;rintro x W1 ⟨rfl,B1⟩;have HB1:=hid B1;clear B1;go_wp2
 go_ret2;exact⟨rfl,HB1.out⟩
theorem aMO:(⟨#[116,100]⟩:ByteArray)++⟨#[32]⟩=⟨#[116,100,32]⟩:=by decide
theorem aMX:(⟨#[116,100,32]⟩:ByteArray)++⟨#[99,111,108,115,112,97,110]⟩=⟨#[116,100,32,99,111,108,115,112,97,110]⟩:=by decide
theorem aA4 (v:ByteArray)(x:Int)(b:Bool)(h:dQ v 1 1000 x b):bS sTd fP v v b:=by
 intro w T;have HX:=hid (iH v 1 1000 x b h);clear T;unfold sTd fP;have c1:=aMO;have c2:=aMX;go_enter Tryz.func83,Tryz.ntmps83
 go_wp2_with fail
 refine(HX.out _).mono ?_;rintro x W1 ⟨rfl,B1⟩;have HB1:=hid B1;clear B1;go_wp2
 go_ret2;exact⟨rfl,HB1.out⟩
theorem aMP:(⟨#[116,100]⟩:ByteArray)++⟨#[32]⟩=⟨#[116,100,32]⟩:=by decide
theorem aMY:(⟨#[116,100,32]⟩:ByteArray)++⟨#[114,111,119,115,112,97,110]⟩=⟨#[116,100,32,114,111,119,115,112,97,110]⟩:=by decide
theorem aA5 (v:ByteArray)(x:Int)(b:Bool)(h:dQ v 1 1000 x b):bS sTd fQ v v b:=by
 intro w T;have HX:=hid (iH v 1 1000 x b h);clear T;unfold sTd fQ;have c1:=aMP;have c2:=aMY;go_enter Tryz.func83,Tryz.ntmps83
 go_wp2_with fail
 refine(HX.out _).mono ?_;rintro x W1 ⟨rfl,B1⟩;have HB1:=hid B1;clear B1;go_wp2
 go_ret2;exact⟨rfl,HB1.out⟩
theorem aMQ:(⟨#[116,104]⟩:ByteArray)++⟨#[32]⟩=⟨#[116,104,32]⟩:=by decide
theorem aMZ:(⟨#[116,104,32]⟩:ByteArray)++⟨#[99,111,108,115,112,97,110]⟩=⟨#[116,104,32,99,111,108,115,112,97,110]⟩:=by decide
theorem aA6 (v:ByteArray)(x:Int)(b:Bool)(h:dQ v 1 1000 x b):bS sTh fP v v b:=by
 intro w T;have HX:=hid (iH v 1 1000 x b h);clear T;unfold sTh fP;have c1:=aMQ;have c2:=aMZ;go_enter Tryz.func83,Tryz.ntmps83
 go_wp2_with fail
 refine(HX.out _).mono ?_;rintro x W1 ⟨rfl,B1⟩;have HB1:=hid B1;clear B1;go_wp2
 go_ret2;exact⟨rfl,HB1.out⟩
theorem aMR:(⟨#[116,104]⟩:ByteArray)++⟨#[32]⟩=⟨#[116,104,32]⟩:=by decide
theorem aM0:(⟨#[116,104,32]⟩:ByteArray)++⟨#[114,111,119,115,112,97,110]⟩=⟨#[116,104,32,114,111,119,115,112,97,110]⟩:=by decide
theorem aA7 (v:ByteArray)(x:Int)(b:Bool)(h:dQ v 1 1000 x b):bS sTh fQ v v b:=by
 intro w T;have HX:=hid (iH v 1 1000 x b h);clear T;unfold sTh fQ;have c1:=aMR;have c2:=aM0;go_enter Tryz.func83,Tryz.ntmps83
 go_wp2_with fail
 refine(HX.out _).mono ?_;rintro x W1 ⟨rfl,B1⟩;have HB1:=hid B1;clear B1;go_wp2
 go_ret2;exact⟨rfl,HB1.out⟩
theorem aK0:(⟨#[109,101,116,101,114]⟩:ByteArray)++⟨#[32]⟩=⟨#[109,101,116,101,114,32]⟩:=by decide
theorem aK7:(⟨#[109,101,116,101,114,32]⟩:ByteArray)++⟨#[109,97,120]⟩=⟨#[109,101,116,101,114,32,109,97,120]⟩:=by decide
theorem aB3 (v t:ByteArray)(b:Bool)(h:∀w,aA w→Calls Tryz.prog 20 #[.string v] w fun e w'=>e=.returned (.tuple #[.string t,.bool b])∧Below w.heap.size w w'):bS cU pJ v t b:=by
 intro w T;have HX:=hid (h w T);clear T h;unfold cU pJ;have c1:=aK0;have c2:=aK7;go_enter Tryz.func83,Tryz.ntmps83
 go_wp2_with fail
 refine HX.out.mono ?_;rintro x W1 ⟨rfl,B1⟩;have HB1:=hid B1;clear B1;go_wp2
 go_ret2;exact⟨rfl,HB1.out⟩
theorem aK1:(⟨#[109,101,116,101,114]⟩:ByteArray)++⟨#[32]⟩=⟨#[109,101,116,101,114,32]⟩:=by decide
theorem aK8:(⟨#[109,101,116,101,114,32]⟩:ByteArray)++⟨#[118,97,108,117,101]⟩=⟨#[109,101,116,101,114,32,118,97,108,117,101]⟩:=by decide
theorem zU (v t:ByteArray)(b:Bool)(h:∀w,aA w→Calls Tryz.prog 20 #[.string v] w fun e w'=>e=.returned (.tuple #[.string t,.bool b])∧Below w.heap.size w w'):bS cU jK v t b:=by
 intro w T;have HX:=hid (h w T);clear T h;unfold cU jK;have c1:=aK1;have c2:=aK8;go_enter Tryz.func83,Tryz.ntmps83
 go_wp2_with fail
 refine HX.out.mono ?_;rintro x W1 ⟨rfl,B1⟩;have HB1:=hid B1;clear B1;go_wp2
 go_ret2;exact⟨rfl,HB1.out⟩
theorem aK2:(⟨#[109,101,116,101,114]⟩:ByteArray)++⟨#[32]⟩=⟨#[109,101,116,101,114,32]⟩:=by decide
theorem aK9:(⟨#[109,101,116,101,114,32]⟩:ByteArray)++⟨#[104,105,103,104]⟩=⟨#[109,101,116,101,114,32,104,105,103,104]⟩:=by decide
theorem aA3 (v t:ByteArray)(b:Bool)(h:∀w,aA w→Calls Tryz.prog 20 #[.string v] w fun e w'=>e=.returned (.tuple #[.string t,.bool b])∧Below w.heap.size w w'):bS cU tF v t b:=by
 intro w T;have HX:=hid (h w T);clear T h;unfold cU tF;have c1:=aK2;have c2:=aK9;go_enter Tryz.func83,Tryz.ntmps83
 go_wp2_with fail
 refine HX.out.mono ?_;rintro x W1 ⟨rfl,B1⟩;have HB1:=hid B1;clear B1;go_wp2
 go_ret2;exact⟨rfl,HB1.out⟩
theorem aK3:(⟨#[109,101,116,101,114]⟩:ByteArray)++⟨#[32]⟩=⟨#[109,101,116,101,114,32]⟩:=by decide
theorem aLa:(⟨#[109,101,116,101,114,32]⟩:ByteArray)++⟨#[108,111,119]⟩=⟨#[109,101,116,101,114,32,108,111,119]⟩:=by decide
theorem aB2 (v t:ByteArray)(b:Bool)(h:∀w,aA w→Calls Tryz.prog 20 #[.string v] w fun e w'=>e=.returned (.tuple #[.string t,.bool b])∧Below w.heap.size w w'):bS cU yF v t b:=by
 intro w T;have HX:=hid (h w T);clear T h;unfold cU yF;have c1:=aK3;have c2:=aLa;go_enter Tryz.func83,Tryz.ntmps83
 go_wp2_with fail
 refine HX.out.mono ?_;rintro x W1 ⟨rfl,B1⟩;have HB1:=hid B1;clear B1;go_wp2
 go_ret2;exact⟨rfl,HB1.out⟩
theorem aK4:(⟨#[109,101,116,101,114]⟩:ByteArray)++⟨#[32]⟩=⟨#[109,101,116,101,114,32]⟩:=by decide
theorem aLb:(⟨#[109,101,116,101,114,32]⟩:ByteArray)++⟨#[109,105,110]⟩=⟨#[109,101,116,101,114,32,109,105,110]⟩:=by decide
theorem aB4 (v t:ByteArray)(b:Bool)(h:∀w,aA w→Calls Tryz.prog 20 #[.string v] w fun e w'=>e=.returned (.tuple #[.string t,.bool b])∧Below w.heap.size w w'):bS cU yG v t b:=by
 intro w T;have HX:=hid (h w T);clear T h;unfold cU yG;have c1:=aK4;have c2:=aLb;go_enter Tryz.func83,Tryz.ntmps83
 go_wp2_with fail
 refine HX.out.mono ?_;rintro x W1 ⟨rfl,B1⟩;have HB1:=hid B1;clear B1;go_wp2
 go_ret2;exact⟨rfl,HB1.out⟩
theorem aK5:(⟨#[112,114,111,103,114,101,115,115]⟩:ByteArray)++⟨#[32]⟩=⟨#[112,114,111,103,114,101,115,115,32]⟩:=by decide
theorem aLc:(⟨#[112,114,111,103,114,101,115,115,32]⟩:ByteArray)++⟨#[109,97,120]⟩=⟨#[112,114,111,103,114,101,115,115,32,109,97,120]⟩:=by decide
theorem xO (v t:ByteArray)(b:Bool)(h:∀w,aA w→Calls Tryz.prog 20 #[.string v] w fun e w'=>e=.returned (.tuple #[.string t,.bool b])∧Below w.heap.size w w'):bS eI pJ v t b:=by
 intro w T;have HX:=hid (h w T);clear T h;unfold eI pJ;have c1:=aK5;have c2:=aLc;go_enter Tryz.func83,Tryz.ntmps83
 go_wp2_with fail
 refine HX.out.mono ?_;rintro x W1 ⟨rfl,B1⟩;have HB1:=hid B1;clear B1;go_wp2
 go_ret2;exact⟨rfl,HB1.out⟩
theorem aK6:(⟨#[112,114,111,103,114,101,115,115]⟩:ByteArray)++⟨#[32]⟩=⟨#[112,114,111,103,114,101,115,115,32]⟩:=by decide
theorem aLd:(⟨#[112,114,111,103,114,101,115,115,32]⟩:ByteArray)++⟨#[118,97,108,117,101]⟩=⟨#[112,114,111,103,114,101,115,115,32,118,97,108,117,101]⟩:=by decide
theorem uD (v t:ByteArray)(b:Bool)(h:∀w,aA w→Calls Tryz.prog 20 #[.string v] w fun e w'=>e=.returned (.tuple #[.string t,.bool b])∧Below w.heap.size w w'):bS eI jK v t b:=by
 intro w T;have HX:=hid (h w T);clear T h;unfold eI jK;have c1:=aK6;have c2:=aLd;go_enter Tryz.func83,Tryz.ntmps83
 go_wp2_with fail
 refine HX.out.mono ?_;rintro x W1 ⟨rfl,B1⟩;have HB1:=hid B1;clear B1;go_wp2
 go_ret2;exact⟨rfl,HB1.out⟩
def aA1:List (List UInt8 × List UInt8):=[([97],[104,114,101,102]),([105,109,103],[115,114,99]),([105,109,103],[97,108,116]),([105,109,103],[104,101,105,103,104,116]),([105,109,103],[119,105,100,116,104]),([111,108],[115,116,97,114,116]),([116,100],[99,111,108,115,112,97,110]),([116,100],[114,111,119,115,112,97,110]),([116,104],[99,111,108,115,112,97,110]),([116,104],[114,111,119,115,112,97,110]),([109,101,116,101,114],[109,97,120]),([109,101,116,101,114],[118,97,108,117,101]),([109,101,116,101,114],[104,105,103,104]),([109,101,116,101,114],[108,111,119]),([109,101,116,101,114],[109,105,110]),([112,114,111,103,114,101,115,115],[109,97,120]),([112,114,111,103,114,101,115,115],[118,97,108,117,101])]
def xN:List (List UInt8):=[[97,32,104,114,101,102],[105,109,103,32,115,114,99],[105,109,103,32,97,108,116],[105,109,103,32,104,101,105,103,104,116],[105,109,103,32,119,105,100,116,104],[111,108,32,115,116,97,114,116],[116,100,32,99,111,108,115,112,97,110],[116,100,32,114,111,119,115,112,97,110],[116,104,32,99,111,108,115,112,97,110],[116,104,32,114,111,119,115,112,97,110],[109,101,116,101,114,32,109,97,120],[109,101,116,101,114,32,118,97,108,117,101],[109,101,116,101,114,32,104,105,103,104],[109,101,116,101,114,32,108,111,119],[109,101,116,101,114,32,109,105,110],[112,114,111,103,114,101,115,115,32,109,97,120],[112,114,111,103,114,101,115,115,32,118,97,108,117,101]]
theorem aEv {P:Program}{fn:Func}{s t:Nat}{tmps:Array Value}{u v:Value}(w:World)(h:fn.results=#[.tmp s,.tmp t])(hu:tmps.getD s undef=u)(hv:tmps.getD t undef=v):(results fn tmps).run P w=.ok (.tuple #[u,v]) w:=by
 unfold results;rw[h];rw[Array.getD_eq_getD_getElem?]at hu hv
 simp[hu,hv]
theorem aG0 {P:Program}{Q:Exit→Act→World→Prop}{w:World}{s:ByteArray}{k n:Nat}{B C:TypeId}{t1 t2:Nat}{v1 v2:Value}{rid:Nat}{p1 p2:String}{f1 f2:Array Edge}{a:Act}(hC:fV s k n a)(ht:(t1 !=k&&t2 !=k&&t1 !=t2&&decide (t1<n)&&decide (t2<n))=true)
  (h:∀a',fV s k n a'→a'.eval (.tmp t1)=v1→a'.eval (.tmp t2)=v2→Q .normal a' w) :
  (Code.region rid #[{ dst:=some t1,op:=Op.assign (Operand.const v1),type:=B,pos:=p1,after:=f1,guard:=none },{ dst:=some t2,op:=Op.assign (Operand.const v2),type:=C,pos:=p2,after:=f2,guard:=none }] false).wp P Q a w:=by
 simp only[Bool.and_eq_true,bne_iff_ne,ne_eq,decide_eq_true_eq]at ht;have h1:=hC.put t1 v1 ht.1.1.1.1;have e1:=pB (a:=a) (t:=t1) (v:=v1) (by rw[hC.size];exact ht.1.2);have h2:=h1.put t2 v2 ht.1.1.1.2;have e2:=pB (a:=a.put (some t1) v1) (t:=t2) (v:=v2) (by rw[h1.size];exact ht.2);have e3:((a.put (some t1) v1).put (some t2) v2).eval (.tmp t1)=v1:=by
  rw[←e1];simp[Act.eval,Act.put,Array.getD_eq_getD_getElem?,Ne.symm ht.1.1.2];intro x y;omega
 have ec:a.eval (.const v1)=v1:=rfl;have ec2:(a.put (some t1) v1).eval (.const v2)=v2:=rfl;refine wp_region_lit (l:=[_,_]) ?_;refine wpList_plain rfl fun K hK=>?_
 have hx:=hK _ _ (wpList_plain (P:=P) (w:=w) (rest:=[]) (o:={ dst:=some t2,op:=Op.assign (Operand.const v2),type:=C,pos:=p2,after:=f2,guard:=none }) (a:=a.put (some t1) v1) rfl fun K2 hK2=>by
  have:=hK2 _ _ (wpList_nil (h _ h2 e3 e2));unfold Oper.wp;simp[execOp,ec2,Oper.upon];exact this)
 unfold Oper.wp;simp[execOp,ec,Oper.upon];exact hx
theorem aHy (e n v:ByteArray)(he:e.size≤1000000000)(hn:n.size≤1000000000)(K:ByteArray)(hK:Hid (K=e++⟨#[32]⟩++n))(h1:(n.toList==[116,105,116,108,101])=false)(h2:(n.toList==[108,97,110,103])=false)(h3:(n.toList==[100,105,114])=false)
  (hN:Hid (∀l:List UInt8,xN.contains l=true→(K.toList==(⟨l.toArray⟩:ByteArray).toList)=false)):bS e n v ⟨#[]⟩ false:=by
 intro w T;clear T;have ek:e++⟨#[32]⟩++n=K:=hK.out.symm;go_enter Tryz.func83,Tryz.ntmps83
 go_upto_region 15 with fail
 rename_i _ k1 a1 k0 a0;refine wX 9 K _ 37 90 (hN.out _ (by decide +kernel)) ⟨rfl,rfl,rfl⟩ rfl ?_;intro a hC hb;repeat' (first
  | (refine wX 9 K _ 37 90 (hN.out _ (by decide +kernel)) hC rfl ?_;clear hC;intro a hC hb)
  | (with_reducible refine kN ?_)
  | (with_reducible refine tZ ?_)
  | (with_reducible refine wp_cond_false hb ?_)
  | (with_reducible refine wp_seq ?_)
  | (with_reducible refine wp_skip ?_)
  | (with_reducible refine a0 _ _ ?_)
  | (with_reducible refine a1 _ _ ?_))
 refine aG0 hC rfl ?_;clear hC hb;intro a hC h6 h7;refine kN (wp_ret ?_);exact⟨hC.defers,_,aEv w rfl h6 h7,rfl,Below.refl _ _⟩
open Go.RowKit
theorem aIE (a b x y:List UInt8)(c:UInt8)(h:a++c :: b=x++c :: y)(hx:c∉x)(hy:c∉y):a=x∧b=y:=by
 rcases List.append_eq_append_iff.1 h with⟨l,h1,h2⟩|⟨l,h1,h2⟩
 ·cases l with
  | nil =>
   simp only[List.nil_append,List.cons.injEq,true_and]at h2;exact⟨by rw[h1,List.append_nil],h2⟩
  | cons d l =>
   simp only[List.cons_append,List.cons.injEq]at h2;exact absurd (by rw[h1,h2.1];simp) hx
 ·cases l with
  | nil =>
   simp only[List.nil_append,List.cons.injEq,true_and]at h2;exact⟨by rw[h1,List.append_nil],h2.symm⟩
  | cons d l =>
   simp only[List.cons_append,List.cons.injEq]at h2;exact absurd (by rw[h2.2];simp) hy
theorem aHx:xN=aA1.map (fun p=>p.1++32 :: p.2):=by decide
theorem aJD:∀p∈aA1,(32:UInt8)∉p.1∧(32:UInt8)∉p.2∧aT ⟨p.1.toArray⟩ ⟨p.2.toArray⟩≠.none:=by decide +kernel
theorem aJO {e n:ByteArray}(h:aT e n=.none)(l:List UInt8)(hl:xN.contains l=true):((e++⟨#[32]⟩++n).toList==(⟨l.toArray⟩:ByteArray).toList)=false:=by
 rw[beq_eq_false_iff_ne,toList_data,toList_data];intro he;rw[aHx]at hl
 have hl2:l∈aA1.map (fun p=>p.1++32 :: p.2):=by
  rw[List.contains_iff_mem]at hl
  exact hl
 obtain⟨p,hp,e1⟩:=List.mem_map.1 hl2;obtain⟨p1,p2,p3⟩:=aJD p hp;have he2:e.data.toList++32 :: n.data.toList=p.1++32 :: p.2:=by
  have e3:(e++⟨#[32]⟩++n).data.toList=e.data.toList++32 :: n.data.toList:=by simp
  rw[←e3,he,←e1]
 obtain⟨h1,h2⟩:=aIE _ _ _ _ _ he2 p1 p2;refine p3 ?_;rw[←h1,←h2];exact h
theorem aAO (v:ByteArray):(nI v).size≤3*v.size:=qI v.data.toList
theorem aAc (v:ByteArray):(gG v).size≤3*v.size:=uJ v.data.toList
theorem aG9 {v:ByteArray}(h:xF v):v.size≤4:=by rcases h with rfl|rfl|rfl<;>decide
theorem xK {e n:ByteArray}(h:aT e n=.none):n≠jJ∧n≠nE∧n≠tE:=by
 unfold aT at h;refine⟨fun c=>?_,fun c=>?_,fun c=>?_⟩
 ·rw[if_pos c]at h;cases h
 ·by_cases d:n=jJ
  ·rw[if_pos d]at h;cases h
  ·rw[if_neg d,if_pos c]at h;cases h
 ·by_cases d:n=jJ
  ·rw[if_pos d]at h;cases h
  ·by_cases d2:n=nE
   ·rw[if_neg d,if_pos d2]at h;cases h
   ·rw[if_neg d,if_neg d2,if_pos c]at h;cases h
theorem aEf {e n:ByteArray}(h:eK e n=true):(e=cU∧(n=pJ∨n=jK∨n=tF∨n=yF∨n=yG))∨(e=eI∧(n=pJ∨n=jK)):=by
 unfold eK at h;simp only[Bool.or_eq_true,Bool.and_eq_true,decide_eq_true_eq]at h;rcases h with⟨h1,h2⟩|⟨h1,h2⟩
 ·refine .inl ⟨h1,?_⟩;rcases h2 with(((h|h)|h)|h)|h
  ·exact .inl h
  ·exact .inr (.inl h)
  ·exact .inr (.inr (.inl h))
  ·exact .inr (.inr (.inr (.inl h)))
  ·exact .inr (.inr (.inr (.inr h)))
 ·exact .inr ⟨h1,h2⟩
theorem aCW {e n v t:ByteArray}{b:Bool}(h:eK e n=true)(H:∀w,aA w→Calls Tryz.prog 20 #[.string v] w fun e w'=>e=.returned (.tuple #[.string t,.bool b])∧Below w.heap.size w w'):bS e n v t b:=by
 rcases aEf h with⟨rfl,h|h|h|h|h⟩|⟨rfl,h|h⟩<;>subst h
 ·exact aB3 v t b H
 ·exact zU v t b H
 ·exact aA3 v t b H
 ·exact aB2 v t b H
 ·exact aB4 v t b H
 ·exact xO v t b H
 ·exact uD v t b H
theorem aE0 {e n v:ByteArray}{x:Int}{b:Bool}(h:(e=sTd∨e=sTh)∧(n=fP∨n=fQ))(H:dQ v 1 1000 x b):bS e n v v b:=by
 rcases h with⟨rfl|rfl,rfl|rfl⟩
 ·exact aA4 v x b H
 ·exact aA5 v x b H
 ·exact aA6 v x b H
 ·exact aA7 v x b H
theorem aEY {e n v:ByteArray}{x:Int}{b:Bool}(h:e=dW∧(n=jW∨n=mJ))(H:dQ v 0 9999 x b):bS e n v v b:=by
 rcases h with⟨rfl,rfl|rfl⟩
 ·exact aA2 v x b H
 ·exact aB1 v x b H
theorem aEZ {e n v:ByteArray}{x:Int}{b:Bool}(h:e=sOl∧n=mI)(H:dQ v 0 999999 x b):bS e n v v b:=by
 rcases h with⟨rfl,rfl⟩
 exact aCX v x b H
theorem aBx (e n v t:ByteArray)(hs:v.size≤1048576)(h:nY (aT e n) v (some t)):bS e n v t true∧t.size≤4000000:=by
 have ht:=aAO v;have hl:=aAc v;unfold aT at h;by_cases c0:n=jJ
 ·rw[if_pos c0]at h
  subst c0;have h':t=nI v:=h;subst h';exact⟨aFP e v (by omega),by omega⟩
 rw[if_neg c0]at h
 by_cases c1:n=nE
 ·rw[if_pos c1]at h
  subst c1;obtain⟨hp,rfl⟩:=h;exact⟨aBw e t (by omega) true (hid ⟨fun _=>hp,fun _=>rfl⟩),by omega⟩
 rw[if_neg c1]at h
 by_cases c2:n=tE
 ·rw[if_pos c2]at h
  subst c2;obtain⟨hp,rfl⟩:=h;exact⟨aCV e v _ true (by omega) (hid ⟨fun _=>⟨rfl,rfl⟩,fun hn=>absurd hp hn⟩),by have:=aG9 hp;omega⟩
 rw[if_neg c2]at h
 by_cases c3:e=sA∧n=iQ
 ·rw[if_pos c3]at h
  obtain⟨rfl,rfl⟩:=c3;obtain⟨hp,rfl⟩:=h;exact⟨oF v true (hid hp) (by omega),by omega⟩
 rw[if_neg c3]at h
 by_cases c4:e=dW∧n=uV
 ·rw[if_pos c4]at h
  obtain⟨rfl,rfl⟩:=c4;obtain⟨hp,rfl⟩:=h;exact⟨wH v true (hid hp) (by omega),by omega⟩
 rw[if_neg c4]at h
 by_cases c9:e=dW∧n=uS
 ·rw[if_pos c9]at h
  obtain⟨rfl,rfl⟩:=c9;have h':t=nI v:=h;subst h';exact⟨aEd v (by omega),by omega⟩
 rw[if_neg c9]at h
 by_cases c5:e=dW∧(n=jW∨n=mJ)
 ·rw[if_pos c5]at h
  obtain⟨⟨x,hx⟩,rfl⟩:=h;exact⟨aEY c5 hx,by omega⟩
 rw[if_neg c5]at h
 by_cases c6:e=sOl∧n=mI
 ·rw[if_pos c6]at h
  obtain⟨⟨x,hx⟩,rfl⟩:=h;exact⟨aEZ c6 hx,by omega⟩
 rw[if_neg c6]at h
 by_cases c7:(e=sTd∨e=sTh)∧(n=fP∨n=fQ)
 ·rw[if_pos c7]at h
  obtain⟨⟨x,hx⟩,rfl⟩:=h;exact⟨aE0 c7 hx,by omega⟩
 rw[if_neg c7]at h
 by_cases c8:eK e n=true
 ·rw[if_pos c8]at h
  exact⟨aCW c8 h.yes,by have:=h.sz;omega⟩
 rw[if_neg c8]at h
 exact h.elim
theorem aLA (e n v:ByteArray)(he:e.size≤1000000000)(hn:n.size≤1000000000)(hs:v.size≤1048576)(h:nY (aT e n) v none):∃t,bS e n v t false:=by
 by_cases hk:aT e n=.none
 ·obtain⟨k1,k2,k3⟩:=xK hk;exact⟨_,aHy e n v he hn _ (hid rfl) (oQ _ k1 rfl) (oQ _ k2 rfl) (oQ _ k3 rfl) (hid (aJO hk))⟩
 unfold aT at h hk;by_cases c0:n=jJ
 ·rw[if_pos c0]at h
  exact h.elim
 rw[if_neg c0]at h hk
 by_cases c1:n=nE
 ·rw[if_pos c1]at h
  subst c1;exact⟨v,aBw e v (by omega) false (hid (Iff.intro (fun hh=>by cases hh) (fun hh=>absurd hh h)))⟩
 rw[if_neg c1]at h hk
 by_cases c2:n=tE
 ·rw[if_pos c2]at h
  subst c2;exact⟨⟨#[]⟩,aCV e v _ false (by omega) (hid ⟨fun hh=>absurd hh h,fun _=>⟨rfl,rfl⟩⟩)⟩
 rw[if_neg c2]at h hk
 by_cases c3:e=sA∧n=iQ
 ·rw[if_pos c3]at h
  obtain⟨rfl,rfl⟩:=c3;exact⟨_,oF v false (hid h) (by omega)⟩
 rw[if_neg c3]at h hk
 by_cases c4:e=dW∧n=uV
 ·rw[if_pos c4]at h
  obtain⟨rfl,rfl⟩:=c4;exact⟨_,wH v false (hid h) (by omega)⟩
 rw[if_neg c4]at h hk
 by_cases c9:e=dW∧n=uS
 ·rw[if_pos c9]at h
  exact h.elim
 rw[if_neg c9]at h hk
 by_cases c5:e=dW∧(n=jW∨n=mJ)
 ·rw[if_pos c5]at h
  obtain⟨x,hx⟩:=h;exact⟨_,aEY c5 hx⟩
 rw[if_neg c5]at h hk
 by_cases c6:e=sOl∧n=mI
 ·rw[if_pos c6]at h
  obtain⟨x,hx⟩:=h;exact⟨_,aEZ c6 hx⟩
 rw[if_neg c6]at h hk
 by_cases c7:(e=sTd∨e=sTh)∧(n=fP∨n=fQ)
 ·rw[if_pos c7]at h
  obtain⟨x,hx⟩:=h;exact⟨_,aE0 c7 hx⟩
 rw[if_neg c7]at h hk
 by_cases c8:eK e n=true
 ·rw[if_pos c8]at h
  exact⟨_,aCW c8 h⟩
 rw[if_neg c8]at hk
 exact absurd rfl hk
def fU:Option ByteArray→Value
 | some t=>.tuple #[.string t,.bool true]
 | none=>.tuple #[.string ⟨#[]⟩,.bool false]
theorem aGz {a b:Option ByteArray}(h:fU a=fU b):a=b:=by
 cases a<;>cases b<;>simp[fU]at h ⊢
 exact h
theorem qK (e n v:ByteArray)(o:Option ByteArray)(he:e.size≤1000000000)(hn:n.size≤1000000000)(hs:v.size≤1048576)(h:gR e n v o)(w:World)(T:aA w) :
  Calls Tryz.prog 37 #[.string e,.string n,.string v] w fun x w'=>x=.returned (fU o)∧Below w.heap.size w w':=by
 have HK:Hid (aX e (cH e.data.toList:Nat)):=fun w=>kY e w
 cases o with
 | some t =>
  obtain⟨h1,h2,h3⟩:=h;obtain⟨f1,f2⟩:=aBx e n v t hs h2;exact aBX e n v t _ HK (by omega) (by rw[beq_eq_false_iff_ne];omega) (hid f1) f2 (hid h3) w T
 | none =>
  by_cases hk:cH e.data.toList<2∨cH e.data.toList=14
  ·exact aIS e n v _ HK (by omega) w
  ·rcases h with h|h|⟨t,h,h3⟩
   ·exact absurd h hk
   ·obtain⟨t,f1⟩:=aLA e n v he hn hs h;exact aDX e n v t _ HK (by omega) (by rw[beq_eq_false_iff_ne];omega) (hid f1) w T
   ·obtain⟨f1,f2⟩:=aBx e n v t hs h;exact aGA e n v t _ HK (by omega) (by rw[beq_eq_false_iff_ne];omega) (hid f1) f2 (hid h3) w T
theorem aJC (w0:World)(T0:aA w0)(k:FK)(v:ByteArray)(hs:v.size≤1048576):∃o,nY k v o:=by
 cases k with
 | text=>exact⟨some _,rfl⟩
 | lang =>
  by_cases h:kQ v
  ·exact⟨some v,h,rfl⟩
  ·exact⟨none,h⟩
 | dir =>
  by_cases h:xF (cK v)
  ·exact⟨some _,h,rfl⟩
  ·exact⟨none,h⟩
 | linkA =>
  cases h:dI kU (aZ v.data.toList)with
  | true=>exact⟨some _,h,rfl⟩
  | false=>exact⟨none,h⟩
 | linkI =>
  cases h:dI qZ (aZ v.data.toList)with
  | true=>exact⟨some _,h,rfl⟩
  | false=>exact⟨none,h⟩
 | whole lo hi =>
  obtain⟨x,b,hx⟩:=aDY v lo hi (by unfold maxLen;omega);cases b with
  | true=>exact⟨some v,⟨x,hx⟩,rfl⟩
  | false=>exact⟨none,x,hx⟩
 | fix =>
  rcases aEX w0 T0 v (by unfold maxLen;omega)with⟨t,h⟩|h
  ·exact⟨some t,h⟩
  ·exact⟨none,h⟩
 | none=>exact⟨none,trivial⟩
theorem aBV (w0:World)(T0:aA w0)(e n v:ByteArray)(hs:v.size≤1048576):∃o,gR e n v o:=by
 by_cases hk:cH e.data.toList<2∨cH e.data.toList=14
 ·exact⟨none,.inl hk⟩
 ·obtain⟨o,ho⟩:=aJC w0 T0 (aT e n) v hs;cases o with
  | none=>exact⟨none,.inr (.inl ho)⟩
  | some t =>
   rcases Nat.lt_or_ge 120 (fC t).size with h|h
   ·exact⟨none,.inr (.inr ⟨t,ho,h⟩)⟩
   ·exact⟨some t,hk,ho,h⟩
theorem aBW (w0:World)(T0:aA w0){e n v:ByteArray}{o o':Option ByteArray}(he:e.size≤1000000000)(hn:n.size≤1000000000)(hs:v.size≤1048576)(h:gR e n v o)(h':gR e n v o'):o=o' :=
 aGz (pS (by kernel_rfl) (qK e n v o he hn hs h w0 T0) (qK e n v o' he hn hs h' w0 T0))
theorem aEt (old new:List UInt8)(h:old.length≤new.length)(h1:1≤old.length):∀(k:Nat) (s:List UInt8),s.length≤(Lib.replaceK old new k s).length:=by
 intro k;induction k with
 | zero=>intro s;simp[Lib.replaceK]
 | succ k ih =>
  intro s;by_cases hi:Lib.index s old=-1
  ·unfold Lib.replaceK;rw[if_pos (by rw[hi];rfl)];exact Nat.le_refl _
  ·have hge:=Lib.index_ge s old;obtain⟨i,hi'⟩:∃i:Nat,Lib.index s old=i:=⟨(Lib.index s old).toNat,by omega⟩
   rw[Lib.replaceK_hit old new k s i hi'];have:=ih (s.drop (i+old.length));have hr:=Lib.index_room s old (by omega);rw[List.length_append,List.length_append,List.length_take];rw[List.length_drop]at this
   omega
theorem rO (s old new:ByteArray)(h:old.size≤new.size)(h1:1≤old.size):s.size≤(cY s old new).size:=by
 show s.data.toList.length≤(Lib.replaceAll s.data.toList old.data.toList new.data.toList).length;unfold Lib.replaceAll Lib.replace;split
 ·exact Nat.le_refl _
 ·exact aEt _ _ h h1 _ _
theorem aNc (t:ByteArray):t.size≤(fC t).size:=by
 unfold fC;refine Nat.le_trans ?_ (rO _ _ _ (by decide) (by decide));refine Nat.le_trans ?_ (rO _ _ _ (by decide) (by decide));refine Nat.le_trans ?_ (rO _ _ _ (by decide) (by decide));refine Nat.le_trans ?_ (rO _ _ _ (by decide) (by decide));exact rO _ _ _ (by decide) (by decide)
theorem aGB {e n v t:ByteArray}(h:gR e n v (some t)):t.size≤120:=Nat.le_trans (aNc t) h.2.2
end Go.Proofs.YtcfgbdhpcboikaaGreatDoor
