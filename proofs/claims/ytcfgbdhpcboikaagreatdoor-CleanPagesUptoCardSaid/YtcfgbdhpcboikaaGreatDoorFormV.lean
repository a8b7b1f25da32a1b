/-
policy.form at each of its keys (printed by wip/gen/formv.py).
-/
import Derived.Test.YtcfgbdhpcboikaaGreatDoorLinkF
namespace Go.Proofs.YtcfgbdhpcboikaaGreatDoor
set_option maxHeartbeats 2000000
set_option maxRecDepth 100000
open Go.RowKit
theorem lN (v:I)(lo hi:Nat)(n:Int)(b:Bool)(h:fL v lo hi n b)(w:H):Y 144 #[.string v,.int .i64 lo,.int .i64 hi] w (O (.tuple #[.string v,.bool b]) w):=by
 have c:=Z h.one;clear h;go_enter Tryz.func144,Tryz.ntmps144;go_wp2_with fail;refine(c.o _).mono ?_;rintro e f ⟨rfl,a⟩;have d:=Z a;clear a;go_wp2;go_ret2;exact⟨rfl,d.o⟩
theorem aEk (e v:I)(g:v.size<=140737488355328)(b:Bool)(f:G (b=true↔oJ v)):cX e rG v v b:=by
 intro w T;have d:=Z (aNb v g b f);clear T;unfold rG;go_enter Tryz.func83,Tryz.ntmps83;go_wp2_with fail;refine(d.o _).mono ?_;rintro x h ⟨rfl,a⟩;have c:=Z a;clear a;go_wp2;go_ret2;exact⟨rfl,c.o⟩
theorem aQE:(⟨#[105,109,103]⟩:I)++⟨#[32]⟩=⟨#[105,109,103,32]⟩:=by decide
theorem aQN:(⟨#[105,109,103,32]⟩:I)++⟨#[115,114,99]⟩=⟨#[105,109,103,32,115,114,99]⟩:=by decide
theorem aBk (v:I)(b:Bool)(h:G (fQ wF (cG v.data.toList)=b))(i:v.size<=1000000000):cX fS aAz v (jU v) b:=by
 intro w T;have g:=Z T;clear T;unfold fS aAz;have c1:=aQE;have c2:=aQN;go_enter Tryz.func83,Tryz.ntmps83;go_wp2_with fail
 have a:Below w.heap.size w (w.alloc (.cells #[Value.string ⟨#[104,116,116,112]⟩,Value.string ⟨#[104,116,116,112,115]⟩] 9)):=(aj _ w).alloc (ag _) _;have e:rO (w.alloc (.cells #[Value.string ⟨#[104,116,116,112]⟩,Value.string ⟨#[104,116,116,112,115]⟩] 9)) w.heap.size 0 wF:=by
  intro j c;rw[be,aq _ w.heap.size j _ 9 (0,0) (bi w _)];have:∀j<2,(#[Value.string ⟨#[104,116,116,112]⟩,Value.string ⟨#[104,116,116,112,115]⟩]:Array Value)[j]?=some (Value.string (wF.getD j ByteArray.empty)):=by
   intro j c;match j,c with
   | 0,_=>rfl
   | 1,_=>rfl
  exact this j c
 refine(aEo v i w.heap.size 0 2 2 wF rfl (by omega) _ (g.o.below a (ag _)) e (by simp) b h).mono ?_;rintro x k ⟨rfl,d⟩;have f:=Z (a.trans (d.mono (by simp)));clear d a e;go_wp2;go_ret2;exact⟨rfl,f.o⟩
theorem aQF:(⟨#[105,109,103]⟩:I)++⟨#[32]⟩=⟨#[105,109,103,32]⟩:=by decide
theorem aQO:(⟨#[105,109,103,32]⟩:I)++⟨#[97,108,116]⟩=⟨#[105,109,103,32,97,108,116]⟩:=by decide
theorem aHf (v:I)(d:v.size<=1000000000):cX fS aAw v (dK v) true:=by
 intro w T;have c:=Z (uR v d w T);clear T;unfold fS aAw;have c1:=aQF;have c2:=aQO;go_enter Tryz.func83,Tryz.ntmps83;go_wp2_with fail;refine c.o.mono ?_;rintro x e ⟨rfl,a⟩;have b:=Z a;clear a;go_wp2;go_ret2;exact⟨rfl,b.o⟩
theorem aQG:(⟨#[105,109,103]⟩:I)++⟨#[32]⟩=⟨#[105,109,103,32]⟩:=by decide
theorem aQP:(⟨#[105,109,103,32]⟩:I)++⟨#[104,101,105,103,104,116]⟩=⟨#[105,109,103,32,104,101,105,103,104,116]⟩:=by decide
theorem aDL (v:I)(x:Int)(b:Bool)(h:fL v 0 9999 x b):cX fS nM v v b:=by
 intro w T;have d:=Z (lN v 0 9999 x b h);clear T;unfold fS nM;have c1:=aQG;have c2:=aQP;go_enter Tryz.func83,Tryz.ntmps83;go_wp2_with fail;refine(d.o _).mono ?_;rintro x e ⟨rfl,a⟩;have c:=Z a;clear a;go_wp2;go_ret2;exact⟨rfl,c.o⟩
theorem aQH:(⟨#[105,109,103]⟩:I)++⟨#[32]⟩=⟨#[105,109,103,32]⟩:=by decide
theorem aQQ:(⟨#[105,109,103,32]⟩:I)++⟨#[119,105,100,116,104]⟩=⟨#[105,109,103,32,119,105,100,116,104]⟩:=by decide
theorem aET (v:I)(x:Int)(b:Bool)(h:fL v 0 9999 x b):cX fS qC v v b:=by
 intro w T;have d:=Z (lN v 0 9999 x b h);clear T;unfold fS qC;have c1:=aQH;have c2:=aQQ;go_enter Tryz.func83,Tryz.ntmps83;go_wp2_with fail;refine(d.o _).mono ?_;rintro x e ⟨rfl,a⟩;have c:=Z a;clear a;go_wp2;go_ret2;exact⟨rfl,c.o⟩
theorem aQI:(⟨#[111,108]⟩:I)++⟨#[32]⟩=⟨#[111,108,32]⟩:=by decide
theorem aQR:(⟨#[111,108,32]⟩:I)++⟨#[115,116,97,114,116]⟩=⟨#[111,108,32,115,116,97,114,116]⟩:=by decide
theorem aF1 (v:I)(x:Int)(b:Bool)(h:fL v 0 999999 x b):cX sOl qB v v b:=by
 intro w T;have d:=Z (lN v 0 999999 x b h);clear T;unfold sOl qB;have c1:=aQI;have c2:=aQR;go_enter Tryz.func83,Tryz.ntmps83;go_wp2_with fail;refine(d.o _).mono ?_;rintro x e ⟨rfl,a⟩;have c:=Z a;clear a;go_wp2;go_ret2;exact⟨rfl,c.o⟩
theorem aQJ:(⟨#[116,100]⟩:I)++⟨#[32]⟩=⟨#[116,100,32]⟩:=by decide
theorem aQS:(⟨#[116,100,32]⟩:I)++⟨#[99,111,108,115,112,97,110]⟩=⟨#[116,100,32,99,111,108,115,112,97,110]⟩:=by decide
theorem aDN (v:I)(x:Int)(b:Bool)(h:fL v 1 1000 x b):cX sTd iX v v b:=by
 intro w T;have d:=Z (lN v 1 1000 x b h);clear T;unfold sTd iX;have c1:=aQJ;have c2:=aQS;go_enter Tryz.func83,Tryz.ntmps83;go_wp2_with fail;refine(d.o _).mono ?_;rintro x e ⟨rfl,a⟩;have c:=Z a;clear a;go_wp2;go_ret2;exact⟨rfl,c.o⟩
theorem aQK:(⟨#[116,100]⟩:I)++⟨#[32]⟩=⟨#[116,100,32]⟩:=by decide
theorem aQT:(⟨#[116,100,32]⟩:I)++⟨#[114,111,119,115,112,97,110]⟩=⟨#[116,100,32,114,111,119,115,112,97,110]⟩:=by decide
theorem aDO (v:I)(x:Int)(b:Bool)(h:fL v 1 1000 x b):cX sTd iY v v b:=by
 intro w T;have d:=Z (lN v 1 1000 x b h);clear T;unfold sTd iY;have c1:=aQK;have c2:=aQT;go_enter Tryz.func83,Tryz.ntmps83;go_wp2_with fail;refine(d.o _).mono ?_;rintro x e ⟨rfl,a⟩;have c:=Z a;clear a;go_wp2;go_ret2;exact⟨rfl,c.o⟩
theorem aQL:(⟨#[116,104]⟩:I)++⟨#[32]⟩=⟨#[116,104,32]⟩:=by decide
theorem aQU:(⟨#[116,104,32]⟩:I)++⟨#[99,111,108,115,112,97,110]⟩=⟨#[116,104,32,99,111,108,115,112,97,110]⟩:=by decide
theorem aDP (v:I)(x:Int)(b:Bool)(h:fL v 1 1000 x b):cX sTh iX v v b:=by
 intro w T;have d:=Z (lN v 1 1000 x b h);clear T;unfold sTh iX;have c1:=aQL;have c2:=aQU;go_enter Tryz.func83,Tryz.ntmps83;go_wp2_with fail;refine(d.o _).mono ?_;rintro x e ⟨rfl,a⟩;have c:=Z a;clear a;go_wp2;go_ret2;exact⟨rfl,c.o⟩
theorem aQM:(⟨#[116,104]⟩:I)++⟨#[32]⟩=⟨#[116,104,32]⟩:=by decide
theorem aQV:(⟨#[116,104,32]⟩:I)++⟨#[114,111,119,115,112,97,110]⟩=⟨#[116,104,32,114,111,119,115,112,97,110]⟩:=by decide
theorem aDQ (v:I)(x:Int)(b:Bool)(h:fL v 1 1000 x b):cX sTh iY v v b:=by
 intro w T;have d:=Z (lN v 1 1000 x b h);clear T;unfold sTh iY;have c1:=aQM;have c2:=aQV;go_enter Tryz.func83,Tryz.ntmps83;go_wp2_with fail;refine(d.o _).mono ?_;rintro x e ⟨rfl,a⟩;have c:=Z a;clear a;go_wp2;go_ret2;exact⟨rfl,c.o⟩
theorem aOH:(⟨#[109,101,116,101,114]⟩:I)++⟨#[32]⟩=⟨#[109,101,116,101,114,32]⟩:=by decide
theorem aOO:(⟨#[109,101,116,101,114,32]⟩:I)++⟨#[109,97,120]⟩=⟨#[109,101,116,101,114,32,109,97,120]⟩:=by decide
theorem aEV (v t:I)(b:Bool)(h:∀w,aA w->Y 20 #[.string v] w (O (.tuple #[.string t,.bool b]) w)):cX eF uN v t b:=by
 intro w T;have d:=Z (h w T);clear T h;unfold eF uN;have c1:=aOH;have c2:=aOO;go_enter Tryz.func83,Tryz.ntmps83;go_wp2_with fail;refine d.o.mono ?_;rintro x e ⟨rfl,a⟩;have c:=Z a;clear a;go_wp2;go_ret2;exact⟨rfl,c.o⟩
theorem aOI:(⟨#[109,101,116,101,114]⟩:I)++⟨#[32]⟩=⟨#[109,101,116,101,114,32]⟩:=by decide
theorem aOP:(⟨#[109,101,116,101,114,32]⟩:I)++⟨#[118,97,108,117,101]⟩=⟨#[109,101,116,101,114,32,118,97,108,117,101]⟩:=by decide
theorem aCJ (v t:I)(b:Bool)(h:∀w,aA w->Y 20 #[.string v] w (O (.tuple #[.string t,.bool b]) w)):cX eF mW v t b:=by
 intro w T;have d:=Z (h w T);clear T h;unfold eF mW;have c1:=aOI;have c2:=aOP;go_enter Tryz.func83,Tryz.ntmps83;go_wp2_with fail;refine d.o.mono ?_;rintro x e ⟨rfl,a⟩;have c:=Z a;clear a;go_wp2;go_ret2;exact⟨rfl,c.o⟩
theorem aOJ:(⟨#[109,101,116,101,114]⟩:I)++⟨#[32]⟩=⟨#[109,101,116,101,114,32]⟩:=by decide
theorem aOQ:(⟨#[109,101,116,101,114,32]⟩:I)++⟨#[104,105,103,104]⟩=⟨#[109,101,116,101,114,32,104,105,103,104]⟩:=by decide
theorem aDM (v t:I)(b:Bool)(h:∀w,aA w->Y 20 #[.string v] w (O (.tuple #[.string t,.bool b]) w)):cX eF zB v t b:=by
 intro w T;have d:=Z (h w T);clear T h;unfold eF zB;have c1:=aOJ;have c2:=aOQ;go_enter Tryz.func83,Tryz.ntmps83;go_wp2_with fail;refine d.o.mono ?_;rintro x e ⟨rfl,a⟩;have c:=Z a;clear a;go_wp2;go_ret2;exact⟨rfl,c.o⟩
theorem aOK:(⟨#[109,101,116,101,114]⟩:I)++⟨#[32]⟩=⟨#[109,101,116,101,114,32]⟩:=by decide
theorem aOR:(⟨#[109,101,116,101,114,32]⟩:I)++⟨#[108,111,119]⟩=⟨#[109,101,116,101,114,32,108,111,119]⟩:=by decide
theorem aEU (v t:I)(b:Bool)(h:∀w,aA w->Y 20 #[.string v] w (O (.tuple #[.string t,.bool b]) w)):cX eF aBZ v t b:=by
 intro w T;have d:=Z (h w T);clear T h;unfold eF aBZ;have c1:=aOK;have c2:=aOR;go_enter Tryz.func83,Tryz.ntmps83;go_wp2_with fail;refine d.o.mono ?_;rintro x e ⟨rfl,a⟩;have c:=Z a;clear a;go_wp2;go_ret2;exact⟨rfl,c.o⟩
theorem aOL:(⟨#[109,101,116,101,114]⟩:I)++⟨#[32]⟩=⟨#[109,101,116,101,114,32]⟩:=by decide
theorem aOS:(⟨#[109,101,116,101,114,32]⟩:I)++⟨#[109,105,110]⟩=⟨#[109,101,116,101,114,32,109,105,110]⟩:=by decide
theorem aEW (v t:I)(b:Bool)(h:∀w,aA w->Y 20 #[.string v] w (O (.tuple #[.string t,.bool b]) w)):cX eF aB0 v t b:=by
 intro w T;have d:=Z (h w T);clear T h;unfold eF aB0;have c1:=aOL;have c2:=aOS;go_enter Tryz.func83,Tryz.ntmps83;go_wp2_with fail;refine d.o.mono ?_;rintro x e ⟨rfl,a⟩;have c:=Z a;clear a;go_wp2;go_ret2;exact⟨rfl,c.o⟩
theorem aOM:(⟨#[112,114,111,103,114,101,115,115]⟩:I)++⟨#[32]⟩=⟨#[112,114,111,103,114,101,115,115,32]⟩:=by decide
theorem aOT:(⟨#[112,114,111,103,114,101,115,115,32]⟩:I)++⟨#[109,97,120]⟩=⟨#[112,114,111,103,114,101,115,115,32,109,97,120]⟩:=by decide
theorem aBN (v t:I)(b:Bool)(h:∀w,aA w->Y 20 #[.string v] w (O (.tuple #[.string t,.bool b]) w)):cX gI uN v t b:=by
 intro w T;have d:=Z (h w T);clear T h;unfold gI uN;have c1:=aOM;have c2:=aOT;go_enter Tryz.func83,Tryz.ntmps83;go_wp2_with fail;refine d.o.mono ?_;rintro x e ⟨rfl,a⟩;have c:=Z a;clear a;go_wp2;go_ret2;exact⟨rfl,c.o⟩
theorem aON:(⟨#[112,114,111,103,114,101,115,115]⟩:I)++⟨#[32]⟩=⟨#[112,114,111,103,114,101,115,115,32]⟩:=by decide
theorem aOU:(⟨#[112,114,111,103,114,101,115,115,32]⟩:I)++⟨#[118,97,108,117,101]⟩=⟨#[112,114,111,103,114,101,115,115,32,118,97,108,117,101]⟩:=by decide
theorem aAg (v t:I)(b:Bool)(h:∀w,aA w->Y 20 #[.string v] w (O (.tuple #[.string t,.bool b]) w)):cX gI mW v t b:=by
 intro w T;have d:=Z (h w T);clear T h;unfold gI mW;have c1:=aON;have c2:=aOU;go_enter Tryz.func83,Tryz.ntmps83;go_wp2_with fail;refine d.o.mono ?_;rintro x e ⟨rfl,a⟩;have c:=Z a;clear a;go_wp2;go_ret2;exact⟨rfl,c.o⟩
def aDK:List (U × U):=[([97],[104,114,101,102]),([105,109,103],[115,114,99]),([105,109,103],[97,108,116]),([105,109,103],[104,101,105,103,104,116]),([105,109,103],[119,105,100,116,104]),([111,108],[115,116,97,114,116]),([116,100],[99,111,108,115,112,97,110]),([116,100],[114,111,119,115,112,97,110]),([116,104],[99,111,108,115,112,97,110]),([116,104],[114,111,119,115,112,97,110]),([109,101,116,101,114],[109,97,120]),([109,101,116,101,114],[118,97,108,117,101]),([109,101,116,101,114],[104,105,103,104]),([109,101,116,101,114],[108,111,119]),([109,101,116,101,114],[109,105,110]),([112,114,111,103,114,101,115,115],[109,97,120]),([112,114,111,103,114,101,115,115],[118,97,108,117,101])]
def aBM:List (U):=[[97,32,104,114,101,102],[105,109,103,32,115,114,99],[105,109,103,32,97,108,116],[105,109,103,32,104,101,105,103,104,116],[105,109,103,32,119,105,100,116,104],[111,108,32,115,116,97,114,116],[116,100,32,99,111,108,115,112,97,110],[116,100,32,114,111,119,115,112,97,110],[116,104,32,99,111,108,115,112,97,110],[116,104,32,114,111,119,115,112,97,110],[109,101,116,101,114,32,109,97,120],[109,101,116,101,114,32,118,97,108,117,101],[109,101,116,101,114,32,104,105,103,104],[109,101,116,101,114,32,108,111,119],[109,101,116,101,114,32,109,105,110],[112,114,111,103,114,101,115,115,32,109,97,120],[112,114,111,103,114,101,115,115,32,118,97,108,117,101]]
theorem aHy {P:Program}{b:Func}{s t:Nat}{a:Array Value}{u v:Value}(w:H)(h:b.results=#[.tmp s,.tmp t])(c:a.getD s undef=u)(d:a.getD t undef=v):(results b a).run P w=.ok (.tuple #[u,v]) w:=by
 unfold results;rw[h];rw[jy]at c d;simp[c,d]
theorem aJ8 {P:Program}{Q:Exit->Act->H->Prop}{w:H}{s:I}{k n:Nat}{B C:TypeId}{b c:Nat}{v1 v2:Value}{D:Nat}{p1 p2:String}{r f:Array Edge}{a:Act}(i:jD s k n a)(d:(b !=k&&c !=k&&b !=c&&decide (b<n)&&decide (c<n))=true)
  (h:∀e,jD s k n e->e.eval (.tmp b)=v1->e.eval (.tmp c)=v2->Q .normal e w) :
  (Code.region D #[{ dst:=some b,op:=Op.assign (Operand.const v1),type:=B,pos:=p1,after:=r,guard:=none },{ dst:=some c,op:=Op.assign (Operand.const v2),type:=C,pos:=p2,after:=f,guard:=none }] false).wp P Q a w:=by
 simp only[bt,db,ne_eq,bm]at d;have g:=i.put b v1 d.1.1.1.1;have j:=uC (a:=a) (t:=b) (v:=v1) (by rw[i.size];exact d.1.2);have u:=g.put c v2 d.1.1.1.2;have m:=uC (a:=a.put (some b) v1) (t:=c) (v:=v2) (by rw[g.size];exact d.2);have e3:((a.put (some b) v1).put (some c) v2).eval (.tmp b)=v1:=by
  rw[<-j];simp[Act.eval,Act.put,Array.getD_eq_getD_getElem?,Ne.symm d.1.1.2];intro x y;omega
 have p:a.eval (.const v1)=v1:=rfl;have q:(a.put (some b) v1).eval (.const v2)=v2:=rfl;refine qb (l:=[_,_]) ?_;refine i6 rfl fun K z=>?_
 have hx:=z _ _ (i6 (P:=P) (w:=w) (rest:=[]) (o:={ dst:=some c,op:=Op.assign (Operand.const v2),type:=C,pos:=p2,after:=f,guard:=none }) (a:=a.put (some b) v1) rfl fun E A=>by
  have:=A _ _ (qc (h _ u e3 m));unfold Oper.wp;simp[execOp,q,Oper.upon];exact this)
 unfold Oper.wp;simp[execOp,p,Oper.upon];exact hx
theorem aKF (e n v:I)(r:e.size<=1000000000)(s:n.size<=1000000000)(K:I)(j:G (K=e++⟨#[32]⟩++n))(m:(n.toList==[116,105,116,108,101])=false)(p:(n.toList==[108,97,110,103])=false)(q:(n.toList==[100,105,114])=false)
  (d:G (∀l:U,aBM.contains l=true->(K.toList==(⟨l.toArray⟩:I).toList)=false)):cX e n v ⟨#[]⟩ false:=by
 intro w T;clear T;have k:e++⟨#[32]⟩++n=K:=j.o.symm;go_enter Tryz.func83,Tryz.ntmps83;go_upto_region 15 with fail
 rename_i k1 g t f;refine aBC 9 K _ 37 90 (d.o _ (by decide +kernel)) ⟨rfl,rfl,rfl⟩ rfl ?_;intro a b c;repeat' (first
  | (refine aBC 9 K _ 37 90 (d.o _ (by decide +kernel)) b rfl ?_;clear b;intro a b c)
  | (with_reducible refine oH ?_)
  | (with_reducible refine aAa ?_)
  | (with_reducible refine wp_cond_false c ?_)
  | (with_reducible refine wp_seq ?_)
  | (with_reducible refine wp_skip ?_)
  | (with_reducible refine f _ _ ?_)
  | (with_reducible refine g _ _ ?_))
 refine aJ8 b rfl ?_;clear b c;intro a b h i;refine oH (wp_ret ?_);exact⟨b.defers,_,aHy w rfl h i,rfl,aj _ _⟩
open Go.RowKit
theorem aLO (a b x y:U)(c:UInt8)(h:a++c :: b=x++c :: y)(hx:c∉x)(g:c∉y):a=x/\b=y:=by
 rcases List.append_eq_append_iff.1 h with⟨l,f,e⟩|⟨l,f,e⟩;{cases l with|nil=>{simp only[en,gi,fy]at e;exact⟨by rw[f,dc],e⟩}|cons d l=>{simp only[dh,gi]at e;exact absurd (by rw[f,e.1];simp) hx}};{cases l with|nil=>{simp only[en,gi,fy]at e;exact⟨by rw[f,dc],e.symm⟩}|cons d l=>{simp only[dh,gi]at e;exact absurd (by rw[e.2];simp) g}}
theorem aKE:aBM=aDK.map (fun p=>p.1++32 :: p.2):=by decide
theorem aMX:∀p∈aDK,(32:UInt8)∉p.1/\(32:UInt8)∉p.2/\bJ ⟨p.1.toArray⟩ ⟨p.2.toArray⟩≠.none:=by decide +kernel
theorem aM9 {e n:I}(h:bJ e n=.none)(l:U)(a:aBM.contains l=true):((e++⟨#[32]⟩++n).toList==(⟨l.toArray⟩:I).toList)=false:=by
 rw[ai,toList_data,toList_data];intro he;rw[aKE]at a;have g:l∈aDK.map (fun p=>p.1++32 :: p.2):=by{rw[qd]at a;exact a};obtain⟨p,i,b⟩:=ik.1 g;obtain⟨p1,p2,j⟩:=aMX p i;have f:e.data.toList++32 :: n.data.toList=p.1++32 :: p.2:=by{have e3:(e++⟨#[32]⟩++n).data.toList=e.data.toList++32 :: n.data.toList:=by{simp};rw[<-e3,he,<-b]};obtain⟨c,d⟩:=aLO _ _ _ _ _ f p1 p2;refine j ?_;rw[<-c,<-d];exact h
theorem aDu (v:I):(dK v).size<=3*v.size:=pC v.data.toList
theorem aCQ (v:I):(jU v).size<=3*v.size:=aAl v.data.toList
theorem aKj {v:I}(h:aBG v):v.size<=4:=by rcases h with rfl|rfl|rfl<;>decide
theorem aBL {e n:I}(h:bJ e n=.none):n≠bM/\n≠rG/\n≠yZ:=by
 unfold bJ at h;refine⟨fun c=>?_,fun c=>?_,fun c=>?_⟩;{rw[ae c]at h;cases h};{by_cases d:n=bM;{rw[ae d]at h;cases h};{rw[ac d,ae c]at h;cases h}};{by_cases d:n=bM;{rw[ae d]at h;cases h};{by_cases a:n=rG;{rw[ac d,ae a]at h;cases h};{rw[ac d,ac a,ae c]at h;cases h}}}
theorem aHh {e n:I}(h:gL e n=true):(e=eF/\(n=uN\/n=mW\/n=zB\/n=aBZ\/n=aB0))\/(e=gI/\(n=uN\/n=mW)):=by
 unfold gL at h;simp only[k8,bt,bm]at h;rcases h with⟨a,b⟩|⟨a,b⟩;{refine .inl ⟨a,?_⟩;rcases b with(((h|h)|h)|h)|h;{exact .inl h};{exact .inr (.inl h)};{exact .inr (.inr (.inl h))};{exact .inr (.inr (.inr (.inl h)))};{exact .inr (.inr (.inr (.inr h)))}};{exact .inr ⟨a,b⟩}
theorem aF0 {e n v t:I}{b:Bool}(h:gL e n=true)(a:∀w,aA w->Y 20 #[.string v] w (O (.tuple #[.string t,.bool b]) w)):cX e n v t b:=by
 rcases aHh h with⟨rfl,h|h|h|h|h⟩|⟨rfl,h|h⟩<;>subst h;{exact aEV v t b a};{exact aCJ v t b a};{exact aDM v t b a};{exact aEU v t b a};{exact aEW v t b a};{exact aBN v t b a};{exact aAg v t b a}
theorem aH3 {e n v:I}{x:Int}{b:Bool}(h:(e=sTd\/e=sTh)/\(n=iX\/n=iY))(a:fL v 1 1000 x b):cX e n v v b:=by
 rcases h with⟨rfl|rfl,rfl|rfl⟩;{exact aDN v x b a};{exact aDO v x b a};{exact aDP v x b a};{exact aDQ v x b a}
theorem aH1 {e n v:I}{x:Int}{b:Bool}(h:e=fS/\(n=nM\/n=qC))(a:fL v 0 9999 x b):cX e n v v b:=by
 rcases h with⟨rfl,rfl|rfl⟩;{exact aDL v x b a};{exact aET v x b a}
theorem aH2 {e n v:I}{x:Int}{b:Bool}(h:e=sOl/\n=qB)(a:fL v 0 999999 x b):cX e n v v b:=by
 rcases h with⟨rfl,rfl⟩;exact aF1 v x b a
theorem aEl (e n v t:I)(k:v.size<=1048576)(h:sJ (bJ e n) v (some t)):cX e n v t true/\t.size<=4000000:=by
 have l:=aDu v;have j:=aCQ v;unfold bJ at h;by_cases c0:n=bM;{rw[ae c0]at h;subst c0;have g:t=dK v:=h;subst g;exact⟨aIQ e v (by omega),by omega⟩};rw[ac c0]at h;by_cases c1:n=rG;{rw[ae c1]at h;subst c1;obtain⟨a,rfl⟩:=h;exact⟨aEk e t (by omega) true (Z ⟨fun _=>a,fun _=>rfl⟩),by omega⟩};rw[ac c1]at h;by_cases c2:n=yZ;{rw[ae c2]at h;subst c2;obtain⟨a,rfl⟩:=h;exact⟨aFZ e v _ true (by omega) (Z ⟨fun _=>⟨rfl,rfl⟩,fun i=>absurd a i⟩),by have:=aKj a;omega⟩};rw[ac c2]at h;by_cases c3:e=sA/\n=vM;{rw[ae c3]at h;obtain⟨rfl,rfl⟩:=c3;obtain⟨a,rfl⟩:=h;exact⟨aCI v true (Z a) (by omega),by omega⟩};rw[ac c3]at h;by_cases c4:e=fS/\n=aAz;{rw[ae c4]at h;obtain⟨rfl,rfl⟩:=c4;obtain⟨a,rfl⟩:=h;exact⟨aBk v true (Z a) (by omega),by omega⟩};rw[ac c4]at h;by_cases f:e=fS/\n=aAw;{rw[ae f]at h;obtain⟨rfl,rfl⟩:=f;have g:t=dK v:=h;subst g;exact⟨aHf v (by omega),by omega⟩};rw[ac f]at h;by_cases c5:e=fS/\(n=nM\/n=qC);{rw[ae c5]at h;obtain⟨⟨x,hx⟩,rfl⟩:=h;exact⟨aH1 c5 hx,by omega⟩};rw[ac c5]at h;by_cases b:e=sOl/\n=qB;{rw[ae b]at h;obtain⟨⟨x,hx⟩,rfl⟩:=h;exact⟨aH2 b hx,by omega⟩};rw[ac b]at h;by_cases c:(e=sTd\/e=sTh)/\(n=iX\/n=iY);{rw[ae c]at h;obtain⟨⟨x,hx⟩,rfl⟩:=h;exact⟨aH3 c hx,by omega⟩};rw[ac c]at h;by_cases d:gL e n=true;{rw[ae d]at h;exact⟨aF0 d h.yes,by have:=h.sz;omega⟩};rw[ac d]at h;exact h.elim
theorem aPi (e n v:I)(i:e.size<=1000000000)(j:n.size<=1000000000)(k:v.size<=1048576)(h:sJ (bJ e n) v none):∃t,cX e n v t false:=by
 by_cases a:bJ e n=.none;{obtain⟨k1,k2,k3⟩:=aBL a;exact⟨_,aKF e n v i j _ (Z rfl) (tL _ k1 rfl) (tL _ k2 rfl) (tL _ k3 rfl) (Z (aM9 a))⟩};unfold bJ at h a;by_cases c0:n=bM;{rw[ae c0]at h;exact h.elim};rw[ac c0]at h a;by_cases c1:n=rG;{rw[ae c1]at h;subst c1;exact⟨v,aEk e v (by omega) false (Z (Iff.intro (fun b=>by cases b) (fun b=>absurd b h)))⟩};rw[ac c1]at h a;by_cases c2:n=yZ;{rw[ae c2]at h;subst c2;exact⟨⟨#[]⟩,aFZ e v _ false (by omega) (Z ⟨fun b=>absurd b h,fun _=>⟨rfl,rfl⟩⟩)⟩};rw[ac c2]at h a;by_cases c3:e=sA/\n=vM;{rw[ae c3]at h;obtain⟨rfl,rfl⟩:=c3;exact⟨_,aCI v false (Z h) (by omega)⟩};rw[ac c3]at h a;by_cases c4:e=fS/\n=aAz;{rw[ae c4]at h;obtain⟨rfl,rfl⟩:=c4;exact⟨_,aBk v false (Z h) (by omega)⟩};rw[ac c4]at h a;by_cases g:e=fS/\n=aAw;{rw[ae g]at h;exact h.elim};rw[ac g]at h a;by_cases c5:e=fS/\(n=nM\/n=qC);{rw[ae c5]at h;obtain⟨x,hx⟩:=h;exact⟨_,aH1 c5 hx⟩};rw[ac c5]at h a;by_cases c:e=sOl/\n=qB;{rw[ae c]at h;obtain⟨x,hx⟩:=h;exact⟨_,aH2 c hx⟩};rw[ac c]at h a;by_cases d:(e=sTd\/e=sTh)/\(n=iX\/n=iY);{rw[ae d]at h;obtain⟨x,hx⟩:=h;exact⟨_,aH3 d hx⟩};rw[ac d]at h a;by_cases f:gL e n=true;{rw[ae f]at h;exact⟨_,aF0 f h⟩};rw[ac f]at a;exact absurd rfl a
def lS:Option I->Value
 | some t=>.tuple #[.string t,.bool true]
 | none=>.tuple #[.string ⟨#[]⟩,.bool false]
theorem aJI {a b:Option I}(h:lS a=lS b):a=b:=by
 cases a<;>cases b<;>simp[lS]at h ⊢;exact h
theorem aAI (e n v:I)(o:Option I)(g:e.size<=1000000000)(j:n.size<=1000000000)(f:v.size<=1048576)(h:jQ e n v o)(w:H)(T:aA w) :
  Y 37 #[.string e,.string n,.string v] w (O (lS o) w):=by
 have b:G (aZ e (aS e.data.toList:Nat)):=fun w=>uF e w;cases o with|some t=>{obtain⟨k,h2,d⟩:=h;obtain⟨a,c⟩:=aEl e n v t f h2;exact aL8 e n v t _ b (by omega) (by rw[ai];omega) (Z a) c (Z d) w T}|none=>{by_cases i:aS e.data.toList<2\/aS e.data.toList=14;{exact aL7 e n v _ b (by omega) w};{rcases h with h|h|⟨t,h,d⟩;{exact absurd h i};{obtain⟨t,a⟩:=aPi e n v g j f h;exact aOe e n v t _ b (by omega) (by rw[ai];omega) (Z a) w T};{obtain⟨a,c⟩:=aEl e n v t f h;exact aJJ e n v t _ b (by omega) (by rw[ai];omega) (Z a) c (Z d) w T}}}
theorem aMW (a:H)(c:aA a)(k:FK)(v:I)(d:v.size<=1048576):∃o,sJ k v o:=by
 cases k with
 | text=>exact⟨some _,rfl⟩
 | lang =>
  by_cases h:oJ v
  ·exact⟨some v,h,rfl⟩
  ·exact⟨none,h⟩
 | dir =>
  by_cases h:aBG (dR v)
  ·exact⟨some _,h,rfl⟩
  ·exact⟨none,h⟩
 | linkA =>
  cases h:fQ rK (cG v.data.toList)with
  | true=>exact⟨some _,h,rfl⟩
  | false=>exact⟨none,h⟩
 | linkI =>
  cases h:fQ wF (cG v.data.toList)with
  | true=>exact⟨some _,h,rfl⟩
  | false=>exact⟨none,h⟩
 | whole lo hi =>
  obtain⟨x,b,hx⟩:=aG2 v lo hi (by unfold maxLen;omega);cases b with
  | true=>exact⟨some v,⟨x,hx⟩,rfl⟩
  | false=>exact⟨none,x,hx⟩
 | fix =>
  rcases aH0 a c v (by unfold maxLen;omega)with⟨t,h⟩|h
  ·exact⟨some t,h⟩
  ·exact⟨none,h⟩
 | none=>exact⟨none,trivial⟩
theorem aL6 (c:H)(d:aA c)(e n v:I)(f:v.size<=1048576):∃o,jQ e n v o:=by
 by_cases b:aS e.data.toList<2\/aS e.data.toList=14;{exact⟨none,.inl b⟩};{obtain⟨o,a⟩:=aMW c d (bJ e n) v f;cases o with|none=>exact⟨none,.inr (.inl a)⟩|some t=>{rcases ak 120 (iQ t).size with h|h;{exact⟨none,.inr (.inr ⟨t,a,h⟩)⟩};{exact⟨some t,b,a,h⟩}}}
theorem aEN (a:H)(b:aA a){e n v:I}{o o':Option I}(c:e.size<=1000000000)(d:n.size<=1000000000)(f:v.size<=1048576)(h:jQ e n v o)(g:jQ e n v o'):o=o' :=
 aJI (uX (by kernel_rfl) (aAI e n v o c d f h a b) (aAI e n v o' c d f g a b))
theorem aHw (a b:U)(h:a.length<=b.length)(d:1<=a.length):∀(k:Nat) (s:U),s.length<=(Lib.replaceK a b k s).length:=by
 intro k;induction k with|zero=>{intro s;simp[Lib.replaceK]}|succ k ih=>{intro s;by_cases hi:Lib.index s a=-1;{unfold Lib.replaceK;rw[ae (by rw[hi];rfl)];exact ag _};{have e:=sq s a;obtain⟨i,c⟩:∃i:Nat,Lib.index s a=i:=⟨(Lib.index s a).toNat,by omega⟩;rw[kt a b k s i c];have:=ih (s.drop (i+a.length));have hr:=Lib.index_room s a (by omega);rw[aw,aw,br];rw[bn]at this;omega}}
theorem wS (s a b:I)(h:a.size<=b.size)(c:1<=a.size):s.size<=(eO s a b).size:=by
 show s.data.toList.length<=(Lib.replaceAll s.data.toList a.data.toList b.data.toList).length;unfold Lib.replaceAll Lib.replace;split;{exact ag _};{exact aHw _ _ h c _ _}
theorem aQ8 (t:I):t.size<=(iQ t).size:=by
 unfold iQ;refine bg ?_ (wS _ _ _ (by decide) (by decide));refine bg ?_ (wS _ _ _ (by decide) (by decide));refine bg ?_ (wS _ _ _ (by decide) (by decide));refine bg ?_ (wS _ _ _ (by decide) (by decide));exact wS _ _ _ (by decide) (by decide)
theorem aDx {e n v t:I}(h:jQ e n v (some t)):t.size<=120:=bg (aQ8 t) h.2.2
