/-
What the slow decimals and parseFloat64 give, ahead of the world.
-/
import Derived.Test.YtcfgbdhpcboikaaGreatDoorNumQ
namespace Go.Proofs.YtcfgbdhpcboikaaGreatDoor
set_option maxHeartbeats 8000000
set_option maxRecDepth 100000
open Go.RowKit
theorem aA4 {n:Nat}:n<=n:=ah n
theorem qN {a w v:H}(h:G (Go.RowKit.Below a.heap.size a w))(b:Go.RowKit.Below w.heap.size w v):G (Go.RowKit.Below a.heap.size a v):=Z (h.o.trans (b.mono h.o.size))
theorem aQg (D:Dec.Dc)(g:Dec.Fine D)(a:1<=D.nd)(p1:-330<=D.dp) :
  ∃(z:Int) (ov:Bool),(∀w B,oC w B->aC w B D->Y 241 #[.pointer (some ⟨B,0,none⟩),.pointer (some ⟨8,0,none⟩)] w (xJ B (z,ov) w)) /\
   (ov=false->∃b,b<aL/\z=((sgn D.neg+b:Nat):Int))/\(ov=true->z=((sgn D.neg+aL:Nat):Int)):=by
 by_cases n:310<D.dp;{exact⟨_,true,fun w B T h=>aQf B D w T h a n,(fun h=>by cases h),fun _=>aA8 _⟩}
 ·obtain⟨d,r,u,_,e3,e4,_⟩:=Dec.fine_cons g a;have i:D.top<10:=by rw[e3];exact e4 d (by simp)
  obtain⟨c,s,k⟩:=aRg _ D g a i aA4;obtain⟨o,p,q,v,x,y,A,C⟩:=aOa c D 0 k g a i (by omega) (by omega) (ig _);obtain⟨j,t,l⟩:=aRh _ (eV c D 0).1 o p q aA4;have f:∀w B,oC w B->aC w B D->Y 241 #[.pointer (some ⟨B,0,none⟩),.pointer (some ⟨8,0,none⟩)] w (xJ B (fbF c j D) w) :=
   fun w B T h=>aQe B c j D w T h g a i p1 (by omega) k l (by omega) (by omega)
  rcases aQd c j D with⟨b,m,e⟩|e;{rw[e]at f;exact⟨_,false,f,(fun _=>⟨b,m,rfl⟩),fun h=>by cases h⟩};{rw[e]at f;exact⟨_,true,f,(fun h=>by cases h),fun _=>rfl⟩}
theorem aOI (K m:Nat)(b:m<9007199254740992)(c:¬ 2046<=K):0+min (K*4503599627370496+m) 9218868437227405312<aL:=by
 have a:K*4503599627370496+m<9218868437227405312:=by{omega};rw[bw];exact ju (Nat.min_le_left _ _) a
theorem aJ4 (K m:Nat)(h:4503599627370496<=m\/K=0)(b:2046<=K):0+min (K*4503599627370496+m) 9218868437227405312=aL:=by
 have a:9218868437227405312<=K*4503599627370496+m:=by{omega};rw[bw,oc a];rfl
theorem aH3 (d i:Nat)(o:1<=d)(hd:d<18446744073709551616)(hi:i<696) :
  (∃b,b<aL/\oN d i=(b,.nilIface))\/oN d i=(aL,.iface 158 (.int .i64 1)):=by
 obtain⟨b,n,k,l,p,q⟩:=rK d o hd;unfold oN;rw[n];by_cases f:64<=fJ b i;{rw[af f];exact .inl ⟨0,by unfold aL;omega,rfl⟩}
 ·rw[ae f];obtain⟨s,h⟩:∃s:Nat,fJ b i=s:=⟨(fJ b i).toNat,by
   obtain⟨p1,p2⟩:=aEv i hi;unfold fJ;omega⟩
  rw[h,eo];obtain⟨r,j,c⟩:=aB9 d i b s _ hi k p q l h rfl;obtain⟨m,g⟩:∃m,bA (bU (cJ (d*2^(64-b)) (aJ i) (aR i) s))=m:=⟨_,rfl⟩;rw[g]at j c ⊢;clear g;obtain⟨K,e⟩:∃K,bP b i+gO (cJ (d*2^(64-b)) (aJ i) (aR i) s)=K:=⟨_,rfl⟩;rw[e]at c ⊢;clear e r;unfold nK vA;by_cases a:2046<=K;{rw[af a];exact .inr (by rw[aJ4 K m c a])};{rw[ae a];exact .inl ⟨0+min (K*4503599627370496+m) 9218868437227405312,aOI K m j a,rfl⟩}
def aQ2 (s:I)(neg:Bool)(b:Nat):Prop:=b<aL/\∀w,aA w->Y 205 #[.string s] w (O (.tuple #[.float .f64 (sgn neg+b),.int .i64 s.size,.nilIface]) w)
def aQ3 (s:I)(r:Nat):Prop:=∀w,aA w->Y 205 #[.string s] w (O (.tuple #[.float .f64 r,.int .i64 s.size,.iface 158 (.int .i64 1)]) w)
def aHr (s:I):Prop:=(∃neg b,aQ2 s neg b)\/∃neg,aQ3 s (sgn neg+aL)
theorem dQ {P:Ending->Prop}{p:FuncId}{a:Array Value}{w:H}(h:Y p a w fun e w'=>P e/\w=w'):Y p a w fun e w'=>P e/\Below w.heap.size w w' :=
 h.mono fun _ _ ⟨b,c⟩=>⟨b,by rw[<-c];exact am _ _⟩
theorem aLn (s:I)(m:Nat)(x:Int)(neg tr:Bool)(p:s.size<=40)(d:aAO s)(c:xQ s m x neg tr)(n:m+1<18446744073709551616)
  (D:Dec.Dc) (y:Dec.Fine D) (o:D.neg=neg) (v:m≠0->tr=true->1<=D.nd/\x+19=D.dp)
  (u:∀w B,aC w B aCJ->Y 240 #[.pointer (some ⟨B,0,none⟩),.string s] w fun e w'=>e=.returned (.bool true)/\aC w' B D/\aD (· = B) w w'):aHr s:=by
 by_cases a:m=0
 ·subst a;exact .inl ⟨neg,0,by unfold aL;omega,fun w T=>dQ (aAq s x neg tr w T d c)⟩
 ·by_cases x2:310<x
  ·exact .inr ⟨neg,fun w T=>dQ (aIX s m x neg tr w T d c a x2)⟩
  ·by_cases x1:x < -345
   ·exact .inl ⟨neg,0,by unfold aL;omega,fun w T=>dQ (aIZ s m x neg tr w T d c a x1)⟩
   ·obtain⟨i,hi⟩:∃i:Nat,x=(i:Int)-348:=⟨(x+348).toNat,by omega⟩
    have g:i<696:=by omega
    have h:∀w,aA w->Y 245 #[.int .u64 m,.int .i64 x,.int .u64 (sgn neg)] w (O (.tuple #[.float .f64 (sgn neg+(oN m i).1),(oN m i).2]) w):=by
     intro w T;rw[hi];exact aFu m i (sgn neg) w T (aBf neg) (by omega) (by omega) g
    have l:∀(A:∀w,aA w->Y 205 #[.string s] w (O (.tuple #[.float .f64 (sgn neg+(oN m i).1),.int .i64 s.size,(oN m i).2]) w)),aHr s:=by
     intro A;rcases aH3 m i (by omega) (by omega) g with⟨b,j,e⟩|e
     ·rw[e]at A
      exact .inl ⟨neg,b,j,A⟩
     ·rw[e]at A
      exact .inr ⟨neg,A⟩
    cases tr with
    | false =>
     rcases aDm m i neg a g with⟨r,hr,_,f⟩|f
     ·rw[<-hi]at f
      exact .inl ⟨neg,r,hr,fun w T=>dQ (aHy s m x neg (sgn neg+r) w T p a (by omega) (by omega) d c f)⟩
     ·rw[<-hi]at f
      exact l fun w T=>aIY s m x neg _ _ w T d c a (by omega) (by omega) f h
    | true =>
     have k:∀w,aA w->Y 245 #[.int .u64 (m+1:Nat),.int .i64 x,.int .u64 (sgn neg)] w (O (.tuple #[.float .f64 (sgn neg+(oN (m+1) i).1),(oN (m+1) i).2]) w):=by
      intro w T;rw[hi];exact aFu (m+1) i (sgn neg) w T (aBf neg) (by omega) (by omega) g
     obtain⟨F,J⟩:=v a rfl;cases hq:FloatKind.f64.format.order (sgn neg+(oN m i).1) (sgn neg+(oN (m+1) i).1)==some .eq with
     | true=>exact l fun w T=>aIW s m x neg _ _ _ _ w T d c a n (by omega) (by omega) h k hq
     | false =>
      obtain⟨z,q,t,C,E⟩:=aQg D y F (by omega);have A:=fun w T=>aLo s m x neg _ _ _ _ w T d c a n (by omega) (by omega) p h k hq D z q u t
      cases q with
      | true =>
       have e:=E rfl;rw[o]at e
       rw[e]at A
       exact .inr ⟨neg,A⟩
      | false =>
       obtain⟨b,j,e⟩:=C rfl;rw[o]at e
       rw[e]at A
       exact .inl ⟨neg,b,j,A⟩
open Go.RowKit
theorem aI0 (s:I)(w:H)(T:aA w)(_hs:s.size<=40)
  (b:∀w,Y 233 #[.string s] w fun e w'=>e=.returned (.tuple #[.float .f64 0,.int .i64 0,.bool false])/\w=w')
  (a:∀w,Y 234 #[.string s] w fun e w'=>e=.returned (.tuple #[.int .u64 0,.int .i64 0,.bool false,.bool false,.bool false,.int .i64 s.size,.bool true])/\w=w') :
  Y 205 #[.string s] w fun e w'=>e=.returned (.tuple #[.float .f64 0,.int .i64 s.size,.nilIface])/\w=w':=by
 have g:=T.opt;have f:=mB;have d:=Z b;have c:=Z a;clear b a T;go_enter Tryz.func205,Tryz.ntmps205
 go_wp2_with (first
  | (go_at_call 233;refine(d.o _).mono ?_;rintro e w' ⟨rfl,rfl⟩)
  | (go_at_call 234;refine(c.o _).mono ?_;rintro e w' ⟨rfl,rfl⟩)
  | (go_at_call 242;((with_reducible refine(cN _).mono ?_);rintro e w' ⟨rfl,rfl⟩)))
 go_ret3;exact⟨rfl,rfl⟩
def s0:I:={ data:=#[48] }
theorem aRE (w:H):Y 234 #[.string s0] w fun e w'=>e=.returned (.tuple #[.int .u64 0,.int .i64 0,.bool false,.bool false,.bool false,.int .i64 s0.size,.bool true])/\w=w':=by
 have N:nP s0 0 1:=by
  refine⟨by decide,by decide,?_,?_,by kernel_rfl,fun h=>absurd h (by decide)⟩
  ·intro j h _ a;match j,h,a with
   | 0,_,_=>rfl
  ·intro j h _ a;match j,h,a with
   | 0,_,_=>intro e;exact absurd (show(48:UInt8)=46 from e) (by decide)
 have:=aBa s0 false 0 1 w (by decide) ⟨by decide,.inl ⟨rfl,rfl,rfl,rfl⟩⟩ N 0 (.inl ⟨rfl,rfl⟩);have e:aO (aM s0 0 1)=⟨0,0,0,-1,false,true,false⟩:=by{kernel_rfl};rw[e]at this;exact this
theorem aQC (w:H)(T:aA w):Y 21 #[.string s0] w fun e w'=>e=.returned (.tuple #[.float .f64 0,.bool true])/\w=w':=by
 refine aMu s0 0 w (by decide) (by kernel_rfl) (by kernel_rfl) ?_;intro w' a;subst a;exact aI0 s0 w T (by decide) (fun w=>qQ s0 w (by decide) (by decide) (by decide) rfl rfl) aRE
theorem aRV (w:H)(T:aA w):Y 20 #[.string s0] w (O (.tuple #[.string s0,.bool true]) w):=by
 have P:=aQC;have Q:∀w,Y 63 #[.float .f64 0] w fun e w'=>e=.returned (.string s0)/\w=w':=fun w=>wK 0 w (by kernel_rfl) (by kernel_rfl) (by kernel_rfl);obtain⟨s,a⟩:=ex s0;rw[<-a]at P Q ⊢;have b:=Z P;have c:=Z Q;have d:=Z T;clear P Q T a;go_enter Tryz.func20,Tryz.ntmps20;go_wp2_with fail;refine(b.o _ d.o).mono ?_;rintro e f ⟨rfl,rfl⟩;go_wp2_with fail;refine(c.o _).mono ?_;rintro e g ⟨rfl,rfl⟩;go_wp2;go_ret2;exact⟨rfl,am _ _⟩
open Go.RowKit
theorem aMy (s:I)(r:Nat)(w:H)(T:aA w)
  (A:∀w',aA w'->Y 205 #[.string s] w' (O (.tuple #[.float .f64 r,.int .i64 s.size,.iface 158 (.int .i64 1)]) w')) :
  Y 164 #[.string s,.int .i64 64] w (O (.tuple #[.float .f64 r,.int .i64 s.size,.iface 158 (.int .i64 1)]) w):=by
 have b:=Z A;have d:=Z T;clear A T;go_enter Tryz.func164,Tryz.ntmps164;go_wp2_with fail;refine(b.o _ d.o).mono ?_;rintro e f ⟨rfl,a⟩;have c:=Z a;clear a;go_wp2;go_ret3;exact⟨rfl,c.o⟩
theorem aQE (s:I)(r:Nat)(w:H)(T:aA w)
  (A:∀w',aA w'->Y 205 #[.string s] w' (O (.tuple #[.float .f64 r,.int .i64 s.size,.iface 158 (.int .i64 1)]) w')) :
  Y 119 #[.string s,.int .i64 64] w (O (.tuple #[.float .f64 r,.iface 158 (.int .i64 1)]) w):=by
 have b:=Z A;have d:=Z T;clear A T;go_enter Tryz.func119,Tryz.ntmps119;go_wp2_with fail;refine(aMy s r _ d.o b.o).mono ?_;rintro e f ⟨rfl,a⟩;have c:=Z a;clear a;go_wp2;go_ret2;exact⟨rfl,c.o⟩
def aNB (r:Nat)(e:Ending):Prop:=∃t p,e=.returned (.tuple #[.float .f64 r,.iface t p])
theorem aFA (s:I)(j:s.size<=1000)(r:Nat)(w:H)(T:aA w)
  (A:∀w',aA w'->Y 205 #[.string s] w' (O (.tuple #[.float .f64 r,.int .i64 s.size,.iface 158 (.int .i64 1)]) w')) :
  Y 66 #[.string s,.int .i64 64] w fun e w'=>aNB r e/\Below w.heap.size w w':=by
 have d:=Z A;have c:=Z T;clear A T;go_enter Tryz.func66,Tryz.ntmps66
 go_wp2_with fail
 refine(aQE s r _ c.o d.o).mono ?_;rintro e l ⟨rfl,a⟩;have f:=Z a;have h:=Z (c.o.below a aA4);clear a;go_wp2_with fail
 obtain⟨k,v2,i⟩:=h.o.rng;refine(Tryz.strconv_toError_range _ s _ _ _ _ (by omega) i (.inr ⟨_,_,rfl⟩)).mono ?_;rintro e m ⟨N,rfl,_,_,b⟩;have g:=qN f b;clear b;go_wp2
 go_ret2;exact⟨⟨_,_,rfl⟩,g.o⟩
theorem aHg (s:I)(r:Nat)(w:H)(T:aA w)(i:s.size<=1000)(c:cH s.data.toList=true)
  (A:∀w',aA w'->Y 205 #[.string s] w' (O (.tuple #[.float .f64 r,.int .i64 s.size,.iface 158 (.int .i64 1)]) w')) :
  Y 21 #[.string s] w (O (.tuple #[.float .f64 0,.bool false]) w):=by
 have a:=fun w=>pS s w (by unfold maxLen;omega);rw[c]at a;have d:=Z A;have g:=Z a;have h:=Z T;clear A a c T;go_enter Tryz.func21,Tryz.ntmps21;go_wp2_with (go_at_call 65;refine(g.o _).mono ?_;rintro e w' ⟨rfl,rfl⟩);refine(aFA s i r _ h.o d.o).mono ?_;rintro e j ⟨⟨t,p,rfl⟩,b⟩;have f:=Z b;clear b;go_wp2;go_ret2;exact⟨rfl,f.o⟩
theorem aA9 (s:I)(w:H)(c:s.size<=maxLen)(b:cH s.data.toList=false) :
  Y 21 #[.string s] w fun e w'=>e=.returned (.tuple #[.float .f64 0,.bool false])/\w=w':=by
 have a:=fun w=>pS s w c
 rw[b]at a
 have d:=Z a;clear a b c;go_enter Tryz.func21,Tryz.ntmps21
 go_wp2_with (go_at_call 65;refine(d.o _).mono ?_;rintro e w' ⟨rfl,rfl⟩)
 go_ret2;exact⟨rfl,rfl⟩
theorem aBM (s:I)(w:H)(T:aA w)
  (P:∀w,aA w->Y 21 #[.string s] w (O (.tuple #[.float .f64 0,.bool false]) w)) :
  Y 20 #[.string s] w (O (.tuple #[.string ByteArray.empty,.bool false]) w):=by
 have c:=Z P;have d:=Z T;clear P T;go_enter Tryz.func20,Tryz.ntmps20;go_wp2_with fail;refine(c.o _ d.o).mono ?_;rintro e f ⟨rfl,a⟩;have b:=Z a;clear a;go_wp2;go_ret2;exact⟨rfl,b.o⟩
def aQ7 (s:I)(neg:Bool)(b:Nat):Prop:=b<aL/\∀w,aA w->Y 21 #[.string s] w (O (.tuple #[.float .f64 (sgn neg+b),.bool true]) w)
def aQ8 (s:I):Prop:=∀w,aA w->Y 21 #[.string s] w (O (.tuple #[.float .f64 0,.bool false]) w)
theorem aJ8 (A:∀s:I,cH s.data.toList=true->aHr s)(s:I)(a:s.size<=maxLen):(∃neg b,aQ7 s neg b)\/aQ8 s:=by
 cases hn:cH s.data.toList with|false=>exact .inr fun w _=>dQ (aA9 s w a hn)|true=>{have c:s.size<=40:=by{unfold cH at hn;split at hn;{cases hn};{rw[aS];omega}};rcases A s hn with⟨neg,b,hb,h⟩|⟨_,h⟩;{exact .inl ⟨neg,b,hb,fun w T=>aCZ s _ w T a hn (pB neg b hb) h⟩};{exact .inr fun w T=>aHg s _ w T (by omega) hn h}}
open Go.RowKit
theorem tF {P:Program}{f:FuncId}{b:Array Value}{w:H}{A B:Value}{g h:H->Prop}(hi:P.inits.idxOf? f=none)
  (n:Calls P f b w fun e w'=>e=.returned A/\g w') (o:Calls P f b w fun e w'=>e=.returned B/\h w'):A=B:=by
 obtain⟨u,w1,x,⟨rfl,_⟩,⟨c,i⟩,l,p⟩:=n [];obtain⟨v,w2,y,⟨rfl,_⟩,⟨d,j⟩,m,q⟩:=o [];have s1:=step_leave_done p (by rw[l];exact hi);have t:=step_leave_done q (by rw[m];exact hi);have r:∀k,runN P (c+(k+1)) (lone (Frame.enter P f b .normal) [] w)=.ended (.done A) w1:=fun k=>by
  rw[runN_add,i];simp only[runN,s1]
 have s:∀k,runN P (d+(k+1)) (lone (Frame.enter P f b .normal) [] w)=.ended (.done B) w2:=fun k=>by
  rw[runN_add,j];simp only[runN,t]
 have e:c+(d+1)=d+(c+1):=by omega
 have a:=r d;rw[e,s c]at a
 injection a with a _;injection a with a;exact a.symm
structure Prn (neg:Bool) (b:Nat) (t:I):Prop where
 sz:t.size<=25
 nought:b=0->t=s0
 pr:∀w,aA w->Y 63 #[.float .f64 (sgn neg+b)] w (O (.string t) w)
 pa:1<=b->∀w,aA w->Y 21 #[.string t] w (O (.tuple #[.float .f64 (sgn neg+b),.bool true]) w)
 fx:∀w,aA w->Y 20 #[.string t] w (O (.tuple #[.string t,.bool true]) w)
theorem aHh (neg:Bool)(b:Nat)(e:b<aL):∃t,Prn neg b t:=by
 by_cases a:b=0;{subst a;refine⟨s0,by decide,fun _=>rfl,fun w T=>?_,fun h=>by omega,aRV⟩;cases neg;{exact dQ (wK 0 w (by kernel_rfl) (by kernel_rfl) (by kernel_rfl))};{exact dQ (wK 9223372036854775808 w (by kernel_rfl) (by kernel_rfl) (by kernel_rfl))}};{obtain⟨d,q,j,_,t,_,h1,h2,h3,c⟩:=aEI neg b (by omega) e;exact⟨t,h1,fun h=>absurd h a,h2,fun _=>h3,c⟩}
theorem aBk (a b:Nat)(h:aP a=aP b):a=b:=by
 rcases i8 a b with g|g|g;{have:=iL a b g;omega};{exact g};{have:=iL b a g;omega}
theorem aK6:aP 0=0:=by decide
theorem aIl (d e:Bool)(a c:Nat)(k:a<aL)(l:c<aL) :
  (FloatKind.f64.format.order (sgn d+a) (sgn e+c)==some .eq)=true↔(a=0/\c=0)\/(d=e/\a=c):=by
 obtain⟨g,k1⟩:=kY d a k;obtain⟨i,k2⟩:=kY e c l;rw[aBF,g,i,k1,k2];have f:=aK6;have p:∀b,aP b=0->b=0:=fun b h=>aBk b 0 (by rw[h,f]);have j:∀x y:Int,jF 0 x 0 y=0↔x=y:=by{intro x y;unfold jF;(repeat' split);all_goals omega};rw[j];constructor;{rintro⟨_,h⟩;cases d<;>cases e<;>simp only[fw,fy,ed]at h;{exact .inr ⟨rfl,aBk _ _ (by omega)⟩};{exact .inl ⟨p _ (by omega),p _ (by omega)⟩};{exact .inl ⟨p _ (by omega),p _ (by omega)⟩};{exact .inr ⟨rfl,aBk _ _ (by omega)⟩}};{rintro(⟨rfl,rfl⟩|⟨rfl,rfl⟩);{refine⟨by decide,?_⟩;rw[f];split<;>split<;>rfl};{exact⟨by decide,rfl⟩}}
open Go.RowKit
def byI (j:Nat):Int:=if j=0 then 0 else if j=1 then 1 else -1
def gA (m j:Nat):Nat:=if j=0 then m else if j=1 then m+1 else m-1
theorem aLz (m j:Nat)(h:1<=m):(m:Int)+byI j=(gA m j:Nat):=by
 unfold byI gA;split;{omega};{split<;>omega}
def Hit (r n m s j:Nat):Prop:=(1<=gA m j/\bI (bC (gA m j) s) (aG s) r)/\Lib.nDigits (gA m j)=n
def aEz (R:Nat)(e:Ending):Prop:=∃v,e=.returned (.tuple #[.float .f64 R,v])
structure aGS (r n m s:Nat) (S sA sB sC sD:I):Prop where
 fmt:∀w,aA w->Y 158 #[.float .f64 r,.int .u8 101,.int .i64 ((n:Int)-1),.int .i64 64] w (O (.string S) w)
 cA:∀w,(Instr.slice 9 (.string S) none (some (.int .i64 1)) none).run Tryz.prog w=.ok (.string sA) w
 cB:1<n->∀w,(Instr.slice 9 (.string S) (some (.int .i64 2)) (some (.int .i64 (1+(n:Int)))) none).run Tryz.prog w=.ok (.string sB) w
 cC:n=1->∀w,(Instr.slice 9 (.string S) (some (.int .i64 2)) none none).run Tryz.prog w=.ok (.string sC) w
 cD:1<n->∀w,(Instr.slice 9 (.string S) (some (.int .i64 (1+(n:Int)+1))) none none).run Tryz.prog w=.ok (.string sC) w
 app:(if n=1 then sA else sA++sB)=sD
 sz:sA.size<=1000/\sB.size<=1000
 atoi:∀w,Y 113 #[.string sC] w (O (.tuple #[.int .i64 ((n:Int)+s-349),.nilIface]) w)
 num:∀w,Y 224 #[.string sD,.int .i64 10,.int .i64 64] w (O (.tuple #[.int .i64 (m:Int),.nilIface]) w)
structure aNf (r n m s j:Nat) (t u:I) (y:Nat):Prop where
 fmt:∀w,aA w->Y 225 #[.int .i64 ((m:Int)+byI j),.int .i64 10] w (O (.string t) w)
 exp:∀w,aA w->Y 116 #[.int .i64 ((n:Int)+s-349+1-n)] w (O (.string u) w)
 flt:∀w,aA w->Y 66 #[.string (t++⟨#[101]⟩++u),.int .i64 64] w fun e w'=>aEz y e/\Below w.heap.size w w'
 hit:((FloatKind.f64.format.order y r==some .eq)&&decide ((t.size:Int)=n))=true↔Hit r n m s j
 sz:t.size<=1000/\u.size<=1000
def aQ6 (r N n:Nat)(tD:I)(P:Int):Prop :=
 ∃(m s:Nat) (S sA sB sC sD:I) (t u:Nat->I) (y:Nat->Nat),aGS r n m s S sA sB sC sD/\1<=m/\m<=100000000000000000/\s<=657/\(∀j,j<3->aNf r n m s j (t j) (u j) (y j))/\(n<N->∀j,¬Hit r n m s j) /\
  (n=N->∃j,j<3/\Hit r n m s j/\(∀i,i<j->¬Hit r n m s i)/\(∀i,i<3->Hit r n m s i->(∀k,k<i->¬Hit r n m s k)->t i=tD)/\(n:Int)+s-349+1=P)
theorem aGf (r N:Nat)(tD:I)(P:Int)(ao:1<=N)(hN:N<=17)(K:∀n,1<=n->n<=N->aQ6 r N n tD P)(w:H)(T:aA w) :
  Y 194 #[.float .f64 r] w (O (.tuple #[.string tD,.int .i64 P]) w):=by
 have HK:=Z K;have D:=Z T;have HN:G (1<=N/\N<=17):=⟨ao,hN⟩;clear K T ao hN;go_enter Tryz.func194,Tryz.ntmps194;go_wp2;go_loopw [4] (fun i wx=>∃n:Nat,i=.int .i64 n/\G (1<=n/\n<=N/\Below w.heap.size w wx)) (fun i _=>20-(intOf i).toNat);case atStart=>exact⟨1,rfl,Z ⟨ah _,HN.o.1,am _ _⟩⟩
 case round =>
  obtain⟨n,rfl,a⟩:=hrel;obtain⟨m,s,S,sA,sB,sC,sD,t,u,y,R,m1,m2,s2,TR,H1,H2⟩:=HK.o n a.o.1 a.o.2.1;have b1:(n:Int)<=17:=by{have:=a.o;have:=HN.o;omega};have b0:(1:Int)<=n:=by{have:=a.o;omega};have q:=Z R.fmt;have Q:=Z R.atoi;have ab:=Z R.num;have cA:=R.cA;obtain⟨z1,z2⟩:=R.sz;have V:=Z a.o.2.2;have a8:=Z TR;have a6:=Z H1;have al:=Z H2;have an:=Z (D.o.below V.o aA4);have hm:G (1<=m/\m<=100000000000000000/\s<=657):=Z ⟨m1,m2,s2⟩;have b3:(s:Int)<=657:=by{omega};have b2:(0:Int)<=s:=by{omega};clear H1 H2 TR m1 m2 s2;by_cases A:n=1;(case' pos =>have cC:=R.cC A;have d:=R.app;rw[af A]at d;subst d;have bh:¬(1:Int)<n:=by{omega};clear R A;go_wp2_with fail;refine(q.o wr an.o).mono ?_;rintro e W1 ⟨rfl,k⟩;have W:=qN V k;clear k;go_wp2_with fail;refine(Q.o W1).mono ?_;rintro e W2 ⟨rfl,l⟩;have X:=qN W l;clear l;go_wp2_with fail;refine(ab.o W2).mono ?_;rintro e W3 ⟨rfl,p⟩;have aa:=qN X p;clear p;go_wp2_with fail);case' neg =>have cB:=R.cB (by have:=a.o;omega);have cD:=R.cD (by have:=a.o;omega);have d:=R.app;rw[ae A]at d;have bh:(1:Int)<n:=by{have:=a.o;omega};have bk:sA.size+sB.size<=1000000:=by{omega};have a0:=Z d;clear R A d;go_wp2_with fail;refine(q.o wr an.o).mono ?_;rintro e W1 ⟨rfl,k⟩;have W:=qN V k;clear k;go_wp2_with fail;refine(Q.o W1).mono ?_;rintro e W2 ⟨rfl,l⟩;have X:=qN W l;clear l;go_wp2_with fail;rw[a0.o];refine(ab.o W2).mono ?_;rintro e W3 ⟨rfl,p⟩;have aa:=qN X p;clear p;go_wp2_with fail
  all_goals
   obtain⟨g,E⟩:=ex W3.heap.size
   obtain⟨x,z⟩:=ex (W3.alloc (.cells #[.int .i64 0,.int .i64 1,.int .i64 (-1)] 2))
   have bd:G (∀j,j<3->x.cell? ⟨g,j,none⟩=some (.int .i64 (byI j))):=by
    intro j f;rw[z,E];rcases(show j=0\/j=1\/j=2 by omega)with rfl|rfl|rfl<;>simp[byI]
   have bx:G (g<x.heap.size):=Z (by rw[z,E];simp);have B:G (Below w.heap.size w x):=by
    rw[z];exact Z (aa.o.alloc aa.o.size _)
   rw[<-z,<-E];clear z E q Q ab;go_loopw [52] (fun i wx=>∃j:Nat,i=.int .i64 j/\G (j<=3/\(∀i,i<j->¬Hit r n m s i)/\Below x.heap.size x wx)) (fun i _=>4-(intOf i).toNat)
   case atStart=>exact⟨0,rfl,Z ⟨bb _,fun i hi=>by omega,am _ _⟩⟩
   case round =>
    obtain⟨j,rfl,b⟩:=hrel;rcases ak j 3 with f|f
    ·obtain⟨q1,q2,q3,q4,q5⟩:=a8.o j f;have hc:wr.cell? ⟨g,j,none⟩=some (.int .i64 (byI j)):=cell_later b.o.2.2 (bd.o j f);have hb:-1<=byI j/\byI j<=1:=by
      unfold byI;repeat' split
      all_goals omega
     have h1:=hm.o.1;have h2:=hm.o.2.1;have C:=Z (B.o.trans (b.o.2.2.mono B.o.size));have a9:=Z (D.o.below C.o aA4);have q:=Z q1;have HE:=Z q2;have HL:=Z q3;have HI:=Z q4;have a5:=Z (fun h=>(al.o h));clear q1 q2 q3 q4;generalize bs:byI j=bj at *
     obtain⟨bl,bq⟩:=hb;obtain⟨q6,q7⟩:=q5;have q8:(t j).size+1<=1000000:=by omega
     have q9:(t j++⟨#[101]⟩).size+(u j).size<=1000000:=by
      have:(t j++⟨#[101]⟩).size=(t j).size+1:=by rw[od];rfl
      omega
     clear q6 q7;go_wp2_with fail
     refine(q.o wr a9.o).mono ?_;rintro e W5 ⟨rfl,J⟩;have ac:=qN C J;have a2:=Z (b.o.2.2.trans (J.mono b.o.2.2.size));clear J;go_wp2_with fail
     refine(HE.o W5 (D.o.below ac.o aA4)).mono ?_;rintro e W6 ⟨rfl,L⟩;have ad:=qN ac L;have a3:=qN a2 L;clear L;go_wp2_with fail
     refine(HL.o W6 (D.o.below ad.o aA4)).mono ?_;rintro e W7 ⟨⟨v,rfl⟩,M⟩;have a1:=qN ad M;have a4:=qN a3 M;clear M;by_cases c:Hit r n m s j
     ·have F:=HI.o.2 c;rw[bp]at F
      have he:=F.1;have hl:=br F.2;have aw:n=N:=by
       rcases ak n N with h|h
       ·exact absurd c (a6.o h j)
       ·have:=a.o;omega
      have hd:=a5.o aw;have HA:G (t j=tD/\(n:Int)+s-349+1=P):=by
       obtain⟨_,_,_,_,be,bf⟩:=hd;exact Z ⟨be j f c b.o.2.1,bf⟩
      clear F hd c aw;go_wp2
      go_ret2;refine⟨?_,a1.o⟩;rw[<-HA.o.1,<-HA.o.2];rfl
     ·have av:¬((FloatKind.f64.format.order (y j) r==some .eq)&&decide (((t j).size:Int)=n))=true:=fun h=>c (HI.o.1 h)
      have HM:=Z c;clear c;cases he:(FloatKind.f64.format.order (y j) r==some .eq)
      case' false=>skip
      case' true =>
       have hl:¬((t j).size:Int)=n:=fun h=>av (by rw[he,bt h];rfl)
      all_goals
       clear av;go_wp2
       go_roundw
       case rel =>
        refine⟨j+1,by go_num,Z ⟨f,fun i hi=>?_,a4.o⟩⟩;rcases(show i<j\/i=j by omega)with h|rfl
        ·exact b.o.2.1 i h
        ·exact HM.o
       case measure=>simp[intOf];omega
    ·obtain rfl:j=3:=by have:=b.o.1;omega
     have a7:G (n<N):=by
      show n<N;rcases(show n<N\/n=N by have:=a.o;omega)with h|h
      ·exact h
      ·obtain⟨i,i1,i2,_⟩:=al.o h;exact absurd i2 (b.o.2.1 i i1)
     have C:=Z (B.o.trans (b.o.2.2.mono B.o.size));go_wp2
     go_roundw
     case rel=>exact⟨n+1,by go_num,Z ⟨by omega,a7.o,C.o⟩⟩
     case measure=>simp[intOf];omega
open Go.RowKit
theorem aO0 (c s:Nat)(f:1<=c)(o:c<144115188075855872)(a:s<696):∃R,bI (bC c s) (aG s) R:=by
 obtain⟨b,n,h,e,l,d⟩:=rK c f (by omega);obtain⟨p1,p2⟩:=aEv s a;obtain⟨z,g⟩:∃z:Nat,fJ b s=z:=⟨(fJ b s).toNat,by unfold fJ;omega⟩;by_cases k:64<=fJ b s;{exact⟨0,aDu c s b a d k⟩};{have j:b<=57:=by{refine ff fun p=>?_;have:2^57<=2^(b-1):=b8 (by decide) (by omega);have m:(2:Nat)^57=144115188075855872:=by{decide};omega};have i:=aAD c s b z a f d e g (.inl j);exact⟨_,(aFw c s b a h l d e z g i _ rfl).2.2.2⟩}
theorem aFc (q:Int)(i:-1000<q)(g:q<1000):∃(b a:U) (es:Int),Lib.itoa q=b++a/\a≠[]/\(∀c∈a,aE c=true)/\((b=[]/\es=1)\/(b=[43]/\es=1)\/(b=[45]/\es=-1))/\q=(bX a:Nat)*es/\a.length<=3:=by
 have f:∀n:Nat,n<1000->(Lib.decDigits n).length<=3:=fun n j=>by{rw[dv];refine ff fun h=>?_;have g:=f7 n;by_cases d:n<10;{rw[ip d]at h;omega};{rw[lc d]at h;by_cases e:n / 10<10;{rw[ip e]at h;omega};{rw[lc e,ip (by omega)]at h;omega}}};have ne:∀n:Nat,Lib.decDigits n≠[]:=fun n h=>by{have:=dv n;rw[h]at this;have:=f7 n;simp at *;omega};by_cases c:q<0;{refine⟨[45],Lib.decDigits q.natAbs,-1,?_,ne _,mA _,.inr (.inr ⟨rfl,rfl⟩),?_,f _ (by omega)⟩;{unfold Lib.itoa;rw[af c];rfl};{rw[tI _ (by omega)];omega}};{refine⟨[],Lib.decDigits q.toNat,1,?_,ne _,mA _,.inl ⟨rfl,rfl⟩,?_,f _ (by omega)⟩;{unfold Lib.itoa;rw[ae c];rfl};{rw[tI _ (by omega)];omega}}
def vV (c:Nat)(q:Int):I:=⟨(Lib.decDigits c++101 :: Lib.itoa q).toArray⟩
theorem aMl (c:Nat)(h:c<=100000000000000000):Lib.nDigits c<=18:=by
 by_cases a:c<100000000000000000;{have:=oL c a;omega};{have b:(10:Nat)^17=100000000000000000:=by{decide};have d:(10:Nat)^(17+1)=1000000000000000000:=by{decide};have:=oe 17 c (by omega) (by omega);omega}
theorem aHB (c:Nat)(q:Int)(j:c<=100000000000000000)(g:-1000<q)(i:q<1000):vP (vV c q) false (Lib.decDigits c) [] false (101 :: Lib.itoa q) q:=by
 obtain⟨b,d,f,a,e,e3,e4,e5,k⟩:=aFc q g i;have m:=aMl c j;have l:b.length<=1:=by{rcases e4 with⟨rfl,_⟩|⟨rfl,_⟩|⟨rfl,_⟩<;>simp};refine⟨by simp[vV],mA _,by simp,fun h=>?_,fun _=>rfl,fun h=>absurd h (by decide),.inr ⟨b,d,f,by rw[a];rfl,e,e3,e4,e5⟩,?_⟩;{have:=dv c;rw[h]at this;have:=f7 c;simp at *;omega};{unfold vV;rw[eG,ax,dv,a];simp;omega}
theorem aHA (c s:Nat)(d:c<=100000000000000000)(s1:8<=s)(n:s<=657):∃R,R<=aL/\(∀r,1<=r->(R=r↔1<=c/\bI (bC c s) (aG s) r)) /\
  ∀w,aA w->Y 66 #[.string (vV c ((s:Int)-348)),.int .i64 64] w fun e w'=>aEz R e/\Below w.heap.size w w':=by
 have N:=aHB c ((s:Int)-348) d (by omega) (by omega);have a:bK (Lib.decDigits c) [] false=Lib.decDigits c:=by simp[bK]
 have hlen:(Lib.decDigits c).length<=18:=by rw[dv];exact aMl c d
 have m:(vV c ((s:Int)-348)).size<=1000:=by have:=N.len;omega
 by_cases k:c=0
 ·subst k;refine⟨0,bb _,fun r hr=>⟨fun h=>by omega,fun h=>by omega⟩,fun w T=>?_⟩;have f:=fun w=>aFF N w
  rw[a]at f
  have i:aO (Lib.decDigits 0)=aO [48]:=by rw[Lib.decDigits_one (by decide)];rfl
  rw[i]at f
  have A:=fun w T=>dQ (aAq (vV 0 ((s:Int)-348)) _ false _ w T (fun w=>aAK N w) f)
  exact(aCb _ _ w T A).mono fun _ _ h=>⟨⟨_,h.1⟩,h.2⟩
 ·obtain⟨R,b⟩:=aO0 c s (by omega) (by omega) (by omega);refine⟨R,b.le,fun r hr=>⟨fun h=>⟨by omega,h▸b⟩,fun h=>rT _ _ _ _ (dX s) b h.2⟩,fun w T=>?_⟩;have A:=fun w T=>aAP N c s R (by rw[a];exact zQ c) (by omega) (by simp;omega) (by rw[a];exact mV _ (fun c d=>by unfold cR;rw[mA _ c d];rfl) (by omega)) b (by omega) (by rw[a];omega) (.inl (by omega)) w T
  have j:sgn false+R=R:=wQ R;rw[j]at A
  by_cases g:R=aL
  ·have e:uD R=.iface 158 (.int .i64 1):=af g;rw[e]at A
   exact(aFA _ m R w T A).mono fun _ _ ⟨⟨t,p,h⟩,l⟩=>⟨⟨_,h⟩,l⟩
  ·have e:uD R=.nilIface:=ae g;rw[e]at A
   exact(aCb _ _ w T A).mono fun _ _ h=>⟨⟨_,h.1⟩,h.2⟩
theorem aO4 (R r:Nat)(h:R<=aL)(hr:r<aL)(f:1<=r):(FloatKind.f64.format.order R r==some .eq)=decide (R=r):=by
 rw[ay,bi];by_cases e:R=aL;{constructor;{intro c;subst e;exfalso;obtain⟨c2,k2⟩:=kY false r hr;rw[wQ]at c2 k2;have d:cl aL=1:=by{kernel_rfl};rw[aBF,c2,d]at c;have:=c.2;unfold jF at this;simp at this};{intro c;omega}};{have c:=aIl false false R r (by omega) hr;rw[wQ,wQ]at c;rw[c];constructor;{rintro(⟨a,b⟩|⟨_,a⟩);{omega};{exact a}};{intro a;exact .inr ⟨rfl,a⟩}}
