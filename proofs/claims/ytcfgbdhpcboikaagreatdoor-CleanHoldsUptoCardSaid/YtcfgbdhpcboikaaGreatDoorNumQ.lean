/-
Every numeral's parts; what readFloat and special give of it.
-/
import Derived.Test.YtcfgbdhpcboikaaGreatDoorShortS
import Derived.Great.Walk
import Derived.Test.YtcfgbdhpcboikaaGreatDoorDecT
namespace Go.Proofs.YtcfgbdhpcboikaaGreatDoor
open Go.Lib (hid)
set_option maxHeartbeats 2000000
set_option maxRecDepth 100000
open Go.RowKit
theorem rU {n:Nat}:n≤n:=Nat.le_refl n
structure aI5 (s:ByteArray) (neg:Bool) (A F:List UInt8) (dot:Bool) (X:List UInt8) (ev:Int):Prop where
 txt:s.data.toList=(if neg then [45]else [])++(A++(if dot then 46 :: F else []))++X
 digA:∀c∈A,aS c=true
 digF:∀c∈F,aS c=true
 ne:A≠[]∨dot=true
 F1:dot=true→F≠[]
 exp:(X=[]∧ev=0)∨∃(cE:UInt8) (sg Dg:List UInt8) (es:Int),X=cE :: sg++Dg∧(cE=101∨cE=69)∧Dg≠[]∧(∀c∈Dg,aS c=true)∧((sg=[]∧es=1)∨(sg=[43]∧es=1)∨(sg=[45]∧es=-1))∧ev=(cK Dg:Nat)*es
 len:s.size≤40
theorem aIY {s:ByteArray}{neg dot:Bool}{A F X:List UInt8}{ev:Int}(N:aI5 s neg A F dot X ev):∀c∈cC A F dot,dE c=true:=by
 intro c hc;unfold cC at hc;rcases List.mem_append.1 hc with h|h
 ·unfold dE;rw[N.digA c h];rfl
 ·cases dot
  ·simp at h
  ·rw[if_pos rfl]at h
   rcases List.mem_cons.1 h with h|h
   ·rw[h];rfl
   ·unfold dE;rw[N.digF c h];rfl
theorem uF (l:List UInt8):∃A r,l=A++r∧A.length=digs l∧(∀c∈A,aS c=true)∧l.take (digs l)=A∧l.drop (digs l)=r:=by
 refine⟨l.takeWhile aS,l.dropWhile aS,List.takeWhile_append_dropWhile.symm,rfl,?_,?_,?_⟩
 ·intro c hc;induction l with
  | nil=>cases hc
  | cons d l ih =>
   rw[List.takeWhile_cons]at hc
   split at hc
   ·rename_i hd;rcases List.mem_cons.1 hc with h|h
    ·rw[h];exact hd
    ·exact ih h
   ·cases hc
 ·have e:l=l.takeWhile aS++l.dropWhile aS:=List.takeWhile_append_dropWhile.symm;conv=>lhs;arg 2;rw[e]
  unfold digs;exact List.take_left
 ·have e:l=l.takeWhile aS++l.dropWhile aS:=List.takeWhile_append_dropWhile.symm;conv=>lhs;arg 2;rw[e]
  unfold digs;exact List.drop_left
theorem aIH (y:List UInt8)(h:pL y=true):∃(sg Dg:List UInt8) (es:Int),y=sg++Dg∧Dg≠[]∧(∀c∈Dg,aS c=true)∧((sg=[]∧es=1)∨(sg=[43]∧es=1)∨(sg=[45]∧es=-1)):=by
 have all:∀l:List UInt8,(!l.isEmpty&&digs l==l.length)=true→l≠[]∧∀c∈l,aS c=true:=by
  intro l hl;rw[Bool.and_eq_true]at hl
  obtain⟨h1,h2⟩:=hl;refine⟨by rintro rfl;exact absurd h1 (by decide),?_⟩;obtain⟨A,r,e,hA,hd,_,_⟩:=uF l;have h2:digs l=l.length:=by simpa using h2
  have:r=[]:=by
   have h3:l.length=A.length+r.length:=by rw[e];simp
   exact List.eq_nil_of_length_eq_zero (by omega)
  rw[e,this,List.append_nil];exact hd
 unfold pL at h;cases y with
 | nil =>
  have:=(all [] h).1;exact absurd rfl this
 | cons c y =>
  by_cases h1:c=43
  ·rw[if_pos (.inl (by rw[h1];rfl))]at h
   obtain⟨a,b⟩:=all y h;exact⟨[43],y,1,by rw[h1];rfl,a,b,.inr (.inl ⟨rfl,rfl⟩)⟩
  ·by_cases h2:c=45
   ·rw[if_pos (.inr (by rw[h2];rfl))]at h
    obtain⟨a,b⟩:=all y h;exact⟨[45],y,-1,by rw[h2];rfl,a,b,.inr (.inr ⟨rfl,rfl⟩)⟩
   ·rw[if_neg (by simp[h1,h2])]at h
    obtain⟨a,b⟩:=all (c :: y) h;exact⟨[],c :: y,1,rfl,a,b,.inl ⟨rfl,rfl⟩⟩
theorem aBM (n:Nat)(X:List UInt8)(h:kP n X=true):n≠0∧∃ev:Int,(X=[]∧ev=0)∨∃(cE:UInt8) (sg Dg:List UInt8) (es:Int),X=cE :: sg++Dg∧(cE=101∨cE=69)∧Dg≠[]∧(∀c∈Dg,aS c=true)∧((sg=[]∧es=1)∨(sg=[43]∧es=1)∨(sg=[45]∧es=-1))∧ev=(cK Dg:Nat)*es:=by
 unfold kP at h;split at h
 ·cases h
 ·rename_i hn;refine⟨hn,?_⟩;split at h
  ·rename_i hX;exact⟨0,.inl ⟨hX,rfl⟩⟩
  ·rename_i hX;split at h
   ·rename_i hc;cases X with
    | nil=>exact absurd rfl hX
    | cons c y =>
     obtain⟨sg,Dg,es,e,a,b,d⟩:=aIH y h;exact⟨_,.inr ⟨c,sg,Dg,es,by rw[e];rfl,by simpa using hc,a,b,d,rfl⟩⟩
   ·cases h
theorem aHz (s:ByteArray)(h:iG s.data.toList=true):∃neg A F dot X ev,aI5 s neg A F dot X ev:=by
 unfold iG at h;split at h
 ·cases h
 ·rename_i hl;have hsz:s.size≤40:=by rw[bF];omega
  obtain⟨neg,l1,e1,h⟩:∃(neg:Bool) (l1:List UInt8),s.data.toList=(if neg then [45]else [])++l1∧uK l1=true:=by
   split at h
   ·rename_i h45;cases hs:s.data.toList with
    | nil=>rw[hs]at h45;cases h45
    | cons c l =>
     rw[hs]at h45 h
     have:c=45:=by simpa using h45
     exact⟨true,l,by rw[this];rfl,h⟩
   ·exact⟨false,_,rfl,h⟩
  unfold uK at h;obtain⟨A,r,e2,hA,dA,_,er⟩:=uF l1;rw[er]at h
  split at h
  ·rename_i h46;cases r with
   | nil=>cases h46
   | cons c r =>
    have hc:c=46:=by simpa using h46
    subst hc;have e3:(46 :: r).drop 1=r:=rfl;rw[e3]at h
    obtain⟨F,X,e4,hF,dF,_,eX⟩:=uF r;split at h
    ·cases h
    ·rename_i hf0;have e5:(46 :: r).drop (1+digs r)=X:=by
      rw[Nat.add_comm,List.drop_succ_cons];exact eX
     rw[e5]at h
     obtain⟨_,ev,hX⟩:=aBM _ _ h;refine⟨neg,A,F,true,X,ev,⟨?_,dA,dF,.inr rfl,?_,hX,hsz⟩⟩
     ·rw[e1,e2,e4];simp
     ·rintro _ rfl;exact hf0 (by rw[←hF];rfl)
  ·obtain⟨hn,ev,hX⟩:=aBM _ _ h;refine⟨neg,A,[],false,r,ev,⟨?_,dA,by simp,.inl ?_,by simp,hX,hsz⟩⟩
   ·rw[e1,e2];simp
   ·rintro rfl;exact hn (by rw[←hA];rfl)
theorem aFP {s:ByteArray}{neg dot:Bool}{A F X:List UInt8}{ev:Int}(N:aI5 s neg A F dot X ev) :
  ∃p0 q,vV s neg p0∧mI s p0 q∧aAW s q ev∧aK s p0 q=cC A F dot∧p0<s.size∧(∀h:p0<s.size,s[p0].toNat≤57)∧p0=(if neg then 1 else 0):=by
 obtain⟨S,hS⟩:∃S:List UInt8,(if neg then [45]else [])=S:=⟨_,rfl⟩
 obtain⟨W,hW⟩:∃W,cC A F dot=W:=⟨_,rfl⟩
 have ht:=N.txt;have hch:=aIY N;rw[hW]at hch
 have hW':A++(if dot then 46 :: F else [])=W:=hW;rw[hS,hW']at ht
 have hsz:s.size=S.length+W.length+X.length:=by rw[bF,ht];simp;omega
 have hA:1≤W.length:=by
  rw[←hW'];rcases N.ne with h|h
  ·have:=List.length_pos_iff.2 h;simp;omega
  ·rw[h];simp;omega
 have hp0:S.length=(if neg then 1 else 0):=by rw[←hS];cases neg<;>rfl
 have first:∀h:S.length<s.size,aS s[S.length]=true∨s[S.length]=46:=by
  intro h;have e:=dO s S W X ht S.length h rU (by omega);rw[e];have:=hch (W[S.length-S.length]'(by omega)) (List.getElem_mem _);simpa [dE]using this
 have hlt:S.length<s.size:=by omega
 have fb:46≤s[S.length].toNat∧s[S.length].toNat≤57:=by
  rcases first hlt with h|h
  ·have:=eQ _ h;omega
  ·rw[h];decide
 refine⟨S.length,S.length+W.length,?_,?_,?_,?_,hlt,fun h=>fb.2,hp0⟩
 ·refine⟨by omega,?_⟩;cases neg
  ·have hS0:S=[]:=by rw[←hS];rfl
   subst hS0;left;have b:=fb;refine⟨rfl,rfl,?_,?_⟩
   ·rw[beq_eq_false_iff_ne];have:(s[0].toNat)=s[([]:List UInt8).length].toNat:=rfl;omega
   ·rw[beq_eq_false_iff_ne];have:(s[0].toNat)=s[([]:List UInt8).length].toNat:=rfl;omega
  ·have hS0:S=[45]:=by rw[←hS];rfl
   subst hS0;right;have e:=dO s [] [45] (W++X) (by rw[ht];simp) 0 (by omega) (Nat.zero_le _) (by simp);have e':s[0]'(by omega)=45:=e;refine⟨rfl,rfl,?_,?_⟩
   ·rw[e'];decide
   ·rw[e'];decide
 ·refine⟨by omega,by omega,?_,?_,?_,?_⟩
  ·intro j h h1 h2;rw[dO s S W X ht j h h1 (by omega)];exact hch _ (List.getElem_mem _)
  ·intro j h h1 h2 h46;rw[aEf s S W X ht j h1 (by omega)];have e:=dO s S W X ht j h h1 (by omega);rw[h46]at e
   have hj:j-S.length=A.length:=by
    rcases Nat.lt_trichotomy (j-S.length) A.length with hl|hl|hl
    ·exfalso;have e2:W[j-S.length]'(by omega)=A[j-S.length]'hl:=by
      have:=List.getElem_of_eq hW'.symm (i:=j-S.length) (by omega);rw[this,List.getElem_append_left hl]
     rw[e2]at e
     have:=N.digA _ (List.getElem_mem hl);rw[←e]at this
     exact absurd this (by decide)
    ·exact hl
    ·exfalso;cases dot
     ·have:W=A:=by rw[←hW'];simp
      rw[this]at h2
      omega
     ·have hWe:W=A++46 :: F:=by rw[←hW'];rfl
      have hlF:j-S.length-A.length-1<F.length:=by
       have:W.length=A.length+(F.length+1):=by rw[hWe];simp
       omega
      have e2:W[j-S.length]'(by omega)=F[j-S.length-A.length-1]'hlF:=by
       have:=List.getElem_of_eq hWe (i:=j-S.length) (by omega);rw[this,List.getElem_append_right (by omega)];rw[List.getElem_cons];rw[dif_neg (by omega)]
      rw[e2]at e
      have:=N.digF _ (List.getElem_mem hlF);rw[←e]at this
      exact absurd this (by decide)
   have e3:W.take (j-S.length)=A:=by
    rw[hj,←hW',List.take_left]
   rw[e3];exact sD A N.digA
  ·rw[nT s S W X ht];rcases N.ne with h|h
   ·obtain⟨c,hc⟩:=List.exists_mem_of_ne_nil _ h;exact vF W c (by rw[←hW'];simp[hc]) (N.digA c hc)
   ·obtain⟨c,hc⟩:=List.exists_mem_of_ne_nil _ (N.F1 h);exact vF W c (by rw[←hW',h];simp[hc]) (N.digF c hc)
  ·intro h;have hX:X≠[]:=by
    intro h0;rw[h0]at hsz
    simp at hsz;omega
   have e:=dO s (S++W) X [] (by rw[ht];simp) (S.length+W.length) h (by simp) (by
    simp;exact List.length_pos_iff.2 hX)
   rw[e];rcases N.exp with⟨h0,_⟩|⟨cE,sg,Dg,es,h0,hcE,_⟩
   ·exact absurd h0 hX
   ·subst h0;simpa using hcE
 ·rcases N.exp with⟨h0,h1⟩|⟨cE,sg,Dg,es,hX,hcE,hne,hdg,hsg,hev⟩
  ·left;rw[h0]at hsz
   simp at hsz;exact⟨by omega,h1⟩
  ·right;have hDl:1≤Dg.length:=List.length_pos_iff.2 hne;have hXl:X.length=1+sg.length+Dg.length:=by rw[hX];simp;omega
   have hq:S.length+W.length+1<s.size:=by omega
   have htx:s.data.toList=(S++W++[cE]++sg)++Dg++[]:=by rw[ht,hX];simp
   have hl4:(S++W++[cE]++sg).length=S.length+W.length+1+sg.length:=by simp;omega
   refine⟨hq,S.length+W.length+1+sg.length,es,?_,by omega,?_,?_⟩
   ·rcases hsg with⟨h1,h2⟩|⟨h1,h2⟩|⟨h1,h2⟩
    ·left;refine⟨by rw[h1];rfl,h2,?_⟩;rw[h1]at hl4
     have:=dO s _ Dg [] htx (S.length+W.length+1) hq (by rw[h1,hl4];simp) (by rw[h1,hl4];simp;omega);rw[this];exact hdg _ (List.getElem_mem _)
    ·right;left;refine⟨by rw[h1];rfl,h2,?_⟩;have:=dO s (S++W++[cE]) sg Dg (by rw[ht,hX];simp) (S.length+W.length+1) hq (by simp;omega) (by rw[h1];simp;omega);rw[this];simp[h1]
    ·right;right;refine⟨by rw[h1];rfl,h2,?_⟩;have:=dO s (S++W++[cE]) sg Dg (by rw[ht,hX];simp) (S.length+W.length+1) hq (by simp;omega) (by rw[h1];simp;omega);rw[this];simp[h1]
   ·intro j h h1;have:=dO s _ Dg [] htx j h (by rw[hl4];exact h1) (by rw[hl4];omega);rw[this];exact hdg _ (List.getElem_mem _)
   ·have e:aK s (S.length+W.length+1+sg.length) s.size=Dg:=by
     have:=nT s _ Dg [] htx;rw[hl4,show S.length+W.length+1+sg.length+Dg.length=s.size by omega]at this
     exact this
    rw[e];exact hev
 ·rw[hW];exact nT s S W X ht
theorem aFK (s:ByteArray)(h:iG s.data.toList=true):∃neg p0 q ev,s.size≤40∧vV s neg p0∧mI s p0 q∧aAW s q ev ∧
  ∀w,Calls Tryz.prog 233 #[.string s] w fun e w'=>e=.returned (.tuple #[.float .f64 0,.int .i64 0,.bool false])∧w=w':=by
 obtain⟨neg,A,F,dot,X,ev,N⟩:=aHz s h;obtain⟨p0,q,⟨g0,hsg⟩,h2,h3,h4,h5,h6,h7⟩:=aFP N;refine⟨neg,p0,q,ev,N.len,⟨g0,hsg⟩,h2,h3,fun w=>?_⟩;have hl:=N.len;rcases hsg with⟨rfl,rfl,a,b⟩|⟨rfl,rfl,a,b⟩
 ·exact pN s w g0 hl (h6 h5) a b
 ·exact vA s w h5 hl a b (h6 h5)
open Go.RowKit
theorem aGJ (m i:Nat)(neg:Bool)(hm:m≠0)(hi:i<696) :
  (∃r,r<aX∧∀w,aC w→Calls Tryz.prog 244 #[.int .u64 m,.int .i64 ((i:Int)-348),.bool neg] w fun e w'=>e=.returned (.tuple #[.float .f64 (sgn neg+r),.bool true])∧w=w') ∨
  (∀w,aC w→Calls Tryz.prog 244 #[.int .u64 m,.int .i64 ((i:Int)-348),.bool neg] w (mM w)):=by
 by_cases hm52:m<4503599627370496
 ·obtain⟨f1,f2,f3⟩:=uB m hm (by omega);have fs:=aCf neg m hm (by omega);by_cases c0:i=348
  ·subst c0;refine .inl ⟨_,f1,fun w T=>?_⟩;have:=aCd m neg w T hm52;rw[fs]at this
   exact this
  ·by_cases c1:348<i∧i≤370
   ·obtain⟨p,rfl⟩:∃p,i=348+p:=⟨i-348,by omega⟩
    have ep:((348+p:Nat):Int)-348=(p:Int):=by omega
    rw[ep];obtain⟨t1,t2,t3⟩:=pD p (by omega);obtain⟨r,er,hr⟩:=sX neg _ _ f1 t1 f2 t2;have hr2:cY (bY m (348+p)) (aO (348+p)) r:=by
     obtain⟨a,b⟩:=lG m p;refine fQ _ _ _ _ _ (Nat.two_pow_pos _) (dD _) ?_ hr;rw[a,b,f3,t3];exact tD _ _ _
    have hrI:r<aX:=by
     have:=rT _ _ r 9006104071832581120 (dD _) hr2 (by
      obtain⟨a,b⟩:=lG m p;rw[a,b,Nat.mul_one];have:m*10^p≤4503599627370496*10^22:=Nat.mul_le_mul (by omega) (Nat.pow_le_pow_right (by decide) (by omega));refine Nat.le_trans (Nat.mul_le_mul_right _ this) ?_;exact of_decide_eq_true (by kernel_rfl))
     unfold aX;omega
    cases hg1:FloatKind.f64.format.order (cL neg m) 4831355200913801216==some .gt with
    | true=>exact .inr fun w T=>(qF m p neg w T hm52 (by omega) (by omega) (.inl hg1))
    | false =>
     cases hg2:FloatKind.f64.format.order (cL neg m) 14054727237768577024==some .lt with
     | true=>exact .inr fun w T=>(qF m p neg w T hm52 (by omega) (by omega) (.inr ⟨hg1,hg2⟩))
     | false =>
      exact .inl ⟨r,hrI,fun w T=>(aBQ m p neg (sgn neg+r) w T hm52 (by omega) (by omega) hg1 hg2 (by rw[fs];exact er))⟩
   ·by_cases c2:370<i∧i≤385
    ·obtain⟨p,rfl⟩:∃p,i=348+p:=⟨i-348,by omega⟩
     have ep:((348+p:Nat):Int)-348=(p:Int):=by omega
     rw[ep];obtain⟨q,hq⟩:∃q,q+22=p:=⟨p-22,by omega⟩
     obtain⟨t1,t2,t3⟩:=pD q (by omega);obtain⟨r1,er1,hr1⟩:=sX neg _ _ f1 t1 f2 t2;have hr1':cY (m*10^q*2^1074) 1 r1:=by
      refine fQ _ _ _ _ _ (Nat.two_pow_pos _) (by decide) ?_ hr1;rw[f3,t3];exact tD _ _ _
     have er1':floatBits .mul .f64 (cL neg m) (fS.getD q 0)=some (sgn neg+r1):=by rw[fs];exact er1
     have hr1I:r1<aX:=by
      have:=rT _ _ r1 9006104071832581120 (by decide) hr1' (by
       rw[Nat.mul_one];have:m*10^q≤4503599627370496*10^22:=Nat.mul_le_mul (by omega) (Nat.pow_le_pow_right (by decide) (by omega));refine Nat.le_trans (Nat.mul_le_mul_right _ this) ?_;exact of_decide_eq_true (by kernel_rfl))
      unfold aX;omega
     by_cases hx:m*10^q<9007199254740992
     ·have hm10:m*10^q≠0:=Nat.mul_ne_zero hm (Nat.ne_of_gt (Nat.pow_pos (by decide)));obtain⟨r1',g1,g2,g3⟩:=tP (m*10^q) hm10 hx;have e11:r1=r1':=by
       rw[←g3]at hr1'
       exact qM _ _ _ _ (by decide) hr1' (xF r1' (Nat.le_of_lt g1))
      obtain⟨u1,u2,u3⟩:=pD 22 (by omega);rw[e11]at er1' hr1I
      obtain⟨r,er,hr⟩:=sX neg _ _ g1 u1 g2 u2;have hr2:cY (bY m (348+p)) (aO (348+p)) r:=by
       obtain⟨a,b⟩:=lG m p;refine fQ _ _ _ _ _ (Nat.two_pow_pos _) (dD _) ?_ hr;rw [a, b, g3, u3];generalize (2 : Nat) ^ 1074 = z;rw [tD, ← hq,Nat.pow_add,Nat.mul_assoc m]
      have hrI:r<aX:=by
       have:=rT _ _ r 9006104071832581120 (dD _) hr2 (by
        obtain⟨a,b⟩:=lG m p;rw[a,b,Nat.mul_one,←hq,Nat.pow_add,←Nat.mul_assoc m];have:m*10^q*10^22≤9007199254740992*10^22:=Nat.mul_le_mul_right _ (by omega);refine Nat.le_trans (Nat.mul_le_mul_right _ this) ?_;exact of_decide_eq_true (by kernel_rfl))
       unfold aX;omega
      cases hg1:FloatKind.f64.format.order (sgn neg+r1') 4831355200913801216==some .gt with
      | true=>exact .inr fun w T=>(jT m p q neg _ w T hm52 (by omega) (by omega) hq er1' (.inl hg1))
      | false =>
       cases hg2:FloatKind.f64.format.order (sgn neg+r1') 14054727237768577024==some .lt with
       | true=>exact .inr fun w T=>(jT m p q neg _ w T hm52 (by omega) (by omega) hq er1' (.inr ⟨hg1,hg2⟩))
       | false =>
        exact .inl ⟨r,hrI,fun w T=>(aAQ m p q neg _ (sgn neg+r) w T hm52 (by omega) (by omega) hq er1' hg1 hg2 er)⟩
     ·have:4845873199050653696≤r1:=aLD _ _ r1 4845873199050653696 (by decide) hr1' (by decide) (by
       rw[Nat.mul_one];refine Nat.le_trans ?_ (Nat.mul_le_mul_right _ (show 9007199254740992 ≤ m * 10 ^ q by omega));exact of_decide_eq_true (by kernel_rfl))
      exact .inr fun w T=>(jT m p q neg _ w T hm52 (by omega) (by omega) hq er1' (aEl neg r1 4831355200913801216 hr1I (by omega)))
    ·by_cases c3:326≤i∧i<348
     ·obtain⟨p,rfl⟩:∃p,i=348-p:=⟨348-i,by omega⟩
      have ep:((348-p:Nat):Int)-348=-(p:Int):=by omega
      rw[ep];obtain⟨t1,t2,t3⟩:=pD p (by omega);obtain⟨r,er,hr⟩:=aHF neg _ _ f1 t1 f2 t2;have a:bY m (348-p)=m*2^1074:=by
       unfold bY;rw[show 348-p-348=0 by omega,Nat.pow_zero,Nat.mul_one]
      have b:aO (348-p)=10^p:=by
       unfold aO;rw[show 348-(348-p)=p by omega]
      have hr2:cY (bY m (348-p)) (aO (348-p)) r:=by
       refine fQ _ _ _ _ _ (by rw[t3];exact Nat.mul_pos (Nat.pow_pos (by decide)) (Nat.two_pow_pos 1074)) (dD _) ?_ hr;rw[a,b,f3,t3];generalize (2:Nat)^1074=z;ac_rfl
      have hrI:r<aX:=by
       have:=rT _ _ r 9006104071832581120 (dD _) hr2 (by
        rw[a,b];have h1:1≤10^p:=Nat.pow_pos (by decide);have h2:m*2^1074≤bK 9006104071832581120:=by
         refine Nat.le_trans (Nat.mul_le_mul_right _ (Nat.le_of_lt hm52)) ?_;exact of_decide_eq_true (by kernel_rfl)
        exact Nat.le_trans h2 (Nat.le_mul_of_pos_right _ h1))
       unfold aX;omega
      exact .inl ⟨r,hrI,fun w T=>(aCh m p neg (sgn neg+r) w T hm52 (by omega) (by omega) (by rw[fs];exact er))⟩
     ·exact .inr fun w T=>(aBS m ((i:Int)-348) neg w T hm52 (by omega))
 ·exact .inr fun w T=>(xZ m ((i:Int)-348) neg w T (by omega))
open Go.RowKit
def yU (s:ByteArray):Prop:=∀w,Calls Tryz.prog 233 #[.string s] w fun e w'=>e=.returned (.tuple #[.float .f64 0,.int .i64 0,.bool false])∧w=w'
def wN (s:ByteArray)(m:Nat)(x:Int)(neg tr:Bool):Prop:=∀w,Calls Tryz.prog 234 #[.string s] w fun e w'=>e=.returned (.tuple #[.int .u64 m,.int .i64 x,.bool neg,.bool tr,.bool false,.int .i64 s.size,.bool true])∧w=w'
theorem aEV (s:ByteArray)(x:Int)(neg tr:Bool)(w:World)(T:aC w)(SP:yU s)(RD:wN s 0 x neg tr) :
  Calls Tryz.prog 205 #[.string s] w fun e w'=>e=.returned (.tuple #[.float .f64 (sgn neg+0),.int .i64 s.size,.nilIface])∧w=w':=by
 have h3:=T.opt;have d1:=lC;have HSP:=hid SP;have HRD:=hid RD;clear SP RD T;cases neg;all_goals
  go_enter Tryz.func205,Tryz.ntmps205
  go_wp2_with (first
   | (go_at_call 233;refine(HSP.out _).mono ?_;rintro e w' ⟨rfl,rfl⟩)
   | (go_at_call 234;refine(HRD.out _).mono ?_;rintro e w' ⟨rfl,rfl⟩)
   | (go_at_call 242;((with_reducible refine(dL _).mono ?_);rintro e w' ⟨rfl,rfl⟩))
   | (go_at_call 242;((with_reducible refine(cO _).mono ?_);rintro e w' ⟨rfl,rfl⟩)))
  go_ret3;exact⟨rfl,rfl⟩
theorem aIs (s:ByteArray)(m:Nat)(x:Int)(neg tr:Bool)(w:World)(T:aC w)(SP:yU s)(RD:wN s m x neg tr)(hm:m≠0)(hx:310<x) :
  Calls Tryz.prog 205 #[.string s] w fun e w'=>e=.returned (.tuple #[.float .f64 (sgn neg+9218868437227405312),.int .i64 s.size,.iface 158 (.int .i64 1)])∧w=w':=by
 have h3:=T.opt;have d1:=lC;have hm0:((m:Int)==0)=false:=beq_eq_false_iff_ne.2 (by omega);have HSP:=hid SP;have HRD:=hid RD;clear SP RD T;cases neg;all_goals
  go_enter Tryz.func205,Tryz.ntmps205
  go_wp2_with (first
   | (go_at_call 233;refine(HSP.out _).mono ?_;rintro e w' ⟨rfl,rfl⟩)
   | (go_at_call 234;refine(HRD.out _).mono ?_;rintro e w' ⟨rfl,rfl⟩)
   | (go_at_call 242;((with_reducible refine(dL _).mono ?_);rintro e w' ⟨rfl,rfl⟩))
   | (go_at_call 242;((with_reducible refine(cO _).mono ?_);rintro e w' ⟨rfl,rfl⟩)))
  go_ret3;exact⟨rfl,rfl⟩
theorem aIt (s:ByteArray)(m:Nat)(x:Int)(neg tr:Bool)(w:World)(T:aC w)(SP:yU s)(RD:wN s m x neg tr)(hm:m≠0)(hx:x < -345) :
  Calls Tryz.prog 205 #[.string s] w fun e w'=>e=.returned (.tuple #[.float .f64 (sgn neg+0),.int .i64 s.size,.nilIface])∧w=w':=by
 have h3:=T.opt;have d1:=lC;have hm0:((m:Int)==0)=false:=beq_eq_false_iff_ne.2 (by omega);have HSP:=hid SP;have HRD:=hid RD;clear SP RD T;cases neg;all_goals
  go_enter Tryz.func205,Tryz.ntmps205
  go_wp2_with (first
   | (go_at_call 233;refine(HSP.out _).mono ?_;rintro e w' ⟨rfl,rfl⟩)
   | (go_at_call 234;refine(HRD.out _).mono ?_;rintro e w' ⟨rfl,rfl⟩)
   | (go_at_call 242;((with_reducible refine(dL _).mono ?_);rintro e w' ⟨rfl,rfl⟩))
   | (go_at_call 242;((with_reducible refine(cO _).mono ?_);rintro e w' ⟨rfl,rfl⟩)))
  go_ret3;exact⟨rfl,rfl⟩
theorem aHW (s:ByteArray)(m:Nat)(x:Int)(neg:Bool)(r:Nat)(v:Value)(w:World)(T:aC w)(SP:yU s)(RD:wN s m x neg false)(hm:m≠0)(x1:-345≤x)(x2:x≤310)
  (EX:∀w,aC w→Calls Tryz.prog 244 #[.int .u64 m,.int .i64 x,.bool neg] w (mM w))
  (PF:∀w,aC w→Calls Tryz.prog 245 #[.int .u64 m,.int .i64 x,.int .u64 (sgn neg)] w fun e' w'=>e'=.returned (.tuple #[.float .f64 r,v])∧Below w.heap.size w w') :
  Calls Tryz.prog 205 #[.string s] w fun e w'=>e=.returned (.tuple #[.float .f64 r,.int .i64 s.size,v])∧Below w.heap.size w w':=by
 have h3:=T.opt;have hm0:((m:Int)==0)=false:=beq_eq_false_iff_ne.2 (by omega);have HSP:=hid SP;have HRD:=hid RD;have HEX:=hid EX;have HPF:=hid PF;have HT:=hid T;clear SP RD EX PF T;cases neg;all_goals
  go_enter Tryz.func205,Tryz.ntmps205
  go_wp2_with (first
   | (go_at_call 233;refine(HSP.out _).mono ?_;rintro e w' ⟨rfl,rfl⟩)
   | (go_at_call 234;refine(HRD.out _).mono ?_;rintro e w' ⟨rfl,rfl⟩)
   | (go_at_call 242;((with_reducible refine(dL _).mono ?_);rintro e w' ⟨rfl,rfl⟩))
   | (go_at_call 242;((with_reducible refine(cO _).mono ?_);rintro e w' ⟨rfl,rfl⟩)))
  refine(HEX.out _ HT.out).mono ?_;rintro e w1 ⟨f,rfl,rfl⟩;go_wp2_with fail
  refine(HPF.out _ HT.out).mono ?_;rintro e w2 ⟨rfl,B2⟩;have HB2:=hid B2;clear B2;go_wp2
  go_ret3;exact⟨rfl,HB2.out⟩
theorem aGG (s:ByteArray)(m:Nat)(x:Int)(neg:Bool)(r r2:Nat)(v v2:Value)(w:World)(T:aC w)(SP:yU s)(RD:wN s m x neg true)(hm:m≠0)(hm2:m+1<18446744073709551616)(x1:-345≤x)(x2:x≤310)
  (PF:∀w,aC w→Calls Tryz.prog 245 #[.int .u64 m,.int .i64 x,.int .u64 (sgn neg)] w fun e' w'=>e'=.returned (.tuple #[.float .f64 r,v])∧Below w.heap.size w w')
  (PG:∀w,aC w→Calls Tryz.prog 245 #[.int .u64 (m+1:Nat),.int .i64 x,.int .u64 (sgn neg)] w fun e' w'=>e'=.returned (.tuple #[.float .f64 r2,v2])∧Below w.heap.size w w')
  (hq:(FloatKind.f64.format.order r r2==some .eq)=true) :
  Calls Tryz.prog 205 #[.string s] w fun e w'=>e=.returned (.tuple #[.float .f64 r,.int .i64 s.size,v])∧Below w.heap.size w w':=by
 have h3:=T.opt;have hm0:((m:Int)==0)=false:=beq_eq_false_iff_ne.2 (by omega);have HSP:=hid SP;have HRD:=hid RD;have HPF:=hid PF;have HPG:=hid PG;have HT:=hid T;clear SP RD PF PG T;cases neg;all_goals
  go_enter Tryz.func205,Tryz.ntmps205
  go_wp2_with (first
   | (go_at_call 233;refine(HSP.out _).mono ?_;rintro e w' ⟨rfl,rfl⟩)
   | (go_at_call 234;refine(HRD.out _).mono ?_;rintro e w' ⟨rfl,rfl⟩)
   | (go_at_call 242;((with_reducible refine(dL _).mono ?_);rintro e w' ⟨rfl,rfl⟩))
   | (go_at_call 242;((with_reducible refine(cO _).mono ?_);rintro e w' ⟨rfl,rfl⟩)))
  refine(HPF.out _ HT.out).mono ?_;rintro e w2 ⟨rfl,B2⟩;have HB2:=hid B2;have HT2:=hid (HT.out.below B2 rU);clear B2;go_wp2_with fail
  refine(HPG.out _ HT2.out).mono ?_;rintro e w3 ⟨rfl,B3⟩;have HB3:=hid (HB2.out.trans (B3.mono HB2.out.size));clear B3;go_wp2
  go_ret3;exact⟨rfl,HB3.out⟩
open Go.RowKit
def aBg:Dec.Dc:=⟨List.replicate 800 0,0,0,false,false⟩
theorem aJO:aBg.D.length=800:=List.length_replicate
def xI:Array Value:=(kK aBg).toArray
theorem aJ7 (m:Nat)(h:m<18446744073709551616):bits .and .u64 (m:Int) 4503599627370495=((m%4503599627370496:Nat):Int):=by
 have:=u64_and_nat m 4503599627370495 h (by omega);rw[show(4503599627370495:Nat)=2^52-1 from rfl,Nat.and_two_pow_sub_one_eq_mod]at this
 exact this
theorem aFE (m x:Nat)(neg:Bool)(hm:m<18446744073709551616)(hx:x<2048):jV m x neg=((sgn neg+(x*4503599627370496+m%4503599627370496):Nat):Int):=by
 have a1:=aJ7 m hm;have a2:bits .and .i64 (x:Int) 2047=x:=aBw x (by omega);have a3:IntKind.u64.wrap (IntKind.u64.wrap (x:Int)*4503599627370496)=((x*4503599627370496:Nat):Int):=by
  rw[dW,dW];omega
 have hf:m%4503599627370496<4503599627370496:=Nat.mod_lt _ (by decide);have a4:bits .or .u64 ((m%4503599627370496:Nat):Int) ((x*4503599627370496:Nat):Int)=((x*4503599627370496+m%4503599627370496:Nat):Int):=by
  have:=(aIb 0 (m%4503599627370496) x (.inl rfl) hf).resolve_right (by omega);rw[Nat.zero_add,Nat.zero_add]at this
  exact this
 unfold jV;rw[a1,a2,a3,a4];cases neg
 ·rw[if_neg (by decide)];simp[sgn]
 ·rw[if_pos rfl];have:=oR 9223372036854775808 (x*4503599627370496+m%4503599627370496) (.inr rfl) (by omega);rw[show bits .or .u64 ((x*4503599627370496+m%4503599627370496:Nat):Int) 9223372036854775808=bits .or .u64 ((9223372036854775808:Nat):Int) ((x*4503599627370496+m%4503599627370496:Nat):Int)from ?_,this]
  ·simp[sgn]
  ·have e1:=u64_or_nat (x*4503599627370496+m%4503599627370496) 9223372036854775808 (by omega) (by omega);have e2:=u64_or_nat 9223372036854775808 (x*4503599627370496+m%4503599627370496) (by omega) (by omega);rw[Nat.or_comm]at e1
   exact e1.trans e2.symm
theorem aKV (s:Dec.Dc):qH s<18446744073709551616:=by
 unfold qH;split
 ·omega
 ·split
  ·exact Nat.mod_lt _ (by decide)
  ·exact xL _ _
theorem aFk (m:Nat)(E:Int)(neg:Bool)(hm:m<18446744073709551616)(h1:-1022≤E)(h2:E+1023<2047):∃b,b<aX∧rX m E neg=(((sgn neg+b:Nat):Int),false):=by
 obtain⟨x,hx,hxe⟩:∃x:Nat,x<2047∧(if bits .and .u64 (m:Int) 4503599627370496==0 then 0 else E+1023)=(x:Int):=by
  split
  ·exact⟨0,by omega,rfl⟩
  ·exact⟨(E+1023).toNat,by omega,by omega⟩
 unfold rX;rw[hxe,aFE m x neg hm (by omega)];exact⟨_,by unfold aX;omega,rfl⟩
theorem aL8 (s:Dec.Dc)(E:Int)(neg:Bool)(h1:-1022≤E):(∃b,b<aX∧zX s E neg=(((sgn neg+b:Nat):Int),false))∨∃z:Int,zX s E neg=(z,true):=by
 unfold zX;split
 ·exact .inr ⟨_,rfl⟩
 ·split
  ·split
   ·exact .inr ⟨_,rfl⟩
   ·exact .inl (aFk _ _ _ (by omega) (by omega) (by omega))
  ·exact .inl (aFk _ _ _ (aKV _) h1 (by omega))
theorem aNW (s:Dec.Dc)(E:Int):-1022≤(upS s E).2:=by
 unfold upS;split
 ·exact Int.le_refl _
 ·omega
theorem aNT (r1 r2:Nat)(s:Dec.Dc):(∃b,b<aX∧fbF r1 r2 s=(((sgn s.neg+b:Nat):Int),false))∨∃z:Int,fbF r1 r2 s=(z,true):=aL8 _ _ _ (aNW _ _)
theorem aC.slow {w:World}(T:aC w)(o:Obj):nA (w.alloc o) w.heap.size:=by
 have hc:∀a v,w.cell? a=some v→(w.alloc o).cell? a=some v∧a.block≠w.heap.size:=fun a v hv=>by
  have:=World.block_lt_of_cell? w _ hv;exact⟨by rw[((Below.refl w.heap.size w).alloc rU o).cell this,hv],by omega⟩
 obtain⟨b,oo,h1,h2⟩:=T.cheats;obtain⟨b2,o2,h3,h4⟩:=T.p2;refine⟨⟨b,oo,(hc _ _ (h2 0 (by omega)).1).2,(hc _ _ h1).1,fun i hi=>?_⟩,⟨b2,o2,(hc _ _ (h4 0 (by omega))).2,(hc _ _ h3).1,fun i hi=>(hc _ _ (h4 i hi)).1⟩,(hc _ _ T.info0).1,(hc _ _ T.info1).1,(hc _ _ T.info2).1,?_⟩
 ·have:=h2 i hi;rw[show i*2=2*i by omega,show oo+2*i+1=oo+(2*i+1) by omega];exact⟨(hc _ _ this.1).1,(hc _ _ this.2).1⟩
 ·have:=T.size;omega
theorem aLY (w:World):aE (w.alloc (.cells xI 234)) w.heap.size aBg:=⟨heap_alloc_new w _,aJO⟩
theorem aDP:Tryz.zeroCells234=xI:=by kernel_rfl
theorem aIP (s:ByteArray)(m:Nat)(x:Int)(neg:Bool)(r r2:Nat)(v v2:Value)(w:World)(T:aC w)(SP:yU s)(RD:wN s m x neg true)(hm:m≠0)(hm2:m+1<18446744073709551616)(x1:-345≤x)(x2:x≤310)(_hs:s.size≤40)
  (PF:∀w,aC w→Calls Tryz.prog 245 #[.int .u64 m,.int .i64 x,.int .u64 (sgn neg)] w fun e' w'=>e'=.returned (.tuple #[.float .f64 r,v])∧Below w.heap.size w w')
  (PG:∀w,aC w→Calls Tryz.prog 245 #[.int .u64 (m+1:Nat),.int .i64 x,.int .u64 (sgn neg)] w fun e' w'=>e'=.returned (.tuple #[.float .f64 r2,v2])∧Below w.heap.size w w')
  (hq:(FloatKind.f64.format.order r r2==some .eq)=false) (D:Dec.Dc) (z:Int) (ov:Bool)
  (SF:∀w B,aE w B aBg→Calls Tryz.prog 240 #[.pointer (some ⟨B,0,none⟩),.string s] w fun e w'=>e=.returned (.bool true)∧aE w' B D∧aG (· = B) w w')
  (FB:∀w B,nA w B→aE w B D→Calls Tryz.prog 241 #[.pointer (some ⟨B,0,none⟩),.pointer (some ⟨8,0,none⟩)] w (wS B (z,ov) w)) :
  Calls Tryz.prog 205 #[.string s] w fun e w'=>e=.returned (.tuple #[.float .f64 z.toNat,.int .i64 s.size,if ov then .iface 158 (.int .i64 1)else .nilIface])∧Below w.heap.size w w':=by
 have h3:=T.opt;have d1:=lC;have hm0:((m:Int)==0)=false:=beq_eq_false_iff_ne.2 (by omega);have HSP:=hid SP;have HRD:=hid RD;have HPF:=hid PF;have HPG:=hid PG;have HSF:=hid SF;have HFB:=hid FB;have HT:=hid T;clear SP RD PF PG SF FB T;cases neg;all_goals
  go_enter Tryz.func205,Tryz.ntmps205
  go_wp2_with (first
   | (go_at_call 233;refine(HSP.out _).mono ?_;rintro e w' ⟨rfl,rfl⟩)
   | (go_at_call 234;refine(HRD.out _).mono ?_;rintro e w' ⟨rfl,rfl⟩)
   | (go_at_call 242;((with_reducible refine(dL _).mono ?_);rintro e w' ⟨rfl,rfl⟩))
   | (go_at_call 242;((with_reducible refine(cO _).mono ?_);rintro e w' ⟨rfl,rfl⟩)))
  refine(HPF.out _ HT.out).mono ?_;rintro e w2 ⟨rfl,B2⟩;have HB2:=hid B2;have HT2:=hid (HT.out.below B2 rU);clear B2;go_wp2_with fail
  refine(HPG.out _ HT2.out).mono ?_;rintro e w3 ⟨rfl,B3⟩;have HB3:=hid (HB2.out.trans (B3.mono HB2.out.size));have HT3:=hid (HT2.out.below B3 rU);clear B3;go_wp2_with fail
  rw[aDP];have D0:=aLY w3;have S0:=HT3.out.slow (.cells xI 234);obtain⟨W,hW⟩:∃W,w3.alloc (.cells xI 234)=W:=⟨_,rfl⟩
  have bW:Below w.heap.size w W:=by rw[←hW];exact HB3.out.alloc HB3.out.size _
  obtain⟨B,hB⟩:∃B,w3.heap.size=B:=⟨_,rfl⟩
  have hle:w.heap.size≤B:=by rw[←hB];exact HB3.out.size
  rw[hW,hB]at D0 S0
  rw[hW,hB];clear hW hB;refine(HSF.out _ _ D0).mono ?_;rintro e w4 ⟨rfl,D4,K4⟩;have S4:=S0.kept K4;have HD4:=hid D4;have HS4:=hid S4;have HK4:=hid K4;have HBW:=hid bW;clear D4 S4 K4 D0 S0 bW;go_wp2_with fail
  refine(HFB.out _ _ HS4.out HD4.out).mono ?_;rintro e w5 ⟨rfl,K5⟩;have HB5:Hid (Below w.heap.size w w5):=HBW.out.trans ((HK4.out.trans K5).below HBW.out.size (fun k _ e=>by omega));clear K5;cases ov
  ·go_wp2
   go_ret3;exact⟨rfl,HB5.out⟩
  ·go_wp2
   go_ret3;exact⟨rfl,HB5.out⟩
open Go.RowKit
theorem aN0 (D:Dec.Dc)(hF:Dec.Fine D)(hn:1≤D.nd)(p1:-330≤D.dp) :
  ∃(z:Int) (ov:Bool),(∀w B,nA w B→aE w B D→Calls Tryz.prog 241 #[.pointer (some ⟨B,0,none⟩),.pointer (some ⟨8,0,none⟩)] w (wS B (z,ov) w)) ∧
   (ov=false→∃b,b<aX∧z=((sgn D.neg+b:Nat):Int)):=by
 by_cases hbig:310<D.dp
 ·exact⟨_,true,fun w B T h=>aNU B D w T h hn hbig,fun h=>by cases h⟩
 ·obtain⟨d,r,e1,_,e3,e4,_⟩:=Dec.fine_cons hF hn;have ht:D.top<10:=by rw[e3];exact e4 d (by simp)
  obtain⟨r1,b1,E1⟩:=aOA _ D hF hn ht rU;obtain⟨q1,q2,q3,q4,q5,q6,q7,q8⟩:=aMq r1 D 0 E1 hF hn ht (by omega) (by omega) (Int.le_refl _);obtain⟨r2,b2,E2⟩:=aOx _ (fA r1 D 0).1 q1 q2 q3 rU;have FB:∀w B,nA w B→aE w B D→Calls Tryz.prog 241 #[.pointer (some ⟨B,0,none⟩),.pointer (some ⟨8,0,none⟩)] w (wS B (fbF r1 r2 D) w) :=
   fun w B T h=>aNL B r1 r2 D w T h hF hn ht p1 (by omega) E1 E2 (by omega) (by omega)
  rcases aNT r1 r2 D with⟨b,hb,e⟩|⟨z,e⟩
  ·rw[e]at FB
   exact⟨_,false,FB,fun _=>⟨b,hb,rfl⟩⟩
  ·rw[e]at FB
   exact⟨z,true,FB,fun h=>by cases h⟩
theorem aMX (K m:Nat)(h1:m<9007199254740992)(h2:¬ 2046≤K):0+min (K*4503599627370496+m) 9218868437227405312<aX:=by
 have h3:K*4503599627370496+m<9218868437227405312:=by omega
 rw[Nat.zero_add];exact Nat.lt_of_le_of_lt (Nat.min_le_left _ _) h3
theorem aGp (d i:Nat)(hd1:1≤d)(hd:d<18446744073709551616)(hi:i<696) :
  (∃b,b<aX∧nM d i=(b,.nilIface))∨∃b,nM d i=(b,.iface 158 (.int .i64 1)):=by
 obtain⟨b,hb,b1,b64,l1,l2⟩:=xR d hd1 hd;unfold nM;rw[hb];by_cases hfar:64≤gJ b i
 ·rw[if_pos hfar];exact .inl ⟨0,by unfold aX;omega,rfl⟩
 ·rw[if_neg hfar];obtain⟨s,hs⟩:∃s:Nat,gJ b i=s:=⟨(gJ b i).toNat,by
   obtain⟨p1,p2⟩:=aFI i hi;unfold gJ;omega⟩
  rw[hs,Int.toNat_natCast];obtain⟨q1,q2,q3⟩:=aAu d i b s _ hi b1 l1 l2 b64 hs rfl;obtain⟨m,hm⟩:∃m,bS (cD (cQ (d*2^(64-b)) (aN i) (aY i) s))=m:=⟨_,rfl⟩
  rw[hm]at q2 ⊢
  clear hm;obtain⟨K,hK0⟩:∃K,cA b i+gI (cQ (d*2^(64-b)) (aN i) (aY i) s)=K:=⟨_,rfl⟩
  rw[hK0];clear hK0 q3 q1;unfold mH tE;by_cases hK:2046≤K
  ·rw[if_pos hK];exact .inr ⟨_,rfl⟩
  ·rw[if_neg hK];exact .inl ⟨0+min (K*4503599627370496+m) 9218868437227405312,aMX K m q2 hK,rfl⟩
def aOL (s:ByteArray)(neg:Bool)(b:Nat):Prop:=b<aX∧∀w,aC w→Calls Tryz.prog 205 #[.string s] w fun e w'=>e=.returned (.tuple #[.float .f64 (sgn neg+b),.int .i64 s.size,.nilIface])∧Below w.heap.size w w'
def aOH (s:ByteArray)(r:Nat):Prop:=∀w,aC w→Calls Tryz.prog 205 #[.string s] w fun e w'=>e=.returned (.tuple #[.float .f64 r,.int .i64 s.size,.iface 158 (.int .i64 1)])∧Below w.heap.size w w'
def aGi (s:ByteArray):Prop:=(∃neg b,aOL s neg b)∨∃r,aOH s r
theorem gW {P:Ending→Prop}{p:FuncId}{args:Array Value}{w:World}(h:Calls Tryz.prog p args w fun e w'=>P e∧w=w'):Calls Tryz.prog p args w fun e w'=>P e∧Below w.heap.size w w' :=
 h.mono fun _ _ ⟨h1,h2⟩=>⟨h1,by rw[←h2];exact Below.refl _ _⟩
theorem aKv (s:ByteArray)(m:Nat)(x:Int)(neg tr:Bool)(hs:s.size≤40)(SP:yU s)(RD:wN s m x neg tr)(hm2:m+1<18446744073709551616)
  (D:Dec.Dc) (hF:Dec.Fine D) (hneg:D.neg=neg) (hD:m≠0→tr=true→1≤D.nd∧x+19=D.dp)
  (SF:∀w B,aE w B aBg→Calls Tryz.prog 240 #[.pointer (some ⟨B,0,none⟩),.string s] w fun e w'=>e=.returned (.bool true)∧aE w' B D∧aG (· = B) w w'):aGi s:=by
 by_cases hm:m=0
 ·subst hm;exact .inl ⟨neg,0,by unfold aX;omega,fun w T=>gW (aEV s x neg tr w T SP RD)⟩
 ·by_cases x2:310<x
  ·exact .inr ⟨_,fun w T=>gW (aIs s m x neg tr w T SP RD hm x2)⟩
  ·by_cases x1:x < -345
   ·exact .inl ⟨neg,0,by unfold aX;omega,fun w T=>gW (aIt s m x neg tr w T SP RD hm x1)⟩
   ·obtain⟨i,hi⟩:∃i:Nat,x=(i:Int)-348:=⟨(x+348).toNat,by omega⟩
    have i1:i<696:=by omega
    have PF:∀w,aC w→Calls Tryz.prog 245 #[.int .u64 m,.int .i64 x,.int .u64 (sgn neg)] w fun e' w'=>e'=.returned (.tuple #[.float .f64 (sgn neg+(nM m i).1),(nM m i).2])∧Below w.heap.size w w':=by
     intro w T;rw[hi];exact aEo m i (sgn neg) w T (yR neg) (by omega) (by omega) i1
    have ends:∀(A:∀w,aC w→Calls Tryz.prog 205 #[.string s] w fun e w'=>e=.returned (.tuple #[.float .f64 (sgn neg+(nM m i).1),.int .i64 s.size,(nM m i).2])∧Below w.heap.size w w'),aGi s:=by
     intro A;rcases aGp m i (by omega) (by omega) i1 with⟨b,hb,e⟩|⟨b,e⟩
     ·rw[e]at A
      exact .inl ⟨neg,b,hb,A⟩
     ·rw[e]at A
      exact .inr ⟨_,A⟩
    cases tr with
    | false =>
     rcases aGJ m i neg hm i1 with⟨r,hr,EX⟩|EX
     ·rw[←hi]at EX
      exact .inl ⟨neg,r,hr,fun w T=>gW (aGl s m x neg (sgn neg+r) w T hs hm (by omega) (by omega) SP RD EX)⟩
     ·rw[←hi]at EX
      exact ends fun w T=>aHW s m x neg _ _ w T SP RD hm (by omega) (by omega) EX PF
    | true =>
     have PG:∀w,aC w→Calls Tryz.prog 245 #[.int .u64 (m+1:Nat),.int .i64 x,.int .u64 (sgn neg)] w fun e' w'=>e'=.returned (.tuple #[.float .f64 (sgn neg+(nM (m+1) i).1),(nM (m+1) i).2])∧Below w.heap.size w w':=by
      intro w T;rw[hi];exact aEo (m+1) i (sgn neg) w T (yR neg) (by omega) (by omega) i1
     obtain⟨n1,n2⟩:=hD hm rfl;cases hq:FloatKind.f64.format.order (sgn neg+(nM m i).1) (sgn neg+(nM (m+1) i).1)==some .eq with
     | true=>exact ends fun w T=>aGG s m x neg _ _ _ _ w T SP RD hm hm2 (by omega) (by omega) PF PG hq
     | false =>
      obtain⟨z,ov,FB,hz⟩:=aN0 D hF n1 (by omega);have A:=fun w T=>aIP s m x neg _ _ _ _ w T SP RD hm hm2 (by omega) (by omega) hs PF PG hq D z ov SF FB
      cases ov with
      | true=>exact .inr ⟨_,A⟩
      | false =>
       obtain⟨b,hb,e⟩:=hz rfl;rw[hneg]at e
       rw[e]at A
       exact .inl ⟨neg,b,hb,A⟩
open Go.RowKit
theorem aH9 (s:ByteArray)(w:World)(T:aC w)(_hs:s.size≤40)
  (SP:∀w,Calls Tryz.prog 233 #[.string s] w fun e w'=>e=.returned (.tuple #[.float .f64 0,.int .i64 0,.bool false])∧w=w')
  (RD:∀w,Calls Tryz.prog 234 #[.string s] w fun e w'=>e=.returned (.tuple #[.int .u64 0,.int .i64 0,.bool false,.bool false,.bool false,.int .i64 s.size,.bool true])∧w=w') :
  Calls Tryz.prog 205 #[.string s] w fun e w'=>e=.returned (.tuple #[.float .f64 0,.int .i64 s.size,.nilIface])∧w=w':=by
 have h3:=T.opt;have d1:=lC;have HSP:=hid SP;have HRD:=hid RD;clear SP RD T;go_enter Tryz.func205,Tryz.ntmps205
 go_wp2_with (first
  | (go_at_call 233;refine(HSP.out _).mono ?_;rintro e w' ⟨rfl,rfl⟩)
  | (go_at_call 234;refine(HRD.out _).mono ?_;rintro e w' ⟨rfl,rfl⟩)
  | (go_at_call 242;((with_reducible refine(cO _).mono ?_);rintro e w' ⟨rfl,rfl⟩)))
 go_ret3;exact⟨rfl,rfl⟩
def s0:ByteArray:={ data:=#[48] }
theorem aOv (w:World):Calls Tryz.prog 234 #[.string s0] w fun e w'=>e=.returned (.tuple #[.int .u64 0,.int .i64 0,.bool false,.bool false,.bool false,.int .i64 s0.size,.bool true])∧w=w':=by
 have N:mI s0 0 1:=by
  refine⟨by decide,by decide,?_,?_,by kernel_rfl,fun h=>absurd h (by decide)⟩
  ·intro j h _ hj;match j,h,hj with
   | 0,_,_=>rfl
  ·intro j h _ hj;match j,h,hj with
   | 0,_,_=>intro e;exact absurd (show(48:UInt8)=46 from e) (by decide)
 have:=zN s0 false 0 1 w (by decide) ⟨by decide,.inl ⟨rfl,rfl,rfl,rfl⟩⟩ N 0 (.inl ⟨rfl,rfl⟩);have e:aR (aK s0 0 1)=⟨0,0,0,-1,false,true,false⟩:=by kernel_rfl
 rw[e]at this
 exact this
theorem aNk (w:World)(T:aC w):Calls Tryz.prog 21 #[.string s0] w fun e w'=>e=.returned (.tuple #[.float .f64 0,.bool true])∧w=w':=by
 refine aKy s0 0 w (by decide) (by kernel_rfl) (by kernel_rfl) ?_;intro w' hw;subst hw;exact aH9 s0 w T (by decide) (fun w=>pN s0 w (by decide) (by decide) (by decide) rfl rfl) aOv
theorem aOT (w:World)(T:aC w):Calls Tryz.prog 20 #[.string s0] w fun e w'=>e=.returned (.tuple #[.string s0,.bool true])∧Below w.heap.size w w':=by
 have P:=aNk;have Q:∀w,Calls Tryz.prog 63 #[.float .f64 0] w fun e w'=>e=.returned (.string s0)∧w=w':=fun w=>tW 0 w (by kernel_rfl) (by kernel_rfl) (by kernel_rfl)
 obtain⟨s,hs⟩:∃s,s=s0:=⟨_,rfl⟩
 rw[←hs]at P Q ⊢
 have HP:=hid P;have HQ:=hid Q;have HT:=hid T;clear P Q T hs;go_enter Tryz.func20,Tryz.ntmps20
 go_wp2_with fail
 refine(HP.out _ HT.out).mono ?_;rintro e w1 ⟨rfl,rfl⟩;go_wp2_with fail
 refine(HQ.out _).mono ?_;rintro e w2 ⟨rfl,rfl⟩;go_wp2
 go_ret2;exact⟨rfl,Below.refl _ _⟩
open Go.RowKit
theorem aIQ (s:ByteArray)(r:Nat)(w:World)(T:aC w)
  (A:∀w',aC w'→Calls Tryz.prog 205 #[.string s] w' fun e w2=>e=.returned (.tuple #[.float .f64 r,.int .i64 s.size,.iface 158 (.int .i64 1)])∧Below w'.heap.size w' w2) :
  Calls Tryz.prog 164 #[.string s,.int .i64 64] w fun e w'=>e=.returned (.tuple #[.float .f64 r,.int .i64 s.size,.iface 158 (.int .i64 1)])∧Below w.heap.size w w':=by
 have HA:=hid A;have HT:=hid T;clear A T;go_enter Tryz.func164,Tryz.ntmps164
 go_wp2_with fail
 refine(HA.out _ HT.out).mono ?_;rintro e w2 ⟨rfl,B2⟩;have HB:=hid B2;clear B2;go_wp2
 go_ret3;exact⟨rfl,HB.out⟩
theorem aNO (s:ByteArray)(r:Nat)(w:World)(T:aC w)
  (A:∀w',aC w'→Calls Tryz.prog 205 #[.string s] w' fun e w2=>e=.returned (.tuple #[.float .f64 r,.int .i64 s.size,.iface 158 (.int .i64 1)])∧Below w'.heap.size w' w2) :
  Calls Tryz.prog 119 #[.string s,.int .i64 64] w fun e w'=>e=.returned (.tuple #[.float .f64 r,.iface 158 (.int .i64 1)])∧Below w.heap.size w w':=by
 have HA:=hid A;have HT:=hid T;clear A T;go_enter Tryz.func119,Tryz.ntmps119
 go_wp2_with fail
 refine(aIQ s r _ HT.out HA.out).mono ?_;rintro e w2 ⟨rfl,B2⟩;have HB:=hid B2;clear B2;go_wp2
 go_ret2;exact⟨rfl,HB.out⟩
def aNb (r:Nat)(e:Ending):Prop:=∃t p,e=.returned (.tuple #[.float .f64 r,.iface t p])
theorem aNx (s:ByteArray)(hs:s.size≤1000)(r:Nat)(w:World)(T:aC w)
  (A:∀w',aC w'→Calls Tryz.prog 205 #[.string s] w' fun e w2=>e=.returned (.tuple #[.float .f64 r,.int .i64 s.size,.iface 158 (.int .i64 1)])∧Below w'.heap.size w' w2) :
  Calls Tryz.prog 66 #[.string s,.int .i64 64] w fun e w'=>aNb r e∧Below w.heap.size w w':=by
 have HA:=hid A;have HT:=hid T;clear A T;go_enter Tryz.func66,Tryz.ntmps66
 go_wp2_with fail
 refine(aNO s r _ HT.out HA.out).mono ?_;rintro e w2 ⟨rfl,B2⟩;have HB:=hid B2;have HT2:=hid (HT.out.below B2 rU);clear B2;go_wp2_with fail
 obtain⟨t2,v2,h2⟩:=HT2.out.rng;refine(Tryz.strconv_toError_range _ s _ _ _ _ (by omega) h2 (.inr ⟨_,_,rfl⟩)).mono ?_;rintro e w3 ⟨N,rfl,_,_,B3⟩;have HB3:=hid (HB.out.trans (B3.mono HB.out.size));clear B3;go_wp2
 go_ret2;exact⟨⟨_,_,rfl⟩,HB3.out⟩
theorem aMM (s:ByteArray)(r:Nat)(w:World)(T:aC w)(hs:s.size≤1000)(hn:iG s.data.toList=true)
  (A:∀w',aC w'→Calls Tryz.prog 205 #[.string s] w' fun e w2=>e=.returned (.tuple #[.float .f64 r,.int .i64 s.size,.iface 158 (.int .i64 1)])∧Below w'.heap.size w' w2) :
  Calls Tryz.prog 21 #[.string s] w fun e w'=>e=.returned (.tuple #[.float .f64 0,.bool false])∧Below w.heap.size w w':=by
 have NB:=fun w=>oJ s w (by unfold maxLen;omega)
 rw[hn]at NB
 have HA:=hid A;have HNB:=hid NB;have HT:=hid T;clear A NB hn T;go_enter Tryz.func21,Tryz.ntmps21
 go_wp2_with (go_at_call 65;refine(HNB.out _).mono ?_;rintro e w' ⟨rfl,rfl⟩)
 refine(aNx s hs r _ HT.out HA.out).mono ?_;rintro e w2 ⟨⟨t,p,rfl⟩,B2⟩;have HB:=hid B2;clear B2;go_wp2
 go_ret2;exact⟨rfl,HB.out⟩
theorem aDr (s:ByteArray)(w:World)(hs:s.size≤maxLen)(hn:iG s.data.toList=false) :
  Calls Tryz.prog 21 #[.string s] w fun e w'=>e=.returned (.tuple #[.float .f64 0,.bool false])∧w=w':=by
 have NB:=fun w=>oJ s w hs
 rw[hn]at NB
 have HNB:=hid NB;clear NB hn hs;go_enter Tryz.func21,Tryz.ntmps21
 go_wp2_with (go_at_call 65;refine(HNB.out _).mono ?_;rintro e w' ⟨rfl,rfl⟩)
 go_ret2;exact⟨rfl,rfl⟩
theorem aGP (s:ByteArray)(w:World)(T:aC w)
  (P:∀w,aC w→Calls Tryz.prog 21 #[.string s] w fun e w'=>e=.returned (.tuple #[.float .f64 0,.bool false])∧Below w.heap.size w w') :
  Calls Tryz.prog 20 #[.string s] w fun e w'=>e=.returned (.tuple #[.string ByteArray.empty,.bool false])∧Below w.heap.size w w':=by
 have HP:=hid P;have HT:=hid T;clear P T;go_enter Tryz.func20,Tryz.ntmps20
 go_wp2_with fail
 refine(HP.out _ HT.out).mono ?_;rintro e w1 ⟨rfl,B1⟩;have HB:=hid B1;clear B1;go_wp2
 go_ret2;exact⟨rfl,HB.out⟩
def aOn (s:ByteArray)(neg:Bool)(b:Nat):Prop:=b<aX∧∀w,aC w→Calls Tryz.prog 21 #[.string s] w fun e w'=>e=.returned (.tuple #[.float .f64 (sgn neg+b),.bool true])∧Below w.heap.size w w'
def aOI (s:ByteArray):Prop:=∀w,aC w→Calls Tryz.prog 21 #[.string s] w fun e w'=>e=.returned (.tuple #[.float .f64 0,.bool false])∧Below w.heap.size w w'
theorem aG2 (A:∀s:ByteArray,iG s.data.toList=true→aGi s)(s:ByteArray)(hs:s.size≤maxLen):(∃neg b,aOn s neg b)∨aOI s:=by
 cases hn:iG s.data.toList with
 | false=>exact .inr fun w _=>gW (aDr s w hs hn)
 | true =>
  have h40:s.size≤40:=by
   unfold iG at hn;split at hn
   ·cases hn
   ·rw[bF];omega
  rcases A s hn with⟨neg,b,hb,h⟩|⟨r,h⟩
  ·exact .inl ⟨neg,b,hb,fun w T=>aFl s _ w T hs hn (uQ neg b hb) h⟩
  ·exact .inr fun w T=>aMM s r w T (by omega) hn h
open Go.RowKit
theorem aBV {P:Program}{f:FuncId}{args:Array Value}{w:World}{A B:Value}{R1 R2:World→Prop}(hi:P.inits.idxOf? f=none)
  (h1:Calls P f args w fun e w'=>e=.returned A∧R1 w') (h2:Calls P f args w fun e w'=>e=.returned B∧R2 w'):A=B:=by
 obtain⟨e1,w1,f1,⟨rfl,_⟩,⟨n1,c1⟩,g1,l1⟩:=h1 [];obtain⟨e2,w2,f2,⟨rfl,_⟩,⟨n2,c2⟩,g2,l2⟩:=h2 [];have s1:=step_leave_done l1 (by rw[g1];exact hi);have s2:=step_leave_done l2 (by rw[g2];exact hi);have r1:∀k,runN P (n1+(k+1)) (lone (Frame.enter P f args .normal) [] w)=.ended (.done A) w1:=fun k=>by
  rw[runN_add,c1];simp only[runN,s1]
 have r2:∀k,runN P (n2+(k+1)) (lone (Frame.enter P f args .normal) [] w)=.ended (.done B) w2:=fun k=>by
  rw[runN_add,c2];simp only[runN,s2]
 have e:n1+(n2+1)=n2+(n1+1):=by omega
 have a:=r1 n2;rw[e,r2 n1]at a
 injection a with a _;injection a with a;exact a.symm
structure Prn (neg:Bool) (b:Nat) (t:ByteArray):Prop where
 sz:t.size≤25
 nought:b=0→t=s0
 pr:∀w,aC w→Calls Tryz.prog 63 #[.float .f64 (sgn neg+b)] w fun e w'=>e=.returned (.string t)∧Below w.heap.size w w'
 pa:1≤b→∀w,aC w→Calls Tryz.prog 21 #[.string t] w fun e w'=>e=.returned (.tuple #[.float .f64 (sgn neg+b),.bool true])∧Below w.heap.size w w'
 fx:∀w,aC w→Calls Tryz.prog 20 #[.string t] w fun e w'=>e=.returned (.tuple #[.string t,.bool true])∧Below w.heap.size w w'
theorem aMQ (neg:Bool)(b:Nat)(hb:b<aX):∃t,Prn neg b t:=by
 by_cases h0:b=0
 ·subst h0;refine⟨s0,by decide,fun _=>rfl,fun w T=>?_,fun h=>by omega,aOT⟩;cases neg
  ·exact gW (tW 0 w (by kernel_rfl) (by kernel_rfl) (by kernel_rfl))
  ·exact gW (tW 9223372036854775808 w (by kernel_rfl) (by kernel_rfl) (by kernel_rfl))
 ·obtain⟨d,q,j,_,t,_,h1,h2,h3,h4⟩:=aLd neg b (by omega) hb;exact⟨t,h1,fun h=>absurd h h0,h2,fun _=>h3,h4⟩
end Go.Proofs.YtcfgbdhpcboikaaGreatDoor
