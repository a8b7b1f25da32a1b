/-
What shortFloat computes: digits whose value is nearest to the float, and none coarser. No program in sight.
-/
import Derived.Test.YtcfgbdhpcboikaaGreatDoorNearT
namespace Go.Proofs.YtcfgbdhpcboikaaGreatDoor
set_option maxHeartbeats 2000000
set_option maxRecDepth 100000
structure aFw (dmin dmax dm:Nat):Prop where
 ne:dmin≤dmax
 mid:dmin<dmax→dmin≤dm∧dm≤dmax
 wide:dmax<dmin+10
theorem aJt (U V M dmin dmax dm:Nat)(h1:U≤V)(h2:V<10*U)
  (hmin:∀n,dmin≤n↔2*M*V≤2*n*U+V∧(M%2=1→2*M*V<2*n*U+V))
  (hmax:∀n,n≤dmax↔2*n*U≤(2*M+1)*V∧(M%2=1→2*n*U<(2*M+1)*V))
  (d1:2*M*V≤2*dm*U+U) (d2:2*dm*U≤2*M*V+U):aFw dmin dmax dm:=by
 have hU:0<U:=by omega
 have eM:(2*M+1)*V=2*M*V+V:=by rw[Nat.add_mul,Nat.one_mul]
 have inn:dmin≤dm∧dm≤dmax:=by
  rw[hmin,hmax,eM];rcases Nat.lt_or_ge U V with h|h
  ·exact⟨⟨by omega,fun _=>by omega⟩,by omega,fun _=>by omega⟩
  ·obtain rfl:U=V:=by omega
   exact⟨⟨by omega,fun _=>by
    have:2*M*U<2*(dm+1)*U:=by rw[Nat.mul_add 2,Nat.add_mul];omega
    have:=Nat.lt_of_mul_lt_mul_right this;have:2*M*U≤2*dm*U:=Nat.mul_le_mul_right _ (by omega);omega⟩,by omega,fun _=>by
    have:2*dm*U<2*(M+1)*U:=by rw[Nat.mul_add 2,Nat.add_mul];omega
    have:=Nat.lt_of_mul_lt_mul_right this;have:2*dm*U≤2*M*U:=Nat.mul_le_mul_right _ (by omega);omega⟩
 refine⟨by omega,fun _=>inn,?_⟩;have a:=((hmin dmin).1 (Nat.le_refl _)).1;have b:=((hmax dmax).1 (Nat.le_refl _)).1;rw[eM]at b
 have:2*dmax*U<2*(dmin+10)*U:=by rw[Nat.mul_add 2,Nat.add_mul];omega
 have:=Nat.lt_of_mul_lt_mul_right this;omega
theorem aIF (U V M dmin dmax dm:Nat)(h1:4*U≤3*V)(h2:3*V<40*U)
  (hmin:∀n,dmin≤n↔4*M*V≤4*n*U+V)
  (hmax:∀n,n≤dmax↔2*n*U≤(2*M+1)*V)
  (d1:2*M*V≤2*dm*U+U) (d2:2*dm*U≤2*M*V+U):aFw dmin dmax dm:=by
 have hU:0<U:=by omega
 have eM:(2*M+1)*V=2*M*V+V:=by rw[Nat.add_mul,Nat.one_mul]
 have e4:4*M*V=2*(2*M*V):=by rw[←Nat.mul_assoc,←Nat.mul_assoc]
 have e4n:∀n,4*n*U=2*(2*n*U):=fun n=>by rw[←Nat.mul_assoc,←Nat.mul_assoc]
 have ne:dmin≤dmax:=by
  rw[hmax,eM];rcases Nat.eq_zero_or_pos dmin with h|h
  ·rw[h];simp
  ·obtain⟨n,rfl⟩:∃n,dmin=n+1:=⟨dmin-1,by omega⟩
   have:¬n+1≤n:=by omega
   rw[hmin,e4n]at this
   have e:2*(n+1)*U=2*n*U+2*U:=by rw[Nat.mul_add 2,Nat.add_mul]
   omega
 refine⟨ne,fun hlt=>⟨?_,?_⟩,?_⟩
 ·refine Classical.byContradiction fun hn=>?_
  have h3:¬dmin≤dm:=hn;rw[hmin,e4n]at h3
  have b:=((hmax (dm+2)).1 (by omega))
  rw[eM,Nat.mul_add 2,Nat.add_mul]at b
  omega
 ·rw[hmax,eM];omega
 ·have a:=((hmin dmin).1 (Nat.le_refl _))
  have b:=((hmax dmax).1 (Nat.le_refl _))
  rw[eM]at b
  rw[e4n]at a
  have:2*dmax*U<2*(dmin+10)*U:=by rw[Nat.mul_add 2,Nat.add_mul];omega
  have:=Nat.lt_of_mul_lt_mul_right this;omega
theorem aGr (dmin dmax dm:Nat)(p:Int)(h:aFw dmin dmax dm)(h1:1≤dmin) :
  (∃d,bR dmin dmax dm p=(d,-(p-1))∧1≤d∧dmin≤10*d∧10*d≤dmax∧(∀n,dmin≤10*n→10*n≤dmax→n=d)) ∨
  (∃d,bR dmin dmax dm p=(d,-p)∧1≤d∧dmin≤d∧d≤dmax∧(∀n,dmin≤10*n→10*n≤dmax→False)):=by
 have w:=h.wide;have n1:=h.ne;unfold bR;by_cases c1:dmin≤dmax / 10*10
 ·rw[if_pos c1];exact .inl ⟨_,rfl,by omega,by omega,by omega,fun n a b=>by omega⟩
 ·rw[if_neg c1];by_cases c2:dmin<dmax
  ·rw[if_pos c2];obtain⟨m1,m2⟩:=h.mid c2;exact .inr ⟨_,rfl,by omega,m1,m2,fun n a b=>by omega⟩
  ·rw[if_neg c2];exact .inr ⟨_,rfl,by omega,by omega,by omega,fun n a b=>by omega⟩
def sU (i:Nat):Nat:=10^(348-i)*2^1074
def sV (k i:Nat):Nat:=2^k*10^(i-348)
theorem aD9 (i:Nat):0<sU i:=Nat.mul_pos (Nat.pow_pos (by decide)) (Nat.two_pow_pos 1074)
theorem mQ (Y j k i s z t:Nat)(e:Int)(hi:i<696)(hY:0<Y)(hx:Y*2^j<18446744073709551616)(hz:j+t=z)(he:e=(k:Int)-1074-z)(hs:-(e+lpI i+3)=s)(hj:7≤j)(h5:5≤s) :
  cQ (Y*2^j) (aN i) (aY i) s=unr (Y*sV k i) (sU i*2^t):=by
 have hN:qW (Y*2^j) (pmN i) s (iE i) (eK i):=by
  refine aEe _ i s hi (Nat.mul_pos hY (Nat.two_pow_pos _)) hx (.inl ⟨h5,?_⟩);have e:2^j=2^(j-7)*128:=by rw[show(128:Nat)=2^7 from rfl,←Nat.pow_add];congr 1;omega
  rw[e,←Nat.mul_assoc];exact Nat.mul_mod_left _ _
 rw[aBX _ i s e hi (Nat.mul_pos hY (Nat.two_pow_pos _)) hx hs hN];refine wK _ _ _ _ (Nat.mul_pos (Nat.pow_pos (by decide)) (Nat.two_pow_pos _)) (Nat.mul_pos (aD9 i) (Nat.two_pow_pos _)) ?_;unfold sU sV;have e1:2^j*2^e.toNat*2^1074*2^t=2^k*2^(-e).toNat:=by
  obtain ⟨zz, hzz⟩ : ∃ zz, 1074 = zz := ⟨_, rfl⟩
  rw [hzz]
  rw[←Nat.pow_add,←Nat.pow_add,←Nat.pow_add,←Nat.pow_add];congr 1;omega
 generalize (2:Nat)^1074=y at *
 generalize (2:Nat)^j=a1 at *
 generalize (2:Nat)^k=a2 at *
 generalize (2:Nat)^e.toNat=a3 at *
 generalize (2:Nat)^(-e).toNat=a4 at *
 generalize (2:Nat)^t=a5 at *
 generalize (10:Nat)^(i-348)=b1 at *
 generalize (10:Nat)^(348-i)=b2 at *
 calc Y*a1*b1*a3*(b2*y*a5)=Y*b1*b2*(a1*a3*y*a5):=by ac_rfl
  _=Y*b1*b2*(a2*a4):=by rw[e1]
  _=Y*(a2*b1)*(b2*a4):=by ac_rfl
theorem aFn (U V M umax odd dmax:Nat)(hU:0<U)(ho:M%2=odd)(hu:umax=unr ((2*M+1)*V) (U*2^1))(hb:odd≤umax)(hd:(umax-odd) / 4=dmax)(n:Nat) :
  n≤dmax↔2*n*U≤(2*M+1)*V∧(M%2=1→2*n*U<(2*M+1)*V):=by
 have g:=fun k=>jJ ((2*M+1)*V) (U*2^1) k (by omega)
 have l:=fun k=>iX ((2*M+1)*V) (U*2^1) k (by omega)
 rw[←hu]at g l
 generalize (2*M+1)*V=A at *
 have e:(2*n)*(U*2^1)=2*(2*n*U):=by rw[Nat.pow_one];ac_rfl
 have g2:=g (2*n);have l2:=l (2*n);rw[e]at g2 l2
 generalize 2*n*U=z at *
 have:odd=0∨odd=1:=by omega
 rcases this with rfl|rfl
 ·constructor
  ·intro h;exact⟨by have:=g2.1 (by omega);omega,fun h=>by omega⟩
  ·rintro⟨h,_⟩;have:=g2.2 (by omega);omega
 ·constructor
  ·intro h;have:¬umax≤2*(2*n):=by omega
   rw[l2]at this
   exact⟨by omega,fun _=>by omega⟩
  ·rintro⟨_,h⟩;have:=h ho;have:¬umax≤2*(2*n):=by rw[l2];omega
   omega
theorem aNd (U V M umin odd dmin:Nat)(hU:0<U)(hM:1≤M)(ho:M%2=odd)(hu:umin=unr ((2*M-1)*V) (U*2^1))(hd:(umin+odd+3) / 4=dmin)(n:Nat) :
  dmin≤n↔2*M*V≤2*n*U+V∧(M%2=1→2*M*V<2*n*U+V):=by
 have g:=fun k=>jJ ((2*M-1)*V) (U*2^1) k (by omega)
 have l:=fun k=>iX ((2*M-1)*V) (U*2^1) k (by omega)
 rw[←hu]at g l
 have eA:2*M*V=(2*M-1)*V+V:=by rw[←Nat.succ_mul];congr 1;omega
 rw[eA];generalize (2*M-1)*V=A at *
 have e:(2*n)*(U*2^1)=2*(2*n*U):=by rw[Nat.pow_one];ac_rfl
 have g2:=g (2*n);have l2:=l (2*n);rw[e]at g2 l2
 generalize 2*n*U=z at *
 have:odd=0∨odd=1:=by omega
 rcases this with rfl|rfl
 ·constructor
  ·intro h;exact⟨by have:=l2.1 (by omega);omega,fun h=>by omega⟩
  ·rintro⟨h,_⟩;have:=l2.2 (by omega);omega
 ·constructor
  ·intro h;have:¬ 2*(2*n)≤umin:=by omega
   rw[g2]at this
   exact⟨by omega,fun _=>by omega⟩
  ·rintro⟨_,h⟩;have:=h ho;have:¬ 2*(2*n)≤umin:=by rw[g2];omega
   omega
theorem aEn (U V M umin dmin:Nat)(hU:0<U)(hM:1≤M)(hu:umin=unr ((4*M-1)*V) (U*2^2))(hd:(umin+3) / 4=dmin)(n:Nat) :
  dmin≤n↔4*M*V≤4*n*U+V:=by
 have l:=fun k=>iX ((4*M-1)*V) (U*2^2) k (by omega)
 rw[←hu]at l
 have eA:4*M*V=(4*M-1)*V+V:=by rw[←Nat.succ_mul];congr 1;omega
 rw[eA];generalize (4*M-1)*V=A at *
 have e:(2*n)*(U*2^2)=2*(4*n*U):=by rw[show(2:Nat)^2=4 from rfl];ac_rfl
 have l2:=l (2*n);rw[e]at l2
 generalize 4*n*U=z at *
 constructor
 ·intro h;have:=l2.1 (by omega);omega
 ·intro h;have:=l2.2 (by omega);omega
def iR (k:Nat):Nat:=(348-((k:Int)-1074)*78913 / 262144).toNat
def iS (k:Nat):Nat:=(348-(((k:Int)-1074)*631305-261663) / 2097152).toNat
def aCW (k:Nat):Prop:=iR k≤672∧(iR k:Int)-348=-(((k:Int)-1074)*78913 / 262144)∧sU (iR k)≤sV k (iR k)∧sV k (iR k)<10*sU (iR k)∧5≤1082-(k:Int)-lpI (iR k)∧1082-(k:Int)-lpI (iR k)≤15∧56≤iR k
def aAa (k:Nat):Prop:=iS k≤672∧(iS k:Int)-348=-((((k:Int)-1074)*631305-261663) / 2097152)∧4*sU (iS k)≤3*sV k (iS k)∧3*sV k (iS k)<40*sU (iS k)∧5≤1082-(k:Int)-lpI (iS k)∧1082-(k:Int)-lpI (iS k)≤15∧56≤iS k
instance (k:Nat):Decidable (aCW k):=by unfold aCW;exact inferInstance
instance (k:Nat):Decidable (aAa k):=by unfold aAa;exact inferInstance
theorem aMY:((List.range 2046).all fun k=>decide (aCW k))=true:=by kernel_rfl
theorem aKu:((List.range 2046).all fun k=>decide (aAa k))=true:=by kernel_rfl
theorem aEb (k:Nat)(h:k<2046):aCW k:=of_decide_eq_true (List.all_eq_true.1 aMY k (List.mem_range.2 h))
theorem aFp (k:Nat)(h:k<2046):aAa k:=of_decide_eq_true (List.all_eq_true.1 aKu k (List.mem_range.2 h))
theorem aOo:lpI (iR 0)=1076:=by kernel_rfl
theorem aCk (M p:Nat):M*p+(M*p+p)=(2*M+1)*p:=by rw[Nat.add_mul,Nat.one_mul,Nat.mul_assoc];omega
theorem aOG (n y z:Nat):2*(n*y*z)=2*n*(y*z):=by ac_rfl
theorem aE3 (n i:Nat)(hi:i≤696):2*bY n (696-i)=2*n*sU i:=by
 unfold bY sU;rw[show 696-i-348=348-i by omega];exact aOG _ _ _
theorem aNr (M k i n:Nat)(hi:i≤696)(hM:1≤M)(hm:M<9007199254740992)(hk:4503599627370496<M∨k=0)(hr:k*4503599627370496+M<aX) :
  cY (bY n (696-i)) (aO (696-i)) (k*4503599627370496+M)↔(2*M*sV k i≤2*n*sU i+sV k i∧(M%2=1→2*M*sV k i<2*n*sU i+sV k i))∧(2*n*sU i≤(2*M+1)*sV k i∧(M%2=1→2*n*sU i<(2*M+1)*sV k i)):=by
 have eA:=aE3 n i hi;have eB:aO (696-i)=10^(i-348):=by unfold aO;rw[show 348-(696-i)=i-348 by omega]
 have hv:=nY k M hm (by omega);have hu:=oV k M hm (by omega);have hs:=kS (k*4503599627370496+M);rw[hv,hu]at hs
 have hq:∀q,k*4503599627370496+M=q+1→bK q+bK (k*4503599627370496+M)+2^k=2*M*2^k:=by
  intro q hq;have hs':=kS q;have hu':ulp q=2^k:=by
   rw[show q=k*4503599627370496+(M-1) by omega];exact oV k (M-1) (by omega) (by omega)
  rw[←hq,hv,hu']at hs'
  rw[hv,Nat.mul_assoc];omega
 obtain⟨q0,hq0⟩:∃q,k*4503599627370496+M=q+1:=⟨k*4503599627370496+M-1,by omega⟩
 have e1:(bK q0+bK (k*4503599627370496+M))*10^(i-348)+sV k i=2*M*sV k i:=by
  unfold sV;rw[←Nat.mul_assoc,←Nat.add_mul,hq q0 hq0]
 have e2:(bK (k*4503599627370496+M)+bK (k*4503599627370496+M+1))*10^(i-348)=(2*M+1)*sV k i:=by
  unfold sV;rw[←Nat.mul_assoc,hs,hv,aCk]
 have hpar:(k*4503599627370496+M)%2=M%2:=by omega
 constructor
 ·intro h;have a:=h.lo q0 hq0;have b:=h.hi hr;rw[eA,eB]at a b
  rw[e2]at b
  rw[hpar]at a b
  refine⟨⟨by omega,fun g=>by have:=a.2 g;omega⟩,b⟩
 ·rintro⟨a,b⟩;refine⟨Nat.le_of_lt hr,fun q hq'=>?_,fun _=>?_⟩
  ·obtain rfl:q=q0:=by omega
   rw[eA,eB,hpar];exact⟨by omega,fun g=>by have:=a.2 g;omega⟩
  ·rw[eA,eB,hpar,e2];exact b
theorem aMs (M k i n:Nat)(hi:i≤696)(hk:1≤k)(hM:M=4503599627370496)(hr:k*4503599627370496+M<aX) :
  cY (bY n (696-i)) (aO (696-i)) (k*4503599627370496+M)↔(4*M*sV k i≤4*n*sU i+sV k i)∧(2*n*sU i≤(2*M+1)*sV k i):=by
 have eA:=aE3 n i hi;have eB:aO (696-i)=10^(i-348):=by unfold aO;rw[show 348-(696-i)=i-348 by omega]
 have hm:M<9007199254740992:=by omega
 have hv:=nY k M hm (by omega);have hu:=oV k M hm (by omega);have hs:=kS (k*4503599627370496+M);rw[hv,hu]at hs
 obtain⟨j,hj⟩:∃j,k=j+1:=⟨k-1,by omega⟩
 have hq:∀q,k*4503599627370496+M=q+1→2*(bK q+bK (k*4503599627370496+M))+2^k=4*M*2^k:=by
  intro q hq;have hs':=kS q;have hu':ulp q=2^j:=by
   rw[show q=j*4503599627370496+9007199254740991 by omega];exact oV j _ (by omega) (by omega)
  rw[←hq,hv,hu']at hs'
  have e2:2^k=2*2^j:=by rw[hj,Nat.pow_succ,Nat.mul_comm]
  rw[hv,Nat.mul_assoc 4];omega
 have ev:M%2=0:=by omega
 obtain⟨q0,hq0⟩:∃q,k*4503599627370496+M=q+1:=⟨k*4503599627370496+M-1,by omega⟩
 have e1:2*((bK q0+bK (k*4503599627370496+M))*10^(i-348))+sV k i=4*M*sV k i:=by
  unfold sV;rw[←Nat.mul_assoc 2,←Nat.mul_assoc (4*M),←Nat.add_mul,hq q0 hq0]
 have e2:(bK (k*4503599627370496+M)+bK (k*4503599627370496+M+1))*10^(i-348)=(2*M+1)*sV k i:=by
  unfold sV;rw[←Nat.mul_assoc,hs,hv,aCk]
 have e4:4*n*sU i=2*(2*n*sU i):=by rw[←Nat.mul_assoc,←Nat.mul_assoc]
 have hpar:(k*4503599627370496+M)%2=0:=by omega
 rw[e4];constructor
 ·intro h;have a:=h.lo q0 hq0;have b:=h.hi hr;rw[eA,eB]at a b
  rw[e2]at b
  exact⟨by omega,b.1⟩
 ·rintro⟨a,b⟩;refine⟨Nat.le_of_lt hr,fun q hq'=>?_,fun _=>?_⟩
  ·obtain rfl:q=q0:=by omega
   rw[eA,eB,hpar];exact⟨by omega,fun g=>by omega⟩
  ·rw[eA,eB,hpar,e2];exact⟨b,fun g=>by omega⟩
structure lF (r d:Nat) (q:Int) (j:Nat):Prop where
 idx:(j:Int)=q+348
 j1:24≤j
 j2:j≤641
 pos:1≤d
 lt:d<100000000000000000
 rn:cY (bY d j) (aO j) r
 coarse:∀n,cY (bY n (j+1)) (aO (j+1)) r→10*n=d
 near:∀n,cY (bY n j) (aO j) r→n<d+10
theorem aIL (n a z:Nat):n*(a*10)*z*1=10*n*a*z*1:=by ac_rfl
theorem aGS (n b z:Nat):n*1*z*(b*10)=10*n*1*z*b:=by ac_rfl
theorem oC (n j r:Nat):cY (bY n (j+1)) (aO (j+1)) r↔cY (bY (10*n) j) (aO j) r:=by
 have e:bY n (j+1)*aO j=bY (10*n) j*aO (j+1):=by
  unfold bY aO;by_cases h:348≤j
  ·rw[show j+1-348=j-348+1 by omega,show 348-j=0 by omega,show 348-(j+1)=0 by omega,Nat.pow_succ,Nat.pow_zero];exact aIL _ _ _
  ·rw[show j+1-348=0 by omega,show j-348=0 by omega,show 348-j=348-(j+1)+1 by omega,Nat.pow_succ 10 (348 - (j + 1)),Nat.pow_zero];exact aGS _ _ _
 exact⟨fQ _ _ _ _ _ (dD _) (dD _) e,fQ _ _ _ _ _ (dD _) (dD _) e.symm⟩
theorem aDU (r i dmin dmax dm:Nat)(hi:56≤i)(hi2:i≤672)(hp:aFw dmin dmax dm)(h1:1≤dmin)(hmax:dmax<100000000000000000)
  (hrn:∀n,cY (bY n (696-i)) (aO (696-i)) r↔dmin≤n∧n≤dmax) :
  ∃d q j,bR dmin dmax dm ((i:Int)-348)=(d,q)∧lF r d q j:=by
 have w:=hp.wide;rcases aGr dmin dmax dm ((i:Int)-348) hp h1 with⟨d,e,a1,a2,a3,a4⟩|⟨d,e,a1,a2,a3,a4⟩
 ·refine⟨d,_,697-i,e,by omega,by omega,by omega,a1,by omega,?_,fun n h=>?_,fun n h=>?_⟩
  ·rw[show 697-i=696-i+1 by omega,oC,hrn];exact⟨a2,a3⟩
  ·rw[oC,show 697-i=696-i+1 by omega,oC,hrn]at h
   exact a4 _ h.1 h.2
  ·rw[show 697-i=696-i+1 by omega,oC,hrn]at h
   have:=a4 n h.1 h.2;omega
 ·refine⟨d,_,696-i,e,by omega,by omega,by omega,a1,by omega,?_,fun n h=>?_,fun n h=>?_⟩
  ·rw[hrn];exact⟨a2,a3⟩
  ·rw[oC,hrn]at h
   exact(a4 n h.1 h.2).elim
  ·rw[hrn]at h
   omega
theorem aEa (u:Nat)(odd:Nat)(h:u<9223372036854775808)(ho:odd≤1):pR (eW u odd)=(u+odd+3) / 4:=by
 unfold pR eW;omega
theorem aAJ (u:Nat)(odd:Nat)(h:u<9223372036854775808)(ho:odd≤u):eW u (-(odd:Int))=u-odd:=by
 unfold eW;omega
theorem pQ (u:Nat)(h:u<9223372036854775808):jL u=bS u:=by
 unfold jL bS;omega
theorem mS (Y U V t:Nat)(hU:0<U)(hV:V<20*U)(hY:Y<36028797018963968):unr (Y*V) (U*2^t)<9223372036854775808:=by
 have hp:=Nat.two_pow_pos t;have:unr (Y*V) (U*2^t)≤2*(40*Y):=by
  rw[iX _ _ _ (Nat.mul_pos hU hp)];have a:Y*V≤Y*(20*U):=Nat.mul_le_mul_left _ (by omega);have b:Y*(20*U)*1≤Y*(20*U)*2^t:=Nat.mul_le_mul_left _ hp;have e:40*Y*(U*2^t)=2*(Y*(20*U)*2^t):=by
   generalize 2^t=p;rw[show 40*Y*(U*p)=2*(20*(Y*(U*p))) by rw[Nat.mul_assoc 40];omega];congr 1;ac_rfl
  omega
 omega
theorem aJS (M z:Nat)(hz:1≤z):M*2^z-2^(z-1)=(2*M-1)*2^(z-1)∧M*2^z+2^(z-1)=(2*M+1)*2^(z-1):=by
 have e:M*2^z=2*M*2^(z-1):=by
  rw[show 2^z=2*2^(z-1) by rw[Nat.mul_comm,←Nat.pow_succ];congr 1;omega];ac_rfl
 rw[e,Nat.sub_mul,Nat.add_mul,Nat.one_mul];exact⟨rfl,rfl⟩
theorem aCv (M k z i s odd umin umax um:Nat)(e:Int)(hk:k<2046)(hM:1≤M)(hm:M<9007199254740992)(hkM:4503599627370496<M∨k=0)(hz:11≤z)(hx:M*2^z<18446744073709551616)
  (hr:k*4503599627370496+M<aX) (hi:i=iR k) (he:e=(k:Int)-1074-z) (hs:-(e+lpI i+3)=s) (ho:M%2=odd)
  (h1:cQ (M*2^z-2^(z-1)) (aN i) (aY i) s=umin) (h2:cQ (M*2^z+2^(z-1)) (aN i) (aY i) s=umax) (h3:cQ (M*2^z) (aN i) (aY i) s=um) :
  ∃d q j,bR (pR (eW umin odd)) (eW umax (-(odd:Int)) / 4) (jL um) ((i:Int)-348)=(d,q)∧lF (k*4503599627370496+M) d q j:=by
 obtain⟨r1,r2,r3,r4,r5,r6,r7⟩:=aEb k hk;rw[←hi]at r1 r2 r3 r4 r5 r6 r7
 have h5:5≤s:=by omega
 have hU:=aD9 i;obtain⟨p1,p2⟩:=aJS M z (by omega);have hzp:2^z=2*2^(z-1):=by rw[Nat.mul_comm,←Nat.pow_succ];congr 1;omega
 have hsm:M*2^z+2^(z-1)<18446744073709551616:=by
  have hz64:z<64:=by
   refine Nat.lt_of_not_le fun h=>?_
   have a:2^64≤2^z:=Nat.pow_le_pow_right (by decide) h;have b:1*2^z≤M*2^z:=Nat.mul_le_mul_right _ hM;have c:(2:Nat)^64=18446744073709551616:=by decide
   omega
  have e64:18446744073709551616=2^(64-z)*2^z:=by rw[←Nat.pow_add,show 64-z+z=64 by omega]
  rw[e64]at hx
  have:=Nat.lt_of_mul_lt_mul_right hx;have:(M+1)*2^z≤2^(64-z)*2^z:=Nat.mul_le_mul_right _ this;rw[←e64,Nat.add_mul]at this
  have:=Nat.two_pow_pos (z-1);omega
 have u1:=mQ (2*M-1) (z-1) k i s z 1 e (by omega) (by omega) (by rw[←p1];omega) (by omega) he hs (by omega) h5;have u2:=mQ (2*M+1) (z-1) k i s z 1 e (by omega) (by omega) (by rw[←p2];omega) (by omega) he hs (by omega) h5;have u3:=mQ M z k i s z 0 e (by omega) hM hx (by omega) he hs (by omega) h5;rw[←p1,h1]at u1
 rw[←p2,h2]at u2
 rw[h3]at u3
 have b1:umin<9223372036854775808:=by rw[u1];exact mS _ _ _ _ hU (by omega) (by omega)
 have b2:umax<9223372036854775808:=by rw[u2];exact mS _ _ _ _ hU (by omega) (by omega)
 have b3:um<9223372036854775808:=by rw[u3];exact mS _ _ _ _ hU (by omega) (by omega)
 have o1:odd≤1:=by omega
 have o2:odd≤umax:=by
  have:2*1≤umax:=by
   rw[u2,jJ _ _ _ (by omega)];have:1*sV k i≤(2*M+1)*sV k i:=Nat.mul_le_mul_right _ (by omega);omega
  omega
 rw[aEa umin odd b1 o1,aAJ umax odd b2 o2,pQ um b3];have m1:=aFn (sU i) (sV k i) M umax odd _ hU ho u2 o2 rfl;have m2:=aNd (sU i) (sV k i) M umin odd _ hU hM ho u1 rfl;rw[Nat.pow_zero,Nat.mul_one]at u3
 obtain⟨⟨q1,_⟩,q2,_⟩:=rV (M*sV k i) (sU i) _ hU (show bS (unr (M*sV k i) (sU i))=bS um by rw[←u3]);have eMV:2*(M*sV k i)=2*M*sV k i:=by rw[Nat.mul_assoc]
 rw[eMV]at q1 q2
 have eU:(2*bS um+1)*sU i=2*bS um*sU i+sU i:=by rw[Nat.add_mul,Nat.one_mul]
 rw[eU]at q1
 refine aDU _ i _ _ _ r7 r1 (aJt (sU i) (sV k i) M _ _ _ r3 r4 m2 m1 q1 q2) ?_ ?_ (fun n=>?_)
 ·refine Nat.lt_of_not_le fun h=>?_
  have:=((m2 0).1 h).1;have:2*sV k i≤2*M*sV k i:=Nat.mul_le_mul_right _ (by omega);omega
 ·have:=((m1 _).1 (Nat.le_refl ((umax-odd) / 4))).1;have a:(2*M+1)*sV k i≤(2*M+1)*(10*sU i):=Nat.mul_le_mul_left _ (by omega);have:2*((umax-odd) / 4)*sU i≤10*(2*M+1)*sU i:=by
   rw[show 10*(2*M+1)*sU i=(2*M+1)*(10*sU i) by rw[Nat.mul_comm 10,Nat.mul_assoc]];omega
  have:=Nat.le_of_mul_le_mul_right this hU;omega
 ·rw[aNr M k i n (by omega) hM hm hkM hr,m2,m1]
theorem aGs (M k i s umin umax um:Nat)(e:Int)(hk:k<2046)(hk1:1≤k)(hM:M=4503599627370496)(hr:k*4503599627370496+M<aX)(hi:i=iS k)(he:e=(k:Int)-1074-11)(hs:-(e+lpI i+3)=s)
  (h1:cQ (9223372036854775808-512) (aN i) (aY i) s=umin) (h2:cQ (9223372036854775808+1024) (aN i) (aY i) s=umax) (h3:cQ 9223372036854775808 (aN i) (aY i) s=um) :
  ∃d q j,bR (pR (eW umin (0:Nat))) (eW umax (-((0:Nat):Int)) / 4) (jL um) ((i:Int)-348)=(d,q)∧lF (k*4503599627370496+M) d q j:=by
 obtain⟨r1,r2,r3,r4,r5,r6,r7⟩:=aFp k hk;rw[←hi]at r1 r2 r3 r4 r5 r6 r7
 have h5:5≤s:=by omega
 have hU:=aD9 i;have u1:=mQ (4*M-1) 9 k i s 11 2 e (by omega) (by omega) (by rw[hM];decide) (by omega) he hs (by omega) h5;have u2:=mQ (2*M+1) 10 k i s 11 1 e (by omega) (by omega) (by rw[hM];decide) (by omega) he hs (by omega) h5;have u3:=mQ M 11 k i s 11 0 e (by omega) (by omega) (by rw[hM];decide) (by omega) he hs (by omega) h5;have p1:(4*M-1)*2^9=9223372036854775808-512:=by rw[hM]
 have p2:(2*M+1)*2^10=9223372036854775808+1024:=by rw[hM]
 have p3:M*2^11=9223372036854775808:=by rw[hM]
 rw[p1,h1]at u1
 rw[p2,h2]at u2
 rw[p3,h3]at u3
 have b1:umin<9223372036854775808:=by rw[u1];exact mS _ _ _ _ hU (by omega) (by omega)
 have b2:umax<9223372036854775808:=by rw[u2];exact mS _ _ _ _ hU (by omega) (by omega)
 have b3:um<9223372036854775808:=by rw[u3];exact mS _ _ _ _ hU (by omega) (by omega)
 rw[aEa umin 0 b1 (by omega),aAJ umax 0 b2 (by omega),pQ um b3];have m1:=aFn (sU i) (sV k i) M umax 0 _ hU (by omega) u2 (by omega) rfl;have m2:=aEn (sU i) (sV k i) M umin ((umin+0+3) / 4) hU (by omega) u1 rfl;have m1':∀n,n≤(umax-0) / 4↔2*n*sU i≤(2*M+1)*sV k i:=fun n=>by
  rw[m1];exact⟨fun h=>h.1,fun h=>⟨h,fun g=>by omega⟩⟩
 rw[Nat.pow_zero,Nat.mul_one]at u3
 obtain⟨⟨q1,_⟩,q2,_⟩:=rV (M*sV k i) (sU i) _ hU (show bS (unr (M*sV k i) (sU i))=bS um by rw[←u3]);have eMV:2*(M*sV k i)=2*M*sV k i:=by rw[Nat.mul_assoc]
 rw[eMV]at q1 q2
 have eU:(2*bS um+1)*sU i=2*bS um*sU i+sU i:=by rw[Nat.add_mul,Nat.one_mul]
 rw[eU]at q1
 refine aDU _ i _ _ _ r7 r1 (aIF (sU i) (sV k i) M _ _ _ r3 r4 m2 m1' q1 q2) ?_ ?_ (fun n=>?_)
 ·refine Nat.lt_of_not_le fun h=>?_
  have:=((m2 0).1 h)
  have:4*sV k i≤4*M*sV k i:=Nat.mul_le_mul_right _ (by omega);omega
 ·have:=((m1' _).1 (Nat.le_refl ((umax-0) / 4)))
  have a:(2*M+1)*sV k i≤(2*M+1)*(14*sU i):=Nat.mul_le_mul_left _ (by omega);have:2*((umax-0) / 4)*sU i≤14*(2*M+1)*sU i:=by
   rw[show 14*(2*M+1)*sU i=(2*M+1)*(14*sU i) by rw[Nat.mul_comm 14,Nat.mul_assoc]];omega
  have:=Nat.le_of_mul_le_mul_right this hU;omega
 ·rw[aMs M k i n (by omega) hk1 hM hr,m2,m1']
open Go.RowKit
theorem xR (d:Nat)(h1:1≤d)(h2:d<18446744073709551616):∃b,Lib.bitLen d=b∧1≤b∧b≤64∧2^(b-1)≤d∧d<2^b:=by
 obtain⟨g1,g2,g3⟩:=Lib.bitLenAux_bounds 64 d (by omega) (by omega);have e1:Lib.bitLen d=Lib.bitLenAux 64 d:=rfl;rw[e1];generalize Lib.bitLenAux 64 d=L at *
 refine⟨L,rfl,?_,?_,by omega,by omega⟩
 ·refine Nat.pos_of_ne_zero fun h=>?_
  subst h;simp at g2;omega
 ·refine Nat.le_of_not_lt fun h=>?_
  have:2^64≤2^(L-1):=Nat.pow_le_pow_right (by decide) (by omega);have e64:(2:Nat)^64=18446744073709551616:=by decide
  omega
theorem aFI (i:Nat)(hi:i<696):-1200≤lpI i∧lpI i≤1200:=by unfold lpI;omega
theorem aLl (b i u:Nat):(((cA b i+gI u:Nat):Int)-1074)=-(min 1074 (53-(b:Int)-lpI i)-gI u):=by
 unfold cA;generalize gI u=c;generalize lpI i=l;omega
theorem aHg (S K m r:Nat)(e:Ending)(hp:pH S K m e)(er:min (K*4503599627370496+m) aX=r)(hrI:r<aX)(h:4503599627370496≤m∨K=0):e=.returned (.tuple #[.float .f64 (S+r),.nilIface]):=by
 have ei:aX=9218868437227405312:=rfl;rw[ei]at er hrI
 unfold pH mH tE at hp;rw[er]at hp
 rw[hp,if_neg];omega
theorem aHl (d i r S:Nat)(w:World)(T:aC w)(hS:fK S)(hd1:1≤d)(hd:d<18446744073709551616)(hi:i<696)(hg:d<144115188075855872∨(348≤i∧i≤375))(hr:cY (bY d i) (aO i) r)(hrI:r<aX) :
  Calls Tryz.prog 245 #[.int .u64 d,.int .i64 ((i:Int)-348),.int .u64 S] w fun e' w'=>e'=.returned (.tuple #[.float .f64 (S+r),.nilIface])∧Below w.heap.size w w':=by
 obtain⟨b,hb,b1,b64,l1,l2⟩:=xR d hd1 hd;have hB:=dD i;obtain⟨p1,p2⟩:=aFI i hi;have hlp:((i:Int)-348)*108853 / 32768=lpI i:=rfl;obtain⟨s,hs⟩:∃s:Nat,gJ b i=s:=⟨(gJ b i).toNat,by unfold gJ;omega⟩
 have hs':-(min 1074 (53-(b:Int)-lpI i)-(64-(b:Int))+lpI i+3)=s:=hs;by_cases hfar:64≤s
 ·have h0:=aHZ d i b hi l2 (by omega);have:r=0:=qM _ _ _ _ hB hr h0;subst this;exact aAl d i b S s (lpI i) _ w T hS hd hb b64 hi hlp rfl hs' hfar
 ·have hb57:b≤57∨(348≤i∧i≤375):=by
   rcases hg with h|h
   ·left;refine Nat.le_of_not_lt fun hh=>?_
    have:2^57≤2^(b-1):=Nat.pow_le_pow_right (by decide) (by omega);have e57:(2:Nat)^57=144115188075855872:=by decide
    omega
   ·exact .inr h
  have hN:=aEt d i b s hi hd1 l2 b64 hs hb57;obtain⟨u,hu⟩:∃u,cQ (d*2^(64-b)) (aN i) (aY i) s=u:=⟨_,rfl⟩
  obtain⟨q1,q2,q3,q4⟩:=aKh d i b hi b1 l1 l2 b64 s hs hN u hu;have hx2:d*2^(64-b)<18446744073709551616:=by
   have:d*2^(64-b)<2^b*2^(64-b):=Nat.mul_lt_mul_of_pos_right l2 (Nat.two_pow_pos _);rw[←Nat.pow_add,show b+(64-b)=64 by omega]at this
   exact this
  have hk:(((cA b i+gI u:Nat):Int)-1074)=-(min 1074 (53-(b:Int)-lpI i)-gI u):=aLl b i u;have hr4:jL (cD u)=bS (cD u):=pQ _ (by have:=aBC u;omega);obtain⟨K,hK⟩:∃K,cA b i+gI u=K:=⟨_,rfl⟩
  obtain⟨m,hm⟩:∃m,bS (cD u)=m:=⟨_,rfl⟩
  rw[hm]at q2 q3 q4 hr4
  rw[hK]at q3 q4 hk
  have er:=qM _ _ _ _ hB q4 hr;have u63:u<9223372036854775808:=Nat.lt_trans q1 (by decide);have s64:s<64:=Nat.lt_of_not_le hfar;refine(yB d i b S s u K m _ (lpI i) _ w T hS hd hb b64 hi hlp rfl hs' s64 rfl hx2 hu u63 hm hr4 q2 hk q3).mono ?_;rintro e w' ⟨hp,hB'⟩;exact⟨aHg S K m r e hp er hrI q3,hB'⟩
theorem aM4 (s:ByteArray)(m i r:Nat)(neg:Bool)(w:World)(T:aC w)(hm:1≤m)(hm2:m<18446744073709551616)(i1:3≤i)(i2:i≤658)(hg:m<144115188075855872∨(348≤i∧i≤375))(hr:cY (bY m i) (aO i) r)(hrI:r<aX)
  (SP:∀w,Calls Tryz.prog 233 #[.string s] w fun e w'=>e=.returned (.tuple #[.float .f64 0,.int .i64 0,.bool false])∧w=w')
  (RD:∀w,Calls Tryz.prog 234 #[.string s] w fun e w'=>e=.returned (.tuple #[.int .u64 m,.int .i64 ((i:Int)-348),.bool neg,.bool false,.bool false,.int .i64 s.size,.bool true])∧w=w') :
  Calls Tryz.prog 205 #[.string s] w fun e w'=>e=.returned (.tuple #[.float .f64 (sgn neg+r),.int .i64 s.size,.nilIface])∧Below w.heap.size w w':=by
 have h3:=T.opt;have hm0:((m:Int)==0)=false:=beq_eq_false_iff_ne.2 (by omega);have EX:∀w,aC w→Calls Tryz.prog 244 #[.int .u64 m,.int .i64 ((i:Int)-348),.bool neg] w fun e w'=>(e=.returned (.tuple #[.float .f64 (sgn neg+r),.bool true])∧w=w')∨mM w e w':=by
  intro w T;refine(aH4 m i neg w T (by omega) (by omega)).mono ?_;rintro e w' (⟨r',h1,h2,rfl,rfl⟩|h)
  ·have:r'=r:=qM _ _ _ _ (dD i) h1 hr;subst this;exact .inl ⟨rfl,rfl⟩
  ·exact .inr h
 have PF:=fun w T=>aHl m i r (sgn neg) w T (yR neg) hm hm2 (by omega) hg hr hrI
 have HSP:=Lib.hid SP;have HRD:=Lib.hid RD;have HEX:=Lib.hid EX;have HPF:=Lib.hid PF;have HT:=Lib.hid T;clear SP RD EX PF T hr hrI;cases neg;all_goals
  go_enter Tryz.func205,Tryz.ntmps205
  go_wp2_with (first
   | (go_at_call 233;refine(HSP.out _).mono ?_;rintro e w' ⟨rfl,rfl⟩)
   | (go_at_call 234;refine(HRD.out _).mono ?_;rintro e w' ⟨rfl,rfl⟩)
   | (go_at_call 242;((with_reducible refine(dL _).mono ?_);rintro e w' ⟨rfl,rfl⟩))
   | (go_at_call 242;((with_reducible refine(cO _).mono ?_);rintro e w' ⟨rfl,rfl⟩)))
  refine(HEX.out _ HT.out).mono ?_;rintro e w1 (⟨rfl,rfl⟩|⟨f,rfl,rfl⟩)
  ·go_wp2
   go_ret3;exact⟨rfl,Below.refl _ _⟩
  ·go_wp2_with fail
   refine(HPF.out _ HT.out).mono ?_;rintro e w2 ⟨rfl,B2⟩;have HB2:=Lib.hid B2;clear B2;go_wp2
   go_ret3;exact⟨rfl,HB2.out⟩
theorem uU (a b:Nat)(hb:b≤1):a≤a ||| b∧a ||| b≤a+1:=by
 refine⟨Nat.left_le_or,?_⟩;have:b=0∨b=1:=by omega
 rcases this with rfl|rfl
 ·simp
 ·have h:=Nat.or_mod_two_pow (a:=a) (b:=1) (n:=1);have:a ||| 1=2*(a / 2)+1:=by
   have e:(a ||| 1) / 2=a / 2:=by
    have:=Nat.or_div_two_pow (a:=a) (b:=1) (n:=1);simpa using this
   have e2:(a ||| 1)%2=1:=by
    rw[show(2:Nat)=2^1 from rfl,Nat.or_mod_two_pow];have:a%2=0∨a%2=1:=by omega
    rcases this with h|h<;>rw[show(2:Nat)^1=2 from rfl,h]<;>decide
   omega
  omega
def iK (k:Nat):Nat:=(-(((k:Int)-52)*78913 / 262144)+348).toNat
def lK (k:Nat):Int:=((iK k:Int)-348)*108853 / 32768
def sK (k:Nat):Nat:=(60-(k:Int)-lK k).toNat
def pK (k:Nat):Nat:=iK k-348
structure aOU (k:Nat):Prop where
 p:-(((k:Int)-52)*78913 / 262144)=(iK k:Int)-348
 i:iK k=348+pK k
 p1:7≤pK k
 p2:pK k≤16
 s:-(((1023+k:Nat):Int)-1086+lK k+3)=sK k
 s64:sK k<64
 s1:1≤sK k
 lo:aY (iK k)=0
 one:2^(63-k)*aN (iK k)=4*10^pK k*(18446744073709551616*2^sK k)
 ge:2*(18446744073709551616*2^sK k)≤1024*aN (iK k)
 le:1024*aN (iK k)≤20*(18446744073709551616*2^sK k)
instance (k:Nat):Decidable (aOU k) :=
 decidable_of_iff (-(((k:Int)-52)*78913 / 262144)=(iK k:Int)-348∧iK k=348+pK k∧7≤pK k∧pK k≤16∧-(((1023+k:Nat):Int)-1086+lK k+3)=sK k∧sK k<64∧1≤sK k∧aY (iK k)=0∧2^(63-k)*aN (iK k)=4*10^pK k*(18446744073709551616*2^sK k)∧2*(18446744073709551616*2^sK k)≤1024*aN (iK k)∧1024*aN (iK k)≤20*(18446744073709551616*2^sK k))
  ⟨fun⟨a,b,c,d,e,f,f1,g,h,i,j⟩=>⟨a,b,c,d,e,f,f1,g,h,i,j⟩,fun⟨a,b,c,d,e,f,f1,g,h,i,j⟩=>⟨a,b,c,d,e,f,f1,g,h,i,j⟩⟩
theorem sC (c:UInt8)(b:List UInt8):∀a:List UInt8,(∀x∈a,x≠c)→Lib.index (a++c :: b) [c]=a.length
 | [],_=>by simp[Lib.index,List.isPrefixOf]
 | x :: a,h=>by
  have hx:(c==x)=false:=by rw[beq_eq_false_iff_ne];exact fun e=>h x (by simp) e.symm
  have ih:=sC c b a (fun y hy=>h y (by simp[hy]));rw[List.cons_append,Lib.index];simp only[List.isPrefixOf,hx,Bool.false_and,Bool.false_eq_true,if_false,ih];rw[if_neg (by simp)];simp
theorem aAN (c:UInt8):∀a:List UInt8,(∀x∈a,x≠c)→Lib.index a [c]=-1
 | [],_=>by simp[Lib.index]
 | x :: a,h=>by
  have hx:(c==x)=false:=by rw[beq_eq_false_iff_ne];exact fun e=>h x (by simp) e.symm
  have ih:=aAN c a (fun y hy=>h y (by simp[hy]));rw[Lib.index];simp[List.isPrefixOf,hx,ih]
theorem aHi (c:UInt8)(a b:List UInt8)(h:∀x∈a,x≠c):Lib.cut (a++c :: b) [c]=(a,b,true):=by
 unfold Lib.cut;rw[sC c b a h,if_pos (by omega)];simp
def dK (D:List UInt8):List UInt8:=D.take 1++(if 1<D.length then 46 :: D.drop 1 else [])
theorem aCS (D:List UInt8)(h1:1≤D.length)(hd:∀x∈D,aS x=true):Lib.replace (dK D) [46] [] 1=D:=by
 have nd:∀x∈D,x≠46:=by
  rintro x hx rfl;exact absurd (hd 46 hx) (by decide)
 unfold Lib.replace;rw[if_neg (by decide)];cases D with
 | nil=>simp at h1
 | cons d D =>
  cases D with
  | nil =>
   have e:dK [d]=[d]:=rfl;rw[e];unfold Lib.replaceNum;rw[Lib.count_miss (aAN 46 [d] (fun x hx=>nd x hx)),if_pos (.inr (by decide))];rfl
  | cons f D =>
   have e:dK (d :: f :: D)=[d]++46 :: f :: D:=by unfold dK;simp
   have hi:Lib.index ([d]++46 :: f :: D) [46]=(1:Nat):=sC 46 (f :: D) [d] (fun x hx=>nd x (by simp at hx;simp[hx]));rw[e];unfold Lib.replaceNum;rw[if_neg (by rw[Lib.count_hit (by decide) hi];omega)];show Lib.replaceK [46] [] (0+1) _=_;rw[Lib.replaceK_hit _ _ _ _ 1 hi];rfl
theorem aER:((List.range 1000).all fun n=>Lib.decNat (aU n)==some n)=true:=by kernel_rfl
theorem aL5 (n:Nat)(h:n<1000):Lib.decNat (aU n)=some n:=by
 have:=List.all_eq_true.1 aER n (List.mem_range.2 h);simpa using this
theorem aM9 (n:Nat):(aU n).length≤3:=by
 unfold aU;split
 ·simp
 ·split<;>simp
theorem aJ9 (x:Int)(h0:-1000<x)(h1:x<1000):Lib.atoi ((if x<0 then 45 else 43) :: aU x.natAbs)=some x:=by
 have e:=aL5 x.natAbs (by omega);by_cases h:x<0
 ·rw[if_pos h];show(Lib.decNat (aU x.natAbs)).map (fun m:Nat=>-(m:Int))=some x;rw[e];show some (-(x.natAbs:Int))=some x;congr 1;omega
 ·rw[if_neg h];show(Lib.decNat (aU x.natAbs)).map (fun m:Nat=>(m:Int))=some x;rw[e];show some (x.natAbs:Int)=some x;congr 1;omega
theorem aDE (D:List UInt8)(x:Int)(h1:1≤D.length)(h2:D.length≤100)(hd:∀c∈D,aS c=true)(x0:-1000<x)(x1:x<1000) :
  lI (lX D x) D x (dK D) ((if x<0 then 45 else 43) :: aU x.natAbs):=by
 have pl:(dK D).length≤102:=by
  unfold dK;split
  ·simp;omega
  ·simp;omega
 have el:=aM9 x.natAbs;have e:lX D x=dK D++101 :: ((if x<0 then 45 else 43) :: aU x.natAbs):=by
  unfold lX dK;simp
 refine⟨?_,aJ9 x x0 x1,aCS D h1 hd,?_,?_,by omega,?_,by omega,by omega⟩
 ·rw[e];refine aHi 101 _ _ ?_;rintro y hy rfl;unfold dK at hy;rcases List.mem_append.1 hy with hy|hy
  ·exact absurd (hd _ (List.mem_of_mem_take hy)) (by decide)
  ·split at hy
   ·rcases List.mem_cons.1 hy with hy|hy
    ·exact absurd hy (by decide)
    ·exact absurd (hd _ (List.mem_of_mem_drop hy)) (by decide)
   ·cases hy
 ·rw[e,List.length_append,List.length_cons,List.length_cons];omega
 ·rw[List.length_cons];omega
 ·show Lib.count (dK D) [46]≤1000;have:=Lib.count_le (dK D) [46];omega
theorem aCj (r:Nat)(h:r<10):aS (UInt8.ofNat (48+r))=true:=by
 have:((List.range 10).all fun r=>aS (UInt8.ofNat (48+r)))=true:=by decide
 exact List.all_eq_true.1 this r (List.mem_range.2 h)
theorem aBL (n:Nat):∀c∈Lib.decDigits n,aS c=true:=by
 induction n using Nat.strongRecOn with
 | ind n ih =>
  rw[Lib.decDigits];split
  ·intro c hc;rw[List.mem_singleton.1 hc];exact aCj _ ‹_›
  ·intro c hc;rcases List.mem_append.1 hc with hc|hc
   ·exact ih _ (by omega) c hc
   ·rw[List.mem_singleton.1 hc];exact aCj _ (by omega)
theorem aF8 (l:List UInt8):l.take (cS l)++List.replicate (l.length-cS l) 48=l:=by
 induction l using gL with
 | h0=>rfl
 | h1 l a ih =>
  rw[qJ];by_cases h:a=48
  ·rw[if_pos h];have hle:=kC l;rw[List.take_append_of_le_length hle,List.length_append,List.length_singleton,show l.length+1-cS l=l.length-cS l+1 by omega,List.replicate_succ',←List.append_assoc,ih,h]
  ·rw[if_neg h,List.take_of_length_le (by simp)];simp
def fO (n:Nat):List UInt8:=(Lib.decDigits n).take (cS (Lib.decDigits n))
theorem aH2 (n:Nat):fO n++List.replicate (Lib.nDigits n-(fO n).length) 48=Lib.decDigits n:=by
 have e:(fO n).length=cS (Lib.decDigits n):=by
  unfold fO;rw[List.length_take];have:=kC (Lib.decDigits n);omega
 rw[e,←Lib.decDigits_length];exact aF8 _
theorem zV (n:Nat)(h:1≤n):1≤(fO n).length∧(fO n).length≤Lib.nDigits n:=by
 have e:(fO n).length=cS (Lib.decDigits n):=by
  unfold fO;rw[List.length_take];have:=kC (Lib.decDigits n);omega
 rw[e];refine⟨zT n h,?_⟩;have:=kC (Lib.decDigits n);rwa[Lib.decDigits_length]at this
theorem yQ (n:Nat):∀c∈fO n,aS c=true:=fun c hc=>aBL n c (List.mem_of_mem_take hc)
open Go.RowKit
theorem aN2 (i:Nat)(hi:i<696):9223372036854775808≤aN i∧aN i≤18446744073709547521:=by
 obtain⟨r1,r2,r3,r4,r5,r6⟩:=tB i hi;obtain⟨b1,b2⟩:=aAx i hi;have hD:=uD i;have epm:pmN i+aY i=aN i*18446744073709551616:=by
  unfold pmN;have:1*18446744073709551616≤aN i*18446744073709551616:=Nat.mul_le_mul_right _ r3;omega
 have hpm:pmN i≤340282366920938387905510881517444792320:=by
  refine Nat.le_of_not_lt fun h=>?_
  have:=Nat.mul_le_mul_right (eK i) (show 340282366920938387905510881517444792320+1≤pmN i from h);rw[Nat.add_mul,Nat.one_mul]at this
  omega
 omega
theorem aJ2 (x h l s hi:Nat)(hh:x*h / 18446744073709551616=hi)(h1:1≤hi)(h2:hi<18446744073709551616):(hi-1) / 2^s≤cQ x h l s∧cQ x h l s≤hi / 2^s+1:=by
 unfold cQ;simp only[];rw[hh];have m1:(hi-1) / 2^s≤hi / 2^s:=Nat.div_le_div_right (by omega);split
 ·have:=uU (hi / 2^s) 1 (by omega);omega
 ·split
  ·rw[show(hi+18446744073709551615)%18446744073709551616=hi-1 by omega];have:=uU ((hi-1) / 2^s) (if 1<(x*h%18446744073709551616+18446744073709551616-x*l / 18446744073709551616)%18446744073709551616 then 1 else 0) (by split<;>omega);omega
  ·have:=uU (hi / 2^s) (if 1<(x*h%18446744073709551616+18446744073709551616-x*l / 18446744073709551616)%18446744073709551616 then 1 else 0) (by split<;>omega);omega
theorem aAu (d i b s u:Nat)(hi:i<696)(hb1:1≤b)(h1:2^(b-1)≤d)(h2:d<2^b)(hb:b≤64)(hs:gJ b i=s)(hu:cQ (d*2^(64-b)) (aN i) (aY i) s=u) :
  u<72057594037927936∧bS (cD u)<9007199254740992∧(4503599627370496≤bS (cD u)∨cA b i+gI u=0):=by
 have hx2:d*2^(64-b)<18446744073709551616:=by
  have:d*2^(64-b)<2^b*2^(64-b):=Nat.mul_lt_mul_of_pos_right h2 (Nat.two_pow_pos _);rw[←Nat.pow_add,show b+(64-b)=64 by omega]at this
  exact this
 have hx1:9223372036854775808≤d*2^(64-b):=by
  have:2^(b-1)*2^(64-b)≤d*2^(64-b):=Nat.mul_le_mul_right _ h1;rw[←Nat.pow_add,show b-1+(64-b)=63 by omega]at this
  exact this
 obtain⟨r1,r2⟩:=aN2 i hi;obtain⟨x,hx⟩:∃x,d*2^(64-b)=x:=⟨_,rfl⟩
 rw[hx]at hx1 hx2 hu
 obtain⟨H,hH⟩:∃H,x*aN i / 18446744073709551616=H:=⟨_,rfl⟩
 have H1:4611686018427387904≤H:=by
  rw[←hH,Nat.le_div_iff_mul_le (by decide)];have:=Nat.mul_le_mul hx1 r1;omega
 have H2:H≤18446744073709547521:=by
  rw[←hH];refine Nat.div_le_of_le_mul ?_;have:=Nat.mul_le_mul (show x≤18446744073709551616 by omega) r2;omega
 obtain⟨n1,n2⟩:=aJ2 x (aN i) (aY i) s H hH (by omega) (by omega);rw[hu]at n1 n2
 have s8:8≤s:=by unfold gJ at hs;omega
 have e8:(2:Nat)^8=256:=by decide
 have n3:H / 2^s≤H / 256:=by
  rw[←e8];exact Nat.div_le_div_left (Nat.pow_le_pow_right (by decide) s8) (by decide)
 have u1:u≤72057594037927921:=by omega
 refine⟨by omega,?_,?_⟩
 ·by_cases c:36028797018963966≤u
  ·have:cD u≤u / 2+1:=by
    unfold cD;rw[if_pos c];have:=uU (u / 2) (u%2) (by omega);omega
   unfold bS;omega
  ·have:cD u=u:=by unfold cD;rw[if_neg c]
   rw[this];unfold bS;omega
 ·by_cases hk:cA b i=0
  ·by_cases c:36028797018963966≤u
   ·left;have:u / 2≤cD u:=by
     unfold cD;rw[if_pos c];exact Nat.left_le_or
    have h3:cD u=18014398509481983∨18014398509481984≤cD u:=by omega
    unfold bS;rcases h3 with h|h
    ·rw[h];decide
    ·omega
   ·right;rw[hk];unfold gI;rw[if_neg c]
  ·left;have hs8:s=8:=by unfold gJ at hs;unfold cA at hk;omega
   rw[hs8,e8]at n1
   have h3:18014398509481983≤cD u:=by
    by_cases c:36028797018963966≤u
    ·have:u / 2≤cD u:=by
      unfold cD;rw[if_pos c];exact Nat.left_le_or
     omega
    ·have:cD u=u:=by unfold cD;rw[if_neg c]
     omega
   have h4:cD u=18014398509481983∨18014398509481984≤cD u:=by omega
   unfold bS;rcases h4 with h|h
   ·rw[h];decide
   ·omega
def nM (d i:Nat):Nat × Value :=
 if 64≤gJ (Lib.bitLen d) i then (0,.nilIface)
 else (mH 0 (cA (Lib.bitLen d) i+gI (cQ (d*2^(64-Lib.bitLen d)) (aN i) (aY i) (gJ (Lib.bitLen d) i).toNat)) (bS (cD (cQ (d*2^(64-Lib.bitLen d)) (aN i) (aY i) (gJ (Lib.bitLen d) i).toNat))),
  tE (cA (Lib.bitLen d) i+gI (cQ (d*2^(64-Lib.bitLen d)) (aN i) (aY i) (gJ (Lib.bitLen d) i).toNat)))
theorem aEo (d i S:Nat)(w:World)(T:aC w)(hS:fK S)(hd1:1≤d)(hd:d<18446744073709551616)(hi:i<696) :
  Calls Tryz.prog 245 #[.int .u64 d,.int .i64 ((i:Int)-348),.int .u64 S] w fun e' w'=>e'=.returned (.tuple #[.float .f64 (S+(nM d i).1),(nM d i).2])∧Below w.heap.size w w':=by
 obtain⟨b,hb,b1,b64,l1,l2⟩:=xR d hd1 hd;obtain⟨p1,p2⟩:=aFI i hi;have hlp:((i:Int)-348)*108853 / 32768=lpI i:=rfl;obtain⟨s,hs⟩:∃s:Nat,gJ b i=s:=⟨(gJ b i).toNat,by unfold gJ;omega⟩
 have hs':-(min 1074 (53-(b:Int)-lpI i)-(64-(b:Int))+lpI i+3)=s:=hs;unfold nM;rw[hb,hs,Int.toNat_natCast];by_cases hfar:64≤s
 ·rw[if_pos (by omega)];exact aAl d i b S s (lpI i) _ w T hS hd hb b64 hi hlp rfl hs' hfar
 ·rw[if_neg (by omega)];obtain⟨u,hu⟩:∃u,cQ (d*2^(64-b)) (aN i) (aY i) s=u:=⟨_,rfl⟩
  rw[hu];obtain⟨q1,q2,q3⟩:=aAu d i b s u hi b1 l1 l2 b64 hs hu;have hx2:d*2^(64-b)<18446744073709551616:=by
   have:d*2^(64-b)<2^b*2^(64-b):=Nat.mul_lt_mul_of_pos_right l2 (Nat.two_pow_pos _);rw[←Nat.pow_add,show b+(64-b)=64 by omega]at this
   exact this
  have hk:=aLl b i u;have hr4:jL (cD u)=bS (cD u):=pQ _ (by have:=aBC u;omega);obtain⟨K,hK⟩:∃K,cA b i+gI u=K:=⟨_,rfl⟩
  obtain⟨m,hm⟩:∃m,bS (cD u)=m:=⟨_,rfl⟩
  rw[hm]at q2 q3 hr4
  rw[hK]at q3 hk
  rw[hK,hm];have u63:u<9223372036854775808:=Nat.lt_trans q1 (by decide);have s64:s<64:=Nat.lt_of_not_le hfar;refine(yB d i b S s u K m _ (lpI i) _ w T hS hd hb b64 hi hlp rfl hs' s64 rfl hx2 hu u63 hm hr4 q2 hk q3).mono ?_;rintro e w' ⟨hp,hB'⟩;refine⟨?_,hB'⟩;unfold pH mH at hp;unfold mH;rw[hp,Nat.zero_add]
end Go.Proofs.YtcfgbdhpcboikaaGreatDoor
