/-
Which digits the document finds: an interval, the point in it, powers of ten. No program in sight.
-/
import Derived.Test.YtcfgbdhpcboikaaGreatDoorShortB
namespace Go.Proofs.YtcfgbdhpcboikaaGreatDoor
def jQ (W B d:Nat):Prop :=
 (W≤(2*d+1)*B∧(d%2=1→W<(2*d+1)*B))∧((2*d)*B≤W+B∧(d%2=1→(2*d)*B<W+B))
theorem aLp (W B d e:Nat)(hB:0<B)(h1:jQ W B d)(h2:jQ W B e):d=e:=by
 have key:∀a b:Nat,jQ W B a→jQ W B b→¬a<b:=by
  intro a b ha hb hlt;have e1:(2*a+1)*B=2*(a*B)+B:=by rw[Nat.add_mul,Nat.one_mul,Nat.mul_assoc]
  have e2:2*b*B=2*(b*B):=Nat.mul_assoc _ _ _;have h3:=ha.1.1;have h4:=hb.2.1;rw[e1]at h3
  rw[e2]at h4
  rcases Nat.lt_or_ge (a+1) b with h|h
  ·have:=Nat.mul_le_mul_right B (show a+2≤b by omega);rw[Nat.add_mul]at this
   omega
  ·obtain rfl:b=a+1:=by omega
   have e3:(a+1)*B=a*B+B:=by rw[Nat.add_mul,Nat.one_mul]
   rw[e3]at h4
   have h5:=ha.1.2;have h6:=hb.2.2;rw[e1]at h5
   rw[e2,e3]at h6
   rcases Nat.mod_two_eq_zero_or_one a with h7|h7
   ·have:=h6 (by omega);omega
   ·have:=h5 h7;omega
 have a:=key d e h1 h2;have b:=key e d h2 h1;omega
structure Iv (W Vl Vh B:Nat) (o:Prop) (R:Nat→Prop):Prop where
 iff:∀a,R a↔(W≤2*(a*B)+Vl∧(o→W<2*(a*B)+Vl))∧(2*(a*B)≤W+Vh∧(o→2*(a*B)<W+Vh))
 pos:0<B
 vl:0<Vl
 vh:Vl≤Vh
section
variable {W Vl Vh B:Nat} {o:Prop} {R:Nat→Prop}
theorem aE2 (I:Iv W Vl Vh B o R){a b c:Nat}(ha:R a)(hb:R b)(h1:a≤c)(h2:c≤b):R c:=by
 rw[I.iff]at ha hb ⊢
 have m1:=Nat.mul_le_mul_right B h1;have m2:=Nat.mul_le_mul_right B h2;exact⟨⟨by omega,fun h=>by have:=ha.1.2 h;omega⟩,by omega,fun h=>by have:=hb.2.2 h;omega⟩
theorem aKI (I:Iv W Vl Vh B o R){b c:Nat}(hb:R b)(h1:W≤2*(c*B))(h2:c≤b):R c:=by
 have:=I.vl;rw[I.iff]at hb ⊢
 have m2:=Nat.mul_le_mul_right B h2;exact⟨⟨by omega,fun h=>by omega⟩,by omega,fun h=>by have:=hb.2.2 h;omega⟩
theorem aKG (I:Iv W Vl Vh B o R){a c:Nat}(ha:R a)(h1:2*(c*B)≤W)(h2:a≤c):R c:=by
 have:=I.vl;have:=I.vh;rw[I.iff]at ha ⊢
 have m2:=Nat.mul_le_mul_right B h2;exact⟨⟨by omega,fun h=>by have:=ha.1.2 h;omega⟩,by omega,fun h=>by omega⟩
theorem aHD (I:Iv W Vl Vh B o R){a c:Nat}(ha:R a)(h1:W≤2*(c*B))(h2:2*(c*B)+2*(a*B)≤2*W):R c:=by
 have:=I.vl;have:=I.vh;rw[I.iff]at ha ⊢
 exact⟨⟨by omega,fun h=>by omega⟩,by omega,fun h=>by have:=ha.1.2 h;omega⟩
structure Sh (W B:Nat) (R:Nat→Prop) (d j t D N:Nat):Prop where
 val:D*10^t=d
 lo:10^(N-1)≤D
 hi:D<10^N
 one:1≤N
 odd:D%10≠0
 rn:R (d*10^j)
 pick:(∀a,R (a*10^j)→a=d) ∨
  (t=0∧(∀a,¬R (a*10^(j+1)))∧jQ W (10^j*B) d)
theorem dG (n:Nat):0<10^n:=Nat.pow_pos (by decide)
theorem iM {a b:Nat}(h:a≤b):10^a≤10^b:=Nat.pow_le_pow_right (by decide) h
theorem eF (n:Nat):10^(n+1)=10*10^n:=by rw[Nat.pow_succ,Nat.mul_comm]
theorem iA {a b:Nat}(h:a≤b):10^b=10^(b-a)*10^a:=by rw[←Nat.pow_add];congr 1;omega
theorem aDG (I:Iv W Vl Vh B o R){d j t D N:Nat}(S:Sh W B R d j t D N)(c n jc:Nat)(hc1:1≤c)(hc:c<10^n)(hn:n<N):¬R (c*10^jc):=by
 intro hR;have n1:1≤n:=Nat.pos_of_ne_zero fun h=>by subst h;omega
 have hcN:c<10^(N-1):=Nat.lt_of_lt_of_le hc (iM (by omega));have hP:10^(N-1)=10*10^(N-2):=by rw[←eF];congr 1;omega
 have hP2:=dG (N-2);have hDlo:=S.lo;have hdD:D≤d:=by rw[←S.val];exact Nat.le_mul_of_pos_right _ (dG t)
 rcases S.pick with U|⟨t0,E,_⟩
 ·rcases Nat.lt_or_ge jc j with hj|hj
  ·
   have hv:c*10^jc≤(d-1)*10^j:=by
    have e:=iA (show jc+1≤j from hj);have e2:=eF jc;have h1:c*10^jc≤10^(N-1)*10^jc:=Nat.mul_le_mul_right _ (Nat.le_of_lt hcN);have h2:10^(N-2)*10^(jc+1)≤(d-1)*10^(jc+1):=Nat.mul_le_mul_right _ (by omega);have h3:(d-1)*10^(jc+1)≤(d-1)*10^j:=Nat.mul_le_mul_left _ (iM hj);have h4:10^(N-1)*10^jc=10^(N-2)*10^(jc+1):=by rw[hP,e2,Nat.mul_comm 10 (10^(N-2)),Nat.mul_assoc]
    omega
   have:=U _ (aE2 I hR S.rn hv (Nat.mul_le_mul_right _ (by omega)));omega
  ·have e:=iA hj;rw[e,←Nat.mul_assoc]at hR
   have h1:=U _ hR;rw[←S.val]at h1
   rcases Nat.lt_or_ge (jc-j) t with h|h
   ·have e2:=iA (Nat.le_of_lt h);rw[e2,←Nat.mul_assoc]at h1
    have h2:=Nat.eq_of_mul_eq_mul_right (dG _) h1;have:D≤D*10^(t-(jc-j)):=Nat.le_mul_of_pos_right _ (dG _);omega
   ·have e2:=iA h;rw[e2,←Nat.mul_assoc]at h1
    have h2:=Nat.eq_of_mul_eq_mul_right (dG _) h1;rcases Nat.eq_or_lt_of_le h with h3|h3
    ·rw[h3,Nat.sub_self,Nat.pow_zero,Nat.mul_one]at h2
     omega
    ·have e3:10^(jc-j-t)=10*10^(jc-j-t-1):=by rw[←eF];congr 1;omega
     rw[e3,Nat.mul_left_comm]at h2
     exact S.odd (by omega)
 ·rcases Nat.lt_or_ge j jc with hj|hj
  ·have e:=iA (show j+1≤jc from hj);rw[e,←Nat.mul_assoc]at hR
   exact E _ hR
  ·have h1:c*10^jc≤10^(N-1)*10^j:=Nat.mul_le_mul (Nat.le_of_lt hcN) (iM hj);have h2:10^(N-1)*10^j≤d*10^j:=Nat.mul_le_mul_right _ (by omega);have h3:=aE2 I hR S.rn h1 h2;have e:10^(N-1)*10^j=10^(N-2)*10^(j+1):=by rw[hP,eF,Nat.mul_comm 10 (10^(N-2)),Nat.mul_assoc]
   rw[e]at h3
   exact E _ h3
structure Fx (W B n m s:Nat):Prop where
 lo:10^(n-1)≤m
 hi:m<10^n
 one:1≤n
 ev:jQ W (10^s*B) m
 low:20*(10^(n-1)*10^s*B)≤10*W+10^s*B
theorem Fx.up {n m s:Nat}(F:Fx W B n m s):W≤2*(m*10^s*B)+10^s*B:=by
 have:=F.ev.1.1;rw[Nat.add_mul,Nat.one_mul,Nat.mul_assoc 2 m,←Nat.mul_assoc m]at this
 exact this
theorem Fx.dn {n m s:Nat}(F:Fx W B n m s):2*(m*10^s*B)≤W+10^s*B:=by
 have:=F.ev.2.1;rw[Nat.mul_assoc 2 m,←Nat.mul_assoc m]at this
 exact this
def aIY (W B:Nat)(R:Nat→Prop):Prop:=∀s,R (10^(s+1))→W≤19*(10^s*B)→False
theorem aKm {d j t D N:Nat}(S:Sh W B R d j t D N)(p:Nat)(hp:j+t<p)(hR:R (10^p))(hlt:D*10^(j+t)<10^p):False:=by
 rcases S.pick with U|⟨t0,E,_⟩
 ·rw[iA (show j≤p by omega)]at hR
  have h1:=U _ hR;rw[iA (show j≤p by omega),h1,←S.val,Nat.pow_add,Nat.mul_comm (10^j),←Nat.mul_assoc]at hlt
  omega
 ·rw[iA (show j+1≤p by omega)]at hR
  exact E _ hR
theorem aKl (I:Iv W Vl Vh B o R)(T:aIY W B R){d j t D N m s:Nat}(S:Sh W B R d j t D N)(F:Fx W B N m s):s=j+t:=by
 have hd:d*10^j=D*10^(j+t):=by rw[←S.val,Nat.pow_add,Nat.mul_comm (10^j),←Nat.mul_assoc]
 have hRD:=S.rn;rw[hd]at hRD
 have hN:10^N=10*10^(N-1):=by rw[←eF];congr 1;have:=S.one;omega
 have hDlo:=S.lo;have hDhi:=S.hi;have B1:=I.pos;have mhi:=F.hi;have up:=F.up;rcases Nat.lt_trichotomy s (j+t)with h|h|h
 ·exfalso;have hP:10^(N+s)≤D*10^(j+t):=by
   have e:10^(N+s)=10^(N-1)*10^(s+1):=by rw[←Nat.pow_add];congr 1;have:=S.one;omega
   rw[e];exact Nat.mul_le_mul hDlo (iM h)
  have hxP:W≤2*(10^(N+s)*B):=by
   have e:10^(N+s)*B=10^N*(10^s*B):=by rw[Nat.pow_add,Nat.mul_assoc]
   have h1:=Nat.mul_le_mul_right (10^s*B) (show m+1≤10^N from mhi);rw[Nat.add_mul]at h1
   rw[Nat.mul_assoc m]at up
   rw[e];omega
  have hRP:=aKI I hRD hxP hP;rcases Nat.lt_or_ge 1 N with hN1|hN1
  ·exact aDG I S 1 1 (N+s) (by decide) (by decide) hN1 (by rw[Nat.one_mul];exact hRP)
  ·have N1:N=1:=by have:=S.one;omega
   subst N1;have hs:1+s=s+1:=by omega
   rw[hs]at hRP hP hxP
   have hW:W≤19*(10^s*B):=by
    have h1:=Nat.mul_le_mul_right (10^s*B) (show m≤9 by omega);rw[Nat.mul_assoc m]at up
    omega
   exact T s hRP hW
 ·exact h
 ·exfalso;have hP:D*10^(j+t)<10^(N-1+s):=by
   have h1:=Nat.mul_lt_mul_of_pos_right hDhi (dG (j+t));have e:10^N*10^(j+t)=10^(N-1)*10^(j+t+1):=by rw[hN,eF,Nat.mul_comm 10 (10^(N-1)),Nat.mul_assoc]
   have h2:=Nat.mul_le_mul_left (10^(N-1)) (iM (show j+t+1≤s from h));rw[Nat.pow_add 10 (N-1) s];omega
  refine aKm S (N-1+s) (by omega) ?_ hP;rcases Nat.lt_or_ge (2*(10^(N-1+s)*B)) W with hx|hx
  ·exact aKG I hRD (Nat.le_of_lt hx) (Nat.le_of_lt hP)
  ·
   refine aHD I hRD hx ?_;have low:=F.low;rw[←Nat.pow_add]at low
   obtain⟨Q,hQ⟩:∃Q,10^(s-1)*B=Q:=⟨_,rfl⟩
   have es:10^s*B=10*Q:=by
    rw[←hQ,←Nat.mul_assoc,←eF];congr 2;omega
   have eP:10^(N-1+s)*B=10^N*Q:=by
    rw[Nat.pow_add,Nat.mul_assoc,es,hN];rw[Nat.mul_left_comm,Nat.mul_assoc]
   have hDQ:D*10^(j+t)*B≤D*Q:=by
    rw[Nat.mul_assoc,←hQ];exact Nat.mul_le_mul_left _ (Nat.mul_le_mul_right _ (iM (by omega)))
   have h1:=Nat.mul_le_mul_right Q (show D+1≤10^N from hDhi);rw[Nat.add_mul,Nat.one_mul]at h1
   rw[es]at low
   rw[eP]at low ⊢
   omega
theorem aKk (I:Iv W Vl Vh B o R)(T:aIY W B R){d j t D N m s:Nat}(S:Sh W B R d j t D N)(F:Fx W B N m s) :
  s=j+t∧((m=D)∨(¬R (m*10^s)∧m+1=D)∨(¬R (m*10^s)∧¬R ((m+1)*10^s)∧m=D+1)):=by
 have hs:=aKl I T S F;refine⟨hs,?_⟩;have hd:d*10^j=D*10^s:=by rw[←S.val,hs,Nat.pow_add,Nat.mul_comm (10^j),←Nat.mul_assoc]
 have hRD:=S.rn;rw[hd]at hRD
 rcases S.pick with U|⟨t0,E,E2⟩
 ·have U2:∀a,R (a*10^s)→a=D:=by
   intro a ha;rw[hs,Nat.add_comm,Nat.pow_add,←Nat.mul_assoc]at ha
   have h1:=U _ ha;rw[←S.val]at h1
   exact Nat.eq_of_mul_eq_mul_right (dG t) h1
  rcases Nat.lt_trichotomy m D with h|h|h
  ·have hm:R ((m+1)*10^s):=by
    refine aKI I hRD ?_ (Nat.mul_le_mul_right _ h);have:=F.up;rw[Nat.add_mul,Nat.one_mul,Nat.add_mul];omega
   exact .inr (.inl ⟨fun h2=>by have:=U2 _ h2;omega,U2 _ hm⟩)
  ·exact .inl h
  ·obtain⟨m',rfl⟩:∃m',m=m'+1:=⟨m-1,by omega⟩
   have hm:R (m'*10^s):=by
    refine aKG I hRD ?_ (Nat.mul_le_mul_right _ (by omega));have:=F.dn;rw[Nat.add_mul,Nat.one_mul,Nat.add_mul]at this
    omega
   exact .inr (.inr ⟨fun h2=>by have:=U2 _ h2;omega,fun h2=>by have:=U2 _ h2;omega,by have:=U2 _ hm;omega⟩)
 ·have hev:=F.ev;rw[hs,t0,Nat.add_zero]at hev
  have:=aLp _ _ _ _ (Nat.mul_pos (dG j) I.pos) hev E2;have h2:=S.val;rw[t0,Nat.pow_zero,Nat.mul_one]at h2
  exact .inl (by omega)
end
structure aFs (dmin dmax dm:Nat):Prop where
 ne:dmin≤dmax
 mid:dmin<dmax→dmin≤dm∧dm≤dmax
 wide:dmax<dmin+10
theorem aJ7 (U V M dmin dmax dm:Nat)(h1:U≤V)(h2:V<10*U)
  (hmin:∀n,dmin≤n↔2*M*V≤2*n*U+V∧(M%2=1→2*M*V<2*n*U+V))
  (hmax:∀n,n≤dmax↔2*n*U≤(2*M+1)*V∧(M%2=1→2*n*U<(2*M+1)*V))
  (d1:2*M*V≤2*dm*U+U) (d2:2*dm*U≤2*M*V+U):aFs dmin dmax dm:=by
 have hU:0<U:=by omega
 have eM:(2*M+1)*V=2*M*V+V:=by rw[Nat.add_mul,Nat.one_mul]
 have inn:dmin≤dm∧dm≤dmax:=by
  rw[hmin,hmax,eM];rcases Nat.lt_or_ge U V with h|h
  ·exact⟨⟨by omega,fun _=>by omega⟩,by omega,fun _=>by omega⟩
  ·obtain rfl:U=V:=by omega
   exact⟨⟨by omega,fun _=>by
    have:2*M*U<2*(dm+1)*U:=by rw[Nat.mul_add 2,Nat.add_mul];omega
    have:=Nat.lt_of_mul_lt_mul_right this;have:2*M*U≤2*dm*U:=Nat.mul_le_mul_right _ (by omega);omega⟩,by omega,fun _=>by
    have:2*dm*U<2*(M+1)*U:=by rw[Nat.mul_add 2,Nat.add_mul];omega
    have:=Nat.lt_of_mul_lt_mul_right this;have:2*dm*U≤2*M*U:=Nat.mul_le_mul_right _ (by omega);omega⟩
 refine⟨by omega,fun _=>inn,?_⟩;have a:=((hmin dmin).1 (Nat.le_refl _)).1;have b:=((hmax dmax).1 (Nat.le_refl _)).1;rw[eM]at b
 have:2*dmax*U<2*(dmin+10)*U:=by rw[Nat.mul_add 2,Nat.add_mul];omega
 have:=Nat.lt_of_mul_lt_mul_right this;omega
theorem aH3 (U V M dmin dmax dm:Nat)(h1:4*U≤3*V)(h2:3*V<40*U)
  (hmin:∀n,dmin≤n↔4*M*V≤4*n*U+V)
  (hmax:∀n,n≤dmax↔2*n*U≤(2*M+1)*V)
  (d1:2*M*V≤2*dm*U+U) (d2:2*dm*U≤2*M*V+U):aFs dmin dmax dm:=by
 have hU:0<U:=by omega
 have eM:(2*M+1)*V=2*M*V+V:=by rw[Nat.add_mul,Nat.one_mul]
 have e4:4*M*V=2*(2*M*V):=by rw[←Nat.mul_assoc,←Nat.mul_assoc]
 have e4n:∀n,4*n*U=2*(2*n*U):=fun n=>by rw[←Nat.mul_assoc,←Nat.mul_assoc]
 have ne:dmin≤dmax:=by
  rw[hmax,eM];rcases Nat.eq_zero_or_pos dmin with h|h
  ·rw[h];simp
  ·obtain⟨n,rfl⟩:∃n,dmin=n+1:=⟨dmin-1,by omega⟩
   have:¬n+1≤n:=by omega
   rw[hmin,e4n]at this
   have e:2*(n+1)*U=2*n*U+2*U:=by rw[Nat.mul_add 2,Nat.add_mul]
   omega
 refine⟨ne,fun hlt=>⟨?_,?_⟩,?_⟩
 ·refine Classical.byContradiction fun hn=>?_
  have h3:¬dmin≤dm:=hn;rw[hmin,e4n]at h3
  have b:=((hmax (dm+2)).1 (by omega))
  rw[eM,Nat.mul_add 2,Nat.add_mul]at b
  omega
 ·rw[hmax,eM];omega
 ·have a:=((hmin dmin).1 (Nat.le_refl _))
  have b:=((hmax dmax).1 (Nat.le_refl _))
  rw[eM]at b
  rw[e4n]at a
  have:2*dmax*U<2*(dmin+10)*U:=by rw[Nat.mul_add 2,Nat.add_mul];omega
  have:=Nat.lt_of_mul_lt_mul_right this;omega
theorem aF3 (dmin dmax dm:Nat)(p:Int)(h:aFs dmin dmax dm)(h1:1≤dmin) :
  (∃d,bA dmin dmax dm p=(d,-(p-1))∧1≤d∧dmin≤10*d∧10*d≤dmax∧(∀n,dmin≤10*n→10*n≤dmax→n=d)) ∨
  (∃d,bA dmin dmax dm p=(d,-p)∧1≤d∧dmin≤d∧d≤dmax∧(∀n,dmin≤10*n→10*n≤dmax→False)∧((∀n,dmin≤n→n≤dmax→n=d)∨d=dm)):=by
 have w:=h.wide;have n1:=h.ne;unfold bA;by_cases c1:dmin≤dmax / 10*10
 ·rw[if_pos c1];exact .inl ⟨_,rfl,by omega,by omega,by omega,fun n a b=>by omega⟩
 ·rw[if_neg c1];by_cases c2:dmin<dmax
  ·rw[if_pos c2];obtain⟨m1,m2⟩:=h.mid c2;exact .inr ⟨_,rfl,by omega,m1,m2,fun n a b=>by omega,.inr rfl⟩
  ·rw[if_neg c2];exact .inr ⟨_,rfl,by omega,by omega,by omega,fun n a b=>by omega,.inl fun n a b=>by omega⟩
def sU (i:Nat):Nat:=10^(348-i)*2^1074
def sV (k i:Nat):Nat:=2^k*10^(i-348)
theorem aAA (i:Nat):0<sU i:=Nat.mul_pos (Nat.pow_pos (by decide)) (Nat.two_pow_pos 1074)
theorem jF (Y j k i s z t:Nat)(e:Int)(hi:i<696)(hY:0<Y)(hx:Y*2^j<18446744073709551616)(hz:j+t=z)(he:e=(k:Int)-1074-z)(hs:-(e+lpI i+3)=s)(h5:5≤s∧7≤j∨4≤s∧8≤j) :
  bU (Y*2^j) (aG i) (aO i) s=unr (Y*sV k i) (sU i*2^t):=by
 have hN:oX (Y*2^j) (pmN i) s (gL i) (dB i):=by
  have e:∀c,c≤j→Y*2^j%2^c=0:=fun c h=>by
   rw[show 2^j=2^(j-c)*2^c by rw[←Nat.pow_add];congr 1;omega,←Nat.mul_assoc];exact Nat.mul_mod_left _ _
  exact aDe _ i s hi (Nat.mul_pos hY (Nat.two_pow_pos _)) hx (h5.imp (fun h=>⟨h.1,e 7 h.2⟩) (fun h=>⟨h.1,e 8 h.2⟩))
 rw[aBU _ i s e hi (Nat.mul_pos hY (Nat.two_pow_pos _)) hx hs hN];refine qJ _ _ _ _ (Nat.mul_pos (Nat.pow_pos (by decide)) (Nat.two_pow_pos _)) (Nat.mul_pos (aAA i) (Nat.two_pow_pos _)) ?_;unfold sU sV;have e1:2^j*2^e.toNat*2^1074*2^t=2^k*2^(-e).toNat:=by
  obtain ⟨zz, hzz⟩ : ∃ zz, 1074 = zz := ⟨_, rfl⟩
  rw [hzz]
  rw[←Nat.pow_add,←Nat.pow_add,←Nat.pow_add,←Nat.pow_add];congr 1;omega
 generalize (2:Nat)^1074=y at *
 generalize (2:Nat)^j=a1 at *
 generalize (2:Nat)^k=a2 at *
 generalize (2:Nat)^e.toNat=a3 at *
 generalize (2:Nat)^(-e).toNat=a4 at *
 generalize (2:Nat)^t=a5 at *
 generalize (10:Nat)^(i-348)=b1 at *
 generalize (10:Nat)^(348-i)=b2 at *
 calc Y*a1*b1*a3*(b2*y*a5)=Y*b1*b2*(a1*a3*y*a5):=by ac_rfl
  _=Y*b1*b2*(a2*a4):=by rw[e1]
  _=Y*(a2*b1)*(b2*a4):=by ac_rfl
theorem aE7 (U V M umax odd dmax:Nat)(hU:0<U)(ho:M%2=odd)(hu:umax=unr ((2*M+1)*V) (U*2^1))(hb:odd≤umax)(hd:(umax-odd) / 4=dmax)(n:Nat) :
  n≤dmax↔2*n*U≤(2*M+1)*V∧(M%2=1→2*n*U<(2*M+1)*V):=by
 have g:=fun k=>eW ((2*M+1)*V) (U*2^1) k (by omega)
 have l:=fun k=>dZ ((2*M+1)*V) (U*2^1) k (by omega)
 rw[←hu]at g l
 generalize (2*M+1)*V=A at *
 have e:(2*n)*(U*2^1)=2*(2*n*U):=by rw[Nat.pow_one];ac_rfl
 have g2:=g (2*n);have l2:=l (2*n);rw[e]at g2 l2
 generalize 2*n*U=z at *
 have:odd=0∨odd=1:=by omega
 rcases this with rfl|rfl
 ·constructor
  ·intro h;exact⟨by have:=g2.1 (by omega);omega,fun h=>by omega⟩
  ·rintro⟨h,_⟩;have:=g2.2 (by omega);omega
 ·constructor
  ·intro h;have:¬umax≤2*(2*n):=by omega
   rw[l2]at this
   exact⟨by omega,fun _=>by omega⟩
  ·rintro⟨_,h⟩;have:=h ho;have:¬umax≤2*(2*n):=by rw[l2];omega
   omega
theorem aLO (U V M umin odd dmin:Nat)(hU:0<U)(hM:1≤M)(ho:M%2=odd)(hu:umin=unr ((2*M-1)*V) (U*2^1))(hd:(umin+odd+3) / 4=dmin)(n:Nat) :
  dmin≤n↔2*M*V≤2*n*U+V∧(M%2=1→2*M*V<2*n*U+V):=by
 have g:=fun k=>eW ((2*M-1)*V) (U*2^1) k (by omega)
 have l:=fun k=>dZ ((2*M-1)*V) (U*2^1) k (by omega)
 rw[←hu]at g l
 have eA:2*M*V=(2*M-1)*V+V:=by rw[←Nat.succ_mul];congr 1;omega
 rw[eA];generalize (2*M-1)*V=A at *
 have e:(2*n)*(U*2^1)=2*(2*n*U):=by rw[Nat.pow_one];ac_rfl
 have g2:=g (2*n);have l2:=l (2*n);rw[e]at g2 l2
 generalize 2*n*U=z at *
 have:odd=0∨odd=1:=by omega
 rcases this with rfl|rfl
 ·constructor
  ·intro h;exact⟨by have:=l2.1 (by omega);omega,fun h=>by omega⟩
  ·rintro⟨h,_⟩;have:=l2.2 (by omega);omega
 ·constructor
  ·intro h;have:¬ 2*(2*n)≤umin:=by omega
   rw[g2]at this
   exact⟨by omega,fun _=>by omega⟩
  ·rintro⟨_,h⟩;have:=h ho;have:¬ 2*(2*n)≤umin:=by rw[g2];omega
   omega
theorem aDa (U V M umin dmin:Nat)(hU:0<U)(hM:1≤M)(hu:umin=unr ((4*M-1)*V) (U*2^2))(hd:(umin+3) / 4=dmin)(n:Nat) :
  dmin≤n↔4*M*V≤4*n*U+V:=by
 have l:=fun k=>dZ ((4*M-1)*V) (U*2^2) k (by omega)
 rw[←hu]at l
 have eA:4*M*V=(4*M-1)*V+V:=by rw[←Nat.succ_mul];congr 1;omega
 rw[eA];generalize (4*M-1)*V=A at *
 have e:(2*n)*(U*2^2)=2*(4*n*U):=by rw[show(2:Nat)^2=4 from rfl];ac_rfl
 have l2:=l (2*n);rw[e]at l2
 generalize 4*n*U=z at *
 constructor
 ·intro h;have:=l2.1 (by omega);omega
 ·intro h;have:=l2.2 (by omega);omega
def iR (k:Nat):Nat:=(348-((k:Int)-1074)*78913 / 262144).toNat
def iS (k:Nat):Nat:=(348-(((k:Int)-1074)*631305-261663) / 2097152).toNat
def aCk (k:Nat):Prop:=iR k≤672∧(iR k:Int)-348=-(((k:Int)-1074)*78913 / 262144)∧sU (iR k)≤sV k (iR k)∧sV k (iR k)<10*sU (iR k)∧5≤1082-(k:Int)-lpI (iR k)∧1082-(k:Int)-lpI (iR k)≤15∧56≤iR k
def zE (k:Nat):Prop:=iS k≤672∧(iS k:Int)-348=-((((k:Int)-1074)*631305-261663) / 2097152)∧4*sU (iS k)≤3*sV k (iS k)∧3*sV k (iS k)<40*sU (iS k)∧5≤1082-(k:Int)-lpI (iS k)∧1082-(k:Int)-lpI (iS k)≤15∧56≤iS k
instance (k:Nat):Decidable (aCk k):=by unfold aCk;exact inferInstance
instance (k:Nat):Decidable (zE k):=by unfold zE;exact inferInstance
theorem aMb:((List.range 2046).all fun k=>decide (aCk k))=true:=by kernel_rfl
theorem aKn:((List.range 2046).all fun k=>decide (zE k))=true:=by kernel_rfl
theorem aDz (k:Nat)(h:k<2046):aCk k:=of_decide_eq_true (List.all_eq_true.1 aMb k (List.mem_range.2 h))
theorem aFk (k:Nat)(h:k<2046):zE k:=of_decide_eq_true (List.all_eq_true.1 aKn k (List.mem_range.2 h))
theorem aN8:lpI (iR 0)=1076:=by kernel_rfl
theorem aBR (M p:Nat):M*p+(M*p+p)=(2*M+1)*p:=by rw[Nat.add_mul,Nat.one_mul,Nat.mul_assoc];omega
theorem aN4 (n y z:Nat):2*(n*y*z)=2*n*(y*z):=by ac_rfl
theorem aFl (n i:Nat)(hi:i≤696):2*aV n (696-i)=2*n*sU i:=by
 unfold aV sU;rw[show 696-i-348=348-i by omega];exact aN4 _ _ _
theorem aNF (M k i n:Nat)(hi:i≤696)(hM:1≤M)(hm:M<9007199254740992)(hk:4503599627370496<M∨k=0)(hr:k*4503599627370496+M<aI) :
  bB (aV n (696-i)) (aE (696-i)) (k*4503599627370496+M)↔(2*M*sV k i≤2*n*sU i+sV k i∧(M%2=1→2*M*sV k i<2*n*sU i+sV k i))∧(2*n*sU i≤(2*M+1)*sV k i∧(M%2=1→2*n*sU i<(2*M+1)*sV k i)):=by
 have eA:=aFl n i hi;have eB:aE (696-i)=10^(i-348):=by unfold aE;rw[show 348-(696-i)=i-348 by omega]
 have hv:=gW k M hm (by omega);have hu:=mL k M hm (by omega);have hs:=gI (k*4503599627370496+M);rw[hv,hu]at hs
 have hq:∀q,k*4503599627370496+M=q+1→aL q+aL (k*4503599627370496+M)+2^k=2*M*2^k:=by
  intro q hq;have hs':=gI q;have hu':ulp q=2^k:=by
   rw[show q=k*4503599627370496+(M-1) by omega];exact mL k (M-1) (by omega) (by omega)
  rw[←hq,hv,hu']at hs'
  rw[hv,Nat.mul_assoc];omega
 obtain⟨q0,hq0⟩:∃q,k*4503599627370496+M=q+1:=⟨k*4503599627370496+M-1,by omega⟩
 have e1:(aL q0+aL (k*4503599627370496+M))*10^(i-348)+sV k i=2*M*sV k i:=by
  unfold sV;rw[←Nat.mul_assoc,←Nat.add_mul,hq q0 hq0]
 have e2:(aL (k*4503599627370496+M)+aL (k*4503599627370496+M+1))*10^(i-348)=(2*M+1)*sV k i:=by
  unfold sV;rw[←Nat.mul_assoc,hs,hv,aBR]
 have hpar:(k*4503599627370496+M)%2=M%2:=by omega
 constructor
 ·intro h;have a:=h.lo q0 hq0;have b:=h.hi hr;rw[eA,eB]at a b
  rw[e2]at b
  rw[hpar]at a b
  refine⟨⟨by omega,fun g=>by have:=a.2 g;omega⟩,b⟩
 ·rintro⟨a,b⟩;refine⟨Nat.le_of_lt hr,fun q hq'=>?_,fun _=>?_⟩
  ·obtain rfl:q=q0:=by omega
   rw[eA,eB,hpar];exact⟨by omega,fun g=>by have:=a.2 g;omega⟩
  ·rw[eA,eB,hpar,e2];exact b
theorem aMh (M k i n:Nat)(hi:i≤696)(hk:1≤k)(hM:M=4503599627370496)(hr:k*4503599627370496+M<aI) :
  bB (aV n (696-i)) (aE (696-i)) (k*4503599627370496+M)↔(4*M*sV k i≤4*n*sU i+sV k i)∧(2*n*sU i≤(2*M+1)*sV k i):=by
 have eA:=aFl n i hi;have eB:aE (696-i)=10^(i-348):=by unfold aE;rw[show 348-(696-i)=i-348 by omega]
 have hm:M<9007199254740992:=by omega
 have hv:=gW k M hm (by omega);have hu:=mL k M hm (by omega);have hs:=gI (k*4503599627370496+M);rw[hv,hu]at hs
 obtain⟨j,hj⟩:∃j,k=j+1:=⟨k-1,by omega⟩
 have hq:∀q,k*4503599627370496+M=q+1→2*(aL q+aL (k*4503599627370496+M))+2^k=4*M*2^k:=by
  intro q hq;have hs':=gI q;have hu':ulp q=2^j:=by
   rw[show q=j*4503599627370496+9007199254740991 by omega];exact mL j _ (by omega) (by omega)
  rw[←hq,hv,hu']at hs'
  have e2:2^k=2*2^j:=by rw[hj,Nat.pow_succ,Nat.mul_comm]
  rw[hv,Nat.mul_assoc 4];omega
 have ev:M%2=0:=by omega
 obtain⟨q0,hq0⟩:∃q,k*4503599627370496+M=q+1:=⟨k*4503599627370496+M-1,by omega⟩
 have e1:2*((aL q0+aL (k*4503599627370496+M))*10^(i-348))+sV k i=4*M*sV k i:=by
  unfold sV;rw[←Nat.mul_assoc 2,←Nat.mul_assoc (4*M),←Nat.add_mul,hq q0 hq0]
 have e2:(aL (k*4503599627370496+M)+aL (k*4503599627370496+M+1))*10^(i-348)=(2*M+1)*sV k i:=by
  unfold sV;rw[←Nat.mul_assoc,hs,hv,aBR]
 have e4:4*n*sU i=2*(2*n*sU i):=by rw[←Nat.mul_assoc,←Nat.mul_assoc]
 have hpar:(k*4503599627370496+M)%2=0:=by omega
 rw[e4];constructor
 ·intro h;have a:=h.lo q0 hq0;have b:=h.hi hr;rw[eA,eB]at a b
  rw[e2]at b
  exact⟨by omega,b.1⟩
 ·rintro⟨a,b⟩;refine⟨Nat.le_of_lt hr,fun q hq'=>?_,fun _=>?_⟩
  ·obtain rfl:q=q0:=by omega
   rw[eA,eB,hpar];exact⟨by omega,fun g=>by omega⟩
  ·rw[eA,eB,hpar,e2];exact⟨b,fun g=>by omega⟩
structure fJ (r d:Nat) (q:Int) (j:Nat):Prop where
 idx:(j:Int)=q+348
 j1:24≤j
 j2:j≤641
 pos:1≤d
 lt:d<100000000000000000
 rn:bB (aV d j) (aE j) r
 coarse:∀n,bB (aV n (j+1)) (aE (j+1)) r→10*n=d
 near:∀n,bB (aV n j) (aE j) r→n<d+10
 pick:(∀n,bB (aV n j) (aE j) r→n=d)∨((∀n,¬bB (aV n (j+1)) (aE (j+1)) r)∧jQ (2*(aL r*10^348)) (10^j*2^1074) d)
theorem aGN (n a z:Nat):n*(a*10)*z*1=10*n*a*z*1:=by ac_rfl
theorem aGO (n b z:Nat):n*1*z*(b*10)=10*n*1*z*b:=by ac_rfl
theorem iI (n j r:Nat):bB (aV n (j+1)) (aE (j+1)) r↔bB (aV (10*n) j) (aE j) r:=by
 have e:aV n (j+1)*aE j=aV (10*n) j*aE (j+1):=by
  unfold aV aE;by_cases h:348≤j
  ·rw[show j+1-348=j-348+1 by omega,show 348-j=0 by omega,show 348-(j+1)=0 by omega,Nat.pow_succ,Nat.pow_zero];exact aGN _ _ _
  ·rw[show j+1-348=0 by omega,show j-348=0 by omega,show 348-j=348-(j+1)+1 by omega,Nat.pow_succ 10 (348 - (j + 1)),Nat.pow_zero];exact aGO _ _ _
 exact⟨jH _ _ _ _ _ (dK _) (dK _) e,jH _ _ _ _ _ (dK _) (dK _) e.symm⟩
theorem aDI (r i dmin dmax dm:Nat)(hi:56≤i)(hi2:i≤672)(hp:aFs dmin dmax dm)(h1:1≤dmin)(hmax:dmax<100000000000000000)
  (hrn:∀n,bB (aV n (696-i)) (aE (696-i)) r↔dmin≤n∧n≤dmax) (hdm:jQ (2*(aL r*10^348)) (10^(696-i)*2^1074) dm) :
  ∃d q j,bA dmin dmax dm ((i:Int)-348)=(d,q)∧fJ r d q j:=by
 have w:=hp.wide;rcases aF3 dmin dmax dm ((i:Int)-348) hp h1 with⟨d,e,a1,a2,a3,a4⟩|⟨d,e,a1,a2,a3,a4,a5⟩
 ·refine⟨d,_,697-i,e,by omega,by omega,by omega,a1,by omega,?_,fun n h=>?_,fun n h=>?_,.inl fun n h=>?_⟩
  ·rw[show 697-i=696-i+1 by omega,iI,hrn];exact⟨a2,a3⟩
  ·rw[iI,show 697-i=696-i+1 by omega,iI,hrn]at h
   exact a4 _ h.1 h.2
  ·rw[show 697-i=696-i+1 by omega,iI,hrn]at h
   have:=a4 n h.1 h.2;omega
  ·rw[show 697-i=696-i+1 by omega,iI,hrn]at h
   exact a4 n h.1 h.2
 ·refine⟨d,_,696-i,e,by omega,by omega,by omega,a1,by omega,?_,fun n h=>?_,fun n h=>?_,?_⟩
  ·rw[hrn];exact⟨a2,a3⟩
  ·rw[iI,hrn]at h
   exact(a4 n h.1 h.2).elim
  ·rw[hrn]at h
   omega
  ·refine a5.imp (fun g n h=>?_) (fun g=>⟨fun n h=>?_,by rw[g];exact hdm⟩)
   ·rw[hrn]at h
    exact g n h.1 h.2
   ·rw[iI,hrn]at h
    exact(a4 n h.1 h.2).elim
theorem aM1 (M k i r:Nat)(hi:i≤696)(hv:aL r=M*2^k):M*sV k i*(10^(696-i)*2^1074)=aL r*10^348*sU i:=by
 unfold sV sU;rw[hv];have e0:i-348+(696-i)=348+(348-i):=by omega
 have e:10^(i-348)*10^(696-i)=10^348*10^(348-i):=by rw [← Nat.pow_add, e0, Nat.pow_add 10 348 (348 - i)]
 generalize (2:Nat)^1074=y at *
 generalize (2:Nat)^k=a2 at *
 generalize (10:Nat)^(i-348)=b1 at *
 generalize (10:Nat)^(696-i)=b2 at *
 generalize (10:Nat)^348=b3 at *
 generalize (10:Nat)^(348-i)=b4 at *
 calc M*(a2*b1)*(b2*y)=M*a2*y*(b1*b2):=by ac_rfl
  _=M*a2*y*(b3*b4):=by rw[e]
  _=M*a2*b3*(b4*y):=by ac_rfl
theorem tJ (M k i r:Nat)(hi:i≤696)(hv:aL r=M*2^k):unr (M*sV k i) (sU i)=unr (aL r*10^348) (10^(696-i)*2^1074) :=
 qJ _ _ _ _ (aAA i) (Nat.mul_pos (Nat.pow_pos (by decide)) (Nat.two_pow_pos 1074)) (aM1 M k i r hi hv)
theorem pW (A B u:Nat)(hB:0<B)(hu:u=unr A B):jQ (2*A) B (aU u):=nU A B _ hB (by rw[hu];rfl)
theorem aDi (u:Nat)(odd:Nat)(h:u<9223372036854775808)(ho:odd≤1):oB (dV u odd)=(u+odd+3) / 4:=by
 unfold oB dV;omega
theorem aAi (u:Nat)(odd:Nat)(h:u<9223372036854775808)(ho:odd≤u):dV u (-(odd:Int))=u-odd:=by
 unfold dV;omega
theorem jV (u:Nat)(h:u<9223372036854775808):eV u=aU u:=by
 unfold eV aU;omega
theorem lN (Y U V t:Nat)(hU:0<U)(hV:V<20*U)(hY:Y<36028797018963968):unr (Y*V) (U*2^t)<9223372036854775808:=by
 have hp:=Nat.two_pow_pos t;have:unr (Y*V) (U*2^t)≤2*(40*Y):=by
  rw[dZ _ _ _ (Nat.mul_pos hU hp)];have a:Y*V≤Y*(20*U):=Nat.mul_le_mul_left _ (by omega);have b:Y*(20*U)*1≤Y*(20*U)*2^t:=Nat.mul_le_mul_left _ hp;have e:40*Y*(U*2^t)=2*(Y*(20*U)*2^t):=by
   generalize 2^t=p;rw[show 40*Y*(U*p)=2*(20*(Y*(U*p))) by rw[Nat.mul_assoc 40];omega];congr 1;ac_rfl
  omega
 omega
theorem aJH (M z:Nat)(hz:1≤z):M*2^z-2^(z-1)=(2*M-1)*2^(z-1)∧M*2^z+2^(z-1)=(2*M+1)*2^(z-1):=by
 have e:M*2^z=2*M*2^(z-1):=by
  rw[show 2^z=2*2^(z-1) by rw[Nat.mul_comm,←Nat.pow_succ];congr 1;omega];ac_rfl
 rw[e,Nat.sub_mul,Nat.add_mul,Nat.one_mul];exact⟨rfl,rfl⟩
theorem aBK (M k z i s odd umin umax um:Nat)(e:Int)(hk:k<2046)(hM:1≤M)(hm:M<9007199254740992)(hkM:4503599627370496<M∨k=0)(hz:11≤z)(hx:M*2^z<18446744073709551616)
  (hr:k*4503599627370496+M<aI) (hi:i=iR k) (he:e=(k:Int)-1074-z) (hs:-(e+lpI i+3)=s) (ho:M%2=odd)
  (h1:bU (M*2^z-2^(z-1)) (aG i) (aO i) s=umin) (h2:bU (M*2^z+2^(z-1)) (aG i) (aO i) s=umax) (h3:bU (M*2^z) (aG i) (aO i) s=um) :
  ∃d q j,bA (oB (dV umin odd)) (dV umax (-(odd:Int)) / 4) (eV um) ((i:Int)-348)=(d,q)∧fJ (k*4503599627370496+M) d q j:=by
 obtain⟨r1,r2,r3,r4,r5,r6,r7⟩:=aDz k hk;rw[←hi]at r1 r2 r3 r4 r5 r6 r7
 have h5:5≤s:=by omega
 have hU:=aAA i;obtain⟨p1,p2⟩:=aJH M z (by omega);have hzp:2^z=2*2^(z-1):=by rw[Nat.mul_comm,←Nat.pow_succ];congr 1;omega
 have hsm:M*2^z+2^(z-1)<18446744073709551616:=by
  have hz64:z<64:=by
   refine Nat.lt_of_not_le fun h=>?_
   have a:2^64≤2^z:=Nat.pow_le_pow_right (by decide) h;have b:1*2^z≤M*2^z:=Nat.mul_le_mul_right _ hM;have c:(2:Nat)^64=18446744073709551616:=by decide
   omega
  have e64:18446744073709551616=2^(64-z)*2^z:=by rw[←Nat.pow_add,show 64-z+z=64 by omega]
  rw[e64]at hx
  have:=Nat.lt_of_mul_lt_mul_right hx;have:(M+1)*2^z≤2^(64-z)*2^z:=Nat.mul_le_mul_right _ this;rw[←e64,Nat.add_mul]at this
  have:=Nat.two_pow_pos (z-1);omega
 have u1:=jF (2*M-1) (z-1) k i s z 1 e (by omega) (by omega) (by rw[←p1];omega) (by omega) he hs (.inl ⟨h5,by omega⟩);have u2:=jF (2*M+1) (z-1) k i s z 1 e (by omega) (by omega) (by rw[←p2];omega) (by omega) he hs (.inl ⟨h5,by omega⟩);have u3:=jF M z k i s z 0 e (by omega) hM hx (by omega) he hs (.inl ⟨h5,by omega⟩);rw[←p1,h1]at u1
 rw[←p2,h2]at u2
 rw[h3]at u3
 have b1:umin<9223372036854775808:=by rw[u1];exact lN _ _ _ _ hU (by omega) (by omega)
 have b2:umax<9223372036854775808:=by rw[u2];exact lN _ _ _ _ hU (by omega) (by omega)
 have b3:um<9223372036854775808:=by rw[u3];exact lN _ _ _ _ hU (by omega) (by omega)
 have o1:odd≤1:=by omega
 have o2:odd≤umax:=by
  have:2*1≤umax:=by
   rw[u2,eW _ _ _ (by omega)];have:1*sV k i≤(2*M+1)*sV k i:=Nat.mul_le_mul_right _ (by omega);omega
  omega
 rw[aDi umin odd b1 o1,aAi umax odd b2 o2,jV um b3];have m1:=aE7 (sU i) (sV k i) M umax odd _ hU ho u2 o2 rfl;have m2:=aLO (sU i) (sV k i) M umin odd _ hU hM ho u1 rfl;rw[Nat.pow_zero,Nat.mul_one]at u3
 obtain⟨⟨q1,_⟩,q2,_⟩:=nU (M*sV k i) (sU i) _ hU (show aU (unr (M*sV k i) (sU i))=aU um by rw[←u3]);have eMV:2*(M*sV k i)=2*M*sV k i:=by rw[Nat.mul_assoc]
 rw[eMV]at q1 q2
 have eU:(2*aU um+1)*sU i=2*aU um*sU i+sU i:=by rw[Nat.add_mul,Nat.one_mul]
 rw[eU]at q1
 have EV:=pW _ _ um (Nat.mul_pos (Nat.pow_pos (by decide)) (Nat.two_pow_pos _)) (u3.trans (tJ M k i (k*4503599627370496+M) (by omega) (gW k M hm (by omega))));refine aDI _ i _ _ _ r7 r1 (aJ7 (sU i) (sV k i) M _ _ _ r3 r4 m2 m1 q1 q2) ?_ ?_ (fun n=>?_) EV
 ·refine Nat.lt_of_not_le fun h=>?_
  have:=((m2 0).1 h).1;have:2*sV k i≤2*M*sV k i:=Nat.mul_le_mul_right _ (by omega);omega
 ·have:=((m1 _).1 (Nat.le_refl ((umax-odd) / 4))).1;have a:(2*M+1)*sV k i≤(2*M+1)*(10*sU i):=Nat.mul_le_mul_left _ (by omega);have:2*((umax-odd) / 4)*sU i≤10*(2*M+1)*sU i:=by
   rw[show 10*(2*M+1)*sU i=(2*M+1)*(10*sU i) by rw[Nat.mul_comm 10,Nat.mul_assoc]];omega
  have:=Nat.le_of_mul_le_mul_right this hU;omega
 ·rw[aNF M k i n (by omega) hM hm hkM hr,m2,m1]
theorem aGl (M k i s umin umax um:Nat)(e:Int)(hk:k<2046)(hk1:1≤k)(hM:M=4503599627370496)(hr:k*4503599627370496+M<aI)(hi:i=iS k)(he:e=(k:Int)-1074-11)(hs:-(e+lpI i+3)=s)
  (h1:bU (9223372036854775808-512) (aG i) (aO i) s=umin) (h2:bU (9223372036854775808+1024) (aG i) (aO i) s=umax) (h3:bU 9223372036854775808 (aG i) (aO i) s=um) :
  ∃d q j,bA (oB (dV umin (0:Nat))) (dV umax (-((0:Nat):Int)) / 4) (eV um) ((i:Int)-348)=(d,q)∧fJ (k*4503599627370496+M) d q j:=by
 obtain⟨r1,r2,r3,r4,r5,r6,r7⟩:=aFk k hk;rw[←hi]at r1 r2 r3 r4 r5 r6 r7
 have h5:5≤s:=by omega
 have hU:=aAA i;have u1:=jF (4*M-1) 9 k i s 11 2 e (by omega) (by omega) (by rw[hM];decide) (by omega) he hs (.inl ⟨h5,by omega⟩);have u2:=jF (2*M+1) 10 k i s 11 1 e (by omega) (by omega) (by rw[hM];decide) (by omega) he hs (.inl ⟨h5,by omega⟩);have u3:=jF M 11 k i s 11 0 e (by omega) (by omega) (by rw[hM];decide) (by omega) he hs (.inl ⟨h5,by omega⟩);have p1:(4*M-1)*2^9=9223372036854775808-512:=by rw[hM]
 have p2:(2*M+1)*2^10=9223372036854775808+1024:=by rw[hM]
 have p3:M*2^11=9223372036854775808:=by rw[hM]
 rw[p1,h1]at u1
 rw[p2,h2]at u2
 rw[p3,h3]at u3
 have b1:umin<9223372036854775808:=by rw[u1];exact lN _ _ _ _ hU (by omega) (by omega)
 have b2:umax<9223372036854775808:=by rw[u2];exact lN _ _ _ _ hU (by omega) (by omega)
 have b3:um<9223372036854775808:=by rw[u3];exact lN _ _ _ _ hU (by omega) (by omega)
 rw[aDi umin 0 b1 (by omega),aAi umax 0 b2 (by omega),jV um b3];have m1:=aE7 (sU i) (sV k i) M umax 0 _ hU (by omega) u2 (by omega) rfl;have m2:=aDa (sU i) (sV k i) M umin ((umin+0+3) / 4) hU (by omega) u1 rfl;have m1':∀n,n≤(umax-0) / 4↔2*n*sU i≤(2*M+1)*sV k i:=fun n=>by
  rw[m1];exact⟨fun h=>h.1,fun h=>⟨h,fun g=>by omega⟩⟩
 rw[Nat.pow_zero,Nat.mul_one]at u3
 obtain⟨⟨q1,_⟩,q2,_⟩:=nU (M*sV k i) (sU i) _ hU (show aU (unr (M*sV k i) (sU i))=aU um by rw[←u3]);have eMV:2*(M*sV k i)=2*M*sV k i:=by rw[Nat.mul_assoc]
 rw[eMV]at q1 q2
 have eU:(2*aU um+1)*sU i=2*aU um*sU i+sU i:=by rw[Nat.add_mul,Nat.one_mul]
 rw[eU]at q1
 have EV:=pW _ _ um (Nat.mul_pos (Nat.pow_pos (by decide)) (Nat.two_pow_pos _)) (u3.trans (tJ M k i (k*4503599627370496+M) (by omega) (gW k M (by omega) (by omega))));refine aDI _ i _ _ _ r7 r1 (aH3 (sU i) (sV k i) M _ _ _ r3 r4 m2 m1' q1 q2) ?_ ?_ (fun n=>?_) EV
 ·refine Nat.lt_of_not_le fun h=>?_
  have:=((m2 0).1 h)
  have:4*sV k i≤4*M*sV k i:=Nat.mul_le_mul_right _ (by omega);omega
 ·have:=((m1' _).1 (Nat.le_refl ((umax-0) / 4)))
  have a:(2*M+1)*sV k i≤(2*M+1)*(14*sU i):=Nat.mul_le_mul_left _ (by omega);have:2*((umax-0) / 4)*sU i≤14*(2*M+1)*sU i:=by
   rw[show 14*(2*M+1)*sU i=(2*M+1)*(14*sU i) by rw[Nat.mul_comm 14,Nat.mul_assoc]];omega
  have:=Nat.le_of_mul_le_mul_right this hU;omega
 ·rw[aMh M k i n (by omega) hk1 hM hr,m2,m1']
end Go.Proofs.YtcfgbdhpcboikaaGreatDoor
