/-
Unrounded numbers: twice the whole number of halves, with a bit for what is left over. No program in sight.
-/
import Derived.Test.YtcfgbdhpcboikaaGreatDoorLookX
namespace Go.Proofs.YtcfgbdhpcboikaaGreatDoor
def unr (A B:Nat):Nat:=2*(2*A / B)+(if 2*A%B=0 then 0 else 1)
theorem jJ (A B k:Nat)(hB:0<B):2*k≤unr A B↔k*B≤2*A:=by
 unfold unr;rw[←Nat.le_div_iff_mul_le hB];split<;>omega
theorem iX (A B k:Nat)(hB:0<B):unr A B≤2*k↔2*A≤k*B:=by
 unfold unr;have e:=Nat.div_add_mod (2*A) B;have l:=Nat.mod_lt (2*A) hB;generalize 2*A / B=f at *
 generalize 2*A%B=r at *
 constructor
 ·intro h;by_cases h0:r=0
  ·rw[if_pos h0]at h
   have:B*f≤B*k:=Nat.mul_le_mul_left _ (by omega);rw[Nat.mul_comm k];omega
  ·rw[if_neg h0]at h
   have:B*(f+1)≤B*k:=Nat.mul_le_mul_left _ (by omega);rw[Nat.mul_add]at this
   rw[Nat.mul_comm k];omega
 ·intro h;rw[Nat.mul_comm k]at h
  by_cases h0:r=0
  ·rw[if_pos h0];have:B*f≤B*k:=by omega
   have:=Nat.le_of_mul_le_mul_left this hB;omega
  ·rw[if_neg h0];have:B*f<B*k:=by omega
   have:=Nat.lt_of_mul_lt_mul_left this;omega
theorem vL (q:Nat):q ||| 1=2*(q / 2)+1:=by
 have e:(q ||| 1) / 2=q / 2:=by
  have:=Nat.or_div_two_pow (a:=q) (b:=1) (n:=1);simpa using this
 have e2:(q ||| 1)%2=1:=by
  rw[show(2:Nat)=2^1 from rfl,Nat.or_mod_two_pow];have:q%2=0∨q%2=1:=by omega
  rcases this with h|h<;>rw[show(2:Nat)^1=2 from rfl,h]<;>decide
 omega
theorem sE (A C q:Nat)(h1:q*C<A)(h2:A<(q+1)*C):unr A (4*C)=q ||| 1:=by
 rw[vL];have hC:0<C:=by
  rcases Nat.eq_zero_or_pos C with h|h
  ·rw[h]at h2;omega
  ·exact h
 have a1:2*(q / 2)≤unr A (4*C):=by
  rw[jJ _ _ _ (by omega)];have:(2*(q / 2))*C≤q*C:=Nat.mul_le_mul_right _ (by omega);have e:q / 2*(4*C)=2*((2*(q / 2))*C):=by
   rw[show 4*C=2*(2*C) by omega,Nat.mul_left_comm,Nat.mul_assoc 2,Nat.mul_left_comm (q / 2)]
  omega
 have a2:unr A (4*C)≤2*(q / 2+1):=by
  rw[iX _ _ _ (by omega)];have:(q+1)*C≤(2*(q / 2+1))*C:=Nat.mul_le_mul_right _ (by omega);have e:(q / 2+1)*(4*C)=2*((2*(q / 2+1))*C):=by
   rw[show 4*C=2*(2*C) by omega,Nat.mul_left_comm,Nat.mul_assoc 2,Nat.mul_left_comm (q / 2+1)]
  omega
 have n1:¬unr A (4*C)≤2*(q / 2):=by
  rw[iX _ _ _ (by omega)];have:(2*(q / 2))*C≤q*C:=Nat.mul_le_mul_right _ (by omega);have e:q / 2*(4*C)=2*((2*(q / 2))*C):=by
   rw[show 4*C=2*(2*C) by omega,Nat.mul_left_comm,Nat.mul_assoc 2,Nat.mul_left_comm (q / 2)]
  omega
 have n2:¬ 2*(q / 2+1)≤unr A (4*C):=by
  rw[jJ _ _ _ (by omega)];have:(q+1)*C≤(2*(q / 2+1))*C:=Nat.mul_le_mul_right _ (by omega);have e:(q / 2+1)*(4*C)=2*((2*(q / 2+1))*C):=by
   rw[show 4*C=2*(2*C) by omega,Nat.mul_left_comm,Nat.mul_assoc 2,Nat.mul_left_comm (q / 2+1)]
  omega
 omega
theorem aD8 (q C:Nat)(hC:0<C):unr (q*C) (4*C)=q:=by
 unfold unr;have e:2*(q*C)=(2*C)*q:=by rw[Nat.mul_comm q,Nat.mul_assoc]
 have e4:4*C=(2*C)*2:=by omega
 rw[e,e4,Nat.mul_div_mul_left _ _ (by omega),Nat.mul_mod_mul_left];split
 ·rename_i h;have:=(Nat.mul_eq_zero.1 h).resolve_left (by omega);omega
 ·rename_i h;have:q%2≠0:=fun h0=>h (by rw[h0,Nat.mul_zero])
  omega
theorem yX (XT Q D x a:Nat)(h1:Q*D<XT+x*D)(h:a+x≤Q):a*D<XT:=by
 have:=Nat.mul_le_mul_right D h;rw[Nat.add_mul]at this
 omega
theorem yV (XT Q D b:Nat)(hD:0<D)(h1:XT≤Q*D)(h:Q<b):XT<b*D:=Nat.lt_of_le_of_lt h1 (Nat.mul_lt_mul_of_pos_right h hD)
def qW (x pm s T D:Nat):Prop:=∀hi,hi%2^s=0→hi*340282366920938463463374607431768211456<x*pm+18446744073709551616→x*pm≤hi*340282366920938463463374607431768211456+18446744073709551616→x*T=hi*340282366920938463463374607431768211456*D
theorem uI (q s D:Nat):q*(D*(2^s*340282366920938463463374607431768211456))=q*2^s*340282366920938463463374607431768211456*D:=by
 rw[Nat.mul_comm D,←Nat.mul_assoc,←Nat.mul_assoc]
theorem aIz (x h l s pm T D:Nat)(hx0:0<x)(hx:x<18446744073709551616)(hh:h<18446744073709551616)(hl:l<18446744073709551616)(hD:0<D)(hpm:pm+l=h*18446744073709551616)
  (t1:T≤pm*D) (t2:pm*D<T+D) (hN:qW x pm s T D):cQ x h l s=unr (x*T) (4*(D*(2^s*340282366920938463463374607431768211456))):=by
 obtain⟨Q,hQ⟩:∃Q,x*pm=Q:=⟨_,rfl⟩
 have x1:x*T≤Q*D:=by rw[←hQ,Nat.mul_assoc];exact Nat.mul_le_mul_left _ t1
 have x2:Q*D<x*T+x*D:=by rw[←hQ,Nat.mul_assoc,←Nat.mul_add];exact Nat.mul_lt_mul_of_pos_left t2 hx0
 have hA:Q+x*l=x*h*18446744073709551616:=by rw[←hQ,←Nat.mul_add,hpm,Nat.mul_assoc]
 have eH:=Nat.div_add_mod (x*h) 18446744073709551616;have lH:=Nat.mod_lt (x*h) (show 18446744073709551616>0 by decide);have eL:=Nat.div_add_mod (x*l) 18446744073709551616;have lL:=Nat.mod_lt (x*l) (show 18446744073709551616>0 by decide);have bL:x*l≤18446744073709551615*18446744073709551615:=Nat.mul_le_mul (by omega) (by omega);rw[←eH]at hA
 rw[←eL]at hA bL
 unfold qW at hN;rw[hQ]at hN
 have p2:0<2^s:=Nat.two_pow_pos s;have bH:=rH x h hx hh;unfold cQ;simp only[];generalize x*h / 18446744073709551616=hi at *
 generalize x*h%18446744073709551616=mid at *
 generalize x*l / 18446744073709551616=mid2 at *
 generalize x*l%18446744073709551616=lo2 at *
 have m2:mid2≤18446744073709551614:=by omega
 have hmod:=Nat.div_add_mod hi (2^s);have hml:=Nat.mod_lt hi p2;clear eH eL t1 t2 hpm hQ;generalize x*T=XT at *
 by_cases c1:hi / 2^s*2^s≠hi
 ·rw[if_pos c1];refine(sE _ _ _ ?_ ?_).symm
  ·rw[uI];refine yX XT Q D x _ x2 ?_;have:hi / 2^s*2^s≤hi-1:=by rw[Nat.mul_comm]at c1 ⊢;omega
   have hi1:1≤hi:=by omega
   omega
  ·rw[uI];refine yV XT Q D _ hD x1 ?_;have:hi+1≤(hi / 2^s+1)*2^s:=by rw[Nat.add_mul,Nat.mul_comm];omega
   omega
 ·rw[if_neg c1];have c1:hi / 2^s*2^s=hi:=Classical.not_not.1 c1;by_cases c2:mid<mid2
  ·rw[if_pos c2,if_pos (by omega)];have hi1:1≤hi:=by omega
   have e:(hi+18446744073709551615)%18446744073709551616=hi-1:=by omega
   rw[e];have f1:=Nat.div_add_mod (hi-1) (2^s);have f2:=Nat.mod_lt (hi-1) p2;rw[Nat.mul_comm]at f1
   refine(sE _ _ _ ?_ ?_).symm
   ·rw[uI];refine yX XT Q D x _ x2 ?_;omega
   ·rw[uI];refine yV XT Q D _ hD x1 ?_;have:hi≤((hi-1) / 2^s+1)*2^s:=by rw[Nat.add_mul];omega
    omega
  ·rw[if_neg c2];by_cases c3:1<(mid+18446744073709551616-mid2)%18446744073709551616
   ·rw[if_pos c3];refine(sE _ _ _ ?_ ?_).symm
    ·rw[uI,c1];refine yX XT Q D x _ x2 ?_;omega
    ·rw[uI,Nat.add_mul,c1,Nat.one_mul];refine yV XT Q D _ hD x1 ?_;omega
   ·rw[if_neg c3,Nat.or_zero];have:=hN hi (by rw[Nat.mul_comm]at c1;omega) (by omega) (by omega);rw[this,show hi*340282366920938463463374607431768211456*D=hi / 2^s*(D*(2^s*340282366920938463463374607431768211456)) by rw[uI,c1],aD8 _ _ (Nat.mul_pos hD (Nat.mul_pos p2 (by decide)))]
def bK (r:Nat):Nat:=if r<4503599627370496 then r else (4503599627370496+r%4503599627370496)*2^(r / 4503599627370496-1)
def ulp (r:Nat):Nat:=2^(r / 4503599627370496-1)
theorem aMk (r:Nat):0<ulp r:=Nat.two_pow_pos _
theorem nY (k m:Nat)(hm:m<9007199254740992)(h:4503599627370496≤m∨k=0):bK (k*4503599627370496+m)=m*2^k:=by
 unfold bK;by_cases h1:k*4503599627370496+m<4503599627370496
 ·obtain rfl:k=0:=by omega
  rw[if_pos h1];simp
 ·rw[if_neg h1];by_cases h2:4503599627370496≤m
  ·rw[show(k*4503599627370496+m) / 4503599627370496=k+1 by omega,show 4503599627370496+(k*4503599627370496+m)%4503599627370496=m by omega];rfl
  ·omega
theorem oV (k m:Nat)(hm:m<9007199254740992)(h:4503599627370496≤m∨k=0):ulp (k*4503599627370496+m)=2^k:=by
 unfold ulp;by_cases h2:4503599627370496≤m
 ·rw[show(k*4503599627370496+m) / 4503599627370496=k+1 by omega];rfl
 ·obtain rfl:k=0:=by omega
  rw[show(0*4503599627370496+m) / 4503599627370496=0 by omega]
theorem aGv (r:Nat):∃k m,r=k*4503599627370496+m∧m<9007199254740992∧(4503599627370496≤m∨k=0):=by
 by_cases h:r<4503599627370496
 ·exact⟨0,r,by omega,by omega,.inr rfl⟩
 ·exact⟨r / 4503599627370496-1,r%4503599627370496+4503599627370496,by omega,by omega,.inl (by omega)⟩
theorem kS (r:Nat):bK (r+1)=bK r+ulp r:=by
 obtain⟨k,m,rfl,hm,h⟩:=aGv r;rw[nY k m hm h,oV k m hm h];by_cases h1:m+1<9007199254740992
 ·rw[Nat.add_assoc,nY k (m+1) h1 (by omega),Nat.add_mul,Nat.one_mul]
 ·have:k*4503599627370496+m+1=(k+1)*4503599627370496+4503599627370496:=by omega
  rw[this,nY (k+1) 4503599627370496 (by omega) (.inl (Nat.le_refl _)),Nat.pow_succ];obtain rfl:m=9007199254740991:=by omega
  generalize 2^k=p;omega
theorem jS (a b:Nat)(h:a<b):bK a<bK b:=by
 induction b with
 | zero=>omega
 | succ b ih =>
  have:=kS b;have:=aMk b;rcases Nat.lt_or_ge a b with h1|h1
  ·have:=ih h1;omega
  ·obtain rfl:a=b:=by omega
   omega
theorem nQ (a b:Nat)(h:a≤b):bK a≤bK b:=by
 rcases Nat.lt_or_ge a b with h1|h1
 ·exact Nat.le_of_lt (jS _ _ h1)
 ·obtain rfl:a=b:=by omega
  exact Nat.le_refl _
def aX:Nat:=9218868437227405312
structure cY (A B r:Nat):Prop where
 le:r≤aX
 lo:∀q,r=q+1→(bK q+bK r)*B≤2*A∧(r%2=1→(bK q+bK r)*B<2*A)
 hi:r<aX→2*A≤(bK r+bK (r+1))*B∧(r%2=1→2*A<(bK r+bK (r+1))*B)
theorem aLz (A B r t:Nat)(hB:0<B)(h1:cY A B r)(h2:cY A B t):¬r<t:=by
 intro hlt;obtain⟨q,hq⟩:∃q,t=q+1:=⟨t-1,by omega⟩
 obtain⟨a1,a2⟩:=h1.hi (by have:=h2.le;omega);obtain⟨b1,b2⟩:=h2.lo q hq;have v1:=nQ r q (by omega);have v2:=nQ (r+1) t (by omega);have e:=Nat.le_of_mul_le_mul_right (Nat.le_trans b1 a1) hB;have e1:bK q=bK r:=by omega
 have e2:q=r:=by
  rcases Nat.lt_trichotomy q r with h|h|h
  ·have:=jS _ _ h;omega
  ·exact h
  ·have:=jS _ _ h;omega
 subst e2;subst hq;have:q%2=1∨(q+1)%2=1:=by omega
 rcases this with h|h
 ·have:=a2 h;omega
 ·have:=b2 h;omega
theorem qM (A B r t:Nat)(hB:0<B)(h1:cY A B r)(h2:cY A B t):r=t:=by
 have:=aLz A B r t hB h1 h2;have:=aLz A B t r hB h2 h1;omega
theorem fQ (A B A' B' r:Nat)(hB:0<B)(hB':0<B')(h:A*B'=A'*B)(h1:cY A B r):cY A' B' r:=by
 have c1:∀k,k*B≤2*A→k*B'≤2*A':=fun k g=>by
  refine Nat.le_of_mul_le_mul_right (c:=B) ?_ hB;have:=Nat.mul_le_mul_right B' g;rw[Nat.mul_assoc 2 A',←h,←Nat.mul_assoc,Nat.mul_right_comm];exact this
 have c2:∀k,k*B<2*A→k*B'<2*A':=fun k g=>by
  refine Nat.lt_of_mul_lt_mul_right (a:=B) ?_;have:=Nat.mul_lt_mul_of_pos_right g hB';rw[Nat.mul_assoc 2 A',←h,←Nat.mul_assoc,Nat.mul_right_comm];exact this
 have c3:∀k,2*A≤k*B→2*A'≤k*B':=fun k g=>by
  refine Nat.le_of_mul_le_mul_right (c:=B) ?_ hB;have:=Nat.mul_le_mul_right B' g;rw[Nat.mul_assoc 2 A',←h,←Nat.mul_assoc,Nat.mul_right_comm k];exact this
 have c4:∀k,2*A<k*B→2*A'<k*B':=fun k g=>by
  refine Nat.lt_of_mul_lt_mul_right (a:=B) ?_;have:=Nat.mul_lt_mul_of_pos_right g hB';rw[Nat.mul_assoc 2 A',←h,←Nat.mul_assoc,Nat.mul_right_comm k];exact this
 exact⟨h1.le,fun q hq=>⟨c1 _ (h1.lo q hq).1,fun g=>c2 _ ((h1.lo q hq).2 g)⟩,fun g=>⟨c3 _ (h1.hi g).1,fun g'=>c4 _ ((h1.hi g).2 g')⟩⟩
theorem xO (A B k m:Nat)(hm:m<9007199254740992)(h:4503599627370496≤m∨k=0)
  (up:2*A≤(2*m+1)*2^k*B∧(m%2=1→2*A<(2*m+1)*2^k*B))
  (lo:(m≠4503599627370496∨k=0)→(2*m)*2^k*B≤2*A+2^k*B∧(m%2=1→(2*m)*2^k*B<2*A+2^k*B))
  (lo2:∀j,k=j+1→m=4503599627370496→(4*m)*2^j*B≤2*A+2^j*B):cY A B (min (k*4503599627370496+m) aX):=by
 have hv:=nY k m hm h;have hu:=oV k m hm h;have hs:=kS (k*4503599627370496+m);have hpar:(k*4503599627370496+m)%2=m%2:=by omega
 have low:∀q,k*4503599627370496+m=q+1→(bK q+bK (k*4503599627370496+m))*B≤2*A∧(m%2=1→(bK q+bK (k*4503599627370496+m))*B<2*A):=by
  intro q hq;have hs':=kS q;rw[←hq]at hs'
  by_cases hc:m≠4503599627370496∨k=0
  ·have hu':ulp q=2^k:=by
    have e:q=k*4503599627370496+(m-1):=by omega
    rw[e];exact oV k (m-1) (by omega) (by omega)
   obtain⟨l1,l2⟩:=lo hc;have e:(bK q+bK (k*4503599627370496+m))*B+2^k*B=(2*m)*2^k*B:=by
    rw[←Nat.add_mul];congr 1;rw[hu']at hs'
    rw[Nat.mul_assoc,←hv];omega
   exact⟨by omega,fun g=>by have:=l2 g;omega⟩
  ·obtain⟨j,hj⟩:∃j,k=j+1:=⟨k-1,by omega⟩
   have hm2:m=4503599627370496:=by omega
   have hu':ulp q=2^j:=by
    have e:q=j*4503599627370496+9007199254740991:=by omega
    rw[e];exact oV j _ (by omega) (by omega)
   have l1:=lo2 j hj hm2;have e:(bK q+bK (k*4503599627370496+m))*B+2^j*B=(4*m)*2^j*B:=by
    rw[←Nat.add_mul];congr 1;rw[hu']at hs'
    have:m*2^k=2*(m*2^j):=by rw[hj,Nat.pow_succ];ac_rfl
    rw[Nat.mul_assoc 4];omega
   exact⟨by omega,fun g=>by omega⟩
 by_cases hinf:k*4503599627370496+m<aX
 ·rw[Nat.min_eq_left (Nat.le_of_lt hinf)];refine⟨Nat.le_of_lt hinf,fun q hq=>?_,fun _=>?_⟩
  ·rw[hpar];exact low q hq
  ·rw[hpar,hs,hv,hu];have e:m*2^k+(m*2^k+2^k)=(2*m+1)*2^k:=by rw[Nat.add_mul,Nat.mul_assoc];omega
   rw[e];exact up
 ·rw[Nat.min_eq_right (by omega)];refine⟨Nat.le_refl _,fun q hq=>?_,fun h=>absurd h (Nat.lt_irrefl _)⟩;obtain⟨q',hq'⟩:∃q',k*4503599627370496+m=q'+1:=⟨k*4503599627370496+m-1,by unfold aX at hinf;omega⟩
  have:=(low q' hq').1;have v1:=nQ q q' (by omega);have v2:=nQ aX (k*4503599627370496+m) (by omega);refine⟨Nat.le_trans (Nat.mul_le_mul_right _ (by omega)) this,fun h=>?_⟩;exact absurd h (by unfold aX;decide)
theorem aM7 (u v:Nat)(c1:∀k,2*k≤u↔2*k≤v)(c2:∀k,u≤2*k↔v≤2*k):u=v:=by
 have:=c1 (u / 2);have:=c1 (v / 2);have:=c2 (u / 2);have:=c2 (v / 2);have:=c1 (u / 2+1);omega
theorem aJ5 (A B:Nat)(hB:0<B):unr A (2*B)=unr A B / 2 ||| unr A B%2:=by
 have e:∀u:Nat,u / 2 ||| u%2=if u%2=0 then u / 2 else 2*(u / 4)+1:=by
  intro u;split
  ·rename_i h;rw[h,Nat.or_zero]
  ·rename_i h;rw[show u%2=1 by omega,vL,Nat.div_div_eq_div_mul]
 rw[e];have g1:=fun k=>jJ A B k hB
 have l1:=fun k=>iX A B k hB
 refine aM7 _ _ (fun k=>?_) (fun k=>?_)
 ·rw[jJ _ _ _ (by omega),show k*(2*B)=(2*k)*B by rw[Nat.mul_left_comm,Nat.mul_assoc],←g1];split<;>omega
 ·rw[iX _ _ _ (by omega),show k*(2*B)=(2*k)*B by rw[Nat.mul_left_comm,Nat.mul_assoc],←l1];split<;>omega
theorem rV (A B m:Nat)(hB:0<B)(hm:(unr A B+1+unr A B / 4%2) / 4=m) :
  (2*A≤(2*m+1)*B∧(m%2=1→2*A<(2*m+1)*B))∧((2*m)*B≤2*A+B∧(m%2=1→(2*m)*B<2*A+B)):=by
 have g1:=fun k=>jJ A B k hB
 have l1:=fun k=>iX A B k hB
 generalize unr A B=u at *
 obtain⟨q,c,hc,hq⟩:∃q c,c<4∧u=4*q+c:=⟨u / 4,u%4,by omega,by omega⟩
 have hq4:u / 4=q:=by omega
 rw[hq4]at hm
 have hcases:(m=q∧(c<2∨(c=2∧q%2=0)))∨(m=q+1∧(c=3∨(c=2∧q%2=1))):=by
  have:c=0∨c=1∨c=2∨c=3:=by omega
  have h2:q%2=0∨q%2=1:=by omega
  rcases this with rfl|rfl|rfl|rfl<;>rcases h2 with h2|h2<;>rw[h2]at hm<;>omega
 clear hm hq4;refine⟨⟨?_,fun h=>?_⟩,?_⟩
 ·rw[←l1];omega
 ·have h2:¬ 2*(2*m+1)≤u:=by omega
  have:¬(2*m+1)*B≤2*A:=fun h=>h2 ((g1 (2*m+1)).2 h)
  omega
 ·rcases Nat.eq_zero_or_pos m with h0|h0
  ·subst h0;exact⟨by omega,fun h=>by omega⟩
  ·obtain⟨n,rfl⟩:∃n,m=n+1:=⟨m-1,by omega⟩
   have e:2*(n+1)*B=(2*n+1)*B+B:=by rw[←Nat.succ_mul];rfl
   rw[e];refine⟨?_,fun h=>?_⟩
   ·have:=(g1 (2*n+1)).1 (by omega);omega
   ·have h2:¬u≤2*(2*n+1):=by omega
    have:¬ 2*A≤(2*n+1)*B:=fun h=>h2 ((l1 (2*n+1)).2 h)
    omega
def lpI (i:Nat):Int:=((i:Int)-348)*108853 / 32768
def iE (i:Nat):Nat:=10^(i-348)*2^(127-lpI i).toNat
def eK (i:Nat):Nat:=10^(348-i)*2^(lpI i-127).toNat
def pmN (i:Nat):Nat:=aN i*18446744073709551616-aY i
def aC4 (i:Nat):Prop:=aN i<18446744073709551616∧aY i<18446744073709551616∧0<aN i∧iE i≤pmN i*eK i∧pmN i*eK i<iE i+eK i∧170141183460469231731687303715884105728≤pmN i
instance (i:Nat):Decidable (aC4 i):=by unfold aC4;exact inferInstance
theorem aM1:((List.range 696).all fun i=>decide (aC4 i))=true:=by kernel_rfl
theorem tB (i:Nat)(h:i<696):aC4 i:=of_decide_eq_true (List.all_eq_true.1 aM1 i (List.mem_range.2 h))
def aC5 (i:Nat):Prop:=170141183460469231731687303715884105728*eK i≤iE i∧iE i≤340282366920938387905510881517444792320*eK i
instance (i:Nat):Decidable (aC5 i):=by unfold aC5;exact inferInstance
theorem aMn:((List.range 696).all fun i=>decide (aC5 i))=true:=by kernel_rfl
theorem aAx (i:Nat)(h:i<696):aC5 i:=of_decide_eq_true (List.all_eq_true.1 aMn i (List.mem_range.2 h))
theorem uD (i:Nat):0<eK i:=Nat.mul_pos (Nat.pow_pos (by decide)) (Nat.two_pow_pos _)
def eu (X W:Nat):Nat→Nat→Nat→Nat→Nat→Bool
 | 0,_,_,_,_=>false
 | f+1,k0,d0,k1,d1=>if X≤k0+d0 / d1*k1 then decide (W<d1)else eu X W f k1 d1 (k0+d0 / d1*k1) (d0%d1)
def aLg (L:Int→Int→Prop)(g:Int)(k0 d0 k1 d1:Nat):Prop:=∀k d,L k d→∃a b:Int,k=a*k0+b*k1∧d=g*(b*d1-a*d0)
theorem aIC (L:Int→Int→Prop)(g:Int)(k0 d0 k1 d1:Nat)(h:aLg L g k0 d0 k1 d1):aLg L (-g) k1 d1 (k0+d0 / d1*k1) (d0%d1):=by
 intro k d hL;obtain⟨a,b,e1,e2⟩:=h k d hL;have hd:(d0:Int)=(d0%d1:Nat)+(d0 / d1:Nat)*(d1:Int):=by
  have:=Nat.mod_add_div d0 d1;rw[Nat.mul_comm]at this
  exact_mod_cast this.symm
 refine⟨b-a*(d0 / d1:Nat),a,?_,?_⟩
 ·rw[e1];push_cast
  grind
 ·rw[e2,hd];grind
theorem aLv (L:Int→Int→Prop)(X W:Nat):∀(f:Nat) (g:Int) (k0 d0 k1 d1:Nat),(g=1∨g=-1)→aLg L g k0 d0 k1 d1→eu X W f k0 d0 k1 d1=true→∀k d,L k d→0<k→k<X→(W:Int)<d.natAbs
 | 0,_,_,_,_,_,_,_,h=>by cases h
 | f+1,g,k0,d0,k1,d1,hg,hm,h=>by
  unfold eu at h;have hs:=aIC L g k0 d0 k1 d1 hm;split at h
  ·rename_i hX;have hW:=of_decide_eq_true h;intro k d hL h0 h1;obtain⟨a,b,e1,e2⟩:=hs k d hL;generalize k0+d0 / d1*k1=k2 at *
   generalize d0%d1=d2 at *
   have hd2:(0:Int)≤d2:=by omega
   have hk1:(0:Int)≤k1:=by omega
   have hk2:(X:Int)≤k2:=by omega
   have key:(d1:Int)≤(b*d2-a*d1:Int).natAbs:=by
    rcases Int.lt_trichotomy b 0 with hb|hb|hb
    ·have a1:1≤a:=by
      rcases Int.lt_or_le 0 a with h|h
      ·omega
      ·exfalso;have:=Int.mul_le_mul_of_nonneg_right h hk1;have:=Int.mul_le_mul_of_nonneg_right (show b≤0 by omega) (show(0:Int)≤k2 by omega);omega
     have t1:=Int.mul_le_mul_of_nonneg_right a1 (show(0:Int)≤d1 by omega);have t2:=Int.mul_le_mul_of_nonneg_right (show b≤0 by omega) hd2;omega
    ·subst hb;have a1:1≤a:=by
      rcases Int.lt_or_le 0 a with h|h
      ·omega
      ·exfalso;have:=Int.mul_le_mul_of_nonneg_right h hk1;omega
     have t1:=Int.mul_le_mul_of_nonneg_right a1 (show(0:Int)≤d1 by omega);omega
    ·have a1:a≤-1:=by
      rcases Int.lt_or_le a 0 with h|h
      ·omega
      ·exfalso;have:=Int.mul_nonneg h hk1;have:=Int.mul_le_mul_of_nonneg_right (show 1≤b by omega) (show(0:Int)≤k2 by omega);omega
     have t1:=Int.mul_le_mul_of_nonneg_right a1 (show(0:Int)≤d1 by omega);have t2:=Int.mul_nonneg (show 0≤b by omega) hd2;omega
   have:(d.natAbs:Int)=(b*d2-a*d1:Int).natAbs:=by
    rw[e2];rcases hg with rfl|rfl
    ·rw[show -1*(b*(d2:Int)-a*d1)=-(b*d2-a*d1) by omega,Int.natAbs_neg]
    ·rw[show - -1*(b*(d2:Int)-a*d1)=(b*d2-a*d1) by omega]
   omega
  ·exact aLv L X W f (-g) _ _ _ _ (by omega) hs h
def xD (W M c:Nat):Bool:=eu W W 200 0 M 1 (c%M)
theorem aNN (W M c:Nat)(h:xD W M c=true)(k y:Nat)(h0:0<k)(h1:k<W):W<((k:Int)*c-y*M).natAbs:=by
 have:=aLv (fun k d=>∃y:Int,d=k*c-y*M) W W 200 1 0 M 1 (c%M) (.inl rfl) (by
  rintro k d ⟨y,rfl⟩;have e:(c:Int)=(c%M:Nat)+(c / M:Nat)*(M:Int):=by
   have:=Nat.mod_add_div c M;rw[Nat.mul_comm]at this
   exact_mod_cast this.symm
  refine⟨y-k*(c / M:Nat),k,by simp,?_⟩;rw[show(k:Int)*c=k*((c%M:Nat)+(c / M:Nat)*(M:Int)) by rw[←e]];grind) h k _ ⟨y,rfl⟩ (by omega) (by omega)
 omega
theorem aDV (G W M pm s0 s k T D:Nat)(hP:G*W=18446744073709551616)(hM:G*M=2^s0*340282366920938463463374607431768211456)(hs:s0≤s)(hc:xD W M pm=true)(hk:0<k)(hx:k<W):qW (G*k) pm s T D:=by
 intro hi h0 h1 h2;exfalso;obtain⟨c,hc'⟩:=Nat.dvd_of_mod_eq_zero h0;have e2:2^s=2^s0*2^(s-s0):=by rw[←Nat.pow_add];congr 1;omega
 have e3:hi*340282366920938463463374607431768211456=G*(c*2^(s-s0)*M):=by
  rw[hc',e2,Nat.mul_left_comm G,hM];ac_rfl
 rw[e3,←hP,Nat.mul_assoc G k pm]at h1 h2
 have hG:0<G:=by
  rcases Nat.eq_zero_or_pos G with h|h
  ·rw[h]at hP;omega
  ·exact h
 rw[←Nat.mul_add]at h1 h2
 have h1:=Nat.lt_of_mul_lt_mul_left h1;have h2:=Nat.le_of_mul_le_mul_left h2 hG;have:=aNN W M pm hc k (c*2^(s-s0)) hk hx;have a1:((k*pm:Nat):Int)=(k:Int)*pm:=by push_cast;rfl
 have a2:((c*2^(s-s0)*M:Nat):Int)=((c*2^(s-s0):Nat):Int)*M:=by push_cast;rfl
 rw[←a1,←a2]at this
 omega
theorem aKb:((List.range 696).all fun i=>decide (321≤i∧i≤375)||xD 144115188075855872 85070591730234615865843651857942052864 (pmN i))=true:=by kernel_rfl
theorem aI3:((List.range 696).all fun i=>decide (321≤i∧i≤375)||xD 72057594037927936 21267647932558653966460912964485513216 (pmN i))=true:=by kernel_rfl
theorem aOP (i:Nat)(h:i<696)(hn:¬(321≤i∧i≤375)):xD 144115188075855872 85070591730234615865843651857942052864 (pmN i)=true:=by
 have:=List.all_eq_true.1 aKb i (List.mem_range.2 h);rw[decide_eq_false hn,Bool.false_or]at this
 exact this
theorem aOV (i:Nat)(h:i<696)(hn:¬(321≤i∧i≤375)):xD 72057594037927936 21267647932558653966460912964485513216 (pmN i)=true:=by
 have:=List.all_eq_true.1 aI3 i (List.mem_range.2 h);rw[decide_eq_false hn,Bool.false_or]at this
 exact this
def aC0 (i:Nat):Prop:=aY i=0∧aN i%2=0∧iE i=pmN i∧eK i=1
instance (i:Nat):Decidable (aC0 i):=by unfold aC0;exact inferInstance
theorem aMR:((List.range 28).all fun j=>decide (aC0 (348+j)))=true:=by kernel_rfl
theorem aOd (i:Nat)(h1:348≤i)(h2:i≤375):aC0 i:=by
 have:=of_decide_eq_true (List.all_eq_true.1 aMR (i-348) (List.mem_range.2 (by omega)));rwa[show 348+(i-348)=i by omega]at this
theorem aDt (x i s:Nat)(h1:348≤i)(h2:i≤375):qW x (pmN i) s (iE i) (eK i):=by
 obtain⟨e1,e2,e3,e4⟩:=aOd i h1 h2;rw[e3,e4];intro hi h0 h1 h2;have ep:pmN i=aN i*18446744073709551616:=by unfold pmN;rw[e1];omega
 rw[ep,←Nat.mul_assoc]at h1 h2 ⊢
 have ev:x*aN i%2=0:=by rw[Nat.mul_mod,e2];simp
 generalize x*aN i=q at *
 omega
def aCV (i:Nat):Prop:=iE i%(340282366920938463463374607431768211456*2^(348-i))=0∧(340282366920938463463374607431768211456*eK i)%(340282366920938463463374607431768211456*2^(348-i))=0∧36893488147419103232*eK i≤340282366920938463463374607431768211456*2^(348-i)
instance (i:Nat):Decidable (aCV i):=by unfold aCV;exact inferInstance
theorem aMp:((List.range 27).all fun j=>decide (aCV (321+j)))=true:=by kernel_rfl
theorem aNA (i:Nat)(h1:321≤i)(h2:i<348):aCV i:=by
 have:=of_decide_eq_true (List.all_eq_true.1 aMp (i-321) (List.mem_range.2 (by omega)));rwa[show 321+(i-321)=i by omega]at this
theorem aIE (G a b m:Nat)(ha:a%G=0)(hb:b%G=0)(h1:a≤b+m)(h2:b<a+2*m+G)(hm:a≤b+m)(h3:m<G)(h4:b<a+G):a=b:=by
 obtain⟨p,rfl⟩:=Nat.dvd_of_mod_eq_zero ha;obtain⟨q,rfl⟩:=Nat.dvd_of_mod_eq_zero hb;have a1:G*p<G*(q+1):=by rw[Nat.mul_add];omega
 have a2:G*q<G*(p+1):=by rw[Nat.mul_add];omega
 have:=Nat.lt_of_mul_lt_mul_left a1;have:=Nat.lt_of_mul_lt_mul_left a2;have:p=q:=by omega
 rw[this]
theorem aKH (x i s:Nat)(hx0:0<x)(hx:x<18446744073709551616)(h1:321≤i)(h2:i<348):qW x (pmN i) s (iE i) (eK i):=by
 obtain⟨n1,n2,n3⟩:=aNA i h1 h2;obtain⟨_,_,_,r1,r2,_⟩:=tB i (by omega);have hD:=uD i;intro hi h0 g1 g2;have x1:x*iE i≤x*pmN i*eK i:=by rw[Nat.mul_assoc];exact Nat.mul_le_mul_left _ r1
 have x2:x*pmN i*eK i<x*iE i+x*eK i:=by rw[Nat.mul_assoc,←Nat.mul_add];exact Nat.mul_lt_mul_of_pos_left r2 hx0
 have y1:=Nat.mul_le_mul_right (eK i) g2;have y2:=Nat.mul_le_mul_right (eK i) (Nat.le_of_lt g1);rw[Nat.add_mul]at y1 y2
 have y3:x*eK i≤18446744073709551615*eK i:=Nat.mul_le_mul_right _ (by omega);have m1:x*iE i%(340282366920938463463374607431768211456*2^(348-i))=0:=by rw[Nat.mul_mod,n1];simp
 have m2:hi*340282366920938463463374607431768211456*eK i%(340282366920938463463374607431768211456*2^(348-i))=0:=by rw[Nat.mul_assoc,Nat.mul_mod,n2];simp
 have hG:0<340282366920938463463374607431768211456*2^(348-i):=Nat.mul_pos (by decide) (Nat.two_pow_pos _);generalize 340282366920938463463374607431768211456*2^(348-i)=G at *
 generalize hi*340282366920938463463374607431768211456*eK i=b at *
 generalize x*pmN i*eK i=c at *
 generalize x*iE i=a at *
 generalize x*eK i=f at *
 generalize eK i=dd at *
 exact aIE G a b (18446744073709551616*dd) m1 m2 (by omega) (by omega) (by omega) (by omega) (by omega)
theorem aEe (x i s:Nat)(hi:i<696)(hx0:0<x)(hx:x<18446744073709551616)(h:(5≤s∧x%128=0)∨(4≤s∧x%256=0)):qW x (pmN i) s (iE i) (eK i):=by
 by_cases hn:321≤i∧i≤375
 ·by_cases h3:i<348
  ·exact aKH x i s hx0 hx hn.1 h3
  ·exact aDt x i s (by omega) hn.2
 ·rcases h with⟨h1,h2⟩|⟨h1,h2⟩
  ·have e:x=128*(x / 128):=by omega
   rw[e];exact aDV 128 144115188075855872 85070591730234615865843651857942052864 _ 5 s _ _ _ (by decide) (by decide) h1 (aOP i hi hn) (by omega) (by omega)
  ·have e:x=256*(x / 256):=by omega
   rw[e];exact aDV 256 72057594037927936 21267647932558653966460912964485513216 _ 4 s _ _ _ (by decide) (by decide) h1 (aOV i hi hn) (by omega) (by omega)
theorem wK (A B A' B':Nat)(hB:0<B)(hB':0<B')(h:A*B'=A'*B):unr A B=unr A' B':=by
 have key:∀k,(k*B≤2*A↔k*B'≤2*A')∧(2*A≤k*B↔2*A'≤k*B'):=by
  intro k;have e1:k*B*B'=k*B'*B:=by ac_rfl
  have e2:2*A*B'=2*A'*B:=by rw[Nat.mul_assoc,h,Nat.mul_assoc]
  refine⟨⟨fun g=>?_,fun g=>?_⟩,⟨fun g=>?_,fun g=>?_⟩⟩
  ·refine Nat.le_of_mul_le_mul_right ?_ hB;rw[←e1,←e2];exact Nat.mul_le_mul_right _ g
  ·refine Nat.le_of_mul_le_mul_right ?_ hB';rw[e1,e2];exact Nat.mul_le_mul_right _ g
  ·refine Nat.le_of_mul_le_mul_right ?_ hB;rw[←e1,←e2];exact Nat.mul_le_mul_right _ g
  ·refine Nat.le_of_mul_le_mul_right ?_ hB';rw[e1,e2];exact Nat.mul_le_mul_right _ g
 have g1:=fun k=>jJ A B k hB
 have g2:=fun k=>jJ A' B' k hB'
 have l1:=fun k=>iX A B k hB
 have l2:=fun k=>iX A' B' k hB'
 generalize unr A B=u at *
 generalize unr A' B'=v at *
 have c1:∀k,2*k≤u↔2*k≤v:=fun k=>by rw[g1,g2,(key k).1]
 have c2:∀k,u≤2*k↔v≤2*k:=fun k=>by rw[l1,l2,(key k).2]
 have:=c1 (u / 2);have:=c1 (v / 2);have:=c2 (u / 2);have:=c2 (v / 2);have:=c1 (u / 2+1);omega
theorem aBX (x i s:Nat)(e:Int)(hi:i<696)(hx0:0<x)(hx:x<18446744073709551616)(hs:-(e+lpI i+3)=s)(h:qW x (pmN i) s (iE i) (eK i)) :
  cQ x (aN i) (aY i) s=unr (x*10^(i-348)*2^e.toNat) (10^(348-i)*2^(-e).toNat):=by
 obtain⟨r1,r2,r3,r4,r5,r6⟩:=tB i hi;have epm:pmN i+aY i=aN i*18446744073709551616:=by
  unfold pmN;have:1*18446744073709551616≤aN i*18446744073709551616:=Nat.mul_le_mul_right _ r3;omega
 rw[aIz x (aN i) (aY i) s (pmN i) (iE i) (eK i) hx0 hx r1 r2 (uD i) epm r4 r5 h];refine wK _ _ _ _ (Nat.mul_pos (by decide) (Nat.mul_pos (uD i) (Nat.mul_pos (Nat.two_pow_pos _) (by decide)))) (Nat.mul_pos (Nat.pow_pos (by decide)) (Nat.two_pow_pos _)) ?_;unfold iE eK;have e1:2^(127-lpI i).toNat*2^(-e).toNat=2^e.toNat*(2^2*(2^(lpI i-127).toNat*(2^s*2^128))):=by
  rw[←Nat.pow_add,←Nat.pow_add,←Nat.pow_add,←Nat.pow_add,←Nat.pow_add];congr 1;omega
 have e2:(2:Nat)^2=4:=by decide
 have e3:(2:Nat)^128=340282366920938463463374607431768211456:=by decide
 rw[e2,e3]at e1
 generalize (2:Nat)^(127-lpI i).toNat=a1 at *
 generalize (2:Nat)^(-e).toNat=a2 at *
 generalize (2:Nat)^e.toNat=a3 at *
 generalize (2:Nat)^(lpI i-127).toNat=a4 at *
 generalize (2:Nat)^s=a5 at *
 generalize (10:Nat)^(i-348)=b1 at *
 generalize (10:Nat)^(348-i)=b2 at *
 generalize 340282366920938463463374607431768211456=P at *
 calc x*(b1*a1)*(b2*a2)=x*b1*b2*(a1*a2):=by ac_rfl
  _=x*b1*b2*(a3*(4*(a4*(a5*P)))):=by rw[e1]
  _=x*b1*a3*(4*(b2*a4*(a5*P))):=by ac_rfl
def bY (d i:Nat):Nat:=d*10^(i-348)*2^1074
def aO (i:Nat):Nat:=10^(348-i)
theorem dD (i:Nat):0<aO i:=Nat.pow_pos (by decide)
theorem aEh (i:Nat):∃ α β : Nat,(α : Int)-β = 127-lpI i∧iE i=10^(i-348)*2^α ∧ eK i=aO i*2^β :=
 ⟨(127-lpI i).toNat,(lpI i-127).toNat,by omega,rfl,rfl⟩
theorem aFg (a b c z:Nat):a*b*z*c=a*(b*c)*z:=by ac_rfl
theorem aLa (a b c z:Nat):2*(a*b*z)*c=2*(a*(b*c)*z):=by ac_rfl
theorem aHU (d i b K:Nat)(hi:i<696)(hb:1≤b)(h1:2^(b-1)≤d)(hK:(K:Int)=1021+b+lpI i):4503599627370496*(aO i*2^K)≤bY d i:=by
 obtain⟨r1,_⟩:=aAx i hi;obtain⟨α,β,h2,h3,h4⟩:=aEh i;rw[h3,h4]at r1
 refine Nat.le_of_mul_le_mul_right (c:=2^α) ?_ (Nat.two_pow_pos _);unfold bY;have e52:4503599627370496=2^52:=by decide
 have e127:170141183460469231731687303715884105728=2^127:=by decide
 rw[e127]at r1
 have m:=Nat.mul_le_mul_right (2^1074) (Nat.mul_le_mul h1 r1);have l:4503599627370496*(aO i*2^K)*2^α = 2^(b-1)*(2^127*(aO i*2^β))*2^1074:=by
  have e:2^52*2^K*2^α = 2^(b-1)*2^127*2^β * 2^1074:=by
   obtain ⟨zz, hzz⟩ : ∃ zz, 1074 = zz := ⟨_, rfl⟩
   rw [hzz]
   rw[←Nat.pow_add,←Nat.pow_add,←Nat.pow_add,←Nat.pow_add,←Nat.pow_add];congr 1;omega
  rw[e52]
  calc 2^52*(aO i*2^K)*2^α = aO i*(2^52*2^K*2^α):=by ac_rfl
   _=aO i*(2^(b-1)*2^127*2^β * 2^1074):=by rw[e]
   _=_:=by generalize (2:Nat)^1074=z;ac_rfl
 rw[l];refine Nat.le_trans m (Nat.le_of_eq ?_);exact(aFg _ _ _ _).symm
theorem aNp (d i b K:Nat)(hi:i<696)(h1:d<2^b)(hK:1021+b+lpI i≤(K:Int)):bY d i≤18014398509481980*(aO i*2^K):=by
 obtain⟨_,r1⟩:=aAx i hi;obtain⟨α,β,h2,h3,h4⟩:=aEh i;rw[h3,h4]at r1
 refine Nat.le_of_mul_le_mul_right (c:=2^α) ?_ (Nat.two_pow_pos _);unfold bY;have e127:340282366920938387905510881517444792320=18014398509481980*2^74:=by decide
 rw[e127]at r1
 have m:=Nat.mul_le_mul_right (2^1074) (Nat.mul_le_mul (Nat.le_of_lt h1) r1);have l:2^b*(18014398509481980*2^74*(aO i*2^β))*2^1074≤18014398509481980*(aO i*2^K)*2^α := by
  have e:2^b*2^74*2^β * 2^1074≤2^K*2^α := by
   obtain ⟨zz, hzz⟩ : ∃ zz, 1074 = zz := ⟨_, rfl⟩
   rw [hzz]
   rw[←Nat.pow_add,←Nat.pow_add,←Nat.pow_add,←Nat.pow_add];refine Nat.pow_le_pow_right (by decide) ?_;omega
  calc 2^b*(18014398509481980*2^74*(aO i*2^β))*2^1074=18014398509481980*aO i*(2^b*2^74*2^β * 2^1074):=by generalize (2:Nat)^1074=z;ac_rfl
   _≤18014398509481980*aO i*(2^K*2^α):=Nat.mul_le_mul_left _ e
   _=_:=by ac_rfl
 refine Nat.le_trans (Nat.le_of_eq ?_) (Nat.le_trans m l);exact aFg _ _ _ _
theorem aMW (d i b:Nat)(hi:i<696)(h1:d<2^b)(h:(b:Int)+lpI i≤-1077):2*bY d i≤aO i:=by
 obtain⟨_,r1⟩:=aAx i hi;obtain⟨α,β,h2,h3,h4⟩:=aEh i;rw[h3,h4]at r1
 refine Nat.le_of_mul_le_mul_right (c:=2^α) ?_ (Nat.two_pow_pos _);unfold bY;have r2:10^(i-348)*2^α ≤ 2^128*(aO i*2^β):=Nat.le_trans r1 (Nat.mul_le_mul_right _ (by decide));have m:=Nat.mul_le_mul_right (2^1074) (Nat.mul_le_mul (Nat.le_of_lt h1) r2);have l:2*(2^b*(2^128*(aO i*2^β))*2^1074)≤aO i*2^α := by
  have e:2*(2^b*2^128*2^β * 2^1074)≤2^α := by
   obtain ⟨zz, hzz⟩ : ∃ zz, 1074 = zz := ⟨_, rfl⟩
   rw [hzz]
   rw[←Nat.pow_add,←Nat.pow_add,←Nat.pow_add,Nat.mul_comm,←Nat.pow_succ];refine Nat.pow_le_pow_right (by decide) ?_;omega
  calc 2*(2^b*(2^128*(aO i*2^β))*2^1074)=aO i*(2*(2^b*2^128*2^β * 2^1074)):=by generalize (2:Nat)^1074=z;ac_rfl
   _≤aO i*2^α := Nat.mul_le_mul_left _ e
 have m2:=Nat.mul_le_mul_left 2 m;refine Nat.le_trans (Nat.le_of_eq ?_) (Nat.le_trans m2 l);exact aLa _ _ _ _
theorem aGF (d i b s K:Nat)(e:Int)(hi:i<696)(hd:1≤d)(h2:d<2^b)(hb:b≤64)(he:e=1074-K)(hs:-(e-(64-b)+lpI i+3)=s)(hN:qW (d*2^(64-b)) (pmN i) s (iE i) (eK i)) :
  cQ (d*2^(64-b)) (aN i) (aY i) s=unr (bY d i) (aO i*2^K):=by
 have hx:d*2^(64-b)<18446744073709551616:=by
  have:d*2^(64-b)<2^b*2^(64-b):=Nat.mul_lt_mul_of_pos_right h2 (Nat.two_pow_pos _);rw[←Nat.pow_add,show b+(64-b)=64 by omega]at this
  exact this
 rw[aBX (d*2^(64-b)) i s (e-(64-b)) hi (Nat.mul_pos hd (Nat.two_pow_pos _)) hx hs hN];refine wK _ _ _ _ (Nat.mul_pos (Nat.pow_pos (by decide)) (Nat.two_pow_pos _)) (Nat.mul_pos (dD i) (Nat.two_pow_pos _)) ?_;unfold bY aO;have e1:2^(64-b)*2^(e-(64-(b:Int))).toNat*2^K=2^1074*2^(-(e-(64-(b:Int)))).toNat:=by
  obtain ⟨zz, hzz⟩ : ∃ zz, 1074 = zz := ⟨_, rfl⟩
  rw [hzz]
  rw[←Nat.pow_add,←Nat.pow_add,←Nat.pow_add];congr 1;omega
 generalize (2:Nat)^1074=z at *
 generalize (2:Nat)^(64-b)=a1 at *
 generalize (2:Nat)^K=a2 at *
 generalize (2:Nat)^(e-(64-(b:Int))).toNat=a3 at *
 generalize (2:Nat)^(-(e-(64-(b:Int)))).toNat=a4 at *
 generalize (10:Nat)^(i-348)=b1 at *
 generalize (10:Nat)^(348-i)=b2 at *
 calc d*a1*b1*a3*(b2*a2)=d*b1*b2*(a1*a3*a2):=by ac_rfl
  _=d*b1*b2*(z*a4):=by rw[e1]
  _=d*b1*z*(b2*a4):=by ac_rfl
def cA (b i:Nat):Nat:=(1074-min 1074 (53-(b:Int)-lpI i)).toNat
def gJ (b i:Nat):Int:=-(min 1074 (53-(b:Int)-lpI i)-(64-b)+lpI i+3)
def bS (u:Nat):Nat:=(u+1+u / 4%2) / 4
def cD (u:Nat):Nat:=if 36028797018963966≤u then u / 2 ||| u%2 else u
def gI (u:Nat):Nat:=if 36028797018963966≤u then 1 else 0
theorem aKh (d i b:Nat)(hi:i<696)(hb1:1≤b)(h1:2^(b-1)≤d)(h2:d<2^b)(hb:b≤64)(s:Nat)(hs:gJ b i=s)
  (hN:qW (d*2^(64-b)) (pmN i) s (iE i) (eK i)) (u:Nat) (hu:cQ (d*2^(64-b)) (aN i) (aY i) s=u) :
  u<72057594037927936∧bS (cD u)<9007199254740992∧(4503599627370496≤bS (cD u)∨cA b i+gI u=0)∧cY (bY d i) (aO i) (min ((cA b i+gI u)*4503599627370496+bS (cD u)) aX):=by
 have hd:1≤d:=Nat.le_trans (Nat.two_pow_pos _) h1;have hKe:min 1074 (53-(b:Int)-lpI i)=1074-(cA b i:Int):=by unfold cA;omega
 have eu:=aGF d i b s (cA b i) (min 1074 (53-(b:Int)-lpI i)) hi hd h2 hb hKe (by unfold gJ at hs;exact hs) hN;rw[hu]at eu
 have hB:=dD i;have hBK:0<aO i*2^cA b i:=Nat.mul_pos hB (Nat.two_pow_pos _);have hKle:1021+(b:Int)+lpI i≤cA b i:=by omega
 have up:=aNp d i b (cA b i) hi h2 hKle;have g1:=fun k=>jJ (bY d i) (aO i*2^cA b i) k hBK
 have l1:=fun k=>iX (bY d i) (aO i*2^cA b i) k hBK
 rw[←eu]at g1 l1
 have u1:u≤72057594037927920:=by
  have:=(l1 36028797018963960).2 (by
   have:36028797018963960*(aO i*2^cA b i)=2*(18014398509481980*(aO i*2^cA b i)):=by rw[←Nat.mul_assoc 2]
   omega)
  omega
 have lo:cA b i≠0→18014398509481984≤u:=by
  intro h;have hK:(cA b i:Int)=1021+b+lpI i:=by omega
  have:=aHU d i b (cA b i) hi hb1 h1 hK;have:=(g1 9007199254740992).2 (by
   have:9007199254740992*(aO i*2^cA b i)=2*(4503599627370496*(aO i*2^cA b i)):=by rw[←Nat.mul_assoc 2]
   omega)
  omega
 refine⟨by omega,?_⟩;by_cases c:36028797018963966≤u
 ·have ecu:cD u=unr (bY d i) (2*(aO i*2^cA b i)):=by
   unfold cD;rw[if_pos c,aJ5 _ _ hBK,←eu]
  have eck:gI u=1:=by unfold gI;rw[if_pos c]
  have hor:cD u=if u%2=0 then u / 2 else 2*(u / 4)+1:=by
   unfold cD;rw[if_pos c];split
   ·rename_i h;rw[h,Nat.or_zero]
   ·rename_i h;rw[show u%2=1 by omega,vL,Nat.div_div_eq_div_mul]
  have v1:18014398509481983≤cD u∧cD u≤36028797018963962:=by rw[hor];split<;>omega
  have r1:4503599627370496≤bS (cD u)∧bS (cD u)<9007199254740992:=by
   unfold bS;have:cD u=18014398509481983∨18014398509481984≤cD u:=by omega
   rcases this with h|h
   ·rw[h];decide
   ·omega
  refine⟨r1.2,.inl r1.1,?_⟩;rw[eck];obtain⟨⟨q1,q2⟩,q3,q4⟩:=rV (bY d i) (2*(aO i*2^cA b i)) _ (by omega) (show bS (unr (bY d i) (2*(aO i*2^cA b i)))=bS (cD u) by rw[ecu]);have eB:∀n,n*(2*(aO i*2^cA b i))=n*2^(cA b i+1)*aO i:=fun n=>by rw[Nat.pow_succ];ac_rfl
  have eB1:2*(aO i*2^cA b i)=2^(cA b i+1)*aO i:=by rw[Nat.pow_succ];ac_rfl
  rw[eB]at q1 q2 q3 q4
  rw[eB1]at q3 q4
  refine xO _ _ _ _ r1.2 (.inl r1.1) ⟨q1,q2⟩ (fun _=>⟨q3,q4⟩) ?_;intro j hj hm;obtain rfl:j=cA b i:=by omega
  have:=(g1 18014398509481983).1 (by omega);rw[hm];have e:4*4503599627370496*2^cA b i*aO i=18014398509481983*(aO i*2^cA b i)+2^cA b i*aO i:=by
   rw[Nat.mul_comm (aO i),Nat.mul_assoc];generalize 2^cA b i*aO i=z;omega
  omega
 ·have ecu:cD u=u:=by unfold cD;rw[if_neg c]
  have eck:gI u=0:=by unfold gI;rw[if_neg c]
  rw[ecu,eck,Nat.add_zero];have r1:bS u<9007199254740992:=by unfold bS;omega
  have r2:4503599627370496≤bS u∨cA b i=0:=by
   by_cases h:cA b i=0
   ·exact .inr h
   ·have:=lo h;left;unfold bS;omega
  refine⟨r1,r2,?_⟩;obtain⟨⟨q1,q2⟩,q3,q4⟩:=rV (bY d i) (aO i*2^cA b i) _ hBK (show bS (unr (bY d i) (aO i*2^cA b i))=bS u by rw[←eu]);have eB:∀n,n*(aO i*2^cA b i)=n*2^cA b i*aO i:=fun n=>by ac_rfl
  have eB1:aO i*2^cA b i=2^cA b i*aO i:=by ac_rfl
  rw[eB]at q1 q2 q3 q4
  rw[eB1]at q3 q4
  refine xO _ _ _ _ r1 r2 ⟨q1,q2⟩ (fun _=>⟨q3,q4⟩) ?_;intro j hj hm;rw[hm];have hK:(cA b i:Int)=1021+b+lpI i:=by omega
  have:=aHU d i b (cA b i) hi hb1 h1 hK;have e:4*4503599627370496*2^j*aO i=2*(4503599627370496*(aO i*2^cA b i)):=by
   rw[hj,Nat.pow_succ];generalize 2^j=z;have:4503599627370496*(aO i*(z*2))=2*(4503599627370496*z*aO i):=by ac_rfl
   rw[this,Nat.mul_assoc 4,Nat.mul_assoc 4];omega
  omega
theorem aHZ (d i b:Nat)(hi:i<696)(h2:d<2^b)(h:64≤gJ b i):cY (bY d i) (aO i) 0:=by
 have hb:(b:Int)+lpI i≤-1077:=by unfold gJ at h;omega
 have:=aMW d i b hi h2 hb;refine⟨Nat.zero_le _,fun q hq=>by omega,fun _=>⟨?_,fun h=>by omega⟩⟩;have e:bK 0+bK (0+1)=1:=by decide
 rw[e,Nat.one_mul];exact this
theorem aEt (d i b s:Nat)(hi:i<696)(hd:1≤d)(h2:d<2^b)(hb:b≤64)(hs:gJ b i=s)(h:b≤57∨(348≤i∧i≤375)):qW (d*2^(64-b)) (pmN i) s (iE i) (eK i):=by
 have hx:d*2^(64-b)<18446744073709551616:=by
  have:d*2^(64-b)<2^b*2^(64-b):=Nat.mul_lt_mul_of_pos_right h2 (Nat.two_pow_pos _);rw[←Nat.pow_add,show b+(64-b)=64 by omega]at this
  exact this
 rcases h with h|⟨h3,h4⟩
 ·refine aEe _ i s hi (Nat.mul_pos hd (Nat.two_pow_pos _)) hx (.inl ⟨?_,?_⟩)
  ·unfold gJ at hs;omega
  ·have e:2^(64-b)=2^(57-b)*128:=by rw[show(128:Nat)=2^7 from rfl,←Nat.pow_add];congr 1;omega
   rw[e,←Nat.mul_assoc];exact Nat.mul_mod_left _ _
 ·exact aDt _ i s h3 h4
end Go.Proofs.YtcfgbdhpcboikaaGreatDoor
