/-
Unrounded numbers: twice the whole number of halves, with a bit for what is left over. No program in sight.
-/
import Derived.Test.YtcfgbdhpcboikaaGreatDoorExact
namespace Go.Proofs.YtcfgbdhpcboikaaGreatDoor
def unr (A B:Nat):Nat:=2*(2*A / B)+(if 2*A%B=0 then 0 else 1)
theorem fW (A B k:Nat)(hB:0<B):2*k≤unr A B↔k*B≤2*A:=by
 unfold unr;rw[←Nat.le_div_iff_mul_le hB];split<;>omega
theorem eZ (A B k:Nat)(hB:0<B):unr A B≤2*k↔2*A≤k*B:=by
 unfold unr;have e:=Nat.div_add_mod (2*A) B;have l:=Nat.mod_lt (2*A) hB;generalize 2*A / B=f at *
 generalize 2*A%B=r at *
 constructor
 ·intro h;by_cases h0:r=0
  ·rw[if_pos h0]at h
   have:B*f≤B*k:=Nat.mul_le_mul_left _ (by omega);rw[Nat.mul_comm k];omega
  ·rw[if_neg h0]at h
   have:B*(f+1)≤B*k:=Nat.mul_le_mul_left _ (by omega);rw[Nat.mul_add]at this
   rw[Nat.mul_comm k];omega
 ·intro h;rw[Nat.mul_comm k]at h
  by_cases h0:r=0
  ·rw[if_pos h0];have:B*f≤B*k:=by omega
   have:=Nat.le_of_mul_le_mul_left this hB;omega
  ·rw[if_neg h0];have:B*f<B*k:=by omega
   have:=Nat.lt_of_mul_lt_mul_left this;omega
theorem rP (q:Nat):q ||| 1=2*(q / 2)+1:=by
 have e:(q ||| 1) / 2=q / 2:=by
  have:=Nat.or_div_two_pow (a:=q) (b:=1) (n:=1);simpa using this
 have e2:(q ||| 1)%2=1:=by
  rw[show(2:Nat)=2^1 from rfl,Nat.or_mod_two_pow];have:q%2=0∨q%2=1:=by omega
  rcases this with h|h<;>rw[show(2:Nat)^1=2 from rfl,h]<;>decide
 omega
theorem tS (A C q:Nat)(h1:q*C<A)(h2:A<(q+1)*C):unr A (4*C)=q ||| 1:=by
 rw[rP];have hC:0<C:=by
  rcases Nat.eq_zero_or_pos C with h|h
  ·rw[h]at h2;omega
  ·exact h
 have a1:2*(q / 2)≤unr A (4*C):=by
  rw[fW _ _ _ (by omega)];have:(2*(q / 2))*C≤q*C:=Nat.mul_le_mul_right _ (by omega);have e:q / 2*(4*C)=2*((2*(q / 2))*C):=by
   rw[show 4*C=2*(2*C) by omega,Nat.mul_left_comm,Nat.mul_assoc 2,Nat.mul_left_comm (q / 2)]
  omega
 have a2:unr A (4*C)≤2*(q / 2+1):=by
  rw[eZ _ _ _ (by omega)];have:(q+1)*C≤(2*(q / 2+1))*C:=Nat.mul_le_mul_right _ (by omega);have e:(q / 2+1)*(4*C)=2*((2*(q / 2+1))*C):=by
   rw[show 4*C=2*(2*C) by omega,Nat.mul_left_comm,Nat.mul_assoc 2,Nat.mul_left_comm (q / 2+1)]
  omega
 have n1:¬unr A (4*C)≤2*(q / 2):=by
  rw[eZ _ _ _ (by omega)];have:(2*(q / 2))*C≤q*C:=Nat.mul_le_mul_right _ (by omega);have e:q / 2*(4*C)=2*((2*(q / 2))*C):=by
   rw[show 4*C=2*(2*C) by omega,Nat.mul_left_comm,Nat.mul_assoc 2,Nat.mul_left_comm (q / 2)]
  omega
 have n2:¬ 2*(q / 2+1)≤unr A (4*C):=by
  rw[fW _ _ _ (by omega)];have:(q+1)*C≤(2*(q / 2+1))*C:=Nat.mul_le_mul_right _ (by omega);have e:(q / 2+1)*(4*C)=2*((2*(q / 2+1))*C):=by
   rw[show 4*C=2*(2*C) by omega,Nat.mul_left_comm,Nat.mul_assoc 2,Nat.mul_left_comm (q / 2+1)]
  omega
 omega
theorem aFp (q C:Nat)(hC:0<C):unr (q*C) (4*C)=q:=by
 unfold unr;have e:2*(q*C)=(2*C)*q:=by rw[Nat.mul_comm q,Nat.mul_assoc]
 have e4:4*C=(2*C)*2:=by omega
 rw[e,e4,Nat.mul_div_mul_left _ _ (by omega),Nat.mul_mod_mul_left];split
 ·rename_i h;have:=(Nat.mul_eq_zero.1 h).resolve_left (by omega);omega
 ·rename_i h;have:q%2≠0:=fun h0=>h (by rw[h0,Nat.mul_zero])
  omega
theorem aAT (XT Q D x a:Nat)(h1:Q*D<XT+x*D)(h:a+x≤Q):a*D<XT:=by
 have:=Nat.mul_le_mul_right D h;rw[Nat.add_mul]at this
 omega
theorem aAU (XT Q D b:Nat)(hD:0<D)(h1:XT≤Q*D)(h:Q<b):XT<b*D:=Nat.lt_of_le_of_lt h1 (Nat.mul_lt_mul_of_pos_right h hD)
def rG (x pm s T D:Nat):Prop:=∀hi,hi%2^s=0→hi*340282366920938463463374607431768211456<x*pm+18446744073709551616→x*pm≤hi*340282366920938463463374607431768211456+18446744073709551616→x*T=hi*340282366920938463463374607431768211456*D
theorem vM (q s D:Nat):q*(D*(2^s*340282366920938463463374607431768211456))=q*2^s*340282366920938463463374607431768211456*D:=by
 rw[Nat.mul_comm D,←Nat.mul_assoc,←Nat.mul_assoc]
theorem aKD (x h l s pm T D:Nat)(hx0:0<x)(hx:x<18446744073709551616)(hh:h<18446744073709551616)(hl:l<18446744073709551616)(hD:0<D)(hpm:pm+l=h*18446744073709551616)
  (t1:T≤pm*D) (t2:pm*D<T+D) (hN:rG x pm s T D):cF x h l s=unr (x*T) (4*(D*(2^s*340282366920938463463374607431768211456))):=by
 obtain⟨Q,hQ⟩:∃Q,x*pm=Q:=⟨_,rfl⟩
 have x1:x*T≤Q*D:=by rw[←hQ,Nat.mul_assoc];exact Nat.mul_le_mul_left _ t1
 have x2:Q*D<x*T+x*D:=by rw[←hQ,Nat.mul_assoc,←Nat.mul_add];exact Nat.mul_lt_mul_of_pos_left t2 hx0
 have hA:Q+x*l=x*h*18446744073709551616:=by rw[←hQ,←Nat.mul_add,hpm,Nat.mul_assoc]
 have eH:=Nat.div_add_mod (x*h) 18446744073709551616;have lH:=Nat.mod_lt (x*h) (show 18446744073709551616>0 by decide);have eL:=Nat.div_add_mod (x*l) 18446744073709551616;have lL:=Nat.mod_lt (x*l) (show 18446744073709551616>0 by decide);have bL:x*l≤18446744073709551615*18446744073709551615:=Nat.mul_le_mul (by omega) (by omega);rw[←eH]at hA
 rw[←eL]at hA bL
 unfold rG at hN;rw[hQ]at hN
 have p2:0<2^s:=Nat.two_pow_pos s;have bH:=sR x h hx hh;unfold cF;simp only[];generalize x*h / 18446744073709551616=hi at *
 generalize x*h%18446744073709551616=mid at *
 generalize x*l / 18446744073709551616=mid2 at *
 generalize x*l%18446744073709551616=lo2 at *
 have m2:mid2≤18446744073709551614:=by omega
 have hmod:=Nat.div_add_mod hi (2^s);have hml:=Nat.mod_lt hi p2;clear eH eL t1 t2 hpm hQ;generalize x*T=XT at *
 by_cases c1:hi / 2^s*2^s≠hi
 ·rw[if_pos c1];refine(tS _ _ _ ?_ ?_).symm
  ·rw[vM];refine aAT XT Q D x _ x2 ?_;have:hi / 2^s*2^s≤hi-1:=by rw[Nat.mul_comm]at c1 ⊢;omega
   have hi1:1≤hi:=by omega
   omega
  ·rw[vM];refine aAU XT Q D _ hD x1 ?_;have:hi+1≤(hi / 2^s+1)*2^s:=by rw[Nat.add_mul,Nat.mul_comm];omega
   omega
 ·rw[if_neg c1];have c1:hi / 2^s*2^s=hi:=Classical.not_not.1 c1;by_cases c2:mid<mid2
  ·rw[if_pos c2,if_pos (by omega)];have hi1:1≤hi:=by omega
   have e:(hi+18446744073709551615)%18446744073709551616=hi-1:=by omega
   rw[e];have f1:=Nat.div_add_mod (hi-1) (2^s);have f2:=Nat.mod_lt (hi-1) p2;rw[Nat.mul_comm]at f1
   refine(tS _ _ _ ?_ ?_).symm
   ·rw[vM];refine aAT XT Q D x _ x2 ?_;omega
   ·rw[vM];refine aAU XT Q D _ hD x1 ?_;have:hi≤((hi-1) / 2^s+1)*2^s:=by rw[Nat.add_mul];omega
    omega
  ·rw[if_neg c2];by_cases c3:1<(mid+18446744073709551616-mid2)%18446744073709551616
   ·rw[if_pos c3];refine(tS _ _ _ ?_ ?_).symm
    ·rw[vM,c1];refine aAT XT Q D x _ x2 ?_;omega
    ·rw[vM,Nat.add_mul,c1,Nat.one_mul];refine aAU XT Q D _ hD x1 ?_;omega
   ·rw[if_neg c3,Nat.or_zero];have:=hN hi (by rw[Nat.mul_comm]at c1;omega) (by omega) (by omega);rw[this,show hi*340282366920938463463374607431768211456*D=hi / 2^s*(D*(2^s*340282366920938463463374607431768211456)) by rw[vM,c1],aFp _ _ (Nat.mul_pos hD (Nat.mul_pos p2 (by decide)))]
def aM (r:Nat):Nat:=if r<4503599627370496 then r else (4503599627370496+r%4503599627370496)*2^(r / 4503599627370496-1)
def ulp (r:Nat):Nat:=2^(r / 4503599627370496-1)
theorem aGS (r:Nat):0<ulp r:=Nat.two_pow_pos _
theorem jG (k m:Nat)(hm:m<9007199254740992)(h:4503599627370496≤m∨k=0):aM (k*4503599627370496+m)=m*2^k:=by
 unfold aM;by_cases h1:k*4503599627370496+m<4503599627370496
 ·obtain rfl:k=0:=by omega
  rw[if_pos h1];simp
 ·rw[if_neg h1];by_cases h2:4503599627370496≤m
  ·rw[show(k*4503599627370496+m) / 4503599627370496=k+1 by omega,show 4503599627370496+(k*4503599627370496+m)%4503599627370496=m by omega];rfl
  ·omega
theorem oK (k m:Nat)(hm:m<9007199254740992)(h:4503599627370496≤m∨k=0):ulp (k*4503599627370496+m)=2^k:=by
 unfold ulp;by_cases h2:4503599627370496≤m
 ·rw[show(k*4503599627370496+m) / 4503599627370496=k+1 by omega];rfl
 ·obtain rfl:k=0:=by omega
  rw[show(0*4503599627370496+m) / 4503599627370496=0 by omega]
theorem aBN (r:Nat):∃k m,r=k*4503599627370496+m∧m<9007199254740992∧(4503599627370496≤m∨k=0):=by
 by_cases h:r<4503599627370496
 ·exact⟨0,r,by omega,by omega,.inr rfl⟩
 ·exact⟨r / 4503599627370496-1,r%4503599627370496+4503599627370496,by omega,by omega,.inl (by omega)⟩
theorem iN (r:Nat):aM (r+1)=aM r+ulp r:=by
 obtain⟨k,m,rfl,hm,h⟩:=aBN r;rw[jG k m hm h,oK k m hm h];by_cases h1:m+1<9007199254740992
 ·rw[Nat.add_assoc,jG k (m+1) h1 (by omega),Nat.add_mul,Nat.one_mul]
 ·have:k*4503599627370496+m+1=(k+1)*4503599627370496+4503599627370496:=by omega
  rw[this,jG (k+1) 4503599627370496 (by omega) (.inl (Nat.le_refl _)),Nat.pow_succ];obtain rfl:m=9007199254740991:=by omega
  generalize 2^k=p;omega
theorem iG (a b:Nat)(h:a<b):aM a<aM b:=by
 induction b with
 | zero=>omega
 | succ b ih =>
  have:=iN b;have:=aGS b;rcases Nat.lt_or_ge a b with h1|h1
  ·have:=ih h1;omega
  ·obtain rfl:a=b:=by omega
   omega
theorem oW (a b:Nat)(h:a≤b):aM a≤aM b:=by
 rcases Nat.lt_or_ge a b with h1|h1
 ·exact Nat.le_of_lt (iG _ _ h1)
 ·obtain rfl:a=b:=by omega
  exact Nat.le_refl _
def aJ:Nat:=9218868437227405312
structure bI (A B r:Nat):Prop where
 le:r≤aJ
 lo:∀q,r=q+1→(aM q+aM r)*B≤2*A∧(r%2=1→(aM q+aM r)*B<2*A)
 hi:r<aJ→2*A≤(aM r+aM (r+1))*B∧(r%2=1→2*A<(aM r+aM (r+1))*B)
theorem aMV (A B r t:Nat)(hB:0<B)(h1:bI A B r)(h2:bI A B t):¬r<t:=by
 intro hlt;obtain⟨q,hq⟩:∃q,t=q+1:=⟨t-1,by omega⟩
 obtain⟨a1,a2⟩:=h1.hi (by have:=h2.le;omega);obtain⟨b1,b2⟩:=h2.lo q hq;have v1:=oW r q (by omega);have v2:=oW (r+1) t (by omega);have e:=Nat.le_of_mul_le_mul_right (Nat.le_trans b1 a1) hB;have e1:aM q=aM r:=by omega
 have e2:q=r:=by
  rcases Nat.lt_trichotomy q r with h|h|h
  ·have:=iG _ _ h;omega
  ·exact h
  ·have:=iG _ _ h;omega
 subst e2;subst hq;have:q%2=1∨(q+1)%2=1:=by omega
 rcases this with h|h
 ·have:=a2 h;omega
 ·have:=b2 h;omega
theorem rD (A B r t:Nat)(hB:0<B)(h1:bI A B r)(h2:bI A B t):r=t:=by
 have:=aMV A B r t hB h1 h2;have:=aMV A B t r hB h2 h1;omega
theorem kZ (A B A' B' r:Nat)(hB:0<B)(hB':0<B')(h:A*B'=A'*B)(h1:bI A B r):bI A' B' r:=by
 have c1:∀k,k*B≤2*A→k*B'≤2*A':=fun k g=>by
  refine Nat.le_of_mul_le_mul_right (c:=B) ?_ hB;have:=Nat.mul_le_mul_right B' g;rw[Nat.mul_assoc 2 A',←h,←Nat.mul_assoc,Nat.mul_right_comm];exact this
 have c2:∀k,k*B<2*A→k*B'<2*A':=fun k g=>by
  refine Nat.lt_of_mul_lt_mul_right (a:=B) ?_;have:=Nat.mul_lt_mul_of_pos_right g hB';rw[Nat.mul_assoc 2 A',←h,←Nat.mul_assoc,Nat.mul_right_comm];exact this
 have c3:∀k,2*A≤k*B→2*A'≤k*B':=fun k g=>by
  refine Nat.le_of_mul_le_mul_right (c:=B) ?_ hB;have:=Nat.mul_le_mul_right B' g;rw[Nat.mul_assoc 2 A',←h,←Nat.mul_assoc,Nat.mul_right_comm k];exact this
 have c4:∀k,2*A<k*B→2*A'<k*B':=fun k g=>by
  refine Nat.lt_of_mul_lt_mul_right (a:=B) ?_;have:=Nat.mul_lt_mul_of_pos_right g hB';rw[Nat.mul_assoc 2 A',←h,←Nat.mul_assoc,Nat.mul_right_comm k];exact this
 exact⟨h1.le,fun q hq=>⟨c1 _ (h1.lo q hq).1,fun g=>c2 _ ((h1.lo q hq).2 g)⟩,fun g=>⟨c3 _ (h1.hi g).1,fun g'=>c4 _ ((h1.hi g).2 g')⟩⟩
theorem zN (A B k m:Nat)(hm:m<9007199254740992)(h:4503599627370496≤m∨k=0)
  (up:2*A≤(2*m+1)*2^k*B∧(m%2=1→2*A<(2*m+1)*2^k*B))
  (lo:(m≠4503599627370496∨k=0)→(2*m)*2^k*B≤2*A+2^k*B∧(m%2=1→(2*m)*2^k*B<2*A+2^k*B))
  (lo2:∀j,k=j+1→m=4503599627370496→(4*m)*2^j*B≤2*A+2^j*B):bI A B (min (k*4503599627370496+m) aJ):=by
 have hv:=jG k m hm h;have hu:=oK k m hm h;have hs:=iN (k*4503599627370496+m);have hpar:(k*4503599627370496+m)%2=m%2:=by omega
 have low:∀q,k*4503599627370496+m=q+1→(aM q+aM (k*4503599627370496+m))*B≤2*A∧(m%2=1→(aM q+aM (k*4503599627370496+m))*B<2*A):=by
  intro q hq;have hs':=iN q;rw[←hq]at hs'
  by_cases hc:m≠4503599627370496∨k=0
  ·have hu':ulp q=2^k:=by
    have e:q=k*4503599627370496+(m-1):=by omega
    rw[e];exact oK k (m-1) (by omega) (by omega)
   obtain⟨l1,l2⟩:=lo hc;have e:(aM q+aM (k*4503599627370496+m))*B+2^k*B=(2*m)*2^k*B:=by
    rw[←Nat.add_mul];congr 1;rw[hu']at hs'
    rw[Nat.mul_assoc,←hv];omega
   exact⟨by omega,fun g=>by have:=l2 g;omega⟩
  ·obtain⟨j,hj⟩:∃j,k=j+1:=⟨k-1,by omega⟩
   have hm2:m=4503599627370496:=by omega
   have hu':ulp q=2^j:=by
    have e:q=j*4503599627370496+9007199254740991:=by omega
    rw[e];exact oK j _ (by omega) (by omega)
   have l1:=lo2 j hj hm2;have e:(aM q+aM (k*4503599627370496+m))*B+2^j*B=(4*m)*2^j*B:=by
    rw[←Nat.add_mul];congr 1;rw[hu']at hs'
    have:m*2^k=2*(m*2^j):=by rw[hj,Nat.pow_succ];ac_rfl
    rw[Nat.mul_assoc 4];omega
   exact⟨by omega,fun g=>by omega⟩
 by_cases hinf:k*4503599627370496+m<aJ
 ·rw[Nat.min_eq_left (Nat.le_of_lt hinf)];refine⟨Nat.le_of_lt hinf,fun q hq=>?_,fun _=>?_⟩
  ·rw[hpar];exact low q hq
  ·rw[hpar,hs,hv,hu];have e:m*2^k+(m*2^k+2^k)=(2*m+1)*2^k:=by rw[Nat.add_mul,Nat.mul_assoc];omega
   rw[e];exact up
 ·rw[Nat.min_eq_right (by omega)];refine⟨Nat.le_refl _,fun q hq=>?_,fun h=>absurd h (Nat.lt_irrefl _)⟩;obtain⟨q',hq'⟩:∃q',k*4503599627370496+m=q'+1:=⟨k*4503599627370496+m-1,by unfold aJ at hinf;omega⟩
  have:=(low q' hq').1;have v1:=oW q q' (by omega);have v2:=oW aJ (k*4503599627370496+m) (by omega);refine⟨Nat.le_trans (Nat.mul_le_mul_right _ (by omega)) this,fun h=>?_⟩;exact absurd h (by unfold aJ;decide)
theorem aGT (u v:Nat)(c1:∀k,2*k≤u↔2*k≤v)(c2:∀k,u≤2*k↔v≤2*k):u=v:=by
 have:=c1 (u / 2);have:=c1 (v / 2);have:=c2 (u / 2);have:=c2 (v / 2);have:=c1 (u / 2+1);omega
theorem aMC (A B:Nat)(hB:0<B):unr A (2*B)=unr A B / 2 ||| unr A B%2:=by
 have e:∀u:Nat,u / 2 ||| u%2=if u%2=0 then u / 2 else 2*(u / 4)+1:=by
  intro u;split
  ·rename_i h;rw[h,Nat.or_zero]
  ·rename_i h;rw[show u%2=1 by omega,rP,Nat.div_div_eq_div_mul]
 rw[e];have g1:=fun k=>fW A B k hB
 have l1:=fun k=>eZ A B k hB
 refine aGT _ _ (fun k=>?_) (fun k=>?_)
 ·rw[fW _ _ _ (by omega),show k*(2*B)=(2*k)*B by rw[Nat.mul_left_comm,Nat.mul_assoc],←g1];split<;>omega
 ·rw[eZ _ _ _ (by omega),show k*(2*B)=(2*k)*B by rw[Nat.mul_left_comm,Nat.mul_assoc],←l1];split<;>omega
theorem pY (A B m:Nat)(hB:0<B)(hm:(unr A B+1+unr A B / 4%2) / 4=m) :
  (2*A≤(2*m+1)*B∧(m%2=1→2*A<(2*m+1)*B))∧((2*m)*B≤2*A+B∧(m%2=1→(2*m)*B<2*A+B)):=by
 have g1:=fun k=>fW A B k hB
 have l1:=fun k=>eZ A B k hB
 generalize unr A B=u at *
 obtain⟨q,c,hc,hq⟩:∃q c,c<4∧u=4*q+c:=⟨u / 4,u%4,by omega,by omega⟩
 have hq4:u / 4=q:=by omega
 rw[hq4]at hm
 have hcases:(m=q∧(c<2∨(c=2∧q%2=0)))∨(m=q+1∧(c=3∨(c=2∧q%2=1))):=by
  have:c=0∨c=1∨c=2∨c=3:=by omega
  have h2:q%2=0∨q%2=1:=by omega
  rcases this with rfl|rfl|rfl|rfl<;>rcases h2 with h2|h2<;>rw[h2]at hm<;>omega
 clear hm hq4;refine⟨⟨?_,fun h=>?_⟩,?_⟩
 ·rw[←l1];omega
 ·have h2:¬ 2*(2*m+1)≤u:=by omega
  have:¬(2*m+1)*B≤2*A:=fun h=>h2 ((g1 (2*m+1)).2 h)
  omega
 ·rcases Nat.eq_zero_or_pos m with h0|h0
  ·subst h0;exact⟨by omega,fun h=>by omega⟩
  ·obtain⟨n,rfl⟩:∃n,m=n+1:=⟨m-1,by omega⟩
   have e:2*(n+1)*B=(2*n+1)*B+B:=by rw[←Nat.succ_mul];rfl
   rw[e];refine⟨?_,fun h=>?_⟩
   ·have:=(g1 (2*n+1)).1 (by omega);omega
   ·have h2:¬u≤2*(2*n+1):=by omega
    have:¬ 2*A≤(2*n+1)*B:=fun h=>h2 ((l1 (2*n+1)).2 h)
    omega
def lpI (i:Nat):Int:=((i:Int)-348)*108853 / 32768
def iT (i:Nat):Nat:=10^(i-348)*2^(127-lpI i).toNat
def dM (i:Nat):Nat:=10^(348-i)*2^(lpI i-127).toNat
def pmN (i:Nat):Nat:=aH i*18446744073709551616-aR i
def aDG (i:Nat):Prop:=aH i<18446744073709551616∧aR i<18446744073709551616∧0<aH i∧iT i≤pmN i*dM i∧pmN i*dM i<iT i+dM i∧170141183460469231731687303715884105728≤pmN i
instance (i:Nat):Decidable (aDG i):=by unfold aDG;exact inferInstance
theorem aOv:((List.range 696).all fun i=>decide (aDG i))=true:=by kernel_rfl
theorem uP (i:Nat)(h:i<696):aDG i:=of_decide_eq_true (List.all_eq_true.1 aOv i (List.mem_range.2 h))
def aDF (i:Nat):Prop:=170141183460469231731687303715884105728*dM i≤iT i∧iT i≤340282366920938387905510881517444792320*dM i
instance (i:Nat):Decidable (aDF i):=by unfold aDF;exact inferInstance
theorem aOu:((List.range 696).all fun i=>decide (aDF i))=true:=by kernel_rfl
theorem aBL (i:Nat)(h:i<696):aDF i:=of_decide_eq_true (List.all_eq_true.1 aOu i (List.mem_range.2 h))
theorem vZ (i:Nat):0<dM i:=Nat.mul_pos (Nat.pow_pos (by decide)) (Nat.two_pow_pos _)
def eu (X W:Nat):Nat→Nat→Nat→Nat→Nat→Bool
 | 0,_,_,_,_=>false
 | f+1,k0,d0,k1,d1=>if X≤k0+d0 / d1*k1 then decide (W<d1)else eu X W f k1 d1 (k0+d0 / d1*k1) (d0%d1)
def aKM (L:Int→Int→Prop)(g:Int)(k0 d0 k1 d1:Nat):Prop:=∀k d,L k d→∃a b:Int,k=a*k0+b*k1∧d=g*(b*d1-a*d0)
theorem aJv (L:Int→Int→Prop)(g:Int)(k0 d0 k1 d1:Nat)(h:aKM L g k0 d0 k1 d1):aKM L (-g) k1 d1 (k0+d0 / d1*k1) (d0%d1):=by
 intro k d hL;obtain⟨a,b,e1,e2⟩:=h k d hL;have hd:(d0:Int)=(d0%d1:Nat)+(d0 / d1:Nat)*(d1:Int):=by
  have:=Nat.mod_add_div d0 d1;rw[Nat.mul_comm]at this
  exact_mod_cast this.symm
 refine⟨b-a*(d0 / d1:Nat),a,?_,?_⟩
 ·rw[e1];push_cast
  grind
 ·rw[e2,hd];grind
theorem aML (L:Int→Int→Prop)(X W:Nat):∀(f:Nat) (g:Int) (k0 d0 k1 d1:Nat),(g=1∨g=-1)→aKM L g k0 d0 k1 d1→eu X W f k0 d0 k1 d1=true→∀k d,L k d→0<k→k<X→(W:Int)<d.natAbs
 | 0,_,_,_,_,_,_,_,h=>by cases h
 | f+1,g,k0,d0,k1,d1,hg,hm,h=>by
  unfold eu at h;have hs:=aJv L g k0 d0 k1 d1 hm;split at h
  ·rename_i hX;have hW:=of_decide_eq_true h;intro k d hL h0 h1;obtain⟨a,b,e1,e2⟩:=hs k d hL;generalize k0+d0 / d1*k1=k2 at *
   generalize d0%d1=d2 at *
   have hd2:(0:Int)≤d2:=by omega
   have hk1:(0:Int)≤k1:=by omega
   have hk2:(X:Int)≤k2:=by omega
   have key:(d1:Int)≤(b*d2-a*d1:Int).natAbs:=by
    rcases Int.lt_trichotomy b 0 with hb|hb|hb
    ·have a1:1≤a:=by
      rcases Int.lt_or_le 0 a with h|h
      ·omega
      ·exfalso;have:=Int.mul_le_mul_of_nonneg_right h hk1;have:=Int.mul_le_mul_of_nonneg_right (show b≤0 by omega) (show(0:Int)≤k2 by omega);omega
     have t1:=Int.mul_le_mul_of_nonneg_right a1 (show(0:Int)≤d1 by omega);have t2:=Int.mul_le_mul_of_nonneg_right (show b≤0 by omega) hd2;omega
    ·subst hb;have a1:1≤a:=by
      rcases Int.lt_or_le 0 a with h|h
      ·omega
      ·exfalso;have:=Int.mul_le_mul_of_nonneg_right h hk1;omega
     have t1:=Int.mul_le_mul_of_nonneg_right a1 (show(0:Int)≤d1 by omega);omega
    ·have a1:a≤-1:=by
      rcases Int.lt_or_le a 0 with h|h
      ·omega
      ·exfalso;have:=Int.mul_nonneg h hk1;have:=Int.mul_le_mul_of_nonneg_right (show 1≤b by omega) (show(0:Int)≤k2 by omega);omega
     have t1:=Int.mul_le_mul_of_nonneg_right a1 (show(0:Int)≤d1 by omega);have t2:=Int.mul_nonneg (show 0≤b by omega) hd2;omega
   have:(d.natAbs:Int)=(b*d2-a*d1:Int).natAbs:=by
    rw[e2];rcases hg with rfl|rfl
    ·rw[show -1*(b*(d2:Int)-a*d1)=-(b*d2-a*d1) by omega,Int.natAbs_neg]
    ·rw[show - -1*(b*(d2:Int)-a*d1)=(b*d2-a*d1) by omega]
   omega
  ·exact aML L X W f (-g) _ _ _ _ (by omega) hs h
def zG (W M c:Nat):Bool:=eu W W 200 0 M 1 (c%M)
theorem aPC (W M c:Nat)(h:zG W M c=true)(k y:Nat)(h0:0<k)(h1:k<W):W<((k:Int)*c-y*M).natAbs:=by
 have:=aML (fun k d=>∃y:Int,d=k*c-y*M) W W 200 1 0 M 1 (c%M) (.inl rfl) (by
  rintro k d ⟨y,rfl⟩;have e:(c:Int)=(c%M:Nat)+(c / M:Nat)*(M:Int):=by
   have:=Nat.mod_add_div c M;rw[Nat.mul_comm]at this
   exact_mod_cast this.symm
  refine⟨y-k*(c / M:Nat),k,by simp,?_⟩;rw[show(k:Int)*c=k*((c%M:Nat)+(c / M:Nat)*(M:Int)) by rw[←e]];grind) h k _ ⟨y,rfl⟩ (by omega) (by omega)
 omega
theorem aEC (G W M pm s0 s k T D:Nat)(hP:G*W=18446744073709551616)(hM:G*M=2^s0*340282366920938463463374607431768211456)(hs:s0≤s)(hc:zG W M pm=true)(hk:0<k)(hx:k<W):rG (G*k) pm s T D:=by
 intro hi h0 h1 h2;exfalso;obtain⟨c,hc'⟩:=Nat.dvd_of_mod_eq_zero h0;have e2:2^s=2^s0*2^(s-s0):=by rw[←Nat.pow_add];congr 1;omega
 have e3:hi*340282366920938463463374607431768211456=G*(c*2^(s-s0)*M):=by
  rw[hc',e2,Nat.mul_left_comm G,hM];ac_rfl
 rw[e3,←hP,Nat.mul_assoc G k pm]at h1 h2
 have hG:0<G:=by
  rcases Nat.eq_zero_or_pos G with h|h
  ·rw[h]at hP;omega
  ·exact h
 rw[←Nat.mul_add]at h1 h2
 have h1:=Nat.lt_of_mul_lt_mul_left h1;have h2:=Nat.le_of_mul_le_mul_left h2 hG;have:=aPC W M pm hc k (c*2^(s-s0)) hk hx;have a1:((k*pm:Nat):Int)=(k:Int)*pm:=by push_cast;rfl
 have a2:((c*2^(s-s0)*M:Nat):Int)=((c*2^(s-s0):Nat):Int)*M:=by push_cast;rfl
 rw[←a1,←a2]at this
 omega
theorem aLq:((List.range 696).all fun i=>decide (321≤i∧i≤375)||zG 144115188075855872 85070591730234615865843651857942052864 (pmN i))=true:=by kernel_rfl
theorem aLr:((List.range 696).all fun i=>decide (321≤i∧i≤375)||zG 72057594037927936 21267647932558653966460912964485513216 (pmN i))=true:=by kernel_rfl
theorem aRc (i:Nat)(h:i<696)(hn:¬(321≤i∧i≤375)):zG 144115188075855872 85070591730234615865843651857942052864 (pmN i)=true:=by
 have:=List.all_eq_true.1 aLq i (List.mem_range.2 h);rw[decide_eq_false hn,Bool.false_or]at this
 exact this
theorem aRd (i:Nat)(h:i<696)(hn:¬(321≤i∧i≤375)):zG 72057594037927936 21267647932558653966460912964485513216 (pmN i)=true:=by
 have:=List.all_eq_true.1 aLr i (List.mem_range.2 h);rw[decide_eq_false hn,Bool.false_or]at this
 exact this
def aDD (i:Nat):Prop:=aR i=0∧aH i%2=0∧iT i=pmN i∧dM i=1
instance (i:Nat):Decidable (aDD i):=by unfold aDD;exact inferInstance
theorem aOf:((List.range 28).all fun j=>decide (aDD (348+j)))=true:=by kernel_rfl
theorem aP2 (i:Nat)(h1:348≤i)(h2:i≤375):aDD i:=by
 have:=of_decide_eq_true (List.all_eq_true.1 aOf (i-348) (List.mem_range.2 (by omega)));rwa[show 348+(i-348)=i by omega]at this
theorem aED (x i s:Nat)(h1:348≤i)(h2:i≤375):rG x (pmN i) s (iT i) (dM i):=by
 obtain⟨e1,e2,e3,e4⟩:=aP2 i h1 h2;rw[e3,e4];intro hi h0 h1 h2;have ep:pmN i=aH i*18446744073709551616:=by unfold pmN;rw[e1];omega
 rw[ep,←Nat.mul_assoc]at h1 h2 ⊢
 have ev:x*aH i%2=0:=by rw[Nat.mul_mod,e2];simp
 generalize x*aH i=q at *
 omega
def aDC (i:Nat):Prop:=iT i%(340282366920938463463374607431768211456*2^(348-i))=0∧(340282366920938463463374607431768211456*dM i)%(340282366920938463463374607431768211456*2^(348-i))=0∧36893488147419103232*dM i≤340282366920938463463374607431768211456*2^(348-i)
instance (i:Nat):Decidable (aDC i):=by unfold aDC;exact inferInstance
theorem aN2:((List.range 27).all fun j=>decide (aDC (321+j)))=true:=by kernel_rfl
theorem aPV (i:Nat)(h1:321≤i)(h2:i<348):aDC i:=by
 have:=of_decide_eq_true (List.all_eq_true.1 aN2 (i-321) (List.mem_range.2 (by omega)));rwa[show 321+(i-321)=i by omega]at this
theorem aKf (G a b m:Nat)(ha:a%G=0)(hb:b%G=0)(h1:a≤b+m)(h2:b<a+2*m+G)(hm:a≤b+m)(h3:m<G)(h4:b<a+G):a=b:=by
 obtain⟨p,rfl⟩:=Nat.dvd_of_mod_eq_zero ha;obtain⟨q,rfl⟩:=Nat.dvd_of_mod_eq_zero hb;have a1:G*p<G*(q+1):=by rw[Nat.mul_add];omega
 have a2:G*q<G*(p+1):=by rw[Nat.mul_add];omega
 have:=Nat.lt_of_mul_lt_mul_left a1;have:=Nat.lt_of_mul_lt_mul_left a2;have:p=q:=by omega
 rw[this]
theorem aLU (x i s:Nat)(hx0:0<x)(hx:x<18446744073709551616)(h1:321≤i)(h2:i<348):rG x (pmN i) s (iT i) (dM i):=by
 obtain⟨n1,n2,n3⟩:=aPV i h1 h2;obtain⟨_,_,_,r1,r2,_⟩:=uP i (by omega);have hD:=vZ i;intro hi h0 g1 g2;have x1:x*iT i≤x*pmN i*dM i:=by rw[Nat.mul_assoc];exact Nat.mul_le_mul_left _ r1
 have x2:x*pmN i*dM i<x*iT i+x*dM i:=by rw[Nat.mul_assoc,←Nat.mul_add];exact Nat.mul_lt_mul_of_pos_left r2 hx0
 have y1:=Nat.mul_le_mul_right (dM i) g2;have y2:=Nat.mul_le_mul_right (dM i) (Nat.le_of_lt g1);rw[Nat.add_mul]at y1 y2
 have y3:x*dM i≤18446744073709551615*dM i:=Nat.mul_le_mul_right _ (by omega);have m1:x*iT i%(340282366920938463463374607431768211456*2^(348-i))=0:=by rw[Nat.mul_mod,n1];simp
 have m2:hi*340282366920938463463374607431768211456*dM i%(340282366920938463463374607431768211456*2^(348-i))=0:=by rw[Nat.mul_assoc,Nat.mul_mod,n2];simp
 have hG:0<340282366920938463463374607431768211456*2^(348-i):=Nat.mul_pos (by decide) (Nat.two_pow_pos _);generalize 340282366920938463463374607431768211456*2^(348-i)=G at *
 generalize hi*340282366920938463463374607431768211456*dM i=b at *
 generalize x*pmN i*dM i=c at *
 generalize x*iT i=a at *
 generalize x*dM i=f at *
 generalize dM i=dd at *
 exact aKf G a b (18446744073709551616*dd) m1 m2 (by omega) (by omega) (by omega) (by omega) (by omega)
theorem aEB (x i s:Nat)(hi:i<696)(hx0:0<x)(hx:x<18446744073709551616)(h:(5≤s∧x%128=0)∨(4≤s∧x%256=0)):rG x (pmN i) s (iT i) (dM i):=by
 by_cases hn:321≤i∧i≤375
 ·by_cases h3:i<348
  ·exact aLU x i s hx0 hx hn.1 h3
  ·exact aED x i s (by omega) hn.2
 ·rcases h with⟨h1,h2⟩|⟨h1,h2⟩
  ·have e:x=128*(x / 128):=by omega
   rw[e];exact aEC 128 144115188075855872 85070591730234615865843651857942052864 _ 5 s _ _ _ (by decide) (by decide) h1 (aRc i hi hn) (by omega) (by omega)
  ·have e:x=256*(x / 256):=by omega
   rw[e];exact aEC 256 72057594037927936 21267647932558653966460912964485513216 _ 4 s _ _ _ (by decide) (by decide) h1 (aRd i hi hn) (by omega) (by omega)
theorem tE (A B A' B':Nat)(hB:0<B)(hB':0<B')(h:A*B'=A'*B):unr A B=unr A' B':=by
 have key:∀k,(k*B≤2*A↔k*B'≤2*A')∧(2*A≤k*B↔2*A'≤k*B'):=by
  intro k;have e1:k*B*B'=k*B'*B:=by ac_rfl
  have e2:2*A*B'=2*A'*B:=by rw[Nat.mul_assoc,h,Nat.mul_assoc]
  refine⟨⟨fun g=>?_,fun g=>?_⟩,⟨fun g=>?_,fun g=>?_⟩⟩
  ·refine Nat.le_of_mul_le_mul_right ?_ hB;rw[←e1,←e2];exact Nat.mul_le_mul_right _ g
  ·refine Nat.le_of_mul_le_mul_right ?_ hB';rw[e1,e2];exact Nat.mul_le_mul_right _ g
  ·refine Nat.le_of_mul_le_mul_right ?_ hB;rw[←e1,←e2];exact Nat.mul_le_mul_right _ g
  ·refine Nat.le_of_mul_le_mul_right ?_ hB';rw[e1,e2];exact Nat.mul_le_mul_right _ g
 have g1:=fun k=>fW A B k hB
 have g2:=fun k=>fW A' B' k hB'
 have l1:=fun k=>eZ A B k hB
 have l2:=fun k=>eZ A' B' k hB'
 generalize unr A B=u at *
 generalize unr A' B'=v at *
 have c1:∀k,2*k≤u↔2*k≤v:=fun k=>by rw[g1,g2,(key k).1]
 have c2:∀k,u≤2*k↔v≤2*k:=fun k=>by rw[l1,l2,(key k).2]
 have:=c1 (u / 2);have:=c1 (v / 2);have:=c2 (u / 2);have:=c2 (v / 2);have:=c1 (u / 2+1);omega
theorem aDh (x i s:Nat)(e:Int)(hi:i<696)(hx0:0<x)(hx:x<18446744073709551616)(hs:-(e+lpI i+3)=s)(h:rG x (pmN i) s (iT i) (dM i)) :
  cF x (aH i) (aR i) s=unr (x*10^(i-348)*2^e.toNat) (10^(348-i)*2^(-e).toNat):=by
 obtain⟨r1,r2,r3,r4,r5,r6⟩:=uP i hi;have epm:pmN i+aR i=aH i*18446744073709551616:=by
  unfold pmN;have:1*18446744073709551616≤aH i*18446744073709551616:=Nat.mul_le_mul_right _ r3;omega
 rw[aKD x (aH i) (aR i) s (pmN i) (iT i) (dM i) hx0 hx r1 r2 (vZ i) epm r4 r5 h];refine tE _ _ _ _ (Nat.mul_pos (by decide) (Nat.mul_pos (vZ i) (Nat.mul_pos (Nat.two_pow_pos _) (by decide)))) (Nat.mul_pos (Nat.pow_pos (by decide)) (Nat.two_pow_pos _)) ?_;unfold iT dM;have e1:2^(127-lpI i).toNat*2^(-e).toNat=2^e.toNat*(2^2*(2^(lpI i-127).toNat*(2^s*2^128))):=by
  rw[←Nat.pow_add,←Nat.pow_add,←Nat.pow_add,←Nat.pow_add,←Nat.pow_add];congr 1;omega
 have e2:(2:Nat)^2=4:=by decide
 have e3:(2:Nat)^128=340282366920938463463374607431768211456:=by decide
 rw[e2,e3]at e1
 generalize (2:Nat)^(127-lpI i).toNat=a1 at *
 generalize (2:Nat)^(-e).toNat=a2 at *
 generalize (2:Nat)^e.toNat=a3 at *
 generalize (2:Nat)^(lpI i-127).toNat=a4 at *
 generalize (2:Nat)^s=a5 at *
 generalize (10:Nat)^(i-348)=b1 at *
 generalize (10:Nat)^(348-i)=b2 at *
 generalize 340282366920938463463374607431768211456=P at *
 calc x*(b1*a1)*(b2*a2)=x*b1*b2*(a1*a2):=by ac_rfl
  _=x*b1*b2*(a3*(4*(a4*(a5*P)))):=by rw[e1]
  _=x*b1*a3*(4*(b2*a4*(a5*P))):=by ac_rfl
def bA (d i:Nat):Nat:=d*10^(i-348)*2^1074
def aF (i:Nat):Nat:=10^(348-i)
theorem dU (i:Nat):0<aF i:=Nat.pow_pos (by decide)
theorem aES (i:Nat):∃ α β : Nat,(α : Int)-β = 127-lpI i∧iT i=10^(i-348)*2^α ∧ dM i=aF i*2^β :=
 ⟨(127-lpI i).toNat,(lpI i-127).toNat,by omega,rfl,rfl⟩
theorem aGh (a b c z:Nat):a*b*z*c=a*(b*c)*z:=by ac_rfl
theorem aKS (a b c z:Nat):2*(a*b*z)*c=2*(a*(b*c)*z):=by ac_rfl
theorem aKt (d i b K:Nat)(hi:i<696)(hb:1≤b)(h1:2^(b-1)≤d)(hK:(K:Int)=1021+b+lpI i):4503599627370496*(aF i*2^K)≤bA d i:=by
 obtain⟨r1,_⟩:=aBL i hi;obtain⟨α,β,h2,h3,h4⟩:=aES i;rw[h3,h4]at r1
 refine Nat.le_of_mul_le_mul_right (c:=2^α) ?_ (Nat.two_pow_pos _);unfold bA;have e52:4503599627370496=2^52:=by decide
 have e127:170141183460469231731687303715884105728=2^127:=by decide
 rw[e127]at r1
 have m:=Nat.mul_le_mul_right (2^1074) (Nat.mul_le_mul h1 r1);have l:4503599627370496*(aF i*2^K)*2^α = 2^(b-1)*(2^127*(aF i*2^β))*2^1074:=by
  have e:2^52*2^K*2^α = 2^(b-1)*2^127*2^β * 2^1074:=by
   obtain ⟨zz, hzz⟩ : ∃ zz, 1074 = zz := ⟨_, rfl⟩
   rw [hzz]
   rw[←Nat.pow_add,←Nat.pow_add,←Nat.pow_add,←Nat.pow_add,←Nat.pow_add];congr 1;omega
  rw[e52]
  calc 2^52*(aF i*2^K)*2^α = aF i*(2^52*2^K*2^α):=by ac_rfl
   _=aF i*(2^(b-1)*2^127*2^β * 2^1074):=by rw[e]
   _=_:=by generalize (2:Nat)^1074=z;ac_rfl
 rw[l];refine Nat.le_trans m (Nat.le_of_eq ?_);exact(aGh _ _ _ _).symm
theorem aQe (d i b K:Nat)(hi:i<696)(h1:d<2^b)(hK:1021+b+lpI i≤(K:Int)):bA d i≤18014398509481980*(aF i*2^K):=by
 obtain⟨_,r1⟩:=aBL i hi;obtain⟨α,β,h2,h3,h4⟩:=aES i;rw[h3,h4]at r1
 refine Nat.le_of_mul_le_mul_right (c:=2^α) ?_ (Nat.two_pow_pos _);unfold bA;have e127:340282366920938387905510881517444792320=18014398509481980*2^74:=by decide
 rw[e127]at r1
 have m:=Nat.mul_le_mul_right (2^1074) (Nat.mul_le_mul (Nat.le_of_lt h1) r1);have l:2^b*(18014398509481980*2^74*(aF i*2^β))*2^1074≤18014398509481980*(aF i*2^K)*2^α := by
  have e:2^b*2^74*2^β * 2^1074≤2^K*2^α := by
   obtain ⟨zz, hzz⟩ : ∃ zz, 1074 = zz := ⟨_, rfl⟩
   rw [hzz]
   rw[←Nat.pow_add,←Nat.pow_add,←Nat.pow_add,←Nat.pow_add];refine Nat.pow_le_pow_right (by decide) ?_;omega
  calc 2^b*(18014398509481980*2^74*(aF i*2^β))*2^1074=18014398509481980*aF i*(2^b*2^74*2^β * 2^1074):=by generalize (2:Nat)^1074=z;ac_rfl
   _≤18014398509481980*aF i*(2^K*2^α):=Nat.mul_le_mul_left _ e
   _=_:=by ac_rfl
 refine Nat.le_trans (Nat.le_of_eq ?_) (Nat.le_trans m l);exact aGh _ _ _ _
theorem aOT (d i b:Nat)(hi:i<696)(h1:d<2^b)(h:(b:Int)+lpI i≤-1077):2*bA d i≤aF i:=by
 obtain⟨_,r1⟩:=aBL i hi;obtain⟨α,β,h2,h3,h4⟩:=aES i;rw[h3,h4]at r1
 refine Nat.le_of_mul_le_mul_right (c:=2^α) ?_ (Nat.two_pow_pos _);unfold bA;have r2:10^(i-348)*2^α ≤ 2^128*(aF i*2^β):=Nat.le_trans r1 (Nat.mul_le_mul_right _ (by decide));have m:=Nat.mul_le_mul_right (2^1074) (Nat.mul_le_mul (Nat.le_of_lt h1) r2);have l:2*(2^b*(2^128*(aF i*2^β))*2^1074)≤aF i*2^α := by
  have e:2*(2^b*2^128*2^β * 2^1074)≤2^α := by
   obtain ⟨zz, hzz⟩ : ∃ zz, 1074 = zz := ⟨_, rfl⟩
   rw [hzz]
   rw[←Nat.pow_add,←Nat.pow_add,←Nat.pow_add,Nat.mul_comm,←Nat.pow_succ];refine Nat.pow_le_pow_right (by decide) ?_;omega
  calc 2*(2^b*(2^128*(aF i*2^β))*2^1074)=aF i*(2*(2^b*2^128*2^β * 2^1074)):=by generalize (2:Nat)^1074=z;ac_rfl
   _≤aF i*2^α := Nat.mul_le_mul_left _ e
 have m2:=Nat.mul_le_mul_left 2 m;refine Nat.le_trans (Nat.le_of_eq ?_) (Nat.le_trans m2 l);exact aKS _ _ _ _
theorem aJK (d i b s K:Nat)(e:Int)(hi:i<696)(hd:1≤d)(h2:d<2^b)(hb:b≤64)(he:e=1074-K)(hs:-(e-(64-b)+lpI i+3)=s)(hN:rG (d*2^(64-b)) (pmN i) s (iT i) (dM i)) :
  cF (d*2^(64-b)) (aH i) (aR i) s=unr (bA d i) (aF i*2^K):=by
 have hx:d*2^(64-b)<18446744073709551616:=by
  have:d*2^(64-b)<2^b*2^(64-b):=Nat.mul_lt_mul_of_pos_right h2 (Nat.two_pow_pos _);rw[←Nat.pow_add,show b+(64-b)=64 by omega]at this
  exact this
 rw[aDh (d*2^(64-b)) i s (e-(64-b)) hi (Nat.mul_pos hd (Nat.two_pow_pos _)) hx hs hN];refine tE _ _ _ _ (Nat.mul_pos (Nat.pow_pos (by decide)) (Nat.two_pow_pos _)) (Nat.mul_pos (dU i) (Nat.two_pow_pos _)) ?_;unfold bA aF;have e1:2^(64-b)*2^(e-(64-(b:Int))).toNat*2^K=2^1074*2^(-(e-(64-(b:Int)))).toNat:=by
  obtain ⟨zz, hzz⟩ : ∃ zz, 1074 = zz := ⟨_, rfl⟩
  rw [hzz]
  rw[←Nat.pow_add,←Nat.pow_add,←Nat.pow_add];congr 1;omega
 generalize (2:Nat)^1074=z at *
 generalize (2:Nat)^(64-b)=a1 at *
 generalize (2:Nat)^K=a2 at *
 generalize (2:Nat)^(e-(64-(b:Int))).toNat=a3 at *
 generalize (2:Nat)^(-(e-(64-(b:Int)))).toNat=a4 at *
 generalize (10:Nat)^(i-348)=b1 at *
 generalize (10:Nat)^(348-i)=b2 at *
 calc d*a1*b1*a3*(b2*a2)=d*b1*b2*(a1*a3*a2):=by ac_rfl
  _=d*b1*b2*(z*a4):=by rw[e1]
  _=d*b1*z*(b2*a4):=by ac_rfl
def bM (b i:Nat):Nat:=(1074-min 1074 (53-(b:Int)-lpI i)).toNat
def fA (b i:Nat):Int:=-(min 1074 (53-(b:Int)-lpI i)-(64-b)+lpI i+3)
def aZ (u:Nat):Nat:=(u+1+u / 4%2) / 4
def bO (u:Nat):Nat:=if 36028797018963966≤u then u / 2 ||| u%2 else u
def gK (u:Nat):Nat:=if 36028797018963966≤u then 1 else 0
theorem aEM (d i b:Nat)(hi:i<696)(hb1:1≤b)(h1:2^(b-1)≤d)(h2:d<2^b)(hb:b≤64)(s:Nat)(hs:fA b i=s)
  (hN:rG (d*2^(64-b)) (pmN i) s (iT i) (dM i)) (u:Nat) (hu:cF (d*2^(64-b)) (aH i) (aR i) s=u) :
  u<72057594037927936∧aZ (bO u)<9007199254740992∧(4503599627370496≤aZ (bO u)∨bM b i+gK u=0)∧bI (bA d i) (aF i) (min ((bM b i+gK u)*4503599627370496+aZ (bO u)) aJ):=by
 have hd:1≤d:=Nat.le_trans (Nat.two_pow_pos _) h1;have hKe:min 1074 (53-(b:Int)-lpI i)=1074-(bM b i:Int):=by unfold bM;omega
 have eu:=aJK d i b s (bM b i) (min 1074 (53-(b:Int)-lpI i)) hi hd h2 hb hKe (by unfold fA at hs;exact hs) hN;rw[hu]at eu
 have hB:=dU i;have hBK:0<aF i*2^bM b i:=Nat.mul_pos hB (Nat.two_pow_pos _);have hKle:1021+(b:Int)+lpI i≤bM b i:=by omega
 have up:=aQe d i b (bM b i) hi h2 hKle;have g1:=fun k=>fW (bA d i) (aF i*2^bM b i) k hBK
 have l1:=fun k=>eZ (bA d i) (aF i*2^bM b i) k hBK
 rw[←eu]at g1 l1
 have u1:u≤72057594037927920:=by
  have:=(l1 36028797018963960).2 (by
   have:36028797018963960*(aF i*2^bM b i)=2*(18014398509481980*(aF i*2^bM b i)):=by rw[←Nat.mul_assoc 2]
   omega)
  omega
 have lo:bM b i≠0→18014398509481984≤u:=by
  intro h;have hK:(bM b i:Int)=1021+b+lpI i:=by omega
  have:=aKt d i b (bM b i) hi hb1 h1 hK;have:=(g1 9007199254740992).2 (by
   have:9007199254740992*(aF i*2^bM b i)=2*(4503599627370496*(aF i*2^bM b i)):=by rw[←Nat.mul_assoc 2]
   omega)
  omega
 refine⟨by omega,?_⟩;by_cases c:36028797018963966≤u
 ·have ecu:bO u=unr (bA d i) (2*(aF i*2^bM b i)):=by
   unfold bO;rw[if_pos c,aMC _ _ hBK,←eu]
  have eck:gK u=1:=by unfold gK;rw[if_pos c]
  have hor:bO u=if u%2=0 then u / 2 else 2*(u / 4)+1:=by
   unfold bO;rw[if_pos c];split
   ·rename_i h;rw[h,Nat.or_zero]
   ·rename_i h;rw[show u%2=1 by omega,rP,Nat.div_div_eq_div_mul]
  have v1:18014398509481983≤bO u∧bO u≤36028797018963962:=by rw[hor];split<;>omega
  have r1:4503599627370496≤aZ (bO u)∧aZ (bO u)<9007199254740992:=by
   unfold aZ;have:bO u=18014398509481983∨18014398509481984≤bO u:=by omega
   rcases this with h|h
   ·rw[h];decide
   ·omega
  refine⟨r1.2,.inl r1.1,?_⟩;rw[eck];obtain⟨⟨q1,q2⟩,q3,q4⟩:=pY (bA d i) (2*(aF i*2^bM b i)) _ (by omega) (show aZ (unr (bA d i) (2*(aF i*2^bM b i)))=aZ (bO u) by rw[ecu]);have eB:∀n,n*(2*(aF i*2^bM b i))=n*2^(bM b i+1)*aF i:=fun n=>by rw[Nat.pow_succ];ac_rfl
  have eB1:2*(aF i*2^bM b i)=2^(bM b i+1)*aF i:=by rw[Nat.pow_succ];ac_rfl
  rw[eB]at q1 q2 q3 q4
  rw[eB1]at q3 q4
  refine zN _ _ _ _ r1.2 (.inl r1.1) ⟨q1,q2⟩ (fun _=>⟨q3,q4⟩) ?_;intro j hj hm;obtain rfl:j=bM b i:=by omega
  have:=(g1 18014398509481983).1 (by omega);rw[hm];have e:4*4503599627370496*2^bM b i*aF i=18014398509481983*(aF i*2^bM b i)+2^bM b i*aF i:=by
   rw[Nat.mul_comm (aF i),Nat.mul_assoc];generalize 2^bM b i*aF i=z;omega
  omega
 ·have ecu:bO u=u:=by unfold bO;rw[if_neg c]
  have eck:gK u=0:=by unfold gK;rw[if_neg c]
  rw[ecu,eck,Nat.add_zero];have r1:aZ u<9007199254740992:=by unfold aZ;omega
  have r2:4503599627370496≤aZ u∨bM b i=0:=by
   by_cases h:bM b i=0
   ·exact .inr h
   ·have:=lo h;left;unfold aZ;omega
  refine⟨r1,r2,?_⟩;obtain⟨⟨q1,q2⟩,q3,q4⟩:=pY (bA d i) (aF i*2^bM b i) _ hBK (show aZ (unr (bA d i) (aF i*2^bM b i))=aZ u by rw[←eu]);have eB:∀n,n*(aF i*2^bM b i)=n*2^bM b i*aF i:=fun n=>by ac_rfl
  have eB1:aF i*2^bM b i=2^bM b i*aF i:=by ac_rfl
  rw[eB]at q1 q2 q3 q4
  rw[eB1]at q3 q4
  refine zN _ _ _ _ r1 r2 ⟨q1,q2⟩ (fun _=>⟨q3,q4⟩) ?_;intro j hj hm;rw[hm];have hK:(bM b i:Int)=1021+b+lpI i:=by omega
  have:=aKt d i b (bM b i) hi hb1 h1 hK;have e:4*4503599627370496*2^j*aF i=2*(4503599627370496*(aF i*2^bM b i)):=by
   rw[hj,Nat.pow_succ];generalize 2^j=z;have:4503599627370496*(aF i*(z*2))=2*(4503599627370496*z*aF i):=by ac_rfl
   rw[this,Nat.mul_assoc 4,Nat.mul_assoc 4];omega
  omega
theorem aCY (d i b:Nat)(hi:i<696)(h2:d<2^b)(h:64≤fA b i):bI (bA d i) (aF i) 0:=by
 have hb:(b:Int)+lpI i≤-1077:=by unfold fA at h;omega
 have:=aOT d i b hi h2 hb;refine⟨Nat.zero_le _,fun q hq=>by omega,fun _=>⟨?_,fun h=>by omega⟩⟩;have e:aM 0+aM (0+1)=1:=by decide
 rw[e,Nat.one_mul];exact this
theorem aAb (d i b s:Nat)(hi:i<696)(hd:1≤d)(h2:d<2^b)(hb:b≤64)(hs:fA b i=s)(h:b≤57∨(348≤i∧i≤375)):rG (d*2^(64-b)) (pmN i) s (iT i) (dM i):=by
 have hx:d*2^(64-b)<18446744073709551616:=by
  have:d*2^(64-b)<2^b*2^(64-b):=Nat.mul_lt_mul_of_pos_right h2 (Nat.two_pow_pos _);rw[←Nat.pow_add,show b+(64-b)=64 by omega]at this
  exact this
 rcases h with h|⟨h3,h4⟩
 ·refine aEB _ i s hi (Nat.mul_pos hd (Nat.two_pow_pos _)) hx (.inl ⟨?_,?_⟩)
  ·unfold fA at hs;omega
  ·have e:2^(64-b)=2^(57-b)*128:=by rw[show(128:Nat)=2^7 from rfl,←Nat.pow_add];congr 1;omega
   rw[e,←Nat.mul_assoc];exact Nat.mul_mod_left _ _
 ·exact aED _ i s h3 h4
end Go.Proofs.YtcfgbdhpcboikaaGreatDoor
