/-
The model's rounding finds the nearest rung: of whole numbers, products and quotients. No program in sight.
-/
import Derived.Test.YtcfgbdhpcboikaaGreatDoorReadC
namespace Go.Proofs.YtcfgbdhpcboikaaGreatDoor
set_option maxHeartbeats 2000000
theorem aOS (n:Nat):1 <<< n=2^n:=by rw[Nat.shiftLeft_eq,Nat.one_mul]
theorem aEp (neg:Bool)(n drop c:Nat)(h:Ieee.Toward.even.cut neg n drop=c) :
  (2*n≤(2*c+1)*2^drop∧(c%2=1→2*n<(2*c+1)*2^drop))∧((2*c)*2^drop≤2*n+2^drop∧(c%2=1→(2*c)*2^drop<2*n+2^drop)):=by
 unfold Ieee.Toward.cut at h;simp only[aOS]at h;by_cases hd:drop≤n.log2+2
 ·rw[Nat.min_eq_left hd]at h
  have hp:=Nat.two_pow_pos drop;generalize 2^drop=g at *
  have e:=Nat.div_add_mod n g;have l:=Nat.mod_lt n hp;generalize n / g=a at *
  generalize n%g=r at *
  have e1:∀x,(2*x+1)*g=2*(g*x)+g:=fun x=>by rw[Nat.add_mul,Nat.one_mul,Nat.mul_assoc,Nat.mul_comm x]
  have e2:∀x,2*x*g=2*(g*x):=fun x=>by rw[Nat.mul_assoc,Nat.mul_comm x]
  rw[e1,e2];by_cases c1:g<2*r
  ·have:c=a+1:=by simpa [c1]using h.symm
   subst this;rw[Nat.mul_add,Nat.mul_one];omega
  ·by_cases c2:g=2*r∧a%2=1
   ·have:c=a+1:=by
     rw[←h];simp[c2.1,c2.2]
    subst this;rw[Nat.mul_add,Nat.mul_one];omega
   ·have:c=a:=by
     rw[←h];have:(decide (g<2*r)||g==2*r&&a%2==1)=false:=by
      rw[decide_eq_false c1,Bool.false_or,Bool.and_eq_false_iff];by_cases h3:g=2*r
      ·right;rw[beq_eq_false_iff_ne];exact fun h4=>c2 ⟨h3,h4⟩
      ·left;rw[beq_eq_false_iff_ne];exact h3
     rw[this];rfl
    subst this;omega
 ·rw[Nat.min_eq_right (by omega)]at h
  have hlt:n<2^(n.log2+1):=Nat.lt_log2_self;have e2:2^(n.log2+2)=2*2^(n.log2+1):=by rw[Nat.pow_succ,Nat.mul_comm]
  have hle:2^(n.log2+2)≤2^drop:=Nat.pow_le_pow_right (by decide) (by omega);generalize 2^(n.log2+2)=g at *
  generalize 2^(n.log2+1)=g1 at *
  generalize 2^drop=G at *
  have d0:n / g=0:=Nat.div_eq_of_lt (by omega);have m0:n%g=n:=Nat.mod_eq_of_lt (by omega);have:c=0:=by
   rw[←h,d0,m0];have:(decide (g<2*n)||g==2*n&&(0:Nat)%2==1)=false:=by
    rw[decide_eq_false (by omega),Bool.false_or];simp
   rw[this];rfl
  subst this;omega
def kD (mag:Nat)(place:Int):Nat:=min ((max (place+mag.log2-(52:Nat)) (-1074) - -1074).toNat*4503599627370496+Ieee.Toward.even.cut false (mag <<< (place-max (place+mag.log2-(52:Nat)) (-1074)).toNat) (max (place+mag.log2-(52:Nat)) (-1074)-place).toNat) aX
theorem aJH (neg:Bool)(n d:Nat):Ieee.Toward.even.cut neg n d=Ieee.Toward.even.cut false n d:=rfl
theorem vP (neg:Bool)(mag:Nat)(place:Int)(h:mag≠0):FloatKind.f64.format.nearest neg mag place=(if neg then 9223372036854775808 else 0)+kD mag place:=by
 unfold Ieee.Format.nearest kD;rw[if_neg h,least,aDf,aA4,aE4];simp only[];rw[aJH];unfold Ieee.Format.word;rw[aDI];have e:aX=2047*4503599627370496:=by decide
 rw[e];split<;>simp
theorem aFr (mag:Nat)(place:Int)(h:mag≠0):cY (mag*2^(place+1074).toNat) (2^(-(place+1074)).toNat) (kD mag place):=by
 obtain⟨L,hL⟩:∃L,mag.log2=L:=⟨_,rfl⟩
 obtain⟨g1,g2⟩:=(Nat.log2_eq_iff h).1 hL;obtain⟨last,hlast⟩:∃last,max (place+mag.log2-(52:Nat)) (-1074)=last:=⟨_,rfl⟩
 obtain⟨c,hc⟩:∃c,Ieee.Toward.even.cut false (mag <<< (place-last).toNat) (last-place).toNat=c:=⟨_,rfl⟩
 have he:kD mag place=min ((last - -1074).toNat*4503599627370496+c) aX:=by unfold kD;rw[hlast,hc]
 rw[he];rw[hL]at hlast
 obtain⟨⟨a1,a2⟩,a3,a4⟩:=aEp false _ _ c hc;rw[Nat.shiftLeft_eq]at a1 a2 a3 a4
 obtain⟨k,hk⟩:∃k,(last - -1074).toNat=k:=⟨_,rfl⟩
 rw[hk];obtain⟨s,hs⟩:∃s,(place-last).toNat=s:=⟨_,rfl⟩
 obtain⟨t,ht⟩:∃t,(last-place).toNat=t:=⟨_,rfl⟩
 obtain⟨u,hu⟩:∃u,(place+1074).toNat=u:=⟨_,rfl⟩
 obtain⟨v,hv⟩:∃v,(-(place+1074)).toNat=v:=⟨_,rfl⟩
 rw[hs,ht]at a1 a2 a3 a4
 rw[hu,hv];have hst:s=0∨t=0:=by omega
 have huv:u=0∨v=0:=by omega
 have hkk:(k:Int)=last+1074:=by omega
 have E1:k+v+s=u+t:=by omega
 have hp:0<2^s:=Nat.two_pow_pos s;have conv:∀x:Nat,x*2^s*2^(k+v)=x*2^u*2^t:=fun x=>by
  rw[Nat.mul_assoc,←Nat.pow_add,Nat.mul_assoc,←Nat.pow_add];congr 2;omega
 have kv:2^(k+v)=2^k*2^v:=Nat.pow_add _ _ _;have tp:=Nat.two_pow_pos t;have kvp:=Nat.two_pow_pos (k+v);have up1:2*(mag*2^u)≤(2*c+1)*2^k*2^v:=by
  refine Nat.le_of_mul_le_mul_right (c:=2^t) ?_ tp;have:=Nat.mul_le_mul_right (2^(k+v)) a1
  calc 2*(mag*2^u)*2^t=2*(mag*2^s)*2^(k+v):=by rw[Nat.mul_assoc,Nat.mul_assoc 2,←conv mag]
   _≤(2*c+1)*2^t*2^(k+v):=this
   _=(2*c+1)*2^k*2^v*2^t:=by rw[kv];ac_rfl
 have up2:c%2=1→2*(mag*2^u)<(2*c+1)*2^k*2^v:=fun ho=>by
  refine Nat.lt_of_mul_lt_mul_right (a:=2^t) ?_;have:=Nat.mul_lt_mul_of_pos_right (a2 ho) kvp
  calc 2*(mag*2^u)*2^t=2*(mag*2^s)*2^(k+v):=by rw[Nat.mul_assoc,Nat.mul_assoc 2,←conv mag]
   _<(2*c+1)*2^t*2^(k+v):=this
   _=(2*c+1)*2^k*2^v*2^t:=by rw[kv];ac_rfl
 have lo1:2*c*2^k*2^v≤2*(mag*2^u)+2^k*2^v:=by
  refine Nat.le_of_mul_le_mul_right (c:=2^t) ?_ tp;have:=Nat.mul_le_mul_right (2^(k+v)) a3
  calc 2*c*2^k*2^v*2^t=2*c*2^t*2^(k+v):=by rw[kv];ac_rfl
   _≤(2*(mag*2^s)+2^t)*2^(k+v):=this
   _=(2*(mag*2^u)+2^k*2^v)*2^t:=by
    rw[Nat.add_mul,Nat.add_mul,Nat.mul_assoc 2,conv mag,kv,Nat.mul_assoc 2,Nat.mul_comm (2^t)]
 have lo2:c%2=1→2*c*2^k*2^v<2*(mag*2^u)+2^k*2^v:=fun ho=>by
  refine Nat.lt_of_mul_lt_mul_right (a:=2^t) ?_;have:=Nat.mul_lt_mul_of_pos_right (a4 ho) kvp
  calc 2*c*2^k*2^v*2^t=2*c*2^t*2^(k+v):=by rw[kv];ac_rfl
   _<(2*(mag*2^s)+2^t)*2^(k+v):=this
   _=(2*(mag*2^u)+2^k*2^v)*2^t:=by
    rw[Nat.add_mul,Nat.add_mul,Nat.mul_assoc 2,conv mag,kv,Nat.mul_assoc 2,Nat.mul_comm (2^t)]
 have e53:(2:Nat)^53=9007199254740992:=by decide
 have e52:(2:Nat)^52=4503599627370496:=by decide
 have chi:c≤9007199254740992:=by
  have:mag*2^s<2^53*2^t:=by
   have a:mag*2^s<2^(L+1)*2^s:=Nat.mul_lt_mul_of_pos_right g2 hp;have b:2^(L+1)*2^s≤2^53*2^t:=by
    rw[←Nat.pow_add,←Nat.pow_add];exact Nat.pow_le_pow_right (by decide) (by omega)
   omega
  rw[e53]at this
  have h2:2*c*2^t<(2*9007199254740992+1)*2^t:=by
   rw[Nat.add_mul,Nat.mul_assoc 2 9007199254740992];omega
  have:=Nat.lt_of_mul_lt_mul_right h2;omega
 have clo:k≠0→4503599627370496≤c∧4503599627370496*2^t≤mag*2^s:=fun hk0=>by
  have:2^52*2^t≤mag*2^s:=by
   have a:2^L*2^s≤mag*2^s:=Nat.mul_le_mul_right _ g1;have b:2^52*2^t≤2^L*2^s:=by
    rw[←Nat.pow_add,←Nat.pow_add];exact Nat.pow_le_pow_right (by decide) (by omega)
   omega
  rw[e52]at this
  refine⟨?_,this⟩;have h2:(2*4503599627370496)*2^t≤(2*c+1)*2^t:=by
   rw[Nat.mul_assoc 2 4503599627370496];omega
  have:=Nat.le_of_mul_le_mul_right h2 tp;omega
 have base:k≠0→4503599627370496*2^k*2^v≤mag*2^u:=fun hk0=>by
  obtain⟨_,h2⟩:=clo hk0;refine Nat.le_of_mul_le_mul_right (c:=2^t) ?_ tp;have:=Nat.mul_le_mul_right (2^(k+v)) h2
  calc 4503599627370496*2^k*2^v*2^t=4503599627370496*2^t*2^(k+v):=by rw[kv];ac_rfl
   _≤mag*2^s*2^(k+v):=this
   _=mag*2^u*2^t:=conv mag
 by_cases hc53:c=9007199254740992
 ·
  have er:k*4503599627370496+c=(k+1)*4503599627370496+4503599627370496:=by omega
  rw[er];have e2:∀y:Nat,2^(k+1)*y=2*(2^k*y):=fun y=>by rw[Nat.pow_succ];ac_rfl
  rw[hc53]at up1 lo1
  refine xO _ _ (k+1) 4503599627370496 (by omega) (.inl (Nat.le_refl _)) ⟨?_,fun h=>by omega⟩ (fun h=>by omega) ?_
  ·rw[Nat.mul_assoc,e2];rw[Nat.mul_assoc]at up1
   omega
  ·intro j hj _;obtain rfl:j=k:=by omega
   rw[Nat.mul_assoc];rw[Nat.mul_assoc]at lo1
   omega
 ·refine xO _ _ k c (by omega) ?_ ⟨up1,up2⟩ (fun _=>⟨lo1,lo2⟩) ?_
  ·by_cases hk0:k=0
   ·exact .inr hk0
   ·exact .inl (clo hk0).1
  ·intro j hj hm;have b:=base (by omega);rw[hm];have e2:4*4503599627370496*2^j*2^v=2*(4503599627370496*2^k*2^v):=by
    rw[hj,Nat.pow_succ];generalize 2^j=y;generalize 2^v=z;have:4503599627370496*(y*2)*z=2*(4503599627370496*(y*z)):=by ac_rfl
    rw[this,Nat.mul_assoc 4,Nat.mul_assoc 4,Nat.mul_assoc 4503599627370496];omega
   omega
theorem pB (neg:Bool)(b:Nat)(h:b<aX):∃mag pl,FloatKind.f64.format.read ((if neg then 9223372036854775808 else 0)+b)=.number neg mag pl∧(-1074:Int)≤pl∧bK b=mag*2^(pl+1074).toNat∧(b≠0→mag≠0)∧mag<9007199254740992:=by
 have hb:b<9218868437227405312:=h;unfold Ieee.Format.read;simp only[aDI,aA4,aE4,least];have r1:((if neg then 9223372036854775808 else 0)+b)%9223372036854775808=b:=by cases neg<;>simp<;>omega
 have r2:(((if neg then 9223372036854775808 else 0)+b) / 9223372036854775808%2==1)=neg:=by
  cases neg
  ·have:(0+b) / 9223372036854775808=0:=by omega
   simp;omega
  ·have:(9223372036854775808+b) / 9223372036854775808=1:=by omega
   simp[this]
 rw[r1,r2];by_cases c:b<4503599627370496
 ·rw[if_pos c];refine⟨b,-1074,rfl,Int.le_refl _,?_,fun h=>h,by omega⟩;unfold bK;rw[if_pos c];simp
 ·rw[if_neg c,if_pos (by omega)];refine⟨_,_,rfl,by omega,?_,fun _=>by omega,by omega⟩;unfold bK;rw[if_neg c];congr 2;omega
theorem wD (neg:Bool)(mag:Nat)(place:Int)(h:mag≠0):FloatKind.f64.format.write (.number neg mag place)=(if neg then 9223372036854775808 else 0)+kD mag place:=vP neg mag place h
theorem sX (neg:Bool)(b1 b2:Nat)(h1:b1<aX)(h2:b2<aX)(n1:b1≠0)(n2:b2≠0) :
  ∃r,FloatKind.f64.format.mul ((if neg then 9223372036854775808 else 0)+b1) b2=some ((if neg then 9223372036854775808 else 0)+r)∧cY (bK b1*bK b2) (2^1074) r:=by
 obtain⟨m1,p1,e1,l1,v1,z1,w1⟩:=pB neg b1 h1;obtain⟨m2,p2,e2,l2,v2,z2,w2⟩:=pB false b2 h2;have e2':FloatKind.f64.format.read b2=.number false m2 p2:=by
  rw[if_neg (by decide),Nat.zero_add]at e2
  exact e2
 have hm:m1*m2≠0:=Nat.mul_ne_zero (z1 n1) (z2 n2);refine⟨kD (m1*m2) (p1+p2),?_,?_⟩
 ·unfold Ieee.Format.mul;rw[e1,e2'];show some (FloatKind.f64.format.write (.number (neg ^^ false) (m1*m2) (p1+p2)))=_;rw[Bool.xor_false,wD _ _ _ hm]
 ·refine fQ _ _ _ _ _ (Nat.two_pow_pos _) (Nat.two_pow_pos 1074) ?_ (aFr (m1*m2) (p1+p2) hm);rw[v1,v2];have e:2^(p1+p2+1074).toNat*2^1074=2^(p1+1074).toNat*2^(p2+1074).toNat*2^(-(p1+p2+1074)).toNat:=by
   obtain ⟨zz, hzz⟩ : ∃ zz, 1074 = zz := ⟨_, rfl⟩
   rw [hzz]
   rw[←Nat.pow_add,←Nat.pow_add,←Nat.pow_add];congr 1;omega
  generalize (2:Nat)^1074=z at *
  generalize (2:Nat)^(p1+p2+1074).toNat=a at *
  generalize (2:Nat)^(p1+1074).toNat=b at *
  generalize (2:Nat)^(p2+1074).toNat=c at *
  generalize (2:Nat)^(-(p1+p2+1074)).toNat=d at *
  calc m1*m2*a*z=m1*m2*(a*z):=by ac_rfl
   _=m1*m2*(b*c*d):=by rw[e]
   _=m1*b*(m2*c)*d:=by ac_rfl
theorem aMr (A B c k s t u v:Nat)(E1:k+v+s=u+t)
  (a1:2*(A*2^s)≤(2*c+1)*2^t*B) (a2:c%2=1→2*(A*2^s)<(2*c+1)*2^t*B)
  (a3:2*c*2^t*B≤2*(A*2^s)+2^t*B) (a4:c%2=1→2*c*2^t*B<2*(A*2^s)+2^t*B)
  (chi:c≤9007199254740992) (clo:k≠0→4503599627370496≤c∧4503599627370496*2^t*B≤A*2^s) :
  cY (A*2^u) (B*2^v) (min (k*4503599627370496+c) aX):=by
 have conv:∀x:Nat,x*2^s*2^(k+v)=x*2^u*2^t:=fun x=>by
  rw[Nat.mul_assoc,←Nat.pow_add,Nat.mul_assoc,←Nat.pow_add];congr 2;omega
 have kv:2^(k+v)=2^k*2^v:=Nat.pow_add _ _ _;have tp:=Nat.two_pow_pos t;have kvp:=Nat.two_pow_pos (k+v);have up1:2*(A*2^u)≤(2*c+1)*2^k*(B*2^v):=by
  refine Nat.le_of_mul_le_mul_right (c:=2^t) ?_ tp;have:=Nat.mul_le_mul_right (2^(k+v)) a1
  calc 2*(A*2^u)*2^t=2*(A*2^s)*2^(k+v):=by rw[Nat.mul_assoc,Nat.mul_assoc 2,←conv A]
   _≤(2*c+1)*2^t*B*2^(k+v):=this
   _=(2*c+1)*2^k*(B*2^v)*2^t:=by rw[kv];ac_rfl
 have up2:c%2=1→2*(A*2^u)<(2*c+1)*2^k*(B*2^v):=fun ho=>by
  refine Nat.lt_of_mul_lt_mul_right (a:=2^t) ?_;have:=Nat.mul_lt_mul_of_pos_right (a2 ho) kvp
  calc 2*(A*2^u)*2^t=2*(A*2^s)*2^(k+v):=by rw[Nat.mul_assoc,Nat.mul_assoc 2,←conv A]
   _<(2*c+1)*2^t*B*2^(k+v):=this
   _=(2*c+1)*2^k*(B*2^v)*2^t:=by rw[kv];ac_rfl
 have lo1:2*c*2^k*(B*2^v)≤2*(A*2^u)+2^k*(B*2^v):=by
  refine Nat.le_of_mul_le_mul_right (c:=2^t) ?_ tp;have:=Nat.mul_le_mul_right (2^(k+v)) a3
  calc 2*c*2^k*(B*2^v)*2^t=2*c*2^t*B*2^(k+v):=by rw[kv];ac_rfl
   _≤(2*(A*2^s)+2^t*B)*2^(k+v):=this
   _=(2*(A*2^u)+2^k*(B*2^v))*2^t:=by
    rw[Nat.add_mul,Nat.add_mul,Nat.mul_assoc 2,conv A,Nat.mul_assoc 2,kv];congr 1;ac_rfl
 have lo2:c%2=1→2*c*2^k*(B*2^v)<2*(A*2^u)+2^k*(B*2^v):=fun ho=>by
  refine Nat.lt_of_mul_lt_mul_right (a:=2^t) ?_;have:=Nat.mul_lt_mul_of_pos_right (a4 ho) kvp
  calc 2*c*2^k*(B*2^v)*2^t=2*c*2^t*B*2^(k+v):=by rw[kv];ac_rfl
   _<(2*(A*2^s)+2^t*B)*2^(k+v):=this
   _=(2*(A*2^u)+2^k*(B*2^v))*2^t:=by
    rw[Nat.add_mul,Nat.add_mul,Nat.mul_assoc 2,conv A,Nat.mul_assoc 2,kv];congr 1;ac_rfl
 have base:k≠0→4503599627370496*2^k*(B*2^v)≤A*2^u:=fun hk0=>by
  obtain⟨_,h2⟩:=clo hk0;refine Nat.le_of_mul_le_mul_right (c:=2^t) ?_ tp;have:=Nat.mul_le_mul_right (2^(k+v)) h2
  calc 4503599627370496*2^k*(B*2^v)*2^t=4503599627370496*2^t*B*2^(k+v):=by rw[kv];ac_rfl
   _≤A*2^s*2^(k+v):=this
   _=A*2^u*2^t:=conv A
 generalize B*2^v=D at *
 generalize A*2^u=N at *
 by_cases hc53:c=9007199254740992
 ·have er:k*4503599627370496+c=(k+1)*4503599627370496+4503599627370496:=by omega
  rw[er];have e2:∀y:Nat,2^(k+1)*y=2*(2^k*y):=fun y=>by rw[Nat.pow_succ];ac_rfl
  rw[hc53]at up1 lo1
  refine xO _ _ (k+1) 4503599627370496 (by omega) (.inl (Nat.le_refl _)) ⟨?_,fun h=>by omega⟩ (fun h=>by omega) ?_
  ·rw[Nat.mul_assoc,e2];rw[Nat.mul_assoc]at up1
   omega
  ·intro j hj _;obtain rfl:j=k:=by omega
   rw[Nat.mul_assoc];rw[Nat.mul_assoc]at lo1
   omega
 ·refine xO _ _ k c (by omega) ?_ ⟨up1,up2⟩ (fun _=>⟨lo1,lo2⟩) ?_
  ·by_cases hk0:k=0
   ·exact .inr hk0
   ·exact .inl (clo hk0).1
  ·intro j hj hm;have b:=base (by omega);rw[hm];have e2:4*4503599627370496*2^j*D=2*(4503599627370496*2^k*D):=by
    rw[hj,Nat.pow_succ];generalize 2^j=y;have:4503599627370496*(y*2)*D=2*(4503599627370496*(y*D)):=by ac_rfl
    rw[this,Nat.mul_assoc 4,Nat.mul_assoc 4,Nat.mul_assoc 4503599627370496];omega
   omega
theorem aMi (m n:Nat)(i j:Int)(more:Nat)(hm0:m≠0)(hn0:n≠0)(hm:m<9007199254740992)(hmore:54+n.log2-m.log2=more) :
  2*(m <<< more / n)+(m <<< more%n !=0).toNat≠0∧∃P:Int,P=i-j-more-1 ∧
  cY (2*(m*2^more)*2^(P+1074).toNat) (n*2^(-(P+1074)).toNat) (kD (2*(m <<< more / n)+(m <<< more%n !=0).toNat) P):=by
 obtain⟨d,hd⟩:∃d,m*2^more=d:=⟨_,rfl⟩
 rw[Nat.shiftLeft_eq,hd];have hn:0<n:=by omega
 obtain⟨q,hq⟩:∃q,2*(d / n)+(d%n !=0).toNat=q:=⟨_,rfl⟩
 have qu:q=unr d (2*n):=by
  unfold unr;rw[Nat.mul_div_mul_left _ _ (by decide),Nat.mul_mod_mul_left,←hq];congr 1;by_cases h:d%n=0
  ·simp[h]
  ·rw[if_neg (by omega)];simp[h]
 rw[hq];have g:=fun k=>jJ d (2*n) k (by omega)
 have l:=fun k=>iX d (2*n) k (by omega)
 rw[←qu]at g l
 obtain⟨lm,hlm⟩:∃x,m.log2=x:=⟨_,rfl⟩
 obtain⟨ln,hln⟩:∃x,n.log2=x:=⟨_,rfl⟩
 obtain⟨m1,m2⟩:=(Nat.log2_eq_iff hm0).1 hlm;obtain⟨n1,n2⟩:=(Nat.log2_eq_iff hn0).1 hln;have lm52:lm≤52:=by
  refine Nat.le_of_not_lt fun h=>?_
  have:2^53≤2^lm:=Nat.pow_le_pow_right (by decide) (by omega);have e53:(2:Nat)^53=9007199254740992:=by decide
  omega
 rw[hlm,hln]at hmore
 have dlo:2^(54+ln)≤d:=by
  have:=Nat.mul_le_mul_right (2^more) m1;rw[←Nat.pow_add,hd,show lm+more=54+ln by omega]at this
  exact this
 have qlo:18014398509481984≤q:=by
  have:=(g 9007199254740992).2 (by
   have a:9007199254740992*n≤9007199254740992*2^(ln+1):=Nat.mul_le_mul_left _ (Nat.le_of_lt n2);have b:9007199254740992*2^(ln+1)=2^(54+ln):=by
    rw[show 9007199254740992=2^53 from rfl,←Nat.pow_add];congr 1;omega
   rw[Nat.mul_left_comm];omega)
  omega
 refine⟨by omega,_,rfl,?_⟩;obtain⟨P,hP⟩:∃P:Int,i-j-more-1=P:=⟨_,rfl⟩
 rw[hP];obtain⟨L,hL⟩:∃L,q.log2=L:=⟨_,rfl⟩
 obtain⟨q1,q2⟩:=(Nat.log2_eq_iff (by omega)).1 hL;have L54:54≤L:=by
  refine Nat.le_of_not_lt fun h=>?_
  have:2^(L+1)≤2^54:=Nat.pow_le_pow_right (by decide) (by omega);have e54:(2:Nat)^54=18014398509481984:=by decide
  omega
 obtain⟨last,hlast⟩:∃last,max (P+q.log2-(52:Nat)) (-1074)=last:=⟨_,rfl⟩
 obtain⟨c,hc⟩:∃c,Ieee.Toward.even.cut false (q <<< (P-last).toNat) (last-P).toNat=c:=⟨_,rfl⟩
 have he:kD q P=min ((last - -1074).toNat*4503599627370496+c) aX:=by unfold kD;rw[hlast,hc]
 rw[he];rw[hL]at hlast
 obtain⟨⟨a1,a2⟩,a3,a4⟩:=aEp false _ _ c hc;rw[show(P-last).toNat=0 by omega,Nat.shiftLeft_zero]at a1 a2 a3 a4
 obtain⟨t,ht⟩:∃t,(last-P).toNat=t:=⟨_,rfl⟩
 rw[ht]at a1 a2 a3 a4
 obtain⟨w,hw⟩:∃w,t=w+2:=⟨t-2,by omega⟩
 have et:2^t=4*2^w:=by rw[hw,Nat.pow_add];omega
 have e53:(2:Nat)^53=9007199254740992:=by decide
 have e52:(2:Nat)^52=4503599627370496:=by decide
 have wp:=Nat.two_pow_pos w;have f1:∀x:Nat,x*2^t=2*(2*(x*2^w)):=fun x=>by rw[et,Nat.mul_left_comm];omega
 rw[f1]at a1 a2
 rw[f1,et]at a3 a4
 have f2:∀x:Nat,x*2^t*n=2*(x*2^w*(2*n)):=fun x=>by rw[f1,Nat.mul_left_comm _ 2 n];rw[Nat.mul_assoc 2,Nat.mul_assoc 2]
 refine aMr (2*d) n c (last - -1074).toNat 0 t (P+1074).toNat (-(P+1074)).toNat (by omega) ?_ (fun ho=>?_) ?_ (fun ho=>?_) ?_ (fun hk=>?_)
 ·rw[Nat.pow_zero,Nat.mul_one,f2];have:=(l ((2*c+1)*2^w)).1 (by omega);omega
 ·rw[Nat.pow_zero,Nat.mul_one,f2];have h2:=a2 ho;have:¬(2*c+1)*2^w*(2*n)≤2*d:=fun h=>by
   have:=(g ((2*c+1)*2^w)).2 h;omega
  omega
 ·rw[Nat.pow_zero,Nat.mul_one,f2,et];have e:4*2^w*n=2*(2^w*(2*n)):=by rw[Nat.mul_left_comm _ 2 n,Nat.mul_assoc 4];omega
  rw[e];rcases Nat.eq_zero_or_pos c with h0|h0
  ·rw[h0];simp
  ·have e2:2*c*2^w=(2*c-1)*2^w+2^w:=by rw[←Nat.succ_mul];congr 1;omega
   have:=(g ((2*c-1)*2^w)).1 (by omega);rw[e2,Nat.add_mul];omega
 ·rw[Nat.pow_zero,Nat.mul_one,f2,et];have e:4*2^w*n=2*(2^w*(2*n)):=by rw[Nat.mul_left_comm _ 2 n,Nat.mul_assoc 4];omega
  rw[e];have h4:=a4 ho;have e2:2*c*2^w=(2*c-1)*2^w+2^w:=by rw[←Nat.succ_mul];congr 1;omega
  have:¬ 2*d≤(2*c-1)*2^w*(2*n):=fun h=>by
   have:=(l ((2*c-1)*2^w)).2 h;omega
  rw[e2,Nat.add_mul];omega
 ·have hq3:q<9007199254740992*2^t:=by
   have b:2^(L+1)≤2^53*2^t:=by
    rw[←Nat.pow_add];exact Nat.pow_le_pow_right (by decide) (by omega)
   rw[e53]at b
   omega
  rw[f1]at hq3
  have h2:2*c*2^w<(2*9007199254740992+1)*2^w:=by
   rw[Nat.add_mul,Nat.mul_assoc 2 9007199254740992];omega
  have:=Nat.lt_of_mul_lt_mul_right h2;omega
 ·have htL:t=L-52:=by omega
  have hb:4503599627370496*2^t≤q:=by
   rw[←e52,←Nat.pow_add,htL,show 52+(L-52)=L by omega];exact q1
  refine⟨?_,?_⟩
  ·rw[f1]at hb
   have h2:(2*4503599627370496)*2^w≤(2*c+1)*2^w:=by
    rw[Nat.mul_assoc 2 4503599627370496];omega
   have:=Nat.le_of_mul_le_mul_right h2 wp;omega
  ·rw[Nat.pow_zero,Nat.mul_one,f2];rw[f1]at hb
   have e4:4503599627370496*2^w*2=2*(4503599627370496*2^w):=by omega
   have:=(g (2*(4503599627370496*2^w))).1 (by omega);rw[Nat.mul_assoc 2]at this
   omega
theorem aHF (neg:Bool)(b1 b2:Nat)(h1:b1<aX)(h2:b2<aX)(n1:b1≠0)(n2:b2≠0) :
  ∃r,FloatKind.f64.format.div ((if neg then 9223372036854775808 else 0)+b1) b2=some ((if neg then 9223372036854775808 else 0)+r)∧cY (bK b1*2^1074) (bK b2) r:=by
 obtain⟨m1,p1,e1,l1,v1,z1,w1⟩:=pB neg b1 h1;obtain⟨m2,p2,e2,l2,v2,z2,w2⟩:=pB false b2 h2;have e2':FloatKind.f64.format.read b2=.number false m2 p2:=by
  rw[if_neg (by decide),Nat.zero_add]at e2
  exact e2
 obtain⟨more,hmore⟩:∃x,54+m2.log2-m1.log2=x:=⟨_,rfl⟩
 obtain⟨hq,P,hP,hrn⟩:=aMi m1 m2 p1 p2 more (z1 n1) (z2 n2) w1 hmore;refine⟨_,?_,fQ _ _ _ _ _ (Nat.mul_pos (Nat.pos_of_ne_zero (z2 n2)) (Nat.two_pow_pos _)) (by rw[v2];exact Nat.mul_pos (Nat.pos_of_ne_zero (z2 n2)) (Nat.two_pow_pos _)) ?_ hrn⟩
 ·unfold Ieee.Format.div;rw[e1,e2',aDf];unfold Ieee.Datum.quotient;simp only[];rw[if_neg (z2 n2),show 52+2+m2.log2-m1.log2=more from hmore];show some (FloatKind.f64.format.write (.number (neg ^^ false) _ _))=_;rw[Bool.xor_false,←hP,wD _ _ _ hq]
 ·rw[v1,v2];have e:2^(more+1)*2^(P+1074).toNat*2^(p2+1074).toNat=2^(p1+1074).toNat*2^1074*2^(-(P+1074)).toNat:=by
   obtain ⟨zz, hzz⟩ : ∃ zz, 1074 = zz := ⟨_, rfl⟩
   rw [hzz]
   rw[←Nat.pow_add,←Nat.pow_add,←Nat.pow_add,←Nat.pow_add];congr 1;omega
  rw[Nat.pow_succ]at e
  generalize (2:Nat)^1074=z at *
  generalize (2:Nat)^more=x at *
  generalize (2:Nat)^(P+1074).toNat=a at *
  generalize (2:Nat)^(p2+1074).toNat=b at *
  generalize (2:Nat)^(p1+1074).toNat=c at *
  generalize (2:Nat)^(-(P+1074)).toNat=d at *
  calc 2*(m1*x)*a*(m2*b)=m1*m2*(x*2*a*b):=by ac_rfl
   _=m1*m2*(c*z*d):=by rw[e]
   _=m1*c*z*(m2*d):=by ac_rfl
open Go.RowKit
def sgn (neg:Bool):Nat:=if neg then 9223372036854775808 else 0
theorem yR (neg:Bool):fK (sgn neg):=by cases neg<;>simp[sgn,fK]
theorem xF (r:Nat)(h:r≤aX):cY (bK r) 1 r:=by
 refine⟨h,fun q hq=>?_,fun _=>?_⟩
 ·have:=jS q r (by omega);exact⟨by omega,fun _=>by omega⟩
 ·have:=jS r (r+1) (by omega);exact⟨by omega,fun _=>by omega⟩
theorem rT (A B r X:Nat)(hB:0<B)(h:cY A B r)(hA:A≤bK X*B):r≤X:=by
 refine Nat.le_of_not_lt fun hlt=>?_
 obtain⟨q,hq⟩:∃q,r=q+1:=⟨r-1,by omega⟩
 have:=(h.lo q hq).1;have v1:=nQ X q (by omega);have v2:=jS X r hlt;have:(bK q+bK r)*B≤(2*bK X)*B:=by rw[Nat.mul_assoc];omega
 have:=Nat.le_of_mul_le_mul_right this hB;omega
theorem aLD (A B r X:Nat)(hB:0<B)(h:cY A B r)(hX:X≤aX)(hA:bK X*B≤A):X≤r:=by
 refine Nat.le_of_not_lt fun hlt=>?_
 have:=(h.hi (by omega)).1;have v1:=nQ (r+1) X (by omega);have v2:=jS r X hlt;have:(2*bK X)*B≤(bK r+bK (r+1))*B:=by rw[Nat.mul_assoc];omega
 have:=Nat.le_of_mul_le_mul_right this hB;omega
theorem tP (m:Nat)(h0:m≠0)(h:m<9007199254740992):∃r,r<aX∧r≠0∧bK r=m*2^1074:=by
 obtain⟨L,hL⟩:∃L,m.log2=L:=⟨_,rfl⟩
 obtain⟨g1,g2⟩:=(Nat.log2_eq_iff h0).1 hL;have hl:L≤52:=by
  refine Nat.le_of_not_lt fun hh=>?_
  have:2^53≤2^L:=Nat.pow_le_pow_right (by decide) (by omega);have e53:(2:Nat)^53=9007199254740992:=by decide
  omega
 have lo:4503599627370496≤m*2^(52-L):=by
  have:=Nat.mul_le_mul_right (2^(52-L)) g1;rw[←Nat.pow_add,show L+(52-L)=52 by omega]at this
  exact this
 have hi:m*2^(52-L)<9007199254740992:=by
  have:=Nat.mul_lt_mul_of_pos_right g2 (Nat.two_pow_pos (52-L));rw[←Nat.pow_add,show L+1+(52-L)=53 by omega]at this
  exact this
 refine⟨(1022+L)*4503599627370496+m*2^(52-L),by unfold aX;omega,by omega,?_⟩;rw[nY _ _ hi (.inl lo),Nat.mul_assoc,←Nat.pow_add];congr 2;omega
theorem uB (m:Nat)(h0:m≠0)(h:m<9007199254740992):floatOfInt .f64 (m:Int)<aX∧floatOfInt .f64 (m:Int)≠0∧bK (floatOfInt .f64 (m:Int))=m*2^1074:=by
 obtain⟨r,h1,h2,h3⟩:=tP m h0 h;have e:floatOfInt .f64 (m:Int)=kD m 0:=by
  have:=vP (decide ((m:Int)<0)) (m:Int).natAbs 0 (by omega);show FloatKind.f64.format.nearest (decide ((m:Int)<0)) (m:Int).natAbs 0=_;rw[this,decide_eq_false (by omega),if_neg (by decide),Int.natAbs_natCast,Nat.zero_add]
 have hr:=aFr m 0 h0;have e1:((0:Int)+1074).toNat=1074:=by decide
 have e2:(-((0:Int)+1074)).toNat=0:=by decide
 rw[e1,e2,Nat.pow_zero,←h3]at hr
 have:=qM _ _ _ _ (by decide) hr (xF r (Nat.le_of_lt h1));rw[e,this];exact⟨h1,h2,h3⟩
theorem aIp (f:Nat)(h:f<9223372036854775808):Op.negFloat .f64 f=9223372036854775808+f:=by
 show f ^^^ 2^(FloatKind.f64.format.exponentBits+FloatKind.f64.format.fractionBits)=_;have e:FloatKind.f64.format.exponentBits+FloatKind.f64.format.fractionBits=63:=by kernel_rfl
 rw[e];have d:=Nat.xor_div_two_pow (a:=f) (b:=2^63) (n:=63);have r:=Nat.xor_mod_two_pow (a:=f) (b:=2^63) (n:=63);have p63:(2:Nat)^63=9223372036854775808:=by decide
 rw[p63]at d r ⊢
 rw[Nat.div_eq_of_lt h,Nat.div_self (by decide),Nat.zero_xor]at d
 rw[Nat.mod_eq_of_lt h,Nat.mod_self,Nat.xor_zero]at r
 omega
theorem aCf (neg:Bool)(m:Nat)(h0:m≠0)(h:m<9007199254740992):cL neg m=sgn neg+floatOfInt .f64 (m:Int):=by
 obtain⟨h1,_,_⟩:=uB m h0 h;have h1:floatOfInt .f64 (m:Int)<9218868437227405312:=h1;cases neg
 ·rw[aAo];simp[sgn]
 ·rw[aAO,aIp _ (by omega)];simp[sgn]
def aCX (p:Nat):Prop:=fS.getD p 0<aX∧fS.getD p 0≠0∧bK (fS.getD p 0)=10^p*2^1074
instance (p:Nat):Decidable (aCX p):=by unfold aCX;exact inferInstance
theorem aL9:((List.range 23).all fun p=>decide (aCX p))=true:=by kernel_rfl
theorem pD (p:Nat)(h:p≤22):aCX p:=of_decide_eq_true (List.all_eq_true.1 aL9 p (List.mem_range.2 (by omega)))
theorem oZ (neg:Bool)(b:Nat)(h:b<aX):cl (sgn neg+b)=0∧kv (sgn neg+b)=(if neg then -(bK b:Int)else bK b):=by
 obtain⟨mag,pl,e,l,v,_⟩:=pB neg b h;unfold cl kv;have e':FloatKind.f64.format.read (sgn neg+b)=.number neg mag pl:=e;rw[e'];refine⟨rfl,?_⟩;show Ieee.signed neg mag (pl+1074).toNat=_;unfold Ieee.signed;rw[Nat.shiftLeft_eq,←v]
theorem aEl (neg:Bool)(b X:Nat)(h:b<aX)(hX:X<b) :
  (FloatKind.f64.format.order (sgn neg+b) X==some .gt)=true∨((FloatKind.f64.format.order (sgn neg+b) X==some .gt)=false∧(FloatKind.f64.format.order (sgn neg+b) (9223372036854775808+X)==some .lt)=true):=by
 have v:=jS X b hX;obtain⟨c1,k1⟩:=oZ neg b h;obtain⟨c2,k2⟩:=oZ false X (by omega);obtain⟨c3,k3⟩:=oZ true X (by omega);have s0:sgn false+X=X:=by simp[sgn]
 have s1:sgn true+X=9223372036854775808+X:=by simp[sgn]
 rw[s0]at c2 k2
 rw[s1]at c3 k3
 cases neg
 ·left;have:=(aDJ (sgn false+b) X).2 ⟨⟨by omega,by omega⟩,by
   rw[c1,c2,k1,k2];unfold kM;simp;omega⟩
  exact this
 ·right;refine⟨?_,?_⟩
  ·have h2:=aDJ (sgn true+b) X;cases hh:FloatKind.f64.format.order (sgn true+b) X==some .gt with
   | false=>rfl
   | true =>
    have h3:=(h2.1 hh).2;rw[c1,c2,k1,k2]at h3
    unfold kM at h3;simp at h3;split at h3
    ·cases h3
    ·omega
  ·have:=(aHq (sgn true+b) (9223372036854775808+X)).2 ⟨⟨by omega,by omega⟩,by
    rw[c1,c3,k1,k3];unfold kM;simp;omega⟩
   exact this
def aJ8 (m i:Nat)(neg:Bool)(w:World)(e:Ending)(w':World):Prop :=
 (∃r,cY (bY m i) (aO i) r∧r<aX∧e=.returned (.tuple #[.float .f64 (sgn neg+r),.bool true])∧w=w')∨mM w e w'
theorem tD (m p z:Nat):m*z*(p*z)*1=m*p*z*z:=by rw[Nat.mul_one];ac_rfl
theorem lG (m p:Nat):bY m (348+p)=m*10^p*2^1074∧aO (348+p)=1:=by
 unfold bY aO;rw[show 348+p-348=p by omega,show 348-(348+p)=0 by omega];exact⟨rfl,rfl⟩
theorem aH4 (m i:Nat)(neg:Bool)(w:World)(T:aC w)(hm:m≠0)(hi:i<696) :
  Calls Tryz.prog 244 #[.int .u64 m,.int .i64 ((i:Int)-348),.bool neg] w (aJ8 m i neg w):=by
 by_cases hm52:m<4503599627370496
 ·obtain⟨f1,f2,f3⟩:=uB m hm (by omega);have fs:=aCf neg m hm (by omega);by_cases c0:i=348
  ·subst c0;refine(aCd m neg w T hm52).mono ?_;rintro e w' ⟨rfl,rfl⟩;refine .inl ⟨_,?_,f1,by rw[fs],rfl⟩;have:=lG m 0;rw[Nat.add_zero,Nat.pow_zero,Nat.mul_one,←f3]at this
   rw[this.1,this.2];exact xF _ (Nat.le_of_lt f1)
  ·by_cases c1:348<i∧i≤370
   ·obtain⟨p,rfl⟩:∃p,i=348+p:=⟨i-348,by omega⟩
    have ep:((348+p:Nat):Int)-348=(p:Int):=by omega
    rw[ep];obtain⟨t1,t2,t3⟩:=pD p (by omega);obtain⟨r,er,hr⟩:=sX neg _ _ f1 t1 f2 t2;have hr2:cY (bY m (348+p)) (aO (348+p)) r:=by
     obtain⟨a,b⟩:=lG m p;refine fQ _ _ _ _ _ (Nat.two_pow_pos _) (dD _) ?_ hr;rw[a,b,f3,t3];exact tD _ _ _
    have hrI:r<aX:=by
     have:=rT _ _ r 9006104071832581120 (dD _) hr2 (by
      obtain⟨a,b⟩:=lG m p;rw[a,b,Nat.mul_one];have:m*10^p≤4503599627370496*10^22:=Nat.mul_le_mul (by omega) (Nat.pow_le_pow_right (by decide) (by omega));refine Nat.le_trans (Nat.mul_le_mul_right _ this) ?_;exact of_decide_eq_true (by kernel_rfl))
     unfold aX;omega
    cases hg1:FloatKind.f64.format.order (cL neg m) 4831355200913801216==some .gt with
    | true=>exact(qF m p neg w T hm52 (by omega) (by omega) (.inl hg1)).mono fun _ _ h=>.inr h
    | false =>
     cases hg2:FloatKind.f64.format.order (cL neg m) 14054727237768577024==some .lt with
     | true=>exact(qF m p neg w T hm52 (by omega) (by omega) (.inr ⟨hg1,hg2⟩)).mono fun _ _ h=>.inr h
     | false =>
      refine(aBQ m p neg (sgn neg+r) w T hm52 (by omega) (by omega) hg1 hg2 (by rw[fs];exact er)).mono ?_;rintro e w' ⟨rfl,rfl⟩;exact .inl ⟨r,hr2,hrI,rfl,rfl⟩
   ·by_cases c2:370<i∧i≤385
    ·obtain⟨p,rfl⟩:∃p,i=348+p:=⟨i-348,by omega⟩
     have ep:((348+p:Nat):Int)-348=(p:Int):=by omega
     rw[ep];obtain⟨q,hq⟩:∃q,q+22=p:=⟨p-22,by omega⟩
     obtain⟨t1,t2,t3⟩:=pD q (by omega);obtain⟨r1,er1,hr1⟩:=sX neg _ _ f1 t1 f2 t2;have hr1':cY (m*10^q*2^1074) 1 r1:=by
      refine fQ _ _ _ _ _ (Nat.two_pow_pos _) (by decide) ?_ hr1;rw[f3,t3];exact tD _ _ _
     have er1':floatBits .mul .f64 (cL neg m) (fS.getD q 0)=some (sgn neg+r1):=by rw[fs];exact er1
     have hr1I:r1<aX:=by
      have:=rT _ _ r1 9006104071832581120 (by decide) hr1' (by
       rw[Nat.mul_one];have:m*10^q≤4503599627370496*10^22:=Nat.mul_le_mul (by omega) (Nat.pow_le_pow_right (by decide) (by omega));refine Nat.le_trans (Nat.mul_le_mul_right _ this) ?_;exact of_decide_eq_true (by kernel_rfl))
      unfold aX;omega
     by_cases hx:m*10^q<9007199254740992
     ·have hm10:m*10^q≠0:=Nat.mul_ne_zero hm (Nat.ne_of_gt (Nat.pow_pos (by decide)));obtain⟨r1',g1,g2,g3⟩:=tP (m*10^q) hm10 hx;have e11:r1=r1':=by
       rw[←g3]at hr1'
       exact qM _ _ _ _ (by decide) hr1' (xF r1' (Nat.le_of_lt g1))
      obtain⟨u1,u2,u3⟩:=pD 22 (by omega);rw[e11]at er1' hr1I
      obtain⟨r,er,hr⟩:=sX neg _ _ g1 u1 g2 u2;have hr2:cY (bY m (348+p)) (aO (348+p)) r:=by
       obtain⟨a,b⟩:=lG m p;refine fQ _ _ _ _ _ (Nat.two_pow_pos _) (dD _) ?_ hr;rw [a, b, g3, u3];generalize (2 : Nat) ^ 1074 = z;rw [tD, ← hq,Nat.pow_add,Nat.mul_assoc m]
      have hrI:r<aX:=by
       have:=rT _ _ r 9006104071832581120 (dD _) hr2 (by
        obtain⟨a,b⟩:=lG m p;rw[a,b,Nat.mul_one,←hq,Nat.pow_add,←Nat.mul_assoc m];have:m*10^q*10^22≤9007199254740992*10^22:=Nat.mul_le_mul_right _ (by omega);refine Nat.le_trans (Nat.mul_le_mul_right _ this) ?_;exact of_decide_eq_true (by kernel_rfl))
       unfold aX;omega
      cases hg1:FloatKind.f64.format.order (sgn neg+r1') 4831355200913801216==some .gt with
      | true=>exact(jT m p q neg _ w T hm52 (by omega) (by omega) hq er1' (.inl hg1)).mono fun _ _ h=>.inr h
      | false =>
       cases hg2:FloatKind.f64.format.order (sgn neg+r1') 14054727237768577024==some .lt with
       | true=>exact(jT m p q neg _ w T hm52 (by omega) (by omega) hq er1' (.inr ⟨hg1,hg2⟩)).mono fun _ _ h=>.inr h
       | false =>
        refine(aAQ m p q neg _ (sgn neg+r) w T hm52 (by omega) (by omega) hq er1' hg1 hg2 er).mono ?_;rintro e w' ⟨rfl,rfl⟩;exact .inl ⟨r,hr2,hrI,rfl,rfl⟩
     ·have:4845873199050653696≤r1:=aLD _ _ r1 4845873199050653696 (by decide) hr1' (by decide) (by
       rw[Nat.mul_one];refine Nat.le_trans ?_ (Nat.mul_le_mul_right _ (show 9007199254740992 ≤ m * 10 ^ q by omega));exact of_decide_eq_true (by kernel_rfl))
      exact(jT m p q neg _ w T hm52 (by omega) (by omega) hq er1' (aEl neg r1 4831355200913801216 hr1I (by omega))).mono fun _ _ h=>.inr h
    ·by_cases c3:326≤i∧i<348
     ·obtain⟨p,rfl⟩:∃p,i=348-p:=⟨348-i,by omega⟩
      have ep:((348-p:Nat):Int)-348=-(p:Int):=by omega
      rw[ep];obtain⟨t1,t2,t3⟩:=pD p (by omega);obtain⟨r,er,hr⟩:=aHF neg _ _ f1 t1 f2 t2;have a:bY m (348-p)=m*2^1074:=by
       unfold bY;rw[show 348-p-348=0 by omega,Nat.pow_zero,Nat.mul_one]
      have b:aO (348-p)=10^p:=by
       unfold aO;rw[show 348-(348-p)=p by omega]
      have hr2:cY (bY m (348-p)) (aO (348-p)) r:=by
       refine fQ _ _ _ _ _ (by rw[t3];exact Nat.mul_pos (Nat.pow_pos (by decide)) (Nat.two_pow_pos 1074)) (dD _) ?_ hr;rw[a,b,f3,t3];generalize (2:Nat)^1074=z;ac_rfl
      have hrI:r<aX:=by
       have:=rT _ _ r 9006104071832581120 (dD _) hr2 (by
        rw[a,b];have h1:1≤10^p:=Nat.pow_pos (by decide);have h2:m*2^1074≤bK 9006104071832581120:=by
         refine Nat.le_trans (Nat.mul_le_mul_right _ (Nat.le_of_lt hm52)) ?_;exact of_decide_eq_true (by kernel_rfl)
        exact Nat.le_trans h2 (Nat.le_mul_of_pos_right _ h1))
       unfold aX;omega
      refine(aCh m p neg (sgn neg+r) w T hm52 (by omega) (by omega) (by rw[fs];exact er)).mono ?_;rintro e w' ⟨rfl,rfl⟩;exact .inl ⟨r,hr2,hrI,rfl,rfl⟩
     ·exact(aBS m ((i:Int)-348) neg w T hm52 (by omega)).mono fun _ _ h=>.inr h
 ·exact(xZ m ((i:Int)-348) neg w T (by omega)).mono fun _ _ h=>.inr h
end Go.Proofs.YtcfgbdhpcboikaaGreatDoor
