/-
Unrounded numbers: twice the whole number of halves, with a bit for what is left over. No program in sight.
-/
import Derived.Test.YtcfgbdhpcboikaaGreatDoorExact
namespace Go.Proofs.YtcfgbdhpcboikaaGreatDoor
def unr (A B:Nat):Nat:=2*(2*A / B)+(if 2*A%B=0 then 0 else 1)
theorem gV (A B k:Nat)(a:0<B):2*k<=unr A B↔k*B<=2*A:=by
 unfold unr;rw[<-pf a];split<;>omega
theorem gA (A B k:Nat)(b:0<B):unr A B<=2*k↔2*A<=k*B:=by
 unfold unr;have e:=lu (2*A) B;have l:=gn (2*A) b;generalize 2*A / B=f at *;generalize 2*A%B=r at *;constructor;{intro h;by_cases a:r=0;{rw[ae a]at h;have:B*f<=B*k:=fm _ (by omega);rw[bo k];omega};{rw[ac a]at h;have:B*(f+1)<=B*k:=fm _ (by omega);rw[f8]at this;rw[bo k];omega}};{intro h;rw[bo k]at h;by_cases a:r=0;{rw[ae a];have:B*f<=B*k:=by{omega};have:=sf this b;omega};{rw[ac a];have:B*f<B*k:=by{omega};have:=qr this;omega}}
theorem uI (q:Nat):q ||| 1=2*(q / 2)+1:=by
 have e:(q ||| 1) / 2=q / 2:=by{have:=Nat.or_div_two_pow (a:=q) (b:=1) (n:=1);simpa using this};have c:(q ||| 1)%2=1:=by{rw[show(2:Nat)=2^1 from rfl,qw];have:q%2=0\/q%2=1:=by{omega};rcases this with h|h<;>rw[show(2:Nat)^1=2 from rfl,h]<;>decide};omega
theorem wD (A C q:Nat)(d:q*C<A)(a:A<(q+1)*C):unr A (4*C)=q ||| 1:=by
 rw[uI];have f:0<C:=by{rcases g7 C with h|h;{rw[h]at a;omega};{exact h}};have b:2*(q / 2)<=unr A (4*C):=by{rw[gV _ _ _ (by omega)];have:(2*(q / 2))*C<=q*C:=au _ (by omega);have e:q / 2*(4*C)=2*((2*(q / 2))*C):=by{rw[show 4*C=2*(2*C) by omega,cx,af 2,cx (q / 2)]};omega};have c:unr A (4*C)<=2*(q / 2+1):=by{rw[gA _ _ _ (by omega)];have:(q+1)*C<=(2*(q / 2+1))*C:=au _ (by omega);have e:(q / 2+1)*(4*C)=2*((2*(q / 2+1))*C):=by{rw[show 4*C=2*(2*C) by omega,cx,af 2,cx (q / 2+1)]};omega};have n1:¬unr A (4*C)<=2*(q / 2):=by{rw[gA _ _ _ (by omega)];have:(2*(q / 2))*C<=q*C:=au _ (by omega);have e:q / 2*(4*C)=2*((2*(q / 2))*C):=by{rw[show 4*C=2*(2*C) by omega,cx,af 2,cx (q / 2)]};omega};have g:¬ 2*(q / 2+1)<=unr A (4*C):=by{rw[gV _ _ _ (by omega)];have:(q+1)*C<=(2*(q / 2+1))*C:=au _ (by omega);have e:(q / 2+1)*(4*C)=2*((2*(q / 2+1))*C):=by{rw[show 4*C=2*(2*C) by omega,cx,af 2,cx (q / 2+1)]};omega};omega
theorem aG1 (q C:Nat)(b:0<C):unr (q*C) (4*C)=q:=by
 unfold unr;have e:2*(q*C)=(2*C)*q:=by{rw[bo q,af]};have e4:4*C=(2*C)*2:=by{omega};rw[e,e4,ve _ _ (by omega),vf];split;{rename_i h;have:=(Nat.mul_eq_zero.1 h).resolve_left (by omega);omega};{rename_i h;have:q%2≠0:=fun a=>h (by rw[a,s9]);omega}
theorem aB8 (XT Q D x a:Nat)(b:Q*D<XT+x*D)(h:a+x<=Q):a*D<XT:=by
 have:=au D h;rw[bb]at this;omega
theorem aB9 (a Q D b:Nat)(d:0<D)(c:a<=Q*D)(h:Q<b):a<b*D:=ko c (d7 h d)
def tU (x pm s T D:Nat):Prop:=∀hi,hi%2^s=0->hi*340282366920938463463374607431768211456<x*pm+18446744073709551616->x*pm<=hi*340282366920938463463374607431768211456+18446744073709551616->x*T=hi*340282366920938463463374607431768211456*D
theorem yQ (q s D:Nat):q*(D*(2^s*340282366920938463463374607431768211456))=q*2^s*340282366920938463463374607431768211456*D:=by
 rw[bo D,<-af,<-af]
theorem aL4 (x h l s b T D:Nat)(r:0<x)(hx:x<18446744073709551616)(p:h<18446744073709551616)(v:l<18446744073709551616)(c:0<D)(j:b+l=h*18446744073709551616)
  (k:T<=b*D) (m:b*D<T+D) (d:tU x b s T D):cZ x h l s=unr (x*T) (4*(D*(2^s*340282366920938463463374607431768211456))):=by
 obtain⟨Q,a⟩:∃Q,x*b=Q:=⟨_,rfl⟩;have x1:x*T<=Q*D:=by{rw[<-a,af];exact fm _ k};have x2:Q*D<x*T+x*D:=by{rw[<-a,af,<-f8];exact wh m r};have i:Q+x*l=x*h*18446744073709551616:=by{rw[<-a,<-f8,j,af]};have f:=lu (x*h) 18446744073709551616;have z:=gn (x*h) (show 18446744073709551616>0 by decide);have g:=lu (x*l) 18446744073709551616;have A:=gn (x*l) (show 18446744073709551616>0 by decide);have n:x*l<=18446744073709551615*18446744073709551615:=ia (by omega) (by omega);rw[<-f]at i;rw[<-g]at i n;unfold tU at d;rw[a]at d;have p2:0<2^s:=ay s;have t:=vH x h hx p;unfold cZ;simp only[];generalize x*h / 18446744073709551616=hi at *;generalize x*h%18446744073709551616=mid at *;generalize x*l / 18446744073709551616=mid2 at *;generalize x*l%18446744073709551616=lo2 at *;have B:mid2<=18446744073709551614:=by{omega};have y:=lu hi (2^s);have w:=gn hi p2;clear f g k m j a;generalize x*T=XT at *;by_cases c1:hi / 2^s*2^s≠hi;{rw[ae c1];refine(wD _ _ _ ?_ ?_).symm;{rw[yQ];refine aB8 XT Q D x _ x2 ?_;have:hi / 2^s*2^s<=hi-1:=by{rw[bo]at c1 ⊢;omega};have q:1<=hi:=by{omega};omega};{rw[yQ];refine aB9 XT Q D _ c x1 ?_;have:hi+1<=(hi / 2^s+1)*2^s:=by{rw[bb,bo];omega};omega}};{rw[ac c1];have c1:hi / 2^s*2^s=hi:=Classical.not_not.1 c1;by_cases c2:mid<mid2;{rw[ae c2,ae (by omega)];have q:1<=hi:=by{omega};have e:(hi+18446744073709551615)%18446744073709551616=hi-1:=by{omega};rw[e];have o:=lu (hi-1) (2^s);have u:=gn (hi-1) p2;rw[bo]at o;refine(wD _ _ _ ?_ ?_).symm;{rw[yQ];refine aB8 XT Q D x _ x2 ?_;omega};{rw[yQ];refine aB9 XT Q D _ c x1 ?_;have:hi<=((hi-1) / 2^s+1)*2^s:=by{rw[bb];omega};omega}};{rw[ac c2];by_cases c3:1<(mid+18446744073709551616-mid2)%18446744073709551616;{rw[ae c3];refine(wD _ _ _ ?_ ?_).symm;{rw[yQ,c1];refine aB8 XT Q D x _ x2 ?_;omega};{rw[yQ,bb,c1,da];refine aB9 XT Q D _ c x1 ?_;omega}};{rw[ac c3,jx];have:=d hi (by rw[bo]at c1;omega) (by omega) (by omega);rw[this,show hi*340282366920938463463374607431768211456*D=hi / 2^s*(D*(2^s*340282366920938463463374607431768211456)) by rw[yQ,c1],aG1 _ _ (cn c (cn p2 (by decide)))]}}}
def aV (r:Nat):Nat:=if r<4503599627370496 then r else (4503599627370496+r%4503599627370496)*2^(r / 4503599627370496-1)
def ulp (r:Nat):Nat:=2^(r / 4503599627370496-1)
theorem aIm (r:Nat):0<ulp r:=ay _
theorem kU (k m:Nat)(c:m<9007199254740992)(h:4503599627370496<=m\/k=0):aV (k*4503599627370496+m)=m*2^k:=by
 unfold aV;by_cases a:k*4503599627370496+m<4503599627370496;{obtain rfl:k=0:=by{omega};rw[ae a];simp};{rw[ac a];by_cases b:4503599627370496<=m;{rw[show(k*4503599627370496+m) / 4503599627370496=k+1 by omega,show 4503599627370496+(k*4503599627370496+m)%4503599627370496=m by omega];rfl};{omega}}
theorem qF (k m:Nat)(b:m<9007199254740992)(h:4503599627370496<=m\/k=0):ulp (k*4503599627370496+m)=2^k:=by
 unfold ulp;by_cases a:4503599627370496<=m;{rw[show(k*4503599627370496+m) / 4503599627370496=k+1 by omega];rfl};{obtain rfl:k=0:=by{omega};rw[show(0*4503599627370496+m) / 4503599627370496=0 by omega]}
theorem aDg (r:Nat):∃k m,r=k*4503599627370496+m/\m<9007199254740992/\(4503599627370496<=m\/k=0):=by
 by_cases h:r<4503599627370496;{exact⟨0,r,by omega,by omega,.inr rfl⟩};{exact⟨r / 4503599627370496-1,r%4503599627370496+4503599627370496,by omega,by omega,.inl (by omega)⟩}
theorem jX (r:Nat):aV (r+1)=aV r+ulp r:=by
 obtain⟨k,m,rfl,a,h⟩:=aDg r;rw[kU k m a h,qF k m a h];by_cases b:m+1<9007199254740992;{rw[lr,kU k (m+1) b (by omega),bb,da]};{have:k*4503599627370496+m+1=(k+1)*4503599627370496+4503599627370496:=by{omega};rw[this,kU (k+1) 4503599627370496 (by omega) (.inl (ag _)),bz];obtain rfl:m=9007199254740991:=by{omega};generalize 2^k=p;omega}
theorem jP (a b:Nat)(h:a<b):aV a<aV b:=by
 induction b with|zero=>omega|succ b ih=>{have:=jX b;have:=aIm b;rcases ak a b with c|c;{have:=ih c;omega};{obtain rfl:a=b:=by{omega};omega}}
theorem qV (a b:Nat)(h:a<=b):aV a<=aV b:=by
 rcases ak a b with c|c;{exact b9 (jP _ _ c)};{obtain rfl:a=b:=by{omega};exact ag _}
def aQ:Nat:=9218868437227405312
structure bY (A B r:Nat):Prop where
 le:r<=aQ
 lo:∀q,r=q+1->(aV q+aV r)*B<=2*A/\(r%2=1->(aV q+aV r)*B<2*A)
 hi:r<aQ->2*A<=(aV r+aV (r+1))*B/\(r%2=1->2*A<(aV r+aV (r+1))*B)
theorem aOu (A B r t:Nat)(j:0<B)(i:bY A B r)(a:bY A B t):¬r<t:=by
 intro l;obtain⟨q,hq⟩:∃q,t=q+1:=⟨t-1,by omega⟩;obtain⟨b,c⟩:=i.hi (by have:=a.le;omega);obtain⟨d,f⟩:=a.lo q hq;have v1:=qV r q (by omega);have v2:=qV (r+1) t (by omega);have e:=dv (bg d b) j;have k:aV q=aV r:=by{omega};have g:q=r:=by{rcases jh q r with h|h|h;{have:=jP _ _ h;omega};{exact h};{have:=jP _ _ h;omega}};subst g;subst hq;have:q%2=1\/(q+1)%2=1:=by{omega};rcases this with h|h;{have:=c h;omega};{have:=f h;omega}
theorem tQ (A B r t:Nat)(c:0<B)(a:bY A B r)(b:bY A B t):r=t:=by
 have:=aOu A B r t c a b;have:=aOu A B t r c b a;omega
theorem mT (A B A' B' r:Nat)(d:0<B)(e:0<B')(h:A*B'=A'*B)(b:bY A B r):bY A' B' r:=by
 have c1:∀k,k*B<=2*A->k*B'<=2*A':=fun k g=>by{refine dv (c:=B) ?_ d;have:=au B' g;rw[af 2 A',<-h,<-af,mo];exact this};have c2:∀k,k*B<2*A->k*B'<2*A':=fun k g=>by{refine gq (a:=B) ?_;have:=d7 g e;rw[af 2 A',<-h,<-af,mo];exact this};have c3:∀k,2*A<=k*B->2*A'<=k*B':=fun k g=>by{refine dv (c:=B) ?_ d;have:=au B' g;rw[af 2 A',<-h,<-af,mo k];exact this};have c4:∀k,2*A<k*B->2*A'<k*B':=fun k g=>by{refine gq (a:=B) ?_;have:=d7 g e;rw[af 2 A',<-h,<-af,mo k];exact this};exact⟨b.le,fun q hq=>⟨c1 _ (b.lo q hq).1,fun g=>c2 _ ((b.lo q hq).2 g)⟩,fun g=>⟨c3 _ (b.hi g).1,fun f=>c4 _ ((b.hi g).2 f)⟩⟩
theorem aA4 (A B k m:Nat)(i:m<9007199254740992)(h:4503599627370496<=m\/k=0)
  (v:2*A<=(2*m+1)*2^k*B/\(m%2=1->2*A<(2*m+1)*2^k*B))
  (lo:(m≠4503599627370496\/k=0)->(2*m)*2^k*B<=2*A+2^k*B/\(m%2=1->(2*m)*2^k*B<2*A+2^k*B))
  (u:∀j,k=j+1->m=4503599627370496->(4*m)*2^j*B<=2*A+2^j*B):bY A B (min (k*4503599627370496+m) aQ):=by
 have hv:=kU k m i h;have r:=qF k m i h;have hs:=jX (k*4503599627370496+m);have l:(k*4503599627370496+m)%2=m%2:=by{omega};have low:∀q,k*4503599627370496+m=q+1->(aV q+aV (k*4503599627370496+m))*B<=2*A/\(m%2=1->(aV q+aV (k*4503599627370496+m))*B<2*A):=by{intro q hq;have c:=jX q;rw[<-hq]at c;by_cases n:m≠4503599627370496\/k=0;{have d:ulp q=2^k:=by{have e:q=k*4503599627370496+(m-1):=by{omega};rw[e];exact qF k (m-1) (by omega) (by omega)};obtain⟨s,t⟩:=lo n;have e:(aV q+aV (k*4503599627370496+m))*B+2^k*B=(2*m)*2^k*B:=by{rw[<-bb];congr 1;rw[d]at c;rw[af,<-hv];omega};exact⟨by omega,fun g=>by have:=t g;omega⟩};{obtain⟨j,f⟩:∃j,k=j+1:=⟨k-1,by omega⟩;have o:m=4503599627370496:=by{omega};have d:ulp q=2^j:=by{have e:q=j*4503599627370496+9007199254740991:=by{omega};rw[e];exact qF j _ (by omega) (by omega)};have s:=u j f o;have e:(aV q+aV (k*4503599627370496+m))*B+2^j*B=(4*m)*2^j*B:=by{rw[<-bb];congr 1;rw[d]at c;have:m*2^k=2*(m*2^j):=by{rw[f,bz];ac_rfl};rw[af 4];omega};exact⟨by omega,fun g=>by omega⟩}};by_cases b:k*4503599627370496+m<aQ;{rw[jn (b9 b)];refine⟨b9 b,fun q hq=>?_,fun _=>?_⟩;{rw[l];exact low q hq};{rw[l,hs,hv,r];have e:m*2^k+(m*2^k+2^k)=(2*m+1)*2^k:=by{rw[bb,af];omega};rw[e];exact v}};{rw[o8 (by omega)];refine⟨ag _,fun q hq=>?_,fun h=>absurd h (lq _)⟩;obtain⟨a,p⟩:∃a,k*4503599627370496+m=a+1:=⟨k*4503599627370496+m-1,by unfold aQ at b;omega⟩;have:=(low a p).1;have v1:=qV q a (by omega);have v2:=qV aQ (k*4503599627370496+m) (by omega);refine⟨bg (au _ (by omega)) this,fun h=>?_⟩;exact absurd h (by unfold aQ;decide)}
theorem aIn (u v:Nat)(c1:∀k,2*k<=u↔2*k<=v)(c2:∀k,u<=2*k↔v<=2*k):u=v:=by
 have:=c1 (u / 2);have:=c1 (v / 2);have:=c2 (u / 2);have:=c2 (v / 2);have:=c1 (u / 2+1);omega
theorem aOc (A B:Nat)(a:0<B):unr A (2*B)=unr A B / 2 ||| unr A B%2:=by
 have e:∀u:Nat,u / 2 ||| u%2=if u%2=0 then u / 2 else 2*(u / 4)+1:=by{intro u;split;{rename_i h;rw[h,jx]};{rename_i h;rw[show u%2=1 by omega,uI,rk]}}
 rw[e];have b:=fun k=>gV A B k a;have c:=fun k=>gA A B k a;refine aIn _ _ (fun k=>?_) (fun k=>?_);{rw[gV _ _ _ (by omega),show k*(2*B)=(2*k)*B by rw[cx,af],<-b];split<;>omega};{rw[gA _ _ _ (by omega),show k*(2*B)=(2*k)*B by rw[cx,af],<-c];split<;>omega}
theorem rY (A B m:Nat)(g:0<B)(b:(unr A B+1+unr A B / 4%2) / 4=m) :
  (2*A<=(2*m+1)*B/\(m%2=1->2*A<(2*m+1)*B))/\((2*m)*B<=2*A+B/\(m%2=1->(2*m)*B<2*A+B)):=by
 have d:=fun k=>gV A B k g;have j:=fun k=>gA A B k g;generalize unr A B=u at *;obtain⟨q,c,l,hq⟩:∃q c,c<4/\u=4*q+c:=⟨u / 4,u%4,by omega,by omega⟩;have i:u / 4=q:=by{omega};rw[i]at b;have o:(m=q/\(c<2\/(c=2/\q%2=0)))\/(m=q+1/\(c=3\/(c=2/\q%2=1))):=by{have:c=0\/c=1\/c=2\/c=3:=by{omega};have a:q%2=0\/q%2=1:=by{omega};rcases this with rfl|rfl|rfl|rfl<;>rcases a with a|a<;>rw[a]at b<;>omega};clear b i;refine⟨⟨?_,fun h=>?_⟩,?_⟩;{rw[<-j];omega};{have a:¬ 2*(2*m+1)<=u:=by{omega};have:¬(2*m+1)*B<=2*A:=fun h=>a ((d (2*m+1)).2 h);omega};{rcases g7 m with f|f;{subst f;exact⟨by omega,fun h=>by omega⟩};{obtain⟨n,rfl⟩:∃n,m=n+1:=⟨m-1,by omega⟩;have e:2*(n+1)*B=(2*n+1)*B+B:=by{rw[<-mh];rfl};rw[e];refine⟨?_,fun h=>?_⟩;{have:=(d (2*n+1)).1 (by omega);omega};{have a:¬u<=2*(2*n+1):=by{omega};have:¬ 2*A<=(2*n+1)*B:=fun h=>a ((j (2*n+1)).2 h);omega}}}
def lpI (i:Nat):Int:=((i:Int)-348)*108853 / 32768
def kG (i:Nat):Nat:=10^(i-348)*2^(127-lpI i).toNat
def eS (i:Nat):Nat:=10^(348-i)*2^(lpI i-127).toNat
def pmN (i:Nat):Nat:=aN i*18446744073709551616-aX i
def aFj (i:Nat):Prop:=aN i<18446744073709551616/\aX i<18446744073709551616/\0<aN i/\kG i<=pmN i*eS i/\pmN i*eS i<kG i+eS i/\170141183460469231731687303715884105728<=pmN i
instance (i:Nat):Decidable (aFj i):=by unfold aFj;exact inferInstance
theorem aP3:((List.range 696).all fun i=>decide (aFj i))=true:=by kernel_rfl
theorem wX (i:Nat)(h:i<696):aFj i:=bv (di.1 aP3 i (fq.2 h))
def aFi (i:Nat):Prop:=170141183460469231731687303715884105728*eS i<=kG i/\kG i<=340282366920938387905510881517444792320*eS i
instance (i:Nat):Decidable (aFi i):=by unfold aFi;exact inferInstance
theorem aP2:((List.range 696).all fun i=>decide (aFi i))=true:=by kernel_rfl
theorem aDd (i:Nat)(h:i<696):aFi i:=bv (di.1 aP2 i (fq.2 h))
theorem zE (i:Nat):0<eS i:=cn (b7 (by decide)) (ay _)
def eu (X W:Nat):Nat->Nat->Nat->Nat->Nat->Bool
 | 0,_,_,_,_=>false
 | f+1,k0,d0,k1,d1=>if X<=k0+d0 / d1*k1 then decide (W<d1)else eu X W f k1 d1 (k0+d0 / d1*k1) (d0%d1)
def aMc (L:Int->Int->Prop)(g:Int)(k0 d0 k1 d1:Nat):Prop:=∀k d,L k d->∃a b:Int,k=a*k0+b*k1/\d=g*(b*d1-a*d0)
theorem aKX (L:Int->Int->Prop)(g:Int)(f e k1 c:Nat)(h:aMc L g f e k1 c):aMc L (-g) k1 c (f+e / c*k1) (e%c):=by
 intro k d l;obtain⟨a,b,i,j⟩:=h k d l;have hd:(e:Int)=(e%c:Nat)+(e / c:Nat)*(c:Int):=by{have:=Nat.mod_add_div e c;rw[bo]at this;exact_mod_cast this.symm};refine⟨b-a*(e / c:Nat),a,?_,?_⟩;{rw[i];push_cast;grind};{rw[j,hd];grind}
theorem aOk (L:Int->Int->Prop)(X W:Nat):∀(f:Nat) (g:Int) (k0 d0 k1 d1:Nat),(g=1\/g=-1)->aMc L g k0 d0 k1 d1->eu X W f k0 d0 k1 d1=true->∀k d,L k d->0<k->k<X->(W:Int)<d.natAbs
 | 0,_,_,_,_,_,_,_,h=>by cases h
 | f+1,g,k0,d0,k1,d1,hg,hm,h=>by
  unfold eu at h;have l:=aKX L g k0 d0 k1 d1 hm;split at h
  ·rename_i u;have t:=bv h;intro k d o r s;obtain⟨a,b,q,n⟩:=l k d o;generalize k0+d0 / d1*k1=k2 at *
   generalize d0%d1=d2 at *
   have j:(0:Int)<=d2:=by omega
   have i:(0:Int)<=k1:=by omega
   have v:(X:Int)<=k2:=by omega
   have w:(d1:Int)<=(b*d2-a*d1:Int).natAbs:=by
    rcases rg b 0 with e|e|e
    ·have c:1<=a:=by
      rcases ub 0 a with h|h
      ·omega
      ·exfalso;have:=kj h i;have:=kj (show b<=0 by omega) (show(0:Int)<=k2 by omega);omega
     have m:=kj c (show(0:Int)<=d1 by omega);have p:=kj (show b<=0 by omega) j;omega
    ·subst e;have c:1<=a:=by
      rcases ub 0 a with h|h
      ·omega
      ·exfalso;have:=kj h i;omega
     have m:=kj c (show(0:Int)<=d1 by omega);omega
    ·have c:a<=-1:=by
      rcases ub a 0 with h|h
      ·omega
      ·exfalso;have:=Int.mul_nonneg h i;have:=kj (show 1<=b by omega) (show(0:Int)<=k2 by omega);omega
     have m:=kj c (show(0:Int)<=d1 by omega);have p:=Int.mul_nonneg (show 0<=b by omega) j;omega
   have:(d.natAbs:Int)=(b*d2-a*d1:Int).natAbs:=by
    rw[n];rcases hg with rfl|rfl
    ·rw[show -1*(b*(d2:Int)-a*d1)=-(b*d2-a*d1) by omega,Int.natAbs_neg]
    ·rw[show - -1*(b*(d2:Int)-a*d1)=(b*d2-a*d1) by omega]
   omega
  ·exact aOk L X W f (-g) _ _ _ _ (by omega) l h
def aAZ (W M c:Nat):Bool:=eu W W 200 0 M 1 (c%M)
theorem aRc (W M c:Nat)(h:aAZ W M c=true)(k y:Nat)(a:0<k)(b:k<W):W<((k:Int)*c-y*M).natAbs:=by
 have:=aOk (fun k d=>∃y:Int,d=k*c-y*M) W W 200 1 0 M 1 (c%M) (.inl rfl) (by
  rintro k d ⟨y,rfl⟩;have e:(c:Int)=(c%M:Nat)+(c / M:Nat)*(M:Int):=by
   have:=Nat.mod_add_div c M;rw[bo]at this
   exact_mod_cast this.symm
  refine⟨y-k*(c / M:Nat),k,by simp,?_⟩;rw[show(k:Int)*c=k*((c%M:Nat)+(c / M:Nat)*(M:Int)) by rw[<-e]];grind) h k _ ⟨y,rfl⟩ (by omega) (by omega)
 omega
theorem aGi (G' W M pm s0 s k T D:Nat)(d:G'*W=18446744073709551616)(l:G'*M=2^s0*340282366920938463463374607431768211456)(p:s0<=s)(m:aAZ W M pm=true)(o:0<k)(hx:k<W):tU (G'*k) pm s T D:=by
 intro hi i a b;exfalso;obtain⟨c,n⟩:=ue i;have g:2^s=2^s0*2^(s-s0):=by{rw[<-ap];congr 1;omega};have e3:hi*340282366920938463463374607431768211456=G'*(c*2^(s-s0)*M):=by{rw[n,g,cx G',l];ac_rfl};rw[e3,<-d,af G' k pm]at a b;have j:0<G':=by{rcases g7 G' with h|h;{rw[h]at d;omega};{exact h}};rw[<-f8]at a b;have a:=qr a;have b:=sf b j;have:=aRc W M pm m k (c*2^(s-s0)) o hx;have e:((k*pm:Nat):Int)=(k:Int)*pm:=by{push_cast;rfl};have f:((c*2^(s-s0)*M:Nat):Int)=((c*2^(s-s0):Nat):Int)*M:=by{push_cast;rfl};rw[<-e,<-f]at this;omega
theorem aMR:((List.range 696).all fun i=>decide (321<=i/\i<=375)||aAZ 144115188075855872 85070591730234615865843651857942052864 (pmN i))=true:=by kernel_rfl
theorem aMS:((List.range 696).all fun i=>decide (321<=i/\i<=375)||aAZ 72057594037927936 21267647932558653966460912964485513216 (pmN i))=true:=by kernel_rfl
theorem aSS (i:Nat)(h:i<696)(a:¬(321<=i/\i<=375)):aAZ 144115188075855872 85070591730234615865843651857942052864 (pmN i)=true:=by
 have:=di.1 aMR i (fq.2 h);rw[bp a,jw]at this;exact this
theorem aST (i:Nat)(h:i<696)(a:¬(321<=i/\i<=375)):aAZ 72057594037927936 21267647932558653966460912964485513216 (pmN i)=true:=by
 have:=di.1 aMS i (fq.2 h);rw[bp a,jw]at this;exact this
def aFf (i:Nat):Prop:=aX i=0/\aN i%2=0/\kG i=pmN i/\eS i=1
instance (i:Nat):Decidable (aFf i):=by unfold aFf;exact inferInstance
theorem aPM:((List.range 28).all fun j=>decide (aFf (348+j)))=true:=by kernel_rfl
theorem aRE (i:Nat)(a:348<=i)(b:i<=375):aFf i:=by
 have:=bv (di.1 aPM (i-348) (fq.2 (by omega)));rwa[show 348+(i-348)=i by omega]at this
theorem aGj (x i s:Nat)(a:348<=i)(b:i<=375):tU x (pmN i) s (kG i) (eS i):=by
 obtain⟨c,d,e3,e4⟩:=aRE i a b;rw[e3,e4];intro hi f a b;have e:pmN i=aN i*18446744073709551616:=by{unfold pmN;rw[c];omega};rw[e,<-af]at a b ⊢;have ev:x*aN i%2=0:=by{rw[uf,d];simp};generalize x*aN i=q at *;omega
def aFe (i:Nat):Prop:=kG i%(340282366920938463463374607431768211456*2^(348-i))=0/\(340282366920938463463374607431768211456*eS i)%(340282366920938463463374607431768211456*2^(348-i))=0/\36893488147419103232*eS i<=340282366920938463463374607431768211456*2^(348-i)
instance (i:Nat):Decidable (aFe i):=by unfold aFe;exact inferInstance
theorem aPy:((List.range 27).all fun j=>decide (aFe (321+j)))=true:=by kernel_rfl
theorem aRx (i:Nat)(a:321<=i)(b:i<348):aFe i:=by
 have:=bv (di.1 aPy (i-321) (fq.2 (by omega)));rwa[show 321+(i-321)=i by omega]at this
theorem aLG (c a b m:Nat)(f:a%c=0)(g:b%c=0)(h:a<=b+m)(i:b<a+2*m+c)(l:a<=b+m)(j:m<c)(k:b<a+c):a=b:=by
 obtain⟨p,rfl⟩:=ue f;obtain⟨q,rfl⟩:=ue g;have d:c*p<c*(q+1):=by{rw[f8];omega};have e:c*q<c*(p+1):=by{rw[f8];omega};have:=qr d;have:=qr e;have:p=q:=by{omega};rw[this]
theorem aNm (x i s:Nat)(j:0<x)(hx:x<18446744073709551616)(g:321<=i)(h:i<348):tU x (pmN i) s (kG i) (eS i):=by
 obtain⟨n1,m,v⟩:=aRx i g h;obtain⟨_,_,_,n,o,_⟩:=wX i (by omega);have t:=zE i;intro hi r d e;have x1:x*kG i<=x*pmN i*eS i:=by{rw[af];exact fm _ n};have x2:x*pmN i*eS i<x*kG i+x*eS i:=by{rw[af,<-f8];exact wh o j};have p:=au (eS i) e;have q:=au (eS i) (b9 d);rw[bb]at p q;have w:x*eS i<=18446744073709551615*eS i:=au _ (by omega);have k:x*kG i%(340282366920938463463374607431768211456*2^(348-i))=0:=by{rw[uf,n1];simp};have l:hi*340282366920938463463374607431768211456*eS i%(340282366920938463463374607431768211456*2^(348-i))=0:=by{rw[af,uf,m];simp};have u:0<340282366920938463463374607431768211456*2^(348-i):=cn (by decide) (ay _);generalize 340282366920938463463374607431768211456*2^(348-i)=G' at *;generalize hi*340282366920938463463374607431768211456*eS i=b at *;generalize x*pmN i*eS i=c at *;generalize x*kG i=a at *;generalize x*eS i=f at *;generalize eS i=dd at *;exact aLG G' a b (18446744073709551616*dd) k l (by omega) (by omega) (by omega) (by omega) (by omega)
theorem aGh (x i s:Nat)(hi:i<696)(f:0<x)(hx:x<18446744073709551616)(h:(5<=s/\x%128=0)\/(4<=s/\x%256=0)):tU x (pmN i) s (kG i) (eS i):=by
 by_cases a:321<=i/\i<=375;{by_cases d:i<348;{exact aNm x i s f hx a.1 d};{exact aGj x i s (by omega) a.2}};{rcases h with⟨b,c⟩|⟨b,c⟩;{have e:x=128*(x / 128):=by{omega};rw[e];exact aGi 128 144115188075855872 85070591730234615865843651857942052864 _ 5 s _ _ _ (by decide) (by decide) b (aSS i hi a) (by omega) (by omega)};{have e:x=256*(x / 256):=by{omega};rw[e];exact aGi 256 72057594037927936 21267647932558653966460912964485513216 _ 4 s _ _ _ (by decide) (by decide) b (aST i hi a) (by omega) (by omega)}}
theorem vP (A B a B':Nat)(d:0<B)(e:0<B')(h:A*B'=a*B):unr A B=unr a B':=by
 have f:∀k,(k*B<=2*A↔k*B'<=2*a)/\(2*A<=k*B↔2*a<=k*B'):=by{intro k;have b:k*B*B'=k*B'*B:=by{ac_rfl};have c:2*A*B'=2*a*B:=by{rw[af,h,af]};refine⟨⟨fun g=>?_,fun g=>?_⟩,⟨fun g=>?_,fun g=>?_⟩⟩;{refine dv ?_ d;rw[<-b,<-c];exact au _ g};{refine dv ?_ e;rw[b,c];exact au _ g};{refine dv ?_ d;rw[<-b,<-c];exact au _ g};{refine dv ?_ e;rw[b,c];exact au _ g}};have i:=fun k=>gV A B k d;have j:=fun k=>gV a B' k e;have l:=fun k=>gA A B k d;have m:=fun k=>gA a B' k e;generalize unr A B=u at *;generalize unr a B'=v at *;have c1:∀k,2*k<=u↔2*k<=v:=fun k=>by{rw[i,j,(f k).1]};have c2:∀k,u<=2*k↔v<=2*k:=fun k=>by{rw[l,m,(f k).2]};have:=c1 (u / 2);have:=c1 (v / 2);have:=c2 (u / 2);have:=c2 (v / 2);have:=c1 (u / 2+1);omega
theorem aEM (x i s:Nat)(e:Int)(hi:i<696)(d:0<x)(hx:x<18446744073709551616)(m:-(e+lpI i+3)=s)(h:tU x (pmN i) s (kG i) (eS i)) :
  cZ x (aN i) (aX i) s=unr (x*10^(i-348)*2^e.toNat) (10^(348-i)*2^(-e).toNat):=by
 obtain⟨f,g,j,k,l,n⟩:=wX i hi;have c:pmN i+aX i=aN i*18446744073709551616:=by{unfold pmN;have:1*18446744073709551616<=aN i*18446744073709551616:=au _ j;omega};rw[aL4 x (aN i) (aX i) s (pmN i) (kG i) (eS i) d hx f g (zE i) c k l h];refine vP _ _ _ _ (cn (by decide) (cn (zE i) (cn (ay _) (by decide)))) (cn (b7 (by decide)) (ay _)) ?_;unfold kG eS;have a:2^(127-lpI i).toNat*2^(-e).toNat=2^e.toNat*(2^2*(2^(lpI i-127).toNat*(2^s*2^128))):=by{rw[<-ap,<-ap,<-ap,<-ap,<-ap];congr 1;omega};have b:(2:Nat)^2=4:=by{decide};have e3:(2:Nat)^128=340282366920938463463374607431768211456:=by{decide};rw[b,e3]at a;generalize (2:Nat)^(127-lpI i).toNat=a1 at *;generalize (2:Nat)^(-e).toNat=a2 at *;generalize (2:Nat)^e.toNat=a3 at *;generalize (2:Nat)^(lpI i-127).toNat=a4 at *;generalize (2:Nat)^s=a5 at *;generalize (10:Nat)^(i-348)=b1 at *;generalize (10:Nat)^(348-i)=b2 at *;generalize 340282366920938463463374607431768211456=P at *
 calc x*(b1*a1)*(b2*a2)=x*b1*b2*(a1*a2):=by ac_rfl
  _=x*b1*b2*(a3*(4*(a4*(a5*P)))):=by rw[a]
  _=x*b1*a3*(4*(b2*a4*(a5*P))):=by ac_rfl
def bN (d i:Nat):Nat:=d*10^(i-348)*2^1074
def aK (i:Nat):Nat:=10^(348-i)
theorem fA (i:Nat):0<aK i:=b7 (by decide)
theorem aGx (i:Nat):∃ α β : Nat,(α : Int)-β = 127-lpI i/\kG i=10^(i-348)*2^α /\ eS i=aK i*2^β :=
 ⟨(127-lpI i).toNat,(lpI i-127).toNat,by omega,rfl,rfl⟩
theorem aHQ (a b c z:Nat):a*b*z*c=a*(b*c)*z:=by ac_rfl
theorem aMi (a b c z:Nat):2*(a*b*z)*c=2*(a*(b*c)*z):=by ac_rfl
theorem aLS (d i b K:Nat)(hi:i<696)(p:1<=b)(h:2^(b-1)<=d)(o:(K:Int)=1021+b+lpI i):4503599627370496*(aK i*2^K)<=bN d i:=by
 obtain⟨a,_⟩:=aDd i hi;obtain⟨α,β,n,j,k⟩:=aGx i;rw[j,k]at a;refine dv (c:=2^α) ?_ (ay _);unfold bN;have g:4503599627370496=2^52:=by{decide};have f:170141183460469231731687303715884105728=2^127:=by{decide};rw[f]at a
 have m:=au (2^1074) (ia h a);have l:4503599627370496*(aK i*2^K)*2^α = 2^(b-1)*(2^127*(aK i*2^β))*2^1074:=by
  have e:2^52*2^K*2^α = 2^(b-1)*2^127*2^β * 2^1074:=by{obtain ⟨zz,hzz⟩:∃zz,1074=zz:=⟨_,rfl⟩;rw[hzz];rw[<-ap,<-ap,<-ap,<-ap,<-ap];congr 1;omega};rw[g]
  calc 2^52*(aK i*2^K)*2^α = aK i*(2^52*2^K*2^α):=by ac_rfl
   _=aK i*(2^(b-1)*2^127*2^β * 2^1074):=by rw[e]
   _=_:=by generalize (2:Nat)^1074=z;ac_rfl
 rw[l];refine bg m (k9 ?_);exact(aHQ _ _ _ _).symm
theorem aRQ (d i b K:Nat)(hi:i<696)(g:d<2^b)(n:1021+b+lpI i<=(K:Int)):bN d i<=18014398509481980*(aK i*2^K):=by
 obtain⟨_,a⟩:=aDd i hi;obtain⟨α,β,k,h,j⟩:=aGx i;rw[h,j]at a;refine dv (c:=2^α) ?_ (ay _);unfold bN;have f:340282366920938387905510881517444792320=18014398509481980*2^74:=by{decide};rw[f]at a
 have m:=au (2^1074) (ia (b9 g) a);have l:2^b*(18014398509481980*2^74*(aK i*2^β))*2^1074<=18014398509481980*(aK i*2^K)*2^α := by
  have e:2^b*2^74*2^β * 2^1074<=2^K*2^α := by{obtain ⟨zz,hzz⟩:∃zz,1074=zz:=⟨_,rfl⟩;rw[hzz];rw[<-ap,<-ap,<-ap,<-ap];refine cc (by decide) ?_;omega}
  calc 2^b*(18014398509481980*2^74*(aK i*2^β))*2^1074=18014398509481980*aK i*(2^b*2^74*2^β * 2^1074):=by generalize (2:Nat)^1074=z;ac_rfl
   _<=18014398509481980*aK i*(2^K*2^α):=fm _ e
   _=_:=by ac_rfl
 refine bg (k9 ?_) (bg m l);exact aHQ _ _ _ _
theorem aQr (d i b:Nat)(hi:i<696)(f:d<2^b)(h:(b:Int)+lpI i<=-1077):2*bN d i<=aK i:=by
 obtain⟨_,a⟩:=aDd i hi;obtain⟨α,β,o,g,j⟩:=aGx i;rw[g,j]at a
 refine dv (c:=2^α) ?_ (ay _);unfold bN;have n:10^(i-348)*2^α <= 2^128*(aK i*2^β):=bg a (au _ (by decide));have m:=au (2^1074) (ia (b9 f) n);have l:2*(2^b*(2^128*(aK i*2^β))*2^1074)<=aK i*2^α := by
  have e:2*(2^b*2^128*2^β * 2^1074)<=2^α := by{obtain ⟨zz,hzz⟩:∃zz,1074=zz:=⟨_,rfl⟩;rw[hzz];rw[<-ap,<-ap,<-ap,bo,<-bz];refine cc (by decide) ?_;omega}
  calc 2*(2^b*(2^128*(aK i*2^β))*2^1074)=aK i*(2*(2^b*2^128*2^β * 2^1074)):=by generalize (2:Nat)^1074=z;ac_rfl
   _<=aK i*2^α := fm _ e
 have k:=fm 2 m;refine bg (k9 ?_) (bg k l);exact aMi _ _ _ _
theorem aLb (d i b s K:Nat)(e:Int)(hi:i<696)(hd:1<=d)(c:d<2^b)(h:b<=64)(j:e=1074-K)(g:-(e-(64-b)+lpI i+3)=s)(f:tU (d*2^(64-b)) (pmN i) s (kG i) (eS i)) :
  cZ (d*2^(64-b)) (aN i) (aX i) s=unr (bN d i) (aK i*2^K):=by
 have hx:d*2^(64-b)<18446744073709551616:=by{have:d*2^(64-b)<2^b*2^(64-b):=d7 c (ay _);rw[<-ap,show b+(64-b)=64 by omega]at this;exact this};rw[aEM (d*2^(64-b)) i s (e-(64-b)) hi (cn hd (ay _)) hx g f];refine vP _ _ _ _ (cn (b7 (by decide)) (ay _)) (cn (fA i) (ay _)) ?_;unfold bN aK;have a:2^(64-b)*2^(e-(64-(b:Int))).toNat*2^K=2^1074*2^(-(e-(64-(b:Int)))).toNat:=by{obtain ⟨zz,hzz⟩:∃zz,1074=zz:=⟨_,rfl⟩;rw[hzz];rw[<-ap,<-ap,<-ap];congr 1;omega};generalize (2:Nat)^1074=z at *;generalize (2:Nat)^(64-b)=a1 at *;generalize (2:Nat)^K=a2 at *;generalize (2:Nat)^(e-(64-(b:Int))).toNat=a3 at *;generalize (2:Nat)^(-(e-(64-(b:Int)))).toNat=a4 at *;generalize (10:Nat)^(i-348)=b1 at *;generalize (10:Nat)^(348-i)=b2 at *
 calc d*a1*b1*a3*(b2*a2)=d*b1*b2*(a1*a3*a2):=by ac_rfl
  _=d*b1*b2*(z*a4):=by rw[a]
  _=d*b1*z*(b2*a4):=by ac_rfl
def cK (b i:Nat):Nat:=(1074-min 1074 (53-(b:Int)-lpI i)).toNat
def gC (b i:Nat):Int:=-(min 1074 (53-(b:Int)-lpI i)-(64-b)+lpI i+3)
def bK (u:Nat):Nat:=(u+1+u / 4%2) / 4
def cM (u:Nat):Nat:=if 36028797018963966<=u then u / 2 ||| u%2 else u
def iO (u:Nat):Nat:=if 36028797018963966<=u then 1 else 0
theorem aGr (d i b:Nat)(hi:i<696)(y:1<=b)(t:2^(b-1)<=d)(x:d<2^b)(K:b<=64)(s:Nat)(B:gC b i=s)
  (J:tU (d*2^(64-b)) (pmN i) s (kG i) (eS i)) (u:Nat) (M:cZ (d*2^(64-b)) (aN i) (aX i) s=u) :
  u<72057594037927936/\bK (cM u)<9007199254740992/\(4503599627370496<=bK (cM u)\/cK b i+iO u=0)/\bY (bN d i) (aK i) (min ((cK b i+iO u)*4503599627370496+bK (cM u)) aQ):=by
 have hd:1<=d:=bg (ay _) t;have E:min 1074 (53-(b:Int)-lpI i)=1074-(cK b i:Int):=by{unfold cK;omega};have eu:=aLb d i b s (cK b i) (min 1074 (53-(b:Int)-lpI i)) hi hd x K E (by unfold gC at B;exact B) J;rw[M]at eu;have D:=fA i;have m:0<aK i*2^cK b i:=cn D (ay _);have F:1021+(b:Int)+lpI i<=cK b i:=by{omega};have N:=aRQ d i b (cK b i) hi x F;have r:=fun k=>gV (bN d i) (aK i*2^cK b i) k m;have C:=fun k=>gA (bN d i) (aK i*2^cK b i) k m;rw[<-eu]at r C
 have u1:u<=72057594037927920:=by
  have:=(C 36028797018963960).2 (by
   have:36028797018963960*(aK i*2^cK b i)=2*(18014398509481980*(aK i*2^cK b i)):=by rw[<-af 2]
   omega)
  omega
 have lo:cK b i≠0->18014398509481984<=u:=by
  intro h;have v:(cK b i:Int)=1021+b+lpI i:=by omega
  have:=aLS d i b (cK b i) hi y t v;have:=(r 9007199254740992).2 (by
   have:9007199254740992*(aK i*2^cK b i)=2*(4503599627370496*(aK i*2^cK b i)):=by rw[<-af 2]
   omega)
  omega
 refine⟨by omega,?_⟩;by_cases c:36028797018963966<=u
 ·have q:cM u=unr (bN d i) (2*(aK i*2^cK b i)):=by{unfold cM;rw[ae c,aOc _ _ m,<-eu]};have eck:iO u=1:=by{unfold iO;rw[ae c]};have L:cM u=if u%2=0 then u / 2 else 2*(u / 4)+1:=by{unfold cM;rw[ae c];split;{rename_i h;rw[h,jx]};{rename_i h;rw[show u%2=1 by omega,uI,rk]}}
  have v1:18014398509481983<=cM u/\cM u<=36028797018963962:=by{rw[L];split<;>omega};have f:4503599627370496<=bK (cM u)/\bK (cM u)<9007199254740992:=by{unfold bK;have:cM u=18014398509481983\/18014398509481984<=cM u:=by{omega};rcases this with h|h;{rw[h];decide};{omega}};refine⟨f.2,.inl f.1,?_⟩;rw[eck];obtain⟨⟨g,l⟩,q3,a⟩:=rY (bN d i) (2*(aK i*2^cK b i)) _ (by omega) (show bK (unr (bN d i) (2*(aK i*2^cK b i)))=bK (cM u) by rw[q]);have o:∀n,n*(2*(aK i*2^cK b i))=n*2^(cK b i+1)*aK i:=fun n=>by{rw[bz];ac_rfl};have p:2*(aK i*2^cK b i)=2^(cK b i+1)*aK i:=by{rw[bz];ac_rfl};rw[o]at g l q3 a;rw[p]at q3 a;refine aA4 _ _ _ _ f.2 (.inl f.1) ⟨g,l⟩ (fun _=>⟨q3,a⟩) ?_;intro j A w;obtain rfl:j=cK b i:=by{omega};have:=(r 18014398509481983).1 (by omega);rw[w];have e:4*4503599627370496*2^cK b i*aK i=18014398509481983*(aK i*2^cK b i)+2^cK b i*aK i:=by{rw[bo (aK i),af];generalize 2^cK b i*aK i=z;omega};omega
 {have q:cM u=u:=by{unfold cM;rw[ac c]};have eck:iO u=0:=by{unfold iO;rw[ac c]};rw[q,eck,il];have f:bK u<9007199254740992:=by{unfold bK;omega};have r2:4503599627370496<=bK u\/cK b i=0:=by{by_cases h:cK b i=0;{exact .inr h};{have:=lo h;left;unfold bK;omega}};refine⟨f,r2,?_⟩;obtain⟨⟨g,l⟩,q3,a⟩:=rY (bN d i) (aK i*2^cK b i) _ m (show bK (unr (bN d i) (aK i*2^cK b i))=bK u by rw[<-eu]);have o:∀n,n*(aK i*2^cK b i)=n*2^cK b i*aK i:=fun n=>by{ac_rfl};have p:aK i*2^cK b i=2^cK b i*aK i:=by{ac_rfl};rw[o]at g l q3 a;rw[p]at q3 a;refine aA4 _ _ _ _ f r2 ⟨g,l⟩ (fun _=>⟨q3,a⟩) ?_;intro j A w;rw[w];have v:(cK b i:Int)=1021+b+lpI i:=by{omega};have:=aLS d i b (cK b i) hi y t v;have e:4*4503599627370496*2^j*aK i=2*(4503599627370496*(aK i*2^cK b i)):=by{rw[A,bz];generalize 2^j=z;have:4503599627370496*(aK i*(z*2))=2*(4503599627370496*z*aK i):=by{ac_rfl};rw[this,af 4,af 4];omega};omega}
theorem aEs (d i b:Nat)(hi:i<696)(a:d<2^b)(h:64<=gC b i):bY (bN d i) (aK i) 0:=by
 have c:(b:Int)+lpI i<=-1077:=by{unfold gC at h;omega};have:=aQr d i b hi a c;refine⟨ax _,fun q hq=>by omega,fun _=>⟨?_,fun h=>by omega⟩⟩;have e:aV 0+aV (0+1)=1:=by{decide};rw[e,da];exact this
theorem aBp (d i b s:Nat)(hi:i<696)(hd:1<=d)(a:d<2^b)(j:b<=64)(g:gC b i=s)(h:b<=57\/(348<=i/\i<=375)):tU (d*2^(64-b)) (pmN i) s (kG i) (eS i):=by
 have hx:d*2^(64-b)<18446744073709551616:=by{have:d*2^(64-b)<2^b*2^(64-b):=d7 a (ay _);rw[<-ap,show b+(64-b)=64 by omega]at this;exact this};rcases h with h|⟨c,f⟩;{refine aGh _ i s hi (cn hd (ay _)) hx (.inl ⟨?_,?_⟩);{unfold gC at g;omega};{have e:2^(64-b)=2^(57-b)*128:=by{rw[show(128:Nat)=2^7 from rfl,<-ap];congr 1;omega};rw[e,<-af];exact qx _ _}};{exact aGj _ i s c f}
