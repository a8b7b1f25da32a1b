/-
Unrounded numbers: twice the whole number of halves, with a bit for what is left over. No program in sight.
-/
import Derived.Test.YtcfgbdhpcboikaaGreatDoorExact
namespace Go.Proofs.YtcfgbdhpcboikaaGreatDoor
def unr (A B:Nat):Nat:=2*(2*A / B)+(if 2*A%B=0 then 0 else 1)
theorem fX (A B k:Nat)(a:0<B):2*k<=unr A B↔k*B<=2*A:=by
 unfold unr;rw[<-ox a];split<;>omega
theorem fI (A B k:Nat)(b:0<B):unr A B<=2*k↔2*A<=k*B:=by
 unfold unr;have e:=k7 (2*A) B;have l:=gf (2*A) b;generalize 2*A / B=f at *;generalize 2*A%B=r at *;constructor;{intro h;by_cases a:r=0;{rw[af a]at h;have:B*f<=B*k:=fe _ (by omega);rw[bn k];omega};{rw[ae a]at h;have:B*(f+1)<=B*k:=fe _ (by omega);rw[fv]at this;rw[bn k];omega}};{intro h;rw[bn k]at h;by_cases a:r=0;{rw[af a];have:B*f<=B*k:=by{omega};have:=rz this b;omega};{rw[ae a];have:B*f<B*k:=by{omega};have:=qj this;omega}}
theorem sQ (q:Nat):q ||| 1=2*(q / 2)+1:=by
 have e:(q ||| 1) / 2=q / 2:=by{have:=Nat.or_div_two_pow (a:=q) (b:=1) (n:=1);simpa using this};have c:(q ||| 1)%2=1:=by{rw[show(2:Nat)=2^1 from rfl,ql];have:q%2=0\/q%2=1:=by{omega};rcases this with h|h<;>rw[show(2:Nat)^1=2 from rfl,h]<;>decide};omega
theorem uO (A C q:Nat)(d:q*C<A)(a:A<(q+1)*C):unr A (4*C)=q ||| 1:=by
 rw[sQ];have f:0<C:=by{rcases gp C with h|h;{rw[h]at a;omega};{exact h}};have b:2*(q / 2)<=unr A (4*C):=by{rw[fX _ _ _ (by omega)];have:(2*(q / 2))*C<=q*C:=ap _ (by omega);have e:q / 2*(4*C)=2*((2*(q / 2))*C):=by{rw[show 4*C=2*(2*C) by omega,cq,ag 2,cq (q / 2)]};omega};have c:unr A (4*C)<=2*(q / 2+1):=by{rw[fI _ _ _ (by omega)];have:(q+1)*C<=(2*(q / 2+1))*C:=ap _ (by omega);have e:(q / 2+1)*(4*C)=2*((2*(q / 2+1))*C):=by{rw[show 4*C=2*(2*C) by omega,cq,ag 2,cq (q / 2+1)]};omega};have g:¬unr A (4*C)<=2*(q / 2):=by{rw[fI _ _ _ (by omega)];have:(2*(q / 2))*C<=q*C:=ap _ (by omega);have e:q / 2*(4*C)=2*((2*(q / 2))*C):=by{rw[show 4*C=2*(2*C) by omega,cq,ag 2,cq (q / 2)]};omega};have i:¬ 2*(q / 2+1)<=unr A (4*C):=by{rw[fX _ _ _ (by omega)];have:(q+1)*C<=(2*(q / 2+1))*C:=ap _ (by omega);have e:(q / 2+1)*(4*C)=2*((2*(q / 2+1))*C):=by{rw[show 4*C=2*(2*C) by omega,cq,ag 2,cq (q / 2+1)]};omega};omega
theorem aF7 (q C:Nat)(b:0<C):unr (q*C) (4*C)=q:=by
 unfold unr;have e:2*(q*C)=(2*C)*q:=by{rw[bn q,ag]};have e4:4*C=(2*C)*2:=by{omega};rw[e,e4,uv _ _ (by omega),uw];split;{rename_i h;have:=(Nat.mul_eq_zero.1 h).resolve_left (by omega);omega};{rename_i h;have:q%2≠0:=fun a=>h (by rw[a,sw]);omega}
theorem aBn (XT Q D x a:Nat)(b:Q*D<XT+x*D)(h:a+x<=Q):a*D<XT:=by
 have:=ap D h;rw[ba]at this;omega
theorem aBo (a Q D b:Nat)(d:0<D)(c:a<=Q*D)(h:Q<b):a<b*D:=ju c (di h d)
def rY (x pm s T D:Nat):Prop:=∀hi,hi%2^s=0->hi*340282366920938463463374607431768211456<x*pm+18446744073709551616->x*pm<=hi*340282366920938463463374607431768211456+18446744073709551616->x*T=hi*340282366920938463463374607431768211456*D
theorem wG (q s D:Nat):q*(D*(2^s*340282366920938463463374607431768211456))=q*2^s*340282366920938463463374607431768211456*D:=by
 rw[bn D,<-ag,<-ag]
theorem aK5 (x h l s c T D:Nat)(v:0<x)(hx:x<18446744073709551616)(t:h<18446744073709551616)(z:l<18446744073709551616)(d:0<D)(n:c+l=h*18446744073709551616)
  (o:T<=c*D) (p:c*D<T+D) (f:rY x c s T D):cJ x h l s=unr (x*T) (4*(D*(2^s*340282366920938463463374607431768211456))):=by
 obtain⟨Q,b⟩:∃Q,x*c=Q:=⟨_,rfl⟩;have x1:x*T<=Q*D:=by{rw[<-b,ag];exact fe _ o};have x2:Q*D<x*T+x*D:=by{rw[<-b,ag,<-fv];exact v8 p v};have m:Q+x*l=x*h*18446744073709551616:=by{rw[<-b,<-fv,n,ag]};have j:=k7 (x*h) 18446744073709551616;have C:=gf (x*h) (show 18446744073709551616>0 by decide);have k:=k7 (x*l) 18446744073709551616;have E:=gf (x*l) (show 18446744073709551616>0 by decide);have q:x*l<=18446744073709551615*18446744073709551615:=gv (by omega) (by omega);rw[<-j]at m;rw[<-k]at m q;unfold rY at f;rw[b]at f;have p2:0<2^s:=ar s;have w:=tR x h hx t;unfold cJ;simp only[];generalize x*h / 18446744073709551616=hi at *;generalize x*h%18446744073709551616=mid at *;generalize x*l / 18446744073709551616=mid2 at *;generalize x*l%18446744073709551616=lo2 at *;have F:mid2<=18446744073709551614:=by{omega};have B:=k7 hi (2^s);have A:=gf hi p2;clear j k o p n b;generalize x*T=XT at *;by_cases a:hi / 2^s*2^s≠hi;{rw[af a];refine(uO _ _ _ ?_ ?_).symm;{rw[wG];refine aBn XT Q D x _ x2 ?_;have:hi / 2^s*2^s<=hi-1:=by{rw[bn]at a ⊢;omega};have u:1<=hi:=by{omega};omega};{rw[wG];refine aBo XT Q D _ d x1 ?_;have:hi+1<=(hi / 2^s+1)*2^s:=by{rw[ba,bn];omega};omega}};{rw[ae a];have a:hi / 2^s*2^s=hi:=Classical.not_not.1 a;by_cases g:mid<mid2;{rw[af g,af (by omega)];have u:1<=hi:=by{omega};have e:(hi+18446744073709551615)%18446744073709551616=hi-1:=by{omega};rw[e];have r:=k7 (hi-1) (2^s);have y:=gf (hi-1) p2;rw[bn]at r;refine(uO _ _ _ ?_ ?_).symm;{rw[wG];refine aBn XT Q D x _ x2 ?_;omega};{rw[wG];refine aBo XT Q D _ d x1 ?_;have:hi<=((hi-1) / 2^s+1)*2^s:=by{rw[ba];omega};omega}};{rw[ae g];by_cases i:1<(mid+18446744073709551616-mid2)%18446744073709551616;{rw[af i];refine(uO _ _ _ ?_ ?_).symm;{rw[wG,a];refine aBn XT Q D x _ x2 ?_;omega};{rw[wG,ba,a,cr];refine aBo XT Q D _ d x1 ?_;omega}};{rw[ae i,jo];have:=f hi (by rw[bn]at a;omega) (by omega) (by omega);rw[this,show hi*340282366920938463463374607431768211456*D=hi / 2^s*(D*(2^s*340282366920938463463374607431768211456)) by rw[wG,a],aF7 _ _ (cf d (cf p2 (by decide)))]}}}
def aP (r:Nat):Nat:=if r<4503599627370496 then r else (4503599627370496+r%4503599627370496)*2^(r / 4503599627370496-1)
def ulp (r:Nat):Nat:=2^(r / 4503599627370496-1)
theorem aHp (r:Nat):0<ulp r:=ar _
theorem jL (k m:Nat)(c:m<9007199254740992)(h:4503599627370496<=m\/k=0):aP (k*4503599627370496+m)=m*2^k:=by
 unfold aP;by_cases a:k*4503599627370496+m<4503599627370496;{obtain rfl:k=0:=by{omega};rw[af a];simp};{rw[ae a];by_cases b:4503599627370496<=m;{rw[show(k*4503599627370496+m) / 4503599627370496=k+1 by omega,show 4503599627370496+(k*4503599627370496+m)%4503599627370496=m by omega];rfl};{omega}}
theorem oX (k m:Nat)(b:m<9007199254740992)(h:4503599627370496<=m\/k=0):ulp (k*4503599627370496+m)=2^k:=by
 unfold ulp;by_cases a:4503599627370496<=m;{rw[show(k*4503599627370496+m) / 4503599627370496=k+1 by omega];rfl};{obtain rfl:k=0:=by{omega};rw[show(0*4503599627370496+m) / 4503599627370496=0 by omega]}
theorem aCl (r:Nat):∃k m,r=k*4503599627370496+m/\m<9007199254740992/\(4503599627370496<=m\/k=0):=by
 by_cases h:r<4503599627370496;{exact⟨0,r,by omega,by omega,.inr rfl⟩};{exact⟨r / 4503599627370496-1,r%4503599627370496+4503599627370496,by omega,by omega,.inl (by omega)⟩}
theorem iU (r:Nat):aP (r+1)=aP r+ulp r:=by
 obtain⟨k,m,rfl,a,h⟩:=aCl r;rw[jL k m a h,oX k m a h];by_cases b:m+1<9007199254740992;{rw[jg,jL k (m+1) b (by omega),ba,cr]};{have:k*4503599627370496+m+1=(k+1)*4503599627370496+4503599627370496:=by{omega};rw[this,jL (k+1) 4503599627370496 (by omega) (.inl (ah _)),bz];obtain rfl:m=9007199254740991:=by{omega};generalize 2^k=p;omega}
theorem iL (a b:Nat)(h:a<b):aP a<aP b:=by
 induction b with|zero=>omega|succ b ih=>{have:=iU b;have:=aHp b;rcases ak a b with c|c;{have:=ih c;omega};{obtain rfl:a=b:=by{omega};omega}}
theorem pL (a b:Nat)(h:a<=b):aP a<=aP b:=by
 rcases ak a b with c|c;{exact b6 (iL _ _ c)};{obtain rfl:a=b:=by{omega};exact ah _}
def aL:Nat:=9218868437227405312
structure bI (A B r:Nat):Prop where
 le:r<=aL
 lo:∀q,r=q+1->(aP q+aP r)*B<=2*A/\(r%2=1->(aP q+aP r)*B<2*A)
 hi:r<aL->2*A<=(aP r+aP (r+1))*B/\(r%2=1->2*A<(aP r+aP (r+1))*B)
theorem aNt (A B r t:Nat)(j:0<B)(i:bI A B r)(a:bI A B t):¬r<t:=by
 intro l;obtain⟨q,hq⟩:∃q,t=q+1:=⟨t-1,by omega⟩;obtain⟨b,c⟩:=i.hi (by have:=a.le;omega);obtain⟨d,f⟩:=a.lo q hq;have v1:=pL r q (by omega);have v2:=pL (r+1) t (by omega);have e:=dh (bg d b) j;have k:aP q=aP r:=by{omega};have g:q=r:=by{rcases i8 q r with h|h|h;{have:=iL _ _ h;omega};{exact h};{have:=iL _ _ h;omega}};subst g;subst hq;have:q%2=1\/(q+1)%2=1:=by{omega};rcases this with h|h;{have:=c h;omega};{have:=f h;omega}
theorem rT (A B r t:Nat)(c:0<B)(a:bI A B r)(b:bI A B t):r=t:=by
 have:=aNt A B r t c a b;have:=aNt A B t r c b a;omega
theorem lN (A B A' B' r:Nat)(d:0<B)(e:0<B')(h:A*B'=A'*B)(b:bI A B r):bI A' B' r:=by
 have f:∀k,k*B<=2*A->k*B'<=2*A':=fun k g=>by{refine dh (c:=B) ?_ d;have:=ap B' g;rw[ag 2 A',<-h,<-ag,l9];exact this};have i:∀k,k*B<2*A->k*B'<2*A':=fun k g=>by{refine gj (a:=B) ?_;have:=di g e;rw[ag 2 A',<-h,<-ag,l9];exact this};have j:∀k,2*A<=k*B->2*A'<=k*B':=fun k g=>by{refine dh (c:=B) ?_ d;have:=ap B' g;rw[ag 2 A',<-h,<-ag,l9 k];exact this};have l:∀k,2*A<k*B->2*A'<k*B':=fun k g=>by{refine gj (a:=B) ?_;have:=di g e;rw[ag 2 A',<-h,<-ag,l9 k];exact this};exact⟨b.le,fun q hq=>⟨f _ (b.lo q hq).1,fun g=>i _ ((b.lo q hq).2 g)⟩,fun g=>⟨j _ (b.hi g).1,fun m=>l _ ((b.hi g).2 m)⟩⟩
theorem aAi (A B k m:Nat)(i:m<9007199254740992)(h:4503599627370496<=m\/k=0)
  (v:2*A<=(2*m+1)*2^k*B/\(m%2=1->2*A<(2*m+1)*2^k*B))
  (lo:(m≠4503599627370496\/k=0)->(2*m)*2^k*B<=2*A+2^k*B/\(m%2=1->(2*m)*2^k*B<2*A+2^k*B))
  (u:∀j,k=j+1->m=4503599627370496->(4*m)*2^j*B<=2*A+2^j*B):bI A B (min (k*4503599627370496+m) aL):=by
 have hv:=jL k m i h;have r:=oX k m i h;have hs:=iU (k*4503599627370496+m);have l:(k*4503599627370496+m)%2=m%2:=by{omega};have low:∀q,k*4503599627370496+m=q+1->(aP q+aP (k*4503599627370496+m))*B<=2*A/\(m%2=1->(aP q+aP (k*4503599627370496+m))*B<2*A):=by{intro q hq;have c:=iU q;rw[<-hq]at c;by_cases n:m≠4503599627370496\/k=0;{have d:ulp q=2^k:=by{have e:q=k*4503599627370496+(m-1):=by{omega};rw[e];exact oX k (m-1) (by omega) (by omega)};obtain⟨s,t⟩:=lo n;have e:(aP q+aP (k*4503599627370496+m))*B+2^k*B=(2*m)*2^k*B:=by{rw[<-ba];congr 1;rw[d]at c;rw[ag,<-hv];omega};exact⟨by omega,fun g=>by have:=t g;omega⟩};{obtain⟨j,f⟩:∃j,k=j+1:=⟨k-1,by omega⟩;have o:m=4503599627370496:=by{omega};have d:ulp q=2^j:=by{have e:q=j*4503599627370496+9007199254740991:=by{omega};rw[e];exact oX j _ (by omega) (by omega)};have s:=u j f o;have e:(aP q+aP (k*4503599627370496+m))*B+2^j*B=(4*m)*2^j*B:=by{rw[<-ba];congr 1;rw[d]at c;have:m*2^k=2*(m*2^j):=by{rw[f,bz];ac_rfl};rw[ag 4];omega};exact⟨by omega,fun g=>by omega⟩}};by_cases b:k*4503599627370496+m<aL;{rw[mz (b6 b)];refine⟨b6 b,fun q hq=>?_,fun _=>?_⟩;{rw[l];exact low q hq};{rw[l,hs,hv,r];have e:m*2^k+(m*2^k+2^k)=(2*m+1)*2^k:=by{rw[ba,ag];omega};rw[e];exact v}};{rw[oc (by omega)];refine⟨ah _,fun q hq=>?_,fun h=>absurd h (mc _)⟩;obtain⟨a,p⟩:∃a,k*4503599627370496+m=a+1:=⟨k*4503599627370496+m-1,by unfold aL at b;omega⟩;have:=(low a p).1;have v1:=pL q a (by omega);have v2:=pL aL (k*4503599627370496+m) (by omega);refine⟨bg (ap _ (by omega)) this,fun h=>?_⟩;exact absurd h (by unfold aL;decide)}
theorem aHq (u v:Nat)(a:∀k,2*k<=u↔2*k<=v)(b:∀k,u<=2*k↔v<=2*k):u=v:=by
 have:=a (u / 2);have:=a (v / 2);have:=b (u / 2);have:=b (v / 2);have:=a (u / 2+1);omega
theorem aNb (A B:Nat)(a:0<B):unr A (2*B)=unr A B / 2 ||| unr A B%2:=by
 have e:∀u:Nat,u / 2 ||| u%2=if u%2=0 then u / 2 else 2*(u / 4)+1:=by{intro u;split;{rename_i h;rw[h,jo]};{rename_i h;rw[show u%2=1 by omega,sQ,rf]}}
 rw[e];have b:=fun k=>fX A B k a;have c:=fun k=>fI A B k a;refine aHq _ _ (fun k=>?_) (fun k=>?_);{rw[fX _ _ _ (by omega),show k*(2*B)=(2*k)*B by rw[cq,ag],<-b];split<;>omega};{rw[fI _ _ _ (by omega),show k*(2*B)=(2*k)*B by rw[cq,ag],<-c];split<;>omega}
theorem qL (A B m:Nat)(g:0<B)(b:(unr A B+1+unr A B / 4%2) / 4=m) :
  (2*A<=(2*m+1)*B/\(m%2=1->2*A<(2*m+1)*B))/\((2*m)*B<=2*A+B/\(m%2=1->(2*m)*B<2*A+B)):=by
 have d:=fun k=>fX A B k g;have j:=fun k=>fI A B k g;generalize unr A B=u at *;obtain⟨q,c,l,hq⟩:∃q c,c<4/\u=4*q+c:=⟨u / 4,u%4,by omega,by omega⟩;have i:u / 4=q:=by{omega};rw[i]at b;have o:(m=q/\(c<2\/(c=2/\q%2=0)))\/(m=q+1/\(c=3\/(c=2/\q%2=1))):=by{have:c=0\/c=1\/c=2\/c=3:=by{omega};have a:q%2=0\/q%2=1:=by{omega};rcases this with rfl|rfl|rfl|rfl<;>rcases a with a|a<;>rw[a]at b<;>omega};clear b i;refine⟨⟨?_,fun h=>?_⟩,?_⟩;{rw[<-j];omega};{have a:¬ 2*(2*m+1)<=u:=by{omega};have:¬(2*m+1)*B<=2*A:=fun h=>a ((d (2*m+1)).2 h);omega};{rcases gp m with f|f;{subst f;exact⟨by omega,fun h=>by omega⟩};{obtain⟨n,rfl⟩:∃n,m=n+1:=⟨m-1,by omega⟩;have e:2*(n+1)*B=(2*n+1)*B+B:=by{rw[<-l6];rfl};rw[e];refine⟨?_,fun h=>?_⟩;{have:=(d (2*n+1)).1 (by omega);omega};{have a:¬u<=2*(2*n+1):=by{omega};have:¬ 2*A<=(2*n+1)*B:=fun h=>a ((j (2*n+1)).2 h);omega}}}
def lpI (i:Nat):Int:=((i:Int)-348)*108853 / 32768
def iZ (i:Nat):Nat:=10^(i-348)*2^(127-lpI i).toNat
def dR (i:Nat):Nat:=10^(348-i)*2^(lpI i-127).toNat
def pmN (i:Nat):Nat:=aJ i*18446744073709551616-aR i
def aEm (i:Nat):Prop:=aJ i<18446744073709551616/\aR i<18446744073709551616/\0<aJ i/\iZ i<=pmN i*dR i/\pmN i*dR i<iZ i+dR i/\170141183460469231731687303715884105728<=pmN i
instance (i:Nat):Decidable (aEm i):=by unfold aEm;exact inferInstance
theorem aO2:((List.range 696).all fun i=>decide (aEm i))=true:=by kernel_rfl
theorem vH (i:Nat)(h:i<696):aEm i:=br (da.1 aO2 i (fg.2 h))
def aEl (i:Nat):Prop:=170141183460469231731687303715884105728*dR i<=iZ i/\iZ i<=340282366920938387905510881517444792320*dR i
instance (i:Nat):Decidable (aEl i):=by unfold aEl;exact inferInstance
theorem aO1:((List.range 696).all fun i=>decide (aEl i))=true:=by kernel_rfl
theorem aCj (i:Nat)(h:i<696):aEl i:=br (da.1 aO1 i (fg.2 h))
theorem wR (i:Nat):0<dR i:=cf (b7 (by decide)) (ar _)
def eu (X W:Nat):Nat->Nat->Nat->Nat->Nat->Bool
 | 0,_,_,_,_=>false
 | f+1,k0,d0,k1,d1=>if X<=k0+d0 / d1*k1 then decide (W<d1)else eu X W f k1 d1 (k0+d0 / d1*k1) (d0%d1)
def aLc (L:Int->Int->Prop)(g:Int)(k0 d0 k1 d1:Nat):Prop:=∀k d,L k d->∃a b:Int,k=a*k0+b*k1/\d=g*(b*d1-a*d0)
theorem aJV (L:Int->Int->Prop)(g:Int)(f e k1 c:Nat)(h:aLc L g f e k1 c):aLc L (-g) k1 c (f+e / c*k1) (e%c):=by
 intro k d l;obtain⟨a,b,i,j⟩:=h k d l;have hd:(e:Int)=(e%c:Nat)+(e / c:Nat)*(c:Int):=by{have:=Nat.mod_add_div e c;rw[bn]at this;exact_mod_cast this.symm};refine⟨b-a*(e / c:Nat),a,?_,?_⟩;{rw[i];push_cast;grind};{rw[j,hd];grind}
theorem aNj (L:Int->Int->Prop)(X W:Nat):∀(f:Nat) (g:Int) (k0 d0 k1 d1:Nat),(g=1\/g=-1)->aLc L g k0 d0 k1 d1->eu X W f k0 d0 k1 d1=true->∀k d,L k d->0<k->k<X->(W:Int)<d.natAbs
 | 0,_,_,_,_,_,_,_,h=>by cases h
 | f+1,g,k0,d0,k1,d1,hg,hm,h=>by
  unfold eu at h;have l:=aJV L g k0 d0 k1 d1 hm;split at h
  ·rename_i u;have t:=br h;intro k d o r s;obtain⟨a,b,q,n⟩:=l k d o;generalize k0+d0 / d1*k1=k2 at *
   generalize d0%d1=d2 at *
   have j:(0:Int)<=d2:=by omega
   have i:(0:Int)<=k1:=by omega
   have v:(X:Int)<=k2:=by omega
   have w:(d1:Int)<=(b*d2-a*d1:Int).natAbs:=by
    rcases ra b 0 with e|e|e
    ·have c:1<=a:=by
      rcases tw 0 a with h|h
      ·omega
      ·exfalso;have:=jt h i;have:=jt (show b<=0 by omega) (show(0:Int)<=k2 by omega);omega
     have m:=jt c (show(0:Int)<=d1 by omega);have p:=jt (show b<=0 by omega) j;omega
    ·subst e;have c:1<=a:=by
      rcases tw 0 a with h|h
      ·omega
      ·exfalso;have:=jt h i;omega
     have m:=jt c (show(0:Int)<=d1 by omega);omega
    ·have c:a<=-1:=by
      rcases tw a 0 with h|h
      ·omega
      ·exfalso;have:=Int.mul_nonneg h i;have:=jt (show 1<=b by omega) (show(0:Int)<=k2 by omega);omega
     have m:=jt c (show(0:Int)<=d1 by omega);have p:=Int.mul_nonneg (show 0<=b by omega) j;omega
   have:(d.natAbs:Int)=(b*d2-a*d1:Int).natAbs:=by
    rw[n];rcases hg with rfl|rfl
    ·rw[show -1*(b*(d2:Int)-a*d1)=-(b*d2-a*d1) by omega,Int.natAbs_neg]
    ·rw[show - -1*(b*(d2:Int)-a*d1)=(b*d2-a*d1) by omega]
   omega
  ·exact aNj L X W f (-g) _ _ _ _ (by omega) l h
def aAc (W M c:Nat):Bool:=eu W W 200 0 M 1 (c%M)
theorem aQc (W M c:Nat)(h:aAc W M c=true)(k y:Nat)(a:0<k)(b:k<W):W<((k:Int)*c-y*M).natAbs:=by
 have:=aNj (fun k d=>∃y:Int,d=k*c-y*M) W W 200 1 0 M 1 (c%M) (.inl rfl) (by
  rintro k d ⟨y,rfl⟩;have e:(c:Int)=(c%M:Nat)+(c / M:Nat)*(M:Int):=by
   have:=Nat.mod_add_div c M;rw[bn]at this
   exact_mod_cast this.symm
  refine⟨y-k*(c / M:Nat),k,by simp,?_⟩;rw[show(k:Int)*c=k*((c%M:Nat)+(c / M:Nat)*(M:Int)) by rw[<-e]];grind) h k _ ⟨y,rfl⟩ (by omega) (by omega)
 omega
theorem aFo (G' W M pm s0 s k T D:Nat)(d:G'*W=18446744073709551616)(l:G'*M=2^s0*340282366920938463463374607431768211456)(p:s0<=s)(m:aAc W M pm=true)(o:0<k)(hx:k<W):rY (G'*k) pm s T D:=by
 intro hi i a b;exfalso;obtain⟨c,n⟩:=tz i;have g:2^s=2^s0*2^(s-s0):=by{rw[<-aj];congr 1;omega};have e3:hi*340282366920938463463374607431768211456=G'*(c*2^(s-s0)*M):=by{rw[n,g,cq G',l];ac_rfl};rw[e3,<-d,ag G' k pm]at a b;have j:0<G':=by{rcases gp G' with h|h;{rw[h]at d;omega};{exact h}};rw[<-fv]at a b;have a:=qj a;have b:=rz b j;have:=aQc W M pm m k (c*2^(s-s0)) o hx;have e:((k*pm:Nat):Int)=(k:Int)*pm:=by{push_cast;rfl};have f:((c*2^(s-s0)*M:Nat):Int)=((c*2^(s-s0):Nat):Int)*M:=by{push_cast;rfl};rw[<-e,<-f]at this;omega
theorem aLR:((List.range 696).all fun i=>decide (321<=i/\i<=375)||aAc 144115188075855872 85070591730234615865843651857942052864 (pmN i))=true:=by kernel_rfl
theorem aLS:((List.range 696).all fun i=>decide (321<=i/\i<=375)||aAc 72057594037927936 21267647932558653966460912964485513216 (pmN i))=true:=by kernel_rfl
theorem aRS (i:Nat)(h:i<696)(a:¬(321<=i/\i<=375)):aAc 144115188075855872 85070591730234615865843651857942052864 (pmN i)=true:=by
 have:=da.1 aLR i (fg.2 h);rw[bo a,jl]at this;exact this
theorem aRT (i:Nat)(h:i<696)(a:¬(321<=i/\i<=375)):aAc 72057594037927936 21267647932558653966460912964485513216 (pmN i)=true:=by
 have:=da.1 aLS i (fg.2 h);rw[bo a,jl]at this;exact this
def aEi (i:Nat):Prop:=aR i=0/\aJ i%2=0/\iZ i=pmN i/\dR i=1
instance (i:Nat):Decidable (aEi i):=by unfold aEi;exact inferInstance
theorem aOM:((List.range 28).all fun j=>decide (aEi (348+j)))=true:=by kernel_rfl
theorem aQF (i:Nat)(a:348<=i)(b:i<=375):aEi i:=by
 have:=br (da.1 aOM (i-348) (fg.2 (by omega)));rwa[show 348+(i-348)=i by omega]at this
theorem aFp (x i s:Nat)(a:348<=i)(b:i<=375):rY x (pmN i) s (iZ i) (dR i):=by
 obtain⟨c,d,e3,e4⟩:=aQF i a b;rw[e3,e4];intro hi f a b;have e:pmN i=aJ i*18446744073709551616:=by{unfold pmN;rw[c];omega};rw[e,<-ag]at a b ⊢;have ev:x*aJ i%2=0:=by{rw[t7,d];simp};generalize x*aJ i=q at *;omega
def aEh (i:Nat):Prop:=iZ i%(340282366920938463463374607431768211456*2^(348-i))=0/\(340282366920938463463374607431768211456*dR i)%(340282366920938463463374607431768211456*2^(348-i))=0/\36893488147419103232*dR i<=340282366920938463463374607431768211456*2^(348-i)
instance (i:Nat):Decidable (aEh i):=by unfold aEh;exact inferInstance
theorem aOy:((List.range 27).all fun j=>decide (aEh (321+j)))=true:=by kernel_rfl
theorem aQy (i:Nat)(a:321<=i)(b:i<348):aEh i:=by
 have:=br (da.1 aOy (i-321) (fg.2 (by omega)));rwa[show 321+(i-321)=i by omega]at this
theorem aKD (c a b m:Nat)(f:a%c=0)(g:b%c=0)(h:a<=b+m)(i:b<a+2*m+c)(l:a<=b+m)(j:m<c)(k:b<a+c):a=b:=by
 obtain⟨p,rfl⟩:=tz f;obtain⟨q,rfl⟩:=tz g;have d:c*p<c*(q+1):=by{rw[fv];omega};have e:c*q<c*(p+1):=by{rw[fv];omega};have:=qj d;have:=qj e;have:p=q:=by{omega};rw[this]
theorem aMm (x i s:Nat)(j:0<x)(hx:x<18446744073709551616)(g:321<=i)(h:i<348):rY x (pmN i) s (iZ i) (dR i):=by
 obtain⟨m,n,w⟩:=aQy i g h;obtain⟨_,_,_,o,p,_⟩:=vH i (by omega);have u:=wR i;intro hi t d e;have x1:x*iZ i<=x*pmN i*dR i:=by{rw[ag];exact fe _ o};have x2:x*pmN i*dR i<x*iZ i+x*dR i:=by{rw[ag,<-fv];exact v8 p j};have q:=ap (dR i) e;have r:=ap (dR i) (b6 d);rw[ba]at q r;have y:x*dR i<=18446744073709551615*dR i:=ap _ (by omega);have k:x*iZ i%(340282366920938463463374607431768211456*2^(348-i))=0:=by{rw[t7,m];simp};have l:hi*340282366920938463463374607431768211456*dR i%(340282366920938463463374607431768211456*2^(348-i))=0:=by{rw[ag,t7,n];simp};have v:0<340282366920938463463374607431768211456*2^(348-i):=cf (by decide) (ar _);generalize 340282366920938463463374607431768211456*2^(348-i)=G' at *;generalize hi*340282366920938463463374607431768211456*dR i=b at *;generalize x*pmN i*dR i=c at *;generalize x*iZ i=a at *;generalize x*dR i=f at *;generalize dR i=dd at *;exact aKD G' a b (18446744073709551616*dd) k l (by omega) (by omega) (by omega) (by omega) (by omega)
theorem aFn (x i s:Nat)(hi:i<696)(f:0<x)(hx:x<18446744073709551616)(h:(5<=s/\x%128=0)\/(4<=s/\x%256=0)):rY x (pmN i) s (iZ i) (dR i):=by
 by_cases a:321<=i/\i<=375;{by_cases d:i<348;{exact aMm x i s f hx a.1 d};{exact aFp x i s (by omega) a.2}};{rcases h with⟨b,c⟩|⟨b,c⟩;{have e:x=128*(x / 128):=by{omega};rw[e];exact aFo 128 144115188075855872 85070591730234615865843651857942052864 _ 5 s _ _ _ (by decide) (by decide) b (aRS i hi a) (by omega) (by omega)};{have e:x=256*(x / 256):=by{omega};rw[e];exact aFo 256 72057594037927936 21267647932558653966460912964485513216 _ 4 s _ _ _ (by decide) (by decide) b (aRT i hi a) (by omega) (by omega)}}
theorem tZ (A B a B':Nat)(d:0<B)(e:0<B')(h:A*B'=a*B):unr A B=unr a B':=by
 have j:∀k,(k*B<=2*A↔k*B'<=2*a)/\(2*A<=k*B↔2*a<=k*B'):=by{intro k;have b:k*B*B'=k*B'*B:=by{ac_rfl};have c:2*A*B'=2*a*B:=by{rw[ag,h,ag]};refine⟨⟨fun g=>?_,fun g=>?_⟩,⟨fun g=>?_,fun g=>?_⟩⟩;{refine dh ?_ d;rw[<-b,<-c];exact ap _ g};{refine dh ?_ e;rw[b,c];exact ap _ g};{refine dh ?_ d;rw[<-b,<-c];exact ap _ g};{refine dh ?_ e;rw[b,c];exact ap _ g}};have l:=fun k=>fX A B k d;have m:=fun k=>fX a B' k e;have n:=fun k=>fI A B k d;have o:=fun k=>fI a B' k e;generalize unr A B=u at *;generalize unr a B'=v at *;have f:∀k,2*k<=u↔2*k<=v:=fun k=>by{rw[l,m,(j k).1]};have i:∀k,u<=2*k↔v<=2*k:=fun k=>by{rw[n,o,(j k).2]};have:=f (u / 2);have:=f (v / 2);have:=i (u / 2);have:=i (v / 2);have:=f (u / 2+1);omega
theorem aDN (x i s:Nat)(e:Int)(hi:i<696)(d:0<x)(hx:x<18446744073709551616)(m:-(e+lpI i+3)=s)(h:rY x (pmN i) s (iZ i) (dR i)) :
  cJ x (aJ i) (aR i) s=unr (x*10^(i-348)*2^e.toNat) (10^(348-i)*2^(-e).toNat):=by
 obtain⟨f,g,j,k,l,n⟩:=vH i hi;have c:pmN i+aR i=aJ i*18446744073709551616:=by{unfold pmN;have:1*18446744073709551616<=aJ i*18446744073709551616:=ap _ j;omega};rw[aK5 x (aJ i) (aR i) s (pmN i) (iZ i) (dR i) d hx f g (wR i) c k l h];refine tZ _ _ _ _ (cf (by decide) (cf (wR i) (cf (ar _) (by decide)))) (cf (b7 (by decide)) (ar _)) ?_;unfold iZ dR;have a:2^(127-lpI i).toNat*2^(-e).toNat=2^e.toNat*(2^2*(2^(lpI i-127).toNat*(2^s*2^128))):=by{rw[<-aj,<-aj,<-aj,<-aj,<-aj];congr 1;omega};have b:(2:Nat)^2=4:=by{decide};have e3:(2:Nat)^128=340282366920938463463374607431768211456:=by{decide};rw[b,e3]at a;generalize (2:Nat)^(127-lpI i).toNat=a1 at *;generalize (2:Nat)^(-e).toNat=a2 at *;generalize (2:Nat)^e.toNat=a3 at *;generalize (2:Nat)^(lpI i-127).toNat=a4 at *;generalize (2:Nat)^s=a5 at *;generalize (10:Nat)^(i-348)=b1 at *;generalize (10:Nat)^(348-i)=b2 at *;generalize 340282366920938463463374607431768211456=P at *
 calc x*(b1*a1)*(b2*a2)=x*b1*b2*(a1*a2):=by ac_rfl
  _=x*b1*b2*(a3*(4*(a4*(a5*P)))):=by rw[a]
  _=x*b1*a3*(4*(b2*a4*(a5*P))):=by ac_rfl
def bC (d i:Nat):Nat:=d*10^(i-348)*2^1074
def aG (i:Nat):Nat:=10^(348-i)
theorem dX (i:Nat):0<aG i:=b7 (by decide)
theorem aFC (i:Nat):∃ α β : Nat,(α : Int)-β = 127-lpI i/\iZ i=10^(i-348)*2^α /\ dR i=aG i*2^β :=
 ⟨(127-lpI i).toNat,(lpI i-127).toNat,by omega,rfl,rfl⟩
theorem aGV (a b c z:Nat):a*b*z*c=a*(b*c)*z:=by ac_rfl
theorem aLh (a b c z:Nat):2*(a*b*z)*c=2*(a*(b*c)*z):=by ac_rfl
theorem aKU (d i b K:Nat)(hi:i<696)(p:1<=b)(h:2^(b-1)<=d)(o:(K:Int)=1021+b+lpI i):4503599627370496*(aG i*2^K)<=bC d i:=by
 obtain⟨a,_⟩:=aCj i hi;obtain⟨α,β,n,j,k⟩:=aFC i;rw[j,k]at a;refine dh (c:=2^α) ?_ (ar _);unfold bC;have g:4503599627370496=2^52:=by{decide};have f:170141183460469231731687303715884105728=2^127:=by{decide};rw[f]at a
 have m:=ap (2^1074) (gv h a);have l:4503599627370496*(aG i*2^K)*2^α = 2^(b-1)*(2^127*(aG i*2^β))*2^1074:=by
  have e:2^52*2^K*2^α = 2^(b-1)*2^127*2^β * 2^1074:=by{obtain ⟨zz,hzz⟩:∃zz,1074=zz:=⟨_,rfl⟩;rw[hzz];rw[<-aj,<-aj,<-aj,<-aj,<-aj];congr 1;omega};rw[g]
  calc 2^52*(aG i*2^K)*2^α = aG i*(2^52*2^K*2^α):=by ac_rfl
   _=aG i*(2^(b-1)*2^127*2^β * 2^1074):=by rw[e]
   _=_:=by generalize (2:Nat)^1074=z;ac_rfl
 rw[l];refine bg m (kj ?_);exact(aGV _ _ _ _).symm
theorem aQR (d i b K:Nat)(hi:i<696)(g:d<2^b)(n:1021+b+lpI i<=(K:Int)):bC d i<=18014398509481980*(aG i*2^K):=by
 obtain⟨_,a⟩:=aCj i hi;obtain⟨α,β,k,h,j⟩:=aFC i;rw[h,j]at a;refine dh (c:=2^α) ?_ (ar _);unfold bC;have f:340282366920938387905510881517444792320=18014398509481980*2^74:=by{decide};rw[f]at a
 have m:=ap (2^1074) (gv (b6 g) a);have l:2^b*(18014398509481980*2^74*(aG i*2^β))*2^1074<=18014398509481980*(aG i*2^K)*2^α := by
  have e:2^b*2^74*2^β * 2^1074<=2^K*2^α := by{obtain ⟨zz,hzz⟩:∃zz,1074=zz:=⟨_,rfl⟩;rw[hzz];rw[<-aj,<-aj,<-aj,<-aj];refine b8 (by decide) ?_;omega}
  calc 2^b*(18014398509481980*2^74*(aG i*2^β))*2^1074=18014398509481980*aG i*(2^b*2^74*2^β * 2^1074):=by generalize (2:Nat)^1074=z;ac_rfl
   _<=18014398509481980*aG i*(2^K*2^α):=fe _ e
   _=_:=by ac_rfl
 refine bg (kj ?_) (bg m l);exact aGV _ _ _ _
theorem aPq (d i b:Nat)(hi:i<696)(f:d<2^b)(h:(b:Int)+lpI i<=-1077):2*bC d i<=aG i:=by
 obtain⟨_,a⟩:=aCj i hi;obtain⟨α,β,o,g,j⟩:=aFC i;rw[g,j]at a
 refine dh (c:=2^α) ?_ (ar _);unfold bC;have n:10^(i-348)*2^α <= 2^128*(aG i*2^β):=bg a (ap _ (by decide));have m:=ap (2^1074) (gv (b6 f) n);have l:2*(2^b*(2^128*(aG i*2^β))*2^1074)<=aG i*2^α := by
  have e:2*(2^b*2^128*2^β * 2^1074)<=2^α := by{obtain ⟨zz,hzz⟩:∃zz,1074=zz:=⟨_,rfl⟩;rw[hzz];rw[<-aj,<-aj,<-aj,bn,<-bz];refine b8 (by decide) ?_;omega}
  calc 2*(2^b*(2^128*(aG i*2^β))*2^1074)=aG i*(2*(2^b*2^128*2^β * 2^1074)):=by generalize (2:Nat)^1074=z;ac_rfl
   _<=aG i*2^α := fe _ e
 have k:=fe 2 m;refine bg (kj ?_) (bg k l);exact aLh _ _ _ _
theorem aJ9 (d i b s K:Nat)(e:Int)(hi:i<696)(hd:1<=d)(c:d<2^b)(h:b<=64)(j:e=1074-K)(g:-(e-(64-b)+lpI i+3)=s)(f:rY (d*2^(64-b)) (pmN i) s (iZ i) (dR i)) :
  cJ (d*2^(64-b)) (aJ i) (aR i) s=unr (bC d i) (aG i*2^K):=by
 have hx:d*2^(64-b)<18446744073709551616:=by{have:d*2^(64-b)<2^b*2^(64-b):=di c (ar _);rw[<-aj,show b+(64-b)=64 by omega]at this;exact this};rw[aDN (d*2^(64-b)) i s (e-(64-b)) hi (cf hd (ar _)) hx g f];refine tZ _ _ _ _ (cf (b7 (by decide)) (ar _)) (cf (dX i) (ar _)) ?_;unfold bC aG;have a:2^(64-b)*2^(e-(64-(b:Int))).toNat*2^K=2^1074*2^(-(e-(64-(b:Int)))).toNat:=by{obtain ⟨zz,hzz⟩:∃zz,1074=zz:=⟨_,rfl⟩;rw[hzz];rw[<-aj,<-aj,<-aj];congr 1;omega};generalize (2:Nat)^1074=z at *;generalize (2:Nat)^(64-b)=a1 at *;generalize (2:Nat)^K=a2 at *;generalize (2:Nat)^(e-(64-(b:Int))).toNat=a3 at *;generalize (2:Nat)^(-(e-(64-(b:Int)))).toNat=a4 at *;generalize (10:Nat)^(i-348)=b1 at *;generalize (10:Nat)^(348-i)=b2 at *
 calc d*a1*b1*a3*(b2*a2)=d*b1*b2*(a1*a3*a2):=by ac_rfl
  _=d*b1*b2*(z*a4):=by rw[a]
  _=d*b1*z*(b2*a4):=by ac_rfl
def bP (b i:Nat):Nat:=(1074-min 1074 (53-(b:Int)-lpI i)).toNat
def fJ (b i:Nat):Int:=-(min 1074 (53-(b:Int)-lpI i)-(64-b)+lpI i+3)
def bA (u:Nat):Nat:=(u+1+u / 4%2) / 4
def bU (u:Nat):Nat:=if 36028797018963966<=u then u / 2 ||| u%2 else u
def gO (u:Nat):Nat:=if 36028797018963966<=u then 1 else 0
theorem aFw (d i b:Nat)(hi:i<696)(y:1<=b)(t:2^(b-1)<=d)(x:d<2^b)(K:b<=64)(s:Nat)(B:fJ b i=s)
  (J:rY (d*2^(64-b)) (pmN i) s (iZ i) (dR i)) (u:Nat) (M:cJ (d*2^(64-b)) (aJ i) (aR i) s=u) :
  u<72057594037927936/\bA (bU u)<9007199254740992/\(4503599627370496<=bA (bU u)\/bP b i+gO u=0)/\bI (bC d i) (aG i) (min ((bP b i+gO u)*4503599627370496+bA (bU u)) aL):=by
 have hd:1<=d:=bg (ar _) t;have E:min 1074 (53-(b:Int)-lpI i)=1074-(bP b i:Int):=by{unfold bP;omega};have eu:=aJ9 d i b s (bP b i) (min 1074 (53-(b:Int)-lpI i)) hi hd x K E (by unfold fJ at B;exact B) J;rw[M]at eu;have D:=dX i;have m:0<aG i*2^bP b i:=cf D (ar _);have F:1021+(b:Int)+lpI i<=bP b i:=by{omega};have N:=aQR d i b (bP b i) hi x F;have r:=fun k=>fX (bC d i) (aG i*2^bP b i) k m;have C:=fun k=>fI (bC d i) (aG i*2^bP b i) k m;rw[<-eu]at r C
 have u1:u<=72057594037927920:=by
  have:=(C 36028797018963960).2 (by
   have:36028797018963960*(aG i*2^bP b i)=2*(18014398509481980*(aG i*2^bP b i)):=by rw[<-ag 2]
   omega)
  omega
 have lo:bP b i≠0->18014398509481984<=u:=by
  intro h;have v:(bP b i:Int)=1021+b+lpI i:=by omega
  have:=aKU d i b (bP b i) hi y t v;have:=(r 9007199254740992).2 (by
   have:9007199254740992*(aG i*2^bP b i)=2*(4503599627370496*(aG i*2^bP b i)):=by rw[<-ag 2]
   omega)
  omega
 refine⟨by omega,?_⟩;by_cases c:36028797018963966<=u
 ·have q:bU u=unr (bC d i) (2*(aG i*2^bP b i)):=by{unfold bU;rw[af c,aNb _ _ m,<-eu]};have eck:gO u=1:=by{unfold gO;rw[af c]};have L:bU u=if u%2=0 then u / 2 else 2*(u / 4)+1:=by{unfold bU;rw[af c];split;{rename_i h;rw[h,jo]};{rename_i h;rw[show u%2=1 by omega,sQ,rf]}}
  have v1:18014398509481983<=bU u/\bU u<=36028797018963962:=by{rw[L];split<;>omega};have f:4503599627370496<=bA (bU u)/\bA (bU u)<9007199254740992:=by{unfold bA;have:bU u=18014398509481983\/18014398509481984<=bU u:=by{omega};rcases this with h|h;{rw[h];decide};{omega}};refine⟨f.2,.inl f.1,?_⟩;rw[eck];obtain⟨⟨g,l⟩,q3,a⟩:=qL (bC d i) (2*(aG i*2^bP b i)) _ (by omega) (show bA (unr (bC d i) (2*(aG i*2^bP b i)))=bA (bU u) by rw[q]);have o:∀n,n*(2*(aG i*2^bP b i))=n*2^(bP b i+1)*aG i:=fun n=>by{rw[bz];ac_rfl};have p:2*(aG i*2^bP b i)=2^(bP b i+1)*aG i:=by{rw[bz];ac_rfl};rw[o]at g l q3 a;rw[p]at q3 a;refine aAi _ _ _ _ f.2 (.inl f.1) ⟨g,l⟩ (fun _=>⟨q3,a⟩) ?_;intro j A w;obtain rfl:j=bP b i:=by{omega};have:=(r 18014398509481983).1 (by omega);rw[w];have e:4*4503599627370496*2^bP b i*aG i=18014398509481983*(aG i*2^bP b i)+2^bP b i*aG i:=by{rw[bn (aG i),ag];generalize 2^bP b i*aG i=z;omega};omega
 {have q:bU u=u:=by{unfold bU;rw[ae c]};have eck:gO u=0:=by{unfold gO;rw[ae c]};rw[q,eck,gw];have f:bA u<9007199254740992:=by{unfold bA;omega};have r2:4503599627370496<=bA u\/bP b i=0:=by{by_cases h:bP b i=0;{exact .inr h};{have:=lo h;left;unfold bA;omega}};refine⟨f,r2,?_⟩;obtain⟨⟨g,l⟩,q3,a⟩:=qL (bC d i) (aG i*2^bP b i) _ m (show bA (unr (bC d i) (aG i*2^bP b i))=bA u by rw[<-eu]);have o:∀n,n*(aG i*2^bP b i)=n*2^bP b i*aG i:=fun n=>by{ac_rfl};have p:aG i*2^bP b i=2^bP b i*aG i:=by{ac_rfl};rw[o]at g l q3 a;rw[p]at q3 a;refine aAi _ _ _ _ f r2 ⟨g,l⟩ (fun _=>⟨q3,a⟩) ?_;intro j A w;rw[w];have v:(bP b i:Int)=1021+b+lpI i:=by{omega};have:=aKU d i b (bP b i) hi y t v;have e:4*4503599627370496*2^j*aG i=2*(4503599627370496*(aG i*2^bP b i)):=by{rw[A,bz];generalize 2^j=z;have:4503599627370496*(aG i*(z*2))=2*(4503599627370496*z*aG i):=by{ac_rfl};rw[this,ag 4,ag 4];omega};omega}
theorem aDu (d i b:Nat)(hi:i<696)(a:d<2^b)(h:64<=fJ b i):bI (bC d i) (aG i) 0:=by
 have c:(b:Int)+lpI i<=-1077:=by{unfold fJ at h;omega};have:=aPq d i b hi a c;refine⟨bb _,fun q hq=>by omega,fun _=>⟨?_,fun h=>by omega⟩⟩;have e:aP 0+aP (0+1)=1:=by{decide};rw[e,cr];exact this
theorem aAD (d i b s:Nat)(hi:i<696)(hd:1<=d)(a:d<2^b)(j:b<=64)(g:fJ b i=s)(h:b<=57\/(348<=i/\i<=375)):rY (d*2^(64-b)) (pmN i) s (iZ i) (dR i):=by
 have hx:d*2^(64-b)<18446744073709551616:=by{have:d*2^(64-b)<2^b*2^(64-b):=di a (ar _);rw[<-aj,show b+(64-b)=64 by omega]at this;exact this};rcases h with h|⟨c,f⟩;{refine aFn _ i s hi (cf hd (ar _)) hx (.inl ⟨?_,?_⟩);{unfold fJ at g;omega};{have e:2^(64-b)=2^(57-b)*128:=by{rw[show(128:Nat)=2^7 from rfl,<-aj];congr 1;omega};rw[e,<-ag];exact qm _ _}};{exact aFp _ i s c f}
