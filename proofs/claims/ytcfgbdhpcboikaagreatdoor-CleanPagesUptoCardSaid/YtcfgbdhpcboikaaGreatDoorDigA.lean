/-
Which digits the document finds: an interval, the point in it, powers of ten. No program in sight.
-/
import Derived.Test.YtcfgbdhpcboikaaGreatDoorShortB
namespace Go.Proofs.YtcfgbdhpcboikaaGreatDoor
def nD (W B d:Nat):Prop :=
 (W<=(2*d+1)*B/\(d%2=1->W<(2*d+1)*B))/\((2*d)*B<=W+B/\(d%2=1->(2*d)*B<W+B))
theorem aO6 (W B d e:Nat)(s:0<B)(g:nD W B d)(i:nD W B e):d=e:=by
 have q:∀a b:Nat,nD W B a->nD W B b->¬a<b:=by{intro a b n p t;have c:(2*a+1)*B=2*(a*B)+B:=by{rw[bb,da,af]};have f:2*b*B=2*(b*B):=af _ _ _;have r:=n.1.1;have j:=p.2.1;rw[c]at r;rw[f]at j;rcases ak (a+1) b with h|h;{have:=au B (show a+2<=b by omega);rw[bb]at this;omega};{obtain rfl:b=a+1:=by{omega};have e3:(a+1)*B=a*B+B:=by{rw[bb,da]};rw[e3]at j;have k:=n.1.2;have l:=p.2.2;rw[c]at k;rw[f,e3]at l;rcases rx a with m|m;{have:=l (by omega);omega};{have:=k m;omega}}};have a:=q d e g i;have b:=q e d i g;omega
structure Iv (W Vl Vh B:Nat) (o:Prop) (R:Nat->Prop):Prop where
 iff:∀a,R a↔(W<=2*(a*B)+Vl/\(o->W<2*(a*B)+Vl))/\(2*(a*B)<=W+Vh/\(o->2*(a*B)<W+Vh))
 pos:0<B
 vl:0<Vl
 vh:Vl<=Vh
section
variable {W Vl Vh B:Nat} {o:Prop} {R:Nat->Prop}
theorem aH5 (f:Iv W Vl Vh B o R){a b c:Nat}(d:R a)(e:R b)(g:a<=c)(i:c<=b):R c:=by
 rw[f.iff]at d e ⊢;have j:=au B g;have k:=au B i;exact⟨⟨by omega,fun h=>by have:=d.1.2 h;omega⟩,by omega,fun h=>by have:=e.2.2 h;omega⟩
theorem aOo (a:Iv W Vl Vh B o R){b c:Nat}(d:R b)(f:W<=2*(c*B))(e:c<=b):R c:=by
 have:=a.vl;rw[a.iff]at d ⊢;have g:=au B e;exact⟨⟨by omega,fun h=>by omega⟩,by omega,fun h=>by have:=d.2.2 h;omega⟩
theorem aOm (b:Iv W Vl Vh B o R){a c:Nat}(d:R a)(f:2*(c*B)<=W)(e:a<=c):R c:=by
 have:=b.vl;have:=b.vh;rw[b.iff]at d ⊢;have g:=au B e;exact⟨⟨by omega,fun h=>by have:=d.1.2 h;omega⟩,by omega,fun h=>by omega⟩
theorem aKM (b:Iv W Vl Vh B o R){a c:Nat}(d:R a)(e:W<=2*(c*B))(f:2*(c*B)+2*(a*B)<=2*W):R c:=by
 have:=b.vl;have:=b.vh;rw[b.iff]at d ⊢;exact⟨⟨by omega,fun h=>by omega⟩,by omega,fun h=>by have:=d.1.2 h;omega⟩
structure Sh (W B:Nat) (R:Nat->Prop) (d j t D N:Nat):Prop where
 val:D*10^t=d
 lo:10^(N-1)<=D
 hi:D<10^N
 one:1<=N
 odd:D%10≠0
 rn:R (d*10^j)
 pick:(∀a,R (a*10^j)->a=d) \/
  (t=0/\(∀a,¬R (a*10^(j+1)))/\nD W (10^j*B) d)
theorem eW (n:Nat):0<10^n:=b7 (by decide)
theorem lR {a b:Nat}(h:a<=b):10^a<=10^b:=cc (by decide) h
theorem gD (n:Nat):10^(n+1)=10*10^n:=by rw[bz,bo]
theorem kZ {a b:Nat}(h:a<=b):10^b=10^(b-a)*10^a:=by rw[<-ap];congr 1;omega
theorem aGL (l:Iv W Vl Vh B o R){d j t D N:Nat}(S:Sh W B R d j t D N)(c n jc:Nat)(x:1<=c)(r:c<10^n)(z:n<N):¬R (c*10^jc):=by
 intro i;have n1:1<=n:=kr fun h=>by{subst h;omega};have q:c<10^(N-1):=cf r (lR (by omega));have p:10^(N-1)=10*10^(N-2):=by{rw[<-gD];congr 1;omega};have w:=eW (N-2);have v:=S.lo;have y:D<=d:=by{rw[<-S.val];exact nr _ (eW t)};rcases S.pick with m|⟨A,E,_⟩;{rcases ak jc j with b|b;{have s:c*10^jc<=(d-1)*10^j:=by{have e:=kZ (show jc+1<=j from b);have k:=gD jc;have a:c*10^jc<=10^(N-1)*10^jc:=au _ (b9 q);have f:10^(N-2)*10^(jc+1)<=(d-1)*10^(jc+1):=au _ (by omega);have g:(d-1)*10^(jc+1)<=(d-1)*10^j:=fm _ (lR b);have u:10^(N-1)*10^jc=10^(N-2)*10^(jc+1):=by{rw[p,k,bo 10 (10^(N-2)),af]};omega};have:=m _ (aH5 l i S.rn s (au _ (by omega)));omega};{have e:=kZ b;rw[e,<-af]at i;have a:=m _ i;rw[<-S.val]at a;rcases ak (jc-j) t with h|h;{have k:=kZ (b9 h);rw[k,<-af]at a;have f:=ry (eW _) a;have:D<=D*10^(t-(jc-j)):=nr _ (eW _);omega};{have k:=kZ h;rw[k,<-af]at a;have f:=ry (eW _) a;rcases Nat.eq_or_lt_of_le h with g|g;{rw[g,li,fg,du]at f;omega};{have e3:10^(jc-j-t)=10*10^(jc-j-t-1):=by{rw[<-gD];congr 1;omega};rw[e3,cx]at f;exact S.odd (by omega)}}}};{rcases ak j jc with b|b;{have e:=kZ (show j+1<=jc from b);rw[e,<-af]at i;exact E _ i};{have a:c*10^jc<=10^(N-1)*10^j:=ia (b9 q) (lR b);have f:10^(N-1)*10^j<=d*10^j:=au _ (by omega);have g:=aH5 l i S.rn a f;have e:10^(N-1)*10^j=10^(N-2)*10^(j+1):=by{rw[p,gD,bo 10 (10^(N-2)),af]};rw[e]at g;exact E _ g}}
structure Fx (W B n m s:Nat):Prop where
 lo:10^(n-1)<=m
 hi:m<10^n
 one:1<=n
 ev:nD W (10^s*B) m
 low:20*(10^(n-1)*10^s*B)<=10*W+10^s*B
theorem Fx.up {n m s:Nat}(F:Fx W B n m s):W<=2*(m*10^s*B)+10^s*B:=by
 have:=F.ev.1.1;rw[bb,da,af 2 m,<-af m]at this;exact this
theorem Fx.dn {n m s:Nat}(F:Fx W B n m s):2*(m*10^s*B)<=W+10^s*B:=by
 have:=F.ev.2.1;rw[af 2 m,<-af m]at this;exact this
def aMf (W B:Nat)(R:Nat->Prop):Prop:=∀s,R (10^(s+1))->W<=19*(10^s*B)->False
theorem aNP {d j t D N:Nat}(S:Sh W B R d j t D N)(p:Nat)(e:j+t<p)(a:R (10^p))(c:D*10^(j+t)<10^p):False:=by
 rcases S.pick with b|⟨f,E,_⟩;{rw[kZ (show j<=p by omega)]at a;have h1:=b _ a;rw[kZ (show j<=p by omega),h1,<-S.val,ap,bo (10^j),<-af]at c;omega};{rw[kZ (show j+1<=p by omega)]at a;exact E _ a}
theorem aNO (a:Iv W Vl Vh B o R)(T:aMf W B R){d j t D N m s:Nat}(S:Sh W B R d j t D N)(F:Fx W B N m s):s=j+t:=by
 have hd:d*10^j=D*10^(j+t):=by{rw[<-S.val,ap,bo (10^j),<-af]};have f:=S.rn;rw[hd]at f;have l:10^N=10*10^(N-1):=by{rw[<-gD];congr 1;have:=S.one;omega};have w:=S.lo;have k:=S.hi;have A:=a.pos;have z:=F.hi;have r:=F.up;rcases jh s (j+t)with h|h|h;{exfalso;have c:10^(N+s)<=D*10^(j+t):=by{have e:10^(N+s)=10^(N-1)*10^(s+1):=by{rw[<-ap];congr 1;have:=S.one;omega};rw[e];exact ia w (lR h)};have q:W<=2*(10^(N+s)*B):=by{have e:10^(N+s)*B=10^N*(10^s*B):=by{rw[ap,af]};have b:=au (10^s*B) (show m+1<=10^N from z);rw[bb]at b;rw[af m]at r;rw[e];omega};have g:=aOo a f q c;rcases ak 1 N with n|n;{exact aGL a S 1 1 (N+s) (by decide) (by decide) n (by rw[da];exact g)};{have u:N=1:=by{have:=S.one;omega};subst u;have y:1+s=s+1:=by{omega};rw[y]at g c q;have x:W<=19*(10^s*B):=by{have b:=au (10^s*B) (show m<=9 by omega);rw[af m]at r;omega};exact T s g x}};{exact h};{exfalso;have c:D*10^(j+t)<10^(N-1+s):=by{have b:=d7 k (eW (j+t));have e:10^N*10^(j+t)=10^(N-1)*10^(j+t+1):=by{rw[l,gD,bo 10 (10^(N-1)),af]};have C:=fm (10^(N-1)) (lR (show j+t+1<=s from h));rw[ap 10 (N-1) s];omega};refine aNP S (N-1+s) (by omega) ?_ c;rcases ak (2*(10^(N-1+s)*B)) W with hx|hx;{exact aOm a f (b9 hx) (b9 c)};{refine aKM a f hx ?_;have low:=F.low;rw[<-ap]at low;obtain⟨Q,p⟩:∃Q,10^(s-1)*B=Q:=⟨_,rfl⟩;have i:10^s*B=10*Q:=by{rw[<-p,<-af,<-gD];congr 2;omega};have v:10^(N-1+s)*B=10^N*Q:=by{rw[ap,af,i,l];rw[cx,af]};have E:D*10^(j+t)*B<=D*Q:=by{rw[af,<-p];exact fm _ (au _ (lR (by omega)))};have b:=au Q (show D+1<=10^N from k);rw[bb,da]at b;rw[i]at low;rw[v]at low ⊢;omega}}
theorem aNN (e:Iv W Vl Vh B o R)(T:aMf W B R){d j t D N m s:Nat}(S:Sh W B R d j t D N)(F:Fx W B N m s) :
  s=j+t/\((m=D)\/(¬R (m*10^s)/\m+1=D)\/(¬R (m*10^s)/\¬R ((m+1)*10^s)/\m=D+1)):=by
 have f:=aNO e T S F;refine⟨f,?_⟩;have hd:d*10^j=D*10^s:=by{rw[<-S.val,f,ap,bo (10^j),<-af]};have g:=S.rn;rw[hd]at g;rcases S.pick with r|⟨t0,E,q⟩;{have c:∀a,R (a*10^s)->a=D:=by{intro a n;rw[f,ju,ap,<-af]at n;have l:=r _ n;rw[<-S.val]at l;exact ry (eW t) l};rcases jh m D with h|h|h;{have i:R ((m+1)*10^s):=by{refine aOo e g ?_ (au _ h);have:=F.up;rw[bb,da,bb];omega};exact .inr (.inl ⟨fun b=>by have:=c _ b;omega,c _ i⟩)};{exact .inl h};{obtain⟨k,rfl⟩:∃k,m=k+1:=⟨m-1,by omega⟩;have i:R (k*10^s):=by{refine aOm e g ?_ (au _ (by omega));have:=F.dn;rw[bb,da,bb]at this;omega};exact .inr (.inr ⟨fun b=>by have:=c _ b;omega,fun b=>by have:=c _ b;omega,by have:=c _ i;omega⟩)}};{have p:=F.ev;rw[f,t0,il]at p;have:=aO6 _ _ _ _ (cn (eW j) e.pos) p q;have b:=S.val;rw[t0,fg,du]at b;exact .inl (by omega)}
end
structure aIs (dmin dmax dm:Nat):Prop where
 ne:dmin<=dmax
 mid:dmin<dmax->dmin<=dm/\dm<=dmax
 wide:dmax<dmin+10
theorem aNv (U' V M c dmax dm:Nat)(k:U'<=V)(l:V<10*U')
  (f:∀n,c<=n↔2*M*V<=2*n*U'+V/\(M%2=1->2*M*V<2*n*U'+V))
  (e:∀n,n<=dmax↔2*n*U'<=(2*M+1)*V/\(M%2=1->2*n*U'<(2*M+1)*V))
  (i:2*M*V<=2*dm*U'+U') (j:2*dm*U'<=2*M*V+U'):aIs c dmax dm:=by
 have m:0<U':=by{omega};have d:(2*M+1)*V=2*M*V+V:=by rw[bb,da]
 have g:c<=dm/\dm<=dmax:=by
  rw[f,e,d];rcases ak U' V with h|h;{exact⟨⟨by omega,fun _=>by omega⟩,by omega,fun _=>by omega⟩}
  ·obtain rfl:U'=V:=by omega
   exact⟨⟨by omega,fun _=>by
    have:2*M*U'<2*(dm+1)*U':=by rw[f8 2,bb];omega
    have:=gq this;have:2*M*U'<=2*dm*U':=au _ (by omega);omega⟩,by omega,fun _=>by
    have:2*dm*U'<2*(M+1)*U':=by rw[f8 2,bb];omega
    have:=gq this;have:2*dm*U'<=2*M*U':=au _ (by omega);omega⟩
 refine⟨by omega,fun _=>g,?_⟩;have a:=((f c).1 (ag _)).1;have b:=((e dmax).1 (ag _)).1;rw[d]at b;have:2*dmax*U'<2*(c+10)*U':=by{rw[f8 2,bb];omega};have:=gq this;omega
theorem aLd (U' V M c dmax dm:Nat)(p:4*U'<=3*V)(q:3*V<40*U')
  (i:∀n,c<=n↔4*M*V<=4*n*U'+V)
  (f:∀n,n<=dmax↔2*n*U'<=(2*M+1)*V)
  (l:2*M*V<=2*dm*U'+U') (m:2*dm*U'<=2*M*V+U'):aIs c dmax dm:=by
 have r:0<U':=by{omega};have d:(2*M+1)*V=2*M*V+V:=by{rw[bb,da]};have e4:4*M*V=2*(2*M*V):=by{rw[<-af,<-af]};have g:∀n,4*n*U'=2*(2*n*U'):=fun n=>by{rw[<-af,<-af]};have ne:c<=dmax:=by{rw[f,d];rcases g7 c with h|h;{rw[h];simp};{obtain⟨n,rfl⟩:∃n,c=n+1:=⟨c-1,by omega⟩;have:¬n+1<=n:=by{omega};rw[i,g]at this;have e:2*(n+1)*U'=2*n*U'+2*U':=by{rw[f8 2,bb]};omega}};refine⟨ne,fun s=>⟨?_,?_⟩,?_⟩;{refine Classical.byContradiction fun k=>?_;have j:¬c<=dm:=k;rw[i,g]at j;have b:=((f (dm+2)).1 (by omega));rw[d,f8 2,bb]at b;omega};{rw[f,d];omega};{have a:=((i c).1 (ag _));have b:=((f dmax).1 (ag _));rw[d]at b;rw[g]at a;have:2*dmax*U'<2*(c+10)*U':=by{rw[f8 2,bb];omega};have:=gq this;omega}
theorem aI2 (c e f:Nat)(p:Int)(h:aIs c e f)(g:1<=c) :
  (∃d,bX c e f p=(d,-(p-1))/\1<=d/\c<=10*d/\10*d<=e/\(∀n,c<=10*n->10*n<=e->n=d)) \/
  (∃d,bX c e f p=(d,-p)/\1<=d/\c<=d/\d<=e/\(∀n,c<=10*n->10*n<=e->False)/\((∀n,c<=n->n<=e->n=d)\/d=f)):=by
 have w:=h.wide;have n1:=h.ne;unfold bX;by_cases c1:c<=e / 10*10;{rw[ae c1];exact .inl ⟨_,rfl,by omega,by omega,by omega,fun n a b=>by omega⟩};{rw[ac c1];by_cases c2:c<e;{rw[ae c2];obtain⟨m1,m2⟩:=h.mid c2;exact .inr ⟨_,rfl,by omega,m1,m2,fun n a b=>by omega,.inr rfl⟩};{rw[ac c2];exact .inr ⟨_,rfl,by omega,by omega,by omega,fun n a b=>by omega,.inl fun n a b=>by omega⟩}}
def sU (i:Nat):Nat:=10^(348-i)*2^1074
def sV (k i:Nat):Nat:=2^k*10^(i-348)
theorem aDh (i:Nat):0<sU i:=cn (b7 (by decide)) (ay 1074)
theorem mR (a j k i s z t:Nat)(e:Int)(hi:i<696)(b:0<a)(hx:a*2^j<18446744073709551616)(n:j+t=z)(m:e=(k:Int)-1074-z)(l:-(e+lpI i+3)=s)(f:5<=s/\7<=j\/4<=s/\8<=j) :
  cZ (a*2^j) (aN i) (aX i) s=unr (a*sV k i) (sU i*2^t):=by
 have g:tU (a*2^j) (pmN i) s (kG i) (eS i):=by{have e:∀c,c<=j->a*2^j%2^c=0:=fun c h=>by{rw[show 2^j=2^(j-c)*2^c by rw[<-ap];congr 1;omega,<-af];exact qx _ _};exact aGh _ i s hi (cn b (ay _)) hx (f.imp (fun h=>⟨h.1,e 7 h.2⟩) (fun h=>⟨h.1,e 8 h.2⟩))};rw[aEM _ i s e hi (cn b (ay _)) hx l g];refine vP _ _ _ _ (cn (b7 (by decide)) (ay _)) (cn (aDh i) (ay _)) ?_;unfold sU sV;have d:2^j*2^e.toNat*2^1074*2^t=2^k*2^(-e).toNat:=by{obtain ⟨zz,hzz⟩:∃zz,1074=zz:=⟨_,rfl⟩;rw[hzz];rw[<-ap,<-ap,<-ap,<-ap];congr 1;omega};generalize (2:Nat)^1074=y at *;generalize (2:Nat)^j=a1 at *;generalize (2:Nat)^k=a2 at *;generalize (2:Nat)^e.toNat=a3 at *;generalize (2:Nat)^(-e).toNat=a4 at *;generalize (2:Nat)^t=a5 at *;generalize (10:Nat)^(i-348)=b1 at *;generalize (10:Nat)^(348-i)=b2 at *
 calc a*a1*b1*a3*(b2*y*a5)=a*b1*b2*(a1*a3*y*a5):=by ac_rfl
  _=a*b1*b2*(a2*a4):=by rw[d]
  _=a*(a2*b1)*(b2*a4):=by ac_rfl
theorem aH7 (a V M b odd f:Nat)(m:0<a)(i:M%2=odd)(j:b=unr ((2*M+1)*V) (a*2^1))(p:odd<=b)(hd:(b-odd) / 4=f)(n:Nat) :
  n<=f↔2*n*a<=(2*M+1)*V/\(M%2=1->2*n*a<(2*M+1)*V):=by
 have g:=fun k=>gV ((2*M+1)*V) (a*2^1) k (by omega);have l:=fun k=>gA ((2*M+1)*V) (a*2^1) k (by omega);rw[<-j]at g l;generalize (2*M+1)*V=A at *;have e:(2*n)*(a*2^1)=2*(2*n*a):=by{rw[Nat.pow_one];ac_rfl};have c:=g (2*n);have d:=l (2*n);rw[e]at c d;generalize 2*n*a=z at *;have:odd=0\/odd=1:=by{omega};rcases this with rfl|rfl;{constructor;{intro h;exact⟨by have:=c.1 (by omega);omega,fun h=>by omega⟩};{rintro⟨h,_⟩;have:=c.2 (by omega);omega}};{constructor;{intro h;have:¬b<=2*(2*n):=by{omega};rw[d]at this;exact⟨by omega,fun _=>by omega⟩};{rintro⟨_,h⟩;have:=h i;have:¬b<=2*(2*n):=by{rw[d];omega};omega}}
theorem aPv (a V M umin odd d:Nat)(p:0<a)(m:1<=M)(i:M%2=odd)(j:umin=unr ((2*M-1)*V) (a*2^1))(hd:(umin+odd+3) / 4=d)(n:Nat) :
  d<=n↔2*M*V<=2*n*a+V/\(M%2=1->2*M*V<2*n*a+V):=by
 have g:=fun k=>gV ((2*M-1)*V) (a*2^1) k (by omega);have l:=fun k=>gA ((2*M-1)*V) (a*2^1) k (by omega);rw[<-j]at g l;have f:2*M*V=(2*M-1)*V+V:=by{rw[<-mh];congr 1;omega};rw[f];generalize (2*M-1)*V=A at *;have e:(2*n)*(a*2^1)=2*(2*n*a):=by{rw[Nat.pow_one];ac_rfl};have b:=g (2*n);have c:=l (2*n);rw[e]at b c;generalize 2*n*a=z at *;have:odd=0\/odd=1:=by{omega};rcases this with rfl|rfl;{constructor;{intro h;exact⟨by have:=c.1 (by omega);omega,fun h=>by omega⟩};{rintro⟨h,_⟩;have:=c.2 (by omega);omega}};{constructor;{intro h;have:¬ 2*(2*n)<=umin:=by{omega};rw[b]at this;exact⟨by omega,fun _=>by omega⟩};{rintro⟨_,h⟩;have:=h i;have:¬ 2*(2*n)<=umin:=by{rw[b];omega};omega}}
theorem aGd (a V M d c:Nat)(j:0<a)(i:1<=M)(g:d=unr ((4*M-1)*V) (a*2^2))(hd:(d+3) / 4=c)(n:Nat) :
  c<=n↔4*M*V<=4*n*a+V:=by
 have l:=fun k=>gA ((4*M-1)*V) (a*2^2) k (by omega);rw[<-g]at l;have f:4*M*V=(4*M-1)*V+V:=by{rw[<-mh];congr 1;omega};rw[f];generalize (4*M-1)*V=A at *;have e:(2*n)*(a*2^2)=2*(4*n*a):=by{rw[show(2:Nat)^2=4 from rfl];ac_rfl};have b:=l (2*n);rw[e]at b;generalize 4*n*a=z at *;constructor;{intro h;have:=b.1 (by omega);omega};{intro h;have:=b.2 (by omega);omega}
def iR (k:Nat):Nat:=(348-((k:Int)-1074)*78913 / 262144).toNat
def iS (k:Nat):Nat:=(348-(((k:Int)-1074)*631305-261663) / 2097152).toNat
def aFh (k:Nat):Prop:=iR k<=672/\(iR k:Int)-348=-(((k:Int)-1074)*78913 / 262144)/\sU (iR k)<=sV k (iR k)/\sV k (iR k)<10*sU (iR k)/\5<=1082-(k:Int)-lpI (iR k)/\1082-(k:Int)-lpI (iR k)<=15/\56<=iR k
def aCi (k:Nat):Prop:=iS k<=672/\(iS k:Int)-348=-((((k:Int)-1074)*631305-261663) / 2097152)/\4*sU (iS k)<=3*sV k (iS k)/\3*sV k (iS k)<40*sU (iS k)/\5<=1082-(k:Int)-lpI (iS k)/\1082-(k:Int)-lpI (iS k)<=15/\56<=iS k
instance (k:Nat):Decidable (aFh k):=by unfold aFh;exact inferInstance
instance (k:Nat):Decidable (aCi k):=by unfold aCi;exact inferInstance
theorem aPU:((List.range 2046).all fun k=>decide (aFh k))=true:=by kernel_rfl
theorem aNU:((List.range 2046).all fun k=>decide (aCi k))=true:=by kernel_rfl
theorem aGD (k:Nat)(h:k<2046):aFh k:=bv (di.1 aPU k (fq.2 h))
theorem aIk (k:Nat)(h:k<2046):aCi k:=bv (di.1 aNU k (fq.2 h))
theorem aSr:lpI (iR 0)=1076:=by kernel_rfl
theorem aEJ (M p:Nat):M*p+(M*p+p)=(2*M+1)*p:=by rw[bb,da,af];omega
theorem aSb (n y z:Nat):2*(n*y*z)=2*n*(y*z):=by ac_rfl
theorem aIl (n i:Nat)(hi:i<=696):2*bN n (696-i)=2*n*sU i:=by
 unfold bN sU;rw[show 696-i-348=348-i by omega];exact aSb _ _ _
theorem aRK (M k i n:Nat)(hi:i<=696)(t:1<=M)(f:M<9007199254740992)(u:4503599627370496<M\/k=0)(hr:k*4503599627370496+M<aQ) :
  bY (bN n (696-i)) (aK (696-i)) (k*4503599627370496+M)↔(2*M*sV k i<=2*n*sU i+sV k i/\(M%2=1->2*M*sV k i<2*n*sU i+sV k i))/\(2*n*sU i<=(2*M+1)*sV k i/\(M%2=1->2*n*sU i<(2*M+1)*sV k i)):=by
 have c:=aIl n i hi;have eB:aK (696-i)=10^(i-348):=by{unfold aK;rw[show 348-(696-i)=i-348 by omega]};have hv:=kU k M f (by omega);have p:=qF k M f (by omega);have l:=jX (k*4503599627370496+M);rw[hv,p]at l;have hq:∀q,k*4503599627370496+M=q+1->aV q+aV (k*4503599627370496+M)+2^k=2*M*2^k:=by{intro q hq;have m:=jX q;have r:ulp q=2^k:=by{rw[show q=k*4503599627370496+(M-1) by omega];exact qF k (M-1) (by omega) (by omega)};rw[<-hq,hv,r]at m;rw[hv,af];omega};obtain⟨q0,j⟩:∃q,k*4503599627370496+M=q+1:=⟨k*4503599627370496+M-1,by omega⟩;have s:(aV q0+aV (k*4503599627370496+M))*10^(i-348)+sV k i=2*M*sV k i:=by{unfold sV;rw[<-af,<-bb,hq q0 j]};have e:(aV (k*4503599627370496+M)+aV (k*4503599627370496+M+1))*10^(i-348)=(2*M+1)*sV k i:=by{unfold sV;rw[<-af,l,hv,aEJ]};have d:(k*4503599627370496+M)%2=M%2:=by{omega};constructor;{intro h;have a:=h.lo q0 j;have b:=h.hi hr;rw[c,eB]at a b;rw[e]at b;rw[d]at a b;refine⟨⟨by omega,fun g=>by have:=a.2 g;omega⟩,b⟩};{rintro⟨a,b⟩;refine⟨b9 hr,fun q v=>?_,fun _=>?_⟩;{obtain rfl:q=q0:=by{omega};rw[c,eB,d];exact⟨by omega,fun g=>by have:=a.2 g;omega⟩};{rw[c,eB,d,e];exact b}}
theorem aP0 (M k i n:Nat)(hi:i<=696)(w:1<=k)(v:M=4503599627370496)(hr:k*4503599627370496+M<aQ) :
  bY (bN n (696-i)) (aK (696-i)) (k*4503599627370496+M)↔(4*M*sV k i<=4*n*sU i+sV k i)/\(2*n*sU i<=(2*M+1)*sV k i):=by
 have d:=aIl n i hi;have eB:aK (696-i)=10^(i-348):=by{unfold aK;rw[show 348-(696-i)=i-348 by omega]};have e:M<9007199254740992:=by{omega};have hv:=kU k M e (by omega);have s:=qF k M e (by omega);have m:=jX (k*4503599627370496+M);rw[hv,s]at m;obtain⟨j,p⟩:∃j,k=j+1:=⟨k-1,by omega⟩;have hq:∀q,k*4503599627370496+M=q+1->2*(aV q+aV (k*4503599627370496+M))+2^k=4*M*2^k:=by{intro q hq;have r:=jX q;have t:ulp q=2^j:=by{rw[show q=j*4503599627370496+9007199254740991 by omega];exact qF j _ (by omega) (by omega)};rw[<-hq,hv,t]at r;have c:2^k=2*2^j:=by{rw[p,bz,bo]};rw[hv,af 4];omega};have ev:M%2=0:=by{omega};obtain⟨q0,l⟩:∃q,k*4503599627370496+M=q+1:=⟨k*4503599627370496+M-1,by omega⟩;have u:2*((aV q0+aV (k*4503599627370496+M))*10^(i-348))+sV k i=4*M*sV k i:=by{unfold sV;rw[<-af 2,<-af (4*M),<-bb,hq q0 l]};have c:(aV (k*4503599627370496+M)+aV (k*4503599627370496+M+1))*10^(i-348)=(2*M+1)*sV k i:=by{unfold sV;rw[<-af,m,hv,aEJ]};have e4:4*n*sU i=2*(2*n*sU i):=by{rw[<-af,<-af]};have f:(k*4503599627370496+M)%2=0:=by{omega};rw[e4];constructor;{intro h;have a:=h.lo q0 l;have b:=h.hi hr;rw[d,eB]at a b;rw[c]at b;exact⟨by omega,b.1⟩};{rintro⟨a,b⟩;refine⟨b9 hr,fun q x=>?_,fun _=>?_⟩;{obtain rfl:q=q0:=by{omega};rw[d,eB,f];exact⟨by omega,fun g=>by omega⟩};{rw[d,eB,f,c];exact⟨b,fun g=>by omega⟩}}
structure iI (r d:Nat) (q:Int) (j:Nat):Prop where
 idx:(j:Int)=q+348
 j1:24<=j
 j2:j<=641
 pos:1<=d
 lt:d<100000000000000000
 rn:bY (bN d j) (aK j) r
 coarse:∀n,bY (bN n (j+1)) (aK (j+1)) r->10*n=d
 near:∀n,bY (bN n j) (aK j) r->n<d+10
 pick:(∀n,bY (bN n j) (aK j) r->n=d)\/((∀n,¬bY (bN n (j+1)) (aK (j+1)) r)/\nD (2*(aV r*10^348)) (10^j*2^1074) d)
theorem aJU (n a z:Nat):n*(a*10)*z*1=10*n*a*z*1:=by ac_rfl
theorem aJV (n b z:Nat):n*1*z*(b*10)=10*n*1*z*b:=by ac_rfl
theorem lO (n j r:Nat):bY (bN n (j+1)) (aK (j+1)) r↔bY (bN (10*n) j) (aK j) r:=by
 have e:bN n (j+1)*aK j=bN (10*n) j*aK (j+1):=by{unfold bN aK;by_cases h:348<=j;{rw[show j+1-348=j-348+1 by omega,show 348-j=0 by omega,show 348-(j+1)=0 by omega,bz,fg];exact aJU _ _ _};{rw[show j+1-348=0 by omega,show j-348=0 by omega,show 348-j=348-(j+1)+1 by omega,bz 10 (348-(j+1)),fg];exact aJV _ _ _}};exact⟨mT _ _ _ _ _ (fA _) (fA _) e,mT _ _ _ _ _ (fA _) (fA _) e.symm⟩
theorem aGN (r i f c k:Nat)(hi:56<=i)(x:i<=672)(s:aIs f c k)(u:1<=f)(y:c<100000000000000000)
  (a:∀n,bY (bN n (696-i)) (aK (696-i)) r↔f<=n/\n<=c) (v:nD (2*(aV r*10^348)) (10^(696-i)*2^1074) k) :
  ∃d q j,bX f c k ((i:Int)-348)=(d,q)/\iI r d q j:=by
 have w:=s.wide;rcases aI2 f c k ((i:Int)-348) s u with⟨d,e,l,m,p,b⟩|⟨d,e,l,m,p,b,t⟩;{refine⟨d,_,697-i,e,by omega,by omega,by omega,l,by omega,?_,fun n h=>?_,fun n h=>?_,.inl fun n h=>?_⟩;{rw[show 697-i=696-i+1 by omega,lO,a];exact⟨m,p⟩};{rw[lO,show 697-i=696-i+1 by omega,lO,a]at h;exact b _ h.1 h.2};{rw[show 697-i=696-i+1 by omega,lO,a]at h;have:=b n h.1 h.2;omega};{rw[show 697-i=696-i+1 by omega,lO,a]at h;exact b n h.1 h.2}};{refine⟨d,_,696-i,e,by omega,by omega,by omega,l,by omega,?_,fun n h=>?_,fun n h=>?_,?_⟩;{rw[a];exact⟨m,p⟩};{rw[lO,a]at h;exact(b n h.1 h.2).elim};{rw[a]at h;omega};{refine t.imp (fun g n h=>?_) (fun g=>⟨fun n h=>?_,by rw[g];exact v⟩);{rw[a]at h;exact g n h.1 h.2};{rw[lO,a]at h;exact(b n h.1 h.2).elim}}}
theorem aQW (M k i r:Nat)(hi:i<=696)(b:aV r=M*2^k):M*sV k i*(10^(696-i)*2^1074)=aV r*10^348*sU i:=by
 unfold sV sU;rw[b];have a:i-348+(696-i)=348+(348-i):=by{omega};have e:10^(i-348)*10^(696-i)=10^348*10^(348-i):=by{rw[<-ap,a,ap 10 348 (348-i)]};generalize (2:Nat)^1074=y at *;generalize (2:Nat)^k=a2 at *;generalize (10:Nat)^(i-348)=b1 at *;generalize (10:Nat)^(696-i)=b2 at *;generalize (10:Nat)^348=b3 at *;generalize (10:Nat)^(348-i)=b4 at *
 calc M*(a2*b1)*(b2*y)=M*a2*y*(b1*b2):=by ac_rfl
  _=M*a2*y*(b3*b4):=by rw[e]
  _=M*a2*b3*(b4*y):=by ac_rfl
theorem zH (M k i r:Nat)(hi:i<=696)(a:aV r=M*2^k):unr (M*sV k i) (sU i)=unr (aV r*10^348) (10^(696-i)*2^1074) :=
 vP _ _ _ _ (aDh i) (cn (b7 (by decide)) (ay 1074)) (aQW M k i r hi a)
theorem vD (A B u:Nat)(a:0<B)(b:u=unr A B):nD (2*A) B (bK u):=rY A B _ a (by rw[b];rfl)
theorem aGm (u:Nat)(odd:Nat)(h:u<9223372036854775808)(a:odd<=1):sO (fR u odd)=(u+odd+3) / 4:=by
 unfold sO fR;omega
theorem aCZ (u:Nat)(odd:Nat)(h:u<9223372036854775808)(a:odd<=u):fR u (-(odd:Int))=u-odd:=by
 unfold fR;omega
theorem nL (u:Nat)(h:u<9223372036854775808):gU u=bK u:=by
 unfold gU bK;omega
theorem pD (c d V t:Nat)(g:0<d)(h:V<20*d)(i:c<36028797018963968):unr (c*V) (d*2^t)<9223372036854775808:=by
 have f:=ay t;have:unr (c*V) (d*2^t)<=2*(40*c):=by{rw[gA _ _ _ (cn g f)];have a:c*V<=c*(20*d):=fm _ (by omega);have b:c*(20*d)*1<=c*(20*d)*2^t:=fm _ f;have e:40*c*(d*2^t)=2*(c*(20*d)*2^t):=by{generalize 2^t=p;rw[show 40*c*(d*p)=2*(20*(c*(d*p))) by rw[af 40];omega];congr 1;ac_rfl};omega};omega
theorem aM1 (M z:Nat)(a:1<=z):M*2^z-2^(z-1)=(2*M-1)*2^(z-1)/\M*2^z+2^(z-1)=(2*M+1)*2^(z-1):=by
 have e:M*2^z=2*M*2^(z-1):=by{rw[show 2^z=2*2^(z-1) by rw[bo,<-bz];congr 1;omega];ac_rfl};rw[e,rz,bb,da];exact⟨rfl,rfl⟩
theorem aEz (M k z i s odd l umax f:Nat)(e:Int)(hk:k<2046)(m:1<=M)(y:M<9007199254740992)(aa:4503599627370496<M\/k=0)(hz:11<=z)(hx:M*2^z<18446744073709551616)
  (hr:k*4503599627370496+M<aQ) (hi:i=iR k) (r:e=(k:Int)-1074-z) (t:-(e+lpI i+3)=s) (A:M%2=odd)
  (V:cZ (M*2^z-2^(z-1)) (aN i) (aX i) s=l) (X:cZ (M*2^z+2^(z-1)) (aN i) (aX i) s=umax) (h3:cZ (M*2^z) (aN i) (aX i) s=f) :
  ∃d q j,bX (sO (fR l odd)) (fR umax (-(odd:Int)) / 4) (gU f) ((i:Int)-348)=(d,q)/\iI (k*4503599627370496+M) d q j:=by
 obtain⟨E,r2,F,J,r5,r6,K⟩:=aGD k hk;rw[<-hi]at E r2 F J r5 r6 K;have p:5<=s:=by{omega};have g:=aDh i;obtain⟨p1,p2⟩:=aM1 M z (by omega);have ah:2^z=2*2^(z-1):=by{rw[bo,<-bz];congr 1;omega};have ab:M*2^z+2^(z-1)<18446744073709551616:=by{have ad:z<64:=by{refine g9 fun h=>?_;have a:2^64<=2^z:=cc (by decide) h;have b:1*2^z<=M*2^z:=au _ m;have c:(2:Nat)^64=18446744073709551616:=by{decide};omega};have x:18446744073709551616=2^(64-z)*2^z:=by{rw[<-ap,show 64-z+z=64 by omega]};rw[x]at hx;have:=gq hx;have:(M+1)*2^z<=2^(64-z)*2^z:=au _ this;rw[<-x,bb]at this;have:=ay (z-1);omega};have u1:=mR (2*M-1) (z-1) k i s z 1 e (by omega) (by omega) (by rw[<-p1];omega) (by omega) r t (.inl ⟨p,by omega⟩);have u2:=mR (2*M+1) (z-1) k i s z 1 e (by omega) (by omega) (by rw[<-p2];omega) (by omega) r t (.inl ⟨p,by omega⟩);have u3:=mR M z k i s z 0 e (by omega) m hx (by omega) r t (.inl ⟨p,by omega⟩);rw[<-p1,V]at u1;rw[<-p2,X]at u2;rw[h3]at u3;have N:l<9223372036854775808:=by{rw[u1];exact pD _ _ _ _ g (by omega) (by omega)};have P:umax<9223372036854775808:=by{rw[u2];exact pD _ _ _ _ g (by omega) (by omega)};have Q:f<9223372036854775808:=by{rw[u3];exact pD _ _ _ _ g (by omega) (by omega)};have o1:odd<=1:=by{omega};have C:odd<=umax:=by{have:2*1<=umax:=by{rw[u2,gV _ _ _ (by omega)];have:1*sV k i<=(2*M+1)*sV k i:=au _ (by omega);omega};omega};rw[aGm l odd N o1,aCZ umax odd P C,nL f Q];have u:=aH7 (sU i) (sV k i) M umax odd _ g A u2 C rfl;have v:=aPv (sU i) (sV k i) M l odd _ g m A u1 rfl;rw[fg,du]at u3;obtain⟨⟨w,_⟩,D,_⟩:=rY (M*sV k i) (sU i) _ g (show bK (unr (M*sV k i) (sU i))=bK f by rw[<-u3]);have S:2*(M*sV k i)=2*M*sV k i:=by{rw[af]};rw[S]at w D;have T:(2*bK f+1)*sU i=2*bK f*sU i+sU i:=by{rw[bb,da]};rw[T]at w;have L:=vD _ _ f (cn (b7 (by decide)) (ay _)) (u3.trans (zH M k i (k*4503599627370496+M) (by omega) (kU k M y (by omega))));refine aGN _ i _ _ _ K E (aNv (sU i) (sV k i) M _ _ _ F J v u w D) ?_ ?_ (fun n=>?_) L;{refine g9 fun h=>?_;have:=((v 0).1 h).1;have:2*sV k i<=2*M*sV k i:=au _ (by omega);omega};{have:=((u _).1 (ag ((umax-odd) / 4))).1;have a:(2*M+1)*sV k i<=(2*M+1)*(10*sU i):=fm _ (by omega);have:2*((umax-odd) / 4)*sU i<=10*(2*M+1)*sU i:=by{rw[show 10*(2*M+1)*sU i=(2*M+1)*(10*sU i) by rw[bo 10,af]];omega};have:=dv this g;omega};{rw[aRK M k i n (by omega) m y aa hr,v,u]}
theorem aJq (M k i s m c b:Nat)(e:Int)(S:k<2046)(T:1<=k)(f:M=4503599627370496)(hr:k*4503599627370496+M<aQ)(hi:i=iS k)(r:e=(k:Int)-1074-11)(t:-(e+lpI i+3)=s)
  (N:cZ (9223372036854775808-512) (aN i) (aX i) s=m) (P:cZ (9223372036854775808+1024) (aN i) (aX i) s=c) (Q:cZ 9223372036854775808 (aN i) (aX i) s=b) :
  ∃d q j,bX (sO (fR m (0:Nat))) (fR c (-((0:Nat):Int)) / 4) (gU b) ((i:Int)-348)=(d,q)/\iI (k*4503599627370496+M) d q j:=by
 obtain⟨y,r2,z,A,r5,r6,C⟩:=aIk k S;rw[<-hi]at y r2 z A r5 r6 C;have p:5<=s:=by{omega};have l:=aDh i;have u1:=mR (4*M-1) 9 k i s 11 2 e (by omega) (by omega) (by rw[f];decide) (by omega) r t (.inl ⟨p,by omega⟩);have u2:=mR (2*M+1) 10 k i s 11 1 e (by omega) (by omega) (by rw[f];decide) (by omega) r t (.inl ⟨p,by omega⟩);have u3:=mR M 11 k i s 11 0 e (by omega) (by omega) (by rw[f];decide) (by omega) r t (.inl ⟨p,by omega⟩);have p1:(4*M-1)*2^9=9223372036854775808-512:=by{rw[f]};have p2:(2*M+1)*2^10=9223372036854775808+1024:=by{rw[f]};have X:M*2^11=9223372036854775808:=by{rw[f]};rw[p1,N]at u1;rw[p2,P]at u2;rw[X,Q]at u3;have E:m<9223372036854775808:=by{rw[u1];exact pD _ _ _ _ l (by omega) (by omega)};have F:c<9223372036854775808:=by{rw[u2];exact pD _ _ _ _ l (by omega) (by omega)};have J:b<9223372036854775808:=by{rw[u3];exact pD _ _ _ _ l (by omega) (by omega)};rw[aGm m 0 E (by omega),aCZ c 0 F (by omega),nL b J];have V:=aH7 (sU i) (sV k i) M c 0 _ l (by omega) u2 (by omega) rfl;have v:=aGd (sU i) (sV k i) M m ((m+0+3) / 4) l (by omega) u1 rfl;have u:∀n,n<=(c-0) / 4↔2*n*sU i<=(2*M+1)*sV k i:=fun n=>by{rw[V];exact⟨fun h=>h.1,fun h=>⟨h,fun g=>by omega⟩⟩};rw[fg,du]at u3;obtain⟨⟨w,_⟩,x,_⟩:=rY (M*sV k i) (sU i) _ l (show bK (unr (M*sV k i) (sU i))=bK b by rw[<-u3]);have K:2*(M*sV k i)=2*M*sV k i:=by{rw[af]};rw[K]at w x;have L:(2*bK b+1)*sU i=2*bK b*sU i+sU i:=by{rw[bb,da]};rw[L]at w;have D:=vD _ _ b (cn (b7 (by decide)) (ay _)) (u3.trans (zH M k i (k*4503599627370496+M) (by omega) (kU k M (by omega) (by omega))));refine aGN _ i _ _ _ C y (aLd (sU i) (sV k i) M _ _ _ z A v u w x) ?_ ?_ (fun n=>?_) D;{refine g9 fun h=>?_;have:=((v 0).1 h);have:4*sV k i<=4*M*sV k i:=au _ (by omega);omega};{have:=((u _).1 (ag ((c-0) / 4)));have a:(2*M+1)*sV k i<=(2*M+1)*(14*sU i):=fm _ (by omega);have:2*((c-0) / 4)*sU i<=14*(2*M+1)*sU i:=by{rw[show 14*(2*M+1)*sU i=(2*M+1)*(14*sU i) by rw[bo 14,af]];omega};have:=dv this l;omega};{rw[aP0 M k i n (by omega) T f hr,v,u]}
