/-
The model's rounding finds the nearest rung: of whole numbers, products and quotients. No program in sight.
-/
import Derived.Test.YtcfgbdhpcboikaaGreatDoorCmp
namespace Go.Proofs.YtcfgbdhpcboikaaGreatDoor
set_option maxHeartbeats 2000000
theorem aSW (n:Nat):1 <<< n=2^n:=by rw[nh,da]
theorem aFM (neg:Bool)(n drop c:Nat)(h:Ieee.Toward.even.cut neg n drop=c) :
  (2*n<=(2*c+1)*2^drop/\(c%2=1->2*n<(2*c+1)*2^drop))/\((2*c)*2^drop<=2*n+2^drop/\(c%2=1->(2*c)*2^drop<2*n+2^drop)):=by
 unfold Ieee.Toward.cut at h;simp only[aSW]at h;by_cases hd:drop<=n.log2+2;{rw[jn hd]at h;have j:=ay drop;generalize 2^drop=g at *;have e:=lu n g;have l:=gn n j;generalize n / g=a at *;generalize n%g=r at *;have f:∀x,(2*x+1)*g=2*(g*x)+g:=fun x=>by{rw[bb,da,af,bo x]};have b:∀x,2*x*g=2*(g*x):=fun x=>by{rw[af,bo x]};rw[f,b];by_cases c1:g<2*r;{have:c=a+1:=by{simpa [c1]using h.symm};subst this;rw[f8,du];omega};{by_cases c2:g=2*r/\a%2=1;{have:c=a+1:=by{rw[<-h];simp[c2.1,c2.2]};subst this;rw[f8,du];omega};{have:c=a:=by{rw[<-h];have:(decide (g<2*r)||g==2*r&&a%2==1)=false:=by{rw[bp c1,jw,je];by_cases d:g=2*r;{right;rw[ai];exact fun i=>c2 ⟨d,i⟩};{left;rw[ai];exact d}};rw[this];rfl};subst this;omega}}};{rw[o8 (by omega)]at h;have o:n<2^(n.log2+1):=Nat.lt_log2_self;have b:2^(n.log2+2)=2*2^(n.log2+1):=by{rw[bz,bo]};have m:2^(n.log2+2)<=2^drop:=cc (by decide) (by omega);generalize 2^(n.log2+2)=g at *;generalize 2^(n.log2+1)=g1 at *;generalize 2^drop=G' at *;have d0:n / g=0:=mc (by omega);have k:n%g=n:=l9 (by omega);have:c=0:=by{rw[<-h,d0,k];have:(decide (g<2*n)||g==2*n&&(0:Nat)%2==1)=false:=by{rw[bp (by omega),jw];simp};rw[this];rfl};subst this;omega}
def mU (mag:Nat)(place:Int):Nat:=min ((max (place+mag.log2-(52:Nat)) (-1074) - -1074).toNat*4503599627370496+Ieee.Toward.even.cut false (mag <<< (place-max (place+mag.log2-(52:Nat)) (-1074)).toNat) (max (place+mag.log2-(52:Nat)) (-1074)-place).toNat) aQ
theorem aMG (neg:Bool)(n d:Nat):Ieee.Toward.even.cut neg n d=Ieee.Toward.even.cut false n d:=rfl
theorem aAo (neg:Bool)(a:Nat)(place:Int)(h:a≠0):FloatKind.f64.format.nearest neg a place=(if neg then 9223372036854775808 else 0)+mU a place:=by
 unfold Ieee.Format.nearest mU;rw[ac h,least,aFU,aCy,aHZ];simp only[];rw[aMG];unfold Ieee.Format.word;rw[aFV];have e:aQ=2047*4503599627370496:=by{decide};rw[e];split<;>simp
theorem aIh (d:Nat)(e:Int)(h:d≠0):bY (d*2^(e+1074).toNat) (2^(-(e+1074)).toNat) (mU d e):=by
 obtain⟨L,B⟩:∃L,d.log2=L:=⟨_,rfl⟩;obtain⟨N,P⟩:=(og h).1 B;obtain⟨last,E⟩:∃last,max (e+d.log2-(52:Nat)) (-1074)=last:=⟨_,rfl⟩;obtain⟨c,C⟩:∃c,Ieee.Toward.even.cut false (d <<< (e-last).toNat) (last-e).toNat=c:=⟨_,rfl⟩;have R:mU d e=min ((last - -1074).toNat*4503599627370496+c) aQ:=by{unfold mU;rw[E,C]};rw[R];rw[B]at E;obtain⟨⟨l,m⟩,n,o⟩:=aFM false _ _ c C;rw[nh]at l m n o;obtain⟨k,S⟩:∃k,(last - -1074).toNat=k:=⟨_,rfl⟩;rw[S];obtain⟨s,W⟩:∃s,(e-last).toNat=s:=⟨_,rfl⟩;obtain⟨t,X⟩:∃t,(last-e).toNat=t:=⟨_,rfl⟩;obtain⟨u,hu⟩:∃u,(e+1074).toNat=u:=⟨_,rfl⟩;obtain⟨v,hv⟩:∃v,(-(e+1074)).toNat=v:=⟨_,rfl⟩;rw[W,X]at l m n o;rw[hu,hv];have al:s=0\/t=0:=by{omega};have an:u=0\/v=0:=by{omega};have ah:(k:Int)=last+1074:=by{omega};have E1:k+v+s=u+t:=by{omega};have V:0<2^s:=ay s;have conv:∀x:Nat,x*2^s*2^(k+v)=x*2^u*2^t:=fun x=>by{rw[af,<-ap,af,<-ap];congr 2;omega}
 have kv:2^(k+v)=2^k*2^v:=ap _ _ _;have i:=ay t;have F:=ay (k+v);have r:2*(d*2^u)<=(2*c+1)*2^k*2^v:=by
  refine dv (c:=2^t) ?_ i;have:=au (2^(k+v)) l
  calc 2*(d*2^u)*2^t=2*(d*2^s)*2^(k+v):=by rw[af,af 2,<-conv d]
   _<=(2*c+1)*2^t*2^(k+v):=this
   _=(2*c+1)*2^k*2^v*2^t:=by rw[kv];ac_rfl
 have ab:c%2=1->2*(d*2^u)<(2*c+1)*2^k*2^v:=fun p=>by
  refine gq (a:=2^t) ?_;have:=d7 (m p) F
  calc 2*(d*2^u)*2^t=2*(d*2^s)*2^(k+v):=by rw[af,af 2,<-conv d]
   _<(2*c+1)*2^t*2^(k+v):=this
   _=(2*c+1)*2^k*2^v*2^t:=by rw[kv];ac_rfl
 have q:2*c*2^k*2^v<=2*(d*2^u)+2^k*2^v:=by
  refine dv (c:=2^t) ?_ i;have:=au (2^(k+v)) n
  calc 2*c*2^k*2^v*2^t=2*c*2^t*2^(k+v):=by rw[kv];ac_rfl
   _<=(2*(d*2^s)+2^t)*2^(k+v):=this
   _=(2*(d*2^u)+2^k*2^v)*2^t:=by
    rw[bb,bb,af 2,conv d,kv,af 2,bo (2^t)]
 have aa:c%2=1->2*c*2^k*2^v<2*(d*2^u)+2^k*2^v:=fun p=>by
  refine gq (a:=2^t) ?_;have:=d7 (o p) F
  calc 2*c*2^k*2^v*2^t=2*c*2^t*2^(k+v):=by rw[kv];ac_rfl
   _<(2*(d*2^s)+2^t)*2^(k+v):=this
   _=(2*(d*2^u)+2^k*2^v)*2^t:=by
    rw[bb,bb,af 2,conv d,kv,af 2,bo (2^t)]
 have K:(2:Nat)^53=9007199254740992:=by{decide};have J:(2:Nat)^52=4503599627370496:=by{decide};have ad:c<=9007199254740992:=by{have:d*2^s<2^53*2^t:=by{have a:d*2^s<2^(L+1)*2^s:=d7 P V;have b:2^(L+1)*2^s<=2^53*2^t:=by{rw[<-ap,<-ap];exact cc (by decide) (by omega)};omega};rw[K]at this;have f:2*c*2^t<(2*9007199254740992+1)*2^t:=by{rw[bb,af 2 9007199254740992];omega};have:=gq f;omega};have w:k≠0->4503599627370496<=c/\4503599627370496*2^t<=d*2^s:=fun g=>by{have:2^52*2^t<=d*2^s:=by{have a:2^L*2^s<=d*2^s:=au _ N;have b:2^52*2^t<=2^L*2^s:=by{rw[<-ap,<-ap];exact cc (by decide) (by omega)};omega};rw[J]at this;refine⟨?_,this⟩;have f:(2*4503599627370496)*2^t<=(2*c+1)*2^t:=by{rw[af 2 4503599627370496];omega};have:=dv f i;omega}
 have base:k≠0->4503599627370496*2^k*2^v<=d*2^u:=fun g=>by
  obtain⟨_,f⟩:=w g;refine dv (c:=2^t) ?_ i;have:=au (2^(k+v)) f
  calc 4503599627370496*2^k*2^v*2^t=4503599627370496*2^t*2^(k+v):=by rw[kv];ac_rfl
   _<=d*2^s*2^(k+v):=this
   _=d*2^u*2^t:=conv d
 by_cases Q:c=9007199254740992;{have M:k*4503599627370496+c=(k+1)*4503599627370496+4503599627370496:=by{omega};rw[M];have A:∀y:Nat,2^(k+1)*y=2*(2^k*y):=fun y=>by{rw[bz];ac_rfl};rw[Q]at r q;refine aA4 _ _ (k+1) 4503599627370496 (by omega) (.inl (ag _)) ⟨?_,fun h=>by omega⟩ (fun h=>by omega) ?_;{rw[af,A];rw[af]at r;omega};{intro j D _;obtain rfl:j=k:=by{omega};rw[af];rw[af]at q;omega}};{refine aA4 _ _ k c (by omega) ?_ ⟨r,ab⟩ (fun _=>⟨q,aa⟩) ?_;{by_cases g:k=0;{exact .inr g};{exact .inl (w g).1}};{intro j D T;have b:=base (by omega);rw[T];have A:4*4503599627370496*2^j*2^v=2*(4503599627370496*2^k*2^v):=by{rw[D,bz];generalize 2^j=y;generalize 2^v=z;have:4503599627370496*(y*2)*z=2*(4503599627370496*(y*z)):=by{ac_rfl};rw[this,af 4,af 4,af 4503599627370496];omega};omega}}
theorem rW (neg:Bool)(b:Nat)(h:b<aQ):∃a d,FloatKind.f64.format.read ((if neg then 9223372036854775808 else 0)+b)=.number neg a d/\(-1074:Int)<=d/\aV b=a*2^(d+1074).toNat/\(b≠0->a≠0)/\a<9007199254740992:=by
 have g:b<9218868437227405312:=h;unfold Ieee.Format.read;simp only[aFV,aCy,aHZ,least];have e:((if neg then 9223372036854775808 else 0)+b)%9223372036854775808=b:=by{cases neg<;>simp<;>omega};have f:(((if neg then 9223372036854775808 else 0)+b) / 9223372036854775808%2==1)=neg:=by{cases neg;{have:(0+b) / 9223372036854775808=0:=by{omega};simp;omega};{have:(9223372036854775808+b) / 9223372036854775808=1:=by{omega};simp[this]}};rw[e,f];by_cases c:b<4503599627370496;{rw[ae c];refine⟨b,-1074,rfl,iq _,?_,fun h=>h,by omega⟩;unfold aV;rw[ae c];simp};{rw[ac c,ae (by omega)];refine⟨_,_,rfl,by omega,?_,fun _=>by omega,by omega⟩;unfold aV;rw[ac c];congr 2;omega}
theorem aAQ (neg:Bool)(a:Nat)(place:Int)(h:a≠0):FloatKind.f64.format.write (.number neg a place)=(if neg then 9223372036854775808 else 0)+mU a place:=aAo neg a place h
theorem aGe (neg:Bool)(i h:Nat)(n:i<aQ)(o:h<aQ)(n1:i≠0)(p:h≠0) :
  ∃r,FloatKind.f64.format.mul ((if neg then 9223372036854775808 else 0)+i) h=some ((if neg then 9223372036854775808 else 0)+r)/\bY (aV i*aV h) (2^1074) r:=by
 obtain⟨g,p1,l,t,v1,q,v⟩:=rW neg i n;obtain⟨f,p2,j,u,v2,s,w⟩:=rW false h o;have m:FloatKind.f64.format.read h=.number false f p2:=by{rw[ac (by decide),be]at j;exact j};have k:g*f≠0:=Nat.mul_ne_zero (q n1) (s p);refine⟨mU (g*f) (p1+p2),?_,?_⟩;{unfold Ieee.Format.mul;rw[l,m];show some (FloatKind.f64.format.write (.number (neg ^^ false) (g*f) (p1+p2)))=_;rw[Bool.xor_false,aAQ _ _ _ k]}
 ·refine mT _ _ _ _ _ (ay _) (ay 1074) ?_ (aIh (g*f) (p1+p2) k);rw[v1,v2];have e:2^(p1+p2+1074).toNat*2^1074=2^(p1+1074).toNat*2^(p2+1074).toNat*2^(-(p1+p2+1074)).toNat:=by{obtain ⟨zz,hzz⟩:∃zz,1074=zz:=⟨_,rfl⟩;rw[hzz];rw[<-ap,<-ap,<-ap];congr 1;omega};generalize (2:Nat)^1074=z at *;generalize (2:Nat)^(p1+p2+1074).toNat=a at *;generalize (2:Nat)^(p1+1074).toNat=b at *;generalize (2:Nat)^(p2+1074).toNat=c at *;generalize (2:Nat)^(-(p1+p2+1074)).toNat=d at *
  calc g*f*a*z=g*f*(a*z):=by ac_rfl
   _=g*f*(b*c*d):=by rw[e]
   _=g*b*(f*c)*d:=by ac_rfl
theorem aPZ (A B c k s t u v:Nat)(L:k+v+s=u+t)
  (p:2*(A*2^s)<=(2*c+1)*2^t*B) (q:c%2=1->2*(A*2^s)<(2*c+1)*2^t*B)
  (r:2*c*2^t*B<=2*(A*2^s)+2^t*B) (w:c%2=1->2*c*2^t*B<2*(A*2^s)+2^t*B)
  (M:c<=9007199254740992) (l:k≠0->4503599627370496<=c/\4503599627370496*2^t*B<=A*2^s) :
  bY (A*2^u) (B*2^v) (min (k*4503599627370496+c) aQ):=by
 have conv:∀x:Nat,x*2^s*2^(k+v)=x*2^u*2^t:=fun x=>by{rw[af,<-ap,af,<-ap];congr 2;omega}
 have kv:2^(k+v)=2^k*2^v:=ap _ _ _;have g:=ay t;have o:=ay (k+v);have i:2*(A*2^u)<=(2*c+1)*2^k*(B*2^v):=by
  refine dv (c:=2^t) ?_ g;have:=au (2^(k+v)) p
  calc 2*(A*2^u)*2^t=2*(A*2^s)*2^(k+v):=by rw[af,af 2,<-conv A]
   _<=(2*c+1)*2^t*B*2^(k+v):=this
   _=(2*c+1)*2^k*(B*2^v)*2^t:=by rw[kv];ac_rfl
 have K:c%2=1->2*(A*2^u)<(2*c+1)*2^k*(B*2^v):=fun e=>by
  refine gq (a:=2^t) ?_;have:=d7 (q e) o
  calc 2*(A*2^u)*2^t=2*(A*2^s)*2^(k+v):=by rw[af,af 2,<-conv A]
   _<(2*c+1)*2^t*B*2^(k+v):=this
   _=(2*c+1)*2^k*(B*2^v)*2^t:=by rw[kv];ac_rfl
 have f:2*c*2^k*(B*2^v)<=2*(A*2^u)+2^k*(B*2^v):=by
  refine dv (c:=2^t) ?_ g;have:=au (2^(k+v)) r
  calc 2*c*2^k*(B*2^v)*2^t=2*c*2^t*B*2^(k+v):=by rw[kv];ac_rfl
   _<=(2*(A*2^s)+2^t*B)*2^(k+v):=this
   _=(2*(A*2^u)+2^k*(B*2^v))*2^t:=by
    rw[bb,bb,af 2,conv A,af 2,kv];congr 1;ac_rfl
 have J:c%2=1->2*c*2^k*(B*2^v)<2*(A*2^u)+2^k*(B*2^v):=fun e=>by
  refine gq (a:=2^t) ?_;have:=d7 (w e) o
  calc 2*c*2^k*(B*2^v)*2^t=2*c*2^t*B*2^(k+v):=by rw[kv];ac_rfl
   _<(2*(A*2^s)+2^t*B)*2^(k+v):=this
   _=(2*(A*2^u)+2^k*(B*2^v))*2^t:=by
    rw[bb,bb,af 2,conv A,af 2,kv];congr 1;ac_rfl
 have base:k≠0->4503599627370496*2^k*(B*2^v)<=A*2^u:=fun d=>by
  obtain⟨_,C⟩:=l d;refine dv (c:=2^t) ?_ g;have:=au (2^(k+v)) C
  calc 4503599627370496*2^k*(B*2^v)*2^t=4503599627370496*2^t*B*2^(k+v):=by rw[kv];ac_rfl
   _<=A*2^s*2^(k+v):=this
   _=A*2^u*2^t:=conv A
 generalize B*2^v=D at *;generalize A*2^u=N at *;by_cases E:c=9007199254740992;{have z:k*4503599627370496+c=(k+1)*4503599627370496+4503599627370496:=by{omega};rw[z];have m:∀y:Nat,2^(k+1)*y=2*(2^k*y):=fun y=>by{rw[bz];ac_rfl};rw[E]at i f;refine aA4 _ _ (k+1) 4503599627370496 (by omega) (.inl (ag _)) ⟨?_,fun h=>by omega⟩ (fun h=>by omega) ?_;{rw[af,m];rw[af]at i;omega};{intro j n _;obtain rfl:j=k:=by{omega};rw[af];rw[af]at f;omega}};{refine aA4 _ _ k c (by omega) ?_ ⟨i,K⟩ (fun _=>⟨f,J⟩) ?_;{by_cases d:k=0;{exact .inr d};{exact .inl (l d).1}};{intro j n F;have b:=base (by omega);rw[F];have m:4*4503599627370496*2^j*D=2*(4503599627370496*2^k*D):=by{rw[n,bz];generalize 2^j=y;have:4503599627370496*(y*2)*D=2*(4503599627370496*(y*D)):=by{ac_rfl};rw[this,af 4,af 4,af 4503599627370496];omega};omega}}
theorem aPN (m n:Nat)(i j:Int)(more:Nat)(S:m≠0)(V:n≠0)(hm:m<9007199254740992)(T:54+n.log2-m.log2=more) :
  2*(m <<< more / n)+(m <<< more%n !=0).toNat≠0/\∃P:Int,P=i-j-more-1 /\
  bY (2*(m*2^more)*2^(P+1074).toNat) (n*2^(-(P+1074)).toNat) (mU (2*(m <<< more / n)+(m <<< more%n !=0).toNat) P):=by
 obtain⟨d,hd⟩:∃d,m*2^more=d:=⟨_,rfl⟩;rw[nh,hd];have hn:0<n:=by{omega};obtain⟨q,hq⟩:∃q,2*(d / n)+(d%n !=0).toNat=q:=⟨_,rfl⟩;have qu:q=unr d (2*n):=by{unfold unr;rw[ve _ _ (by decide),vf,<-hq];congr 1;by_cases h:d%n=0;{simp[h]};{rw[ac (by omega)];simp[h]}};rw[hq];have g:=fun k=>gV d (2*n) k (by omega);have l:=fun k=>gA d (2*n) k (by omega);rw[<-qu]at g l;obtain⟨lm,K⟩:∃x,m.log2=x:=⟨_,rfl⟩;obtain⟨o,M⟩:∃x,n.log2=x:=⟨_,rfl⟩;obtain⟨m1,m2⟩:=(og S).1 K;obtain⟨n1,n2⟩:=(og V).1 M;have al:lm<=52:=by{refine fo fun h=>?_;have:2^53<=2^lm:=cc (by decide) (by omega);have B:(2:Nat)^53=9007199254740992:=by{decide};omega};rw[K,M]at T;have ad:2^(54+o)<=d:=by{have:=au (2^more) m1;rw[<-ap,hd,show lm+more=54+o by omega]at this;exact this}
 have an:18014398509481984<=q:=by
  have:=(g 9007199254740992).2 (by
   have a:9007199254740992*n<=9007199254740992*2^(o+1):=fm _ (b9 n2);have b:9007199254740992*2^(o+1)=2^(54+o):=by
    rw[show 9007199254740992=2^53 from rfl,<-ap];congr 1;omega
   rw[cx];omega)
  omega
 refine⟨by omega,_,rfl,?_⟩;obtain⟨P,Q⟩:∃P:Int,i-j-more-1=P:=⟨_,rfl⟩;rw[Q];obtain⟨L,D⟩:∃L,q.log2=L:=⟨_,rfl⟩;obtain⟨q1,q2⟩:=(og (by omega)).1 D;have ab:54<=L:=by{refine fo fun h=>?_;have:2^(L+1)<=2^54:=cc (by decide) (by omega);have ah:(2:Nat)^54=18014398509481984:=by{decide};omega};obtain⟨last,J⟩:∃last,max (P+q.log2-(52:Nat)) (-1074)=last:=⟨_,rfl⟩;obtain⟨c,F⟩:∃c,Ieee.Toward.even.cut false (q <<< (P-last).toNat) (last-P).toNat=c:=⟨_,rfl⟩;have R:mU q P=min ((last - -1074).toNat*4503599627370496+c) aQ:=by{unfold mU;rw[J,F]};rw[R];rw[D]at J;obtain⟨⟨v,p⟩,y,r⟩:=aFM false _ _ c F;rw[show(P-last).toNat=0 by omega,Nat.shiftLeft_zero]at v p y r;obtain⟨t,X⟩:∃t,(last-P).toNat=t:=⟨_,rfl⟩;rw[X]at v p y r;obtain⟨w,hw⟩:∃w,t=w+2:=⟨t-2,by omega⟩;have s:2^t=4*2^w:=by{rw[hw,ap];omega};have B:(2:Nat)^53=9007199254740992:=by{decide};have N:(2:Nat)^52=4503599627370496:=by{decide};have wp:=ay w;have f:∀x:Nat,x*2^t=2*(2*(x*2^w)):=fun x=>by{rw[s,cx];omega};rw[f]at v p;rw[f,s]at y r;have f2:∀x:Nat,x*2^t*n=2*(x*2^w*(2*n)):=fun x=>by{rw[f,cx _ 2 n];rw[af 2,af 2]};refine aPZ (2*d) n c (last - -1074).toNat 0 t (P+1074).toNat (-(P+1074)).toNat (by omega) ?_ (fun A=>?_) ?_ (fun A=>?_) ?_ (fun hk=>?_);{rw[fg,du,f2];have:=(l ((2*c+1)*2^w)).1 (by omega);omega};{rw[fg,du,f2];have u:=p A;have:¬(2*c+1)*2^w*(2*n)<=2*d:=fun h=>by{have:=(g ((2*c+1)*2^w)).2 h;omega};omega};{rw[fg,du,f2,s];have e:4*2^w*n=2*(2^w*(2*n)):=by{rw[cx _ 2 n,af 4];omega};rw[e];rcases g7 c with C|C;{rw[C];simp};{have z:2*c*2^w=(2*c-1)*2^w+2^w:=by{rw[<-mh];congr 1;omega};have:=(g ((2*c-1)*2^w)).1 (by omega);rw[z,bb];omega}};{rw[fg,du,f2,s];have e:4*2^w*n=2*(2^w*(2*n)):=by{rw[cx _ 2 n,af 4];omega};rw[e];have h4:=r A;have z:2*c*2^w=(2*c-1)*2^w+2^w:=by{rw[<-mh];congr 1;omega};have:¬ 2*d<=(2*c-1)*2^w*(2*n):=fun h=>by{have:=(l ((2*c-1)*2^w)).2 h;omega};rw[z,bb];omega};{have W:q<9007199254740992*2^t:=by{have b:2^(L+1)<=2^53*2^t:=by{rw[<-ap];exact cc (by decide) (by omega)};rw[B]at b;omega};rw[f]at W;have u:2*c*2^w<(2*9007199254740992+1)*2^w:=by{rw[bb,af 2 9007199254740992];omega};have:=gq u;omega};{have aa:t=L-52:=by{omega};have E:4503599627370496*2^t<=q:=by{rw[<-N,<-ap,aa,show 52+(L-52)=L by omega];exact q1};refine⟨?_,?_⟩;{rw[f]at E;have u:(2*4503599627370496)*2^w<=(2*c+1)*2^w:=by{rw[af 2 4503599627370496];omega};have:=dv u wp;omega};{rw[fg,du,f2];rw[f]at E;have e4:4503599627370496*2^w*2=2*(4503599627370496*2^w):=by{omega};have:=(g (2*(4503599627370496*2^w))).1 (by omega);rw[af 2]at this;omega}}
theorem aQ1 (neg:Bool)(i h:Nat)(p:i<aQ)(q:h<aQ)(n1:i≠0)(j:h≠0) :
  ∃r,FloatKind.f64.format.div ((if neg then 9223372036854775808 else 0)+i) h=some ((if neg then 9223372036854775808 else 0)+r)/\bY (aV i*2^1074) (aV h) r:=by
 obtain⟨g,p1,n,w,v1,v,u⟩:=rW neg i p;obtain⟨f,p2,l,y,v2,k,A⟩:=rW false h q;have o:FloatKind.f64.format.read h=.number false f p2:=by{rw[ac (by decide),be]at l;exact l};obtain⟨more,m⟩:∃x,54+f.log2-g.log2=x:=⟨_,rfl⟩;obtain⟨hq,P,s,t⟩:=aPN g f p1 p2 more (v n1) (k j) u m;refine⟨_,?_,mT _ _ _ _ _ (cn (kr (k j)) (ay _)) (by rw[v2];exact cn (kr (k j)) (ay _)) ?_ t⟩;{unfold Ieee.Format.div;rw[n,o,aFU];unfold Ieee.Datum.quotient;simp only[];rw[ac (k j),show 52+2+f.log2-g.log2=more from m];show some (FloatKind.f64.format.write (.number (neg ^^ false) _ _))=_;rw[Bool.xor_false,<-s,aAQ _ _ _ hq]}
 ·rw[v1,v2];have e:2^(more+1)*2^(P+1074).toNat*2^(p2+1074).toNat=2^(p1+1074).toNat*2^1074*2^(-(P+1074)).toNat:=by{obtain ⟨zz,hzz⟩:∃zz,1074=zz:=⟨_,rfl⟩;rw[hzz];rw[<-ap,<-ap,<-ap,<-ap];congr 1;omega};rw[bz]at e;generalize (2:Nat)^1074=z at *;generalize (2:Nat)^more=x at *;generalize (2:Nat)^(P+1074).toNat=a at *;generalize (2:Nat)^(p2+1074).toNat=b at *;generalize (2:Nat)^(p1+1074).toNat=c at *;generalize (2:Nat)^(-(P+1074)).toNat=d at *
  calc 2*(g*x)*a*(f*b)=g*f*(x*2*a*b):=by ac_rfl
   _=g*f*(c*z*d):=by rw[e]
   _=g*c*z*(f*d):=by ac_rfl
open Go.RowKit
def sgn (neg:Bool):Nat:=if neg then 9223372036854775808 else 0
theorem aB1 (neg:Bool):gH (sgn neg):=by cases neg<;>simp[sgn,gH]
theorem aD0 (r:Nat)(h:r<=aQ):bY (aV r) 1 r:=by
 refine⟨h,fun q hq=>?_,fun _=>?_⟩;{have:=jP q r (by omega);exact⟨by omega,fun _=>by omega⟩};{have:=jP r (r+1) (by omega);exact⟨by omega,fun _=>by omega⟩}
theorem aFt (A B r X:Nat)(a:0<B)(h:bY A B r)(c:A<=aV X*B):r<=X:=by
 refine fo fun b=>?_;obtain⟨q,hq⟩:∃q,r=q+1:=⟨r-1,by omega⟩;have:=(h.lo q hq).1;have v1:=qV X q (by omega);have v2:=jP X r b;have:(aV q+aV r)*B<=(2*aV X)*B:=by{rw[af];omega};have:=dv this a;omega
theorem aSE (A B r X:Nat)(a:0<B)(h:bY A B r)(d:X<=aQ)(c:aV X*B<=A):X<=r:=by
 refine fo fun b=>?_;have:=(h.hi (by omega)).1;have v1:=qV (r+1) X (by omega);have v2:=jP r X b;have:(2*aV X)*B<=(aV r+aV (r+1))*B:=by{rw[af];omega};have:=dv this a;omega
theorem aDy (m:Nat)(c:m≠0)(h:m<9007199254740992):∃r,r<aQ/\r≠0/\aV r=m*2^1074:=by
 obtain⟨L,d⟩:∃L,m.log2=L:=⟨_,rfl⟩;obtain⟨a,b⟩:=(og c).1 d;have g:L<=52:=by{refine fo fun f=>?_;have:2^53<=2^L:=cc (by decide) (by omega);have e:(2:Nat)^53=9007199254740992:=by{decide};omega};have lo:4503599627370496<=m*2^(52-L):=by{have:=au (2^(52-L)) a;rw[<-ap,show L+(52-L)=52 by omega]at this;exact this};have hi:m*2^(52-L)<9007199254740992:=by{have:=d7 b (ay (52-L));rw[<-ap,show L+1+(52-L)=53 by omega]at this;exact this};refine⟨(1022+L)*4503599627370496+m*2^(52-L),by unfold aQ;omega,by omega,?_⟩;rw[kU _ _ hi (.inl lo),af,<-ap];congr 2;omega
theorem aCH (m:Nat)(a:m≠0)(h:m<9007199254740992):floatOfInt .f64 (m:Int)<aQ/\floatOfInt .f64 (m:Int)≠0/\aV (floatOfInt .f64 (m:Int))=m*2^1074:=by
 obtain⟨r,b,g,c⟩:=aDy m a h;have e:floatOfInt .f64 (m:Int)=mU m 0:=by{have:=aAo (decide ((m:Int)<0)) (m:Int).natAbs 0 (by omega);show FloatKind.f64.format.nearest (decide ((m:Int)<0)) (m:Int).natAbs 0=_;rw[this,bp (by omega),ac (by decide),Int.natAbs_natCast,be]};have hr:=aIh m 0 a;have d:((0:Int)+1074).toNat=1074:=by{decide};have f:(-((0:Int)+1074)).toNat=0:=by{decide};rw[d,f,fg,<-c]at hr;have:=tQ _ _ _ _ (by decide) hr (aD0 r (b9 b));rw[e,this];exact⟨b,g,c⟩
theorem aK0 (f:Nat)(h:f<9223372036854775808):Op.negFloat .f64 f=9223372036854775808+f:=by
 show f ^^^ 2^(FloatKind.f64.format.exponentBits+FloatKind.f64.format.fractionBits)=_;have e:FloatKind.f64.format.exponentBits+FloatKind.f64.format.fractionBits=63:=by{kernel_rfl};rw[e];have d:=vg (a:=f) (b:=2^63) (n:=63);have r:=vi (a:=f) (b:=2^63) (n:=63);have c:(2:Nat)^63=9223372036854775808:=by{decide};rw[c]at d r ⊢;rw[mc h,tf (by decide),Nat.zero_xor]at d;rw[l9 h,tg,Nat.xor_zero]at r;omega
theorem aLL (neg:Bool)(m:Nat)(b:m≠0)(h:m<9007199254740992):dM neg m=sgn neg+floatOfInt .f64 (m:Int):=by
 obtain⟨a,_,_⟩:=aCH m b h;have a:floatOfInt .f64 (m:Int)<9218868437227405312:=a;cases neg;{rw[aDn];simp[sgn]};{rw[aDm,aK0 _ (by omega)];simp[sgn]}
def aFk (p:Nat):Prop:=iA.getD p 0<aQ/\iA.getD p 0≠0/\aV (iA.getD p 0)=10^p*2^1074
instance (p:Nat):Decidable (aFk p):=by unfold aFk;exact inferInstance
theorem aQq:((List.range 23).all fun p=>decide (aFk p))=true:=by kernel_rfl
theorem aDs (p:Nat)(h:p<=22):aFk p:=bv (di.1 aQq p (fq.2 (by omega)))
theorem mG (neg:Bool)(b:Nat)(h:b<aQ):cl (sgn neg+b)=0/\kv (sgn neg+b)=(if neg then -(aV b:Int)else aV b):=by
 obtain⟨a,pl,e,l,v,_⟩:=rW neg b h;unfold cl kv;have c:FloatKind.f64.format.read (sgn neg+b)=.number neg a pl:=e;rw[c];refine⟨rfl,?_⟩;show Ieee.signed neg a (pl+1074).toNat=_;unfold Ieee.signed;rw[nh,<-v]
theorem aMv (neg:Bool)(b X:Nat)(h:b<aQ)(d:X<b) :
  (FloatKind.f64.format.order (sgn neg+b) X==some .gt)=true\/((FloatKind.f64.format.order (sgn neg+b) X==some .gt)=false/\(FloatKind.f64.format.order (sgn neg+b) (9223372036854775808+X)==some .lt)=true):=by
 have v:=jP X b d;obtain⟨c1,k1⟩:=mG neg b h;obtain⟨c2,k2⟩:=mG false X (by omega);obtain⟨c3,k3⟩:=mG true X (by omega);have s0:sgn false+X=X:=by{simp[sgn]};have s1:sgn true+X=9223372036854775808+X:=by{simp[sgn]};rw[s0]at c2 k2;rw[s1]at c3 k3;cases neg
 ·left;have:=(aF3 (sgn false+b) X).2 ⟨⟨by omega,by omega⟩,by
   rw[c1,c2,k1,k2];unfold kO;simp;omega⟩
  exact this
 ·right;refine⟨?_,?_⟩;{have c:=aF3 (sgn true+b) X;cases hh:FloatKind.f64.format.order (sgn true+b) X==some .gt with|false=>rfl|true=>{have a:=(c.1 hh).2;rw[c1,c2,k1,k2]at a;unfold kO at a;simp at a;split at a;{cases a};{omega}}}
  ·have:=(aKW (sgn true+b) (9223372036854775808+X)).2 ⟨⟨by omega,by omega⟩,by
    rw[c1,c3,k1,k3];unfold kO;simp;omega⟩
   exact this
def aMb (m i:Nat)(neg:Bool)(w:H)(e:Ending)(w':H):Prop :=
 (∃r,bY (bN m i) (aK i) r/\r<aQ/\e=.returned (.tuple #[.float .f64 (sgn neg+r),.bool true])/\w=w')\/oW w e w'
theorem aFz (m p z:Nat):m*z*(p*z)*1=m*p*z*z:=by rw[du];ac_rfl
theorem xE (m p:Nat):bN m (348+p)=m*10^p*2^1074/\aK (348+p)=1:=by
 unfold bN aK;rw[show 348+p-348=p by omega,show 348-(348+p)=0 by omega];exact⟨rfl,rfl⟩
theorem aEh (m i:Nat)(neg:Bool)(y:m≠0)(hi:i<696) :
  (∃r,r<aQ/\bY (bN m i) (aK i) r/\∀w,aA w->Y 244 #[.int .u64 m,.int .i64 ((i:Int)-348),.bool neg] w fun e w'=>e=.returned (.tuple #[.float .f64 (sgn neg+r),.bool true])/\w=w') \/
  (∀w,aA w->Y 244 #[.int .u64 m,.int .i64 ((i:Int)-348),.bool neg] w (oW w)):=by
 by_cases c:m<4503599627370496
 ·obtain⟨l,x,t⟩:=aCH m y (by omega);have u:=aLL neg m y (by omega);by_cases c0:i=348
  ·subst c0;refine .inl ⟨_,l,?_,fun w T=>?_⟩
   ·have:=xE m 0;rw[il,fg,du,<-t]at this
    rw[this.1,this.2];exact aD0 _ (b9 l)
   ·have:=aKr m neg w T c;rw[u]at this
    exact this
  ·by_cases c1:348<i/\i<=370
   ·obtain⟨p,rfl⟩:∃p,i=348+p:=⟨i-348,by omega⟩
    have g:((348+p:Nat):Int)-348=(p:Int):=by omega
    rw[g];obtain⟨o,s,f⟩:=aDs p (by omega);obtain⟨r,h,hr⟩:=aGe neg _ _ l o x s;have d:bY (bN m (348+p)) (aK (348+p)) r:=by
     obtain⟨a,b⟩:=xE m p;refine mT _ _ _ _ _ (ay _) (fA _) ?_ hr;rw[a,b,t,f];exact aFz _ _ _
    have n:r<aQ:=by
     have:=aFt _ _ r 9006104071832581120 (fA _) d (by
      obtain⟨a,b⟩:=xE m p;rw[a,b,du];have:m*10^p<=4503599627370496*10^22:=ia (by omega) (cc (by decide) (by omega));refine bg (au _ this) ?_;exact bv (by kernel_rfl))
     unfold aQ;omega
    cases hg1:FloatKind.f64.format.order (dM neg m) 4831355200913801216==some .gt with
    | true=>exact .inr fun w T=>(aCx m p neg w T c (by omega) (by omega) (.inl hg1))
    | false =>
     cases hg2:FloatKind.f64.format.order (dM neg m) 14054727237768577024==some .lt with
     | true=>exact .inr fun w T=>(aCx m p neg w T c (by omega) (by omega) (.inr ⟨hg1,hg2⟩))
     | false =>
      exact .inl ⟨r,n,d,fun w T=>(aKs m p neg (sgn neg+r) w T c (by omega) (by omega) hg1 hg2 (by rw[u];exact h))⟩
   ·by_cases c2:370<i/\i<=385
    ·obtain⟨p,rfl⟩:∃p,i=348+p:=⟨i-348,by omega⟩
     have g:((348+p:Nat):Int)-348=(p:Int):=by omega
     rw[g];obtain⟨q,hq⟩:∃q,q+22=p:=⟨p-22,by omega⟩
     obtain⟨o,s,f⟩:=aDs q (by omega);obtain⟨r1,E,M⟩:=aGe neg _ _ l o x s;have v:bY (m*10^q*2^1074) 1 r1:=by
      refine mT _ _ _ _ _ (ay _) (by decide) ?_ M;rw[t,f];exact aFz _ _ _
     have j:floatBits .mul .f64 (dM neg m) (iA.getD q 0)=some (sgn neg+r1):=by rw[u];exact E
     have C:r1<aQ:=by
      have:=aFt _ _ r1 9006104071832581120 (by decide) v (by
       rw[du];have:m*10^q<=4503599627370496*10^22:=ia (by omega) (cc (by decide) (by omega));refine bg (au _ this) ?_;exact bv (by kernel_rfl))
      unfold aQ;omega
     by_cases hx:m*10^q<9007199254740992
     ·have L:m*10^q≠0:=Nat.mul_ne_zero y (Nat.ne_of_gt (b7 (by decide)));obtain⟨r1',A,F,B⟩:=aDy (m*10^q) L hx;have D:r1=r1':=by
       rw[<-B]at v
       exact tQ _ _ _ _ (by decide) v (aD0 r1' (b9 A))
      obtain⟨u1,u2,u3⟩:=aDs 22 (by omega);rw[D]at j C
      obtain⟨r,h,hr⟩:=aGe neg _ _ A u1 F u2;have d:bY (bN m (348+p)) (aK (348+p)) r:=by
       obtain⟨a,b⟩:=xE m p;refine mT _ _ _ _ _ (ay _) (fA _) ?_ hr;rw[a,b,B,u3];generalize (2:Nat)^1074=z;rw[aFz,<-hq,ap,af m]
      have n:r<aQ:=by
       have:=aFt _ _ r 9006104071832581120 (fA _) d (by
        obtain⟨a,b⟩:=xE m p;rw[a,b,du,<-hq,ap,<-af m];have:m*10^q*10^22<=9007199254740992*10^22:=au _ (by omega);refine bg (au _ this) ?_;exact bv (by kernel_rfl))
       unfold aQ;omega
      cases hg1:FloatKind.f64.format.order (sgn neg+r1') 4831355200913801216==some .gt with
      | true=>exact .inr fun w T=>(vU m p q neg _ w T c (by omega) (by omega) hq j (.inl hg1))
      | false =>
       cases hg2:FloatKind.f64.format.order (sgn neg+r1') 14054727237768577024==some .lt with
       | true=>exact .inr fun w T=>(vU m p q neg _ w T c (by omega) (by omega) hq j (.inr ⟨hg1,hg2⟩))
       | false =>
        exact .inl ⟨r,n,d,fun w T=>(aIJ m p q neg _ (sgn neg+r) w T c (by omega) (by omega) hq j hg1 hg2 h)⟩
     ·have:4845873199050653696<=r1:=aSE _ _ r1 4845873199050653696 (by decide) v (by decide) (by
       rw[du];refine bg ?_ (au _ (show 9007199254740992<=m*10^q by omega));exact bv (by kernel_rfl))
      exact .inr fun w T=>(vU m p q neg _ w T c (by omega) (by omega) hq j (aMv neg r1 4831355200913801216 C (by omega)))
    ·by_cases c3:326<=i/\i<348
     ·obtain⟨p,rfl⟩:∃p,i=348-p:=⟨348-i,by omega⟩
      have g:((348-p:Nat):Int)-348=-(p:Int):=by omega
      rw[g];obtain⟨o,s,f⟩:=aDs p (by omega);obtain⟨r,h,hr⟩:=aQ1 neg _ _ l o x s;have a:bN m (348-p)=m*2^1074:=by
       unfold bN;rw[show 348-p-348=0 by omega,fg,du]
      have b:aK (348-p)=10^p:=by
       unfold aK;rw[show 348-(348-p)=p by omega]
      have d:bY (bN m (348-p)) (aK (348-p)) r:=by
       refine mT _ _ _ _ _ (by rw[f];exact cn (b7 (by decide)) (ay 1074)) (fA _) ?_ hr;rw[a,b,t,f];generalize (2:Nat)^1074=z;ac_rfl
      have n:r<aQ:=by
       have:=aFt _ _ r 9006104071832581120 (fA _) d (by
        rw[a,b];have J:1<=10^p:=b7 (by decide);have K:m*2^1074<=aV 9006104071832581120:=by
         refine bg (au _ (b9 c)) ?_;exact bv (by kernel_rfl)
        exact bg K (nr _ J))
       unfold aQ;omega
      exact .inl ⟨r,n,d,fun w T=>(aKp m p neg (sgn neg+r) w T c (by omega) (by omega) (by rw[u];exact h))⟩
     ·exact .inr fun w T=>(aKq m ((i:Int)-348) neg w T c (by omega))
 ·exact .inr fun w T=>(aHb m ((i:Int)-348) neg w T (by omega))
theorem aKt (m i:Nat)(neg:Bool)(w:H)(T:aA w)(c:m≠0)(hi:i<696) :
  Y 244 #[.int .u64 m,.int .i64 ((i:Int)-348),.bool neg] w (aMb m i neg w):=by
 rcases aEh m i neg c hi with⟨r,a,b,h⟩|h;{exact(h w T).mono fun _ _ g=>.inl ⟨r,b,a,g⟩};{exact(h w T).mono fun _ _ g=>.inr g}
