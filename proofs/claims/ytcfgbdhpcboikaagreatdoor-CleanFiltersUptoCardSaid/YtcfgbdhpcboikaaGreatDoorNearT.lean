/-
The model's rounding finds the nearest rung: of whole numbers, products and quotients. No program in sight.
-/
import Derived.Test.YtcfgbdhpcboikaaGreatDoorCmp
namespace Go.Proofs.YtcfgbdhpcboikaaGreatDoor
set_option maxHeartbeats 2000000
theorem aRW (n:Nat):1 <<< n=2^n:=by rw[m5,cr]
theorem aEQ (neg:Bool)(n drop c:Nat)(h:Ieee.Toward.even.cut neg n drop=c) :
  (2*n<=(2*c+1)*2^drop/\(c%2=1->2*n<(2*c+1)*2^drop))/\((2*c)*2^drop<=2*n+2^drop/\(c%2=1->(2*c)*2^drop<2*n+2^drop)):=by
 unfold Ieee.Toward.cut at h;simp only[aRW]at h;by_cases hd:drop<=n.log2+2;{rw[mz hd]at h;have m:=ar drop;generalize 2^drop=g at *;have e:=k7 n g;have l:=gf n m;generalize n / g=a at *;generalize n%g=r at *;have j:∀x,(2*x+1)*g=2*(g*x)+g:=fun x=>by{rw[ba,cr,ag,bn x]};have f:∀x,2*x*g=2*(g*x):=fun x=>by{rw[ag,bn x]};rw[j,f];by_cases d:g<2*r;{have:c=a+1:=by{simpa [d]using h.symm};subst this;rw[fv,df];omega};{by_cases b:g=2*r/\a%2=1;{have:c=a+1:=by{rw[<-h];simp[b.1,b.2]};subst this;rw[fv,df];omega};{have:c=a:=by{rw[<-h];have:(decide (g<2*r)||g==2*r&&a%2==1)=false:=by{rw[bo d,jl,i6];by_cases i:g=2*r;{right;rw[ai];exact fun k=>b ⟨i,k⟩};{left;rw[ai];exact i}};rw[this];rfl};subst this;omega}}};{rw[oc (by omega)]at h;have q:n<2^(n.log2+1):=Nat.lt_log2_self;have f:2^(n.log2+2)=2*2^(n.log2+1):=by{rw[bz,bn]};have p:2^(n.log2+2)<=2^drop:=b8 (by decide) (by omega);generalize 2^(n.log2+2)=g at *;generalize 2^(n.log2+1)=g1 at *;generalize 2^drop=G' at *;have d0:n / g=0:=lr (by omega);have o:n%g=n:=lj (by omega);have:c=0:=by{rw[<-h,d0,o];have:(decide (g<2*n)||g==2*n&&(0:Nat)%2==1)=false:=by{rw[bo (by omega),jl];simp};rw[this];rfl};subst this;omega}
def lO (mag:Nat)(place:Int):Nat:=min ((max (place+mag.log2-(52:Nat)) (-1074) - -1074).toNat*4503599627370496+Ieee.Toward.even.cut false (mag <<< (place-max (place+mag.log2-(52:Nat)) (-1074)).toNat) (max (place+mag.log2-(52:Nat)) (-1074)-place).toNat) aL
theorem aLG (neg:Bool)(n d:Nat):Ieee.Toward.even.cut neg n d=Ieee.Toward.even.cut false n d:=rfl
theorem yN (neg:Bool)(a:Nat)(place:Int)(h:a≠0):FloatKind.f64.format.nearest neg a place=(if neg then 9223372036854775808 else 0)+lO a place:=by
 unfold Ieee.Format.nearest lO;rw[ae h,least,aEY,aBI,aG2];simp only[];rw[aLG];unfold Ieee.Format.word;rw[aEZ];have e:aL=2047*4503599627370496:=by{decide};rw[e];split<;>simp
theorem aHk (d:Nat)(e:Int)(h:d≠0):bI (d*2^(e+1074).toNat) (2^(-(e+1074)).toNat) (lO d e):=by
 obtain⟨L,B⟩:∃L,d.log2=L:=⟨_,rfl⟩;obtain⟨N,P⟩:=(nt h).1 B;obtain⟨last,E⟩:∃last,max (e+d.log2-(52:Nat)) (-1074)=last:=⟨_,rfl⟩;obtain⟨c,C⟩:∃c,Ieee.Toward.even.cut false (d <<< (e-last).toNat) (last-e).toNat=c:=⟨_,rfl⟩;have R:lO d e=min ((last - -1074).toNat*4503599627370496+c) aL:=by{unfold lO;rw[E,C]};rw[R];rw[B]at E;obtain⟨⟨l,m⟩,n,o⟩:=aEQ false _ _ c C;rw[m5]at l m n o;obtain⟨k,S⟩:∃k,(last - -1074).toNat=k:=⟨_,rfl⟩;rw[S];obtain⟨s,W⟩:∃s,(e-last).toNat=s:=⟨_,rfl⟩;obtain⟨t,X⟩:∃t,(last-e).toNat=t:=⟨_,rfl⟩;obtain⟨u,hu⟩:∃u,(e+1074).toNat=u:=⟨_,rfl⟩;obtain⟨v,hv⟩:∃v,(-(e+1074)).toNat=v:=⟨_,rfl⟩;rw[W,X]at l m n o;rw[hu,hv];have al:s=0\/t=0:=by{omega};have an:u=0\/v=0:=by{omega};have ad:(k:Int)=last+1074:=by{omega};have E1:k+v+s=u+t:=by{omega};have V:0<2^s:=ar s;have conv:∀x:Nat,x*2^s*2^(k+v)=x*2^u*2^t:=fun x=>by{rw[ag,<-aj,ag,<-aj];congr 2;omega}
 have kv:2^(k+v)=2^k*2^v:=aj _ _ _;have i:=ar t;have F:=ar (k+v);have r:2*(d*2^u)<=(2*c+1)*2^k*2^v:=by
  refine dh (c:=2^t) ?_ i;have:=ap (2^(k+v)) l
  calc 2*(d*2^u)*2^t=2*(d*2^s)*2^(k+v):=by rw[ag,ag 2,<-conv d]
   _<=(2*c+1)*2^t*2^(k+v):=this
   _=(2*c+1)*2^k*2^v*2^t:=by rw[kv];ac_rfl
 have ab:c%2=1->2*(d*2^u)<(2*c+1)*2^k*2^v:=fun p=>by
  refine gj (a:=2^t) ?_;have:=di (m p) F
  calc 2*(d*2^u)*2^t=2*(d*2^s)*2^(k+v):=by rw[ag,ag 2,<-conv d]
   _<(2*c+1)*2^t*2^(k+v):=this
   _=(2*c+1)*2^k*2^v*2^t:=by rw[kv];ac_rfl
 have q:2*c*2^k*2^v<=2*(d*2^u)+2^k*2^v:=by
  refine dh (c:=2^t) ?_ i;have:=ap (2^(k+v)) n
  calc 2*c*2^k*2^v*2^t=2*c*2^t*2^(k+v):=by rw[kv];ac_rfl
   _<=(2*(d*2^s)+2^t)*2^(k+v):=this
   _=(2*(d*2^u)+2^k*2^v)*2^t:=by
    rw[ba,ba,ag 2,conv d,kv,ag 2,bn (2^t)]
 have aa:c%2=1->2*c*2^k*2^v<2*(d*2^u)+2^k*2^v:=fun p=>by
  refine gj (a:=2^t) ?_;have:=di (o p) F
  calc 2*c*2^k*2^v*2^t=2*c*2^t*2^(k+v):=by rw[kv];ac_rfl
   _<(2*(d*2^s)+2^t)*2^(k+v):=this
   _=(2*(d*2^u)+2^k*2^v)*2^t:=by
    rw[ba,ba,ag 2,conv d,kv,ag 2,bn (2^t)]
 have K:(2:Nat)^53=9007199254740992:=by{decide};have J:(2:Nat)^52=4503599627370496:=by{decide};have ac:c<=9007199254740992:=by{have:d*2^s<2^53*2^t:=by{have a:d*2^s<2^(L+1)*2^s:=di P V;have b:2^(L+1)*2^s<=2^53*2^t:=by{rw[<-aj,<-aj];exact b8 (by decide) (by omega)};omega};rw[K]at this;have f:2*c*2^t<(2*9007199254740992+1)*2^t:=by{rw[ba,ag 2 9007199254740992];omega};have:=gj f;omega};have w:k≠0->4503599627370496<=c/\4503599627370496*2^t<=d*2^s:=fun g=>by{have:2^52*2^t<=d*2^s:=by{have a:2^L*2^s<=d*2^s:=ap _ N;have b:2^52*2^t<=2^L*2^s:=by{rw[<-aj,<-aj];exact b8 (by decide) (by omega)};omega};rw[J]at this;refine⟨?_,this⟩;have f:(2*4503599627370496)*2^t<=(2*c+1)*2^t:=by{rw[ag 2 4503599627370496];omega};have:=dh f i;omega}
 have base:k≠0->4503599627370496*2^k*2^v<=d*2^u:=fun g=>by
  obtain⟨_,f⟩:=w g;refine dh (c:=2^t) ?_ i;have:=ap (2^(k+v)) f
  calc 4503599627370496*2^k*2^v*2^t=4503599627370496*2^t*2^(k+v):=by rw[kv];ac_rfl
   _<=d*2^s*2^(k+v):=this
   _=d*2^u*2^t:=conv d
 by_cases Q:c=9007199254740992;{have M:k*4503599627370496+c=(k+1)*4503599627370496+4503599627370496:=by{omega};rw[M];have A:∀y:Nat,2^(k+1)*y=2*(2^k*y):=fun y=>by{rw[bz];ac_rfl};rw[Q]at r q;refine aAi _ _ (k+1) 4503599627370496 (by omega) (.inl (ah _)) ⟨?_,fun h=>by omega⟩ (fun h=>by omega) ?_;{rw[ag,A];rw[ag]at r;omega};{intro j D _;obtain rfl:j=k:=by{omega};rw[ag];rw[ag]at q;omega}};{refine aAi _ _ k c (by omega) ?_ ⟨r,ab⟩ (fun _=>⟨q,aa⟩) ?_;{by_cases g:k=0;{exact .inr g};{exact .inl (w g).1}};{intro j D T;have b:=base (by omega);rw[T];have A:4*4503599627370496*2^j*2^v=2*(4503599627370496*2^k*2^v):=by{rw[D,bz];generalize 2^j=y;generalize 2^v=z;have:4503599627370496*(y*2)*z=2*(4503599627370496*(y*z)):=by{ac_rfl};rw[this,ag 4,ag 4,ag 4503599627370496];omega};omega}}
theorem qJ (neg:Bool)(b:Nat)(h:b<aL):∃a d,FloatKind.f64.format.read ((if neg then 9223372036854775808 else 0)+b)=.number neg a d/\(-1074:Int)<=d/\aP b=a*2^(d+1074).toNat/\(b≠0->a≠0)/\a<9007199254740992:=by
 have g:b<9218868437227405312:=h;unfold Ieee.Format.read;simp only[aEZ,aBI,aG2,least];have e:((if neg then 9223372036854775808 else 0)+b)%9223372036854775808=b:=by{cases neg<;>simp<;>omega};have f:(((if neg then 9223372036854775808 else 0)+b) / 9223372036854775808%2==1)=neg:=by{cases neg;{have:(0+b) / 9223372036854775808=0:=by{omega};simp;omega};{have:(9223372036854775808+b) / 9223372036854775808=1:=by{omega};simp[this]}};rw[e,f];by_cases c:b<4503599627370496;{rw[af c];refine⟨b,-1074,rfl,ig _,?_,fun h=>h,by omega⟩;unfold aP;rw[af c];simp};{rw[ae c,af (by omega)];refine⟨_,_,rfl,by omega,?_,fun _=>by omega,by omega⟩;unfold aP;rw[ae c];congr 2;omega}
theorem zV (neg:Bool)(a:Nat)(place:Int)(h:a≠0):FloatKind.f64.format.write (.number neg a place)=(if neg then 9223372036854775808 else 0)+lO a place:=yN neg a place h
theorem aFk (neg:Bool)(i h:Nat)(n:i<aL)(o:h<aL)(p:i≠0)(q:h≠0) :
  ∃r,FloatKind.f64.format.mul ((if neg then 9223372036854775808 else 0)+i) h=some ((if neg then 9223372036854775808 else 0)+r)/\bI (aP i*aP h) (2^1074) r:=by
 obtain⟨g,p1,l,u,v1,s,w⟩:=qJ neg i n;obtain⟨f,p2,j,v,v2,t,x⟩:=qJ false h o;have m:FloatKind.f64.format.read h=.number false f p2:=by{rw[ae (by decide),bw]at j;exact j};have k:g*f≠0:=Nat.mul_ne_zero (s p) (t q);refine⟨lO (g*f) (p1+p2),?_,?_⟩;{unfold Ieee.Format.mul;rw[l,m];show some (FloatKind.f64.format.write (.number (neg ^^ false) (g*f) (p1+p2)))=_;rw[Bool.xor_false,zV _ _ _ k]}
 ·refine lN _ _ _ _ _ (ar _) (ar 1074) ?_ (aHk (g*f) (p1+p2) k);rw[v1,v2];have e:2^(p1+p2+1074).toNat*2^1074=2^(p1+1074).toNat*2^(p2+1074).toNat*2^(-(p1+p2+1074)).toNat:=by{obtain ⟨zz,hzz⟩:∃zz,1074=zz:=⟨_,rfl⟩;rw[hzz];rw[<-aj,<-aj,<-aj];congr 1;omega};generalize (2:Nat)^1074=z at *;generalize (2:Nat)^(p1+p2+1074).toNat=a at *;generalize (2:Nat)^(p1+1074).toNat=b at *;generalize (2:Nat)^(p2+1074).toNat=c at *;generalize (2:Nat)^(-(p1+p2+1074)).toNat=d at *
  calc g*f*a*z=g*f*(a*z):=by ac_rfl
   _=g*f*(b*c*d):=by rw[e]
   _=g*b*(f*c)*d:=by ac_rfl
theorem aOY (A B c k s t u v:Nat)(L:k+v+s=u+t)
  (p:2*(A*2^s)<=(2*c+1)*2^t*B) (q:c%2=1->2*(A*2^s)<(2*c+1)*2^t*B)
  (r:2*c*2^t*B<=2*(A*2^s)+2^t*B) (w:c%2=1->2*c*2^t*B<2*(A*2^s)+2^t*B)
  (M:c<=9007199254740992) (l:k≠0->4503599627370496<=c/\4503599627370496*2^t*B<=A*2^s) :
  bI (A*2^u) (B*2^v) (min (k*4503599627370496+c) aL):=by
 have conv:∀x:Nat,x*2^s*2^(k+v)=x*2^u*2^t:=fun x=>by{rw[ag,<-aj,ag,<-aj];congr 2;omega}
 have kv:2^(k+v)=2^k*2^v:=aj _ _ _;have g:=ar t;have o:=ar (k+v);have i:2*(A*2^u)<=(2*c+1)*2^k*(B*2^v):=by
  refine dh (c:=2^t) ?_ g;have:=ap (2^(k+v)) p
  calc 2*(A*2^u)*2^t=2*(A*2^s)*2^(k+v):=by rw[ag,ag 2,<-conv A]
   _<=(2*c+1)*2^t*B*2^(k+v):=this
   _=(2*c+1)*2^k*(B*2^v)*2^t:=by rw[kv];ac_rfl
 have K:c%2=1->2*(A*2^u)<(2*c+1)*2^k*(B*2^v):=fun e=>by
  refine gj (a:=2^t) ?_;have:=di (q e) o
  calc 2*(A*2^u)*2^t=2*(A*2^s)*2^(k+v):=by rw[ag,ag 2,<-conv A]
   _<(2*c+1)*2^t*B*2^(k+v):=this
   _=(2*c+1)*2^k*(B*2^v)*2^t:=by rw[kv];ac_rfl
 have f:2*c*2^k*(B*2^v)<=2*(A*2^u)+2^k*(B*2^v):=by
  refine dh (c:=2^t) ?_ g;have:=ap (2^(k+v)) r
  calc 2*c*2^k*(B*2^v)*2^t=2*c*2^t*B*2^(k+v):=by rw[kv];ac_rfl
   _<=(2*(A*2^s)+2^t*B)*2^(k+v):=this
   _=(2*(A*2^u)+2^k*(B*2^v))*2^t:=by
    rw[ba,ba,ag 2,conv A,ag 2,kv];congr 1;ac_rfl
 have J:c%2=1->2*c*2^k*(B*2^v)<2*(A*2^u)+2^k*(B*2^v):=fun e=>by
  refine gj (a:=2^t) ?_;have:=di (w e) o
  calc 2*c*2^k*(B*2^v)*2^t=2*c*2^t*B*2^(k+v):=by rw[kv];ac_rfl
   _<(2*(A*2^s)+2^t*B)*2^(k+v):=this
   _=(2*(A*2^u)+2^k*(B*2^v))*2^t:=by
    rw[ba,ba,ag 2,conv A,ag 2,kv];congr 1;ac_rfl
 have base:k≠0->4503599627370496*2^k*(B*2^v)<=A*2^u:=fun d=>by
  obtain⟨_,C⟩:=l d;refine dh (c:=2^t) ?_ g;have:=ap (2^(k+v)) C
  calc 4503599627370496*2^k*(B*2^v)*2^t=4503599627370496*2^t*B*2^(k+v):=by rw[kv];ac_rfl
   _<=A*2^s*2^(k+v):=this
   _=A*2^u*2^t:=conv A
 generalize B*2^v=D at *;generalize A*2^u=N at *;by_cases E:c=9007199254740992;{have z:k*4503599627370496+c=(k+1)*4503599627370496+4503599627370496:=by{omega};rw[z];have m:∀y:Nat,2^(k+1)*y=2*(2^k*y):=fun y=>by{rw[bz];ac_rfl};rw[E]at i f;refine aAi _ _ (k+1) 4503599627370496 (by omega) (.inl (ah _)) ⟨?_,fun h=>by omega⟩ (fun h=>by omega) ?_;{rw[ag,m];rw[ag]at i;omega};{intro j n _;obtain rfl:j=k:=by{omega};rw[ag];rw[ag]at f;omega}};{refine aAi _ _ k c (by omega) ?_ ⟨i,K⟩ (fun _=>⟨f,J⟩) ?_;{by_cases d:k=0;{exact .inr d};{exact .inl (l d).1}};{intro j n F;have b:=base (by omega);rw[F];have m:4*4503599627370496*2^j*D=2*(4503599627370496*2^k*D):=by{rw[n,bz];generalize 2^j=y;have:4503599627370496*(y*2)*D=2*(4503599627370496*(y*D)):=by{ac_rfl};rw[this,ag 4,ag 4,ag 4503599627370496];omega};omega}}
theorem aON (m n:Nat)(i j:Int)(more:Nat)(S:m≠0)(V:n≠0)(hm:m<9007199254740992)(T:54+n.log2-m.log2=more) :
  2*(m <<< more / n)+(m <<< more%n !=0).toNat≠0/\∃P:Int,P=i-j-more-1 /\
  bI (2*(m*2^more)*2^(P+1074).toNat) (n*2^(-(P+1074)).toNat) (lO (2*(m <<< more / n)+(m <<< more%n !=0).toNat) P):=by
 obtain⟨d,hd⟩:∃d,m*2^more=d:=⟨_,rfl⟩;rw[m5,hd];have hn:0<n:=by{omega};obtain⟨q,hq⟩:∃q,2*(d / n)+(d%n !=0).toNat=q:=⟨_,rfl⟩;have qu:q=unr d (2*n):=by{unfold unr;rw[uv _ _ (by decide),uw,<-hq];congr 1;by_cases h:d%n=0;{simp[h]};{rw[ae (by omega)];simp[h]}};rw[hq];have g:=fun k=>fX d (2*n) k (by omega);have l:=fun k=>fI d (2*n) k (by omega);rw[<-qu]at g l;obtain⟨lm,K⟩:∃x,m.log2=x:=⟨_,rfl⟩;obtain⟨o,M⟩:∃x,n.log2=x:=⟨_,rfl⟩;obtain⟨m1,m2⟩:=(nt S).1 K;obtain⟨n1,n2⟩:=(nt V).1 M;have al:lm<=52:=by{refine ff fun h=>?_;have:2^53<=2^lm:=b8 (by decide) (by omega);have B:(2:Nat)^53=9007199254740992:=by{decide};omega};rw[K,M]at T;have ac:2^(54+o)<=d:=by{have:=ap (2^more) m1;rw[<-aj,hd,show lm+more=54+o by omega]at this;exact this}
 have an:18014398509481984<=q:=by
  have:=(g 9007199254740992).2 (by
   have a:9007199254740992*n<=9007199254740992*2^(o+1):=fe _ (b6 n2);have b:9007199254740992*2^(o+1)=2^(54+o):=by
    rw[show 9007199254740992=2^53 from rfl,<-aj];congr 1;omega
   rw[cq];omega)
  omega
 refine⟨by omega,_,rfl,?_⟩;obtain⟨P,Q⟩:∃P:Int,i-j-more-1=P:=⟨_,rfl⟩;rw[Q];obtain⟨L,D⟩:∃L,q.log2=L:=⟨_,rfl⟩;obtain⟨q1,q2⟩:=(nt (by omega)).1 D;have ab:54<=L:=by{refine ff fun h=>?_;have:2^(L+1)<=2^54:=b8 (by decide) (by omega);have ad:(2:Nat)^54=18014398509481984:=by{decide};omega};obtain⟨last,J⟩:∃last,max (P+q.log2-(52:Nat)) (-1074)=last:=⟨_,rfl⟩;obtain⟨c,F⟩:∃c,Ieee.Toward.even.cut false (q <<< (P-last).toNat) (last-P).toNat=c:=⟨_,rfl⟩;have R:lO q P=min ((last - -1074).toNat*4503599627370496+c) aL:=by{unfold lO;rw[J,F]};rw[R];rw[D]at J;obtain⟨⟨v,p⟩,y,r⟩:=aEQ false _ _ c F;rw[show(P-last).toNat=0 by omega,Nat.shiftLeft_zero]at v p y r;obtain⟨t,X⟩:∃t,(last-P).toNat=t:=⟨_,rfl⟩;rw[X]at v p y r;obtain⟨w,hw⟩:∃w,t=w+2:=⟨t-2,by omega⟩;have s:2^t=4*2^w:=by{rw[hw,aj];omega};have B:(2:Nat)^53=9007199254740992:=by{decide};have N:(2:Nat)^52=4503599627370496:=by{decide};have wp:=ar w;have f:∀x:Nat,x*2^t=2*(2*(x*2^w)):=fun x=>by{rw[s,cq];omega};rw[f]at v p;rw[f,s]at y r;have f2:∀x:Nat,x*2^t*n=2*(x*2^w*(2*n)):=fun x=>by{rw[f,cq _ 2 n];rw[ag 2,ag 2]};refine aOY (2*d) n c (last - -1074).toNat 0 t (P+1074).toNat (-(P+1074)).toNat (by omega) ?_ (fun A=>?_) ?_ (fun A=>?_) ?_ (fun hk=>?_);{rw[en,df,f2];have:=(l ((2*c+1)*2^w)).1 (by omega);omega};{rw[en,df,f2];have u:=p A;have:¬(2*c+1)*2^w*(2*n)<=2*d:=fun h=>by{have:=(g ((2*c+1)*2^w)).2 h;omega};omega};{rw[en,df,f2,s];have e:4*2^w*n=2*(2^w*(2*n)):=by{rw[cq _ 2 n,ag 4];omega};rw[e];rcases gp c with C|C;{rw[C];simp};{have z:2*c*2^w=(2*c-1)*2^w+2^w:=by{rw[<-l6];congr 1;omega};have:=(g ((2*c-1)*2^w)).1 (by omega);rw[z,ba];omega}};{rw[en,df,f2,s];have e:4*2^w*n=2*(2^w*(2*n)):=by{rw[cq _ 2 n,ag 4];omega};rw[e];have h4:=r A;have z:2*c*2^w=(2*c-1)*2^w+2^w:=by{rw[<-l6];congr 1;omega};have:¬ 2*d<=(2*c-1)*2^w*(2*n):=fun h=>by{have:=(l ((2*c-1)*2^w)).2 h;omega};rw[z,ba];omega};{have W:q<9007199254740992*2^t:=by{have b:2^(L+1)<=2^53*2^t:=by{rw[<-aj];exact b8 (by decide) (by omega)};rw[B]at b;omega};rw[f]at W;have u:2*c*2^w<(2*9007199254740992+1)*2^w:=by{rw[ba,ag 2 9007199254740992];omega};have:=gj u;omega};{have aa:t=L-52:=by{omega};have E:4503599627370496*2^t<=q:=by{rw[<-N,<-aj,aa,show 52+(L-52)=L by omega];exact q1};refine⟨?_,?_⟩;{rw[f]at E;have u:(2*4503599627370496)*2^w<=(2*c+1)*2^w:=by{rw[ag 2 4503599627370496];omega};have:=dh u wp;omega};{rw[en,df,f2];rw[f]at E;have e4:4503599627370496*2^w*2=2*(4503599627370496*2^w):=by{omega};have:=(g (2*(4503599627370496*2^w))).1 (by omega);rw[ag 2]at this;omega}}
theorem aP1 (neg:Bool)(i h:Nat)(p:i<aL)(q:h<aL)(u:i≠0)(j:h≠0) :
  ∃r,FloatKind.f64.format.div ((if neg then 9223372036854775808 else 0)+i) h=some ((if neg then 9223372036854775808 else 0)+r)/\bI (aP i*2^1074) (aP h) r:=by
 obtain⟨g,p1,n,y,v1,w,v⟩:=qJ neg i p;obtain⟨f,p2,l,A,v2,k,B⟩:=qJ false h q;have o:FloatKind.f64.format.read h=.number false f p2:=by{rw[ae (by decide),bw]at l;exact l};obtain⟨more,m⟩:∃x,54+f.log2-g.log2=x:=⟨_,rfl⟩;obtain⟨hq,P,s,t⟩:=aON g f p1 p2 more (w u) (k j) v m;refine⟨_,?_,lN _ _ _ _ _ (cf (jv (k j)) (ar _)) (by rw[v2];exact cf (jv (k j)) (ar _)) ?_ t⟩;{unfold Ieee.Format.div;rw[n,o,aEY];unfold Ieee.Datum.quotient;simp only[];rw[ae (k j),show 52+2+f.log2-g.log2=more from m];show some (FloatKind.f64.format.write (.number (neg ^^ false) _ _))=_;rw[Bool.xor_false,<-s,zV _ _ _ hq]}
 ·rw[v1,v2];have e:2^(more+1)*2^(P+1074).toNat*2^(p2+1074).toNat=2^(p1+1074).toNat*2^1074*2^(-(P+1074)).toNat:=by{obtain ⟨zz,hzz⟩:∃zz,1074=zz:=⟨_,rfl⟩;rw[hzz];rw[<-aj,<-aj,<-aj,<-aj];congr 1;omega};rw[bz]at e;generalize (2:Nat)^1074=z at *;generalize (2:Nat)^more=x at *;generalize (2:Nat)^(P+1074).toNat=a at *;generalize (2:Nat)^(p2+1074).toNat=b at *;generalize (2:Nat)^(p1+1074).toNat=c at *;generalize (2:Nat)^(-(P+1074)).toNat=d at *
  calc 2*(g*x)*a*(f*b)=g*f*(x*2*a*b):=by ac_rfl
   _=g*f*(c*z*d):=by rw[e]
   _=g*c*z*(f*d):=by ac_rfl
open Go.RowKit
def sgn (neg:Bool):Nat:=if neg then 9223372036854775808 else 0
theorem aBf (neg:Bool):fM (sgn neg):=by cases neg<;>simp[sgn,fM]
theorem aC4 (r:Nat)(h:r<=aL):bI (aP r) 1 r:=by
 refine⟨h,fun q hq=>?_,fun _=>?_⟩;{have:=iL q r (by omega);exact⟨by omega,fun _=>by omega⟩};{have:=iL r (r+1) (by omega);exact⟨by omega,fun _=>by omega⟩}
theorem aEx (A B r X:Nat)(a:0<B)(h:bI A B r)(c:A<=aP X*B):r<=X:=by
 refine ff fun b=>?_;obtain⟨q,hq⟩:∃q,r=q+1:=⟨r-1,by omega⟩;have:=(h.lo q hq).1;have v1:=pL X q (by omega);have v2:=iL X r b;have:(aP q+aP r)*B<=(2*aP X)*B:=by{rw[ag];omega};have:=dh this a;omega
theorem aRF (A B r X:Nat)(a:0<B)(h:bI A B r)(d:X<=aL)(c:aP X*B<=A):X<=r:=by
 refine ff fun b=>?_;have:=(h.hi (by omega)).1;have v1:=pL (r+1) X (by omega);have v2:=iL r X b;have:(2*aP X)*B<=(aP r+aP (r+1))*B:=by{rw[ag];omega};have:=dh this a;omega
theorem aCB (m:Nat)(c:m≠0)(h:m<9007199254740992):∃r,r<aL/\r≠0/\aP r=m*2^1074:=by
 obtain⟨L,d⟩:∃L,m.log2=L:=⟨_,rfl⟩;obtain⟨a,b⟩:=(nt c).1 d;have g:L<=52:=by{refine ff fun f=>?_;have:2^53<=2^L:=b8 (by decide) (by omega);have e:(2:Nat)^53=9007199254740992:=by{decide};omega};have lo:4503599627370496<=m*2^(52-L):=by{have:=ap (2^(52-L)) a;rw[<-aj,show L+(52-L)=52 by omega]at this;exact this};have hi:m*2^(52-L)<9007199254740992:=by{have:=di b (ar (52-L));rw[<-aj,show L+1+(52-L)=53 by omega]at this;exact this};refine⟨(1022+L)*4503599627370496+m*2^(52-L),by unfold aL;omega,by omega,?_⟩;rw[jL _ _ hi (.inl lo),ag,<-aj];congr 2;omega
theorem aBO (m:Nat)(a:m≠0)(h:m<9007199254740992):floatOfInt .f64 (m:Int)<aL/\floatOfInt .f64 (m:Int)≠0/\aP (floatOfInt .f64 (m:Int))=m*2^1074:=by
 obtain⟨r,b,g,c⟩:=aCB m a h;have e:floatOfInt .f64 (m:Int)=lO m 0:=by{have:=yN (decide ((m:Int)<0)) (m:Int).natAbs 0 (by omega);show FloatKind.f64.format.nearest (decide ((m:Int)<0)) (m:Int).natAbs 0=_;rw[this,bo (by omega),ae (by decide),Int.natAbs_natCast,bw]};have hr:=aHk m 0 a;have d:((0:Int)+1074).toNat=1074:=by{decide};have f:(-((0:Int)+1074)).toNat=0:=by{decide};rw[d,f,en,<-c]at hr;have:=rT _ _ _ _ (by decide) hr (aC4 r (b6 b));rw[e,this];exact⟨b,g,c⟩
theorem aJY (f:Nat)(h:f<9223372036854775808):Op.negFloat .f64 f=9223372036854775808+f:=by
 show f ^^^ 2^(FloatKind.f64.format.exponentBits+FloatKind.f64.format.fractionBits)=_;have e:FloatKind.f64.format.exponentBits+FloatKind.f64.format.fractionBits=63:=by{kernel_rfl};rw[e];have d:=ux (a:=f) (b:=2^63) (n:=63);have r:=uy (a:=f) (b:=2^63) (n:=63);have c:(2:Nat)^63=9223372036854775808:=by{decide};rw[c]at d r ⊢;rw[lr h,sy (by decide),Nat.zero_xor]at d;rw[lj h,s6,Nat.xor_zero]at r;omega
theorem aKI (neg:Bool)(m:Nat)(b:m≠0)(h:m<9007199254740992):cU neg m=sgn neg+floatOfInt .f64 (m:Int):=by
 obtain⟨a,_,_⟩:=aBO m b h;have a:floatOfInt .f64 (m:Int)<9218868437227405312:=a;cases neg;{rw[aCs];simp[sgn]};{rw[aCr,aJY _ (by omega)];simp[sgn]}
def aEn (p:Nat):Prop:=gC.getD p 0<aL/\gC.getD p 0≠0/\aP (gC.getD p 0)=10^p*2^1074
instance (p:Nat):Decidable (aEn p):=by unfold aEn;exact inferInstance
theorem aPp:((List.range 23).all fun p=>decide (aEn p))=true:=by kernel_rfl
theorem aCx (p:Nat)(h:p<=22):aEn p:=br (da.1 aPp p (fg.2 (by omega)))
theorem kY (neg:Bool)(b:Nat)(h:b<aL):cl (sgn neg+b)=0/\kv (sgn neg+b)=(if neg then -(aP b:Int)else aP b):=by
 obtain⟨a,pl,e,l,v,_⟩:=qJ neg b h;unfold cl kv;have c:FloatKind.f64.format.read (sgn neg+b)=.number neg a pl:=e;rw[c];refine⟨rfl,?_⟩;show Ieee.signed neg a (pl+1074).toNat=_;unfold Ieee.signed;rw[m5,<-v]
theorem aLu (neg:Bool)(b X:Nat)(h:b<aL)(f:X<b) :
  (FloatKind.f64.format.order (sgn neg+b) X==some .gt)=true\/((FloatKind.f64.format.order (sgn neg+b) X==some .gt)=false/\(FloatKind.f64.format.order (sgn neg+b) (9223372036854775808+X)==some .lt)=true):=by
 have v:=iL X b f;obtain⟨c,k1⟩:=kY neg b h;obtain⟨c2,k2⟩:=kY false X (by omega);obtain⟨d,k3⟩:=kY true X (by omega);have s0:sgn false+X=X:=by{simp[sgn]};have s1:sgn true+X=9223372036854775808+X:=by{simp[sgn]};rw[s0]at c2 k2;rw[s1]at d k3;cases neg
 ·left;have:=(aE7 (sgn false+b) X).2 ⟨⟨by omega,by omega⟩,by
   rw[c,c2,k1,k2];unfold jF;simp;omega⟩
  exact this
 ·right;refine⟨?_,?_⟩;{have e:=aE7 (sgn true+b) X;cases hh:FloatKind.f64.format.order (sgn true+b) X==some .gt with|false=>rfl|true=>{have a:=(e.1 hh).2;rw[c,c2,k1,k2]at a;unfold jF at a;simp at a;split at a;{cases a};{omega}}}
  ·have:=(aJU (sgn true+b) (9223372036854775808+X)).2 ⟨⟨by omega,by omega⟩,by
    rw[c,d,k1,k3];unfold jF;simp;omega⟩
   exact this
def aLb (m i:Nat)(neg:Bool)(w:H)(e:Ending)(w':H):Prop :=
 (∃r,bI (bC m i) (aG i) r/\r<aL/\e=.returned (.tuple #[.float .f64 (sgn neg+r),.bool true])/\w=w')\/nO w e w'
theorem aEE (m p z:Nat):m*z*(p*z)*1=m*p*z*z:=by rw[df];ac_rfl
theorem vK (m p:Nat):bC m (348+p)=m*10^p*2^1074/\aG (348+p)=1:=by
 unfold bC aG;rw[show 348+p-348=p by omega,show 348-(348+p)=0 by omega];exact⟨rfl,rfl⟩
theorem aDm (m i:Nat)(neg:Bool)(y:m≠0)(hi:i<696) :
  (∃r,r<aL/\bI (bC m i) (aG i) r/\∀w,aA w->Y 244 #[.int .u64 m,.int .i64 ((i:Int)-348),.bool neg] w fun e w'=>e=.returned (.tuple #[.float .f64 (sgn neg+r),.bool true])/\w=w') \/
  (∀w,aA w->Y 244 #[.int .u64 m,.int .i64 ((i:Int)-348),.bool neg] w (nO w)):=by
 by_cases c:m<4503599627370496
 ·obtain⟨l,x,t⟩:=aBO m y (by omega);have u:=aKI neg m y (by omega);by_cases D:i=348
  ·subst D;refine .inl ⟨_,l,?_,fun w T=>?_⟩
   ·have:=vK m 0;rw[gw,en,df,<-t]at this
    rw[this.1,this.2];exact aC4 _ (b6 l)
   ·have:=aJp m neg w T c;rw[u]at this
    exact this
  ·by_cases P:348<i/\i<=370
   ·obtain⟨p,rfl⟩:∃p,i=348+p:=⟨i-348,by omega⟩
    have g:((348+p:Nat):Int)-348=(p:Int):=by omega
    rw[g];obtain⟨o,s,f⟩:=aCx p (by omega);obtain⟨r,h,hr⟩:=aFk neg _ _ l o x s;have d:bI (bC m (348+p)) (aG (348+p)) r:=by
     obtain⟨a,b⟩:=vK m p;refine lN _ _ _ _ _ (ar _) (dX _) ?_ hr;rw[a,b,t,f];exact aEE _ _ _
    have n:r<aL:=by
     have:=aEx _ _ r 9006104071832581120 (dX _) d (by
      obtain⟨a,b⟩:=vK m p;rw[a,b,df];have:m*10^p<=4503599627370496*10^22:=gv (by omega) (b8 (by decide) (by omega));refine bg (ap _ this) ?_;exact br (by kernel_rfl))
     unfold aL;omega
    cases hg1:FloatKind.f64.format.order (cU neg m) 4831355200913801216==some .gt with
    | true=>exact .inr fun w T=>(aBH m p neg w T c (by omega) (by omega) (.inl hg1))
    | false =>
     cases hg2:FloatKind.f64.format.order (cU neg m) 14054727237768577024==some .lt with
     | true=>exact .inr fun w T=>(aBH m p neg w T c (by omega) (by omega) (.inr ⟨hg1,hg2⟩))
     | false =>
      exact .inl ⟨r,n,d,fun w T=>(aJq m p neg (sgn neg+r) w T c (by omega) (by omega) hg1 hg2 (by rw[u];exact h))⟩
   ·by_cases Q:370<i/\i<=385
    ·obtain⟨p,rfl⟩:∃p,i=348+p:=⟨i-348,by omega⟩
     have g:((348+p:Nat):Int)-348=(p:Int):=by omega
     rw[g];obtain⟨q,hq⟩:∃q,q+22=p:=⟨p-22,by omega⟩
     obtain⟨o,s,f⟩:=aCx q (by omega);obtain⟨r1,F,N⟩:=aFk neg _ _ l o x s;have v:bI (m*10^q*2^1074) 1 r1:=by
      refine lN _ _ _ _ _ (ar _) (by decide) ?_ N;rw[t,f];exact aEE _ _ _
     have j:floatBits .mul .f64 (cU neg m) (gC.getD q 0)=some (sgn neg+r1):=by rw[u];exact F
     have C:r1<aL:=by
      have:=aEx _ _ r1 9006104071832581120 (by decide) v (by
       rw[df];have:m*10^q<=4503599627370496*10^22:=gv (by omega) (b8 (by decide) (by omega));refine bg (ap _ this) ?_;exact br (by kernel_rfl))
      unfold aL;omega
     by_cases hx:m*10^q<9007199254740992
     ·have M:m*10^q≠0:=Nat.mul_ne_zero y (Nat.ne_of_gt (b7 (by decide)));obtain⟨r1',A,J,B⟩:=aCB (m*10^q) M hx;have E:r1=r1':=by
       rw[<-B]at v
       exact rT _ _ _ _ (by decide) v (aC4 r1' (b6 A))
      obtain⟨u1,u2,u3⟩:=aCx 22 (by omega);rw[E]at j C
      obtain⟨r,h,hr⟩:=aFk neg _ _ A u1 J u2;have d:bI (bC m (348+p)) (aG (348+p)) r:=by
       obtain⟨a,b⟩:=vK m p;refine lN _ _ _ _ _ (ar _) (dX _) ?_ hr;rw[a,b,B,u3];generalize (2:Nat)^1074=z;rw[aEE,<-hq,aj,ag m]
      have n:r<aL:=by
       have:=aEx _ _ r 9006104071832581120 (dX _) d (by
        obtain⟨a,b⟩:=vK m p;rw[a,b,df,<-hq,aj,<-ag m];have:m*10^q*10^22<=9007199254740992*10^22:=ap _ (by omega);refine bg (ap _ this) ?_;exact br (by kernel_rfl))
       unfold aL;omega
      cases hg1:FloatKind.f64.format.order (sgn neg+r1') 4831355200913801216==some .gt with
      | true=>exact .inr fun w T=>(uE m p q neg _ w T c (by omega) (by omega) hq j (.inl hg1))
      | false =>
       cases hg2:FloatKind.f64.format.order (sgn neg+r1') 14054727237768577024==some .lt with
       | true=>exact .inr fun w T=>(uE m p q neg _ w T c (by omega) (by omega) hq j (.inr ⟨hg1,hg2⟩))
       | false =>
        exact .inl ⟨r,n,d,fun w T=>(aHL m p q neg _ (sgn neg+r) w T c (by omega) (by omega) hq j hg1 hg2 h)⟩
     ·have:4845873199050653696<=r1:=aRF _ _ r1 4845873199050653696 (by decide) v (by decide) (by
       rw[df];refine bg ?_ (ap _ (show 9007199254740992<=m*10^q by omega));exact br (by kernel_rfl))
      exact .inr fun w T=>(uE m p q neg _ w T c (by omega) (by omega) hq j (aLu neg r1 4831355200913801216 C (by omega)))
    ·by_cases R:326<=i/\i<348
     ·obtain⟨p,rfl⟩:∃p,i=348-p:=⟨348-i,by omega⟩
      have g:((348-p:Nat):Int)-348=-(p:Int):=by omega
      rw[g];obtain⟨o,s,f⟩:=aCx p (by omega);obtain⟨r,h,hr⟩:=aP1 neg _ _ l o x s;have a:bC m (348-p)=m*2^1074:=by
       unfold bC;rw[show 348-p-348=0 by omega,en,df]
      have b:aG (348-p)=10^p:=by
       unfold aG;rw[show 348-(348-p)=p by omega]
      have d:bI (bC m (348-p)) (aG (348-p)) r:=by
       refine lN _ _ _ _ _ (by rw[f];exact cf (b7 (by decide)) (ar 1074)) (dX _) ?_ hr;rw[a,b,t,f];generalize (2:Nat)^1074=z;ac_rfl
      have n:r<aL:=by
       have:=aEx _ _ r 9006104071832581120 (dX _) d (by
        rw[a,b];have K:1<=10^p:=b7 (by decide);have L:m*2^1074<=aP 9006104071832581120:=by
         refine bg (ap _ (b6 c)) ?_;exact br (by kernel_rfl)
        exact bg L (nh _ K))
       unfold aL;omega
      exact .inl ⟨r,n,d,fun w T=>(aJn m p neg (sgn neg+r) w T c (by omega) (by omega) (by rw[u];exact h))⟩
     ·exact .inr fun w T=>(aJo m ((i:Int)-348) neg w T c (by omega))
 ·exact .inr fun w T=>(aGg m ((i:Int)-348) neg w T (by omega))
theorem aJr (m i:Nat)(neg:Bool)(w:H)(T:aA w)(c:m≠0)(hi:i<696) :
  Y 244 #[.int .u64 m,.int .i64 ((i:Int)-348),.bool neg] w (aLb m i neg w):=by
 rcases aDm m i neg c hi with⟨r,a,b,h⟩|h;{exact(h w T).mono fun _ _ g=>.inl ⟨r,b,a,g⟩};{exact(h w T).mono fun _ _ g=>.inr g}
