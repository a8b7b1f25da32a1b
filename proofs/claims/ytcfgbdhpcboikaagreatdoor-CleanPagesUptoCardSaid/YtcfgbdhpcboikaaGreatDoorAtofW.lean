/-
internal/strconv.parseFloat64 and atof64: the nearest float of a numeral whose digits are few.
-/
import Derived.Test.YtcfgbdhpcboikaaGreatDoorNearT
import Derived.Test.YtcfgbdhpcboikaaGreatDoorDigA
import Derived.Test.YtcfgbdhpcboikaaGreatDoorReadC
namespace Go.Proofs.YtcfgbdhpcboikaaGreatDoor
set_option maxHeartbeats 2000000
set_option maxRecDepth 100000
open Go.RowKit
theorem tH (d:Nat)(i:1<=d)(j:d<18446744073709551616):∃b,Lib.bitLen d=b/\1<=b/\b<=64/\2^(b-1)<=d/\d<2^b:=by
 obtain⟨f,c,g⟩:=ug 64 d (by omega) (by omega);have a:Lib.bitLen d=Lib.bitLenAux 64 d:=rfl;rw[a];generalize Lib.bitLenAux 64 d=L at *;refine⟨L,rfl,?_,?_,by omega,by omega⟩;{refine kr fun h=>?_;subst h;simp at c;omega};{refine fo fun h=>?_;have:2^64<=2^(L-1):=cc (by decide) (by omega);have e:(2:Nat)^64=18446744073709551616:=by{decide};omega}
theorem aFr (i:Nat)(hi:i<696):-1200<=lpI i/\lpI i<=1200:=by unfold lpI;omega
theorem aOr (b i u:Nat):(((cK b i+iO u:Nat):Int)-1074)=-(min 1074 (53-(b:Int)-lpI i)-iO u):=by
 unfold cK;generalize iO u=c;generalize lpI i=l;omega
def vT (r:Nat):Value:=if r=aQ then .iface 158 (.int .i64 1)else .nilIface
theorem vC {r:Nat}(h:r<aQ):vT r=.nilIface:=ac (by omega)
theorem aK8 (S K m r:Nat)(e:Ending)(a:rM S K m e)(c:min (K*4503599627370496+m) aQ=r)(f:m<9007199254740992)(h:4503599627370496<=m\/K=0):e=.returned (.tuple #[.float .f64 (S+r),vT r]):=by
 have b:aQ=9218868437227405312:=rfl;unfold rM oR wQ at a;rw[<-b,c]at a;rw[a];unfold vT;rw[b]at c ⊢;by_cases d:2046<=K;{rw[ae d,ae (by omega)]};{rw[ac d,ac (by omega)]}
theorem aK9 (d i r S:Nat)(w:H)(T:aA w)(k:gH S)(n:1<=d)(hd:d<18446744073709551616)(hi:i<696)(J:d<144115188075855872\/(348<=i/\i<=375))(hr:bY (bN d i) (aK i) r) :
    Y 245 #[.int .u64 d,.int .i64 ((i:Int)-348),.int .u64 S] w (O (.tuple #[.float .f64 (S+r),vT r]) w):=by
 obtain⟨b,l,z,a,N,c⟩:=tH d n hd;have j:=fA i;obtain⟨p1,p2⟩:=aFr i hi;have q:((i:Int)-348)*108853 / 32768=lpI i:=rfl;obtain⟨s,f⟩:∃s:Nat,gC b i=s:=⟨(gC b i).toNat,by unfold gC;omega⟩;have x:-(min 1074 (53-(b:Int)-lpI i)-(64-(b:Int))+lpI i+3)=s:=f;by_cases o:64<=s;{have B:=aEs d i b hi c (by omega);have:r=0:=tQ _ _ _ _ j hr B;subst this;rw[vC (show 0<aQ by unfold aQ;omega)];exact aC4 d i b S s (lpI i) _ w T k hd l a hi q rfl x o};{have F:b<=57\/(348<=i/\i<=375):=by{rcases J with h|h;{left;refine fo fun R=>?_;have:2^57<=2^(b-1):=cc (by decide) (by omega);have Q:(2:Nat)^57=144115188075855872:=by{decide};omega};{exact .inr h}};have E:=aBp d i b s hi n c a f F;obtain⟨u,y⟩:∃u,cZ (d*2^(64-b)) (aN i) (aX i) s=u:=⟨_,rfl⟩;obtain⟨P,q2,q3,g⟩:=aGr d i b hi z N c a s f E u y;have M:d*2^(64-b)<18446744073709551616:=by{have:d*2^(64-b)<2^b*2^(64-b):=d7 c (ay _);rw[<-ap,show b+(64-b)=64 by omega]at this;exact this};have p:(((cK b i+iO u:Nat):Int)-1074)=-(min 1074 (53-(b:Int)-lpI i)-iO u):=aOr b i u;have v:gU (cM u)=bK (cM u):=nL _ (by have:=aDD u;omega);obtain⟨K,D⟩:∃K,cK b i+iO u=K:=⟨_,rfl⟩;obtain⟨m,t⟩:∃m,bK (cM u)=m:=⟨_,rfl⟩;rw[t]at q2 q3 g v;rw[D]at q3 g p;have A:=tQ _ _ _ _ j g hr;have u63:u<9223372036854775808:=lx P (by decide);have s64:s<64:=g9 o;refine(aBs d i b S s u K m _ (lpI i) _ w T k hd l a hi q rfl x s64 rfl M y u63 t v q2 p q3).mono ?_;rintro e w' ⟨L,C⟩;exact⟨aK8 S K m r e L A q2 q3,C⟩}
theorem aOF (s:I)(m i r:Nat)(neg:Bool)(w:H)(T:aA w)(z:1<=m)(A:m<18446744073709551616)(F:3<=i)(J:i<=658)(y:m<144115188075855872\/(348<=i/\i<=375))(hr:bY (bN m i) (aK i) r)
    (l:∀w,Y 233 #[.string s] w fun e w'=>e=.returned (.tuple #[.float .f64 0,.int .i64 0,.bool false])/\w=w')
    (k:∀w,Y 234 #[.string s] w fun e w'=>e=.returned (.tuple #[.int .u64 m,.int .i64 ((i:Int)-348),.bool neg,.bool false,.bool false,.int .i64 s.size,.bool true])/\w=w') :
    Y 205 #[.string s] w (O (.tuple #[.float .f64 (sgn neg+r),.int .i64 s.size,vT r]) w):=by
  have D:=T.opt;have E:((m:Int)==0)=false:=ai.2 (by omega);have b:∀w,aA w->Y 244 #[.int .u64 m,.int .i64 ((i:Int)-348),.bool neg] w fun e w'=>(e=.returned (.tuple #[.float .f64 (sgn neg+r),.bool true])/\w=w'/\vT r=.nilIface)\/oW w e w':=by
    intro w T;refine(aKt m i neg w T (by omega) (by omega)).mono ?_;rintro e w' (⟨B,u,x,rfl,rfl⟩|h)
    · have:B=r:=tQ _ _ _ _ (fA i) u hr
      subst this;exact .inl ⟨rfl,rfl,vC x⟩
    · exact .inr h
  have j:=fun w T=>aK9 m i r (sgn neg) w T (aB1 neg) z A (by omega) y hr
  have t:=Z l;have q:=Z k;have c:=Z b;have d:=Z j;have g:=Z T;clear l k b j T hr;obtain⟨C,n⟩:∃v,vT r=v:=⟨_,rfl⟩
  rw[n]at d c ⊢
  clear n;cases neg;all_goals
    go_enter Tryz.func205,Tryz.ntmps205
    go_wp2_with (first
      | (go_at_call 233;refine(t.o _).mono ?_;rintro e w' ⟨rfl,rfl⟩)
      | (go_at_call 234;refine(q.o _).mono ?_;rintro e w' ⟨rfl,rfl⟩)
      | (go_at_call 242;((with_reducible refine(dQ _).mono ?_);rintro e w' ⟨rfl,rfl⟩))
      | (go_at_call 242;((with_reducible refine(dE _).mono ?_);rintro e w' ⟨rfl,rfl⟩)))
    refine(c.o _ g.o).mono ?_;rintro e K (⟨rfl,rfl,rfl⟩|⟨f,rfl,rfl⟩)
    · go_wp2
      go_ret3;exact⟨rfl,aj _ _⟩
    · go_wp2_with fail
      refine(d.o _ g.o).mono ?_;rintro e L ⟨rfl,a⟩;have p:=Z a;clear a;go_wp2
      go_ret3;exact⟨rfl,p.o⟩
theorem yS (a b:Nat)(d:b<=1):a<=a ||| b/\a ||| b<=a+1:=by
 refine⟨qt,?_⟩;have:b=0\/b=1:=by{omega};rcases this with rfl|rfl;{simp};{have h:=qw (a:=a) (b:=1) (n:=1);have:a ||| 1=2*(a / 2)+1:=by{have e:(a ||| 1) / 2=a / 2:=by{have:=Nat.or_div_two_pow (a:=a) (b:=1) (n:=1);simpa using this};have c:(a ||| 1)%2=1:=by{rw[show(2:Nat)=2^1 from rfl,qw];have:a%2=0\/a%2=1:=by{omega};rcases this with h|h<;>rw[show(2:Nat)^1=2 from rfl,h]<;>decide};omega};omega}
def iK (k:Nat):Nat:=(-(((k:Int)-52)*78913 / 262144)+348).toNat
def lK (k:Nat):Int:=((iK k:Int)-348)*108853 / 32768
def sK (k:Nat):Nat:=(60-(k:Int)-lK k).toNat
def pK (k:Nat):Nat:=iK k-348
structure aSP (k:Nat):Prop where
  p:-(((k:Int)-52)*78913 / 262144)=(iK k:Int)-348
  i:iK k=348+pK k
  p1:7<=pK k
  p2:pK k<=16
  s:-(((1023+k:Nat):Int)-1086+lK k+3)=sK k
  s64:sK k<64
  s1:1<=sK k
  lo:aX (iK k)=0
  one:2^(63-k)*aN (iK k)=4*10^pK k*(18446744073709551616*2^sK k)
  ge:2*(18446744073709551616*2^sK k)<=1024*aN (iK k)
  le:1024*aN (iK k)<=20*(18446744073709551616*2^sK k)
instance (k:Nat):Decidable (aSP k) :=
  decidable_of_iff (-(((k:Int)-52)*78913 / 262144)=(iK k:Int)-348/\iK k=348+pK k/\7<=pK k/\pK k<=16/\-(((1023+k:Nat):Int)-1086+lK k+3)=sK k/\sK k<64/\1<=sK k/\aX (iK k)=0/\2^(63-k)*aN (iK k)=4*10^pK k*(18446744073709551616*2^sK k)/\2*(18446744073709551616*2^sK k)<=1024*aN (iK k)/\1024*aN (iK k)<=20*(18446744073709551616*2^sK k))
    ⟨fun⟨a,b,c,d,e,f,f1,g,h,i,j⟩=>⟨a,b,c,d,e,f,f1,g,h,i,j⟩,fun⟨a,b,c,d,e,f,f1,g,h,i,j⟩=>⟨a,b,c,d,e,f,f1,g,h,i,j⟩⟩
open Go.RowKit
theorem vV (c:UInt8)(b:U):∀a:U,(∀x∈a,x≠c)->Lib.index (a++c :: b) [c]=a.length
  | [],_=>by simp[Lib.index,List.isPrefixOf]
  | x :: a,h=>by
    have hx:(c==x)=false:=by rw[ai];exact fun e=>h x (by simp) e.symm
    have f:=vV c b a (fun y d=>h y (by simp[d]));rw[dh,Lib.index];simp only[List.isPrefixOf,hx,ly,f9,gc,f];rw[ac (by simp)];simp
theorem aCL (c:UInt8):∀a:U,(∀x∈a,x≠c)->Lib.index a [c]=-1
  | [],_=>by simp[Lib.index]
  | x :: a,h=>by
    have hx:(c==x)=false:=by rw[ai];exact fun e=>h x (by simp) e.symm
    have d:=aCL c a (fun y b=>h y (by simp[b]));rw[Lib.index];simp[List.isPrefixOf,hx,d]
theorem aKf (c:UInt8)(a b:U)(h:∀x∈a,x≠c):Lib.cut (a++c :: b) [c]=(a,b,true):=by
 unfold Lib.cut;rw[vV c b a h,ae (by omega)];simp
def cV (D:U):U:=D.take 1++(if 1<D.length then 46 :: D.drop 1 else [])
theorem aE7 (D:U)(a:1<=D.length)(hd:∀x∈D,aI x=true):Lib.replace (cV D) [46] [] 1=D:=by
 have nd:∀x∈D,x≠46:=by{rintro x hx rfl;exact absurd (hd 46 hx) (by decide)};unfold Lib.replace;rw[ac (by decide)];cases D with|nil=>simp at a|cons d D=>{cases D with|nil=>{have e:cV [d]=[d]:=rfl;rw[e];unfold Lib.replaceNum;rw[pb (aCL 46 [d] (fun x hx=>nd x hx)),ae (.inr (by decide))];rfl}|cons f D=>{have e:cV (d :: f :: D)=[d]++46 :: f :: D:=by{unfold cV;simp};have hi:Lib.index ([d]++46 :: f :: D) [46]=(1:Nat):=vV 46 (f :: D) [d] (fun x hx=>nd x (by simp at hx;simp[hx]));rw[e];unfold Lib.replaceNum;rw[ac (by rw[pd (by decide) hi];omega)];show Lib.replaceK [46] [] (0+1) _=_;rw[kt _ _ _ _ 1 hi];rfl}}
theorem aHc:((List.range 1000).all fun n=>Lib.decNat (dB n)==some n)=true:=by kernel_rfl
theorem aPa (n:Nat)(h:n<1000):Lib.decNat (dB n)=some n:=by
 have:=di.1 aHc n (fq.2 h);simpa using this
theorem aO9 (n:Nat):(dB n).length<=3:=by
 unfold dB;split;{simp};{split<;>simp}
theorem aMP (x:Int)(a:-1000<x)(b:x<1000):Lib.atoi ((if x<0 then 45 else 43) :: dB x.natAbs)=some x:=by
 have e:=aPa x.natAbs (by omega);by_cases h:x<0;{rw[ae h];show(Lib.decNat (dB x.natAbs)).map (fun m:Nat=>-(m:Int))=some x;rw[e];show some (-(x.natAbs:Int))=some x;congr 1;omega};{rw[ac h];show(Lib.decNat (dB x.natAbs)).map (fun m:Nat=>(m:Int))=some x;rw[e];show some (x.natAbs:Int)=some x;congr 1;omega}
theorem aGu (D:U)(x:Int)(b:1<=D.length)(f:D.length<=100)(hd:∀c∈D,aI c=true)(x0:-1000<x)(x1:x<1000) :
    nB (fN D x) D x (cV D) ((if x<0 then 45 else 43) :: dB x.natAbs):=by
 have g:(cV D).length<=102:=by{unfold cV;split;{simp;omega};{simp;omega}};have d:=aO9 x.natAbs;have e:fN D x=cV D++101 :: ((if x<0 then 45 else 43) :: dB x.natAbs):=by{unfold fN cV;simp};refine⟨?_,aMP x x0 x1,aE7 D b hd,?_,?_,by omega,?_,by omega,by omega⟩;{rw[e];refine aKf 101 _ _ ?_;rintro y a rfl;unfold cV at a;rcases de.1 a with a|a;{exact absurd (hd _ (ji a)) (by decide)};{split at a;{rcases ce.1 a with a|a;{exact absurd a (by decide)};{exact absurd (hd _ (jk a)) (by decide)}};{cases a}}};{rw[e,aw,bw,bw];omega};{rw[bw];omega};{show Lib.count (cV D) [46]<=1000;have:=Lib.count_le (cV D) [46];omega}
theorem aEd (n:Nat)(h:1<=n):∀j,Lib.decDigits (n*10^j)=Lib.decDigits n++List.replicate j 48
  | 0=>by simp
  | j+1=>by
    have a:1<=10^j:=b7 (by decide);have e:n*10^(j+1)=n*10^j*10:=by rw[bz,af]
    have b:1<=n*10^j:=cn h a;rw[e,Lib.decDigits,dif_neg (by omega),Nat.mul_div_cancel _ (by decide),qx,aEd n h j,jl,ct];rfl
theorem aEe (r:Nat)(h:r<10):aI (UInt8.ofNat (48+r))=true:=by
 have:((List.range 10).all fun r=>aI (UInt8.ofNat (48+r)))=true:=by{decide};exact di.1 this r (fq.2 h)
theorem nG (n:Nat):∀c∈Lib.decDigits n,aI c=true:=by
 induction n using Nat.strongRecOn with|ind n ih=>{rw[Lib.decDigits];split;{intro c a;rw[fu.1 a];exact aEe _ ‹_›};{intro c a;rcases de.1 a with a|a;{exact ih _ (by omega) c a};{rw[fu.1 a];exact aEe _ (by omega)}}}
theorem aGY (l:U):∀j,cL (l++List.replicate j 48)=cL l
  | 0=>by simp
  | j+1=>by
    rw[jl,<-ct,nP,ae rfl,aGY l j]
theorem aJE (l:U):l.take (cL l)++List.replicate (l.length-cL l) 48=l:=by
 induction l using jB with|h0=>rfl|h1 l a ih=>{rw[nP];by_cases h:a=48;{rw[ae h];have b:=kH l;rw[pe b,aw,ku,show l.length+1-cL l=l.length-cL l+1 by omega,jl,<-ct,ih,h]};{rw[ac h,cy (by simp)];simp}}
def dG (n:Nat):U:=(Lib.decDigits n).take (cL (Lib.decDigits n))
theorem aID (n j:Nat)(h:1<=n):(Lib.decDigits (n*10^j)).take (cL (Lib.decDigits (n*10^j)))=dG n:=by
 rw[aEd n h j,aGY];exact pe (kH _)
theorem aEc (n:Nat):dG n++List.replicate (Lib.nDigits n-(dG n).length) 48=Lib.decDigits n:=by
 have e:(dG n).length=cL (Lib.decDigits n):=by{unfold dG;rw[br];have:=kH (Lib.decDigits n);omega};rw[e,<-eo];exact aJE _
theorem aBF (n:Nat)(h:1<=n):1<=(dG n).length/\(dG n).length<=Lib.nDigits n:=by
 have e:(dG n).length=cL (Lib.decDigits n):=by{unfold dG;rw[br];have:=kH (Lib.decDigits n);omega};rw[e];refine⟨zG n h,?_⟩;have:=kH (Lib.decDigits n);rwa[eo]at this
theorem aBE (n:Nat):∀c∈dG n,aI c=true:=fun c a=>nG n c (ji a)
open Go.RowKit
theorem aRL (i:Nat)(hi:i<696):9223372036854775808<=aN i/\aN i<=18446744073709547521:=by
 obtain⟨g,j,a,k,l,m⟩:=wX i hi;obtain⟨b,c⟩:=aDd i hi;have e:=zE i;have d:pmN i+aX i=aN i*18446744073709551616:=by{unfold pmN;have:1*18446744073709551616<=aN i*18446744073709551616:=au _ a;omega};have f:pmN i<=340282366920938387905510881517444792320:=by{refine fo fun h=>?_;have:=au (eS i) (show 340282366920938387905510881517444792320+1<=pmN i from h);rw[bb,da]at this;omega};omega
theorem aOd (x h l s hi:Nat)(a:x*h / 18446744073709551616=hi)(b:1<=hi)(c:hi<18446744073709551616):(hi-1) / 2^s<=cZ x h l s/\cZ x h l s<=hi / 2^s+1:=by
 unfold cZ;simp only[];rw[a];have d:(hi-1) / 2^s<=hi / 2^s:=uh (by omega);split;{have:=yS (hi / 2^s) 1 (by omega);omega};{split;{rw[show(hi+18446744073709551615)%18446744073709551616=hi-1 by omega];have:=yS ((hi-1) / 2^s) (if 1<(x*h%18446744073709551616+18446744073709551616-x*l / 18446744073709551616)%18446744073709551616 then 1 else 0) (by split<;>omega);omega};{have:=yS (hi / 2^s) (if 1<(x*h%18446744073709551616+18446744073709551616-x*l / 18446744073709551616)%18446744073709551616 then 1 else 0) (by split<;>omega);omega}}
theorem aC3 (d i b s u:Nat)(hi:i<696)(B:1<=b)(m:2^(b-1)<=d)(n:d<2^b)(A:b<=64)(j:gC b i=s)(k:cZ (d*2^(64-b)) (aN i) (aX i) s=u) :
    u<72057594037927936/\bK (cM u)<9007199254740992/\(4503599627370496<=bK (cM u)\/cK b i+iO u=0):=by
 have q:d*2^(64-b)<18446744073709551616:=by{have:d*2^(64-b)<2^b*2^(64-b):=d7 n (ay _);rw[<-ap,show b+(64-b)=64 by omega]at this;exact this};have l:9223372036854775808<=d*2^(64-b):=by{have:2^(b-1)*2^(64-b)<=d*2^(64-b):=au _ m;rw[<-ap,show b-1+(64-b)=63 by omega]at this;exact this};obtain⟨t,v⟩:=aRL i hi;obtain⟨x,hx⟩:∃x,d*2^(64-b)=x:=⟨_,rfl⟩;rw[hx]at l q k;obtain⟨H',a⟩:∃H',x*aN i / 18446744073709551616=H':=⟨_,rfl⟩;have y:4611686018427387904<=H':=by{rw[<-a,pf (by decide)];have:=ia l t;omega};have z:H'<=18446744073709547521:=by{rw[<-a];refine Nat.div_le_of_le_mul ?_;have:=ia (show x<=18446744073709551616 by omega) v;omega};obtain⟨n1,r⟩:=aOd x (aN i) (aX i) s H' a (by omega) (by omega);rw[k]at n1 r;have w:8<=s:=by{unfold gC at j;omega};have e:(2:Nat)^8=256:=by{decide};have C:H' / 2^s<=H' / 256:=by{rw[<-e];exact Nat.div_le_div_left (cc (by decide) w) (by decide)};have u1:u<=72057594037927921:=by{omega};refine⟨by omega,?_,?_⟩;{by_cases c:36028797018963966<=u;{have:cM u<=u / 2+1:=by{unfold cM;rw[ae c];have:=yS (u / 2) (u%2) (by omega);omega};unfold bK;omega};{have:cM u=u:=by{unfold cM;rw[ac c]};rw[this];unfold bK;omega}};{by_cases g:cK b i=0;{by_cases c:36028797018963966<=u;{left;have:u / 2<=cM u:=by{unfold cM;rw[ae c];exact qt};have f:cM u=18014398509481983\/18014398509481984<=cM u:=by{omega};unfold bK;rcases f with h|h;{rw[h];decide};{omega}};{right;rw[g];unfold iO;rw[ac c]}};{left;have p:s=8:=by{unfold gC at j;unfold cK at g;omega};rw[p,e]at n1;have f:18014398509481983<=cM u:=by{by_cases c:36028797018963966<=u;{have:u / 2<=cM u:=by{unfold cM;rw[ae c];exact qt};omega};{have:cM u=u:=by{unfold cM;rw[ac c]};omega}};have o:cM u=18014398509481983\/18014398509481984<=cM u:=by{omega};unfold bK;rcases o with h|h;{rw[h];decide};{omega}}}
def pW (d i:Nat):Nat × Value :=
  if 64<=gC (Lib.bitLen d) i then (0,.nilIface)
  else (oR 0 (cK (Lib.bitLen d) i+iO (cZ (d*2^(64-Lib.bitLen d)) (aN i) (aX i) (gC (Lib.bitLen d) i).toNat)) (bK (cM (cZ (d*2^(64-Lib.bitLen d)) (aN i) (aX i) (gC (Lib.bitLen d) i).toNat))),
    wQ (cK (Lib.bitLen d) i+iO (cZ (d*2^(64-Lib.bitLen d)) (aN i) (aX i) (gC (Lib.bitLen d) i).toNat)))
theorem aGp (d i S:Nat)(w:H)(T:aA w)(l:gH S)(z:1<=d)(hd:d<18446744073709551616)(hi:i<696) :
    Y 245 #[.int .u64 d,.int .i64 ((i:Int)-348),.int .u64 S] w (O (.tuple #[.float .f64 (S+(pW d i).1),(pW d i).2]) w):=by
 obtain⟨b,c,x,a,B,v⟩:=tH d z hd;obtain⟨p1,p2⟩:=aFr i hi;have p:((i:Int)-348)*108853 / 32768=lpI i:=rfl;obtain⟨s,g⟩:∃s:Nat,gC b i=s:=⟨(gC b i).toNat,by unfold gC;omega⟩;have t:-(min 1074 (53-(b:Int)-lpI i)-(64-(b:Int))+lpI i+3)=s:=g;unfold pW;rw[c,g,fh];by_cases n:64<=s;{rw[ae (by omega)];exact aC4 d i b S s (lpI i) _ w T l hd c a hi p rfl t n};{rw[ac (by omega)];obtain⟨u,h⟩:∃u,cZ (d*2^(64-b)) (aN i) (aX i) s=u:=⟨_,rfl⟩;rw[h];obtain⟨C,q2,j⟩:=aC3 d i b s u hi x B v a g h;have A:d*2^(64-b)<18446744073709551616:=by{have:d*2^(64-b)<2^b*2^(64-b):=d7 v (ay _);rw[<-ap,show b+(64-b)=64 by omega]at this;exact this};have o:=aOr b i u;have r:gU (cM u)=bK (cM u):=nL _ (by have:=aDD u;omega);obtain⟨K,k⟩:∃K,cK b i+iO u=K:=⟨_,rfl⟩;obtain⟨m,f⟩:∃m,bK (cM u)=m:=⟨_,rfl⟩;rw[f]at q2 j r;rw[k]at j o;rw[k,f];have u63:u<9223372036854775808:=lx C (by decide);have s64:s<64:=g9 n;refine(aBs d i b S s u K m _ (lpI i) _ w T l hd c a hi p rfl t s64 rfl A h u63 f r q2 o j).mono ?_;rintro e w' ⟨q,y⟩;refine⟨?_,y⟩;unfold rM oR at q;unfold oR;rw[q,be]}
open Go.RowKit
open Go.RowKit
def pO (v lo hi:Int):Value:=if v<lo\/hi<v then .tuple #[.int .i64 0,.bool false]else .tuple #[.int .i64 v,.bool true]
structure aHP (s:I) (v:Int):Prop where
  ne:1<=s.size
  le:s.size<=9
  dig:digs s.data.toList=s.size
  head:s.size=1\/∃h:0<s.size,((s[0].toNat:Int)==48)=false
  val:Lib.atoi s.data.toList=some v
  lo:0<=v
  hi:v<=999999999
theorem aJN (s:I)(v lo hi:Int)(w:H)(W:aHP s v) :
    Y 62 #[.string s,.int .i64 lo,.int .i64 hi] w (O (pO v lo hi) w):=by
 obtain⟨n,f⟩:∃n,s.size=n:=⟨_,rfl⟩;have D:=fun w=>kW s n w (by unfold maxLen;have:=W.le;omega) (by rw[W.dig,f]);have g:s=⟨s.data.toList.toArray⟩:=rfl;have AT:=fun w=>aHS s.data.toList v w W.val (by rw[<-aY];have:=W.le;omega);rw[<-g]at AT;have n1:=W.ne;have h:=W.le;rw[f]at n1 h;have hd:=W.head;have l:((n:Int) !=s.size)=false:=ir.2 (by omega);have v1:=W.lo;have v2:=W.hi;have d:=Z D;have c:=Z AT;have p:1<=s.size:=by{omega};have q:s.size<=9:=by{omega};have j:=Z f;clear D AT W g;rcases hd with hd|⟨k,hd⟩
 ·have m:¬(1:Int)<n:=by{omega};have i:=Z hd;clear hd f;by_cases c1:v<lo
  ·go_enter Tryz.func62,Tryz.ntmps62
   go_wp2_with (first
     | (go_at_call 112;((with_reducible refine(d.o _).mono ?_);rintro e w' ⟨rfl,rfl⟩))
     | (go_at_call 113;((with_reducible refine(c.o _).mono ?_);rintro e w' ⟨rfl,a⟩;have b:=Z a;clear a)))
   go_ret2;exact⟨by unfold pO;rw[ae (.inl c1)];rfl,b.o⟩
  ·by_cases c2:hi<v
   ·go_enter Tryz.func62,Tryz.ntmps62
    go_wp2_with (first
      | (go_at_call 112;((with_reducible refine(d.o _).mono ?_);rintro e w' ⟨rfl,rfl⟩))
      | (go_at_call 113;((with_reducible refine(c.o _).mono ?_);rintro e w' ⟨rfl,a⟩;have b:=Z a;clear a)))
    go_ret2;exact⟨by unfold pO;rw[ae (.inr c2)];rfl,b.o⟩
   ·go_enter Tryz.func62,Tryz.ntmps62
    go_wp2_with (first
      | (go_at_call 112;((with_reducible refine(d.o _).mono ?_);rintro e w' ⟨rfl,rfl⟩))
      | (go_at_call 113;((with_reducible refine(c.o _).mono ?_);rintro e w' ⟨rfl,a⟩;have b:=Z a;clear a)))
    go_ret2;exact⟨by unfold pO;rw[ac (by omega)];rfl,b.o⟩
 ·clear f;by_cases c1:v<lo
  ·go_enter Tryz.func62,Tryz.ntmps62
   go_wp2_with (first
     | (go_at_call 112;((with_reducible refine(d.o _).mono ?_);rintro e w' ⟨rfl,rfl⟩))
     | (go_at_call 113;((with_reducible refine(c.o _).mono ?_);rintro e w' ⟨rfl,a⟩;have b:=Z a;clear a)))
   (all_goals go_ret2);all_goals exact⟨by unfold pO;rw[ae (.inl c1)];rfl,b.o⟩
  ·by_cases c2:hi<v
   ·go_enter Tryz.func62,Tryz.ntmps62
    go_wp2_with (first
      | (go_at_call 112;((with_reducible refine(d.o _).mono ?_);rintro e w' ⟨rfl,rfl⟩))
      | (go_at_call 113;((with_reducible refine(c.o _).mono ?_);rintro e w' ⟨rfl,a⟩;have b:=Z a;clear a)))
    (all_goals go_ret2);all_goals exact⟨by unfold pO;rw[ae (.inr c2)];rfl,b.o⟩
   ·go_enter Tryz.func62,Tryz.ntmps62
    go_wp2_with (first
      | (go_at_call 112;((with_reducible refine(d.o _).mono ?_);rintro e w' ⟨rfl,rfl⟩))
      | (go_at_call 113;((with_reducible refine(c.o _).mono ?_);rintro e w' ⟨rfl,a⟩;have b:=Z a;clear a)))
    (all_goals go_ret2);all_goals exact⟨by unfold pO;rw[ac (by omega)];rfl,b.o⟩
open Go.RowKit
open Go.RowKit
theorem vQ (s:I)(lo hi:Int)(w:H)(i:s.size<=maxLen)(n:Nat)(b:digs s.data.toList=n)
    (h:n<1\/9<n\/((1<=n/\n<=9)/\n≠s.size)\/((1<n/\n<=9)/\n=s.size/\∃h:0<s.size,s[0].toNat=48)) :
    Y 62 #[.string s,.int .i64 lo,.int .i64 hi] w fun e w'=>e=.returned (.tuple #[.int .i64 0,.bool false])/\w=w':=by
  have D:=fun w=>kW s n w i b
  have a:=Z D;clear D b;rcases h with h|h|⟨⟨d,g⟩,h⟩|⟨⟨d,g⟩,h,m,f⟩
  · as_aux_lemma =>
      go_enter Tryz.func62,Tryz.ntmps62
      go_wp2_with (go_at_call 112;(with_reducible refine(a.o _).mono ?_);rintro e w' ⟨rfl,rfl⟩)
      go_ret2;exact⟨rfl,rfl⟩
  · have l:¬n<1:=by omega
    as_aux_lemma =>
      go_enter Tryz.func62,Tryz.ntmps62
      go_wp2_with (go_at_call 112;(with_reducible refine(a.o _).mono ?_);rintro e w' ⟨rfl,rfl⟩)
      go_ret2;exact⟨rfl,rfl⟩
  · have j:((n:Int) !=s.size)=true:=db.2 (by omega)
    have c:=Z h;clear h;as_aux_lemma =>
      go_enter Tryz.func62,Tryz.ntmps62
      go_wp2_with (go_at_call 112;(with_reducible refine(a.o _).mono ?_);rintro e w' ⟨rfl,rfl⟩)
      go_ret2;exact⟨rfl,rfl⟩
  · have j:((n:Int) !=s.size)=false:=ir.2 (by omega)
    have k:((s[0].toNat:Int)==48)=true:=by simp[f]
    have c:=Z h;clear h;as_aux_lemma =>
      go_enter Tryz.func62,Tryz.ntmps62
      go_wp2_with (go_at_call 112;(with_reducible refine(a.o _).mono ?_);rintro e w' ⟨rfl,rfl⟩)
      go_ret2;exact⟨rfl,rfl⟩
structure fL (s:I) (lo hi:Int) (n:Int) (b:Bool):Prop where
  one:∀w,Y 62 #[.string s,.int .i64 lo,.int .i64 hi] w (O (.tuple #[.int .i64 n,.bool b]) w)
  dg:b=true->digs s.data.toList=s.size/\s.size<=9
  two:∀w,Y 94 #[.string s,.int .i64 lo,.int .i64 hi] w fun e w'=>e=.returned (.tuple #[.int .i64 n,.bool b])/\w=w'
theorem rJ {f:Nat}{c:Array Value}{w:H}{v:Value}(h:Y f c w fun e w'=>e=.returned v/\w=w') :
    Y f c w fun e w'=>e=.returned v/\Below w.heap.size w w' :=
  h.mono fun _ _ ⟨a,b⟩=>⟨a,b▸aj _ _⟩
theorem aJM (s:I)(f:1<=s.size)(b:s.size<=9)(hd:digs s.data.toList=s.size)(d:s.size=1\/∃h:0<s.size,((s[0].toNat:Int)==48)=false) :
    ∃m:Nat,Lib.decFrom 0 s.data.toList=some m/\aHP s m:=by
 obtain⟨m,a,g⟩:=aAM s.data.toList s.size (by omega);rw[cy (by simp)]at a;have j:10^s.size<=10^9:=cc (by omega) b;have p:(10:Nat)^9=1000000000:=by{decide};have o:m<=999999999:=by{generalize 10^s.size=t at g j;omega}
 refine⟨m,a,⟨f,b,hd,d,?_,by omega,by omega⟩⟩;obtain⟨c,l,e⟩:∃c l,s.data.toList=c :: l:=by
  cases e:s.data.toList with
  | nil => have : s.data.toList.length = 0 := by rw [e]; rfl
           have n : s.data.toList.length = s.size := by simp
           omega
  | cons c l=>exact⟨c,l,rfl⟩
 have i:aI c=true:=by{have:=uT s.data.toList 0 (by rw[e];simp) (by omega);simpa [e]using this};obtain⟨c1,c2⟩:=sQ c i;rw[e]at a ⊢;unfold Lib.atoi;have n1:(c==45)=false:=by{rw[ai];rintro rfl;revert c1;decide};have k:(c==43)=false:=by{rw[ai];rintro rfl;revert c1;decide};simp only[n1,k,f9,gc];unfold Lib.decNat;rw[ac (by simp),a];rfl
theorem aG2 (s:I)(lo hi:Int)(d:s.size<=maxLen):∃n b,fL s lo hi n b:=by
 have l:digs s.data.toList<=s.size:=by{have:=kP s.data.toList;simpa using this};by_cases i:s.size=0;{exact⟨0,false,fun w=>rJ (vQ s lo hi w d _ rfl (.inl (by omega))),(fun h=>by cases h),fun w=>aAt s lo hi w (.inl i)⟩};{by_cases k:9<s.size;{refine⟨0,false,fun w=>rJ (vQ s lo hi w d _ rfl ?_),(fun h=>by cases h),fun w=>aAt s lo hi w (.inr k)⟩;by_cases c1:digs s.data.toList<1;{exact .inl c1};{by_cases c2:9<digs s.data.toList;{exact .inr (.inl c2)};{exact .inr (.inr (.inl ⟨⟨by omega,by omega⟩,by omega⟩))}}};{by_cases f:1<s.size/\(s[0]'(by omega)).toNat=48;{refine⟨0,false,fun w=>rJ (vQ s lo hi w d _ rfl ?_),(fun h=>by cases h),fun w=>aC9 s lo hi w f.1 (by omega) f.2⟩;by_cases c1:digs s.data.toList<1;{exact .inl c1};{by_cases c2:digs s.data.toList=s.size;{exact .inr (.inr (.inr ⟨⟨by omega,by omega⟩,c2,by omega,f.2⟩))};{exact .inr (.inr (.inl ⟨⟨by omega,by omega⟩,c2⟩))}}};{have g:s.size=1\/∃h:0<s.size,((s[0].toNat:Int)==48)=false:=by{by_cases c:s.size=1;{exact .inl c};{refine .inr ⟨by omega,ai.2 fun e=>f ⟨by omega,by omega⟩⟩}};have R:=fun w=>aC8 s lo hi w (by omega) (by omega) g;by_cases hd:digs s.data.toList=s.size;{obtain⟨m,h2,j⟩:=aJM s (by omega) (by omega) hd g;have S:=fun w=>aJN s m lo hi w j;rw[ae hd,h2,show(some m).get! = m from rfl]at R;by_cases a:(m:Int)<lo\/hi<(m:Int);{refine⟨0,false,fun w=>?_,(fun h=>by cases h),fun w=>?_⟩;{have:=S w;unfold pO at this;rwa[ae a]at this};{have:=R w;unfold tX at this;rwa[ae a]at this}};{refine⟨m,true,fun w=>?_,(fun _=>⟨hd,by omega⟩),fun w=>?_⟩;{have:=S w;unfold pO at this;rwa[ac a]at this};{have:=R w;unfold tX at this;rwa[ac a]at this}}};{rw[ac hd]at R;refine⟨0,false,fun w=>rJ (vQ s lo hi w d _ rfl ?_),(fun h=>by cases h),R⟩;by_cases c1:digs s.data.toList<1;{exact .inl c1};{exact .inr (.inr (.inl ⟨⟨by omega,by omega⟩,hd⟩))}}}}}
