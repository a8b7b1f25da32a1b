/-
internal/strconv.parseFloat64 and atof64: the nearest float of a numeral whose digits are few.
-/
import Derived.Test.YtcfgbdhpcboikaaGreatDoorNearT
import Derived.Test.YtcfgbdhpcboikaaGreatDoorDigA
import Derived.Test.YtcfgbdhpcboikaaGreatDoorReadC
namespace Go.Proofs.YtcfgbdhpcboikaaGreatDoor
set_option maxHeartbeats 2000000
set_option maxRecDepth 100000
open Go.RowKit
theorem rK (d:Nat)(i:1<=d)(j:d<18446744073709551616):∃b,Lib.bitLen d=b/\1<=b/\b<=64/\2^(b-1)<=d/\d<2^b:=by
 obtain⟨f,c,g⟩:=t8 64 d (by omega) (by omega);have a:Lib.bitLen d=Lib.bitLenAux 64 d:=rfl;rw[a];generalize Lib.bitLenAux 64 d=L at *;refine⟨L,rfl,?_,?_,by omega,by omega⟩;{refine jv fun h=>?_;subst h;simp at c;omega};{refine ff fun h=>?_;have:2^64<=2^(L-1):=b8 (by decide) (by omega);have e:(2:Nat)^64=18446744073709551616:=by{decide};omega}
theorem aEv (i:Nat)(hi:i<696):-1200<=lpI i/\lpI i<=1200:=by unfold lpI;omega
theorem aNq (b i u:Nat):(((bP b i+gO u:Nat):Int)-1074)=-(min 1074 (53-(b:Int)-lpI i)-gO u):=by
 unfold bP;generalize gO u=c;generalize lpI i=l;omega
def uD (r:Nat):Value:=if r=aL then .iface 158 (.int .i64 1)else .nilIface
theorem tJ {r:Nat}(h:r<aL):uD r=.nilIface:=ae (by omega)
theorem aJ6 (S K m r:Nat)(e:Ending)(a:qB S K m e)(c:min (K*4503599627370496+m) aL=r)(f:m<9007199254740992)(h:4503599627370496<=m\/K=0):e=.returned (.tuple #[.float .f64 (S+r),uD r]):=by
 have b:aL=9218868437227405312:=rfl;unfold qB nK vA at a;rw[<-b,c]at a;rw[a];unfold uD;rw[b]at c ⊢;by_cases d:2046<=K;{rw[af d,af (by omega)]};{rw[ae d,ae (by omega)]}
theorem aJ7 (d i r S:Nat)(w:H)(T:aA w)(k:fM S)(n:1<=d)(hd:d<18446744073709551616)(hi:i<696)(J:d<144115188075855872\/(348<=i/\i<=375))(hr:bI (bC d i) (aG i) r) :
    Y 245 #[.int .u64 d,.int .i64 ((i:Int)-348),.int .u64 S] w (O (.tuple #[.float .f64 (S+r),uD r]) w):=by
 obtain⟨b,l,z,a,N,c⟩:=rK d n hd;have j:=dX i;obtain⟨p1,p2⟩:=aEv i hi;have q:((i:Int)-348)*108853 / 32768=lpI i:=rfl;obtain⟨s,f⟩:∃s:Nat,fJ b i=s:=⟨(fJ b i).toNat,by unfold fJ;omega⟩;have x:-(min 1074 (53-(b:Int)-lpI i)-(64-(b:Int))+lpI i+3)=s:=f;by_cases o:64<=s;{have B:=aDu d i b hi c (by omega);have:r=0:=rT _ _ _ _ j hr B;subst this;rw[tJ (show 0<aL by unfold aL;omega)];exact aCa d i b S s (lpI i) _ w T k hd l a hi q rfl x o};{have F:b<=57\/(348<=i/\i<=375):=by{rcases J with h|h;{left;refine ff fun R=>?_;have:2^57<=2^(b-1):=b8 (by decide) (by omega);have Q:(2:Nat)^57=144115188075855872:=by{decide};omega};{exact .inr h}};have E:=aAD d i b s hi n c a f F;obtain⟨u,y⟩:∃u,cJ (d*2^(64-b)) (aJ i) (aR i) s=u:=⟨_,rfl⟩;obtain⟨P,q2,q3,g⟩:=aFw d i b hi z N c a s f E u y;have M:d*2^(64-b)<18446744073709551616:=by{have:d*2^(64-b)<2^b*2^(64-b):=di c (ar _);rw[<-aj,show b+(64-b)=64 by omega]at this;exact this};have p:(((bP b i+gO u:Nat):Int)-1074)=-(min 1074 (53-(b:Int)-lpI i)-gO u):=aNq b i u;have v:fW (bU u)=bA (bU u):=mE _ (by have:=aCH u;omega);obtain⟨K,D⟩:∃K,bP b i+gO u=K:=⟨_,rfl⟩;obtain⟨m,t⟩:∃m,bA (bU u)=m:=⟨_,rfl⟩;rw[t]at q2 q3 g v;rw[D]at q3 g p;have A:=rT _ _ _ _ j g hr;have u63:u<9223372036854775808:=ld P (by decide);have s64:s<64:=gu o;refine(aAG d i b S s u K m _ (lpI i) _ w T k hd l a hi q rfl x s64 rfl M y u63 t v q2 p q3).mono ?_;rintro e w' ⟨L,C⟩;exact⟨aJ6 S K m r e L A q2 q3,C⟩}
theorem aNE (s:I)(m i r:Nat)(neg:Bool)(w:H)(T:aA w)(z:1<=m)(A:m<18446744073709551616)(F:3<=i)(J:i<=658)(y:m<144115188075855872\/(348<=i/\i<=375))(hr:bI (bC m i) (aG i) r)
    (l:∀w,Y 233 #[.string s] w fun e w'=>e=.returned (.tuple #[.float .f64 0,.int .i64 0,.bool false])/\w=w')
    (k:∀w,Y 234 #[.string s] w fun e w'=>e=.returned (.tuple #[.int .u64 m,.int .i64 ((i:Int)-348),.bool neg,.bool false,.bool false,.int .i64 s.size,.bool true])/\w=w') :
    Y 205 #[.string s] w (O (.tuple #[.float .f64 (sgn neg+r),.int .i64 s.size,uD r]) w):=by
  have D:=T.opt;have E:((m:Int)==0)=false:=ai.2 (by omega);have b:∀w,aA w->Y 244 #[.int .u64 m,.int .i64 ((i:Int)-348),.bool neg] w fun e w'=>(e=.returned (.tuple #[.float .f64 (sgn neg+r),.bool true])/\w=w'/\uD r=.nilIface)\/nO w e w':=by
    intro w T;refine(aJr m i neg w T (by omega) (by omega)).mono ?_;rintro e w' (⟨B,u,x,rfl,rfl⟩|h)
    · have:B=r:=rT _ _ _ _ (dX i) u hr
      subst this;exact .inl ⟨rfl,rfl,tJ x⟩
    · exact .inr h
  have j:=fun w T=>aJ7 m i r (sgn neg) w T (aBf neg) z A (by omega) y hr
  have t:=Z l;have q:=Z k;have c:=Z b;have d:=Z j;have g:=Z T;clear l k b j T hr;obtain⟨C,n⟩:∃v,uD r=v:=⟨_,rfl⟩
  rw[n]at d c ⊢
  clear n;cases neg;all_goals
    go_enter Tryz.func205,Tryz.ntmps205
    go_wp2_with (first
      | (go_at_call 233;refine(t.o _).mono ?_;rintro e w' ⟨rfl,rfl⟩)
      | (go_at_call 234;refine(q.o _).mono ?_;rintro e w' ⟨rfl,rfl⟩)
      | (go_at_call 242;((with_reducible refine(cX _).mono ?_);rintro e w' ⟨rfl,rfl⟩))
      | (go_at_call 242;((with_reducible refine(cN _).mono ?_);rintro e w' ⟨rfl,rfl⟩)))
    refine(c.o _ g.o).mono ?_;rintro e K (⟨rfl,rfl,rfl⟩|⟨f,rfl,rfl⟩)
    · go_wp2
      go_ret3;exact⟨rfl,am _ _⟩
    · go_wp2_with fail
      refine(d.o _ g.o).mono ?_;rintro e L ⟨rfl,a⟩;have p:=Z a;clear a;go_wp2
      go_ret3;exact⟨rfl,p.o⟩
theorem wI (a b:Nat)(d:b<=1):a<=a ||| b/\a ||| b<=a+1:=by
 refine⟨qk,?_⟩;have:b=0\/b=1:=by{omega};rcases this with rfl|rfl;{simp};{have h:=ql (a:=a) (b:=1) (n:=1);have:a ||| 1=2*(a / 2)+1:=by{have e:(a ||| 1) / 2=a / 2:=by{have:=Nat.or_div_two_pow (a:=a) (b:=1) (n:=1);simpa using this};have c:(a ||| 1)%2=1:=by{rw[show(2:Nat)=2^1 from rfl,ql];have:a%2=0\/a%2=1:=by{omega};rcases this with h|h<;>rw[show(2:Nat)^1=2 from rfl,h]<;>decide};omega};omega}
def iK (k:Nat):Nat:=(-(((k:Int)-52)*78913 / 262144)+348).toNat
def lK (k:Nat):Int:=((iK k:Int)-348)*108853 / 32768
def sK (k:Nat):Nat:=(60-(k:Int)-lK k).toNat
def pK (k:Nat):Nat:=iK k-348
structure aRO (k:Nat):Prop where
  p:-(((k:Int)-52)*78913 / 262144)=(iK k:Int)-348
  i:iK k=348+pK k
  p1:7<=pK k
  p2:pK k<=16
  s:-(((1023+k:Nat):Int)-1086+lK k+3)=sK k
  s64:sK k<64
  s1:1<=sK k
  lo:aR (iK k)=0
  one:2^(63-k)*aJ (iK k)=4*10^pK k*(18446744073709551616*2^sK k)
  ge:2*(18446744073709551616*2^sK k)<=1024*aJ (iK k)
  le:1024*aJ (iK k)<=20*(18446744073709551616*2^sK k)
instance (k:Nat):Decidable (aRO k) :=
  decidable_of_iff (-(((k:Int)-52)*78913 / 262144)=(iK k:Int)-348/\iK k=348+pK k/\7<=pK k/\pK k<=16/\-(((1023+k:Nat):Int)-1086+lK k+3)=sK k/\sK k<64/\1<=sK k/\aR (iK k)=0/\2^(63-k)*aJ (iK k)=4*10^pK k*(18446744073709551616*2^sK k)/\2*(18446744073709551616*2^sK k)<=1024*aJ (iK k)/\1024*aJ (iK k)<=20*(18446744073709551616*2^sK k))
    ⟨fun⟨a,b,c,d,e,f,f1,g,h,i,j⟩=>⟨a,b,c,d,e,f,f1,g,h,i,j⟩,fun⟨a,b,c,d,e,f,f1,g,h,i,j⟩=>⟨a,b,c,d,e,f,f1,g,h,i,j⟩⟩
open Go.RowKit
theorem uF (c:UInt8)(b:U):∀a:U,(∀x∈a,x≠c)->Lib.index (a++c :: b) [c]=a.length
  | [],_=>by simp[Lib.index,List.isPrefixOf]
  | x :: a,h=>by
    have hx:(c==x)=false:=by rw[ai];exact fun e=>h x (by simp) e.symm
    have f:=uF c b a (fun y d=>h y (by simp[d]));rw[dw,Lib.index];simp only[List.isPrefixOf,hx,lf,fw,fy,f];rw[ae (by simp)];simp
theorem aBS (c:UInt8):∀a:U,(∀x∈a,x≠c)->Lib.index a [c]=-1
  | [],_=>by simp[Lib.index]
  | x :: a,h=>by
    have hx:(c==x)=false:=by rw[ai];exact fun e=>h x (by simp) e.symm
    have d:=aBS c a (fun y b=>h y (by simp[b]));rw[Lib.index];simp[List.isPrefixOf,hx,d]
theorem aJe (c:UInt8)(a b:U)(h:∀x∈a,x≠c):Lib.cut (a++c :: b) [c]=(a,b,true):=by
 unfold Lib.cut;rw[uF c b a h,af (by omega)];simp
def cG (D:U):U:=D.take 1++(if 1<D.length then 46 :: D.drop 1 else [])
theorem aD9 (D:U)(a:1<=D.length)(hd:∀x∈D,aE x=true):Lib.replace (cG D) [46] [] 1=D:=by
 have nd:∀x∈D,x≠46:=by{rintro x hx rfl;exact absurd (hd 46 hx) (by decide)};unfold Lib.replace;rw[ae (by decide)];cases D with|nil=>simp at a|cons d D=>{cases D with|nil=>{have e:cG [d]=[d]:=rfl;rw[e];unfold Lib.replaceNum;rw[og (aBS 46 [d] (fun x hx=>nd x hx)),af (.inr (by decide))];rfl}|cons f D=>{have e:cG (d :: f :: D)=[d]++46 :: f :: D:=by{unfold cG;simp};have hi:Lib.index ([d]++46 :: f :: D) [46]=(1:Nat):=uF 46 (f :: D) [d] (fun x hx=>nd x (by simp at hx;simp[hx]));rw[e];unfold Lib.replaceNum;rw[ae (by rw[oq (by decide) hi];omega)];show Lib.replaceK [46] [] (0+1) _=_;rw[jw _ _ _ _ 1 hi];rfl}}
theorem aGh:((List.range 1000).all fun n=>Lib.decNat (cK n)==some n)=true:=by kernel_rfl
theorem aN9 (n:Nat)(h:n<1000):Lib.decNat (cK n)=some n:=by
 have:=da.1 aGh n (fg.2 h);simpa using this
theorem aN8 (n:Nat):(cK n).length<=3:=by
 unfold cK;split;{simp};{split<;>simp}
theorem aLP (x:Int)(a:-1000<x)(b:x<1000):Lib.atoi ((if x<0 then 45 else 43) :: cK x.natAbs)=some x:=by
 have e:=aN9 x.natAbs (by omega);by_cases h:x<0;{rw[af h];show(Lib.decNat (cK x.natAbs)).map (fun m:Nat=>-(m:Int))=some x;rw[e];show some (-(x.natAbs:Int))=some x;congr 1;omega};{rw[ae h];show(Lib.decNat (cK x.natAbs)).map (fun m:Nat=>(m:Int))=some x;rw[e];show some (x.natAbs:Int)=some x;congr 1;omega}
theorem aFz (D:U)(x:Int)(b:1<=D.length)(f:D.length<=100)(hd:∀c∈D,aE c=true)(x0:-1000<x)(x1:x<1000) :
    lV (eS D x) D x (cG D) ((if x<0 then 45 else 43) :: cK x.natAbs):=by
 have g:(cG D).length<=102:=by{unfold cG;split;{simp;omega};{simp;omega}};have d:=aN8 x.natAbs;have e:eS D x=cG D++101 :: ((if x<0 then 45 else 43) :: cK x.natAbs):=by{unfold eS cG;simp};refine⟨?_,aLP x x0 x1,aD9 D b hd,?_,?_,by omega,?_,by omega,by omega⟩;{rw[e];refine aJe 101 _ _ ?_;rintro y a rfl;unfold cG at a;rcases cu.1 a with a|a;{exact absurd (hd _ (ja a)) (by decide)};{split at a;{rcases b9.1 a with a|a;{exact absurd a (by decide)};{exact absurd (hd _ (jd a)) (by decide)}};{cases a}}};{rw[e,ax,bv,bv];omega};{rw[bv];omega};{show Lib.count (cG D) [46]<=1000;have:=Lib.count_le (cG D) [46];omega}
theorem aDi (n:Nat)(h:1<=n):∀j,Lib.decDigits (n*10^j)=Lib.decDigits n++List.replicate j 48
  | 0=>by simp
  | j+1=>by
    have a:1<=10^j:=b7 (by decide);have e:n*10^(j+1)=n*10^j*10:=by rw[bz,ag]
    have b:1<=n*10^j:=cf h a;rw[e,Lib.decDigits,dif_neg (by omega),Nat.mul_div_cancel _ (by decide),qm,aDi n h j,je,cv];rfl
theorem aDj (r:Nat)(h:r<10):aE (UInt8.ofNat (48+r))=true:=by
 have:((List.range 10).all fun r=>aE (UInt8.ofNat (48+r)))=true:=by{decide};exact da.1 this r (fg.2 h)
theorem mA (n:Nat):∀c∈Lib.decDigits n,aE c=true:=by
 induction n using Nat.strongRecOn with|ind n ih=>{rw[Lib.decDigits];split;{intro c a;rw[fh.1 a];exact aDj _ ‹_›};{intro c a;rcases cu.1 a with a|a;{exact ih _ (by omega) c a};{rw[fh.1 a];exact aDj _ (by omega)}}}
theorem aF4 (l:U):∀j,bT (l++List.replicate j 48)=bT l
  | 0=>by simp
  | j+1=>by
    rw[je,<-cv,mH,af rfl,aF4 l j]
theorem aIE (l:U):l.take (bT l)++List.replicate (l.length-bT l) 48=l:=by
 induction l using gX with|h0=>rfl|h1 l a ih=>{rw[mH];by_cases h:a=48;{rw[af h];have b:=jA l;rw[ou b,ax,jx,show l.length+1-bT l=l.length-bT l+1 by omega,je,<-cv,ih,h]};{rw[ae h,fi (by simp)];simp}}
def cO (n:Nat):U:=(Lib.decDigits n).take (bT (Lib.decDigits n))
theorem aHG (n j:Nat)(h:1<=n):(Lib.decDigits (n*10^j)).take (bT (Lib.decDigits (n*10^j)))=cO n:=by
 rw[aDi n h j,aF4];exact ou (jA _)
theorem aDh (n:Nat):cO n++List.replicate (Lib.nDigits n-(cO n).length) 48=Lib.decDigits n:=by
 have e:(cO n).length=bT (Lib.decDigits n):=by{unfold cO;rw[bu];have:=jA (Lib.decDigits n);omega};rw[e,<-dv];exact aIE _
theorem aAT (n:Nat)(h:1<=n):1<=(cO n).length/\(cO n).length<=Lib.nDigits n:=by
 have e:(cO n).length=bT (Lib.decDigits n):=by{unfold cO;rw[bu];have:=jA (Lib.decDigits n);omega};rw[e];refine⟨wT n h,?_⟩;have:=jA (Lib.decDigits n);rwa[dv]at this
theorem aAS (n:Nat):∀c∈cO n,aE c=true:=fun c a=>mA n c (ja a)
open Go.RowKit
theorem aQM (i:Nat)(hi:i<696):9223372036854775808<=aJ i/\aJ i<=18446744073709547521:=by
 obtain⟨g,j,a,k,l,m⟩:=vH i hi;obtain⟨b,c⟩:=aCj i hi;have e:=wR i;have d:pmN i+aR i=aJ i*18446744073709551616:=by{unfold pmN;have:1*18446744073709551616<=aJ i*18446744073709551616:=ap _ a;omega};have f:pmN i<=340282366920938387905510881517444792320:=by{refine ff fun h=>?_;have:=ap (dR i) (show 340282366920938387905510881517444792320+1<=pmN i from h);rw[ba,cr]at this;omega};omega
theorem aNc (x h l s hi:Nat)(a:x*h / 18446744073709551616=hi)(b:1<=hi)(c:hi<18446744073709551616):(hi-1) / 2^s<=cJ x h l s/\cJ x h l s<=hi / 2^s+1:=by
 unfold cJ;simp only[];rw[a];have d:(hi-1) / 2^s<=hi / 2^s:=ub (by omega);split;{have:=wI (hi / 2^s) 1 (by omega);omega};{split;{rw[show(hi+18446744073709551615)%18446744073709551616=hi-1 by omega];have:=wI ((hi-1) / 2^s) (if 1<(x*h%18446744073709551616+18446744073709551616-x*l / 18446744073709551616)%18446744073709551616 then 1 else 0) (by split<;>omega);omega};{have:=wI (hi / 2^s) (if 1<(x*h%18446744073709551616+18446744073709551616-x*l / 18446744073709551616)%18446744073709551616 then 1 else 0) (by split<;>omega);omega}}
theorem aB9 (d i b s u:Nat)(hi:i<696)(C:1<=b)(n:2^(b-1)<=d)(o:d<2^b)(B:b<=64)(j:fJ b i=s)(k:cJ (d*2^(64-b)) (aJ i) (aR i) s=u) :
    u<72057594037927936/\bA (bU u)<9007199254740992/\(4503599627370496<=bA (bU u)\/bP b i+gO u=0):=by
 have r:d*2^(64-b)<18446744073709551616:=by{have:d*2^(64-b)<2^b*2^(64-b):=di o (ar _);rw[<-aj,show b+(64-b)=64 by omega]at this;exact this};have l:9223372036854775808<=d*2^(64-b):=by{have:2^(b-1)*2^(64-b)<=d*2^(64-b):=ap _ n;rw[<-aj,show b-1+(64-b)=63 by omega]at this;exact this};obtain⟨v,w⟩:=aQM i hi;obtain⟨x,hx⟩:∃x,d*2^(64-b)=x:=⟨_,rfl⟩;rw[hx]at l r k;obtain⟨H',a⟩:∃H',x*aJ i / 18446744073709551616=H':=⟨_,rfl⟩;have z:4611686018427387904<=H':=by{rw[<-a,ox (by decide)];have:=gv l v;omega};have A:H'<=18446744073709547521:=by{rw[<-a];refine Nat.div_le_of_le_mul ?_;have:=gv (show x<=18446744073709551616 by omega) w;omega};obtain⟨m,t⟩:=aNc x (aJ i) (aR i) s H' a (by omega) (by omega);rw[k]at m t;have y:8<=s:=by{unfold fJ at j;omega};have e:(2:Nat)^8=256:=by{decide};have D:H' / 2^s<=H' / 256:=by{rw[<-e];exact Nat.div_le_div_left (b8 (by decide) y) (by decide)};have u1:u<=72057594037927921:=by{omega};refine⟨by omega,?_,?_⟩;{by_cases c:36028797018963966<=u;{have:bU u<=u / 2+1:=by{unfold bU;rw[af c];have:=wI (u / 2) (u%2) (by omega);omega};unfold bA;omega};{have:bU u=u:=by{unfold bU;rw[ae c]};rw[this];unfold bA;omega}};{by_cases g:bP b i=0;{by_cases c:36028797018963966<=u;{left;have:u / 2<=bU u:=by{unfold bU;rw[af c];exact qk};have f:bU u=18014398509481983\/18014398509481984<=bU u:=by{omega};unfold bA;rcases f with h|h;{rw[h];decide};{omega}};{right;rw[g];unfold gO;rw[ae c]}};{left;have q:s=8:=by{unfold fJ at j;unfold bP at g;omega};rw[q,e]at m;have f:18014398509481983<=bU u:=by{by_cases c:36028797018963966<=u;{have:u / 2<=bU u:=by{unfold bU;rw[af c];exact qk};omega};{have:bU u=u:=by{unfold bU;rw[ae c]};omega}};have p:bU u=18014398509481983\/18014398509481984<=bU u:=by{omega};unfold bA;rcases p with h|h;{rw[h];decide};{omega}}}
def oN (d i:Nat):Nat × Value :=
  if 64<=fJ (Lib.bitLen d) i then (0,.nilIface)
  else (nK 0 (bP (Lib.bitLen d) i+gO (cJ (d*2^(64-Lib.bitLen d)) (aJ i) (aR i) (fJ (Lib.bitLen d) i).toNat)) (bA (bU (cJ (d*2^(64-Lib.bitLen d)) (aJ i) (aR i) (fJ (Lib.bitLen d) i).toNat))),
    vA (bP (Lib.bitLen d) i+gO (cJ (d*2^(64-Lib.bitLen d)) (aJ i) (aR i) (fJ (Lib.bitLen d) i).toNat)))
theorem aFu (d i S:Nat)(w:H)(T:aA w)(l:fM S)(z:1<=d)(hd:d<18446744073709551616)(hi:i<696) :
    Y 245 #[.int .u64 d,.int .i64 ((i:Int)-348),.int .u64 S] w (O (.tuple #[.float .f64 (S+(oN d i).1),(oN d i).2]) w):=by
 obtain⟨b,c,x,a,B,v⟩:=rK d z hd;obtain⟨p1,p2⟩:=aEv i hi;have p:((i:Int)-348)*108853 / 32768=lpI i:=rfl;obtain⟨s,g⟩:∃s:Nat,fJ b i=s:=⟨(fJ b i).toNat,by unfold fJ;omega⟩;have t:-(min 1074 (53-(b:Int)-lpI i)-(64-(b:Int))+lpI i+3)=s:=g;unfold oN;rw[c,g,eo];by_cases n:64<=s;{rw[af (by omega)];exact aCa d i b S s (lpI i) _ w T l hd c a hi p rfl t n};{rw[ae (by omega)];obtain⟨u,h⟩:∃u,cJ (d*2^(64-b)) (aJ i) (aR i) s=u:=⟨_,rfl⟩;rw[h];obtain⟨C,q2,j⟩:=aB9 d i b s u hi x B v a g h;have A:d*2^(64-b)<18446744073709551616:=by{have:d*2^(64-b)<2^b*2^(64-b):=di v (ar _);rw[<-aj,show b+(64-b)=64 by omega]at this;exact this};have o:=aNq b i u;have r:fW (bU u)=bA (bU u):=mE _ (by have:=aCH u;omega);obtain⟨K,k⟩:∃K,bP b i+gO u=K:=⟨_,rfl⟩;obtain⟨m,f⟩:∃m,bA (bU u)=m:=⟨_,rfl⟩;rw[f]at q2 j r;rw[k]at j o;rw[k,f];have u63:u<9223372036854775808:=ld C (by decide);have s64:s<64:=gu n;refine(aAG d i b S s u K m _ (lpI i) _ w T l hd c a hi p rfl t s64 rfl A h u63 f r q2 o j).mono ?_;rintro e w' ⟨q,y⟩;refine⟨?_,y⟩;unfold qB nK at q;unfold nK;rw[q,bw]}
open Go.RowKit
open Go.RowKit
def oG (v lo hi:Int):Value:=if v<lo\/hi<v then .tuple #[.int .i64 0,.bool false]else .tuple #[.int .i64 v,.bool true]
structure aGU (s:I) (v:Int):Prop where
  ne:1<=s.size
  le:s.size<=9
  dig:digs s.data.toList=s.size
  head:s.size=1\/∃h:0<s.size,((s[0].toNat:Int)==48)=false
  val:Lib.atoi s.data.toList=some v
  lo:0<=v
  hi:v<=999999999
theorem aIN (s:I)(v lo hi:Int)(w:H)(W:aGU s v) :
    Y 62 #[.string s,.int .i64 lo,.int .i64 hi] w (O (oG v lo hi) w):=by
 obtain⟨n,f⟩:∃n,s.size=n:=⟨_,rfl⟩;have D:=fun w=>jN s n w (by unfold maxLen;have:=W.le;omega) (by rw[W.dig,f]);have i:s=⟨s.data.toList.toArray⟩:=rfl;have AT:=fun w=>aGX s.data.toList v w W.val (by rw[<-aS];have:=W.le;omega);rw[<-i]at AT;have j:=W.ne;have k:=W.le;rw[f]at j k;have hd:=W.head;have q:((n:Int) !=s.size)=false:=ii.2 (by omega);have v1:=W.lo;have v2:=W.hi;have d:=Z D;have c:=Z AT;have t:1<=s.size:=by{omega};have u:s.size<=9:=by{omega};have m:=Z f;clear D AT W i;rcases hd with hd|⟨p,hd⟩
 ·have r:¬(1:Int)<n:=by{omega};have l:=Z hd;clear hd f;by_cases g:v<lo
  ·go_enter Tryz.func62,Tryz.ntmps62
   go_wp2_with (first
     | (go_at_call 112;((with_reducible refine(d.o _).mono ?_);rintro e w' ⟨rfl,rfl⟩))
     | (go_at_call 113;((with_reducible refine(c.o _).mono ?_);rintro e w' ⟨rfl,a⟩;have b:=Z a;clear a)))
   go_ret2;exact⟨by unfold oG;rw[af (.inl g)];rfl,b.o⟩
  ·by_cases h:hi<v
   ·go_enter Tryz.func62,Tryz.ntmps62
    go_wp2_with (first
      | (go_at_call 112;((with_reducible refine(d.o _).mono ?_);rintro e w' ⟨rfl,rfl⟩))
      | (go_at_call 113;((with_reducible refine(c.o _).mono ?_);rintro e w' ⟨rfl,a⟩;have b:=Z a;clear a)))
    go_ret2;exact⟨by unfold oG;rw[af (.inr h)];rfl,b.o⟩
   ·go_enter Tryz.func62,Tryz.ntmps62
    go_wp2_with (first
      | (go_at_call 112;((with_reducible refine(d.o _).mono ?_);rintro e w' ⟨rfl,rfl⟩))
      | (go_at_call 113;((with_reducible refine(c.o _).mono ?_);rintro e w' ⟨rfl,a⟩;have b:=Z a;clear a)))
    go_ret2;exact⟨by unfold oG;rw[ae (by omega)];rfl,b.o⟩
 ·clear f;by_cases g:v<lo
  ·go_enter Tryz.func62,Tryz.ntmps62
   go_wp2_with (first
     | (go_at_call 112;((with_reducible refine(d.o _).mono ?_);rintro e w' ⟨rfl,rfl⟩))
     | (go_at_call 113;((with_reducible refine(c.o _).mono ?_);rintro e w' ⟨rfl,a⟩;have b:=Z a;clear a)))
   (all_goals go_ret2);all_goals exact⟨by unfold oG;rw[af (.inl g)];rfl,b.o⟩
  ·by_cases h:hi<v
   ·go_enter Tryz.func62,Tryz.ntmps62
    go_wp2_with (first
      | (go_at_call 112;((with_reducible refine(d.o _).mono ?_);rintro e w' ⟨rfl,rfl⟩))
      | (go_at_call 113;((with_reducible refine(c.o _).mono ?_);rintro e w' ⟨rfl,a⟩;have b:=Z a;clear a)))
    (all_goals go_ret2);all_goals exact⟨by unfold oG;rw[af (.inr h)];rfl,b.o⟩
   ·go_enter Tryz.func62,Tryz.ntmps62
    go_wp2_with (first
      | (go_at_call 112;((with_reducible refine(d.o _).mono ?_);rintro e w' ⟨rfl,rfl⟩))
      | (go_at_call 113;((with_reducible refine(c.o _).mono ?_);rintro e w' ⟨rfl,a⟩;have b:=Z a;clear a)))
    (all_goals go_ret2);all_goals exact⟨by unfold oG;rw[ae (by omega)];rfl,b.o⟩
open Go.RowKit
open Go.RowKit
theorem uA (s:I)(lo hi:Int)(w:H)(i:s.size<=maxLen)(n:Nat)(b:digs s.data.toList=n)
    (h:n<1\/9<n\/((1<=n/\n<=9)/\n≠s.size)\/((1<n/\n<=9)/\n=s.size/\∃h:0<s.size,s[0].toNat=48)) :
    Y 62 #[.string s,.int .i64 lo,.int .i64 hi] w fun e w'=>e=.returned (.tuple #[.int .i64 0,.bool false])/\w=w':=by
  have D:=fun w=>jN s n w i b
  have a:=Z D;clear D b;rcases h with h|h|⟨⟨d,g⟩,h⟩|⟨⟨d,g⟩,h,m,f⟩
  · as_aux_lemma =>
      go_enter Tryz.func62,Tryz.ntmps62
      go_wp2_with (go_at_call 112;(with_reducible refine(a.o _).mono ?_);rintro e w' ⟨rfl,rfl⟩)
      go_ret2;exact⟨rfl,rfl⟩
  · have l:¬n<1:=by omega
    as_aux_lemma =>
      go_enter Tryz.func62,Tryz.ntmps62
      go_wp2_with (go_at_call 112;(with_reducible refine(a.o _).mono ?_);rintro e w' ⟨rfl,rfl⟩)
      go_ret2;exact⟨rfl,rfl⟩
  · have j:((n:Int) !=s.size)=true:=ct.2 (by omega)
    have c:=Z h;clear h;as_aux_lemma =>
      go_enter Tryz.func62,Tryz.ntmps62
      go_wp2_with (go_at_call 112;(with_reducible refine(a.o _).mono ?_);rintro e w' ⟨rfl,rfl⟩)
      go_ret2;exact⟨rfl,rfl⟩
  · have j:((n:Int) !=s.size)=false:=ii.2 (by omega)
    have k:((s[0].toNat:Int)==48)=true:=by simp[f]
    have c:=Z h;clear h;as_aux_lemma =>
      go_enter Tryz.func62,Tryz.ntmps62
      go_wp2_with (go_at_call 112;(with_reducible refine(a.o _).mono ?_);rintro e w' ⟨rfl,rfl⟩)
      go_ret2;exact⟨rfl,rfl⟩
structure eQ (s:I) (lo hi:Int) (n:Int) (b:Bool):Prop where
  one:∀w,Y 62 #[.string s,.int .i64 lo,.int .i64 hi] w (O (.tuple #[.int .i64 n,.bool b]) w)
  dg:b=true->digs s.data.toList=s.size/\s.size<=9
  two:∀w,Y 94 #[.string s,.int .i64 lo,.int .i64 hi] w fun e w'=>e=.returned (.tuple #[.int .i64 n,.bool b])/\w=w'
theorem pY {f:Nat}{c:Array Value}{w:H}{v:Value}(h:Y f c w fun e w'=>e=.returned v/\w=w') :
    Y f c w fun e w'=>e=.returned v/\Below w.heap.size w w' :=
  h.mono fun _ _ ⟨a,b⟩=>⟨a,b▸am _ _⟩
theorem aIM (s:I)(g:1<=s.size)(d:s.size<=9)(hd:digs s.data.toList=s.size)(f:s.size=1\/∃h:0<s.size,((s[0].toNat:Int)==48)=false) :
    ∃m:Nat,Lib.decFrom 0 s.data.toList=some m/\aGU s m:=by
 obtain⟨m,a,i⟩:=zS s.data.toList s.size (by omega);rw[fi (by simp)]at a;have k:10^s.size<=10^9:=b8 (by omega) d;have u:(10:Nat)^9=1000000000:=by{decide};have r:m<=999999999:=by{generalize 10^s.size=t at i k;omega}
 refine⟨m,a,⟨g,d,hd,f,?_,by omega,by omega⟩⟩;obtain⟨c,l,e⟩:∃c l,s.data.toList=c :: l:=by
  cases e:s.data.toList with
  | nil => have : s.data.toList.length = 0 := by rw [e]; rfl
           have q : s.data.toList.length = s.size := by simp
           omega
  | cons c l=>exact⟨c,l,rfl⟩
 have j:aE c=true:=by{have:=tA s.data.toList 0 (by rw[e];simp) (by omega);simpa [e]using this};obtain⟨b,p⟩:=qY c j;rw[e]at a ⊢;unfold Lib.atoi;have n:(c==45)=false:=by{rw[ai];rintro rfl;revert b;decide};have o:(c==43)=false:=by{rw[ai];rintro rfl;revert b;decide};simp only[n,o,fw,fy];unfold Lib.decNat;rw[ae (by simp),a];rfl
theorem aF8 (s:I)(lo hi:Int)(g:s.size<=maxLen):∃n b,eQ s lo hi n b:=by
 have p:digs s.data.toList<=s.size:=by{have:=jG s.data.toList;simpa using this};by_cases k:s.size=0;{exact⟨0,false,fun w=>pY (uA s lo hi w g _ rfl (.inl (by omega))),(fun h=>by cases h),fun w=>yU s lo hi w (.inl k)⟩};{by_cases o:9<s.size;{refine⟨0,false,fun w=>pY (uA s lo hi w g _ rfl ?_),(fun h=>by cases h),fun w=>yU s lo hi w (.inr o)⟩;by_cases a:digs s.data.toList<1;{exact .inl a};{by_cases d:9<digs s.data.toList;{exact .inr (.inl d)};{exact .inr (.inr (.inl ⟨⟨by omega,by omega⟩,by omega⟩))}}};{by_cases i:1<s.size/\(s[0]'(by omega)).toNat=48;{refine⟨0,false,fun w=>pY (uA s lo hi w g _ rfl ?_),(fun h=>by cases h),fun w=>aCf s lo hi w i.1 (by omega) i.2⟩;by_cases a:digs s.data.toList<1;{exact .inl a};{by_cases d:digs s.data.toList=s.size;{exact .inr (.inr (.inr ⟨⟨by omega,by omega⟩,d,by omega,i.2⟩))};{exact .inr (.inr (.inl ⟨⟨by omega,by omega⟩,d⟩))}}};{have j:s.size=1\/∃h:0<s.size,((s[0].toNat:Int)==48)=false:=by{by_cases c:s.size=1;{exact .inl c};{refine .inr ⟨by omega,ai.2 fun e=>i ⟨by omega,by omega⟩⟩}};have R:=fun w=>aCe s lo hi w (by omega) (by omega) j;by_cases hd:digs s.data.toList=s.size;{obtain⟨m,h2,l⟩:=aIM s (by omega) (by omega) hd j;have S:=fun w=>aIN s m lo hi w l;rw[af hd,h2,show(some m).get! = m from rfl]at R;by_cases f:(m:Int)<lo\/hi<(m:Int);{refine⟨0,false,fun w=>?_,(fun h=>by cases h),fun w=>?_⟩;{have:=S w;unfold oG at this;rwa[af f]at this};{have:=R w;unfold sF at this;rwa[af f]at this}};{refine⟨m,true,fun w=>?_,(fun _=>⟨hd,by omega⟩),fun w=>?_⟩;{have:=S w;unfold oG at this;rwa[ae f]at this};{have:=R w;unfold sF at this;rwa[ae f]at this}}};{rw[ae hd]at R;refine⟨0,false,fun w=>pY (uA s lo hi w g _ rfl ?_),(fun h=>by cases h),R⟩;by_cases a:digs s.data.toList<1;{exact .inl a};{exact .inr (.inr (.inl ⟨⟨by omega,by omega⟩,hd⟩))}}}}}
