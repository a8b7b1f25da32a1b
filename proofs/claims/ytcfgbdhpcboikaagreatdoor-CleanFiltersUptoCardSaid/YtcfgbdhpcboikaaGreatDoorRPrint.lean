/-
The document's Print of any finite float that is not nought.
-/
import Derived.Test.YtcfgbdhpcboikaaGreatDoorFixA
import Derived.Test.YtcfgbdhpcboikaaGreatDoorFormL
namespace Go.Proofs.YtcfgbdhpcboikaaGreatDoor
set_option maxHeartbeats 4000000
set_option maxRecDepth 100000
open Go.RowKit
def iH (n:Nat):I:=⟨(List.replicate n 48).toArray⟩
theorem aGs (n:Nat):iH n++⟨#[48]⟩=iH (n+1):=by
 refine qE _ _ ?_;rw[eR];unfold iH;rw[je]
theorem uG (n:Nat):(iH n).size=n:=by unfold iH;rw[eG];simp
theorem aB3 (n:Nat)(c:n<=1000)(w:H):Y 195 #[.int .i64 n] w fun e w'=>e=.returned (.string (iH n))/\w=w':=by
 go_enter Tryz.func195,Tryz.ntmps195;go_wp2;go_loop [3,4] (fun r i=>∃k:Nat,r=.string (iH k)/\i=.int .i64 k/\G (k<=n)) (fun _ i=>n-(intOf i).toNat);case atStart=>exact⟨0,rfl,rfl,Z (bb _)⟩
 case round =>obtain⟨k,rfl,rfl,a⟩:=hrel;have b:=a.o;have f:(iH k).size+1<=1000000:=by{rw[uG];omega};rcases ak k n with h|h;{have d:=aGs k;go_wp2;go_round;(case rel=>exact⟨k+1,rfl,by go_num,Z h⟩);case measure=>simp[intOf];omega};{obtain rfl:k=n:=by{omega};go_wp2;go_ret;exact⟨rfl,rfl⟩}
theorem aIh (neg:Bool)(b:Nat)(D:U)(x:Int)(w:H)(T:aA w)(S:1<=b)(h:b<aL)(v:1<=D.length)(y:D.length<=17)(x0:-900<x)(x1:x<900)
  (R:∀w,aA w->Y 194 #[.float .f64 b] w (O (.tuple #[.string ⟨D.toArray⟩,.int .i64 (x+1)]) w)) :
  Y 153 #[.float .f64 (sgn neg+b:Nat)] w (O (.string ⟨(uM neg D x).toArray⟩) w):=by
 have hI:b<9218868437227405312:=h;have g1:=zG neg b h;have g2:=pB neg b h;have g3:=aCY neg b h S;have g4:=aCX neg b h S;have a2:(FloatKind.f64.format.order (sgn neg+b) (sgn neg+b) !=some .eq)=false:=by{simp[bne,g1]};have AB:=fun w=>uT (sgn neg+b) w;unfold mK at g2;obtain⟨d,hd⟩:∃d:I,d=⟨D.toArray⟩:=⟨_,rfl⟩;have ao:d.data.toList=D:=by{rw[hd]};have l:d.size=D.length:=by{rw[hd];exact eG D};rw[<-hd]at R;clear hd;generalize uB (sgn neg+b)=ab at *;have HD:=Z R;have M:=Z T;have J:=Z AB;have n:=Z ao;have K:=Z l;clear R T AB ao g1;have un:=gG;have a9:d.size<=17:=by{omega};have s:1<=d.size:=by{omega};have HX:G (-900<x/\x<900):=⟨x0,x1⟩
 have ad:G (uM neg D x=(if neg then [45]else [])++(if (d.size:Int)<=x+1/\x+1<=21 then D++List.replicate (x+1-d.size).toNat 48
  else if 1<=x+1/\x+1<=21 then D.take (x+1).toNat++[46]++D.drop (x+1).toNat
  else if -5<=x+1/\x+1<=0 then [48,46]++List.replicate (-(x+1)).toNat 48++D
  else cG D++(if 0<x+1 then [101,43]++Lib.itoa x else [101,45]++Lib.itoa (-x)))):=by
  show _=_;rw[K.o];rfl
 have HN:G (Op.negFloat .f64 (sgn true+b)=b):=Z (aFq b h);clear hI h S;cases neg;case' false =>have W:sgn false+b=b:=wQ b;rw[W]at a2 g3 g4 J ⊢;clear W;go_enter Tryz.func153,Tryz.ntmps153;go_wp2_with (go_at_call 121;refine(J.o _).mono ?_;rintro e w' ⟨rfl,rfl⟩);obtain⟨f,c⟩:∃f:I,f=⟨#[]⟩:=⟨_,rfl⟩;have q:G (f.data.toList=(if false=true then [45]else [])):=by{rw[c];rfl};have a4:f.size<=1:=by{rw[c];decide};rw[<-c];clear c
 case' true =>have g5:=HN.o;generalize sgn true+b=xx at *;go_enter Tryz.func153,Tryz.ntmps153;go_wp2_with (go_at_call 121;refine(J.o _).mono ?_;rintro e w' ⟨rfl,rfl⟩);obtain⟨f,c⟩:∃f:I,f=⟨#[45]⟩:=⟨_,rfl⟩;have q:G (f.data.toList=(if true=true then [45]else [])):=by{rw[c];rfl};have a4:f.size<=1:=by{rw[c];decide};rw[<-c];clear c
 all_goals
  refine(HD.o _ M.o).mono ?_;rintro e W1 ⟨rfl,F⟩;have m:=Z F;have a8:=Z (M.o.below F (ah _));have W:=HX.o.1;have bf:=HX.o.2;clear F;by_cases r:((d.size:Nat):Int)<=x+1/\x+1<=21
  ·obtain⟨j,g⟩:=r;have a:=ad;rw[af (show(d.size:Int)<=x+1/\x+1<=21 from⟨j,g⟩)]at a
   have X:=uG (x+1-d.size).toNat;have a5:(x+1-d.size).toNat<=1000:=by omega
   have i:=fun w=>aB3 (x+1-d.size).toNat (by omega) w
   rw[vm (by omega)]at i
   have N:=Z i;have P:G ((iH (x+1-d.size).toNat).data.toList=List.replicate (x+1-d.size).toNat 48):=Z rfl;clear i;generalize (x+1-d.size).toNat=z at *
   generalize iH z=zs at *
   have a6:zs.size<=1000:=by omega
   have p0:¬x+1<=0:=by omega
   have p5:¬x+1 < -5:=by omega
   have E:¬ 21<x+1:=by omega
   have pk:¬x+1<(d.size:Int):=by omega
   clear X v y x0 x1 s l;go_wp2_with fail
   refine(N.o _).mono ?_;rintro e W2 ⟨rfl,rfl⟩;go_wp2
   go_ret;refine⟨iI ?_,m.o⟩;simp only[eR];rw[a.o,q.o,n.o,P.o,cv]
  ·have p:=ad;rw[ae r]at p
   by_cases j:1<=x+1/\x+1<=21
   ·obtain⟨g,C⟩:=j;have a:=p;rw[af (show 1<=x+1/\x+1<=21 from⟨g,C⟩)]at a
    have Q:x+1<(d.size:Int):=by omega
    obtain⟨k,V⟩:∃k:Nat,x+1=k:=⟨(x+1).toNat,by omega⟩
    rw[V]at a g C Q ⊢
    rw[eo]at a
    obtain⟨s1,t,z1,k1⟩:=qF d k (by omega);obtain⟨A,u,z2,k2⟩:=fT d k (by omega);have a0:=Z t;have a1:=Z u;have a7:=Z V;have p0:¬(k:Int)<=0:=by omega
    have p5:¬(k:Int) < -5:=by omega
    have E:¬ 21<(k:Int):=by omega
    clear t u V r v y x0 x1 s l;go_wp2_with fail
    go_quiet (fail)
    go_wp2
    go_ret;refine⟨iI ?_,m.o.trans ⟨rfl,rfl,rfl,ah _,fun _ _=>rfl⟩⟩;simp only[eR];rw[a.o,q.o,a0.o,a1.o,n.o];simp
   ·rw[ae j]at p
    by_cases g:-5<=x+1/\x+1<=0
    ·obtain⟨C,Q⟩:=g;have a:=p;rw[af (show -5<=x+1/\x+1<=0 from⟨C,Q⟩)]at a
     have X:=uG (-(x+1)).toNat;have a5:(-(x+1)).toNat<=1000:=by omega
     have i:=fun w=>aB3 (-(x+1)).toNat (by omega) w
     rw[vm (by omega)]at i
     have N:=Z i;have P:G ((iH (-(x+1)).toNat).data.toList=List.replicate (-(x+1)).toNat 48):=Z rfl;clear i;generalize (-(x+1)).toNat=z at *
     generalize iH z=zs at *
     have a6:zs.size<=1000:=by omega
     have p5:¬x+1 < -5:=by omega
     have E:¬ 21<x+1:=by omega
     clear X r j v y x0 x1 s l;go_wp2_with fail
     refine(N.o _).mono ?_;rintro e W2 ⟨rfl,rfl⟩;go_wp2
     go_ret;refine⟨iI ?_,m.o⟩;simp only[eR];rw[a.o,q.o,n.o,P.o];simp
    ·have a:=p;rw[ae g]at a
     have aa:G (cG D=D.take 1++(if 1<d.size then 46 :: D.drop 1 else [])):=Z (by unfold cG;rw[K.o]);have an:x+1 < -5\/21<x+1:=by omega
     clear r j g;by_cases k1:1<d.size
     case' pos =>
      obtain⟨s1,t,z1,q1⟩:=qF d 1 (by omega);obtain⟨A,u,z2,q2⟩:=fT d 1 (by omega);have bh:∀w,(Instr.slice 9 (.string d) none (some (.int .i64 1)) none).run Tryz.prog w=.ok (.string s1) w:=q1;have bj:∀w,(Instr.slice 9 (.string d) (some (.int .i64 1)) none none).run Tryz.prog w=.ok (.string A) w:=q2;have L:G ((s1++⟨#[46]⟩++A).data.toList=cG D):=by
       show _=_;rw[aa.o,af k1];simp only[eR];rw[t,u,n.o];simp
      have ac:G ((s1++⟨#[46]⟩++A).size<=100):=by
       show _<=_;simp only[od];have:(⟨#[46]⟩:I).size=1:=rfl;omega
      clear t u q1 q2;have k2:(1:Int)<d.size:=by omega
      clear k1 v y x0 x1 s l;rcases an with h9|h9
      case' inl =>
       have p1:x+1<1:=by omega
       have E:¬ 21<x+1:=by omega
      case' inr=>have p1:¬x+1<1:=by omega
      all_goals
       go_wp2_with fail
       go_quiet (fail)
       obtain⟨pt,av⟩:=ex (s1++⟨#[46]⟩++A)
       rw[<-av]at L ac ⊢
       have a3:pt.size<=100:=ac.o;have B:G (Below w.heap.size w (W1.drewN nq)):=Z (m.o.trans ⟨rfl,rfl,rfl,ah _,fun _ _=>rfl⟩);generalize W1.drewN nq=W2 at *
       clear av z1 z2;go_wp2_with fail
     case' neg =>
      have L:G (d.data.toList=cG D):=by
       show _=_;rw[aa.o,ae k1,n.o,eh,fi (by have:=K.o;omega)]
      have a3:d.size<=100:=by omega
      have B:=m;have k2:¬(1:Int)<d.size:=by omega
      clear k1 v y x0 x1 s l;rcases an with h9|h9
      case' inl =>
       have p1:x+1<1:=by omega
       have E:¬ 21<x+1:=by omega
      case' inr=>have p1:¬x+1<1:=by omega
      all_goals go_wp2_with fail
     all_goals
      have al:=Z (M.o.below B.o (ah _));have bd:=pD (1-(x+1)) (by omega) (by omega);have be:=pD x (by omega) (by omega);first
       | (with_reducible refine(pC (1-(x+1)) _ al.o (by omega) (by omega)).mono ?_)
       | (with_reducible refine(pC x _ al.o (by omega) (by omega)).mono ?_)
      rintro e W3 ⟨rfl,B3⟩;have aw:=Z (B.o.trans (B3.mono B.o.size));clear B3;go_wp2
      go_ret;refine⟨iI ?_,aw.o⟩;simp only[eR];rw[a.o,q.o,L.o];first
       | (rw[ae (show ¬ 0<x+1 by omega),show 1-(x+1)=-x by omega];simp)
       | (rw[af (show 0<x+1 by omega)];simp)
open Go.RowKit
theorem aL6 (c:Nat):Lib.itoa (c:Int)=Lib.decDigits c:=by
 unfold Lib.itoa;rw[ae (by omega)];rfl
theorem aQT (r n m s j:Nat)(a:1<=r)(d:r<aL)(h:1<=m)(v:m<100000000000000000)(s1:8<=s)(i:s<=657) :
  ∃y,aNf r n m s j ⟨(Lib.decDigits (gA m j)).toArray⟩ ⟨(Lib.itoa ((s:Int)-348)).toArray⟩ y:=by
 have b:gA m j<=100000000000000000:=by{unfold gA;(repeat' split);all_goals omega};obtain⟨R,f,hi,g⟩:=aHA (gA m j) s b s1 i;have u:=aMl _ b;obtain⟨k,l,q,c,o,e3,e4,e5,p⟩:=aFc ((s:Int)-348) (by omega) (by omega);have t:k.length<=1:=by{rcases e4 with⟨rfl,_⟩|⟨rfl,_⟩|⟨rfl,_⟩<;>simp};refine⟨R,?_,?_,?_,?_,?_⟩;{intro w T;rw[aLz m j h,<-aL6];exact aJI _ w T (by omega) (by omega)};{intro w T;rw[show(n:Int)+s-349+1-n=(s:Int)-348 by omega];exact pC _ w T (by omega) (by omega)};{intro w T;have e:(⟨(Lib.decDigits (gA m j)).toArray⟩:I)++⟨#[101]⟩++⟨(Lib.itoa ((s:Int)-348)).toArray⟩=vV (gA m j) ((s:Int)-348):=by{refine qE _ _ ?_;simp};rw[e];exact g w T};{rw[aO4 R r f d a,bp,bi,bi,hi r a,eG,dv];exact and_congr ia (by omega)};{refine⟨?_,?_⟩;{rw[eG,dv];omega};{rw[eG,c,ax];omega}}
theorem aET {r d j:Nat}{q:Int}(S:gJ r d q j)(a:1<=r)(b:r<aL):(1<=(cO d).length/\(cO d).length<=17)/\∀w,aA w ->
  Y 194 #[.float .f64 r] w (O (.tuple #[.string ⟨(cO d).toArray⟩,.int .i64 ((Lib.nDigits d:Int)+q)]) w):=by
 obtain⟨D,t,N,z,l,A,g,lo,hi,hr,Q,R⟩:=aNY S a b;have o:N<=17:=by{have:=oL d S.lt;omega};have J:1<=D:=by{have:=dT (N-1);omega};have aa:=S.idx;rw[z,dv,l,A];refine⟨⟨g,o⟩,fun w T=>aGf r N _ _ g o (fun n e n2=>?_) w T⟩;obtain⟨m,s,F,s1,f,P⟩:=aE2 r n a b e (by omega);have v:1<=m:=by{have:=dT (n-1);have:=F.lo;omega};have V:m<100000000000000000:=by{have ab:10^n<=10^17:=kJ (by omega);have ac:(10:Nat)^17=100000000000000000:=by{decide};have:=F.hi;omega};have M:Lib.nDigits m=n:=by{have:=oe (n-1) m F.lo (by rw[Nat.sub_add_cancel e];exact F.hi);omega};obtain⟨y,sA,sB,W,X,x⟩:=aKw r n m s e (by omega) M f P;have k:=fun j=>aQT r n m s j a b v V s1 f;refine⟨m,s,y,sA,sB,W,X,fun j=>⟨(Lib.decDigits (gA m j)).toArray⟩,fun _=>⟨(Lib.itoa ((s:Int)-348)).toArray⟩,fun j=>(k j).choose,x,v,by omega,f,fun j _=>(k j).choose_spec,fun c j=>aL3 Q c j,fun c=>?_⟩;subst c;obtain⟨E,hx⟩:=R m s F;subst E;obtain⟨j',j3,C,p,u⟩:=aOj J l hr hx;refine⟨j',j3,p,u,fun i _ L K=>?_,by omega⟩;have B:i=j':=by{rcases i8 i j' with h|h|h;{exact absurd L (u i h)};{exact h};{exact absurd p (K j' h)}};show(⟨(Lib.decDigits (gA m i)).toArray⟩:I)=_;rw[B,C]
theorem aFL {b d j:Nat}{q:Int}(S:gJ b d q j)(a:1<=b)(c:b<aL)(neg:Bool)(w:H)(T:aA w) :
  Y 153 #[.float .f64 (sgn neg+b:Nat)] w (O (.string ⟨(uM neg (cO d) ((Lib.nDigits d:Int)+q-1)).toArray⟩) w):=by
 obtain⟨⟨f,g⟩,e⟩:=aET S a c;have h:=S.idx;have j1:=S.j1;have j2:=S.j2;have i:=f7 d;have k:=oL d S.lt;refine aIh neg b (cO d) _ w T a c f g (by omega) (by omega) fun w T=>?_;rw[show(Lib.nDigits d:Int)+q-1+1=(Lib.nDigits d:Int)+q by omega];exact e w T
open Go.RowKit
def aAY (l:U)(j:Nat):Bool:=if digs (l.drop j)=0 then false else decide (j+digs (l.drop j)=l.length)
def sJ (l:U)(i:Nat):Bool:=if l[i]?=some 101\/l[i]?=some 69 then aAY l (if l[i+1]?=some 43\/l[i+1]?=some 45 then i+1+1 else i+1)else decide (i=l.length)
def aA6 (l:U)(i0 i1:Nat):Bool :=
 if l[i1]?=some 46 then if digs (l.drop (i1+1))=0 then false else sJ l (i1+1+digs (l.drop (i1+1)))else if i1=i0 then false else sJ l i1
theorem aAd (l:U)(i:Nat):(l.drop i).head?=l[i]?:=List.head?_drop
theorem aOA (l:U)(i:Nat)(hi:i<=l.length):oM (l.drop i)=aAY l (if l[i]?=some 43\/l[i]?=some 45 then i+1 else i):=by
 have d:∀j,j<=l.length->(!(l.drop j).isEmpty&&digs (l.drop j)==(l.drop j).length)=aAY l j:=by{intro j f;have hd:=jG (l.drop j);rw[bm]at hd;unfold aAY;by_cases b:digs (l.drop j)=0;{rw[af b,b];cases c:l.drop j with|nil=>rfl|cons a t=>simp};{rw[ae b];have e:(l.drop j).isEmpty=false:=by{cases c:l.drop j with|nil=>{rw[c]at b;exact absurd rfl b}|cons a t=>rfl};rw[e,Bool.not_false,jn,bm,ay,cn,bi];omega}};unfold oM;simp only[aAd];by_cases h:l[i]?=some 43\/l[i]?=some 45;{rw[af h,af h,i5];refine d _ ?_;have:i<l.length:=by{refine gu fun c=>?_;rw[ew c]at h;rcases h with h|h<;>cases h};exact this};{rw[ae h,ae h];exact d _ hi}
theorem aHc (n:Nat)(l:U)(i:Nat)(hi:i<=l.length):jY n (l.drop i)=if n=0 then false else sJ l i:=by
 unfold jY sJ;by_cases a:n=0;{rw[af a,af a]};{rw[ae a,ae a,aAd];by_cases b:l.drop i=[];{have c:l.length<=i:=by{simpa using b};rw[af b,ae (by rw[ew c];simp),bt (by omega)]};{have c:i<l.length:=by{refine gu fun d=>b ?_;exact dy d};rw[ae b];by_cases h:l[i]?=some 101\/l[i]?=some 69;{rw[af h,af h,i5,aOA l (i+1) c]};{rw[ae h,ae h,bo (by omega)]}}}
theorem aHb (l:U)(i:Nat)(hi:i<=l.length):sP (l.drop i)=aA6 l i (i+digs (l.drop i)):=by
 have hd:=jG (l.drop i);rw[bm]at hd;unfold sP aA6;simp only[i5,aAd];by_cases h:l[i+digs (l.drop i)]?=some 46;{rw[af h,af h];have d:i+digs (l.drop i)<l.length:=by{refine gu fun c=>?_;rw[ew c]at h;cases h};have b:=jG (l.drop (i+digs (l.drop i)+1));rw[bm]at b;by_cases a:digs (l.drop (i+digs (l.drop i)+1))=0;{rw[af a,af a]};{rw[ae a,ae a,<-jg,aHc _ l _ (by omega),ae (by omega)]}};{rw[ae h,ae h,aHc _ l _ (by omega)];by_cases a:digs (l.drop i)=0;{rw[af a,af (by omega)]};{rw[ae a,ae (by omega)]}}
theorem aOC (l:U)(h:¬ 40<l.length):cH l=aA6 l (if l[0]?=some 45 then 1 else 0) ((if l[0]?=some 45 then 1 else 0)+digs (l.drop (if l[0]?=some 45 then 1 else 0))):=by
 have e:l.head?=l[0]?:=by{rw[<-aAd];rfl};unfold cH;rw[ae h,e];by_cases b:l[0]?=some 45;{rw[af b,af b];refine aHb l 1 ?_;cases l with|nil=>cases b|cons a t=>simp};{rw[ae b,ae b];exact aHb l 0 (bb _)}
theorem aJg (l:U)(k:Nat)(h:k<digs l):∃c:k<l.length,aE l[k]=true:=by
 have d:=jG l;refine⟨by omega,?_⟩;have e:l.take (digs l)=l.takeWhile aE:=by{unfold digs;exact(uk.1 (vn aE)).symm};have a:k<(l.takeWhile aE).length:=h;have b:(l.takeWhile aE)[k]=l[k]:=by{have:=vn (l:=l) aE;exact this.getElem a};have:=da.1 (List.all_takeWhile (l:=l) (p:=aE)) _ (dz a);rw[b]at this;exact this
theorem aLL (l:U)(h:digs l<l.length):aE l[digs l]=false:=by
 cases hd:aE l[digs l]with
 | false=>rfl
 | true =>
  have:=xZ l (digs l) h (ah _) hd;omega
theorem aJf (l:U)(i n:Nat)(b:digs (l.drop i)=n):(∀k (h:k<l.length),i<=k->k<i+n->aE l[k]=true)/\∀h:i+n<l.length,aE l[i+n]=false:=by
 subst b;refine⟨fun k h c d=>?_,fun h=>?_⟩;{obtain⟨f,a⟩:=aJg (l.drop i) (k-i) (by omega);rw[l7]at a;have e:i+(k-i)=k:=by{omega};simp only[e]at a;exact a};{have:=aLL (l.drop i) (by rw[bm];omega);rw[l7]at this;exact this}
theorem aBb {a b:Int}(h:a=b):Ending.returned (.int .i64 a)=.returned (.int .i64 b):=by rw[h]
theorem aMU (s:I)(i:Nat)(hi:i<=s.size)(y:s.size<=1000)(w:H):Y 223 #[.string s,.int .i64 i] w fun e w'=>e=.returned (.int .i64 ((i:Int)+(digs (s.data.toList.drop i):Nat)))/\w=w':=by
 have hlen:s.data.toList.length=s.size:=(aS s).symm;obtain⟨n,c⟩:∃n,digs (s.data.toList.drop i)=n:=⟨_,rfl⟩;have hd:=jG (s.data.toList.drop i);rw[bm,hlen,c]at hd;have t:=Z c;have f:=Z hd;have g:=Z (aJf s.data.toList i n c);rw[c];clear c hd hlen;go_enter Tryz.func223,Tryz.ntmps223;go_wp2;go_loop [1] (fun v=>∃k:Nat,v=.int .i64 k/\G (i<=k/\k<=i+n)) (fun v=>i+n-(intOf v).toNat);case atStart=>exact⟨i,rfl,Z ⟨ah _,Nat.le_add_right _ _⟩⟩
 case round =>obtain⟨k,rfl,l⟩:=hrel;have p:=l.o.1;have u:=l.o.2;rcases ak k (i+n)with h|h;{have r:k<s.size:=by{have:=f.o;omega};have hd:aE s[k]=true:=g.o.1 k r p h;unfold aE at hd;simp only[bp,bi]at hd;have j:(48:Int)<=s[k].toNat:=by{omega};have m:(s[k].toNat:Int)<=57:=by{omega};clear hd;go_wp2;go_round;(case rel=>exact⟨k+1,by go_num,Z ⟨by omega,h⟩⟩);case measure=>simp[intOf];omega};{obtain rfl:k=i+n:=by{omega};have q:(i+n=s.size)\/∃h:i+n<s.size,aE (s[i+n])=false:=by{rcases ak (i+n) s.size with a|a;{exact .inr ⟨a,g.o.2 a⟩};{left;have:=f.o;omega}};have d:((i+n:Nat):Int)=(i:Int)+n:=by{omega};rcases q with a|⟨a,b⟩;{have x:¬(((i+n:Nat):Int)<s.size):=by{omega};clear a;go_wp2;go_ret;exact⟨aBb d,rfl⟩};{unfold aE at b;rw[i6,gq,gq]at b;rcases b with b|b;{have j:¬((48:Int)<=s[i+n].toNat):=by{omega};go_wp2;go_ret;exact⟨aBb d,rfl⟩};{have j:((48:Int)<=s[i+n].toNat):=by{omega};have m:¬((s[i+n].toNat:Int)<=57):=by{omega};go_wp2;go_ret;exact⟨aBb d,rfl⟩}}}
theorem sR (s:I)(k:Nat):(s.size<=k/\∀c,¬s.data.toList[k]?=some c)\/∃h:k<s.size,∀c:UInt8,s.data.toList[k]?=some c↔s[k]=c:=by
 rcases ak k s.size with h|h;{right;refine⟨h,fun c=>?_⟩;have e:s.data.toList[k]?=some s[k]:=bc (l:=s.data.toList) (i:=k) h;rw[e,d6]};{left;refine⟨h,fun c a=>?_⟩;have:s.data.toList[k]?=none:=ew h;rw[this]at a;cases a}
theorem pG {s:I}{k:Nat}{c:UInt8}(h:s.data.toList[k]?=some c):k+1<=s.size:=by
 rcases sR s k with⟨_,p⟩|⟨p,_⟩;{exact absurd h (p c)};{exact p}
theorem aKo {a b:Bool}(h:a=b):Ending.returned (.bool a)=.returned (.bool b):=by rw[h]
theorem rL {x c:UInt8}{n:Int}(a:n=c.toNat)(h:x=c):((x.toNat:Int)==n)=true:=by rw[a,h];exact beq_self_eq_true _
theorem rM {x c:UInt8}{n:Int}(a:n=c.toNat)(h:¬x=c):((x.toNat:Int)==n)=false:=by
 rw[ai,a];intro e;exact h (de.1 (by omega))
theorem sT (s:I)(ms:s.size<=maxLen)(w:H):Y 193 #[.string s] w fun e w'=>e=.returned (.bool (cH s.data.toList))/\w=w':=by
 have hlen:s.data.toList.length=s.size:=(aS s).symm;by_cases F:40<s.size;{have W:cH s.data.toList=false:=by{unfold cH;rw[af (by rw[hlen];exact F)]};have HB:=Z W;clear W hlen;unfold maxLen at ms;go_enter Tryz.func193,Tryz.ntmps193;go_wp2;go_ret;exact⟨by rw[HB.o];rfl,rfl⟩};{have T:=Z (aOC s.data.toList (by rw[hlen];exact F));have S:=Z hlen;have A:G (∀k,digs (s.data.toList.drop k)<=s.size-k):=fun k=>by{have:=jG (s.data.toList.drop k);rw[bm,hlen]at this;exact this};have an:s.size<=40:=by{omega};have D:=Z (fun k hk w=>aMU s k hk (by omega) w);clear hlen ms F;go_enter Tryz.func193,Tryz.ntmps193;go_upto_region 4 with fail;go_cut [18] (fun b wx=>b=.bool (decide (s.data.toList[0]?=some 45))/\w=wx);(case first =>rcases sR s (0)with⟨p1,p2⟩|⟨p1,p2⟩;{have c:=Z (p2 45);clear p2;go_wp2;go_meet;case rel=>exact⟨by rw[bo c.o],rfl⟩};{by_cases a:s[0]=45;{have r:=rL (n:=45) rfl a;have c:=Z ((p2 45).2 a);clear p2 a;go_wp2;go_meet;case rel=>exact⟨by rw[bt c.o],rfl⟩};{have r:=rM (n:=45) rfl a;have c:=Z (fun h=>a ((p2 45).1 h));clear p2 a;go_wp2;go_meet;case rel=>exact⟨by rw[bo c.o],rfl⟩}});case rest =>obtain⟨rfl,rfl⟩:=hcut;go_upto_if 18 with fail;go_cut [3] (fun i wx=>∃k:Nat,i=.int .i64 k/\w=wx/\G (k<=s.size/\cH s.data.toList=aA6 s.data.toList k (k+digs (s.data.toList.drop k))));(case first =>by_cases a:s.data.toList[0]?=some 45;{have c:=Z a;have hd:=bt a;clear a;go_wp2;go_meet;case rel=>exact⟨1,rfl,rfl,Z ⟨pG c.o,by rw[T.o,af c.o]⟩⟩};{have c:=Z a;have hd:=bo a;clear a;go_wp2;go_meet;case rel=>exact⟨0,rfl,rfl,Z ⟨bb _,by rw[T.o,ae c.o]⟩⟩});case rest =>obtain⟨k,rfl,rfl,K⟩:=hcut;have h1:=K.o.1;have y:=A.o k;have HQ:=Z (fun w=>D.o k h1 w);have R:=Z K.o.2;clear K;generalize digs (s.data.toList.drop k)=d at *;obtain⟨f,M⟩:=ex (k+d);rw[<-M]at R;have e9:(k:Int)+(d:Int)=(f:Int):=by{omega};have hz:(f:Int)-(k:Int)=(d:Int):=by{omega};have Q:G (f<=s.size/\f=k+d):=Z ⟨by omega,M⟩;have ao:(d:Int)<=40:=by{omega};have av:(f:Int)<=40:=by{omega};clear M y;go_upto_region 9 with(go_at_call 223;refine(HQ.o _).mono ?_;rintro e w' ⟨rfl,rfl⟩);go_cut [37] (fun b wx=>b=.bool (decide (s.data.toList[f]?=some 46))/\w=wx);(case first =>rcases sR s (f)with⟨p1,p2⟩|⟨p1,p2⟩;{have c:=Z (p2 46);clear p2;go_wp2;go_meet;case rel=>exact⟨by rw[bo c.o],rfl⟩};{by_cases a:s[f]=46;{have r:=rL (n:=46) rfl a;have c:=Z ((p2 46).2 a);clear p2 a;go_wp2;go_meet;case rel=>exact⟨by rw[bt c.o],rfl⟩};{have r:=rM (n:=46) rfl a;have c:=Z (fun h=>a ((p2 46).1 h));clear p2 a;go_wp2;go_meet;case rel=>exact⟨by rw[bo c.o],rfl⟩}});case rest =>obtain⟨rfl,rfl⟩:=hcut;go_upto_if 37 with fail;go_cut [3,5] (fun i n wx=>∃k n2:Nat,i=.int .i64 k/\n=.int .i64 n2/\w=wx/\G (k<=s.size/\cH s.data.toList=if n2=0 then false else sJ s.data.toList k));(case first =>have P:G (cH s.data.toList=aA6 s.data.toList k f):=R;by_cases a:s.data.toList[f]?=some 46;{have c:=Z a;have hd:=bt a;have z:f+1<=s.size:=pG a;have y:=A.o (f+1);have C:=Z (fun w=>D.o (f+1) z w);have q:G (cH s.data.toList=if digs (s.data.toList.drop (f+1))=0 then false else sJ s.data.toList (f+1+digs (s.data.toList.drop (f+1)))):=Z (by rw[P.o];unfold aA6;rw[af c.o]);clear a;generalize digs (s.data.toList.drop (f+1))=d2 at *;obtain⟨p,X⟩:=ex (f+1);obtain⟨l,hi3⟩:=ex (p+d2);rw[<-X]at y C q;rw[<-hi3]at q;have f1:(f:Int)+1=(p:Int):=by{omega};have f2:(p:Int)+(d2:Int)=(l:Int):=by{omega};have x:G (l<=s.size/\l=p+d2):=Z ⟨by omega,hi3⟩;have g1:(d2:Int)<=40:=by{omega};have g2:(p:Int)<=40:=by{omega};have g3:(l:Int)<=40:=by{omega};have g4:(d:Int)+(l:Int)<=100:=by{omega};have g5:-100<=(d:Int)+(l:Int)-(p:Int):=by{omega};have g6:(d:Int)+(l:Int)-(p:Int)<=100:=by{omega};clear X hi3 y z;by_cases g:d2=0;{have v:((l:Int)==(p:Int))=true:=by{rw[cn];have:=x.o.2;omega};have m:G (cH s.data.toList=false):=Z (by rw[q.o,af g]);clear g;go_wp2_with (go_at_call 223;refine(C.o _).mono ?_;rintro e w' ⟨rfl,rfl⟩);go_ret;exact⟨by rw[m.o];rfl,rfl⟩};{have v:((l:Int)==(p:Int))=false:=by{rw[ai];have:=x.o.2;omega};have m:G (cH s.data.toList=sJ s.data.toList l):=Z (by rw[q.o,ae g]);have ac:G (d2≠0):=g;clear g;go_wp2_with (go_at_call 223;refine(C.o _).mono ?_;rintro e w' ⟨rfl,rfl⟩);go_meet;case rel=>exact⟨l,d+d2,rfl,by have:=x.o.2;congr 1;omega,rfl,Z ⟨x.o.1,by rw[m.o,ae (by have:=ac.o;omega)]⟩⟩}};{have c:=Z a;have hd:=bo a;have m:G (cH s.data.toList=if d=0 then false else sJ s.data.toList f):=by{show _=_;rw[P.o];unfold aA6;rw[ae c.o];have:=Q.o.2;by_cases g:d=0;{rw[af g,af (by omega)]};{rw[ae g,ae (by omega)]}};clear a;go_wp2;go_meet;case rel=>exact⟨f,d,rfl,rfl,rfl,Z ⟨Q.o.1,m.o⟩⟩});case rest =>obtain⟨k2,n2,rfl,rfl,rfl,L⟩:=hcut;have aw:=L.o.1;have B:=Z L.o.2;clear L;by_cases g:n2=0;{have v:((n2:Int)==0)=true:=by{rw[g];rfl};have m:G (cH s.data.toList=false):=Z (by rw[B.o,af g]);clear g;go_wp2;go_ret;exact⟨by rw[m.o];rfl,rfl⟩};{have v:((n2:Int)==0)=false:=by{rw[ai];omega};have m:G (cH s.data.toList=sJ s.data.toList k2):=Z (by rw[B.o,ae g]);clear g B;have a2:(k2:Int)<=40:=by{omega};go_upto_region 18 with fail;go_cut [69] (fun b wx=>b=.bool (decide (s.data.toList[k2]?=some 101\/s.data.toList[k2]?=some 69))/\w=wx);(case first =>rcases sR s (k2)with⟨p1,p2⟩|⟨p1,p2⟩;{have c:=Z (gx.2 ⟨p2 101,p2 69⟩);clear p2;go_wp2;go_meet;case rel=>exact⟨by rw[bo c.o],rfl⟩};{by_cases a:s[k2]=101;{have r:=rL (n:=101) rfl a;have c:G (s.data.toList[k2]?=some 101\/s.data.toList[k2]?=some 69):=Z (.inl ((p2 101).2 a));clear p2 a;go_wp2;go_meet;case rel=>exact⟨by rw[bt c.o],rfl⟩};{have r:=rM (n:=101) rfl a;by_cases hd:s[k2]=69;{have E:=rL (n:=69) rfl hd;have c:G (s.data.toList[k2]?=some 101\/s.data.toList[k2]?=some 69):=Z (.inr ((p2 69).2 hd));clear p2 a hd;go_wp2;go_meet;case rel=>exact⟨by rw[bt c.o],rfl⟩};{have E:=rM (n:=69) rfl hd;have c:=Z (gx.2 ⟨fun h=>a ((p2 101).1 h),fun h=>hd ((p2 69).1 h)⟩);clear p2 a hd;go_wp2;go_meet;case rel=>exact⟨by rw[bo c.o],rfl⟩}}});case rest =>obtain⟨rfl,rfl⟩:=hcut;go_upto_if 69 with fail;go_cut [3] (fun i wx=>∃k3:Nat,i=.int .i64 k3/\w=wx/\G (cH s.data.toList=decide (k3=s.size)));(case first =>by_cases a:s.data.toList[k2]?=some 101\/s.data.toList[k2]?=some 69;{have c:=Z a;have hd:=bt a;have z:k2+1<=s.size:=a.elim pG pG;obtain⟨k4,ab⟩:=ex (k2+1);have f1:(k2:Int)+1=(k4:Int):=by{omega};have q:G (cH s.data.toList=aAY s.data.toList (if s.data.toList[k4]?=some 43\/s.data.toList[k4]?=some 45 then k4+1 else k4)):=by{show _=_;rw[m.o];unfold sJ;rw[af c.o,<-ab]};have al:k4<=s.size:=by{omega};have a0:(k4:Int)<=40:=by{omega};clear a ab z;go_upto_region 20 with fail;go_cut [87] (fun b wx=>b=.bool (decide (s.data.toList[k4]?=some 43\/s.data.toList[k4]?=some 45))/\w=wx);(case first =>rcases sR s (k4)with⟨p1,p2⟩|⟨p1,p2⟩;{have c:=Z (gx.2 ⟨p2 43,p2 45⟩);clear p2;go_wp2;go_meet;case rel=>exact⟨by rw[bo c.o],rfl⟩};{by_cases a:s[k4]=43;{have r:=rL (n:=43) rfl a;have c:G (s.data.toList[k4]?=some 43\/s.data.toList[k4]?=some 45):=Z (.inl ((p2 43).2 a));clear p2 a;go_wp2;go_meet;case rel=>exact⟨by rw[bt c.o],rfl⟩};{have r:=rM (n:=43) rfl a;by_cases hd:s[k4]=45;{have E:=rL (n:=45) rfl hd;have c:G (s.data.toList[k4]?=some 43\/s.data.toList[k4]?=some 45):=Z (.inr ((p2 45).2 hd));clear p2 a hd;go_wp2;go_meet;case rel=>exact⟨by rw[bt c.o],rfl⟩};{have E:=rM (n:=45) rfl hd;have c:=Z (gx.2 ⟨fun h=>a ((p2 43).1 h),fun h=>hd ((p2 45).1 h)⟩);clear p2 a hd;go_wp2;go_meet;case rel=>exact⟨by rw[bo c.o],rfl⟩}}});case rest =>obtain⟨rfl,rfl⟩:=hcut;go_upto_if 87 with fail;go_cut [3] (fun i wx=>∃j:Nat,i=.int .i64 j/\w=wx/\G (j<=s.size/\cH s.data.toList=aAY s.data.toList j));(case first =>by_cases a:s.data.toList[k4]?=some 43\/s.data.toList[k4]?=some 45;{have c:=Z a;have hd:=bt a;clear a;go_wp2;go_meet;case rel=>exact⟨k4+1,by go_num,rfl,Z ⟨c.o.elim pG pG,by rw[q.o,af c.o]⟩⟩};{have c:=Z a;have hd:=bo a;clear a;go_wp2;go_meet;case rel=>exact⟨k4,rfl,rfl,Z ⟨al,by rw[q.o,ae c.o]⟩⟩});case rest =>obtain⟨j,rfl,rfl,J⟩:=hcut;have hj:=J.o.1;have aa:=A.o j;have V:=Z (fun w=>D.o j hj w);have u:=Z J.o.2;clear J;unfold aAY at u;rw[S.o]at u;generalize digs (s.data.toList.drop j)=d3 at *;obtain⟨k5,N⟩:=ex (j+d3);rw[<-N]at u;have f2:(j:Int)+(d3:Int)=(k5:Int):=by{omega};have a1:(k5:Int)<=40:=by{omega};by_cases g:d3=0;{have v:((k5:Int)==(j:Int))=true:=by{rw[cn];omega};have t:G (cH s.data.toList=false):=Z (by rw[u.o,af g]);clear g N aa;go_wp2_with (go_at_call 223;refine(V.o _).mono ?_;rintro e w' ⟨rfl,rfl⟩);go_ret;exact⟨by rw[t.o];rfl,rfl⟩};{have v:((k5:Int)==(j:Int))=false:=by{rw[ai];omega};have t:G (cH s.data.toList=decide (k5=s.size)):=Z (by rw[u.o,ae g]);clear g N aa;go_wp2_with (go_at_call 223;refine(V.o _).mono ?_;rintro e w' ⟨rfl,rfl⟩);go_meet;case rel=>exact⟨k5,rfl,rfl,t⟩}};{have c:=Z a;have hd:=bo a;have t:G (cH s.data.toList=decide (k2=s.size)):=by{show _=_;rw[m.o];unfold sJ;rw[ae c.o,S.o]};clear a;go_wp2;go_meet;case rel=>exact⟨k2,rfl,rfl,t⟩});case rest =>obtain⟨k3,rfl,rfl,ad⟩:=hcut;go_wp2;go_ret;refine⟨?_,rfl⟩;rw[ad.o];exact aKo (by rw[ay,cn,bi];omega)}}
open Go.RowKit
theorem aAI (b:Nat)(w:H)(f:(FloatKind.f64.format.order b b !=some .eq)=false)(d:mK b=false)(g:(FloatKind.f64.format.order b 0==some .eq)=true) :
  Y 153 #[.float .f64 b] w fun e w'=>e=.returned (.string { data:=#[48] })/\w=w':=by
 have a:=fun w=>uT b w
 unfold mK at d;generalize uB b=ab at *
 have c:=Z a;clear a;go_enter Tryz.func153,Tryz.ntmps153
 go_wp2_with (go_at_call 121;((with_reducible refine(c.o _).mono ?_);rintro e w' ⟨rfl,rfl⟩))
 go_ret;exact⟨rfl,rfl⟩
theorem aKx (s:I)(w:H)(c:s.size<=maxLen)(b:cH s.data.toList=false) :
  Y 152 #[.string s] w fun e w'=>e=.returned (.tuple #[.float .f64 0,.bool false])/\w=w':=by
 have a:=fun w=>sT s c w
 rw[b]at a
 have d:=Z a;clear a b c;go_enter Tryz.func152,Tryz.ntmps152
 go_wp2_with (go_at_call 193;refine(d.o _).mono ?_;rintro e w' ⟨rfl,rfl⟩)
 go_ret2;exact⟨rfl,rfl⟩
theorem aMK (s:I)(r:Nat)(w:H)(T:aA w)(f:s.size<=maxLen)(d:cH s.data.toList=true)(hi:mK r=false)
  (A:∀w',aA w'->Y 205 #[.string s] w' (O (.tuple #[.float .f64 r,.int .i64 s.size,.nilIface]) w')) :
  Y 152 #[.string s] w (O (.tuple #[.float .f64 r,.bool true]) w):=by
 have a:=fun w=>sT s f w;rw[d]at a;have b:=fun w=>uT r w;unfold mK at hi;generalize uB r=ab at *;have h:=Z b;have g:=Z A;have j:=Z a;have k:=Z T;clear A a d f T b;go_enter Tryz.func152,Tryz.ntmps152;go_wp2_with (go_at_call 193;refine(j.o _).mono ?_;rintro e w' ⟨rfl,rfl⟩);refine(aCb s r _ k.o g.o).mono ?_;rintro e l ⟨rfl,c⟩;have i:=Z c;clear c;go_wp2_with (go_at_call 121;((with_reducible refine(h.o _).mono ?_);rintro e w' ⟨rfl,rfl⟩));go_ret2;exact⟨rfl,i.o⟩
theorem aML (s:I)(r:Nat)(w:H)(T:aA w)(k:s.size<=1000)(d:cH s.data.toList=true)(hi:mK r=true)
  (A:∀w',aA w'->Y 205 #[.string s] w' (O (.tuple #[.float .f64 r,.int .i64 s.size,.iface 158 (.int .i64 1)]) w')) :
  Y 152 #[.string s] w (O (.tuple #[.float .f64 0,.bool false]) w):=by
 have a:=fun w=>sT s (by unfold maxLen;omega) w;rw[d]at a;have b:=fun w=>uT r w;unfold mK at hi;generalize uB r=ab at *;have g:=Z b;have f:=Z A;have i:=Z a;have j:=Z T;clear A a d T b;go_enter Tryz.func152,Tryz.ntmps152;go_wp2_with (go_at_call 193;refine(i.o _).mono ?_;rintro e w' ⟨rfl,rfl⟩);refine(aFA s k r _ j.o f.o).mono ?_;rintro e l ⟨⟨t,p,rfl⟩,c⟩;have h:=Z c;clear c;go_wp2_with (go_at_call 121;((with_reducible refine(g.o _).mono ?_);rintro e w' ⟨rfl,rfl⟩));go_ret2;exact⟨rfl,h.o⟩
theorem aQK (s:I)(r:Nat)(t:I)(w:H)(T:aA w)
  (P:∀w,aA w->Y 152 #[.string s] w (O (.tuple #[.float .f64 r,.bool true]) w))
  (Q:∀w,aA w->Y 153 #[.float .f64 r] w (O (.string t) w)) :
  Y 95 #[.string s] w (O (.tuple #[.string t,.bool true]) w):=by
 have g:=Z P;have h:=Z Q;have d:=Z T;clear P Q T;go_enter Tryz.func95,Tryz.ntmps95;go_wp2_with fail;refine(g.o _ d.o).mono ?_;rintro e j ⟨rfl,a⟩;have c:=Z a;have i:=Z (d.o.below a (ah _));clear a;go_wp2_with fail;refine(h.o _ i.o).mono ?_;rintro e k ⟨rfl,b⟩;have f:=Z (c.o.trans (b.mono c.o.size));clear b;go_wp2;go_ret2;exact⟨rfl,f.o⟩
theorem aHi (s:I)(w:H)(T:aA w)
  (P:∀w,aA w->Y 152 #[.string s] w (O (.tuple #[.float .f64 0,.bool false]) w)) :
  Y 95 #[.string s] w (O (.tuple #[.string ByteArray.empty,.bool false]) w):=by
 have c:=Z P;have d:=Z T;clear P T;go_enter Tryz.func95,Tryz.ntmps95;go_wp2_with fail;refine(c.o _ d.o).mono ?_;rintro e f ⟨rfl,a⟩;have b:=Z a;clear a;go_wp2;go_ret2;exact⟨rfl,b.o⟩
theorem aMM (neg:Bool)(b:Nat)(a:b<aL):∃t,Prn neg b t/\∀w,aA w->Y 153 #[.float .f64 (sgn neg+b)] w (O (.string t) w):=by
 by_cases c:b=0;{subst c;obtain⟨t,ht⟩:=aHh neg 0 a;have e:=ht.nought rfl;subst e;refine⟨_,ht,fun w T=>?_⟩;cases neg;{exact dQ (aAI 0 w (by kernel_rfl) (by kernel_rfl) (by kernel_rfl))};{exact dQ (aAI 9223372036854775808 w (by kernel_rfl) (by kernel_rfl) (by kernel_rfl))}};{obtain⟨d,q,j,S,t,ht,h1,h2,h3,f⟩:=aEI neg b (by omega) a;exact⟨t,⟨h1,fun h=>absurd h c,h2,fun _=>h3,f⟩,fun w T=>by rw[ht];exact aFL S (by omega) a neg w T⟩}
def aPz (v t:I):Prop:=∀w,aA w->Y 95 #[.string v] w (O (.tuple #[.string t,.bool true]) w)
def aPA (v:I):Prop:=∀w,aA w->Y 95 #[.string v] w (O (.tuple #[.string ⟨#[]⟩,.bool false]) w)
theorem aMq (neg:Bool):mK (sgn neg+aL)=true:=by cases neg<;>kernel_rfl
theorem aMF (a:H)(c:aA a)(v:I)(d:v.size<=maxLen):(∃t,aHs v t/\aPz v t)\/(aHt v/\aPA v):=by
 cases hn:cH v.data.toList with|false=>exact .inr ⟨fun w T=>aBM v w T fun w _=>dQ (aA9 v w d hn),fun w T=>aHi v w T fun w _=>dQ (aKx v w d hn)⟩|true=>{have f:v.size<=40:=by{unfold cH at hn;split at hn;{cases hn};{rw[aS];omega}};rcases aEG v hn with⟨neg,b,hb,h⟩|⟨neg,h⟩;{obtain⟨t,ht,hr⟩:=aMM neg b hb;have hi:=pB neg b hb;have F:=fun w T=>aHO v _ t w T (fun w T=>aCZ v _ w T d hn hi h) ht.pr;refine .inl ⟨t,?_,fun w T=>aQK v _ t w T (fun w T=>aMK v _ w T d hn hi h) hr⟩;rcases aG3 a c v d with⟨g,e⟩|N;{have:=tF (by kernel_rfl) (e.yes a c) (F a c);simp at this;exact this▸e};{have:=tF (by kernel_rfl) (N a c) (F a c);simp at this}};{exact .inr ⟨fun w T=>aBM v w T fun w T=>aHg v _ w T (by omega) hn h,fun w T=>aHi v w T fun w T=>aML v _ w T (by omega) hn (aMq neg) h⟩}}
