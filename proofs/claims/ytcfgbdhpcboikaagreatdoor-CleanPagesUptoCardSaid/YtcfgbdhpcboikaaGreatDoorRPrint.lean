/-
The document's Print of any finite float that is not nought.
-/
import Derived.Test.YtcfgbdhpcboikaaGreatDoorFixA
import Derived.Test.YtcfgbdhpcboikaaGreatDoorRNum
import Derived.Test.YtcfgbdhpcboikaaGreatDoorRefSC
namespace Go.Proofs.YtcfgbdhpcboikaaGreatDoor
set_option maxHeartbeats 4000000
set_option maxRecDepth 100000
open Go.RowKit
def jM (n:Nat):I:=⟨(List.replicate n 48).toArray⟩
theorem aHn (n:Nat):jM n++⟨#[48]⟩=jM (n+1):=by
 refine rP _ _ ?_;rw[fM];unfold jM;rw[jl]
theorem vW (n:Nat):(jM n).size=n:=by unfold jM;rw[fE];simp
theorem aCX (n:Nat)(c:n<=1000)(w:H):Y 195 #[.int .i64 n] w fun e w'=>e=.returned (.string (jM n))/\w=w':=by
 go_enter Tryz.func195,Tryz.ntmps195;go_wp2;go_loop [3,4] (fun r i=>∃k:Nat,r=.string (jM k)/\i=.int .i64 k/\G (k<=n)) (fun _ i=>n-(intOf i).toNat);case atStart=>exact⟨0,rfl,rfl,Z (ax _)⟩
 case round =>obtain⟨k,rfl,rfl,a⟩:=hrel;have b:=a.o;have f:(jM k).size+1<=1000000:=by{rw[vW];omega};rcases ak k n with h|h;{have d:=aHn k;go_wp2;go_round;(case rel=>exact⟨k+1,rfl,by go_num,Z h⟩);case measure=>simp[intOf];omega};{obtain rfl:k=n:=by{omega};go_wp2;go_ret;exact⟨rfl,rfl⟩}
theorem aJh (neg:Bool)(b:Nat)(D:U)(x:Int)(w:H)(T:aA w)(M:1<=b)(g:b<aQ)(s:1<=D.length)(t:D.length<=17)(x0:-900<x)(x1:x<900)
  (L:∀w,aA w->Y 194 #[.float .f64 b] w (O (.tuple #[.string ⟨D.toArray⟩,.int .i64 (x+1)]) w)) :
  Y 153 #[.float .f64 (sgn neg+b:Nat)] w (O (.string ⟨(wC neg D x).toArray⟩) w):=by
 have hI:b<9218868437227405312:=g;have g1:=aAB neg b g;have g2:=qL neg b g;have g3:=aDU neg b g M;have g4:=aDT neg b g M;have av:(FloatKind.f64.format.order (sgn neg+b) (sgn neg+b) !=some .eq)=false:=by{simp[bne,g1]};have R:=fun w=>wJ (sgn neg+b) w;unfold nS at g2;obtain⟨d,hd⟩:∃d:I,d=⟨D.toArray⟩:=⟨_,rfl⟩;have ah:d.data.toList=D:=by{rw[hd]};have i:d.size=D.length:=by{rw[hd];exact fE D};rw[<-hd]at L;clear hd;generalize vR (sgn neg+b)=ab at *;have HD:=Z L;have F:=Z T;have B:=Z R;have l:=Z ah;have C:=Z i;clear L T R ah g1;have un:=iE;have a6:d.size<=17:=by{omega};have p:1<=d.size:=by{omega};have HX:G (-900<x/\x<900):=⟨x0,x1⟩
 have X:G (wC neg D x=(if neg then [45]else [])++(if (d.size:Int)<=x+1/\x+1<=21 then D++List.replicate (x+1-d.size).toNat 48
  else if 1<=x+1/\x+1<=21 then D.take (x+1).toNat++[46]++D.drop (x+1).toNat
  else if -5<=x+1/\x+1<=0 then [48,46]++List.replicate (-(x+1)).toNat 48++D
  else cV D++(if 0<x+1 then [101,43]++Lib.itoa x else [101,45]++Lib.itoa (-x)))):=by
  show _=_;rw[C.o];rfl
 have HN:G (Op.negFloat .f64 (sgn true+b)=b):=Z (aGk b g);clear hI g M;cases neg;case' false =>have P:sgn false+b=b:=zD b;rw[P]at av g3 g4 B ⊢;clear P;go_enter Tryz.func153,Tryz.ntmps153;go_wp2_with (go_at_call 121;refine(B.o _).mono ?_;rintro e w' ⟨rfl,rfl⟩);obtain⟨f,c⟩:∃f:I,f=⟨#[]⟩:=⟨_,rfl⟩;have n:G (f.data.toList=(if false=true then [45]else [])):=by{rw[c];rfl};have a1:f.size<=1:=by{rw[c];decide};rw[<-c];clear c
 case' true =>have g5:=HN.o;generalize sgn true+b=xx at *;go_enter Tryz.func153,Tryz.ntmps153;go_wp2_with (go_at_call 121;refine(B.o _).mono ?_;rintro e w' ⟨rfl,rfl⟩);obtain⟨f,c⟩:∃f:I,f=⟨#[45]⟩:=⟨_,rfl⟩;have n:G (f.data.toList=(if true=true then [45]else [])):=by{rw[c];rfl};have a1:f.size<=1:=by{rw[c];decide};rw[<-c];clear c
 all_goals
  refine(HD.o _ F.o).mono ?_;rintro e W1 ⟨rfl,A⟩;have j:=Z A;have a5:=Z (F.o.below A (ag _));have P:=HX.o.1;have a9:=HX.o.2;clear A;by_cases c1:((d.size:Nat):Int)<=x+1/\x+1<=21
  ·obtain⟨c2,c3⟩:=c1;have a:=X;rw[ae (show(d.size:Int)<=x+1/\x+1<=21 from⟨c2,c3⟩)]at a
   have Q:=vW (x+1-d.size).toNat;have a2:(x+1-d.size).toNat<=1000:=by omega
   have h:=fun w=>aCX (x+1-d.size).toNat (by omega) w
   rw[vt (by omega)]at h
   have J:=Z h;have K:G ((jM (x+1-d.size).toNat).data.toList=List.replicate (x+1-d.size).toNat 48):=Z rfl;clear h;generalize (x+1-d.size).toNat=z at *
   generalize jM z=zs at *
   have a3:zs.size<=1000:=by omega
   have p0:¬x+1<=0:=by omega
   have p5:¬x+1 < -5:=by omega
   have y:¬ 21<x+1:=by omega
   have pk:¬x+1<(d.size:Int):=by omega
   clear Q s t x0 x1 p i;go_wp2_with fail
   refine(J.o _).mono ?_;rintro e W2 ⟨rfl,rfl⟩;go_wp2
   go_ret;refine⟨jN ?_,j.o⟩;simp only[fM];rw[a.o,n.o,l.o,K.o,ct]
  ·have m:=X;rw[ac c1]at m
   by_cases c2:1<=x+1/\x+1<=21
   ·obtain⟨c3,c4⟩:=c2;have a:=m;rw[ae (show 1<=x+1/\x+1<=21 from⟨c3,c4⟩)]at a
    have c5:x+1<(d.size:Int):=by omega
    obtain⟨k,N⟩:∃k:Nat,x+1=k:=⟨(x+1).toNat,by omega⟩
    rw[N]at a c3 c4 c5 ⊢
    rw[fh]at a
    obtain⟨s1,q,z1,k1⟩:=rQ d k (by omega);obtain⟨u,r,z2,k2⟩:=gO d k (by omega);have ao:=Z q;have ar:=Z r;have a4:=Z N;have p0:¬(k:Int)<=0:=by omega
    have p5:¬(k:Int) < -5:=by omega
    have y:¬ 21<(k:Int):=by omega
    clear q r N c1 s t x0 x1 p i;go_wp2_with fail
    go_quiet (fail)
    go_wp2
    go_ret;refine⟨jN ?_,j.o.trans ⟨rfl,rfl,rfl,ag _,fun _ _=>rfl⟩⟩;simp only[fM];rw[a.o,n.o,ao.o,ar.o,l.o];simp
   ·rw[ac c2]at m
    by_cases c3:-5<=x+1/\x+1<=0
    ·obtain⟨c4,c5⟩:=c3;have a:=m;rw[ae (show -5<=x+1/\x+1<=0 from⟨c4,c5⟩)]at a
     have Q:=vW (-(x+1)).toNat;have a2:(-(x+1)).toNat<=1000:=by omega
     have h:=fun w=>aCX (-(x+1)).toNat (by omega) w
     rw[vt (by omega)]at h
     have J:=Z h;have K:G ((jM (-(x+1)).toNat).data.toList=List.replicate (-(x+1)).toNat 48):=Z rfl;clear h;generalize (-(x+1)).toNat=z at *
     generalize jM z=zs at *
     have a3:zs.size<=1000:=by omega
     have p5:¬x+1 < -5:=by omega
     have y:¬ 21<x+1:=by omega
     clear Q c1 c2 s t x0 x1 p i;go_wp2_with fail
     refine(J.o _).mono ?_;rintro e W2 ⟨rfl,rfl⟩;go_wp2
     go_ret;refine⟨jN ?_,j.o⟩;simp only[fM];rw[a.o,n.o,l.o,K.o];simp
    ·have a:=m;rw[ac c3]at a
     have V:G (cV D=D.take 1++(if 1<d.size then 46 :: D.drop 1 else [])):=Z (by unfold cV;rw[C.o]);have ad:x+1 < -5\/21<x+1:=by omega
     clear c1 c2 c3;by_cases k1:1<d.size
     case' pos =>
      obtain⟨s1,q,z1,q1⟩:=rQ d 1 (by omega);obtain⟨u,r,z2,q2⟩:=gO d 1 (by omega);have bd:∀w,(Instr.slice 9 (.string d) none (some (.int .i64 1)) none).run Tryz.prog w=.ok (.string s1) w:=q1;have bf:∀w,(Instr.slice 9 (.string d) (some (.int .i64 1)) none none).run Tryz.prog w=.ok (.string u) w:=q2;have E:G ((s1++⟨#[46]⟩++u).data.toList=cV D):=by
       show _=_;rw[V.o,ae k1];simp only[fM];rw[q,r,l.o];simp
      have W:G ((s1++⟨#[46]⟩++u).size<=100):=by
       show _<=_;simp only[m7];have:(⟨#[46]⟩:I).size=1:=rfl;omega
      clear q r q1 q2;have k2:(1:Int)<d.size:=by omega
      clear k1 s t x0 x1 p i;rcases ad with h9|h9
      case' inl =>
       have p1:x+1<1:=by omega
       have y:¬ 21<x+1:=by omega
      case' inr=>have p1:¬x+1<1:=by omega
      all_goals
       go_wp2_with fail
       go_quiet (fail)
       obtain⟨pt,al⟩:=ex (s1++⟨#[46]⟩++u)
       rw[<-al]at E W ⊢
       have a0:pt.size<=100:=W.o;have v:G (Below w.heap.size w (W1.drewN nq)):=Z (j.o.trans ⟨rfl,rfl,rfl,ag _,fun _ _=>rfl⟩);generalize W1.drewN nq=W2 at *
       clear al z1 z2;go_wp2_with fail
     case' neg =>
      have E:G (d.data.toList=cV D):=by
       show _=_;rw[V.o,ac k1,l.o,dc,cy (by have:=C.o;omega)]
      have a0:d.size<=100:=by omega
      have v:=j;have k2:¬(1:Int)<d.size:=by omega
      clear k1 s t x0 x1 p i;rcases ad with h9|h9
      case' inl =>
       have p1:x+1<1:=by omega
       have y:¬ 21<x+1:=by omega
      case' inr=>have p1:¬x+1<1:=by omega
      all_goals go_wp2_with fail
     all_goals
      have aa:=Z (F.o.below v.o (ag _));have a7:=qN (1-(x+1)) (by omega) (by omega);have a8:=qN x (by omega) (by omega);first
       | (with_reducible refine(qM (1-(x+1)) _ aa.o (by omega) (by omega)).mono ?_)
       | (with_reducible refine(qM x _ aa.o (by omega) (by omega)).mono ?_)
      rintro e W3 ⟨rfl,S⟩;have an:=Z (v.o.trans (S.mono v.o.size));clear S;go_wp2
      go_ret;refine⟨jN ?_,an.o⟩;simp only[fM];rw[a.o,n.o,E.o];first
       | (rw[ac (show ¬ 0<x+1 by omega),show 1-(x+1)=-x by omega];simp)
       | (rw[ae (show 0<x+1 by omega)];simp)
open Go.RowKit
theorem aM7 (c:Nat):Lib.itoa (c:Int)=Lib.decDigits c:=by
 unfold Lib.itoa;rw[ac (by omega)];rfl
theorem aRS (r n m s j:Nat)(a:1<=r)(d:r<aQ)(h:1<=m)(v:m<100000000000000000)(s1:8<=s)(i:s<=657) :
  ∃y,aOg r n m s j ⟨(Lib.decDigits (gY m j)).toArray⟩ ⟨(Lib.itoa ((s:Int)-348)).toArray⟩ y:=by
 have b:gY m j<=100000000000000000:=by{unfold gY;(repeat' split);all_goals omega};obtain⟨R,f,hi,g⟩:=aIy (gY m j) s b s1 i;have u:=aNl _ b;obtain⟨k,l,q,c,o,e3,e4,e5,p⟩:=aF8 ((s:Int)-348) (by omega) (by omega);have t:k.length<=1:=by{rcases e4 with⟨rfl,_⟩|⟨rfl,_⟩|⟨rfl,_⟩<;>simp};refine⟨R,?_,?_,?_,?_,?_⟩;{intro w T;rw[aMA m j h,<-aM7];exact aKL _ w T (by omega) (by omega)};{intro w T;rw[show(n:Int)+s-349+1-n=(s:Int)-348 by omega];exact qM _ w T (by omega) (by omega)};{intro w T;have e:(⟨(Lib.decDigits (gY m j)).toArray⟩:I)++⟨#[101]⟩++⟨(Lib.itoa ((s:Int)-348)).toArray⟩=xX (gY m j) ((s:Int)-348):=by{refine rP _ _ ?_;simp};rw[e];exact g w T};{rw[aP5 R r f d a,bt,bm,bm,hi r a,fE,eo];exact and_congr gy (by omega)};{refine⟨?_,?_⟩;{rw[fE,eo];omega};{rw[fE,c,aw];omega}}
theorem aFP {r d j:Nat}{q:Int}(S:iI r d q j)(a:1<=r)(b:r<aQ):(1<=(dG d).length/\(dG d).length<=17)/\∀w,aA w ->
  Y 194 #[.float .f64 r] w (O (.tuple #[.string ⟨(dG d).toArray⟩,.int .i64 ((Lib.nDigits d:Int)+q)]) w):=by
 obtain⟨D,t,N,c1,c2,c3,f,lo,hi,hr,J,K⟩:=aOZ S a b;have k:N<=17:=by{have:=pT d S.lt;omega};have A:1<=D:=by{have:=eW (N-1);omega};have R:=S.idx;rw[c1,eo,c2,c3];refine⟨⟨f,k⟩,fun w T=>aHa r N _ _ f k (fun n n1 V=>?_) w T⟩;obtain⟨m,s,F,s1,e,P⟩:=aFY r n a b n1 (by omega);have p:1<=m:=by{have:=eW (n-1);have:=F.lo;omega};have L:m<100000000000000000:=by{have W:10^n<=10^17:=lR (by omega);have X:(10:Nat)^17=100000000000000000:=by{decide};have:=F.hi;omega};have E:Lib.nDigits m=n:=by{have:=o9 (n-1) m F.lo (by rw[Nat.sub_add_cancel n1];exact F.hi);omega};obtain⟨v,sA,sB,M,Q,u⟩:=aLz r n m s n1 (by omega) E e P;have g:=fun j=>aRS r n m s j a b p L s1 e;refine⟨m,s,v,sA,sB,M,Q,fun j=>⟨(Lib.decDigits (gY m j)).toArray⟩,fun _=>⟨(Lib.itoa ((s:Int)-348)).toArray⟩,fun j=>(g j).choose,u,p,by omega,e,fun j _=>(g j).choose_spec,fun c j=>aM4 J c j,fun c=>?_⟩;subst c;obtain⟨z,hx⟩:=K m s F;subst z;obtain⟨j',j3,y,l,o⟩:=aPk A c2 hr hx;refine⟨j',j3,l,o,fun i _ C B=>?_,by omega⟩;have x:i=j':=by{rcases jh i j' with h|h|h;{exact absurd C (o i h)};{exact h};{exact absurd l (B j' h)}};show(⟨(Lib.decDigits (gY m i)).toArray⟩:I)=_;rw[x,y]
theorem aGG {b d j:Nat}{q:Int}(S:iI b d q j)(a:1<=b)(c:b<aQ)(neg:Bool)(w:H)(T:aA w) :
  Y 153 #[.float .f64 (sgn neg+b:Nat)] w (O (.string ⟨(wC neg (dG d) ((Lib.nDigits d:Int)+q-1)).toArray⟩) w):=by
 obtain⟨⟨f,g⟩,e⟩:=aFP S a c;have h:=S.idx;have j1:=S.j1;have j2:=S.j2;have n1:=gf d;have i:=pT d S.lt;refine aJh neg b (dG d) _ w T a c f g (by omega) (by omega) fun w T=>?_;rw[show(Lib.nDigits d:Int)+q-1+1=(Lib.nDigits d:Int)+q by omega];exact e w T
open Go.RowKit
theorem aBu (b:Nat)(w:H)(f:(FloatKind.f64.format.order b b !=some .eq)=false)(d:nS b=false)(g:(FloatKind.f64.format.order b 0==some .eq)=true) :
  Y 153 #[.float .f64 b] w fun e w'=>e=.returned (.string { data:=#[48] })/\w=w':=by
 have a:=fun w=>wJ b w
 unfold nS at d;generalize vR b=ab at *
 have c:=Z a;clear a;go_enter Tryz.func153,Tryz.ntmps153
 go_wp2_with (go_at_call 121;((with_reducible refine(c.o _).mono ?_);rintro e w' ⟨rfl,rfl⟩))
 go_ret;exact⟨rfl,rfl⟩
theorem aLA (s:I)(w:H)(c:s.size<=maxLen)(b:cW s.data.toList=false) :
  Y 152 #[.string s] w fun e w'=>e=.returned (.tuple #[.float .f64 0,.bool false])/\w=w':=by
 have a:=fun w=>uM s c w
 rw[b]at a
 have d:=Z a;clear a b c;go_enter Tryz.func152,Tryz.ntmps152
 go_wp2_with (go_at_call 193;refine(d.o _).mono ?_;rintro e w' ⟨rfl,rfl⟩)
 go_ret2;exact⟨rfl,rfl⟩
theorem aNJ (s:I)(r:Nat)(w:H)(T:aA w)(f:s.size<=maxLen)(d:cW s.data.toList=true)(hi:nS r=false)
  (A:∀w',aA w'->Y 205 #[.string s] w' (O (.tuple #[.float .f64 r,.int .i64 s.size,.nilIface]) w')) :
  Y 152 #[.string s] w (O (.tuple #[.float .f64 r,.bool true]) w):=by
 have a:=fun w=>uM s f w;rw[d]at a;have b:=fun w=>wJ r w;unfold nS at hi;generalize vR r=ab at *;have h:=Z b;have g:=Z A;have j:=Z a;have k:=Z T;clear A a d f T b;go_enter Tryz.func152,Tryz.ntmps152;go_wp2_with (go_at_call 193;refine(j.o _).mono ?_;rintro e w' ⟨rfl,rfl⟩);refine(aC5 s r _ k.o g.o).mono ?_;rintro e l ⟨rfl,c⟩;have i:=Z c;clear c;go_wp2_with (go_at_call 121;((with_reducible refine(h.o _).mono ?_);rintro e w' ⟨rfl,rfl⟩));go_ret2;exact⟨rfl,i.o⟩
theorem aNK (s:I)(r:Nat)(w:H)(T:aA w)(k:s.size<=1000)(d:cW s.data.toList=true)(hi:nS r=true)
  (A:∀w',aA w'->Y 205 #[.string s] w' (O (.tuple #[.float .f64 r,.int .i64 s.size,.iface 158 (.int .i64 1)]) w')) :
  Y 152 #[.string s] w (O (.tuple #[.float .f64 0,.bool false]) w):=by
 have a:=fun w=>uM s (by unfold maxLen;omega) w;rw[d]at a;have b:=fun w=>wJ r w;unfold nS at hi;generalize vR r=ab at *;have g:=Z b;have f:=Z A;have i:=Z a;have j:=Z T;clear A a d T b;go_enter Tryz.func152,Tryz.ntmps152;go_wp2_with (go_at_call 193;refine(i.o _).mono ?_;rintro e w' ⟨rfl,rfl⟩);refine(aGv s k r _ j.o f.o).mono ?_;rintro e l ⟨⟨t,p,rfl⟩,c⟩;have h:=Z c;clear c;go_wp2_with (go_at_call 121;((with_reducible refine(g.o _).mono ?_);rintro e w' ⟨rfl,rfl⟩));go_ret2;exact⟨rfl,h.o⟩
theorem aRJ (s:I)(r:Nat)(t:I)(w:H)(T:aA w)
  (P:∀w,aA w->Y 152 #[.string s] w (O (.tuple #[.float .f64 r,.bool true]) w))
  (Q:∀w,aA w->Y 153 #[.float .f64 r] w (O (.string t) w)) :
  Y 95 #[.string s] w (O (.tuple #[.string t,.bool true]) w):=by
 have g:=Z P;have h:=Z Q;have d:=Z T;clear P Q T;go_enter Tryz.func95,Tryz.ntmps95;go_wp2_with fail;refine(g.o _ d.o).mono ?_;rintro e j ⟨rfl,a⟩;have c:=Z a;have i:=Z (d.o.below a (ag _));clear a;go_wp2_with fail;refine(h.o _ i.o).mono ?_;rintro e k ⟨rfl,b⟩;have f:=Z (c.o.trans (b.mono c.o.size));clear b;go_wp2;go_ret2;exact⟨rfl,f.o⟩
theorem aIf (s:I)(w:H)(T:aA w)
  (P:∀w,aA w->Y 152 #[.string s] w (O (.tuple #[.float .f64 0,.bool false]) w)) :
  Y 95 #[.string s] w (O (.tuple #[.string ByteArray.empty,.bool false]) w):=by
 have c:=Z P;have d:=Z T;clear P T;go_enter Tryz.func95,Tryz.ntmps95;go_wp2_with fail;refine(c.o _ d.o).mono ?_;rintro e f ⟨rfl,a⟩;have b:=Z a;clear a;go_wp2;go_ret2;exact⟨rfl,b.o⟩
theorem aNL (neg:Bool)(b:Nat)(a:b<aQ):∃t,Prn neg b t/\∀w,aA w->Y 153 #[.float .f64 (sgn neg+b)] w (O (.string t) w):=by
 by_cases c:b=0;{subst c;obtain⟨t,ht⟩:=aIe neg 0 a;have e:=ht.nought rfl;subst e;refine⟨_,ht,fun w T=>?_⟩;cases neg;{exact eQ (aBu 0 w (by kernel_rfl) (by kernel_rfl) (by kernel_rfl))};{exact eQ (aBu 9223372036854775808 w (by kernel_rfl) (by kernel_rfl) (by kernel_rfl))}};{obtain⟨d,q,j,S,t,ht,h1,h2,h3,f⟩:=aFD neg b (by omega) a;exact⟨t,⟨h1,fun h=>absurd h c,h2,fun _=>h3,f⟩,fun w T=>by rw[ht];exact aGG S (by omega) a neg w T⟩}
def aQz (v t:I):Prop:=∀w,aA w->Y 95 #[.string v] w (O (.tuple #[.string t,.bool true]) w)
def aQA (v:I):Prop:=∀w,aA w->Y 95 #[.string v] w (O (.tuple #[.string ⟨#[]⟩,.bool false]) w)
theorem aNq (neg:Bool):nS (sgn neg+aQ)=true:=by cases neg<;>kernel_rfl
theorem aNE (a:H)(c:aA a)(v:I)(d:v.size<=maxLen):(∃t,aIp v t/\aQz v t)\/(aIq v/\aQA v):=by
 cases hn:cW v.data.toList with|false=>exact .inr ⟨fun w T=>aCF v w T fun w _=>eQ (aBV v w d hn),fun w T=>aIf v w T fun w _=>eQ (aLA v w d hn)⟩|true=>{have f:v.size<=40:=by{unfold cW at hn;split at hn;{cases hn};{rw[aY];omega}};rcases aFB v hn with⟨neg,b,hb,h⟩|⟨neg,h⟩;{obtain⟨t,ht,hr⟩:=aNL neg b hb;have hi:=qL neg b hb;have F:=fun w T=>aIL v _ t w T (fun w T=>aDV v _ w T d hn hi h) ht.pr;refine .inl ⟨t,?_,fun w T=>aRJ v _ t w T (fun w T=>aNJ v _ w T d hn hi h) hr⟩;rcases aH0 a c v d with⟨g,e⟩|N;{have:=uX (by kernel_rfl) (e.yes a c) (F a c);simp at this;exact this▸e};{have:=uX (by kernel_rfl) (N a c) (F a c);simp at this}};{exact .inr ⟨fun w T=>aCF v w T fun w T=>aId v _ w T (by omega) hn h,fun w T=>aIf v w T fun w T=>aNK v _ w T (by omega) hn (aNq neg) h⟩}}
open Go.RowKit
def mkB (l:U):I:=⟨l.toArray⟩
theorem aRw (a b:U):mkB a=mkB b↔a=b:=⟨fun h=>by simpa [mkB]using h,fun h=>by rw[h]⟩
theorem aRn (a:List (U))(x:U):Lib.containsS (a.map mkB) (mkB x)=a.contains x:=by
 rw[ba,ix,qd];simp only[ik,aRw,exists_eq_right]
theorem aDb (s z:I)(r:s.size<=1000000000)(u:z.size<=1000)(b:Bool)(a:fQ ((aA8 z.data.toList).map mkB) (cG s.data.toList)=b)(w:H):Y 93 #[.string s,.string z] w (rN (jU s) b w):=by
 have p:=aAl s.data.toList;have q:s.data.toList.length=s.size:=rfl;have k:(jU s).size<=140737488355328:=by{unfold jU;rw[lF];omega};have K:=Z (fun w=>aLx s r w);have S:=fun w=>aHz (jU s) k w;unfold aHO at S;unfold fQ at a;have hd:(jU s).data.toList=cG s.data.toList:=rfl;have i:(⟨(cG s.data.toList).toArray⟩:I)=jU s:=rfl;rw[i]at K;rw[hd]at S;clear p q k hd i;generalize jU s=L at *;generalize cG s.data.toList=X at *;cases hsc:iL X with|none=>{rw[hsc]at a;rw[iZ hsc]at S;obtain rfl:true=b:=a;have f:=Z S;clear S hsc;go_enter Tryz.func93,Tryz.ntmps93;go_wp2_with fail;refine(K.o _).mono ?_;rintro x m ⟨rfl,c⟩;have e:=Z c;clear c;go_wp2_with fail;refine(f.o _).mono ?_;rintro x n ⟨rfl,d⟩;have g:=Z (e.o.trans (d.mono e.o.size));clear d;go_wp2;go_ret2;exact⟨rfl,g.o⟩}|some x=>{rw[hsc]at a;rw[qE hsc]at S;have h:inB (mkB x).data.toList z.data.toList=b:=by{rw[<-a];exact(aRn _ x).symm};have l:=Z (fun w=>pQ (mkB x) z b (Z h) (by omega) w);have f:=Z S;have j:(⟨x.toArray⟩:I)=mkB x:=rfl;rw[j]at f;clear S hsc a h j;generalize mkB x=y at *;go_enter Tryz.func93,Tryz.ntmps93;go_wp2_with fail;refine(K.o _).mono ?_;rintro x m ⟨rfl,c⟩;have e:=Z c;clear c;go_wp2_with fail;refine(f.o _).mono ?_;rintro x n ⟨rfl,d⟩;have g:=Z (e.o.trans (d.mono e.o.size));clear d;go_wp2_with fail;refine(l.o _).mono ?_;rintro x t ⟨rfl,rfl⟩;go_wp2;go_ret2;exact⟨rfl,g.o⟩}
theorem aCK (n a b:I)(z:U)(h:aA8 z=[a.data.toList,b.data.toList]):inB n.data.toList z=decide (n=a\/n=b):=by
 unfold inB;rw[h,ba,qd,bm];simp only[ce,kg,gx];exact⟨fun x=>x.imp eY eY,fun x=>x.imp (fun e=>by rw[e]) (fun e=>by rw[e])⟩
theorem aF4 (n a b c:I)(z:U)(h:aA8 z=[a.data.toList,b.data.toList,c.data.toList]):inB n.data.toList z=decide (n=a\/n=b\/n=c):=by
 unfold inB;rw[h,ba,qd,bm];simp only[ce,kg,gx];exact⟨fun x=>x.imp eY (fun y=>y.imp eY eY),fun x=>x.imp (fun e=>by rw[e]) (fun y=>y.imp (fun e=>by rw[e]) (fun e=>by rw[e]))⟩
theorem mK {n c:I}(l:U)(h:c.data.toList=l):(n.toList==l)=decide (n=c):=by
 rw[ba,cv,bm,toList_data,<-h];exact⟨eY,fun e=>by rw[e]⟩
theorem aEn {n:U}{q:Nat}(h:aS n=q)(c:0<q):(n,q)∈fV:=by
 unfold aS at h;cases hf:fV.find? fun p=>p.1==n with|none=>{rw[hf]at h;simp at h;omega}|some p=>{rw[hf]at h;have a:=List.find?_some hf;have b:=List.mem_of_find?_eq_some hf;have e:p=(n,q):=by{cases p;simp at a h;rw[a,h]};rw[<-e];exact b}
theorem aPp:∀p∈fV,p.2=13->p.1=sTd.data.toList\/p.1=sTh.data.toList:=by decide +kernel
theorem aKO (e:I):aS e.data.toList=13↔e=sTd\/e=sTh:=by
 constructor;{intro h;exact(aPp _ (aEn h (by omega)) rfl).imp eY eY};{rintro(rfl|rfl)<;>decide +kernel}
def aR9 (k:FK)(v s:I)(ok:Bool):Prop:=match k with
 | .text=>G (∀W,Y 33 #[.string v] W (aAS s W))/\ok=true
 | .lang=>v=s/\G (ok=true↔oJ v)
 | .dir=>G (∀W,Y 74 #[.string v] W (aAS s W))/\G (∀W,Y 69 #[.string s,.string ⟨#[97,117,116,111,32,108,116,114,32,114,116,108]⟩] W (tW ok W))
 | .linkA=>G (∀W,Y 93 #[.string v,.string ⟨#[104,116,116,112,32,104,116,116,112,115,32,109,97,105,108,116,111]⟩] W (rN s ok W))
 | .linkI=>G (∀W,Y 93 #[.string v,.string ⟨#[104,116,116,112,32,104,116,116,112,115]⟩] W (rN s ok W))
 | .whole lo hi=>v=s/\∃x:Int,G (∀W,Y 94 #[.string v,.int .i64 lo,.int .i64 hi] W (fun e w'=>e=.returned (.tuple #[.int .i64 x,.bool ok])/\W=w'))
 | .fix=>G (∀W,aA W->Y 95 #[.string v] W (rN s ok W))
 | .none=>v=s/\ok=false
theorem aNF (d:H)(e:aA d)(k:FK)(v:I)(j:v.size<=1048576):∃s ok,sJ k v (if ok=true then some s else none)/\aR9 k v s ok/\s.size<=4000000:=by
 have l:=aDu v;have i:=aCQ v;cases k with
 | text=>exact⟨dK v,true,rfl,⟨Z (fun W=>vJ v (by omega) W),rfl⟩,by omega⟩
 | lang =>
  by_cases h:oJ v
  ·exact⟨v,true,⟨h,rfl⟩,⟨rfl,Z ⟨fun _=>h,fun _=>rfl⟩⟩,by omega⟩
  ·exact⟨v,false,h,⟨rfl,Z ⟨fun x=>(by cases x),fun x=>absurd x h⟩⟩,by omega⟩
 | dir =>
  have f:=fun W=>pQ (dR v) ⟨#[97,117,116,111,32,108,116,114,32,114,116,108]⟩ (decide (dR v=vL\/dR v=aAx\/dR v=aAy)) (Z (aF4 _ _ _ _ _ (by decide))) (by decide) W
  have g:(dR v).size<=4000000:=by
   unfold dR cH;rw[lF,dw];have:v.data.toList.length=v.size:=rfl;omega
  refine⟨dR v,decide (dR v=vL\/dR v=aAx\/dR v=aAy),?_,⟨Z (fun W=>aDc v (by omega) W),Z f⟩,g⟩;by_cases h:dR v=vL\/dR v=aAx\/dR v=aAy
  ·rw[ae (bu h)];exact⟨h,rfl⟩
  ·rw[ac (by rw[bm];exact h)];exact h
 | linkA =>
  have h:=fun W=>aDb v ⟨#[104,116,116,112,32,104,116,116,112,115,32,109,97,105,108,116,111]⟩ (by omega) (by decide) (fQ rK (cG v.data.toList)) rfl W
  refine⟨jU v,fQ rK (cG v.data.toList),?_,Z h,by omega⟩;cases hc:fQ rK (cG v.data.toList)with
  | true=>exact⟨hc,rfl⟩
  | false=>exact hc
 | linkI =>
  have h:=fun W=>aDb v ⟨#[104,116,116,112,32,104,116,116,112,115]⟩ (by omega) (by decide) (fQ wF (cG v.data.toList)) rfl W
  refine⟨jU v,fQ wF (cG v.data.toList),?_,Z h,by omega⟩;cases hc:fQ wF (cG v.data.toList)with
  | true=>exact⟨hc,rfl⟩
  | false=>exact hc
 | whole lo hi =>
  obtain⟨x,b,hx⟩:=aG2 v lo hi (by unfold maxLen;omega);refine⟨v,b,?_,⟨rfl,x,Z hx.two⟩,by omega⟩;cases b with
  | true=>exact⟨⟨x,hx⟩,rfl⟩
  | false=>exact⟨x,hx⟩
 | fix =>
  rcases aNE d e v (by unfold maxLen;omega)with⟨t,a,c⟩|⟨a,c⟩
  ·exact⟨t,true,a,Z c,by have:=a.sz;omega⟩
  ·exact⟨⟨#[]⟩,false,a,Z c,by decide⟩
 | none=>exact⟨v,false,trivial,⟨rfl,rfl⟩,by omega⟩
theorem aKz (e:I):bJ e bM=.text:=by simp +decide [bJ]
theorem aPc (e:I):bJ e aAw=if e=fS then .text else .none:=by simp +decide [bJ,gL]
theorem aMV (e:I):bJ e rG=.lang:=by simp +decide [bJ]
theorem aPd (e:I):bJ e yZ=.dir:=by simp +decide [bJ]
theorem aMU (e:I):bJ e vM=if e=sA then .linkA else .none:=by simp +decide [bJ,gL]
theorem aPh (e:I):bJ e aAz=if e=fS then .linkI else .none:=by simp +decide [bJ,gL]
theorem aIN (e:I):bJ e nM=if e=fS then .whole 0 9999 else .none:=by simp +decide [bJ,gL]
theorem aKB (e:I):bJ e qC=if e=fS then .whole 0 9999 else .none:=by simp +decide [bJ,gL]
theorem aKy (e:I):bJ e qB=if e=sOl then .whole 0 999999 else .none:=by simp +decide [bJ,gL]
theorem aHd (e:I):bJ e iX=if e=sTd\/e=sTh then .whole 1 1000 else .none:=by simp +decide [bJ,gL]
theorem aHe (e:I):bJ e iY=if e=sTd\/e=sTh then .whole 1 1000 else .none:=by simp +decide [bJ,gL]
theorem aPf (e:I):bJ e uN=if e=eF\/e=gI then .fix else .none:=by simp +decide [bJ,gL]
theorem aKA (e:I):bJ e mW=if e=eF\/e=gI then .fix else .none:=by simp +decide [bJ,gL]
theorem aMT (e:I):bJ e zB=if e=eF then .fix else .none:=by simp +decide [bJ,gL]
theorem aPe (e:I):bJ e aBZ=if e=eF then .fix else .none:=by simp +decide [bJ,gL]
theorem aPg (e:I):bJ e aB0=if e=eF then .fix else .none:=by simp +decide [bJ,gL]
theorem aLF (B:H)(r:aA B)(e n v:I)(z:v.size<=1048576)(F:n.size<=1048576)(_he:e.size<=1048576):∃o,jQ e n v o/\∀w,aA w ->
  Y 44 #[.string e,.string n,.string v] w (O (lS o) w):=by
 by_cases p:aS e.data.toList<2\/aS e.data.toList=14;{refine⟨none,.inl p,fun w T=>?_⟩;have q:=Z (fun W=>jZ e W);have hd:aS e.data.toList<2\/(¬aS e.data.toList<2/\((aS e.data.toList:Nat):Int)=14):=by{omega};clear p T;generalize aS e.data.toList=k at *;rcases hd with h|⟨h,t⟩;{have D:decide ((k:Int)<2)=true:=bu (by omega);go_enter Tryz.func44,Tryz.ntmps44;go_wp2_with fail;refine(q.o _).mono ?_;rintro x C ⟨rfl,j⟩;have m:=Z j;clear j;go_wp2;go_ret2;exact⟨rfl,m.o⟩};{have D:decide ((k:Int)<2)=false:=bp (by omega);have J:((k:Int)==14)=true:=by{rw[cv];exact t};clear h t;go_enter Tryz.func44,Tryz.ntmps44;go_wp2_with fail;refine(q.o _).mono ?_;rintro x C ⟨rfl,j⟩;have m:=Z j;clear j;go_wp2;go_ret2;exact⟨rfl,m.o⟩}}
 ·obtain⟨s,ok,l,a,E⟩:=aNF B r (bJ e n) v z;obtain⟨o,u,A⟩:∃o,((ok=false/\o=none)\/(ok=true/\120<(iQ s).size/\o=none)\/(ok=true/\(iQ s).size<=120/\o=some s))/\jQ e n v o:=by{cases ok with|false=>exact⟨none,.inl ⟨rfl,rfl⟩,.inr (.inl l)⟩|true=>{rcases ak 120 (iQ s).size with h|h;{exact⟨none,.inr (.inl ⟨rfl,h,rfl⟩),.inr (.inr ⟨s,l,h⟩)⟩};{exact⟨some s,.inr (.inr ⟨rfl,h,rfl⟩),p,l,h⟩}}}
  refine⟨o,A,fun w T=>?_⟩;clear A l r;refine aHA e n v s z ok o (aS e.data.toList) (by omega) (by rw[ai];omega) w (Z T) (Z (fun W=>jZ e W))
   (decide (n=bM)) (decide (n=aAw)) (decide (n=rG)) (decide (n=yZ)) (decide (n=vM)) (decide (n=aAz)) (decide (n=nM\/n=qC)) (decide (n=qB)) (decide (n=iX\/n=iY)) (decide (n=uN\/n=mW)) (decide (n=zB\/n=aBZ\/n=aB0)) (decide (e=fS)) (decide (e=sA)) (decide (e=sOl)) (decide (e=sTd\/e=sTh)) (decide (e=eF\/e=gI)) (decide (e=eF))
   (mK _ rfl) (mK _ rfl) (mK _ rfl) (mK _ rfl) (mK _ rfl) (mK _ rfl) (Z (fun W=>pQ n ⟨#[104,101,105,103,104,116,32,119,105,100,116,104]⟩ _ (Z (aCK _ _ _ _ (by decide))) (by decide) W)) (mK _ rfl) (Z (fun W=>pQ n ⟨#[99,111,108,115,112,97,110,32,114,111,119,115,112,97,110]⟩ _ (Z (aCK _ _ _ _ (by decide))) (by decide) W)) (Z (fun W=>pQ n ⟨#[109,97,120,32,118,97,108,117,101]⟩ _ (Z (aCK _ _ _ _ (by decide))) (by decide) W)) (Z (fun W=>pQ n ⟨#[104,105,103,104,32,108,111,119,32,109,105,110]⟩ _ (Z (aF4 _ _ _ _ _ (by decide))) (by decide) W)) (mK _ rfl) (mK _ rfl) (mK _ rfl) (by rw[ba,cv,bm,<-aKO];omega) (Z (fun W=>pQ e ⟨#[109,101,116,101,114,32,112,114,111,103,114,101,115,115]⟩ _ (Z (aCK _ _ _ _ (by decide))) (by decide) W)) (mK _ rfl)
   (Z (fun _ W=>aND s (by omega) W)) u ?_
  clear u T;simp only[bm,g8];by_cases c0:n=bM;{rw[c0,aKz]at a;exact .inl ⟨c0,a⟩};by_cases c1:n=aAw
  ·have c:bJ e n=if e=fS then .text else .none:=by rw[c1];exact aPc e
   rw[c]at a;by_cases y:e=fS;{rw[ae y]at a;exact .inr (.inl ⟨c0,c1,y,a⟩)};{rw[ac y]at a;exact .inr (.inr (.inl ⟨c0,c1,y,(by subst c1<;>decide),(by subst c1<;>decide),(by subst c1<;>decide),(by subst c1<;>decide),(by subst c1<;>decide),(by subst c1<;>decide),(by subst c1<;>decide),(by subst c1<;>decide),(by subst c1<;>decide),a⟩))}
  by_cases c2:n=rG;{rw[c2,aMV]at a;exact .inr (.inr (.inr (.inl ⟨c0,c1,c2,a⟩)))};by_cases c3:n=yZ;{rw[c3,aPd]at a;exact .inr (.inr (.inr (.inr (.inl ⟨c0,c1,c2,c3,a⟩))))};by_cases c4:n=vM
  ·have c:bJ e n=if e=sA then .linkA else .none:=by rw[c4];exact aMU e
   rw[c]at a;by_cases y:e=sA;{rw[ae y]at a;exact .inr (.inr (.inr (.inr (.inr (.inl ⟨c0,c1,c2,c3,c4,y,a⟩)))))};{rw[ac y]at a;exact .inr (.inr (.inr (.inr (.inr (.inr (.inl ⟨c0,c1,c2,c3,c4,y,(by subst c4<;>decide),(by subst c4<;>decide),(by subst c4<;>decide),(by subst c4<;>decide),(by subst c4<;>decide),(by subst c4<;>decide),a⟩))))))}
  by_cases c5:n=aAz
  ·have c:bJ e n=if e=fS then .linkI else .none:=by rw[c5];exact aPh e
   rw[c]at a;by_cases y:e=fS;{rw[ae y]at a;exact .inr (.inr (.inr (.inr (.inr (.inr (.inr (.inl ⟨c0,c1,c2,c3,c4,c5,y,a⟩)))))))};{rw[ac y]at a;exact .inr (.inr (.inr (.inr (.inr (.inr (.inr (.inr (.inl ⟨c0,c1,c2,c3,c4,c5,y,(by subst c5<;>decide),(by subst c5<;>decide),(by subst c5<;>decide),(by subst c5<;>decide),(by subst c5<;>decide),a⟩))))))))}
  by_cases b:n=nM\/n=qC
  ·have c:bJ e n=if e=fS then .whole 0 9999 else .none:=by rcases b with rfl|rfl<;>first|exact aIN e|exact aKB e
   rw[c]at a;by_cases y:e=fS;{rw[ae y]at a;exact .inr (.inr (.inr (.inr (.inr (.inr (.inr (.inr (.inr (.inl ⟨c0,c1,c2,c3,c4,c5,b,y,a⟩)))))))))};{rw[ac y]at a;exact .inr (.inr (.inr (.inr (.inr (.inr (.inr (.inr (.inr (.inr (.inl ⟨c0,c1,c2,c3,c4,c5,b,y,(by rcases b with rfl|rfl<;>decide),(by rcases b with rfl|rfl<;>decide),(by rcases b with rfl|rfl<;>decide),(by rcases b with rfl|rfl<;>decide),a⟩))))))))))}
  by_cases d:n=qB
  ·have c:bJ e n=if e=sOl then .whole 0 999999 else .none:=by rw[d];exact aKy e
   rw[c]at a;by_cases y:e=sOl;{rw[ae y]at a;exact .inr (.inr (.inr (.inr (.inr (.inr (.inr (.inr (.inr (.inr (.inr (.inl ⟨c0,c1,c2,c3,c4,c5,b,d,y,a⟩)))))))))))};{rw[ac y]at a;exact .inr (.inr (.inr (.inr (.inr (.inr (.inr (.inr (.inr (.inr (.inr (.inr (.inl ⟨c0,c1,c2,c3,c4,c5,b,d,y,(by subst d<;>decide),(by subst d<;>decide),(by subst d<;>decide),a⟩))))))))))))}
  by_cases f:n=iX\/n=iY
  ·have c:bJ e n=if e=sTd\/e=sTh then .whole 1 1000 else .none:=by rcases f with rfl|rfl<;>first|exact aHd e|exact aHe e
   rw[c]at a;by_cases y:e=sTd\/e=sTh;{rw[ae y]at a;exact .inr (.inr (.inr (.inr (.inr (.inr (.inr (.inr (.inr (.inr (.inr (.inr (.inr (.inl ⟨c0,c1,c2,c3,c4,c5,b,d,f,y,a⟩)))))))))))))};{rw[ac y]at a;exact .inr (.inr (.inr (.inr (.inr (.inr (.inr (.inr (.inr (.inr (.inr (.inr (.inr (.inr (.inl ⟨c0,c1,c2,c3,c4,c5,b,d,f,y,(by rcases f with rfl|rfl<;>decide),(by rcases f with rfl|rfl<;>decide),a⟩))))))))))))))}
  by_cases g:n=uN\/n=mW
  ·have c:bJ e n=if e=eF\/e=gI then .fix else .none:=by rcases g with rfl|rfl<;>first|exact aPf e|exact aKA e
   rw[c]at a;by_cases y:e=eF\/e=gI;{rw[ae y]at a;exact .inr (.inr (.inr (.inr (.inr (.inr (.inr (.inr (.inr (.inr (.inr (.inr (.inr (.inr (.inr (.inl ⟨c0,c1,c2,c3,c4,c5,b,d,f,g,y,a⟩)))))))))))))))};{rw[ac y]at a;exact .inr (.inr (.inr (.inr (.inr (.inr (.inr (.inr (.inr (.inr (.inr (.inr (.inr (.inr (.inr (.inr (.inl ⟨c0,c1,c2,c3,c4,c5,b,d,f,g,y,(by rcases g with rfl|rfl<;>decide),a⟩))))))))))))))))}
  by_cases i:n=zB\/n=aBZ\/n=aB0
  ·have c:bJ e n=if e=eF then .fix else .none:=by rcases i with rfl|rfl|rfl<;>first|exact aMT e|exact aPe e|exact aPg e
   rw[c]at a;by_cases y:e=eF;{rw[ae y]at a;exact .inr (.inr (.inr (.inr (.inr (.inr (.inr (.inr (.inr (.inr (.inr (.inr (.inr (.inr (.inr (.inr (.inr (.inl ⟨c0,c1,c2,c3,c4,c5,b,d,f,g,i,y,a⟩)))))))))))))))))};{rw[ac y]at a;exact .inr (.inr (.inr (.inr (.inr (.inr (.inr (.inr (.inr (.inr (.inr (.inr (.inr (.inr (.inr (.inr (.inr (.inr (.inl ⟨c0,c1,c2,c3,c4,c5,b,d,f,g,i,y,a⟩))))))))))))))))))}
  have c:bJ e n=.none:=by{simp only[ic]at b f g i;simp[bJ,gL,c0,c1,c2,c3,c4,c5,b,d,f,g,i]};rw[c]at a;exact .inr (.inr (.inr (.inr (.inr (.inr (.inr (.inr (.inr (.inr (.inr (.inr (.inr (.inr (.inr (.inr (.inr (.inr (.inr (⟨c0,c1,c2,c3,c4,c5,b,d,f,g,i,a⟩)))))))))))))))))))
theorem aJk (a:H)(b:aA a)(e n v:I)(o:Option I)(c:v.size<=1048576)(i:n.size<=1048576)(g:e.size<=1048576)(h:jQ e n v o)(w:H)(T:aA w) :
  Y 44 #[.string e,.string n,.string v] w (O (lS o) w):=by
 obtain⟨j,d,f⟩:=aLF a b e n v c i g;obtain rfl:=aEN a b (by omega) (by omega) c d h;exact f w T
