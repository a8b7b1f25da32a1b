/-
The document's Print of any finite float that is not nought.
-/
import Derived.Test.YtcfgbdhpcboikaaGreatDoorFixA
import Derived.Test.YtcfgbdhpcboikaaGreatDoorRNum
import Derived.Test.YtcfgbdhpcboikaaGreatDoorTxtB
namespace Go.Proofs.YtcfgbdhpcboikaaGreatDoor
open Go.Lib (hid)
set_option maxHeartbeats 4000000
set_option maxRecDepth 100000
open Go.RowKit
def gA (n:Nat):ByteArray:=⟨(List.replicate n 48).toArray⟩
theorem aEm (n:Nat):gA n++⟨#[48]⟩=gA (n+1):=by
 refine nN _ _ ?_;rw[dR];unfold gA;rw[List.replicate_succ']
theorem qR (n:Nat):(gA n).size=n:=by unfold gA;rw[dN];simp
theorem aAg (n:Nat)(hn:n≤1000)(w:World):Calls Tryz.prog 195 #[.int .i64 n] w fun e w'=>e=.returned (.string (gA n))∧w=w':=by
 go_enter Tryz.func195,Tryz.ntmps195
 go_wp2
 go_loop [3,4] (fun r i=>∃k:Nat,r=.string (gA k)∧i=.int .i64 k∧Hid (k≤n)) (fun _ i=>n-(intOf i).toNat)
 case atStart=>exact⟨0,rfl,rfl,hid (Nat.zero_le _)⟩
 case round =>
  obtain⟨k,rfl,rfl,hR⟩:=hrel;have hk:=hR.out;have hz:(gA k).size+1≤1000000:=by rw[qR];omega
  rcases Nat.lt_or_ge k n with h|h
  ·have hs:=aEm k;go_wp2
   go_round
   case rel=>exact⟨k+1,rfl,by go_num,hid h⟩
   case measure=>simp[intOf];omega
  ·obtain rfl:k=n:=by omega
   go_wp2
   go_ret;exact⟨rfl,rfl⟩
theorem aGd (neg:Bool)(b:Nat)(D:List UInt8)(x:Int)(w:World)(T:aA w)(hb1:1≤b)(hb:b<aI)(h1:1≤D.length)(h2:D.length≤17)(x0:-900<x)(x1:x<900)
  (hD:∀w,aA w→Calls Tryz.prog 194 #[.float .f64 b] w fun e w'=>e=.returned (.tuple #[.string ⟨D.toArray⟩,.int .i64 (x+1)])∧Below w.heap.size w w') :
  Calls Tryz.prog 153 #[.float .f64 (sgn neg+b:Nat)] w fun e w'=>e=.returned (.string ⟨(qW neg D x).toArray⟩)∧Below w.heap.size w w':=by
 have hI:b<9218868437227405312:=hb;have g1:=uW neg b hb;have g2:=mQ neg b hb;have g3:=aBb neg b hb hb1;have g4:=aA9 neg b hb hb1;have g1':(FloatKind.f64.format.order (sgn neg+b) (sgn neg+b) !=some .eq)=false:=by simp[bne,g1]
 have AB:=fun w=>rF (sgn neg+b) w
 unfold kD at g2;obtain⟨d,hd⟩:∃d:ByteArray,d=⟨D.toArray⟩:=⟨_,rfl⟩
 have hdl:d.data.toList=D:=by rw[hd]
 have hds:d.size=D.length:=by rw[hd];exact dN D
 rw[←hd]at hD
 clear hd;generalize qM (sgn neg+b)=ab at *
 have HD:=hid hD;have HT:=hid T;have HAB:=hid AB;have HDL:=hid hdl;have HDS:=hid hds;clear hD T AB hdl g1;have un:=fG;have d17:d.size≤17:=by omega
 have d1:1≤d.size:=by omega
 have HX:Hid (-900<x∧x<900):=⟨x0,x1⟩
 have HST:Hid (qW neg D x=(if neg then [45]else [])++(if (d.size:Int)≤x+1∧x+1≤21 then D++List.replicate (x+1-d.size).toNat 48
  else if 1≤x+1∧x+1≤21 then D.take (x+1).toNat++[46]++D.drop (x+1).toNat
  else if -5≤x+1∧x+1≤0 then [48,46]++List.replicate (-(x+1)).toNat 48++D
  else bP D++(if 0<x+1 then [101,43]++Lib.itoa x else [101,45]++Lib.itoa (-x)))):=by
  show _=_;rw[HDS.out];rfl
 have HN:Hid (Op.negFloat .f64 (sgn true+b)=b):=hid (aDh b hb);clear hI hb hb1;cases neg
 case' false =>
  have hx0:sgn false+b=b:=tG b;rw[hx0]at g1' g3 g4 HAB ⊢
  clear hx0;go_enter Tryz.func153,Tryz.ntmps153
  go_wp2_with (go_at_call 121;refine(HAB.out _).mono ?_;rintro e w' ⟨rfl,rfl⟩)
  obtain⟨sg,hsg⟩:∃sg:ByteArray,sg=⟨#[]⟩:=⟨_,rfl⟩
  have HSG:Hid (sg.data.toList=(if false=true then [45]else [])):=by rw[hsg];rfl
  have hs1:sg.size≤1:=by rw[hsg];decide
  rw[←hsg];clear hsg
 case' true =>
  have g5:=HN.out;generalize sgn true+b=xx at *
  go_enter Tryz.func153,Tryz.ntmps153
  go_wp2_with (go_at_call 121;refine(HAB.out _).mono ?_;rintro e w' ⟨rfl,rfl⟩)
  obtain⟨sg,hsg⟩:∃sg:ByteArray,sg=⟨#[45]⟩:=⟨_,rfl⟩
  have HSG:Hid (sg.data.toList=(if true=true then [45]else [])):=by rw[hsg];rfl
  have hs1:sg.size≤1:=by rw[hsg];decide
  rw[←hsg];clear hsg
 all_goals
  refine(HD.out _ HT.out).mono ?_;rintro e W1 ⟨rfl,B1⟩;have HB1:=hid B1;have HT1:=hid (HT.out.below B1 (Nat.le_refl _));have hx0:=HX.out.1;have hx1:=HX.out.2;clear B1;by_cases c1:((d.size:Nat):Int)≤x+1∧x+1≤21
  ·obtain⟨c2,c3⟩:=c1;have HL:=HST;rw[if_pos (show(d.size:Int)≤x+1∧x+1≤21 from⟨c2,c3⟩)]at HL
   have hz:=qR (x+1-d.size).toNat;have hz0:(x+1-d.size).toNat≤1000:=by omega
   have hw:=fun w=>aAg (x+1-d.size).toNat (by omega) w
   rw[Int.toNat_of_nonneg (by omega)]at hw
   have HW:=hid hw;have HZL:Hid ((gA (x+1-d.size).toNat).data.toList=List.replicate (x+1-d.size).toNat 48):=hid rfl;clear hw;generalize (x+1-d.size).toNat=z at *
   generalize gA z=zs at *
   have hz2:zs.size≤1000:=by omega
   have p0:¬x+1≤0:=by omega
   have p5:¬x+1 < -5:=by omega
   have p21:¬ 21<x+1:=by omega
   have pk:¬x+1<(d.size:Int):=by omega
   clear hz h1 h2 x0 x1 d1 hds;go_wp2_with fail
   refine(HW.out _).mono ?_;rintro e W2 ⟨rfl,rfl⟩;go_wp2
   go_ret;refine⟨gB ?_,HB1.out⟩;simp only[dR];rw[HL.out,HSG.out,HDL.out,HZL.out,List.append_assoc]
  ·have HL1:=HST;rw[if_neg c1]at HL1
   by_cases c2:1≤x+1∧x+1≤21
   ·obtain⟨c3,c4⟩:=c2;have HL:=HL1;rw[if_pos (show 1≤x+1∧x+1≤21 from⟨c3,c4⟩)]at HL
    have c5:x+1<(d.size:Int):=by omega
    obtain⟨k,hk⟩:∃k:Nat,x+1=k:=⟨(x+1).toNat,by omega⟩
    rw[hk]at HL c3 c4 c5 ⊢
    rw[Int.toNat_natCast]at HL
    obtain⟨s1,e1,z1,k1⟩:=nO d k (by omega);obtain⟨s2,e2,z2,k2⟩:=eR d k (by omega);have HE1:=hid e1;have HE2:=hid e2;have HKK:=hid hk;have p0:¬(k:Int)≤0:=by omega
    have p5:¬(k:Int) < -5:=by omega
    have p21:¬ 21<(k:Int):=by omega
    clear e1 e2 hk c1 h1 h2 x0 x1 d1 hds;go_wp2_with fail
    go_quiet (fail)
    go_wp2
    go_ret;refine⟨gB ?_,HB1.out.trans ⟨rfl,rfl,rfl,Nat.le_refl _,fun _ _=>rfl⟩⟩;simp only[dR];rw[HL.out,HSG.out,HE1.out,HE2.out,HDL.out];simp
   ·rw[if_neg c2]at HL1
    by_cases c3:-5≤x+1∧x+1≤0
    ·obtain⟨c4,c5⟩:=c3;have HL:=HL1;rw[if_pos (show -5≤x+1∧x+1≤0 from⟨c4,c5⟩)]at HL
     have hz:=qR (-(x+1)).toNat;have hz0:(-(x+1)).toNat≤1000:=by omega
     have hw:=fun w=>aAg (-(x+1)).toNat (by omega) w
     rw[Int.toNat_of_nonneg (by omega)]at hw
     have HW:=hid hw;have HZL:Hid ((gA (-(x+1)).toNat).data.toList=List.replicate (-(x+1)).toNat 48):=hid rfl;clear hw;generalize (-(x+1)).toNat=z at *
     generalize gA z=zs at *
     have hz2:zs.size≤1000:=by omega
     have p5:¬x+1 < -5:=by omega
     have p21:¬ 21<x+1:=by omega
     clear hz c1 c2 h1 h2 x0 x1 d1 hds;go_wp2_with fail
     refine(HW.out _).mono ?_;rintro e W2 ⟨rfl,rfl⟩;go_wp2
     go_ret;refine⟨gB ?_,HB1.out⟩;simp only[dR];rw[HL.out,HSG.out,HDL.out,HZL.out];simp
    ·have HL:=HL1;rw[if_neg c3]at HL
     have HPL:Hid (bP D=D.take 1++(if 1<d.size then 46 :: D.drop 1 else [])):=hid (by unfold bP;rw[HDS.out]);have hd9:x+1 < -5∨21<x+1:=by omega
     clear c1 c2 c3;by_cases k1:1<d.size
     case' pos =>
      obtain⟨s1,e1,z1,q1⟩:=nO d 1 (by omega);obtain⟨s2,e2,z2,q2⟩:=eR d 1 (by omega);have q1':∀w,(Instr.slice 9 (.string d) none (some (.int .i64 1)) none).run Tryz.prog w=.ok (.string s1) w:=q1;have q2':∀w,(Instr.slice 9 (.string d) (some (.int .i64 1)) none none).run Tryz.prog w=.ok (.string s2) w:=q2;have HPP:Hid ((s1++⟨#[46]⟩++s2).data.toList=bP D):=by
       show _=_;rw[HPL.out,if_pos k1];simp only[dR];rw[e1,e2,HDL.out];simp
      have HPZ:Hid ((s1++⟨#[46]⟩++s2).size≤100):=by
       show _≤_;simp only[ByteArray.size_append];have:(⟨#[46]⟩:ByteArray).size=1:=rfl;omega
      clear e1 e2 q1 q2;have k2:(1:Int)<d.size:=by omega
      clear k1 h1 h2 x0 x1 d1 hds;rcases hd9 with h9|h9
      case' inl =>
       have p1:x+1<1:=by omega
       have p21:¬ 21<x+1:=by omega
      case' inr=>have p1:¬x+1<1:=by omega
      all_goals
       go_wp2_with fail
       go_quiet (fail)
       obtain⟨pt,hpt⟩:∃pt,pt=s1++⟨#[46]⟩++s2:=⟨_,rfl⟩
       rw[←hpt]at HPP HPZ ⊢
       have hpz:pt.size≤100:=HPZ.out;have HBq:Hid (Below w.heap.size w (W1.drewN nq)):=hid (HB1.out.trans ⟨rfl,rfl,rfl,Nat.le_refl _,fun _ _=>rfl⟩);generalize W1.drewN nq=W2 at *
       clear hpt z1 z2;go_wp2_with fail
     case' neg =>
      have HPP:Hid (d.data.toList=bP D):=by
       show _=_;rw[HPL.out,if_neg k1,HDL.out,List.append_nil,List.take_of_length_le (by have:=HDS.out;omega)]
      have hpz:d.size≤100:=by omega
      have HBq:=HB1;have k2:¬(1:Int)<d.size:=by omega
      clear k1 h1 h2 x0 x1 d1 hds;rcases hd9 with h9|h9
      case' inl =>
       have p1:x+1<1:=by omega
       have p21:¬ 21<x+1:=by omega
      case' inr=>have p1:¬x+1<1:=by omega
      all_goals go_wp2_with fail
     all_goals
      have HT2:=hid (HT.out.below HBq.out (Nat.le_refl _));have hl1:=mS (1-(x+1)) (by omega) (by omega);have hl2:=mS x (by omega) (by omega);first
       | (with_reducible refine(mR (1-(x+1)) _ HT2.out (by omega) (by omega)).mono ?_)
       | (with_reducible refine(mR x _ HT2.out (by omega) (by omega)).mono ?_)
      rintro e W3 ⟨rfl,B3⟩;have HB3:=hid (HBq.out.trans (B3.mono HBq.out.size));clear B3;go_wp2
      go_ret;refine⟨gB ?_,HB3.out⟩;simp only[dR];rw[HL.out,HSG.out,HPP.out];first
       | (rw[if_neg (show ¬ 0<x+1 by omega),show 1-(x+1)=-x by omega];simp)
       | (rw[if_pos (show 0<x+1 by omega)];simp)
open Go.RowKit
theorem aJM (c:Nat):Lib.itoa (c:Int)=Lib.decDigits c:=by
 unfold Lib.itoa;rw[if_neg (by omega)];rfl
theorem aNM (r n m s j:Nat)(h1:1≤r)(h2:r<aI)(m1:1≤m)(m2:m<100000000000000000)(s1:8≤s)(s2:s≤657) :
  ∃y,aKB r n m s j ⟨(Lib.decDigits (fA m j)).toArray⟩ ⟨(Lib.itoa ((s:Int)-348)).toArray⟩ y:=by
 have hc:fA m j≤100000000000000000:=by
  unfold fA;repeat' split
  all_goals omega
 obtain⟨R,hR,hi,hf⟩:=aFz (fA m j) s hc s1 s2;have l1:=aJZ _ hc;obtain⟨sg,Dg,es,e1,e2,e3,e4,e5,e6⟩:=aC4 ((s:Int)-348) (by omega) (by omega);have hs:sg.length≤1:=by rcases e4 with⟨rfl,_⟩|⟨rfl,_⟩|⟨rfl,_⟩<;>simp
 refine⟨R,?_,?_,?_,?_,?_⟩
 ·intro w T;rw[aJf m j m1,←aJM];exact aHC _ w T (by omega) (by omega)
 ·intro w T;rw[show(n:Int)+s-349+1-n=(s:Int)-348 by omega];exact mR _ w T (by omega) (by omega)
 ·intro w T;have e:(⟨(Lib.decDigits (fA m j)).toArray⟩:ByteArray)++⟨#[101]⟩++⟨(Lib.itoa ((s:Int)-348)).toArray⟩=sH (fA m j) ((s:Int)-348):=by
   refine nN _ _ ?_;simp
  rw[e];exact hf w T
 ·rw[aMm R r hR h2 h1,Bool.and_eq_true,decide_eq_true_eq,decide_eq_true_eq,hi r h1,dN,Lib.decDigits_length];exact and_congr Iff.rfl (by omega)
 ·refine⟨?_,?_⟩
  ·rw[dN,Lib.decDigits_length];omega
  ·rw[dN,e1,List.length_append];omega
theorem aCL {r d j:Nat}{q:Int}(S:fJ r d q j)(h1:1≤r)(h2:r<aI):(1≤(bZ d).length∧(bZ d).length≤17)∧∀w,aA w →
  Calls Tryz.prog 194 #[.float .f64 r] w fun e w'=>e=.returned (.tuple #[.string ⟨(bZ d).toArray⟩,.int .i64 ((Lib.nDigits d:Int)+q)])∧Below w.heap.size w w':=by
 obtain⟨D,t,N,c1,c2,c3,N1,lo,hi,hr,hno,hone⟩:=aLi S h1 h2;have hN:N≤17:=by have:=mB d S.lt;omega
 have hD1:1≤D:=by have:=dG (N-1);omega
 have hidx:=S.idx;rw[c1,Lib.decDigits_length,c2,c3];refine⟨⟨N1,hN⟩,fun w T=>aD7 r N _ _ N1 hN (fun n n1 n2=>?_) w T⟩;obtain⟨m,s,F,s1,s2,P⟩:=aCU r n h1 h2 n1 (by omega);have m1:1≤m:=by have:=dG (n-1);have:=F.lo;omega
 have m2:m<100000000000000000:=by
  have q18:10^n≤10^17:=iM (by omega);have q19:(10:Nat)^17=100000000000000000:=by decide
  have:=F.hi;omega
 have hm:Lib.nDigits m=n:=by
  have:=Lib.nDigits_unique (n-1) m F.lo (by rw[Nat.sub_add_cancel n1];exact F.hi);omega
 obtain⟨Sx,sA,sB,sC,sD,RA⟩:=aIm r n m s n1 (by omega) hm s2 P;have TA:=fun j=>aNM r n m s j h1 h2 m1 m2 s1 s2
 refine⟨m,s,Sx,sA,sB,sC,sD,fun j=>⟨(Lib.decDigits (fA m j)).toArray⟩,fun _=>⟨(Lib.itoa ((s:Int)-348)).toArray⟩,fun j=>(TA j).choose,RA,m1,by omega,s2,fun j _=>(TA j).choose_spec,fun hn j=>aJJ hno hn j,fun hn=>?_⟩;subst hn;obtain⟨es,hx⟩:=hone m s F;subst es;obtain⟨j',j3,ej,hj,hl⟩:=aLC hD1 c2 hr hx;refine⟨j',j3,hj,hl,fun i _ hh hb=>?_,by omega⟩;have ei:i=j':=by
  rcases Nat.lt_trichotomy i j' with h|h|h
  ·exact absurd hh (hl i h)
  ·exact h
  ·exact absurd hj (hb j' h)
 show(⟨(Lib.decDigits (fA m i)).toArray⟩:ByteArray)=_;rw[ei,ej]
theorem aDC {b d j:Nat}{q:Int}(S:fJ b d q j)(h1:1≤b)(h2:b<aI)(neg:Bool)(w:World)(T:aA w) :
  Calls Tryz.prog 153 #[.float .f64 (sgn neg+b:Nat)] w fun e w'=>e=.returned (.string ⟨(qW neg (bZ d) ((Lib.nDigits d:Int)+q-1)).toArray⟩)∧Below w.heap.size w w':=by
 obtain⟨⟨l1,l2⟩,H⟩:=aCL S h1 h2;have hidx:=S.idx;have j1:=S.j1;have j2:=S.j2;have n1:=Lib.nDigits_pos d;have n2:=mB d S.lt;refine aGd neg b (bZ d) _ w T h1 h2 l1 l2 (by omega) (by omega) fun w T=>?_
 rw[show(Lib.nDigits d:Int)+q-1+1=(Lib.nDigits d:Int)+q by omega];exact H w T
open Go.RowKit
theorem wP (b:Nat)(w:World)(h1:(FloatKind.f64.format.order b b !=some .eq)=false)(h2:kD b=false)(h3:(FloatKind.f64.format.order b 0==some .eq)=true) :
  Calls Tryz.prog 153 #[.float .f64 b] w fun e w'=>e=.returned (.string { data:=#[48] })∧w=w':=by
 have AB:=fun w=>rF b w
 unfold kD at h2;generalize qM b=ab at *
 have HAB:=hid AB;clear AB;go_enter Tryz.func153,Tryz.ntmps153
 go_wp2_with (go_at_call 121;((with_reducible refine(HAB.out _).mono ?_);rintro e w' ⟨rfl,rfl⟩))
 go_ret;exact⟨rfl,rfl⟩
theorem aIn (s:ByteArray)(w:World)(hs:s.size≤maxLen)(hn:bR s.data.toList=false) :
  Calls Tryz.prog 152 #[.string s] w fun e w'=>e=.returned (.tuple #[.float .f64 0,.bool false])∧w=w':=by
 have NB:=fun w=>pI s hs w
 rw[hn]at NB
 have HNB:=hid NB;clear NB hn hs;go_enter Tryz.func152,Tryz.ntmps152
 go_wp2_with (go_at_call 193;refine(HNB.out _).mono ?_;rintro e w' ⟨rfl,rfl⟩)
 go_ret2;exact⟨rfl,rfl⟩
theorem aKh (s:ByteArray)(r:Nat)(w:World)(T:aA w)(hs:s.size≤maxLen)(hn:bR s.data.toList=true)(hi:kD r=false)
  (A:∀w',aA w'→Calls Tryz.prog 205 #[.string s] w' fun e w2=>e=.returned (.tuple #[.float .f64 r,.int .i64 s.size,.nilIface])∧Below w'.heap.size w' w2) :
  Calls Tryz.prog 152 #[.string s] w fun e w'=>e=.returned (.tuple #[.float .f64 r,.bool true])∧Below w.heap.size w w':=by
 have NB:=fun w=>pI s hs w
 rw[hn]at NB
 have AB:=fun w=>rF r w
 unfold kD at hi;generalize qM r=ab at *
 have HAB:=hid AB;have HA:=hid A;have HNB:=hid NB;have HT:=hid T;clear A NB hn hs T AB;go_enter Tryz.func152,Tryz.ntmps152
 go_wp2_with (go_at_call 193;refine(HNB.out _).mono ?_;rintro e w' ⟨rfl,rfl⟩)
 refine(aAo s r _ HT.out HA.out).mono ?_;rintro e w2 ⟨rfl,B2⟩;have HB:=hid B2;clear B2;go_wp2_with (go_at_call 121;((with_reducible refine(HAB.out _).mono ?_);rintro e w' ⟨rfl,rfl⟩))
 go_ret2;exact⟨rfl,HB.out⟩
theorem aKi (s:ByteArray)(r:Nat)(w:World)(T:aA w)(hs:s.size≤1000)(hn:bR s.data.toList=true)(hi:kD r=true)
  (A:∀w',aA w'→Calls Tryz.prog 205 #[.string s] w' fun e w2=>e=.returned (.tuple #[.float .f64 r,.int .i64 s.size,.iface 158 (.int .i64 1)])∧Below w'.heap.size w' w2) :
  Calls Tryz.prog 152 #[.string s] w fun e w'=>e=.returned (.tuple #[.float .f64 0,.bool false])∧Below w.heap.size w w':=by
 have NB:=fun w=>pI s (by unfold maxLen;omega) w
 rw[hn]at NB
 have AB:=fun w=>rF r w
 unfold kD at hi;generalize qM r=ab at *
 have HAB:=hid AB;have HA:=hid A;have HNB:=hid NB;have HT:=hid T;clear A NB hn T AB;go_enter Tryz.func152,Tryz.ntmps152
 go_wp2_with (go_at_call 193;refine(HNB.out _).mono ?_;rintro e w' ⟨rfl,rfl⟩)
 refine(aDs s hs r _ HT.out HA.out).mono ?_;rintro e w2 ⟨⟨t,p,rfl⟩,B2⟩;have HB:=hid B2;clear B2;go_wp2_with (go_at_call 121;((with_reducible refine(HAB.out _).mono ?_);rintro e w' ⟨rfl,rfl⟩))
 go_ret2;exact⟨rfl,HB.out⟩
theorem aNE (s:ByteArray)(r:Nat)(t:ByteArray)(w:World)(T:aA w)
  (P:∀w,aA w→Calls Tryz.prog 152 #[.string s] w fun e w'=>e=.returned (.tuple #[.float .f64 r,.bool true])∧Below w.heap.size w w')
  (Q:∀w,aA w→Calls Tryz.prog 153 #[.float .f64 r] w fun e w'=>e=.returned (.string t)∧Below w.heap.size w w') :
  Calls Tryz.prog 95 #[.string s] w fun e w'=>e=.returned (.tuple #[.string t,.bool true])∧Below w.heap.size w w':=by
 have HP:=hid P;have HQ:=hid Q;have HT:=hid T;clear P Q T;go_enter Tryz.func95,Tryz.ntmps95
 go_wp2_with fail
 refine(HP.out _ HT.out).mono ?_;rintro e w1 ⟨rfl,B1⟩;have HB:=hid B1;have HT1:=hid (HT.out.below B1 (Nat.le_refl _));clear B1;go_wp2_with fail
 refine(HQ.out _ HT1.out).mono ?_;rintro e w2 ⟨rfl,B2⟩;have HB2:=hid (HB.out.trans (B2.mono HB.out.size));clear B2;go_wp2
 go_ret2;exact⟨rfl,HB2.out⟩
theorem aFf (s:ByteArray)(w:World)(T:aA w)
  (P:∀w,aA w→Calls Tryz.prog 152 #[.string s] w fun e w'=>e=.returned (.tuple #[.float .f64 0,.bool false])∧Below w.heap.size w w') :
  Calls Tryz.prog 95 #[.string s] w fun e w'=>e=.returned (.tuple #[.string ByteArray.empty,.bool false])∧Below w.heap.size w w':=by
 have HP:=hid P;have HT:=hid T;clear P T;go_enter Tryz.func95,Tryz.ntmps95
 go_wp2_with fail
 refine(HP.out _ HT.out).mono ?_;rintro e w1 ⟨rfl,B1⟩;have HB:=hid B1;clear B1;go_wp2
 go_ret2;exact⟨rfl,HB.out⟩
theorem aKj (neg:Bool)(b:Nat)(hb:b<aI):∃t,Prn neg b t∧∀w,aA w→Calls Tryz.prog 153 #[.float .f64 (sgn neg+b)] w fun e w'=>e=.returned (.string t)∧Below w.heap.size w w':=by
 by_cases h0:b=0
 ·subst h0;obtain⟨t,ht⟩:=aFe neg 0 hb;have e:=ht.nought rfl;subst e;refine⟨_,ht,fun w T=>?_⟩;cases neg
  ·exact cZ (wP 0 w (by kernel_rfl) (by kernel_rfl) (by kernel_rfl))
  ·exact cZ (wP 9223372036854775808 w (by kernel_rfl) (by kernel_rfl) (by kernel_rfl))
 ·obtain⟨d,q,j,S,t,ht,h1,h2,h3,h4⟩:=aCB neg b (by omega) hb;exact⟨t,⟨h1,fun h=>absurd h h0,h2,fun _=>h3,h4⟩,fun w T=>by rw[ht];exact aDC S (by omega) hb neg w T⟩
def aMG (v t:ByteArray):Prop:=∀w,aA w→Calls Tryz.prog 95 #[.string v] w fun e w'=>e=.returned (.tuple #[.string t,.bool true])∧Below w.heap.size w w'
def aMH (v:ByteArray):Prop:=∀w,aA w→Calls Tryz.prog 95 #[.string v] w fun e w'=>e=.returned (.tuple #[.string ⟨#[]⟩,.bool false])∧Below w.heap.size w w'
theorem aJ2 (neg:Bool):kD (sgn neg+aI)=true:=by cases neg<;>kernel_rfl
theorem aKc (w0:World)(T0:aA w0)(v:ByteArray)(hv:v.size≤maxLen):(∃t,aFq v t∧aMG v t)∨(aFr v∧aMH v):=by
 cases hn:bR v.data.toList with
 | false=>exact .inr ⟨fun w T=>zR v w T fun w _=>cZ (xZ v w hv hn),fun w T=>aFf v w T fun w _=>cZ (aIn v w hv hn)⟩
 | true =>
  have h40:v.size≤40:=by
   unfold bR at hn;split at hn
   ·cases hn
   ·rw[aP];omega
  rcases aCy v hn with⟨neg,b,hb,h⟩|⟨neg,h⟩
  ·obtain⟨t,ht,hr⟩:=aKj neg b hb;have hi:=mQ neg b hb;have F:=fun w T=>aFK v _ t w T (fun w T=>aBc v _ w T hv hn hi h) ht.pr
   refine .inl ⟨t,?_,fun w T=>aNE v _ t w T (fun w T=>aKh v _ w T hv hn hi h) hr⟩;rcases aEX w0 T0 v hv with⟨t',Y⟩|N
   ·have:=pS (by kernel_rfl) (Y.yes w0 T0) (F w0 T0);simp at this;exact this▸Y
   ·have:=pS (by kernel_rfl) (N w0 T0) (F w0 T0);simp at this
  ·exact .inr ⟨fun w T=>zR v w T fun w T=>aFd v _ w T (by omega) hn h,fun w T=>aFf v w T fun w T=>aKi v _ w T (by omega) hn (aJ2 neg) h⟩
end Go.Proofs.YtcfgbdhpcboikaaGreatDoor
