/-
The document's Print of any finite float that is not nought.
-/
import Derived.Test.YtcfgbdhpcboikaaGreatDoorFixA
import Derived.Test.YtcfgbdhpcboikaaGreatDoorRNum
import Derived.Test.YtcfgbdhpcboikaaGreatDoorRefSC
namespace Go.Proofs.YtcfgbdhpcboikaaGreatDoor
open Go.Lib (hid)
set_option maxHeartbeats 4000000
set_option maxRecDepth 100000
open Go.RowKit
def iD (n:Nat):ByteArray:=⟨(List.replicate n 48).toArray⟩
theorem aFQ (n:Nat):iD n++⟨#[48]⟩=iD (n+1):=by
 refine pO _ _ ?_;rw[eK];unfold iD;rw[List.replicate_succ']
theorem tL (n:Nat):(iD n).size=n:=by unfold iD;rw[dZ];simp
theorem aBv (n:Nat)(hn:n<=1000)(w:World):Calls Tryz.prog 195 #[.int .i64 n] w fun e w'=>e=.returned (.string (iD n))/\w=w':=by
 go_enter Tryz.func195,Tryz.ntmps195;go_wp2;go_loop [3,4] (fun r i=>∃k:Nat,r=.string (iD k)/\i=.int .i64 k/\Hid (k<=n)) (fun _ i=>n-(intOf i).toNat);case atStart=>exact⟨0,rfl,rfl,hid (Nat.zero_le _)⟩
 case round =>obtain⟨k,rfl,rfl,hR⟩:=hrel;have hk:=hR.out;have hz:(iD k).size+1<=1000000:=by{rw[tL];omega};rcases Nat.lt_or_ge k n with h|h;{have hs:=aFQ k;go_wp2;go_round;(case rel=>exact⟨k+1,rfl,by go_num,hid h⟩);case measure=>simp[intOf];omega};{obtain rfl:k=n:=by{omega};go_wp2;go_ret;exact⟨rfl,rfl⟩}
theorem aHO (neg:Bool)(b:Nat)(D:List UInt8)(x:Int)(w:World)(T:aA w)(hb1:1<=b)(hb:b<aJ)(h1:1<=D.length)(h2:D.length<=17)(x0:-900<x)(x1:x<900)
  (hD:∀w,aA w->Calls Tryz.prog 194 #[.float .f64 b] w fun e w'=>e=.returned (.tuple #[.string ⟨D.toArray⟩,.int .i64 (x+1)])/\Below w.heap.size w w') :
  Calls Tryz.prog 153 #[.float .f64 (sgn neg+b:Nat)] w fun e w'=>e=.returned (.string ⟨(tQ neg D x).toArray⟩)/\Below w.heap.size w w':=by
 have hI:b<9218868437227405312:=hb;have g1:=yL neg b hb;have g2:=oN neg b hb;have g3:=aCt neg b hb hb1;have g4:=aCs neg b hb hb1;have g1':(FloatKind.f64.format.order (sgn neg+b) (sgn neg+b) !=some .eq)=false:=by{simp[bne,g1]};have AB:=fun w=>tY (sgn neg+b) w;unfold lW at g2;obtain⟨d,hd⟩:∃d:ByteArray,d=⟨D.toArray⟩:=⟨_,rfl⟩;have hdl:d.data.toList=D:=by{rw[hd]};have hds:d.size=D.length:=by{rw[hd];exact dZ D};rw[<-hd]at hD;clear hd;generalize tG (sgn neg+b)=ab at *;have HD:=hid hD;have HT:=hid T;have HAB:=hid AB;have HDL:=hid hdl;have HDS:=hid hds;clear hD T AB hdl g1;have un:=gF;have d17:d.size<=17:=by{omega};have d1:1<=d.size:=by{omega};have HX:Hid (-900<x/\x<900):=⟨x0,x1⟩
 have HST:Hid (tQ neg D x=(if neg then [45]else [])++(if (d.size:Int)<=x+1/\x+1<=21 then D++List.replicate (x+1-d.size).toNat 48
  else if 1<=x+1/\x+1<=21 then D.take (x+1).toNat++[46]++D.drop (x+1).toNat
  else if -5<=x+1/\x+1<=0 then [48,46]++List.replicate (-(x+1)).toNat 48++D
  else bV D++(if 0<x+1 then [101,43]++Lib.itoa x else [101,45]++Lib.itoa (-x)))):=by
  show _=_;rw[HDS.out];rfl
 have HN:Hid (Op.negFloat .f64 (sgn true+b)=b):=hid (aEE b hb);clear hI hb hb1;cases neg;case' false =>have hx0:sgn false+b=b:=vX b;rw[hx0]at g1' g3 g4 HAB ⊢;clear hx0;go_enter Tryz.func153,Tryz.ntmps153;go_wp2_with (go_at_call 121;refine(HAB.out _).mono ?_;rintro e w' ⟨rfl,rfl⟩);obtain⟨sg,hsg⟩:∃sg:ByteArray,sg=⟨#[]⟩:=⟨_,rfl⟩;have HSG:Hid (sg.data.toList=(if false=true then [45]else [])):=by{rw[hsg];rfl};have hs1:sg.size<=1:=by{rw[hsg];decide};rw[<-hsg];clear hsg
 case' true =>have g5:=HN.out;generalize sgn true+b=xx at *;go_enter Tryz.func153,Tryz.ntmps153;go_wp2_with (go_at_call 121;refine(HAB.out _).mono ?_;rintro e w' ⟨rfl,rfl⟩);obtain⟨sg,hsg⟩:∃sg:ByteArray,sg=⟨#[45]⟩:=⟨_,rfl⟩;have HSG:Hid (sg.data.toList=(if true=true then [45]else [])):=by{rw[hsg];rfl};have hs1:sg.size<=1:=by{rw[hsg];decide};rw[<-hsg];clear hsg
 all_goals
  refine(HD.out _ HT.out).mono ?_;rintro e W1 ⟨rfl,B1⟩;have HB1:=hid B1;have HT1:=hid (HT.out.below B1 (Nat.le_refl _));have hx0:=HX.out.1;have hx1:=HX.out.2;clear B1;by_cases c1:((d.size:Nat):Int)<=x+1/\x+1<=21
  ·obtain⟨c2,c3⟩:=c1;have HL:=HST;rw[if_pos (show(d.size:Int)<=x+1/\x+1<=21 from⟨c2,c3⟩)]at HL
   have hz:=tL (x+1-d.size).toNat;have hz0:(x+1-d.size).toNat<=1000:=by omega
   have hw:=fun w=>aBv (x+1-d.size).toNat (by omega) w
   rw[Int.toNat_of_nonneg (by omega)]at hw
   have HW:=hid hw;have HZL:Hid ((iD (x+1-d.size).toNat).data.toList=List.replicate (x+1-d.size).toNat 48):=hid rfl;clear hw;generalize (x+1-d.size).toNat=z at *
   generalize iD z=zs at *
   have hz2:zs.size<=1000:=by omega
   have p0:¬x+1<=0:=by omega
   have p5:¬x+1 < -5:=by omega
   have p21:¬ 21<x+1:=by omega
   have pk:¬x+1<(d.size:Int):=by omega
   clear hz h1 h2 x0 x1 d1 hds;go_wp2_with fail
   refine(HW.out _).mono ?_;rintro e W2 ⟨rfl,rfl⟩;go_wp2
   go_ret;refine⟨iE ?_,HB1.out⟩;simp only[eK];rw[HL.out,HSG.out,HDL.out,HZL.out,List.append_assoc]
  ·have HL1:=HST;rw[if_neg c1]at HL1
   by_cases c2:1<=x+1/\x+1<=21
   ·obtain⟨c3,c4⟩:=c2;have HL:=HL1;rw[if_pos (show 1<=x+1/\x+1<=21 from⟨c3,c4⟩)]at HL
    have c5:x+1<(d.size:Int):=by omega
    obtain⟨k,hk⟩:∃k:Nat,x+1=k:=⟨(x+1).toNat,by omega⟩
    rw[hk]at HL c3 c4 c5 ⊢
    rw[Int.toNat_natCast]at HL
    obtain⟨s1,e1,z1,k1⟩:=pP d k (by omega);obtain⟨s2,e2,z2,k2⟩:=fR d k (by omega);have HE1:=hid e1;have HE2:=hid e2;have HKK:=hid hk;have p0:¬(k:Int)<=0:=by omega
    have p5:¬(k:Int) < -5:=by omega
    have p21:¬ 21<(k:Int):=by omega
    clear e1 e2 hk c1 h1 h2 x0 x1 d1 hds;go_wp2_with fail
    go_quiet (fail)
    go_wp2
    go_ret;refine⟨iE ?_,HB1.out.trans ⟨rfl,rfl,rfl,Nat.le_refl _,fun _ _=>rfl⟩⟩;simp only[eK];rw[HL.out,HSG.out,HE1.out,HE2.out,HDL.out];simp
   ·rw[if_neg c2]at HL1
    by_cases c3:-5<=x+1/\x+1<=0
    ·obtain⟨c4,c5⟩:=c3;have HL:=HL1;rw[if_pos (show -5<=x+1/\x+1<=0 from⟨c4,c5⟩)]at HL
     have hz:=tL (-(x+1)).toNat;have hz0:(-(x+1)).toNat<=1000:=by omega
     have hw:=fun w=>aBv (-(x+1)).toNat (by omega) w
     rw[Int.toNat_of_nonneg (by omega)]at hw
     have HW:=hid hw;have HZL:Hid ((iD (-(x+1)).toNat).data.toList=List.replicate (-(x+1)).toNat 48):=hid rfl;clear hw;generalize (-(x+1)).toNat=z at *
     generalize iD z=zs at *
     have hz2:zs.size<=1000:=by omega
     have p5:¬x+1 < -5:=by omega
     have p21:¬ 21<x+1:=by omega
     clear hz c1 c2 h1 h2 x0 x1 d1 hds;go_wp2_with fail
     refine(HW.out _).mono ?_;rintro e W2 ⟨rfl,rfl⟩;go_wp2
     go_ret;refine⟨iE ?_,HB1.out⟩;simp only[eK];rw[HL.out,HSG.out,HDL.out,HZL.out];simp
    ·have HL:=HL1;rw[if_neg c3]at HL
     have HPL:Hid (bV D=D.take 1++(if 1<d.size then 46 :: D.drop 1 else [])):=hid (by unfold bV;rw[HDS.out]);have hd9:x+1 < -5\/21<x+1:=by omega
     clear c1 c2 c3;by_cases k1:1<d.size
     case' pos =>
      obtain⟨s1,e1,z1,q1⟩:=pP d 1 (by omega);obtain⟨s2,e2,z2,q2⟩:=fR d 1 (by omega);have q1':∀w,(Instr.slice 9 (.string d) none (some (.int .i64 1)) none).run Tryz.prog w=.ok (.string s1) w:=q1;have q2':∀w,(Instr.slice 9 (.string d) (some (.int .i64 1)) none none).run Tryz.prog w=.ok (.string s2) w:=q2;have HPP:Hid ((s1++⟨#[46]⟩++s2).data.toList=bV D):=by
       show _=_;rw[HPL.out,if_pos k1];simp only[eK];rw[e1,e2,HDL.out];simp
      have HPZ:Hid ((s1++⟨#[46]⟩++s2).size<=100):=by
       show _<=_;simp only[ByteArray.size_append];have:(⟨#[46]⟩:ByteArray).size=1:=rfl;omega
      clear e1 e2 q1 q2;have k2:(1:Int)<d.size:=by omega
      clear k1 h1 h2 x0 x1 d1 hds;rcases hd9 with h9|h9
      case' inl =>
       have p1:x+1<1:=by omega
       have p21:¬ 21<x+1:=by omega
      case' inr=>have p1:¬x+1<1:=by omega
      all_goals
       go_wp2_with fail
       go_quiet (fail)
       obtain⟨pt,hpt⟩:∃pt,pt=s1++⟨#[46]⟩++s2:=⟨_,rfl⟩
       rw[<-hpt]at HPP HPZ ⊢
       have hpz:pt.size<=100:=HPZ.out;have HBq:Hid (Below w.heap.size w (W1.drewN nq)):=hid (HB1.out.trans ⟨rfl,rfl,rfl,Nat.le_refl _,fun _ _=>rfl⟩);generalize W1.drewN nq=W2 at *
       clear hpt z1 z2;go_wp2_with fail
     case' neg =>
      have HPP:Hid (d.data.toList=bV D):=by
       show _=_;rw[HPL.out,if_neg k1,HDL.out,List.append_nil,List.take_of_length_le (by have:=HDS.out;omega)]
      have hpz:d.size<=100:=by omega
      have HBq:=HB1;have k2:¬(1:Int)<d.size:=by omega
      clear k1 h1 h2 x0 x1 d1 hds;rcases hd9 with h9|h9
      case' inl =>
       have p1:x+1<1:=by omega
       have p21:¬ 21<x+1:=by omega
      case' inr=>have p1:¬x+1<1:=by omega
      all_goals go_wp2_with fail
     all_goals
      have HT2:=hid (HT.out.below HBq.out (Nat.le_refl _));have hl1:=oP (1-(x+1)) (by omega) (by omega);have hl2:=oP x (by omega) (by omega);first
       | (with_reducible refine(oO (1-(x+1)) _ HT2.out (by omega) (by omega)).mono ?_)
       | (with_reducible refine(oO x _ HT2.out (by omega) (by omega)).mono ?_)
      rintro e W3 ⟨rfl,B3⟩;have HB3:=hid (HBq.out.trans (B3.mono HBq.out.size));clear B3;go_wp2
      go_ret;refine⟨iE ?_,HB3.out⟩;simp only[eK];rw[HL.out,HSG.out,HPP.out];first
       | (rw[if_neg (show ¬ 0<x+1 by omega),show 1-(x+1)=-x by omega];simp)
       | (rw[if_pos (show 0<x+1 by omega)];simp)
open Go.RowKit
theorem aLG (c:Nat):Lib.itoa (c:Int)=Lib.decDigits c:=by
 unfold Lib.itoa;rw[if_neg (by omega)];rfl
theorem aQg (r n m s j:Nat)(h1:1<=r)(h2:r<aJ)(m1:1<=m)(m2:m<100000000000000000)(s1:8<=s)(s2:s<=657) :
  ∃y,aMI r n m s j ⟨(Lib.decDigits (gA m j)).toArray⟩ ⟨(Lib.itoa ((s:Int)-348)).toArray⟩ y:=by
 have hc:gA m j<=100000000000000000:=by{unfold gA;(repeat' split);all_goals omega};obtain⟨R,hR,hi,hf⟩:=aG7 (gA m j) s hc s1 s2;have l1:=aLT _ hc;obtain⟨sg,Dg,es,e1,e2,e3,e4,e5,e6⟩:=aEq ((s:Int)-348) (by omega) (by omega);have hs:sg.length<=1:=by{rcases e4 with⟨rfl,_⟩|⟨rfl,_⟩|⟨rfl,_⟩<;>simp};refine⟨R,?_,?_,?_,?_,?_⟩;{intro w T;rw[aK8 m j m1,<-aLG];exact aJi _ w T (by omega) (by omega)};{intro w T;rw[show(n:Int)+s-349+1-n=(s:Int)-348 by omega];exact oO _ w T (by omega) (by omega)};{intro w T;have e:(⟨(Lib.decDigits (gA m j)).toArray⟩:ByteArray)++⟨#[101]⟩++⟨(Lib.itoa ((s:Int)-348)).toArray⟩=vC (gA m j) ((s:Int)-348):=by{refine pO _ _ ?_;simp};rw[e];exact hf w T};{rw[aOx R r hR h2 h1,Bool.and_eq_true,decide_eq_true_eq,decide_eq_true_eq,hi r h1,dZ,Lib.decDigits_length];exact and_congr Iff.rfl (by omega)};{refine⟨?_,?_⟩;{rw[dZ,Lib.decDigits_length];omega};{rw[dZ,e1,List.length_append];omega}}
theorem aD6 {r d j:Nat}{q:Int}(S:gI r d q j)(h1:1<=r)(h2:r<aJ):(1<=(cJ d).length/\(cJ d).length<=17)/\∀w,aA w ->
  Calls Tryz.prog 194 #[.float .f64 r] w fun e w'=>e=.returned (.tuple #[.string ⟨(cJ d).toArray⟩,.int .i64 ((Lib.nDigits d:Int)+q)])/\Below w.heap.size w w':=by
 obtain⟨D,t,N,c1,c2,c3,N1,lo,hi,hr,hno,hone⟩:=aNr S h1 h2;have hN:N<=17:=by{have:=oB d S.lt;omega};have hD1:1<=D:=by{have:=dQ (N-1);omega};have hidx:=S.idx;rw[c1,Lib.decDigits_length,c2,c3];refine⟨⟨N1,hN⟩,fun w T=>aFB r N _ _ N1 hN (fun n n1 n2=>?_) w T⟩;obtain⟨m,s,F,s1,s2,P⟩:=aEf r n h1 h2 n1 (by omega);have m1:1<=m:=by{have:=dQ (n-1);have:=F.lo;omega};have m2:m<100000000000000000:=by{have q18:10^n<=10^17:=jZ (by omega);have q19:(10:Nat)^17=100000000000000000:=by{decide};have:=F.hi;omega};have hm:Lib.nDigits m=n:=by{have:=Lib.nDigits_unique (n-1) m F.lo (by rw[Nat.sub_add_cancel n1];exact F.hi);omega};obtain⟨Sx,sA,sB,sC,sD,RA⟩:=aJ8 r n m s n1 (by omega) hm s2 P;have TA:=fun j=>aQg r n m s j h1 h2 m1 m2 s1 s2;refine⟨m,s,Sx,sA,sB,sC,sD,fun j=>⟨(Lib.decDigits (gA m j)).toArray⟩,fun _=>⟨(Lib.itoa ((s:Int)-348)).toArray⟩,fun j=>(TA j).choose,RA,m1,by omega,s2,fun j _=>(TA j).choose_spec,fun hn j=>aLC hno hn j,fun hn=>?_⟩;subst hn;obtain⟨es,hx⟩:=hone m s F;subst es;obtain⟨j',j3,ej,hj,hl⟩:=aNL hD1 c2 hr hx;refine⟨j',j3,hj,hl,fun i _ hh hb=>?_,by omega⟩;have ei:i=j':=by{rcases Nat.lt_trichotomy i j' with h|h|h;{exact absurd hh (hl i h)};{exact h};{exact absurd hj (hb j' h)}};show(⟨(Lib.decDigits (gA m i)).toArray⟩:ByteArray)=_;rw[ei,ej]
theorem aE1 {b d j:Nat}{q:Int}(S:gI b d q j)(h1:1<=b)(h2:b<aJ)(neg:Bool)(w:World)(T:aA w) :
  Calls Tryz.prog 153 #[.float .f64 (sgn neg+b:Nat)] w fun e w'=>e=.returned (.string ⟨(tQ neg (cJ d) ((Lib.nDigits d:Int)+q-1)).toArray⟩)/\Below w.heap.size w w':=by
 obtain⟨⟨l1,l2⟩,H⟩:=aD6 S h1 h2;have hidx:=S.idx;have j1:=S.j1;have j2:=S.j2;have n1:=Lib.nDigits_pos d;have n2:=oB d S.lt;refine aHO neg b (cJ d) _ w T h1 h2 l1 l2 (by omega) (by omega) fun w T=>?_;rw[show(Lib.nDigits d:Int)+q-1+1=(Lib.nDigits d:Int)+q by omega];exact H w T
open Go.RowKit
theorem aAg (b:Nat)(w:World)(h1:(FloatKind.f64.format.order b b !=some .eq)=false)(h2:lW b=false)(h3:(FloatKind.f64.format.order b 0==some .eq)=true) :
  Calls Tryz.prog 153 #[.float .f64 b] w fun e w'=>e=.returned (.string { data:=#[48] })/\w=w':=by
 have AB:=fun w=>tY b w;unfold lW at h2;generalize tG b=ab at *;have HAB:=hid AB;clear AB;go_enter Tryz.func153,Tryz.ntmps153;go_wp2_with (go_at_call 121;((with_reducible refine(HAB.out _).mono ?_);rintro e w' ⟨rfl,rfl⟩));go_ret;exact⟨rfl,rfl⟩
theorem aJ9 (s:ByteArray)(w:World)(hs:s.size<=maxLen)(hn:bX s.data.toList=false) :
  Calls Tryz.prog 152 #[.string s] w fun e w'=>e=.returned (.tuple #[.float .f64 0,.bool false])/\w=w':=by
 have NB:=fun w=>rS s hs w;rw[hn]at NB;have HNB:=hid NB;clear NB hn hs;go_enter Tryz.func152,Tryz.ntmps152;go_wp2_with (go_at_call 193;refine(HNB.out _).mono ?_;rintro e w' ⟨rfl,rfl⟩);go_ret2;exact⟨rfl,rfl⟩
theorem aMh (s:ByteArray)(r:Nat)(w:World)(T:aA w)(hs:s.size<=maxLen)(hn:bX s.data.toList=true)(hi:lW r=false)
  (A:∀w',aA w'->Calls Tryz.prog 205 #[.string s] w' fun e w2=>e=.returned (.tuple #[.float .f64 r,.int .i64 s.size,.nilIface])/\Below w'.heap.size w' w2) :
  Calls Tryz.prog 152 #[.string s] w fun e w'=>e=.returned (.tuple #[.float .f64 r,.bool true])/\Below w.heap.size w w':=by
 have NB:=fun w=>rS s hs w;rw[hn]at NB;have AB:=fun w=>tY r w;unfold lW at hi;generalize tG r=ab at *;have HAB:=hid AB;have HA:=hid A;have HNB:=hid NB;have HT:=hid T;clear A NB hn hs T AB;go_enter Tryz.func152,Tryz.ntmps152;go_wp2_with (go_at_call 193;refine(HNB.out _).mono ?_;rintro e w' ⟨rfl,rfl⟩);refine(aBD s r _ HT.out HA.out).mono ?_;rintro e w2 ⟨rfl,B2⟩;have HB:=hid B2;clear B2;go_wp2_with (go_at_call 121;((with_reducible refine(HAB.out _).mono ?_);rintro e w' ⟨rfl,rfl⟩));go_ret2;exact⟨rfl,HB.out⟩
theorem aMi (s:ByteArray)(r:Nat)(w:World)(T:aA w)(hs:s.size<=1000)(hn:bX s.data.toList=true)(hi:lW r=true)
  (A:∀w',aA w'->Calls Tryz.prog 205 #[.string s] w' fun e w2=>e=.returned (.tuple #[.float .f64 r,.int .i64 s.size,.iface 158 (.int .i64 1)])/\Below w'.heap.size w' w2) :
  Calls Tryz.prog 152 #[.string s] w fun e w'=>e=.returned (.tuple #[.float .f64 0,.bool false])/\Below w.heap.size w w':=by
 have NB:=fun w=>rS s (by unfold maxLen;omega) w;rw[hn]at NB;have AB:=fun w=>tY r w;unfold lW at hi;generalize tG r=ab at *;have HAB:=hid AB;have HA:=hid A;have HNB:=hid NB;have HT:=hid T;clear A NB hn T AB;go_enter Tryz.func152,Tryz.ntmps152;go_wp2_with (go_at_call 193;refine(HNB.out _).mono ?_;rintro e w' ⟨rfl,rfl⟩);refine(aEQ s hs r _ HT.out HA.out).mono ?_;rintro e w2 ⟨⟨t,p,rfl⟩,B2⟩;have HB:=hid B2;clear B2;go_wp2_with (go_at_call 121;((with_reducible refine(HAB.out _).mono ?_);rintro e w' ⟨rfl,rfl⟩));go_ret2;exact⟨rfl,HB.out⟩
theorem aP6 (s:ByteArray)(r:Nat)(t:ByteArray)(w:World)(T:aA w)
  (P:∀w,aA w->Calls Tryz.prog 152 #[.string s] w fun e w'=>e=.returned (.tuple #[.float .f64 r,.bool true])/\Below w.heap.size w w')
  (Q:∀w,aA w->Calls Tryz.prog 153 #[.float .f64 r] w fun e w'=>e=.returned (.string t)/\Below w.heap.size w w') :
  Calls Tryz.prog 95 #[.string s] w fun e w'=>e=.returned (.tuple #[.string t,.bool true])/\Below w.heap.size w w':=by
 have HP:=hid P;have HQ:=hid Q;have HT:=hid T;clear P Q T;go_enter Tryz.func95,Tryz.ntmps95;go_wp2_with fail;refine(HP.out _ HT.out).mono ?_;rintro e w1 ⟨rfl,B1⟩;have HB:=hid B1;have HT1:=hid (HT.out.below B1 (Nat.le_refl _));clear B1;go_wp2_with fail;refine(HQ.out _ HT1.out).mono ?_;rintro e w2 ⟨rfl,B2⟩;have HB2:=hid (HB.out.trans (B2.mono HB.out.size));clear B2;go_wp2;go_ret2;exact⟨rfl,HB2.out⟩
theorem aGI (s:ByteArray)(w:World)(T:aA w)
  (P:∀w,aA w->Calls Tryz.prog 152 #[.string s] w fun e w'=>e=.returned (.tuple #[.float .f64 0,.bool false])/\Below w.heap.size w w') :
  Calls Tryz.prog 95 #[.string s] w fun e w'=>e=.returned (.tuple #[.string ByteArray.empty,.bool false])/\Below w.heap.size w w':=by
 have HP:=hid P;have HT:=hid T;clear P T;go_enter Tryz.func95,Tryz.ntmps95;go_wp2_with fail;refine(HP.out _ HT.out).mono ?_;rintro e w1 ⟨rfl,B1⟩;have HB:=hid B1;clear B1;go_wp2;go_ret2;exact⟨rfl,HB.out⟩
theorem aMj (neg:Bool)(b:Nat)(hb:b<aJ):∃t,Prn neg b t/\∀w,aA w->Calls Tryz.prog 153 #[.float .f64 (sgn neg+b)] w fun e w'=>e=.returned (.string t)/\Below w.heap.size w w':=by
 by_cases h0:b=0;{subst h0;obtain⟨t,ht⟩:=aGH neg 0 hb;have e:=ht.nought rfl;subst e;refine⟨_,ht,fun w T=>?_⟩;cases neg;{exact dK (aAg 0 w (by kernel_rfl) (by kernel_rfl) (by kernel_rfl))};{exact dK (aAg 9223372036854775808 w (by kernel_rfl) (by kernel_rfl) (by kernel_rfl))}};{obtain⟨d,q,j,S,t,ht,h1,h2,h3,h4⟩:=aDW neg b (by omega) hb;exact⟨t,⟨h1,fun h=>absurd h h0,h2,fun _=>h3,h4⟩,fun w T=>by rw[ht];exact aE1 S (by omega) hb neg w T⟩}
def aO2 (v t:ByteArray):Prop:=∀w,aA w->Calls Tryz.prog 95 #[.string v] w fun e w'=>e=.returned (.tuple #[.string t,.bool true])/\Below w.heap.size w w'
def aO3 (v:ByteArray):Prop:=∀w,aA w->Calls Tryz.prog 95 #[.string v] w fun e w'=>e=.returned (.tuple #[.string ⟨#[]⟩,.bool false])/\Below w.heap.size w w'
theorem aLX (neg:Bool):lW (sgn neg+aJ)=true:=by cases neg<;>kernel_rfl
theorem aMc (w0:World)(T0:aA w0)(v:ByteArray)(hv:v.size<=maxLen):(∃t,aGV v t/\aO2 v t)\/(aGW v/\aO3 v):=by
 cases hn:bX v.data.toList with|false=>exact .inr ⟨fun w T=>aBe v w T fun w _=>dK (aAG v w hv hn),fun w T=>aGI v w T fun w _=>dK (aJ9 v w hv hn)⟩|true=>{have h40:v.size<=40:=by{unfold bX at hn;split at hn;{cases hn};{rw[aS];omega}};rcases aDU v hn with⟨neg,b,hb,h⟩|⟨neg,h⟩;{obtain⟨t,ht,hr⟩:=aMj neg b hb;have hi:=oN neg b hb;have F:=fun w T=>aHi v _ t w T (fun w T=>aCu v _ w T hv hn hi h) ht.pr;refine .inl ⟨t,?_,fun w T=>aP6 v _ t w T (fun w T=>aMh v _ w T hv hn hi h) hr⟩;rcases aGr w0 T0 v hv with⟨t',Y⟩|N;{have:=sE (by kernel_rfl) (Y.yes w0 T0) (F w0 T0);simp at this;exact this▸Y};{have:=sE (by kernel_rfl) (N w0 T0) (F w0 T0);simp at this}};{exact .inr ⟨fun w T=>aBe v w T fun w T=>aGG v _ w T (by omega) hn h,fun w T=>aGI v w T fun w T=>aMi v _ w T (by omega) hn (aLX neg) h⟩}}
open Go.RowKit
def mkB (l:List UInt8):ByteArray:=⟨l.toArray⟩
theorem aPU (a b:List UInt8):mkB a=mkB b↔a=b:=⟨fun h=>by simpa [mkB]using h,fun h=>by rw[h]⟩
theorem aPN (ws:List (List UInt8))(x:List UInt8):Lib.containsS (ws.map mkB) (mkB x)=ws.contains x:=by
 rw[Bool.eq_iff_iff,Lib.containsS_iff,List.contains_iff_mem];simp only[List.mem_map,aPU,exists_eq_right]
theorem aBJ (s z:ByteArray)(hs:s.size<=1000000000)(hz:z.size<=1000)(b:Bool)(hb:dT ((wE z.data.toList).map mkB) (cM s.data.toList)=b)(w:World):Calls Tryz.prog 93 #[.string s,.string z] w (pM (lP s) b w):=by
 have hl:=xO s.data.toList;have hl2:s.data.toList.length=s.size:=rfl;have hsz:(lP s).size<=140737488355328:=by{unfold lP;rw[jP];omega};have K:=hid (fun w=>aJ6 s hs w);have S:=fun w=>aF1 (lP s) hsz w;unfold aGf at S;unfold dT at hb;have hd:(lP s).data.toList=cM s.data.toList:=rfl;have he:(⟨(cM s.data.toList).toArray⟩:ByteArray)=lP s:=rfl;rw[he]at K;rw[hd]at S;clear hl hl2 hsz hd he;generalize lP s=L at *;generalize cM s.data.toList=X at *;cases hsc:fP X with|none=>{rw[hsc]at hb;rw[gQ hsc]at S;obtain rfl:true=b:=hb;have HS:=hid S;clear S hsc;go_enter Tryz.func93,Tryz.ntmps93;go_wp2_with fail;refine(K.out _).mono ?_;rintro x W1 ⟨rfl,B1⟩;have HB1:=hid B1;clear B1;go_wp2_with fail;refine(HS.out _).mono ?_;rintro x W2 ⟨rfl,B2⟩;have HB2:=hid (HB1.out.trans (B2.mono HB1.out.size));clear B2;go_wp2;go_ret2;exact⟨rfl,HB2.out⟩}|some x=>{rw[hsc]at hb;rw[lD hsc]at S;have hb2:inB (mkB x).data.toList z.data.toList=b:=by{rw[<-hb];exact(aPN _ x).symm};have HI:=hid (fun w=>mE (mkB x) z b (hid hb2) (by omega) w);have HS:=hid S;have hm:(⟨x.toArray⟩:ByteArray)=mkB x:=rfl;rw[hm]at HS;clear S hsc hb hb2 hm;generalize mkB x=y at *;go_enter Tryz.func93,Tryz.ntmps93;go_wp2_with fail;refine(K.out _).mono ?_;rintro x W1 ⟨rfl,B1⟩;have HB1:=hid B1;clear B1;go_wp2_with fail;refine(HS.out _).mono ?_;rintro x W2 ⟨rfl,B2⟩;have HB2:=hid (HB1.out.trans (B2.mono HB1.out.size));clear B2;go_wp2_with fail;refine(HI.out _).mono ?_;rintro x W3 ⟨rfl,rfl⟩;go_wp2;go_ret2;exact⟨rfl,HB2.out⟩}
theorem aBm (n a b:ByteArray)(z:List UInt8)(h:wE z=[a.data.toList,b.data.toList]):inB n.data.toList z=decide (n=a\/n=b):=by
 unfold inB;rw[h,Bool.eq_iff_iff,List.contains_iff_mem,decide_eq_true_eq];simp only[List.mem_cons,List.mem_nil_iff,or_false];exact⟨fun x=>x.imp fI fI,fun x=>x.imp (fun e=>by rw[e]) (fun e=>by rw[e])⟩
theorem aEl (n a b c:ByteArray)(z:List UInt8)(h:wE z=[a.data.toList,b.data.toList,c.data.toList]):inB n.data.toList z=decide (n=a\/n=b\/n=c):=by
 unfold inB;rw[h,Bool.eq_iff_iff,List.contains_iff_mem,decide_eq_true_eq];simp only[List.mem_cons,List.mem_nil_iff,or_false];exact⟨fun x=>x.imp fI (fun y=>y.imp fI fI),fun x=>x.imp (fun e=>by rw[e]) (fun y=>y.imp (fun e=>by rw[e]) (fun e=>by rw[e]))⟩
theorem fU {n c:ByteArray}(l:List UInt8)(h:c.data.toList=l):(n.toList==l)=decide (n=c):=by
 rw[Bool.eq_iff_iff,beq_iff_eq,decide_eq_true_eq,toList_data,<-h];exact⟨fI,fun e=>by rw[e]⟩
theorem xJ {n:List UInt8}{q:Nat}(h:aW n=q)(h0:0<q):(n,q)∈eS:=by
 unfold aW at h;cases hf:eS.find? fun p=>p.1==n with|none=>{rw[hf]at h;simp at h;omega}|some p=>{rw[hf]at h;have h1:=List.find?_some hf;have h2:=List.mem_of_find?_eq_some hf;have e:p=(n,q):=by{cases p;simp at h1 h;rw[h1,h]};rw[<-e];exact h2}
theorem aNR:∀p∈eS,p.2=13->p.1=sTd.data.toList\/p.1=sTh.data.toList:=by decide +kernel
theorem aJm (e:ByteArray):aW e.data.toList=13↔e=sTd\/e=sTh:=by
 constructor;{intro h;exact(aNR _ (xJ h (by omega)) rfl).imp fI fI};{rintro(rfl|rfl)<;>decide +kernel}
def aQw (k:FK)(v s:ByteArray)(ok:Bool):Prop:=match k with
 | .text=>Hid (∀W,Calls Tryz.prog 33 #[.string v] W (yZ s W))/\ok=true
 | .lang=>v=s/\Hid (ok=true↔mM v)
 | .dir=>Hid (∀W,Calls Tryz.prog 74 #[.string v] W (yZ s W))/\Hid (∀W,Calls Tryz.prog 69 #[.string s,.string ⟨#[97,117,116,111,32,108,116,114,32,114,116,108]⟩] W (rH ok W))
 | .linkA=>Hid (∀W,Calls Tryz.prog 93 #[.string v,.string ⟨#[104,116,116,112,32,104,116,116,112,115,32,109,97,105,108,116,111]⟩] W (pM s ok W))
 | .linkI=>Hid (∀W,Calls Tryz.prog 93 #[.string v,.string ⟨#[104,116,116,112,32,104,116,116,112,115]⟩] W (pM s ok W))
 | .whole lo hi=>v=s/\∃x:Int,Hid (∀W,Calls Tryz.prog 94 #[.string v,.int .i64 lo,.int .i64 hi] W (fun e w'=>e=.returned (.tuple #[.int .i64 x,.bool ok])/\W=w'))
 | .fix=>Hid (∀W,aA W->Calls Tryz.prog 95 #[.string v] W (pM s ok W))
 | .none=>v=s/\ok=false
theorem aMd (w0:World)(T0:aA w0)(k:FK)(v:ByteArray)(hs:v.size<=1048576):∃s ok,uU k v (if ok=true then some s else none)/\aQw k v s ok/\s.size<=4000000:=by
 have ht:=aB1 v;have hl:=aBq v;cases k with
 | text=>exact⟨gE v,true,rfl,⟨hid (fun W=>yB v (by omega) W),rfl⟩,by omega⟩
 | lang =>
  by_cases h:mM v
  ·exact⟨v,true,⟨h,rfl⟩,⟨rfl,hid ⟨fun _=>h,fun _=>rfl⟩⟩,by omega⟩
  ·exact⟨v,false,h,⟨rfl,hid ⟨fun x=>(by cases x),fun x=>absurd x h⟩⟩,by omega⟩
 | dir =>
  have h69:=fun W=>mE (dB v) ⟨#[97,117,116,111,32,108,116,114,32,114,116,108]⟩ (decide (dB v=sX\/dB v=yG\/dB v=yH)) (hid (aEl _ _ _ _ _ (by decide))) (by decide) W
  have hz:(dB v).size<=4000000:=by
   unfold dB bK;rw[jP,List.length_map];have:v.data.toList.length=v.size:=rfl;omega
  refine⟨dB v,decide (dB v=sX\/dB v=yG\/dB v=yH),?_,⟨hid (fun W=>aBK v (by omega) W),hid h69⟩,hz⟩;by_cases h:dB v=sX\/dB v=yG\/dB v=yH
  ·rw[if_pos (decide_eq_true h)];exact⟨h,rfl⟩
  ·rw[if_neg (by rw[decide_eq_true_eq];exact h)];exact h
 | linkA =>
  have h:=fun W=>aBJ v ⟨#[104,116,116,112,32,104,116,116,112,115,32,109,97,105,108,116,111]⟩ (by omega) (by decide) (dT mR (cM v.data.toList)) rfl W
  refine⟨lP v,dT mR (cM v.data.toList),?_,hid h,by omega⟩;cases hc:dT mR (cM v.data.toList)with
  | true=>exact⟨hc,rfl⟩
  | false=>exact hc
 | linkI =>
  have h:=fun W=>aBJ v ⟨#[104,116,116,112,32,104,116,116,112,115]⟩ (by omega) (by decide) (dT tT (cM v.data.toList)) rfl W
  refine⟨lP v,dT tT (cM v.data.toList),?_,hid h,by omega⟩;cases hc:dT tT (cM v.data.toList)with
  | true=>exact⟨hc,rfl⟩
  | false=>exact hc
 | whole lo hi =>
  obtain⟨x,b,hx⟩:=aFr v lo hi (by unfold maxLen;omega);refine⟨v,b,?_,⟨rfl,x,hid hx.two⟩,by omega⟩;cases b with
  | true=>exact⟨⟨x,hx⟩,rfl⟩
  | false=>exact⟨x,hx⟩
 | fix =>
  rcases aMc w0 T0 v (by unfold maxLen;omega)with⟨t,h1,h2⟩|⟨h1,h2⟩
  ·exact⟨t,true,h1,hid h2,by have:=h1.sz;omega⟩
  ·exact⟨⟨#[]⟩,false,h1,hid h2,by decide⟩
 | none=>exact⟨v,false,trivial,⟨rfl,rfl⟩,by omega⟩
theorem aI2 (e:ByteArray):aY e dY=.text:=by simp +decide [aY]
theorem aND (e:ByteArray):aY e yF=if e=eR then .text else .none:=by simp +decide [aY,fN]
theorem aLv (e:ByteArray):aY e pF=.lang:=by simp +decide [aY]
theorem aNE (e:ByteArray):aY e vV=.dir:=by simp +decide [aY]
theorem aLu (e:ByteArray):aY e kK=if e=sA then .linkA else .none:=by simp +decide [aY,fN]
theorem aNI (e:ByteArray):aY e yJ=if e=eR then .linkI else .none:=by simp +decide [aY,fN]
theorem aHk (e:ByteArray):aY e lR=if e=eR then .whole 0 9999 else .none:=by simp +decide [aY,fN]
theorem aI4 (e:ByteArray):aY e oI=if e=eR then .whole 0 9999 else .none:=by simp +decide [aY,fN]
theorem aI1 (e:ByteArray):aY e oH=if e=sOl then .whole 0 999999 else .none:=by simp +decide [aY,fN]
theorem aFE (e:ByteArray):aY e gO=if e=sTd\/e=sTh then .whole 1 1000 else .none:=by simp +decide [aY,fN]
theorem aFF (e:ByteArray):aY e gP=if e=sTd\/e=sTh then .whole 1 1000 else .none:=by simp +decide [aY,fN]
theorem aNG (e:ByteArray):aY e rT=if e=dE\/e=fK then .fix else .none:=by simp +decide [aY,fN]
theorem aI3 (e:ByteArray):aY e lC=if e=dE\/e=fK then .fix else .none:=by simp +decide [aY,fN]
theorem aLt (e:ByteArray):aY e vW=if e=dE then .fix else .none:=by simp +decide [aY,fN]
theorem aNF (e:ByteArray):aY e aAK=if e=dE then .fix else .none:=by simp +decide [aY,fN]
theorem aNH (e:ByteArray):aY e aAL=if e=dE then .fix else .none:=by simp +decide [aY,fN]
theorem aKe (w0:World)(T0:aA w0)(e n v:ByteArray)(hs:v.size<=1048576)(hn:n.size<=1048576)(_he:e.size<=1048576):∃o,mC e n v o/\∀w,aA w ->
  Calls Tryz.prog 44 #[.string e,.string n,.string v] w fun x w'=>x=.returned (kD o)/\Below w.heap.size w w':=by
 by_cases hk:aW e.data.toList<2\/aW e.data.toList=14;{refine⟨none,.inl hk,fun w T=>?_⟩;have HK:=hid (fun W=>iO e W);have hd:aW e.data.toList<2\/(¬aW e.data.toList<2/\((aW e.data.toList:Nat):Int)=14):=by{omega};clear hk T;generalize aW e.data.toList=k at *;rcases hd with h|⟨h,h'⟩;{have l1:decide ((k:Int)<2)=true:=decide_eq_true (by omega);go_enter Tryz.func44,Tryz.ntmps44;go_wp2_with fail;refine(HK.out _).mono ?_;rintro x W1 ⟨rfl,B1⟩;have HB1:=hid B1;clear B1;go_wp2;go_ret2;exact⟨rfl,HB1.out⟩};{have l1:decide ((k:Int)<2)=false:=decide_eq_false (by omega);have l2:((k:Int)==14)=true:=by{rw[beq_iff_eq];exact h'};clear h h';go_enter Tryz.func44,Tryz.ntmps44;go_wp2_with fail;refine(HK.out _).mono ?_;rintro x W1 ⟨rfl,B1⟩;have HB1:=hid B1;clear B1;go_wp2;go_ret2;exact⟨rfl,HB1.out⟩}}
 ·obtain⟨s,ok,h1,h2,h3⟩:=aMd w0 T0 (aY e n) v hs;obtain⟨o,ho,hv⟩:∃o,((ok=false/\o=none)\/(ok=true/\120<(gZ s).size/\o=none)\/(ok=true/\(gZ s).size<=120/\o=some s))/\mC e n v o:=by{cases ok with|false=>exact⟨none,.inl ⟨rfl,rfl⟩,.inr (.inl h1)⟩|true=>{rcases Nat.lt_or_ge 120 (gZ s).size with h|h;{exact⟨none,.inr (.inl ⟨rfl,h,rfl⟩),.inr (.inr ⟨s,h1,h⟩)⟩};{exact⟨some s,.inr (.inr ⟨rfl,h,rfl⟩),hk,h1,h⟩}}}
  refine⟨o,hv,fun w T=>?_⟩;clear hv h1 T0;refine aF2 e n v s hs ok o (aW e.data.toList) (by omega) (by rw[beq_eq_false_iff_ne];omega) w (hid T) (hid (fun W=>iO e W))
   (decide (n=dY)) (decide (n=yF)) (decide (n=pF)) (decide (n=vV)) (decide (n=kK)) (decide (n=yJ)) (decide (n=lR\/n=oI)) (decide (n=oH)) (decide (n=gO\/n=gP)) (decide (n=rT\/n=lC)) (decide (n=vW\/n=aAK\/n=aAL)) (decide (e=eR)) (decide (e=sA)) (decide (e=sOl)) (decide (e=sTd\/e=sTh)) (decide (e=dE\/e=fK)) (decide (e=dE))
   (fU _ rfl) (fU _ rfl) (fU _ rfl) (fU _ rfl) (fU _ rfl) (fU _ rfl) (hid (fun W=>mE n ⟨#[104,101,105,103,104,116,32,119,105,100,116,104]⟩ _ (hid (aBm _ _ _ _ (by decide))) (by decide) W)) (fU _ rfl) (hid (fun W=>mE n ⟨#[99,111,108,115,112,97,110,32,114,111,119,115,112,97,110]⟩ _ (hid (aBm _ _ _ _ (by decide))) (by decide) W)) (hid (fun W=>mE n ⟨#[109,97,120,32,118,97,108,117,101]⟩ _ (hid (aBm _ _ _ _ (by decide))) (by decide) W)) (hid (fun W=>mE n ⟨#[104,105,103,104,32,108,111,119,32,109,105,110]⟩ _ (hid (aEl _ _ _ _ _ (by decide))) (by decide) W)) (fU _ rfl) (fU _ rfl) (fU _ rfl) (by rw[Bool.eq_iff_iff,beq_iff_eq,decide_eq_true_eq,<-aJm];omega) (hid (fun W=>mE e ⟨#[109,101,116,101,114,32,112,114,111,103,114,101,115,115]⟩ _ (hid (aBm _ _ _ _ (by decide))) (by decide) W)) (fU _ rfl)
   (hid (fun _ W=>aMb s (by omega) W)) ho ?_
  clear ho T;simp only[decide_eq_true_eq,decide_eq_false_iff_not];by_cases c0:n=dY;{rw[c0,aI2]at h2;exact .inl ⟨c0,h2⟩};by_cases c1:n=yF
  ·have hf:aY e n=if e=eR then .text else .none:=by rw[c1];exact aND e
   rw[hf]at h2;by_cases y:e=eR;{rw[if_pos y]at h2;exact .inr (.inl ⟨c0,c1,y,h2⟩)};{rw[if_neg y]at h2;exact .inr (.inr (.inl ⟨c0,c1,y,(by subst c1<;>decide),(by subst c1<;>decide),(by subst c1<;>decide),(by subst c1<;>decide),(by subst c1<;>decide),(by subst c1<;>decide),(by subst c1<;>decide),(by subst c1<;>decide),(by subst c1<;>decide),h2⟩))}
  by_cases c2:n=pF;{rw[c2,aLv]at h2;exact .inr (.inr (.inr (.inl ⟨c0,c1,c2,h2⟩)))};by_cases c3:n=vV;{rw[c3,aNE]at h2;exact .inr (.inr (.inr (.inr (.inl ⟨c0,c1,c2,c3,h2⟩))))};by_cases c4:n=kK
  ·have hf:aY e n=if e=sA then .linkA else .none:=by rw[c4];exact aLu e
   rw[hf]at h2;by_cases y:e=sA;{rw[if_pos y]at h2;exact .inr (.inr (.inr (.inr (.inr (.inl ⟨c0,c1,c2,c3,c4,y,h2⟩)))))};{rw[if_neg y]at h2;exact .inr (.inr (.inr (.inr (.inr (.inr (.inl ⟨c0,c1,c2,c3,c4,y,(by subst c4<;>decide),(by subst c4<;>decide),(by subst c4<;>decide),(by subst c4<;>decide),(by subst c4<;>decide),(by subst c4<;>decide),h2⟩))))))}
  by_cases c5:n=yJ
  ·have hf:aY e n=if e=eR then .linkI else .none:=by rw[c5];exact aNI e
   rw[hf]at h2;by_cases y:e=eR;{rw[if_pos y]at h2;exact .inr (.inr (.inr (.inr (.inr (.inr (.inr (.inl ⟨c0,c1,c2,c3,c4,c5,y,h2⟩)))))))};{rw[if_neg y]at h2;exact .inr (.inr (.inr (.inr (.inr (.inr (.inr (.inr (.inl ⟨c0,c1,c2,c3,c4,c5,y,(by subst c5<;>decide),(by subst c5<;>decide),(by subst c5<;>decide),(by subst c5<;>decide),(by subst c5<;>decide),h2⟩))))))))}
  by_cases c6:n=lR\/n=oI
  ·have hf:aY e n=if e=eR then .whole 0 9999 else .none:=by rcases c6 with rfl|rfl<;>first|exact aHk e|exact aI4 e
   rw[hf]at h2;by_cases y:e=eR;{rw[if_pos y]at h2;exact .inr (.inr (.inr (.inr (.inr (.inr (.inr (.inr (.inr (.inl ⟨c0,c1,c2,c3,c4,c5,c6,y,h2⟩)))))))))};{rw[if_neg y]at h2;exact .inr (.inr (.inr (.inr (.inr (.inr (.inr (.inr (.inr (.inr (.inl ⟨c0,c1,c2,c3,c4,c5,c6,y,(by rcases c6 with rfl|rfl<;>decide),(by rcases c6 with rfl|rfl<;>decide),(by rcases c6 with rfl|rfl<;>decide),(by rcases c6 with rfl|rfl<;>decide),h2⟩))))))))))}
  by_cases c7:n=oH
  ·have hf:aY e n=if e=sOl then .whole 0 999999 else .none:=by rw[c7];exact aI1 e
   rw[hf]at h2;by_cases y:e=sOl;{rw[if_pos y]at h2;exact .inr (.inr (.inr (.inr (.inr (.inr (.inr (.inr (.inr (.inr (.inr (.inl ⟨c0,c1,c2,c3,c4,c5,c6,c7,y,h2⟩)))))))))))};{rw[if_neg y]at h2;exact .inr (.inr (.inr (.inr (.inr (.inr (.inr (.inr (.inr (.inr (.inr (.inr (.inl ⟨c0,c1,c2,c3,c4,c5,c6,c7,y,(by subst c7<;>decide),(by subst c7<;>decide),(by subst c7<;>decide),h2⟩))))))))))))}
  by_cases c8:n=gO\/n=gP
  ·have hf:aY e n=if e=sTd\/e=sTh then .whole 1 1000 else .none:=by rcases c8 with rfl|rfl<;>first|exact aFE e|exact aFF e
   rw[hf]at h2;by_cases y:e=sTd\/e=sTh;{rw[if_pos y]at h2;exact .inr (.inr (.inr (.inr (.inr (.inr (.inr (.inr (.inr (.inr (.inr (.inr (.inr (.inl ⟨c0,c1,c2,c3,c4,c5,c6,c7,c8,y,h2⟩)))))))))))))};{rw[if_neg y]at h2;exact .inr (.inr (.inr (.inr (.inr (.inr (.inr (.inr (.inr (.inr (.inr (.inr (.inr (.inr (.inl ⟨c0,c1,c2,c3,c4,c5,c6,c7,c8,y,(by rcases c8 with rfl|rfl<;>decide),(by rcases c8 with rfl|rfl<;>decide),h2⟩))))))))))))))}
  by_cases c9:n=rT\/n=lC
  ·have hf:aY e n=if e=dE\/e=fK then .fix else .none:=by rcases c9 with rfl|rfl<;>first|exact aNG e|exact aI3 e
   rw[hf]at h2;by_cases y:e=dE\/e=fK;{rw[if_pos y]at h2;exact .inr (.inr (.inr (.inr (.inr (.inr (.inr (.inr (.inr (.inr (.inr (.inr (.inr (.inr (.inr (.inl ⟨c0,c1,c2,c3,c4,c5,c6,c7,c8,c9,y,h2⟩)))))))))))))))};{rw[if_neg y]at h2;exact .inr (.inr (.inr (.inr (.inr (.inr (.inr (.inr (.inr (.inr (.inr (.inr (.inr (.inr (.inr (.inr (.inl ⟨c0,c1,c2,c3,c4,c5,c6,c7,c8,c9,y,(by rcases c9 with rfl|rfl<;>decide),h2⟩))))))))))))))))}
  by_cases c10:n=vW\/n=aAK\/n=aAL
  ·have hf:aY e n=if e=dE then .fix else .none:=by rcases c10 with rfl|rfl|rfl<;>first|exact aLt e|exact aNF e|exact aNH e
   rw[hf]at h2;by_cases y:e=dE;{rw[if_pos y]at h2;exact .inr (.inr (.inr (.inr (.inr (.inr (.inr (.inr (.inr (.inr (.inr (.inr (.inr (.inr (.inr (.inr (.inr (.inl ⟨c0,c1,c2,c3,c4,c5,c6,c7,c8,c9,c10,y,h2⟩)))))))))))))))))};{rw[if_neg y]at h2;exact .inr (.inr (.inr (.inr (.inr (.inr (.inr (.inr (.inr (.inr (.inr (.inr (.inr (.inr (.inr (.inr (.inr (.inr (.inl ⟨c0,c1,c2,c3,c4,c5,c6,c7,c8,c9,c10,y,h2⟩))))))))))))))))))}
  have hf:aY e n=.none:=by{simp only[not_or]at c6 c8 c9 c10;simp[aY,fN,c0,c1,c2,c3,c4,c5,c6,c7,c8,c9,c10]};rw[hf]at h2;exact .inr (.inr (.inr (.inr (.inr (.inr (.inr (.inr (.inr (.inr (.inr (.inr (.inr (.inr (.inr (.inr (.inr (.inr (.inr (⟨c0,c1,c2,c3,c4,c5,c6,c7,c8,c9,c10,h2⟩)))))))))))))))))))
theorem aHR (w0:World)(T0:aA w0)(e n v:ByteArray)(o:Option ByteArray)(hs:v.size<=1048576)(hn:n.size<=1048576)(he:e.size<=1048576)(h:mC e n v o)(w:World)(T:aA w) :
  Calls Tryz.prog 44 #[.string e,.string n,.string v] w fun x w'=>x=.returned (kD o)/\Below w.heap.size w w':=by
 obtain⟨o',h1,h2⟩:=aKe w0 T0 e n v hs hn he;obtain rfl:=aKG w0 T0 (by omega) (by omega) hs h1 h;exact h2 w T
