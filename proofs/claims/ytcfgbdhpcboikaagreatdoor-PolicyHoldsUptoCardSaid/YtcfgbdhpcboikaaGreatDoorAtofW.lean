/-
internal/strconv.parseFloat64 and atof64: the nearest float of a numeral whose digits are few.
-/
import Derived.Test.YtcfgbdhpcboikaaGreatDoorNearT
import Derived.Test.YtcfgbdhpcboikaaGreatDoorDigA
import Derived.Test.YtcfgbdhpcboikaaGreatDoorReadC
namespace Go.Proofs.YtcfgbdhpcboikaaGreatDoor
open Go.Lib (hid)
set_option maxHeartbeats 2000000
set_option maxRecDepth 100000
open Go.RowKit
theorem qV (d:Nat)(h1:1≤d)(h2:d<18446744073709551616):∃b,Lib.bitLen d=b∧1≤b∧b≤64∧2^(b-1)≤d∧d<2^b:=by
  obtain⟨g1,g2,g3⟩:=Lib.bitLenAux_bounds 64 d (by omega) (by omega);have e1:Lib.bitLen d=Lib.bitLenAux 64 d:=rfl;rw[e1];generalize Lib.bitLenAux 64 d=L at *
  refine⟨L,rfl,?_,?_,by omega,by omega⟩
  · refine Nat.pos_of_ne_zero fun h=>?_
    subst h;simp at g2;omega
  · refine Nat.le_of_not_lt fun h=>?_
    have:2^64≤2^(L-1):=Nat.pow_le_pow_right (by decide) (by omega);have e64:(2:Nat)^64=18446744073709551616:=by decide
    omega
theorem aDK (i:Nat)(hi:i<696):-1200≤lpI i∧lpI i≤1200:=by unfold lpI;omega
theorem aMS (b i u:Nat):(((bM b i+gK u:Nat):Int)-1074)=-(min 1074 (53-(b:Int)-lpI i)-gK u):=by
  unfold bM;generalize gK u=c;generalize lpI i=l;omega
def tI (r:Nat):Value:=if r=aJ then .iface 158 (.int .i64 1)else .nilIface
theorem sI {r:Nat}(h:r<aJ):tI r=.nilIface:=if_neg (by omega)
theorem aJH (S K m r:Nat)(e:Ending)(hp:pL S K m e)(er:min (K*4503599627370496+m) aJ=r)(hm:m<9007199254740992)(h:4503599627370496≤m∨K=0):e=.returned (.tuple #[.float .f64 (S+r),tI r]):=by
  have ei:aJ=9218868437227405312:=rfl;unfold pL mZ uH at hp;rw[←ei,er]at hp
  rw[hp];unfold tI;rw[ei]at er ⊢
  by_cases hK:2046≤K
  · rw[if_pos hK,if_pos (by omega)]
  · rw[if_neg hK,if_neg (by omega)]
theorem aJI (d i r S:Nat)(w:World)(T:aA w)(hS:fH S)(hd1:1≤d)(hd:d<18446744073709551616)(hi:i<696)(hg:d<144115188075855872∨(348≤i∧i≤375))(hr:bI (bA d i) (aF i) r) :
    Calls Tryz.prog 245 #[.int .u64 d,.int .i64 ((i:Int)-348),.int .u64 S] w fun e' w'=>e'=.returned (.tuple #[.float .f64 (S+r),tI r])∧Below w.heap.size w w':=by
  obtain⟨b,hb,b1,b64,l1,l2⟩:=qV d hd1 hd;have hB:=dU i;obtain⟨p1,p2⟩:=aDK i hi;have hlp:((i:Int)-348)*108853 / 32768=lpI i:=rfl;obtain⟨s,hs⟩:∃s:Nat,fA b i=s:=⟨(fA b i).toNat,by unfold fA;omega⟩
  have hs':-(min 1074 (53-(b:Int)-lpI i)-(64-(b:Int))+lpI i+3)=s:=hs;by_cases hfar:64≤s
  · have h0:=aCY d i b hi l2 (by omega)
    have:r=0:=rD _ _ _ _ hB hr h0;subst this;rw[sI (show 0<aJ by unfold aJ;omega)];exact aBC d i b S s (lpI i) _ w T hS hd hb b64 hi hlp rfl hs' hfar
  · have hb57:b≤57∨(348≤i∧i≤375):=by
      rcases hg with h|h
      · left
        refine Nat.le_of_not_lt fun hh=>?_
        have:2^57≤2^(b-1):=Nat.pow_le_pow_right (by decide) (by omega);have e57:(2:Nat)^57=144115188075855872:=by decide
        omega
      · exact .inr h
    have hN:=aAb d i b s hi hd1 l2 b64 hs hb57;obtain⟨u,hu⟩:∃u,cF (d*2^(64-b)) (aH i) (aR i) s=u:=⟨_,rfl⟩
    obtain⟨q1,q2,q3,q4⟩:=aEM d i b hi b1 l1 l2 b64 s hs hN u hu;have hx2:d*2^(64-b)<18446744073709551616:=by
      have:d*2^(64-b)<2^b*2^(64-b):=Nat.mul_lt_mul_of_pos_right l2 (Nat.two_pow_pos _);rw[←Nat.pow_add,show b+(64-b)=64 by omega]at this
      exact this
    have hk:(((bM b i+gK u:Nat):Int)-1074)=-(min 1074 (53-(b:Int)-lpI i)-gK u):=aMS b i u;have hr4:fV (bO u)=aZ (bO u):=lQ _ (by have:=aCa u;omega);obtain⟨K,hK⟩:∃K,bM b i+gK u=K:=⟨_,rfl⟩
    obtain⟨m,hm⟩:∃m,aZ (bO u)=m:=⟨_,rfl⟩
    rw[hm]at q2 q3 q4 hr4
    rw[hK]at q3 q4 hk
    have er:=rD _ _ _ _ hB q4 hr;have u63:u<9223372036854775808:=Nat.lt_trans q1 (by decide);have s64:s<64:=Nat.lt_of_not_le hfar;refine(aAe d i b S s u K m _ (lpI i) _ w T hS hd hb b64 hi hlp rfl hs' s64 rfl hx2 hu u63 hm hr4 q2 hk q3).mono ?_;rintro e w' ⟨hp,hB'⟩;exact⟨aJH S K m r e hp er q2 q3,hB'⟩
theorem aM7 (s:ByteArray)(m i r:Nat)(neg:Bool)(w:World)(T:aA w)(hm:1≤m)(hm2:m<18446744073709551616)(i1:3≤i)(i2:i≤658)(hg:m<144115188075855872∨(348≤i∧i≤375))(hr:bI (bA m i) (aF i) r)
    (SP:∀w,Calls Tryz.prog 233 #[.string s] w fun e w'=>e=.returned (.tuple #[.float .f64 0,.int .i64 0,.bool false])∧w=w')
    (RD:∀w,Calls Tryz.prog 234 #[.string s] w fun e w'=>e=.returned (.tuple #[.int .u64 m,.int .i64 ((i:Int)-348),.bool neg,.bool false,.bool false,.int .i64 s.size,.bool true])∧w=w') :
    Calls Tryz.prog 205 #[.string s] w fun e w'=>e=.returned (.tuple #[.float .f64 (sgn neg+r),.int .i64 s.size,tI r])∧Below w.heap.size w w':=by
  have h3:=T.opt;have hm0:((m:Int)==0)=false:=beq_eq_false_iff_ne.2 (by omega);have EX:∀w,aA w→Calls Tryz.prog 244 #[.int .u64 m,.int .i64 ((i:Int)-348),.bool neg] w fun e w'=>(e=.returned (.tuple #[.float .f64 (sgn neg+r),.bool true])∧w=w'∧tI r=.nilIface)∨nC w e w':=by
    intro w T;refine(aIX m i neg w T (by omega) (by omega)).mono ?_;rintro e w' (⟨r',h1,h2,rfl,rfl⟩|h)
    · have:r'=r:=rD _ _ _ _ (dU i) h1 hr
      subst this;exact .inl ⟨rfl,rfl,sI h2⟩
    · exact .inr h
  have PF:=fun w T=>aJI m i r (sgn neg) w T (aAM neg) hm hm2 (by omega) hg hr
  have HSP:=hid SP;have HRD:=hid RD;have HEX:=hid EX;have HPF:=hid PF;have HT:=hid T;clear SP RD EX PF T hr;obtain⟨er,her⟩:∃v,tI r=v:=⟨_,rfl⟩
  rw[her]at HPF HEX ⊢
  clear her;cases neg;all_goals
    go_enter Tryz.func205,Tryz.ntmps205
    go_wp2_with (first
      | (go_at_call 233;refine(HSP.out _).mono ?_;rintro e w' ⟨rfl,rfl⟩)
      | (go_at_call 234;refine(HRD.out _).mono ?_;rintro e w' ⟨rfl,rfl⟩)
      | (go_at_call 242;((with_reducible refine(cU _).mono ?_);rintro e w' ⟨rfl,rfl⟩))
      | (go_at_call 242;((with_reducible refine(cI _).mono ?_);rintro e w' ⟨rfl,rfl⟩)))
    refine(HEX.out _ HT.out).mono ?_;rintro e w1 (⟨rfl,rfl,rfl⟩|⟨f,rfl,rfl⟩)
    · go_wp2
      go_ret3;exact⟨rfl,Below.refl _ _⟩
    · go_wp2_with fail
      refine(HPF.out _ HT.out).mono ?_;rintro e w2 ⟨rfl,B2⟩;have HB2:=hid B2;clear B2;go_wp2
      go_ret3;exact⟨rfl,HB2.out⟩
theorem vP (a b:Nat)(hb:b≤1):a≤a ||| b∧a ||| b≤a+1:=by
  refine⟨Nat.left_le_or,?_⟩;have:b=0∨b=1:=by omega
  rcases this with rfl|rfl
  · simp
  · have h:=Nat.or_mod_two_pow (a:=a) (b:=1) (n:=1)
    have:a ||| 1=2*(a / 2)+1:=by
      have e:(a ||| 1) / 2=a / 2:=by
        have:=Nat.or_div_two_pow (a:=a) (b:=1) (n:=1);simpa using this
      have e2:(a ||| 1)%2=1:=by
        rw[show(2:Nat)=2^1 from rfl,Nat.or_mod_two_pow];have:a%2=0∨a%2=1:=by omega
        rcases this with h|h<;>rw[show(2:Nat)^1=2 from rfl,h]<;>decide
      omega
    omega
def iK (k:Nat):Nat:=(-(((k:Int)-52)*78913 / 262144)+348).toNat
def lK (k:Nat):Int:=((iK k:Int)-348)*108853 / 32768
def sK (k:Nat):Nat:=(60-(k:Int)-lK k).toNat
def pK (k:Nat):Nat:=iK k-348
structure aRa (k:Nat):Prop where
  p:-(((k:Int)-52)*78913 / 262144)=(iK k:Int)-348
  i:iK k=348+pK k
  p1:7≤pK k
  p2:pK k≤16
  s:-(((1023+k:Nat):Int)-1086+lK k+3)=sK k
  s64:sK k<64
  s1:1≤sK k
  lo:aR (iK k)=0
  one:2^(63-k)*aH (iK k)=4*10^pK k*(18446744073709551616*2^sK k)
  ge:2*(18446744073709551616*2^sK k)≤1024*aH (iK k)
  le:1024*aH (iK k)≤20*(18446744073709551616*2^sK k)
instance (k:Nat):Decidable (aRa k) :=
  decidable_of_iff (-(((k:Int)-52)*78913 / 262144)=(iK k:Int)-348∧iK k=348+pK k∧7≤pK k∧pK k≤16∧-(((1023+k:Nat):Int)-1086+lK k+3)=sK k∧sK k<64∧1≤sK k∧aR (iK k)=0∧2^(63-k)*aH (iK k)=4*10^pK k*(18446744073709551616*2^sK k)∧2*(18446744073709551616*2^sK k)≤1024*aH (iK k)∧1024*aH (iK k)≤20*(18446744073709551616*2^sK k))
    ⟨fun⟨a,b,c,d,e,f,f1,g,h,i,j⟩=>⟨a,b,c,d,e,f,f1,g,h,i,j⟩,fun⟨a,b,c,d,e,f,f1,g,h,i,j⟩=>⟨a,b,c,d,e,f,f1,g,h,i,j⟩⟩
open Go.RowKit
theorem tK (c:UInt8)(b:List UInt8):∀a:List UInt8,(∀x∈a,x≠c)→Lib.index (a++c :: b) [c]=a.length
  | [],_=>by simp[Lib.index,List.isPrefixOf]
  | x :: a,h=>by
    have hx:(c==x)=false:=by rw[beq_eq_false_iff_ne];exact fun e=>h x (by simp) e.symm
    have ih:=tK c b a (fun y hy=>h y (by simp[hy]));rw[List.cons_append,Lib.index];simp only[List.isPrefixOf,hx,Bool.false_and,Bool.false_eq_true,if_false,ih];rw[if_neg (by simp)];simp
theorem aBn (c:UInt8):∀a:List UInt8,(∀x∈a,x≠c)→Lib.index a [c]=-1
  | [],_=>by simp[Lib.index]
  | x :: a,h=>by
    have hx:(c==x)=false:=by rw[beq_eq_false_iff_ne];exact fun e=>h x (by simp) e.symm
    have ih:=aBn c a (fun y hy=>h y (by simp[hy]));rw[Lib.index];simp[List.isPrefixOf,hx,ih]
theorem aII (c:UInt8)(a b:List UInt8)(h:∀x∈a,x≠c):Lib.cut (a++c :: b) [c]=(a,b,true):=by
  unfold Lib.cut;rw[tK c b a h,if_pos (by omega)];simp
def bV (D:List UInt8):List UInt8:=D.take 1++(if 1<D.length then 46 :: D.drop 1 else [])
theorem aDx (D:List UInt8)(h1:1≤D.length)(hd:∀x∈D,aE x=true):Lib.replace (bV D) [46] [] 1=D:=by
  have nd:∀x∈D,x≠46:=by
    rintro x hx rfl;exact absurd (hd 46 hx) (by decide)
  unfold Lib.replace;rw[if_neg (by decide)];cases D with
  | nil=>simp at h1
  | cons d D =>
    cases D with
    | nil =>
      have e:bV [d]=[d]:=rfl;rw[e];unfold Lib.replaceNum;rw[Lib.count_miss (aBn 46 [d] (fun x hx=>nd x hx)),if_pos (.inr (by decide))];rfl
    | cons f D =>
      have e:bV (d :: f :: D)=[d]++46 :: f :: D:=by unfold bV;simp
      have hi:Lib.index ([d]++46 :: f :: D) [46]=(1:Nat):=tK 46 (f :: D) [d] (fun x hx=>nd x (by simp at hx;simp[hx]));rw[e];unfold Lib.replaceNum;rw[if_neg (by rw[Lib.count_hit (by decide) hi];omega)];show Lib.replaceK [46] [] (0+1) _=_;rw[Lib.replaceK_hit _ _ _ _ 1 hi];rfl
theorem aFD:((List.range 1000).all fun n=>Lib.decNat (cG n)==some n)=true:=by kernel_rfl
theorem aNz (n:Nat)(h:n<1000):Lib.decNat (cG n)=some n:=by
  have:=List.all_eq_true.1 aFD n (List.mem_range.2 h);simpa using this
theorem aNy (n:Nat):(cG n).length≤3:=by
  unfold cG;split
  · simp
  · split<;>simp
theorem aLo (x:Int)(h0:-1000<x)(h1:x<1000):Lib.atoi ((if x<0 then 45 else 43) :: cG x.natAbs)=some x:=by
  have e:=aNz x.natAbs (by omega);by_cases h:x<0
  · rw[if_pos h]
    show(Lib.decNat (cG x.natAbs)).map (fun m:Nat=>-(m:Int))=some x;rw[e];show some (-(x.natAbs:Int))=some x;congr 1;omega
  · rw[if_neg h]
    show(Lib.decNat (cG x.natAbs)).map (fun m:Nat=>(m:Int))=some x;rw[e];show some (x.natAbs:Int)=some x;congr 1;omega
theorem aEP (D:List UInt8)(x:Int)(h1:1≤D.length)(h2:D.length≤100)(hd:∀c∈D,aE c=true)(x0:-1000<x)(x1:x<1000) :
    lG (eN D x) D x (bV D) ((if x<0 then 45 else 43) :: cG x.natAbs):=by
  have pl:(bV D).length≤102:=by
    unfold bV;split
    · simp;omega
    · simp;omega
  have el:=aNy x.natAbs;have e:eN D x=bV D++101 :: ((if x<0 then 45 else 43) :: cG x.natAbs):=by
    unfold eN bV;simp
  refine⟨?_,aLo x x0 x1,aDx D h1 hd,?_,?_,by omega,?_,by omega,by omega⟩
  · rw[e]
    refine aII 101 _ _ ?_;rintro y hy rfl;unfold bV at hy;rcases List.mem_append.1 hy with hy|hy
    · exact absurd (hd _ (List.mem_of_mem_take hy)) (by decide)
    · split at hy
      · rcases List.mem_cons.1 hy with hy|hy
        · exact absurd hy (by decide)
        · exact absurd (hd _ (List.mem_of_mem_drop hy)) (by decide)
      · cases hy
  · rw[e,List.length_append,List.length_cons,List.length_cons];omega
  · rw[List.length_cons];omega
  · show Lib.count (bV D) [46]≤1000
    have:=Lib.count_le (bV D) [46];omega
theorem aCJ (n:Nat)(h:1≤n):∀j,Lib.decDigits (n*10^j)=Lib.decDigits n++List.replicate j 48
  | 0=>by simp
  | j+1=>by
    have hp:1≤10^j:=Nat.pow_pos (by decide);have e:n*10^(j+1)=n*10^j*10:=by rw[Nat.pow_succ,Nat.mul_assoc]
    have hge:1≤n*10^j:=Nat.mul_pos h hp;rw[e,Lib.decDigits,dif_neg (by omega),Nat.mul_div_cancel _ (by decide),Nat.mul_mod_left,aCJ n h j,List.replicate_succ',List.append_assoc];rfl
theorem aCK (r:Nat)(h:r<10):aE (UInt8.ofNat (48+r))=true:=by
  have:((List.range 10).all fun r=>aE (UInt8.ofNat (48+r)))=true:=by decide
  exact List.all_eq_true.1 this r (List.mem_range.2 h)
theorem lM (n:Nat):∀c∈Lib.decDigits n,aE c=true:=by
  induction n using Nat.strongRecOn with
  | ind n ih =>
    rw[Lib.decDigits];split
    · intro c hc
      rw[List.mem_singleton.1 hc];exact aCK _ ‹_›
    · intro c hc
      rcases List.mem_append.1 hc with hc|hc
      · exact ih _ (by omega) c hc
      · rw[List.mem_singleton.1 hc]
        exact aCK _ (by omega)
theorem aFm (l:List UInt8):∀j,bN (l++List.replicate j 48)=bN l
  | 0=>by simp
  | j+1=>by
    rw[List.replicate_succ',←List.append_assoc,lT,if_pos rfl,aFm l j]
theorem aH8 (l:List UInt8):l.take (bN l)++List.replicate (l.length-bN l) 48=l:=by
  induction l using gS with
  | h0=>rfl
  | h1 l a ih =>
    rw[lT];by_cases h:a=48
    · rw[if_pos h]
      have hle:=iU l;rw[List.take_append_of_le_length hle,List.length_append,List.length_singleton,show l.length+1-bN l=l.length-bN l+1 by omega,List.replicate_succ',←List.append_assoc,ih,h]
    · rw[if_neg h,List.take_of_length_le (by simp)]
      simp
def cJ (n:Nat):List UInt8:=(Lib.decDigits n).take (bN (Lib.decDigits n))
theorem aHc (n j:Nat)(h:1≤n):(Lib.decDigits (n*10^j)).take (bN (Lib.decDigits (n*10^j)))=cJ n:=by
  rw[aCJ n h j,aFm];exact List.take_append_of_le_length (iU _)
theorem aCI (n:Nat):cJ n++List.replicate (Lib.nDigits n-(cJ n).length) 48=Lib.decDigits n:=by
  have e:(cJ n).length=bN (Lib.decDigits n):=by
    unfold cJ;rw[List.length_take];have:=iU (Lib.decDigits n);omega
  rw[e,←Lib.decDigits_length];exact aH8 _
theorem aAs (n:Nat)(h:1≤n):1≤(cJ n).length∧(cJ n).length≤Lib.nDigits n:=by
  have e:(cJ n).length=bN (Lib.decDigits n):=by
    unfold cJ;rw[List.length_take];have:=iU (Lib.decDigits n);omega
  rw[e];refine⟨wB n h,?_⟩;have:=iU (Lib.decDigits n);rwa[Lib.decDigits_length]at this
theorem aAr (n:Nat):∀c∈cJ n,aE c=true:=fun c hc=>lM n c (List.mem_of_mem_take hc)
open Go.RowKit
theorem aP8 (i:Nat)(hi:i<696):9223372036854775808≤aH i∧aH i≤18446744073709547521:=by
  obtain⟨r1,r2,r3,r4,r5,r6⟩:=uP i hi;obtain⟨b1,b2⟩:=aBL i hi;have hD:=vZ i;have epm:pmN i+aR i=aH i*18446744073709551616:=by
    unfold pmN;have:1*18446744073709551616≤aH i*18446744073709551616:=Nat.mul_le_mul_right _ r3;omega
  have hpm:pmN i≤340282366920938387905510881517444792320:=by
    refine Nat.le_of_not_lt fun h=>?_
    have:=Nat.mul_le_mul_right (dM i) (show 340282366920938387905510881517444792320+1≤pmN i from h);rw[Nat.add_mul,Nat.one_mul]at this
    omega
  omega
theorem aMD (x h l s hi:Nat)(hh:x*h / 18446744073709551616=hi)(h1:1≤hi)(h2:hi<18446744073709551616):(hi-1) / 2^s≤cF x h l s∧cF x h l s≤hi / 2^s+1:=by
  unfold cF;simp only[];rw[hh];have m1:(hi-1) / 2^s≤hi / 2^s:=Nat.div_le_div_right (by omega);split
  · have:=vP (hi / 2^s) 1 (by omega)
    omega
  · split
    · rw[show(hi+18446744073709551615)%18446744073709551616=hi-1 by omega]
      have:=vP ((hi-1) / 2^s) (if 1<(x*h%18446744073709551616+18446744073709551616-x*l / 18446744073709551616)%18446744073709551616 then 1 else 0) (by split<;>omega);omega
    · have:=vP (hi / 2^s) (if 1<(x*h%18446744073709551616+18446744073709551616-x*l / 18446744073709551616)%18446744073709551616 then 1 else 0) (by split<;>omega)
      omega
theorem aBB (d i b s u:Nat)(hi:i<696)(hb1:1≤b)(h1:2^(b-1)≤d)(h2:d<2^b)(hb:b≤64)(hs:fA b i=s)(hu:cF (d*2^(64-b)) (aH i) (aR i) s=u) :
    u<72057594037927936∧aZ (bO u)<9007199254740992∧(4503599627370496≤aZ (bO u)∨bM b i+gK u=0):=by
  have hx2:d*2^(64-b)<18446744073709551616:=by
    have:d*2^(64-b)<2^b*2^(64-b):=Nat.mul_lt_mul_of_pos_right h2 (Nat.two_pow_pos _);rw[←Nat.pow_add,show b+(64-b)=64 by omega]at this
    exact this
  have hx1:9223372036854775808≤d*2^(64-b):=by
    have:2^(b-1)*2^(64-b)≤d*2^(64-b):=Nat.mul_le_mul_right _ h1;rw[←Nat.pow_add,show b-1+(64-b)=63 by omega]at this
    exact this
  obtain⟨r1,r2⟩:=aP8 i hi;obtain⟨x,hx⟩:∃x,d*2^(64-b)=x:=⟨_,rfl⟩
  rw[hx]at hx1 hx2 hu
  obtain⟨H,hH⟩:∃H,x*aH i / 18446744073709551616=H:=⟨_,rfl⟩
  have H1:4611686018427387904≤H:=by
    rw[←hH,Nat.le_div_iff_mul_le (by decide)];have:=Nat.mul_le_mul hx1 r1;omega
  have H2:H≤18446744073709547521:=by
    rw[←hH];refine Nat.div_le_of_le_mul ?_;have:=Nat.mul_le_mul (show x≤18446744073709551616 by omega) r2;omega
  obtain⟨n1,n2⟩:=aMD x (aH i) (aR i) s H hH (by omega) (by omega);rw[hu]at n1 n2
  have s8:8≤s:=by unfold fA at hs;omega
  have e8:(2:Nat)^8=256:=by decide
  have n3:H / 2^s≤H / 256:=by
    rw[←e8];exact Nat.div_le_div_left (Nat.pow_le_pow_right (by decide) s8) (by decide)
  have u1:u≤72057594037927921:=by omega
  refine⟨by omega,?_,?_⟩
  · by_cases c:36028797018963966≤u
    · have:bO u≤u / 2+1:=by
        unfold bO;rw[if_pos c];have:=vP (u / 2) (u%2) (by omega);omega
      unfold aZ;omega
    · have:bO u=u:=by unfold bO;rw[if_neg c]
      rw[this];unfold aZ;omega
  · by_cases hk:bM b i=0
    · by_cases c:36028797018963966≤u
      · left
        have:u / 2≤bO u:=by
          unfold bO;rw[if_pos c];exact Nat.left_le_or
        have h3:bO u=18014398509481983∨18014398509481984≤bO u:=by omega
        unfold aZ;rcases h3 with h|h
        · rw[h];decide
        · omega
      · right
        rw[hk];unfold gK;rw[if_neg c]
    · left
      have hs8:s=8:=by unfold fA at hs;unfold bM at hk;omega
      rw[hs8,e8]at n1
      have h3:18014398509481983≤bO u:=by
        by_cases c:36028797018963966≤u
        · have:u / 2≤bO u:=by
            unfold bO;rw[if_pos c];exact Nat.left_le_or
          omega
        · have:bO u=u:=by unfold bO;rw[if_neg c]
          omega
      have h4:bO u=18014398509481983∨18014398509481984≤bO u:=by omega
      unfold aZ;rcases h4 with h|h
      · rw[h];decide
      · omega
def oD (d i:Nat):Nat × Value :=
  if 64≤fA (Lib.bitLen d) i then (0,.nilIface)
  else (mZ 0 (bM (Lib.bitLen d) i+gK (cF (d*2^(64-Lib.bitLen d)) (aH i) (aR i) (fA (Lib.bitLen d) i).toNat)) (aZ (bO (cF (d*2^(64-Lib.bitLen d)) (aH i) (aR i) (fA (Lib.bitLen d) i).toNat))),
    uH (bM (Lib.bitLen d) i+gK (cF (d*2^(64-Lib.bitLen d)) (aH i) (aR i) (fA (Lib.bitLen d) i).toNat)))
theorem aEK (d i S:Nat)(w:World)(T:aA w)(hS:fH S)(hd1:1≤d)(hd:d<18446744073709551616)(hi:i<696) :
    Calls Tryz.prog 245 #[.int .u64 d,.int .i64 ((i:Int)-348),.int .u64 S] w fun e' w'=>e'=.returned (.tuple #[.float .f64 (S+(oD d i).1),(oD d i).2])∧Below w.heap.size w w':=by
  obtain⟨b,hb,b1,b64,l1,l2⟩:=qV d hd1 hd;obtain⟨p1,p2⟩:=aDK i hi;have hlp:((i:Int)-348)*108853 / 32768=lpI i:=rfl;obtain⟨s,hs⟩:∃s:Nat,fA b i=s:=⟨(fA b i).toNat,by unfold fA;omega⟩
  have hs':-(min 1074 (53-(b:Int)-lpI i)-(64-(b:Int))+lpI i+3)=s:=hs;unfold oD;rw[hb,hs,Int.toNat_natCast];by_cases hfar:64≤s
  · rw[if_pos (by omega)]
    exact aBC d i b S s (lpI i) _ w T hS hd hb b64 hi hlp rfl hs' hfar
  · rw[if_neg (by omega)]
    obtain⟨u,hu⟩:∃u,cF (d*2^(64-b)) (aH i) (aR i) s=u:=⟨_,rfl⟩
    rw[hu];obtain⟨q1,q2,q3⟩:=aBB d i b s u hi b1 l1 l2 b64 hs hu;have hx2:d*2^(64-b)<18446744073709551616:=by
      have:d*2^(64-b)<2^b*2^(64-b):=Nat.mul_lt_mul_of_pos_right l2 (Nat.two_pow_pos _);rw[←Nat.pow_add,show b+(64-b)=64 by omega]at this
      exact this
    have hk:=aMS b i u;have hr4:fV (bO u)=aZ (bO u):=lQ _ (by have:=aCa u;omega);obtain⟨K,hK⟩:∃K,bM b i+gK u=K:=⟨_,rfl⟩
    obtain⟨m,hm⟩:∃m,aZ (bO u)=m:=⟨_,rfl⟩
    rw[hm]at q2 q3 hr4
    rw[hK]at q3 hk
    rw[hK,hm];have u63:u<9223372036854775808:=Nat.lt_trans q1 (by decide);have s64:s<64:=Nat.lt_of_not_le hfar;refine(aAe d i b S s u K m _ (lpI i) _ w T hS hd hb b64 hi hlp rfl hs' s64 rfl hx2 hu u63 hm hr4 q2 hk q3).mono ?_;rintro e w' ⟨hp,hB'⟩;refine⟨?_,hB'⟩;unfold pL mZ at hp;unfold mZ;rw[hp,Nat.zero_add]
open Go.RowKit
open Go.RowKit
def nW (v lo hi:Int):Value:=if v<lo∨hi<v then .tuple #[.int .i64 0,.bool false]else .tuple #[.int .i64 v,.bool true]
structure aGg (s:ByteArray) (v:Int):Prop where
  ne:1≤s.size
  le:s.size≤9
  dig:digs s.data.toList=s.size
  head:s.size=1∨∃h:0<s.size,((s[0].toNat:Int)==48)=false
  val:Lib.atoi s.data.toList=some v
  lo:0≤v
  hi:v≤999999999
theorem aIi (s:ByteArray)(v lo hi:Int)(w:World)(W:aGg s v) :
    Calls Tryz.prog 62 #[.string s,.int .i64 lo,.int .i64 hi] w fun e w'=>e=.returned (nW v lo hi)∧Below w.heap.size w w':=by
  obtain⟨n,hn⟩:∃n,s.size=n:=⟨_,rfl⟩
  have D:=fun w=>jI s n w (by unfold maxLen;have:=W.le;omega) (by rw[W.dig,hn])
  have hs:s=⟨s.data.toList.toArray⟩:=rfl;have AT:=fun w=>aGj s.data.toList v w W.val (by rw[←aS];have:=W.le;omega)
  rw[←hs]at AT
  have n1:=W.ne;have n9:=W.le;rw[hn]at n1 n9
  have hd:=W.head;have hne:((n:Int) !=s.size)=false:=bne_eq_false_iff_eq.2 (by omega);have v1:=W.lo;have v2:=W.hi;have HD:=hid D;have HAT:=hid AT;have hz:1≤s.size:=by omega
  have hz9:s.size≤9:=by omega
  have HN:=hid hn;clear D AT W hs;rcases hd with hd|⟨h0,hd⟩
  · have hnl:¬(1:Int)<n:=by omega
    have HH:=hid hd;clear hd hn;by_cases c1:v<lo
    · go_enter Tryz.func62,Tryz.ntmps62
      go_wp2_with (first
        | (go_at_call 112;((with_reducible refine(HD.out _).mono ?_);rintro e w' ⟨rfl,rfl⟩))
        | (go_at_call 113;((with_reducible refine(HAT.out _).mono ?_);rintro e w' ⟨rfl,B1⟩;have HB:=hid B1;clear B1)))
      go_ret2;exact⟨by unfold nW;rw[if_pos (.inl c1)];rfl,HB.out⟩
    · by_cases c2:hi<v
      · go_enter Tryz.func62,Tryz.ntmps62
        go_wp2_with (first
          | (go_at_call 112;((with_reducible refine(HD.out _).mono ?_);rintro e w' ⟨rfl,rfl⟩))
          | (go_at_call 113;((with_reducible refine(HAT.out _).mono ?_);rintro e w' ⟨rfl,B1⟩;have HB:=hid B1;clear B1)))
        go_ret2;exact⟨by unfold nW;rw[if_pos (.inr c2)];rfl,HB.out⟩
      · go_enter Tryz.func62,Tryz.ntmps62
        go_wp2_with (first
          | (go_at_call 112;((with_reducible refine(HD.out _).mono ?_);rintro e w' ⟨rfl,rfl⟩))
          | (go_at_call 113;((with_reducible refine(HAT.out _).mono ?_);rintro e w' ⟨rfl,B1⟩;have HB:=hid B1;clear B1)))
        go_ret2;exact⟨by unfold nW;rw[if_neg (by omega)];rfl,HB.out⟩
  · clear hn
    by_cases c1:v<lo
    · go_enter Tryz.func62,Tryz.ntmps62
      go_wp2_with (first
        | (go_at_call 112;((with_reducible refine(HD.out _).mono ?_);rintro e w' ⟨rfl,rfl⟩))
        | (go_at_call 113;((with_reducible refine(HAT.out _).mono ?_);rintro e w' ⟨rfl,B1⟩;have HB:=hid B1;clear B1)))
      all_goals go_ret2
      all_goals exact⟨by unfold nW;rw[if_pos (.inl c1)];rfl,HB.out⟩
    · by_cases c2:hi<v
      · go_enter Tryz.func62,Tryz.ntmps62
        go_wp2_with (first
          | (go_at_call 112;((with_reducible refine(HD.out _).mono ?_);rintro e w' ⟨rfl,rfl⟩))
          | (go_at_call 113;((with_reducible refine(HAT.out _).mono ?_);rintro e w' ⟨rfl,B1⟩;have HB:=hid B1;clear B1)))
        all_goals go_ret2
        all_goals exact⟨by unfold nW;rw[if_pos (.inr c2)];rfl,HB.out⟩
      · go_enter Tryz.func62,Tryz.ntmps62
        go_wp2_with (first
          | (go_at_call 112;((with_reducible refine(HD.out _).mono ?_);rintro e w' ⟨rfl,rfl⟩))
          | (go_at_call 113;((with_reducible refine(HAT.out _).mono ?_);rintro e w' ⟨rfl,B1⟩;have HB:=hid B1;clear B1)))
        all_goals go_ret2
        all_goals exact⟨by unfold nW;rw[if_neg (by omega)];rfl,HB.out⟩
open Go.RowKit
open Go.RowKit
theorem tF (s:ByteArray)(lo hi:Int)(w:World)(hm:s.size≤maxLen)(n:Nat)(hn:digs s.data.toList=n)
    (h:n<1∨9<n∨((1≤n∧n≤9)∧n≠s.size)∨((1<n∧n≤9)∧n=s.size∧∃h:0<s.size,s[0].toNat=48)) :
    Calls Tryz.prog 62 #[.string s,.int .i64 lo,.int .i64 hi] w fun e w'=>e=.returned (.tuple #[.int .i64 0,.bool false])∧w=w':=by
  have D:=fun w=>jI s n w hm hn
  have HD:=hid D;clear D hn;rcases h with h|h|⟨⟨h1,h9⟩,h⟩|⟨⟨h1,h9⟩,h,h0,h48⟩
  · as_aux_lemma =>
      go_enter Tryz.func62,Tryz.ntmps62
      go_wp2_with (go_at_call 112;(with_reducible refine(HD.out _).mono ?_);rintro e w' ⟨rfl,rfl⟩)
      go_ret2;exact⟨rfl,rfl⟩
  · have h':¬n<1:=by omega
    as_aux_lemma =>
      go_enter Tryz.func62,Tryz.ntmps62
      go_wp2_with (go_at_call 112;(with_reducible refine(HD.out _).mono ?_);rintro e w' ⟨rfl,rfl⟩)
      go_ret2;exact⟨rfl,rfl⟩
  · have hne:((n:Int) !=s.size)=true:=bne_iff_ne.2 (by omega)
    have HH:=hid h;clear h;as_aux_lemma =>
      go_enter Tryz.func62,Tryz.ntmps62
      go_wp2_with (go_at_call 112;(with_reducible refine(HD.out _).mono ?_);rintro e w' ⟨rfl,rfl⟩)
      go_ret2;exact⟨rfl,rfl⟩
  · have hne:((n:Int) !=s.size)=false:=bne_eq_false_iff_eq.2 (by omega)
    have e0:((s[0].toNat:Int)==48)=true:=by simp[h48]
    have HH:=hid h;clear h;as_aux_lemma =>
      go_enter Tryz.func62,Tryz.ntmps62
      go_wp2_with (go_at_call 112;(with_reducible refine(HD.out _).mono ?_);rintro e w' ⟨rfl,rfl⟩)
      go_ret2;exact⟨rfl,rfl⟩
structure eJ (s:ByteArray) (lo hi:Int) (n:Int) (b:Bool):Prop where
  one:∀w,Calls Tryz.prog 62 #[.string s,.int .i64 lo,.int .i64 hi] w fun e w'=>e=.returned (.tuple #[.int .i64 n,.bool b])∧Below w.heap.size w w'
  dg:b=true→digs s.data.toList=s.size∧s.size≤9
  two:∀w,Calls Tryz.prog 94 #[.string s,.int .i64 lo,.int .i64 hi] w fun e w'=>e=.returned (.tuple #[.int .i64 n,.bool b])∧w=w'
theorem pH {f:Nat}{args:Array Value}{w:World}{v:Value}(h:Calls Tryz.prog f args w fun e w'=>e=.returned v∧w=w') :
    Calls Tryz.prog f args w fun e w'=>e=.returned v∧Below w.heap.size w w' :=
  h.mono fun _ _ ⟨a,b⟩=>⟨a,b▸Below.refl _ _⟩
theorem aIh (s:ByteArray)(h1:1≤s.size)(h9:s.size≤9)(hd:digs s.data.toList=s.size)(h0:s.size=1∨∃h:0<s.size,((s[0].toNat:Int)==48)=false) :
    ∃m:Nat,Lib.decFrom 0 s.data.toList=some m∧aGg s m:=by
  obtain⟨m,h2,h3⟩:=yW s.data.toList s.size (by omega);rw[List.take_of_length_le (by simp)]at h2
  have hp:10^s.size≤10^9:=Nat.pow_le_pow_right (by omega) h9;have p9:(10:Nat)^9=1000000000:=by decide
  have hm9:m≤999999999:=by
    generalize 10^s.size=t at h3 hp;omega
  refine⟨m,h2,⟨h1,h9,hd,h0,?_,by omega,by omega⟩⟩;obtain⟨c,l,e⟩:∃c l,s.data.toList=c :: l:=by
    cases e:s.data.toList with
    | nil => have : s.data.toList.length = 0 := by rw [e]; rfl
             have e2 : s.data.toList.length = s.size := by simp
             omega
    | cons c l=>exact⟨c,l,rfl⟩
  have hc:aE c=true:=by
    have:=rW s.data.toList 0 (by rw[e];simp) (by omega);simpa [e]using this
  obtain⟨c1,c2⟩:=qJ c hc;rw[e]at h2 ⊢
  unfold Lib.atoi;have n1:(c==45)=false:=by
    rw[beq_eq_false_iff_ne];rintro rfl;revert c1;decide
  have n2:(c==43)=false:=by
    rw[beq_eq_false_iff_ne];rintro rfl;revert c1;decide
  simp only[n1,n2,Bool.false_eq_true,if_false];unfold Lib.decNat;rw[if_neg (by simp),h2];rfl
theorem aFr (s:ByteArray)(lo hi:Int)(hm:s.size≤maxLen):∃n b,eJ s lo hi n b:=by
  have hle:digs s.data.toList≤s.size:=by have:=jC s.data.toList;simpa using this
  by_cases h0:s.size=0
  · exact⟨0,false,fun w=>pH (tF s lo hi w hm _ rfl (.inl (by omega))),(fun h=>by cases h),fun w=>xY s lo hi w (.inl h0)⟩
  · by_cases h9:9<s.size
    · refine⟨0,false,fun w=>pH (tF s lo hi w hm _ rfl ?_),(fun h=>by cases h),fun w=>xY s lo hi w (.inr h9)⟩
      by_cases c1:digs s.data.toList<1
      · exact .inl c1
      · by_cases c2:9<digs s.data.toList
        · exact .inr (.inl c2)
        · exact .inr (.inr (.inl ⟨⟨by omega,by omega⟩,by omega⟩))
    · by_cases hn:1<s.size∧(s[0]'(by omega)).toNat=48
      · refine⟨0,false,fun w=>pH (tF s lo hi w hm _ rfl ?_),(fun h=>by cases h),fun w=>aBH s lo hi w hn.1 (by omega) hn.2⟩
        by_cases c1:digs s.data.toList<1
        · exact .inl c1
        · by_cases c2:digs s.data.toList=s.size
          · exact .inr (.inr (.inr ⟨⟨by omega,by omega⟩,c2,by omega,hn.2⟩))
          · exact .inr (.inr (.inl ⟨⟨by omega,by omega⟩,c2⟩))
      · have hh:s.size=1∨∃h:0<s.size,((s[0].toNat:Int)==48)=false:=by
          by_cases c:s.size=1
          · exact .inl c
          · refine .inr ⟨by omega,beq_eq_false_iff_ne.2 fun e=>hn ⟨by omega,by omega⟩⟩
        have R:=fun w=>aBG s lo hi w (by omega) (by omega) hh
        by_cases hd:digs s.data.toList=s.size
        · obtain⟨m,h2,h3⟩:=aIh s (by omega) (by omega) hd hh
          have S:=fun w=>aIi s m lo hi w h3
          rw[if_pos hd,h2,show(some m).get! = m from rfl]at R
          by_cases hb:(m:Int)<lo∨hi<(m:Int)
          · refine⟨0,false,fun w=>?_,(fun h=>by cases h),fun w=>?_⟩
            · have:=S w
              unfold nW at this;rwa[if_pos hb]at this
            · have:=R w
              unfold rI at this;rwa[if_pos hb]at this
          · refine⟨m,true,fun w=>?_,(fun _=>⟨hd,by omega⟩),fun w=>?_⟩
            · have:=S w
              unfold nW at this;rwa[if_neg hb]at this
            · have:=R w
              unfold rI at this;rwa[if_neg hb]at this
        · rw[if_neg hd]at R
          refine⟨0,false,fun w=>pH (tF s lo hi w hm _ rfl ?_),(fun h=>by cases h),R⟩;by_cases c1:digs s.data.toList<1
          · exact .inl c1
          · exact .inr (.inr (.inl ⟨⟨by omega,by omega⟩,hd⟩))
end Go.Proofs.YtcfgbdhpcboikaaGreatDoor
