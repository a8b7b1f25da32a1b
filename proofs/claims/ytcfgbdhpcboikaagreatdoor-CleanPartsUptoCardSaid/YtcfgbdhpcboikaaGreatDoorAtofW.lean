/-
  internal/strconv.parseFloat64 and atof64: the nearest float of a numeral whose digits are few.
  The shortest digits of a whole number below 10^9 are its own. No program in sight.
  A float's text in the form 'e' falls into its digits and its exponent. No program in sight.
  The digits of a whole number, its closing noughts put aside and put back. No program in sight.
  parseFloat64 at any digits of 64 bits: what it gives is a function of them.
-/
import Derived.Test.YtcfgbdhpcboikaaGreatDoorNearT
import Derived.Test.YtcfgbdhpcboikaaGreatDoorShortB
import Derived.Test.YtcfgbdhpcboikaaGreatDoorShortT
import Derived.Test.YtcfgbdhpcboikaaGreatDoorFmtF
import Derived.Test.YtcfgbdhpcboikaaGreatDoorLookX
import Derived.Test.YtcfgbdhpcboikaaGreatDoorCmp
namespace Go.Proofs.YtcfgbdhpcboikaaGreatDoor
set_option maxHeartbeats 2000000
set_option maxRecDepth 100000
open Go.RowKit
theorem bit_len (d:Nat)(h1:1≤d)(h2:d<18446744073709551616):∃ b,Lib.bitLen d=b∧1≤b∧b≤64∧2^(b-1)≤d∧d<2^b:=by
 obtain⟨g1,g2,g3⟩:=Lib.bitLenAux_bounds 64 d (by omega) (by omega)
 have e1:Lib.bitLen d=Lib.bitLenAux 64 d:=rfl
 rw[e1]
 generalize Lib.bitLenAux 64 d=L at *
 refine⟨L,rfl,?_,?_,by omega,by omega⟩
 ·refine Nat.pos_of_ne_zero fun h=>?_
  subst h
  simp at g2
  omega
 ·refine Nat.le_of_not_lt fun h=>?_
  have:2^64≤2^(L-1):=Nat.pow_le_pow_right (by decide) (by omega)
  have e64:(2:Nat)^64=18446744073709551616:=by decide
  omega
theorem lp_bd (i:Nat)(hi:i<696):-1200≤lpI i∧lpI i≤1200:=by unfold lpI;omega
theorem par_k (b i u:Nat):(((parK b i+cutK u:Nat):Int)-1074)=-(min 1074 (53-(b:Int)-lpI i)-cutK u):=by
 unfold parK
 generalize cutK u=c
 generalize lpI i=l
 omega
theorem packed_is (S K m r:Nat)(e:Ending)(hp:Packed S K m e)(er:min (K*4503599627370496+m) infR=r)(hrI:r<infR)(h:4503599627370496≤m∨K=0):e=.returned (.tuple #[.float .f64 (S+r),.nilIface]):=by
 have ei:infR=9218868437227405312:=rfl
 rw[ei] at er hrI
 unfold Packed packBits packErr at hp
 rw[er] at hp
 rw[hp,if_neg]
 omega
theorem parseF_rn (d i r S:Nat)(w:World)(T:Tabs w)(hS:IsSign S)(hd1:1≤d)(hd:d<18446744073709551616)(hi:i<696)(hg:d<144115188075855872∨(348≤i∧i≤375))(hr:IsRN (tenA d i) (tenB i) r)(hrI:r<infR) :
  Calls Tryz.prog 245 #[.int .u64 d,.int .i64 ((i:Int)-348),.int .u64 S] w fun e' w'=>e'=.returned (.tuple #[.float .f64 (S+r),.nilIface])∧Below w.heap.size w w':=by
 obtain⟨b,hb,b1,b64,l1,l2⟩:=bit_len d hd1 hd
 have hB:=tenB_pos i
 obtain⟨p1,p2⟩:=lp_bd i hi
 have hlp:((i:Int)-348)*108853 / 32768=lpI i:=rfl
 obtain⟨s,hs⟩:∃ s:Nat,parS b i=s:=⟨(parS b i).toNat,by unfold parS;omega⟩
 have hs':-(min 1074 (53-(b:Int)-lpI i)-(64-(b:Int))+lpI i+3)=s:=hs
 by_cases hfar:64≤s
 ·have h0:=parse_rn0 d i b hi l2 (by omega)
  have:r=0:=rn_uniq _ _ _ _ hB hr h0
  subst this
  exact parseF_far d i b S s (lpI i) _ w T hS hd hb b64 hi hlp rfl hs' hfar
 ·have hb57:b≤57∨(348≤i∧i≤375):=by
   rcases hg with h|h
   ·left
    refine Nat.le_of_not_lt fun hh=>?_
    have:2^57≤2^(b-1):=Nat.pow_le_pow_right (by decide) (by omega)
    have e57:(2:Nat)^57=144115188075855872:=by decide
    omega
   ·exact .inr h
  have hN:=near_digits d i b s hi hd1 l2 b64 hs hb57
  obtain⟨u,hu⟩:∃ u,uscN (d*2^(64-b)) (p10hi i) (p10lo i) s=u:=⟨_,rfl⟩
  obtain⟨q1,q2,q3,q4⟩:=parse_rn d i b hi b1 l1 l2 b64 s hs hN u hu
  have hx2:d*2^(64-b)<18446744073709551616:=by
   have:d*2^(64-b)<2^b*2^(64-b):=Nat.mul_lt_mul_of_pos_right l2 (Nat.two_pow_pos _)
   rw[← Nat.pow_add,show b+(64-b)=64 by omega] at this
   exact this
  have hk:(((parK b i+cutK u:Nat):Int)-1074)=-(min 1074 (53-(b:Int)-lpI i)-cutK u):=par_k b i u
  have hr4:roundN (cutU u)=round4 (cutU u):=round_same _ (by have:=cutU_le u;omega)
  obtain⟨K,hK⟩:∃ K,parK b i+cutK u=K:=⟨_,rfl⟩
  obtain⟨m,hm⟩:∃ m,round4 (cutU u)=m:=⟨_,rfl⟩
  rw[hm] at q2 q3 q4 hr4
  rw[hK] at q3 q4 hk
  have er:=rn_uniq _ _ _ _ hB q4 hr
  have u63:u<9223372036854775808:=Nat.lt_trans q1 (by decide)
  have s64:s<64:=Nat.lt_of_not_le hfar
  refine(parseF_near d i b S s u K m _ (lpI i) _ w T hS hd hb b64 hi hlp rfl hs' s64 rfl hx2 hu u63 hm hr4 q2 hk q3).mono ?_
  rintro e w' ⟨hp,hB'⟩
  exact⟨packed_is S K m r e hp er hrI q3,hB'⟩
theorem atof_rn (s:ByteArray)(m i r:Nat)(neg:Bool)(w:World)(T:Tabs w)(hm:1≤m)(hm2:m<18446744073709551616)(i1:3≤i)(i2:i≤658)(hg:m<144115188075855872∨(348≤i∧i≤375))(hr:IsRN (tenA m i) (tenB i) r)(hrI:r<infR)
  (SP:∀ w,Calls Tryz.prog 233 #[.string s] w fun e w'=>e=.returned (.tuple #[.float .f64 0,.int .i64 0,.bool false])∧w=w')
  (RD:∀ w,Calls Tryz.prog 234 #[.string s] w fun e w'=>e=.returned (.tuple #[.int .u64 m,.int .i64 ((i:Int)-348),.bool neg,.bool false,.bool false,.int .i64 s.size,.bool true])∧w=w') :
  Calls Tryz.prog 205 #[.string s] w fun e w'=>e=.returned (.tuple #[.float .f64 (sgn neg+r),.int .i64 s.size,.nilIface])∧Below w.heap.size w w':=by
 have h3:=T.opt
 have hm0:((m:Int)==0)=false:=beq_eq_false_iff_ne.2 (by omega)
 have EX:∀ w,Tabs w→Calls Tryz.prog 244 #[.int .u64 m,.int .i64 ((i:Int)-348),.bool neg] w fun e w'=>(e=.returned (.tuple #[.float .f64 (sgn neg+r),.bool true])∧w=w')∨NoFloat w e w':=by
  intro w T
  refine(exact_out m i neg w T (by omega) (by omega)).mono ?_
  rintro e w' (⟨r',h1,h2,rfl,rfl⟩|h)
  ·have:r'=r:=rn_uniq _ _ _ _ (tenB_pos i) h1 hr
   subst this
   exact .inl ⟨rfl,rfl⟩
  ·exact .inr h
 have PF:=fun w T=>parseF_rn m i r (sgn neg) w T (sgn_sign neg) hm hm2 (by omega) hg hr hrI
 have HSP:=Lib.hid SP
 have HRD:=Lib.hid RD
 have HEX:=Lib.hid EX
 have HPF:=Lib.hid PF
 have HT:=Lib.hid T
 clear SP RD EX PF T hr hrI
 cases neg
 all_goals
  go_enter Tryz.func205,Tryz.ntmps205
  go_wp2_with (first
   | (go_at_call 233;refine(HSP.out _).mono ?_;rintro e w' ⟨rfl,rfl⟩)
   | (go_at_call 234;refine(HRD.out _).mono ?_;rintro e w' ⟨rfl,rfl⟩)
   | (go_at_call 242;((with_reducible refine(bool2_u64_true _).mono ?_);rintro e w' ⟨rfl,rfl⟩))
   | (go_at_call 242;((with_reducible refine(bool2_u64_false _).mono ?_);rintro e w' ⟨rfl,rfl⟩)))
  refine(HEX.out _ HT.out).mono ?_
  rintro e w1 (⟨rfl,rfl⟩|⟨f,rfl,rfl⟩)
  ·go_wp2
   go_ret3
   exact⟨rfl,Below.refl _ _⟩
  ·go_wp2_with fail
   refine(HPF.out _ HT.out).mono ?_
   rintro e w2 ⟨rfl,B2⟩
   have HB2:=Lib.hid B2
   clear B2
   go_wp2
   go_ret3
   exact⟨rfl,HB2.out⟩
theorem or_bound (a b:Nat)(hb:b≤1):a≤a ||| b∧a ||| b≤a+1:=by
 refine⟨Nat.left_le_or,?_⟩
 have:b=0∨b=1:=by omega
 rcases this with rfl|rfl
 ·simp
 ·have h:=Nat.or_mod_two_pow (a:=a) (b:=1) (n:=1)
  have:a ||| 1=2*(a / 2)+1:=by
   have e:(a ||| 1) / 2=a / 2:=by
    have:=Nat.or_div_two_pow (a:=a) (b:=1) (n:=1)
    simpa using this
   have e2:(a ||| 1)%2=1:=by
    rw[show(2:Nat)=2^1 from rfl,Nat.or_mod_two_pow]
    have:a%2=0∨a%2=1:=by omega
    rcases this with h|h<;>rw[show(2:Nat)^1=2 from rfl,h]<;>decide
   omega
  omega
def iK (k:Nat):Nat:=(-(((k:Int)-52)*78913 / 262144)+348).toNat
def lK (k:Nat):Int:=((iK k:Int)-348)*108853 / 32768
def sK (k:Nat):Nat:=(60-(k:Int)-lK k).toNat
def pK (k:Nat):Nat:=iK k-348
structure ForK (k:Nat):Prop where
 p:-(((k:Int)-52)*78913 / 262144)=(iK k:Int)-348
 i:iK k=348+pK k
 p1:7≤pK k
 p2:pK k≤16
 s:-(((1023+k:Nat):Int)-1086+lK k+3)=sK k
 s64:sK k<64
 s1:1≤sK k
 lo:p10lo (iK k)=0
 one:2^(63-k)*p10hi (iK k)=4*10^pK k*(18446744073709551616*2^sK k)
 ge:2*(18446744073709551616*2^sK k)≤1024*p10hi (iK k)
 le:1024*p10hi (iK k)≤20*(18446744073709551616*2^sK k)
instance (k:Nat):Decidable (ForK k) :=
 decidable_of_iff (-(((k:Int)-52)*78913 / 262144)=(iK k:Int)-348∧iK k=348+pK k∧7≤pK k∧pK k≤16∧-(((1023+k:Nat):Int)-1086+lK k+3)=sK k∧sK k<64∧1≤sK k∧p10lo (iK k)=0∧2^(63-k)*p10hi (iK k)=4*10^pK k*(18446744073709551616*2^sK k)∧2*(18446744073709551616*2^sK k)≤1024*p10hi (iK k)∧1024*p10hi (iK k)≤20*(18446744073709551616*2^sK k))
  ⟨fun⟨a,b,c,d,e,f,f1,g,h,i,j⟩=>⟨a,b,c,d,e,f,f1,g,h,i,j⟩,fun⟨a,b,c,d,e,f,f1,g,h,i,j⟩=>⟨a,b,c,d,e,f,f1,g,h,i,j⟩⟩
theorem index_split (c:UInt8)(b:List UInt8):∀ a:List UInt8,(∀ x∈a,x≠c)→Lib.index (a++c :: b) [c]=a.length
 | [],_=>by simp[Lib.index,List.isPrefixOf]
 | x :: a,h=>by
  have hx:(c==x)=false:=by rw[beq_eq_false_iff_ne];exact fun e=>h x (by simp) e.symm
  have ih:=index_split c b a (fun y hy=>h y (by simp[hy]))
  rw[List.cons_append,Lib.index]
  simp only[List.isPrefixOf,hx,Bool.false_and,Bool.false_eq_true,if_false,ih]
  rw[if_neg (by simp)]
  simp
theorem index_miss (c:UInt8):∀ a:List UInt8,(∀ x∈a,x≠c)→Lib.index a [c]=-1
 | [],_=>by simp[Lib.index]
 | x :: a,h=>by
  have hx:(c==x)=false:=by rw[beq_eq_false_iff_ne];exact fun e=>h x (by simp) e.symm
  have ih:=index_miss c a (fun y hy=>h y (by simp[hy]))
  rw[Lib.index]
  simp[List.isPrefixOf,hx,ih]
theorem cut_split (c:UInt8)(a b:List UInt8)(h:∀ x∈a,x≠c):Lib.cut (a++c :: b) [c]=(a,b,true):=by
 unfold Lib.cut
 rw[index_split c b a h,if_pos (by omega)]
 simp
def pointed (D:List UInt8):List UInt8:=D.take 1++(if 1<D.length then 46 :: D.drop 1 else [])
theorem replace_point (D:List UInt8)(h1:1≤D.length)(hd:∀ x∈D,isDig x=true):Lib.replace (pointed D) [46] [] 1=D:=by
 have nd:∀ x∈D,x≠46:=by
  rintro x hx rfl
  exact absurd (hd 46 hx) (by decide)
 unfold Lib.replace
 rw[if_neg (by decide)]
 cases D with
 | nil=>simp at h1
 | cons d D =>
  cases D with
  | nil =>
   have e:pointed [d]=[d]:=rfl
   rw[e]
   unfold Lib.replaceNum
   rw[Lib.count_miss (index_miss 46 [d] (fun x hx=>nd x hx)),if_pos (.inr (by decide))]
   rfl
  | cons f D =>
   have e:pointed (d :: f :: D)=[d]++46 :: f :: D:=by unfold pointed;simp
   have hi:Lib.index ([d]++46 :: f :: D) [46]=(1:Nat):=index_split 46 (f :: D) [d] (fun x hx=>nd x (by simp at hx;simp[hx]))
   rw[e]
   unfold Lib.replaceNum
   rw[if_neg (by rw[Lib.count_hit (by decide) hi];omega)]
   show Lib.replaceK [46] [] (0+1) _=_
   rw[Lib.replaceK_hit _ _ _ _ 1 hi]
   rfl
theorem exp_num_all:((List.range 1000).all fun n=>Lib.decNat (expText n)==some n)=true:=by kernel_rfl
theorem exp_num (n:Nat)(h:n<1000):Lib.decNat (expText n)=some n:=by
 have:=List.all_eq_true.1 exp_num_all n (List.mem_range.2 h)
 simpa using this
theorem exp_len (n:Nat):(expText n).length≤3:=by
 unfold expText
 split
 ·simp
 ·split<;>simp
theorem exp_atoi (x:Int)(h0:-1000<x)(h1:x<1000):Lib.atoi ((if x<0 then 45 else 43) :: expText x.natAbs)=some x:=by
 have e:=exp_num x.natAbs (by omega)
 by_cases h:x<0
 ·rw[if_pos h]
  show(Lib.decNat (expText x.natAbs)).map (fun m:Nat=>-(m:Int))=some x
  rw[e]
  show some (-(x.natAbs:Int))=some x
  congr 1
  omega
 ·rw[if_neg h]
  show(Lib.decNat (expText x.natAbs)).map (fun m:Nat=>(m:Int))=some x
  rw[e]
  show some (x.natAbs:Int)=some x
  congr 1
  omega
theorem partsAt_text (D:List UInt8)(x:Int)(h1:1≤D.length)(h2:D.length≤100)(hd:∀ c∈D,isDig c=true)(x0:-1000<x)(x1:x<1000) :
  PartsAt (eText D x) D x (pointed D) ((if x<0 then 45 else 43) :: expText x.natAbs):=by
 have pl:(pointed D).length≤102:=by
  unfold pointed
  split
  ·simp;omega
  ·simp;omega
 have el:=exp_len x.natAbs
 have e:eText D x=pointed D++101 :: ((if x<0 then 45 else 43) :: expText x.natAbs):=by
  unfold eText pointed
  simp
 refine⟨?_,exp_atoi x x0 x1,replace_point D h1 hd,?_,?_,by omega,?_,by omega,by omega⟩
 ·rw[e]
  refine cut_split 101 _ _ ?_
  rintro y hy rfl
  unfold pointed at hy
  rcases List.mem_append.1 hy with hy|hy
  ·exact absurd (hd _ (List.mem_of_mem_take hy)) (by decide)
  ·split at hy
   ·rcases List.mem_cons.1 hy with hy|hy
    ·exact absurd hy (by decide)
    ·exact absurd (hd _ (List.mem_of_mem_drop hy)) (by decide)
   ·cases hy
 ·rw[e,List.length_append,List.length_cons,List.length_cons];omega
 ·rw[List.length_cons];omega
 ·show Lib.count (pointed D) [46]≤1000
  have:=Lib.count_le (pointed D) [46]
  omega
theorem dig_ofNat (r:Nat)(h:r<10):isDig (UInt8.ofNat (48+r))=true:=by
 have:((List.range 10).all fun r=>isDig (UInt8.ofNat (48+r)))=true:=by decide
 exact List.all_eq_true.1 this r (List.mem_range.2 h)
theorem dec_dig (n:Nat):∀ c∈Lib.decDigits n,isDig c=true:=by
 induction n using Nat.strongRecOn with
 | ind n ih =>
  rw[Lib.decDigits]
  split
  ·intro c hc
   rw[List.mem_singleton.1 hc]
   exact dig_ofNat _ ‹_›
  ·intro c hc
   rcases List.mem_append.1 hc with hc|hc
   ·exact ih _ (by omega) c hc
   ·rw[List.mem_singleton.1 hc]
    exact dig_ofNat _ (by omega)
theorem trim_split (l:List UInt8):l.take (trimN l)++List.replicate (l.length-trimN l) 48=l:=by
 induction l using snoc_ind with
 | h0=>rfl
 | h1 l a ih =>
  rw[trimN_snoc]
  by_cases h:a=48
  ·rw[if_pos h]
   have hle:=trimN_le l
   rw[List.take_append_of_le_length hle,List.length_append,List.length_singleton,show l.length+1-trimN l=l.length-trimN l+1 by omega,List.replicate_succ',← List.append_assoc,ih,h]
  ·rw[if_neg h,List.take_of_length_le (by simp)]
   simp
def coreD (n:Nat):List UInt8:=(Lib.decDigits n).take (trimN (Lib.decDigits n))
theorem core_back (n:Nat):coreD n++List.replicate (Lib.nDigits n-(coreD n).length) 48=Lib.decDigits n:=by
 have e:(coreD n).length=trimN (Lib.decDigits n):=by
  unfold coreD
  rw[List.length_take]
  have:=trimN_le (Lib.decDigits n)
  omega
 rw[e,← Lib.decDigits_length]
 exact trim_split _
theorem core_len (n:Nat)(h:1≤n):1≤(coreD n).length∧(coreD n).length≤Lib.nDigits n:=by
 have e:(coreD n).length=trimN (Lib.decDigits n):=by
  unfold coreD
  rw[List.length_take]
  have:=trimN_le (Lib.decDigits n)
  omega
 rw[e]
 refine⟨trim_pos n h,?_⟩
 have:=trimN_le (Lib.decDigits n)
 rwa[Lib.decDigits_length] at this
theorem core_dig (n:Nat):∀ c∈coreD n,isDig c=true:=fun c hc=>dec_dig n c (List.mem_of_mem_take hc)
open Go.RowKit
theorem row_hi (i:Nat)(hi:i<696):9223372036854775808≤p10hi i∧p10hi i≤18446744073709547521:=by
 obtain⟨r1,r2,r3,r4,r5,r6⟩:=row_ok i hi
 obtain⟨b1,b2⟩:=row_bd i hi
 have hD:=tenD_pos i
 have epm:pmN i+p10lo i=p10hi i*18446744073709551616:=by
  unfold pmN
  have:1*18446744073709551616≤p10hi i*18446744073709551616:=Nat.mul_le_mul_right _ r3
  omega
 have hpm:pmN i≤340282366920938387905510881517444792320:=by
  refine Nat.le_of_not_lt fun h=>?_
  have:=Nat.mul_le_mul_right (tenD i) (show 340282366920938387905510881517444792320+1≤pmN i from h)
  rw[Nat.add_mul,Nat.one_mul] at this
  omega
 omega
theorem usc_near (x h l s hi:Nat)(hh:x*h / 18446744073709551616=hi)(h1:1≤hi)(h2:hi<18446744073709551616):(hi-1) / 2^s≤uscN x h l s∧uscN x h l s≤hi / 2^s+1:=by
 unfold uscN
 simp only[]
 rw[hh]
 have m1:(hi-1) / 2^s≤hi / 2^s:=Nat.div_le_div_right (by omega)
 split
 ·have:=or_bound (hi / 2^s) 1 (by omega)
  omega
 ·split
  ·rw[show(hi+18446744073709551615)%18446744073709551616=hi-1 by omega]
   have:=or_bound ((hi-1) / 2^s) (if 1<(x*h%18446744073709551616+18446744073709551616-x*l / 18446744073709551616)%18446744073709551616 then 1 else 0) (by split<;>omega)
   omega
  ·have:=or_bound (hi / 2^s) (if 1<(x*h%18446744073709551616+18446744073709551616-x*l / 18446744073709551616)%18446744073709551616 then 1 else 0) (by split<;>omega)
   omega
theorem par_bounds (d i b s u:Nat)(hi:i<696)(hb1:1≤b)(h1:2^(b-1)≤d)(h2:d<2^b)(hb:b≤64)(hs:parS b i=s)(hu:uscN (d*2^(64-b)) (p10hi i) (p10lo i) s=u) :
  u<72057594037927936∧round4 (cutU u)<9007199254740992∧(4503599627370496≤round4 (cutU u)∨parK b i+cutK u=0):=by
 have hx2:d*2^(64-b)<18446744073709551616:=by
  have:d*2^(64-b)<2^b*2^(64-b):=Nat.mul_lt_mul_of_pos_right h2 (Nat.two_pow_pos _)
  rw[← Nat.pow_add,show b+(64-b)=64 by omega] at this
  exact this
 have hx1:9223372036854775808≤d*2^(64-b):=by
  have:2^(b-1)*2^(64-b)≤d*2^(64-b):=Nat.mul_le_mul_right _ h1
  rw[← Nat.pow_add,show b-1+(64-b)=63 by omega] at this
  exact this
 obtain⟨r1,r2⟩:=row_hi i hi
 obtain⟨x,hx⟩:∃ x,d*2^(64-b)=x:=⟨_,rfl⟩
 rw[hx] at hx1 hx2 hu
 obtain⟨H,hH⟩:∃ H,x*p10hi i / 18446744073709551616=H:=⟨_,rfl⟩
 have H1:4611686018427387904≤H:=by
  rw[← hH,Nat.le_div_iff_mul_le (by decide)]
  have:=Nat.mul_le_mul hx1 r1
  omega
 have H2:H≤18446744073709547521:=by
  rw[← hH]
  refine Nat.div_le_of_le_mul ?_
  have:=Nat.mul_le_mul (show x≤18446744073709551616 by omega) r2
  omega
 obtain⟨n1,n2⟩:=usc_near x (p10hi i) (p10lo i) s H hH (by omega) (by omega)
 rw[hu] at n1 n2
 have s8:8≤s:=by unfold parS at hs;omega
 have e8:(2:Nat)^8=256:=by decide
 have n3:H / 2^s≤H / 256:=by
  rw[← e8]
  exact Nat.div_le_div_left (Nat.pow_le_pow_right (by decide) s8) (by decide)
 have u1:u≤72057594037927921:=by omega
 refine⟨by omega,?_,?_⟩
 ·by_cases c:36028797018963966≤u
  ·have:cutU u≤u / 2+1:=by
    unfold cutU
    rw[if_pos c]
    have:=or_bound (u / 2) (u%2) (by omega)
    omega
   unfold round4
   omega
  ·have:cutU u=u:=by unfold cutU;rw[if_neg c]
   rw[this]
   unfold round4
   omega
 ·by_cases hk:parK b i=0
  ·by_cases c:36028797018963966≤u
   ·left
    have:u / 2≤cutU u:=by
     unfold cutU
     rw[if_pos c]
     exact Nat.left_le_or
    have h3:cutU u=18014398509481983∨18014398509481984≤cutU u:=by omega
    unfold round4
    rcases h3 with h|h
    ·rw[h];decide
    ·omega
   ·right
    rw[hk]
    unfold cutK
    rw[if_neg c]
  ·left
   have hs8:s=8:=by unfold parS at hs;unfold parK at hk;omega
   rw[hs8,e8] at n1
   have h3:18014398509481983≤cutU u:=by
    by_cases c:36028797018963966≤u
    ·have:u / 2≤cutU u:=by
      unfold cutU
      rw[if_pos c]
      exact Nat.left_le_or
     omega
    ·have:cutU u=u:=by unfold cutU;rw[if_neg c]
     omega
   have h4:cutU u=18014398509481983∨18014398509481984≤cutU u:=by omega
   unfold round4
   rcases h4 with h|h
   ·rw[h];decide
   ·omega
def parF (d i:Nat):Nat × Value :=
 if 64≤parS (Lib.bitLen d) i then (0,.nilIface)
 else (packBits 0 (parK (Lib.bitLen d) i+cutK (uscN (d*2^(64-Lib.bitLen d)) (p10hi i) (p10lo i) (parS (Lib.bitLen d) i).toNat)) (round4 (cutU (uscN (d*2^(64-Lib.bitLen d)) (p10hi i) (p10lo i) (parS (Lib.bitLen d) i).toNat))),
  packErr (parK (Lib.bitLen d) i+cutK (uscN (d*2^(64-Lib.bitLen d)) (p10hi i) (p10lo i) (parS (Lib.bitLen d) i).toNat)))
theorem parF_any (d i S:Nat)(w:World)(T:Tabs w)(hS:IsSign S)(hd1:1≤d)(hd:d<18446744073709551616)(hi:i<696) :
  Calls Tryz.prog 245 #[.int .u64 d,.int .i64 ((i:Int)-348),.int .u64 S] w fun e' w'=>e'=.returned (.tuple #[.float .f64 (S+(parF d i).1),(parF d i).2])∧Below w.heap.size w w':=by
 obtain⟨b,hb,b1,b64,l1,l2⟩:=bit_len d hd1 hd
 obtain⟨p1,p2⟩:=lp_bd i hi
 have hlp:((i:Int)-348)*108853 / 32768=lpI i:=rfl
 obtain⟨s,hs⟩:∃ s:Nat,parS b i=s:=⟨(parS b i).toNat,by unfold parS;omega⟩
 have hs':-(min 1074 (53-(b:Int)-lpI i)-(64-(b:Int))+lpI i+3)=s:=hs
 unfold parF
 rw[hb,hs,Int.toNat_natCast]
 by_cases hfar:64≤s
 ·rw[if_pos (by omega)]
  exact parseF_far d i b S s (lpI i) _ w T hS hd hb b64 hi hlp rfl hs' hfar
 ·rw[if_neg (by omega)]
  obtain⟨u,hu⟩:∃ u,uscN (d*2^(64-b)) (p10hi i) (p10lo i) s=u:=⟨_,rfl⟩
  rw[hu]
  obtain⟨q1,q2,q3⟩:=par_bounds d i b s u hi b1 l1 l2 b64 hs hu
  have hx2:d*2^(64-b)<18446744073709551616:=by
   have:d*2^(64-b)<2^b*2^(64-b):=Nat.mul_lt_mul_of_pos_right l2 (Nat.two_pow_pos _)
   rw[← Nat.pow_add,show b+(64-b)=64 by omega] at this
   exact this
  have hk:=par_k b i u
  have hr4:roundN (cutU u)=round4 (cutU u):=round_same _ (by have:=cutU_le u;omega)
  obtain⟨K,hK⟩:∃ K,parK b i+cutK u=K:=⟨_,rfl⟩
  obtain⟨m,hm⟩:∃ m,round4 (cutU u)=m:=⟨_,rfl⟩
  rw[hm] at q2 q3 hr4
  rw[hK] at q3 hk
  rw[hK,hm]
  have u63:u<9223372036854775808:=Nat.lt_trans q1 (by decide)
  have s64:s<64:=Nat.lt_of_not_le hfar
  refine(parseF_near d i b S s u K m _ (lpI i) _ w T hS hd hb b64 hi hlp rfl hs' s64 rfl hx2 hu u63 hm hr4 q2 hk q3).mono ?_
  rintro e w' ⟨hp,hB'⟩
  refine⟨?_,hB'⟩
  unfold Packed packBits at hp
  unfold packBits
  rw[hp,Nat.zero_add]
end Go.Proofs.YtcfgbdhpcboikaaGreatDoor
