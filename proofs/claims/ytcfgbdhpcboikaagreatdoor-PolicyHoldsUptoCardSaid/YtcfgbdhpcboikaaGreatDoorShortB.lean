/-
shortFloat at a normal float that is no power of two.
-/
import Derived.Test.YtcfgbdhpcboikaaGreatDoorUnr
namespace Go.Proofs.YtcfgbdhpcboikaaGreatDoor
open Go.Lib (hid)
set_option maxHeartbeats 4000000
set_option maxRecDepth 100000
open Go.RowKit
theorem mN {n:Nat}:n≤n:=Nat.le_refl n
def eQ (u:Nat)(d:Int):Nat:=(((u:Int)+d)%18446744073709551616).toNat
def qH (u:Nat):Nat:=(u+3)%18446744073709551616 / 4
def fV (u:Nat):Nat:=(u+1+u / 4%2)%18446744073709551616 / 4
def bG (dmin dmax dm:Nat)(p:Int):Nat × Int :=
 if dmin≤dmax / 10*10 then (dmax / 10,-(p-1))else if dmin<dmax then (dm,-p)else (dmin,-p)
theorem cH (x h l s:Nat)(hx:x<18446744073709551616)(hh:h<18446744073709551616)(_hl:l<18446744073709551616):cF x h l s<18446744073709551616:=by
 have b1:=sR x h hx hh;have two:(18446744073709551616:Nat)=2^64:=by decide
 unfold cF;simp only[];split
 ·rw[two];exact Nat.or_lt_two_pow (by rw[←two];exact nY _ _ b1) (by decide)
 ·rw[two];refine Nat.or_lt_two_pow (by rw[←two];exact nY _ _ (by split<;>omega)) (by split<;>decide)
theorem kU (u a:Nat)(d:Int)(w:World)(hu:u<18446744073709551616)(h:eQ u d=a):Calls Tryz.prog 283 #[.int .u64 u,.int .i64 d] w fun e w'=>e=.returned (.int .u64 a)∧w=w':=by
 subst h;exact aJB u d w hu
theorem zE (u a:Nat)(w:World)(hu:u<18446744073709551616)(h:qH u=a):Calls Tryz.prog 284 #[.int .u64 u] w fun e w'=>e=.returned (.int .u64 a)∧w=w':=by
 subst h;exact aK9 u w hu
theorem vH (u a:Nat)(w:World)(hu:u<18446744073709551616)(h:u / 4=a):Calls Tryz.prog 285 #[.int .u64 u] w fun e w'=>e=.returned (.int .u64 a)∧w=w':=by
 subst h;exact aI5 u w hu
theorem nA (u a:Nat)(w:World)(hu:u<18446744073709551616)(h:fV u=a):Calls Tryz.prog 277 #[.int .u64 u] w fun e w'=>e=.returned (.int .u64 a)∧w=w':=by
 subst h;exact aJ7 u w hu
theorem jJ (u:Nat)(d:Int):eQ u d<18446744073709551616:=by unfold eQ;omega
theorem aFt (n:Nat)(h:n<9223372036854775808):IntKind.i64.wrap (n:Int)=n:=by
 have h1:IntKind.i64.signed=true:=rfl;have h2:IntKind.i64.bits=64:=rfl;unfold IntKind.wrap;simp only[h1,h2,Bool.true_and,decide_eq_true_eq];have e:(n:Int)%(2^64:Int)=n:=by
  have:((2:Int)^64)=18446744073709551616:=by decide
  rw[this];omega
 rw[e,if_neg];have:((2:Int)^(64-1))=9223372036854775808:=by decide
 rw[this];omega
theorem zR (a b:Nat)(ha:a<9223372036854775808)(hb:b<9223372036854775808):bits .and .i64 (a:Int) (b:Int)=((a &&& b:Nat):Int):=by
 have hx:a &&& b≤a:=Nat.and_le_left;show IntKind.i64.wrap ((BitVec.ofInt 64 (a:Int) &&& BitVec.ofInt 64 (b:Int)).toNat:Int)=_;rw[BitVec.toNat_and,ofInt_u64 a (by omega),ofInt_u64 b (by omega)];exact aFt _ (by omega)
theorem uY (n:Nat)(h:n<9223372036854775808):bits .and .i64 (n:Int) 1=((n%2:Nat):Int):=by
 have:=zR n 1 h (by omega);rw[Nat.and_one_is_mod]at this
 exact this
theorem aE7 (m:Nat)(e lp:Int)(i s odd umin umax um nmin nmax dmin dmax dm:Nat)(w:World)(T:aA w)(he1:-1085≤e)(he2:e≤1000)(hm1:9223372036854775808<m)(hm2:m<18446744073709550592)
  (hp:-((e+11)*78913 / 262144)=(i:Int)-348) (hi:i<696) (hlp:((i:Int)-348)*108853 / 32768=lp) (hs:-(e+lp+3)=s) (hs64:s<64) (hodd:m / 2048%2=odd)
  (h1:cF (m-1024) (aH i) (aR i) s=umin) (h2:cF (m+1024) (aH i) (aR i) s=umax) (h3:cF m (aH i) (aR i) s=um)
  (n1:eQ umin odd=nmin) (n2:eQ umax (-(odd:Int))=nmax) (k1:qH nmin=dmin) (k2:nmax / 4=dmax) (k3:fV um=dm) (hH:aH i<18446744073709551616) (hL:aR i<18446744073709551616) :
  Calls Tryz.prog 265 #[.int .u64 m,.int .i64 e] w fun e' w'=>e'=.returned (.tuple #[.int .u64 (bG dmin dmax dm ((i:Int)-348)).1,.int .i64 (bG dmin dmax dm ((i:Int)-348)).2])∧Below w.heap.size w w':=by
 have U1:=fun(w:World) b o c0 c1 c2=>cZ (m-1024) (aH i) (aR i) s w b o c0 c1 c2 (by omega) hH hL hs64
 have U2:=fun(w:World) b o c0 c1 c2=>cZ (m+1024) (aH i) (aR i) s w b o c0 c1 c2 (by omega) hH hL hs64
 have U3:=fun(w:World) b o c0 c1 c2=>cZ m (aH i) (aR i) s w b o c0 c1 c2 (by omega) hH hL hs64
 rw[h1]at U1
 rw[h2]at U2
 rw[h3]at U3
 have em:((m-1024:Nat):Int)=(m:Int)-1024:=by omega
 have ep:((m+1024:Nat):Int)=(m:Int)+1024:=by omega
 rw[em]at U1
 rw[ep]at U2
 have ha:=uY (m / 2048) (by omega);have e5:((m / 2048:Nat):Int)=(m:Int) / 2048:=by omega
 rw[hodd,e5]at ha
 have hodd2:odd≤1:=by omega
 have j1:nmin<18446744073709551616:=by rw[←n1];exact jJ _ _
 have j2:nmax<18446744073709551616:=by rw[←n2];exact jJ _ _
 have j3:dmax<18446744073709551616:=by omega
 have N1:=fun w=>kU umin nmin odd w (by rw[←h1];exact cH _ _ _ _ (by omega) hH hL) n1
 have N2:=fun w=>kU umax nmax (-(odd:Int)) w (by rw[←h2];exact cH _ _ _ _ (by omega) hH hL) n2
 have C1:=fun w=>zE nmin dmin w j1 k1
 have F1:=fun w=>vH nmax dmax w j2 k2
 have R1:=fun w=>nA um dm w (by rw[←h3];exact cH _ _ _ _ (by omega) hH hL) k3
 have l1:umin<18446744073709551616:=by rw[←h1];exact cH _ _ _ _ (by omega) hH hL
 have l2:umax<18446744073709551616:=by rw[←h2];exact cH _ _ _ _ (by omega) hH hL
 have l3:um<18446744073709551616:=by rw[←h3];exact cH _ _ _ _ (by omega) hH hL
 have HU1:=hid U1;have HU2:=hid U2;have HU3:=hid U3;have HT:=hid T;have HS:=hid hs;have HO:=hid hodd;have HN1:=hid N1;have HN2:=hid N2;have HC1:=hid C1;have HF1:=hid F1;have HR1:=hid R1;clear U1 U2 U3 h1 h2 h3 hH hL T hs hodd N1 N2 C1 F1 R1 n1 n2 k1 k2 k3 em ep e5;have hne:((m:Int)==9223372036854775808)=false:=beq_eq_false_iff_ne.2 (by omega);go_enter Tryz.func265,Tryz.ntmps265
 go_wp2_with (first
  | (go_at_call 260;refine(sP _ _ (by omega) (by omega)).mono ?_;rintro e w' ⟨rfl,rfl⟩)
  | (go_at_call 272;refine(mX _ _ (by omega) (by omega)).mono ?_;rintro e w' ⟨rfl,rfl⟩))
 have T1:aA (w.alloc (.cells #[.int .u64 0,.int .u64 0,.int .i64 0] 265)):=HT.out.below ((Below.refl w.heap.size w).alloc mN _) mN;have hg:=heap_alloc_new w (.cells #[.int .u64 0,.int .u64 0,.int .i64 0] 265);have hsz:=HT.out.size;refine(gN e lp s i _ w.heap.size _ _ _ _ hg rfl hi (by omega) T1 (by omega) (by omega) (by omega) (by omega) HS.out).mono ?_;rintro e1 w1 ⟨rfl,hg1,K1⟩;have hz1:w.heap.size<w1.heap.size:=by have:=K1.size;simp at this;omega
 have B1:Below w.heap.size w w1:=(((aD.refl (fun _=>False) w).alloc _).trans' K1 (fun _ _ h=>by omega)).below mN (fun _ _ h=>h.elim);have HB1:=hid B1;have HK1:=hid K1;have c0:=cell_of_row w1 w.heap.size 0 _ _ _ hg1;have c1:=cell_of_row w1 w.heap.size 1 _ _ _ hg1;have c2:=cell_of_row w1 w.heap.size 2 _ _ _ hg1;simp at c0 c1 c2;obtain⟨g,hgg⟩:∃g,w.heap.size=g:=⟨_,rfl⟩
 rw[hgg]at c0 c1 c2 hg1 hz1 ⊢
 clear T1 hg K1 B1 hgg hsz hg1;go_wp2_with (first
  | (go_at_call 274;((with_reducible refine(HU1.out _ _ _ ?_ ?_ ?_).mono ?_);all_goals first|exact c0|exact c1|exact c2|skip);rintro e w' ⟨rfl,n,rfl⟩)
  | (go_at_call 274;((with_reducible refine(HU2.out _ _ _ ?_ ?_ ?_).mono ?_);all_goals first|exact c0|exact c1|exact c2|skip);rintro e w' ⟨rfl,n,rfl⟩)
  | (go_at_call 274;((with_reducible refine(HU3.out _ _ _ ?_ ?_ ?_).mono ?_);all_goals first|exact c0|exact c1|exact c2|skip);rintro e w' ⟨rfl,n,rfl⟩)
  | (go_at_call 277;((with_reducible refine(HR1.out _).mono ?_);rintro e w' ⟨rfl,rfl⟩))
  | (go_at_call 283;((with_reducible refine(HN1.out _).mono ?_);rintro e w' ⟨rfl,rfl⟩))
  | (go_at_call 283;((with_reducible refine(HN2.out _).mono ?_);rintro e w' ⟨rfl,rfl⟩))
  | (go_at_call 284;((with_reducible refine(HC1.out _).mono ?_);rintro e w' ⟨rfl,rfl⟩))
  | (go_at_call 285;((with_reducible refine(HF1.out _).mono ?_);rintro e w' ⟨rfl,rfl⟩)))
 ·have hle:dmin≤dmax / 10*10:=by omega
  go_ret2;refine⟨?_,HB1.out.trans ⟨rfl,rfl,rfl,Nat.le_refl _,fun _ _=>rfl⟩⟩;have e:bG dmin dmax dm ((i:Int)-348)=(dmax / 10,-((i:Int)-348-1)):=by unfold bG;rw[if_pos hle]
  rw[e];rfl
 ·have hle:¬dmin≤dmax / 10*10:=by omega
  have hlt:dmin<dmax:=by assumption
  go_ret2;refine⟨?_,HB1.out.trans ⟨rfl,rfl,rfl,Nat.le_refl _,fun _ _=>rfl⟩⟩;have e:bG dmin dmax dm ((i:Int)-348)=(dm,-((i:Int)-348)):=by unfold bG;rw[if_neg hle,if_pos hlt]
  rw[e];rfl
 ·have hle:¬dmin≤dmax / 10*10:=by omega
  have hlt:¬dmin<dmax:=by assumption
  go_ret2;refine⟨?_,HB1.out.trans ⟨rfl,rfl,rfl,Nat.le_refl _,fun _ _=>rfl⟩⟩;have e:bG dmin dmax dm ((i:Int)-348)=(dmin,-((i:Int)-348)):=by unfold bG;rw[if_neg hle,if_neg hlt]
  rw[e];rfl
open Go.RowKit
theorem aKk (m:Nat)(e lp:Int)(i s odd umin umax um nmin nmax dmin dmax dm:Nat)(w:World)(T:aA w)(he1:-1085<e)(he2:e≤1000)(hm0:m=9223372036854775808)
  (hp:-(((e+11)*631305-261663) / 2097152)=(i:Int)-348) (hi:i<696) (hlp:((i:Int)-348)*108853 / 32768=lp) (hs:-(e+lp+3)=s) (hs64:s<64) (hodd:m / 2048%2=odd)
  (h1:cF (m-512) (aH i) (aR i) s=umin) (h2:cF (m+1024) (aH i) (aR i) s=umax) (h3:cF m (aH i) (aR i) s=um)
  (n1:eQ umin odd=nmin) (n2:eQ umax (-(odd:Int))=nmax) (k1:qH nmin=dmin) (k2:nmax / 4=dmax) (k3:fV um=dm) (hH:aH i<18446744073709551616) (hL:aR i<18446744073709551616) :
  Calls Tryz.prog 265 #[.int .u64 m,.int .i64 e] w fun e' w'=>e'=.returned (.tuple #[.int .u64 (bG dmin dmax dm ((i:Int)-348)).1,.int .i64 (bG dmin dmax dm ((i:Int)-348)).2])∧Below w.heap.size w w':=by
 have U1:=fun(w:World) b o c0 c1 c2=>cZ (m-512) (aH i) (aR i) s w b o c0 c1 c2 (by omega) hH hL hs64
 have U2:=fun(w:World) b o c0 c1 c2=>cZ (m+1024) (aH i) (aR i) s w b o c0 c1 c2 (by omega) hH hL hs64
 have U3:=fun(w:World) b o c0 c1 c2=>cZ m (aH i) (aR i) s w b o c0 c1 c2 (by omega) hH hL hs64
 rw[h1]at U1
 rw[h2]at U2
 rw[h3]at U3
 have em:((m-512:Nat):Int)=(m:Int)-512:=by omega
 have ep:((m+1024:Nat):Int)=(m:Int)+1024:=by omega
 rw[em]at U1
 rw[ep]at U2
 have ha:=uY (m / 2048) (by omega);have e5:((m / 2048:Nat):Int)=(m:Int) / 2048:=by omega
 rw[hodd,e5]at ha
 have hodd2:odd≤1:=by omega
 have j1:nmin<18446744073709551616:=by rw[←n1];exact jJ _ _
 have j2:nmax<18446744073709551616:=by rw[←n2];exact jJ _ _
 have j3:dmax<18446744073709551616:=by omega
 have N1:=fun w=>kU umin nmin odd w (by rw[←h1];exact cH _ _ _ _ (by omega) hH hL) n1
 have N2:=fun w=>kU umax nmax (-(odd:Int)) w (by rw[←h2];exact cH _ _ _ _ (by omega) hH hL) n2
 have C1:=fun w=>zE nmin dmin w j1 k1
 have F1:=fun w=>vH nmax dmax w j2 k2
 have R1:=fun w=>nA um dm w (by rw[←h3];exact cH _ _ _ _ (by omega) hH hL) k3
 have l1:umin<18446744073709551616:=by rw[←h1];exact cH _ _ _ _ (by omega) hH hL
 have l2:umax<18446744073709551616:=by rw[←h2];exact cH _ _ _ _ (by omega) hH hL
 have l3:um<18446744073709551616:=by rw[←h3];exact cH _ _ _ _ (by omega) hH hL
 have HU1:=hid U1;have HU2:=hid U2;have HU3:=hid U3;have HT:=hid T;have HS:=hid hs;have HO:=hid hodd;have HN1:=hid N1;have HN2:=hid N2;have HC1:=hid C1;have HF1:=hid F1;have HR1:=hid R1;clear U1 U2 U3 h1 h2 h3 hH hL T hs hodd N1 N2 C1 F1 R1 n1 n2 k1 k2 k3 em ep e5;have hne:((m:Int)==9223372036854775808)=true:=beq_iff_eq.2 (by omega);have hm1:9223372036854775808≤m:=by omega
 have hm2:m≤9223372036854775808:=by omega
 clear hm0;go_enter Tryz.func265,Tryz.ntmps265
 go_wp2_with (first
  | (go_at_call 282;refine(aHZ _ _ (by omega) (by omega)).mono ?_;rintro e w' ⟨rfl,rfl⟩)
  | (go_at_call 272;refine(mX _ _ (by omega) (by omega)).mono ?_;rintro e w' ⟨rfl,rfl⟩))
 have T1:aA (w.alloc (.cells #[.int .u64 0,.int .u64 0,.int .i64 0] 265)):=HT.out.below ((Below.refl w.heap.size w).alloc mN _) mN;have hg:=heap_alloc_new w (.cells #[.int .u64 0,.int .u64 0,.int .i64 0] 265);have hsz:=HT.out.size;refine(gN e lp s i _ w.heap.size _ _ _ _ hg rfl hi (by omega) T1 (by omega) (by omega) (by omega) (by omega) HS.out).mono ?_;rintro e1 w1 ⟨rfl,hg1,K1⟩;have hz1:w.heap.size<w1.heap.size:=by have:=K1.size;simp at this;omega
 have B1:Below w.heap.size w w1:=(((aD.refl (fun _=>False) w).alloc _).trans' K1 (fun _ _ h=>by omega)).below mN (fun _ _ h=>h.elim);have HB1:=hid B1;have HK1:=hid K1;have c0:=cell_of_row w1 w.heap.size 0 _ _ _ hg1;have c1:=cell_of_row w1 w.heap.size 1 _ _ _ hg1;have c2:=cell_of_row w1 w.heap.size 2 _ _ _ hg1;simp at c0 c1 c2;obtain⟨g,hgg⟩:∃g,w.heap.size=g:=⟨_,rfl⟩
 rw[hgg]at c0 c1 c2 hg1 hz1 ⊢
 clear T1 hg K1 B1 hgg hsz hg1;go_wp2_with (first
  | (go_at_call 274;((with_reducible refine(HU1.out _ _ _ ?_ ?_ ?_).mono ?_);all_goals first|exact c0|exact c1|exact c2|skip);rintro e w' ⟨rfl,n,rfl⟩)
  | (go_at_call 274;((with_reducible refine(HU2.out _ _ _ ?_ ?_ ?_).mono ?_);all_goals first|exact c0|exact c1|exact c2|skip);rintro e w' ⟨rfl,n,rfl⟩)
  | (go_at_call 274;((with_reducible refine(HU3.out _ _ _ ?_ ?_ ?_).mono ?_);all_goals first|exact c0|exact c1|exact c2|skip);rintro e w' ⟨rfl,n,rfl⟩)
  | (go_at_call 277;((with_reducible refine(HR1.out _).mono ?_);rintro e w' ⟨rfl,rfl⟩))
  | (go_at_call 283;((with_reducible refine(HN1.out _).mono ?_);rintro e w' ⟨rfl,rfl⟩))
  | (go_at_call 283;((with_reducible refine(HN2.out _).mono ?_);rintro e w' ⟨rfl,rfl⟩))
  | (go_at_call 284;((with_reducible refine(HC1.out _).mono ?_);rintro e w' ⟨rfl,rfl⟩))
  | (go_at_call 285;((with_reducible refine(HF1.out _).mono ?_);rintro e w' ⟨rfl,rfl⟩)))
 ·have hle:dmin≤dmax / 10*10:=by omega
  go_ret2;refine⟨?_,HB1.out.trans ⟨rfl,rfl,rfl,Nat.le_refl _,fun _ _=>rfl⟩⟩;have e:bG dmin dmax dm ((i:Int)-348)=(dmax / 10,-((i:Int)-348-1)):=by unfold bG;rw[if_pos hle]
  rw[e];rfl
 ·have hle:¬dmin≤dmax / 10*10:=by omega
  have hlt:dmin<dmax:=by assumption
  go_ret2;refine⟨?_,HB1.out.trans ⟨rfl,rfl,rfl,Nat.le_refl _,fun _ _=>rfl⟩⟩;have e:bG dmin dmax dm ((i:Int)-348)=(dm,-((i:Int)-348)):=by unfold bG;rw[if_neg hle,if_pos hlt]
  rw[e];rfl
 ·have hle:¬dmin≤dmax / 10*10:=by omega
  have hlt:¬dmin<dmax:=by assumption
  go_ret2;refine⟨?_,HB1.out.trans ⟨rfl,rfl,rfl,Nat.le_refl _,fun _ _=>rfl⟩⟩;have e:bG dmin dmax dm ((i:Int)-348)=(dmin,-((i:Int)-348)):=by unfold bG;rw[if_neg hle,if_neg hlt]
  rw[e];rfl
open Go.RowKit
def fH (S:Nat):Prop:=S=0∨S=9223372036854775808
theorem aCC (S a:Nat)(hS:fH S)(ha:a<9223372036854775808):S ||| a=S+a:=by
 rcases hS with rfl|rfl
 ·rw[Nat.zero_or,Nat.zero_add]
 ·have:=Nat.two_pow_add_eq_or_of_lt (i:=63) (b:=a) (by simpa using ha) 1;simpa using this.symm
theorem pG (S a:Nat)(hS:fH S)(ha:a<9223372036854775808):bits .or .u64 (S:Int) (a:Int)=((S+a:Nat):Int):=by
 have:S≤9223372036854775808:=by rcases hS with rfl|rfl<;>omega
 rw[u64_or_nat S a (by omega) (by omega),aCC S a hS ha]
theorem aFa (S:Nat)(hS:fH S):∃h,h<2048∧S=h*9007199254740992:=by
 rcases hS with rfl|rfl
 ·exact⟨0,by omega,rfl⟩
 ·exact⟨1024,by omega,rfl⟩
theorem aGi (x n:Nat):x &&& 2^n=x / 2^n%2*2^n:=by
 have p:=Nat.two_pow_pos n;have d:=Nat.and_div_two_pow (a:=x) (b:=2^n) (n:=n);have r:=Nat.and_mod_two_pow (a:=x) (b:=2^n) (n:=n);rw[Nat.div_self p,Nat.and_one_is_mod]at d
 rw[Nat.mod_self,Nat.and_zero]at r
 have:=Nat.div_add_mod (x &&& 2^n) (2^n);rw[d,r,Nat.add_zero,Nat.mul_comm]at this
 exact this.symm
theorem wR (S m:Nat)(hS:fH S)(hm:m<9007199254740992):bits .and .u64 ((S+m:Nat):Int) 4503599627370496=((if m<4503599627370496 then 0 else 4503599627370496:Nat):Int):=by
 have:S≤9223372036854775808:=by rcases hS with rfl|rfl<;>omega
 obtain⟨h,h1,rfl⟩:=aFa S hS;have e:=u64_and_nat (h*9007199254740992+m) 4503599627370496 (by omega) (by omega);refine e.trans ?_;congr 1;have t:=aGi (h*9007199254740992+m) 52;have e52:(2:Nat)^52=4503599627370496:=by decide
 rw[e52]at t
 rw[t];split<;>omega
theorem aKU (S m:Nat)(hS:fH S)(hm:m<9223372036854775808):bits .and .u64 ((S+m:Nat):Int) 9223372036854775808=(S:Int):=by
 have:S≤9223372036854775808:=by rcases hS with rfl|rfl<;>omega
 have e:=u64_and_nat (S+m) 9223372036854775808 (by omega) (by omega);refine e.trans ?_;congr 1;have t:=aGi (S+m) 63;have e63:(2:Nat)^63=9223372036854775808:=by decide
 rw[e63]at t
 rw[t];rcases hS with rfl|rfl<;>omega
theorem aFh (S f:Nat)(hS:fH S)(hf:f<4503599627370496):bits .andNot .u64 ((S+(4503599627370496+f):Nat):Int) 4503599627370496=((S+f:Nat):Int):=by
 obtain⟨h,h1,rfl⟩:=aFa S hS;have e:=u64_andNot_nat (h*9007199254740992+(4503599627370496+f)) 4503599627370496 (by omega) (by omega);refine e.trans ?_;congr 1;have m:18446744073709551615-4503599627370496=2047*9007199254740992+4503599627370495:=by decide
 rw[m];have p53:(2:Nat)^53=9007199254740992:=by decide
 have d:=Nat.and_div_two_pow (a:=h*9007199254740992+(4503599627370496+f)) (b:=2047*9007199254740992+4503599627370495) (n:=53);have r:=Nat.and_mod_two_pow (a:=h*9007199254740992+(4503599627370496+f)) (b:=2047*9007199254740992+4503599627370495) (n:=53);rw[p53]at d r
 rw[show(h*9007199254740992+(4503599627370496+f)) / 9007199254740992=h by omega,show(2047*9007199254740992+4503599627370495) / 9007199254740992=2047 by omega,show(2047:Nat)=2^11-1 from rfl,Nat.and_two_pow_sub_one_eq_mod]at d
 rw[show(h*9007199254740992+(4503599627370496+f))%9007199254740992=4503599627370496+f by omega,show(2047*9007199254740992+4503599627370495)%9007199254740992=2^52-1 by omega,Nat.and_two_pow_sub_one_eq_mod]at r
 have e11:(2:Nat)^11=2048:=by decide
 have e52:(2:Nat)^52=4503599627370496:=by decide
 rw[e11]at d
 rw[e52]at r
 generalize (h*9007199254740992+(4503599627370496+f)) &&& ((2^11-1)*9007199254740992+4503599627370495)=x at *
 omega
theorem aJE (S f k:Nat)(hS:fH S)(hf:f<4503599627370496):bits .or .u64 ((S+f:Nat):Int) ((k*4503599627370496:Nat):Int)=((S+(k*4503599627370496+f):Nat):Int)∨2047<k:=by
 by_cases h:k<2048
 ·left;have:S≤9223372036854775808:=by rcases hS with rfl|rfl<;>omega
  rw[u64_or_nat (S+f) (k*4503599627370496) (by omega) (by omega),←aCC S f hS (by omega)];have e:f ||| k*4503599627370496=k*4503599627370496+f:=by
   have:=Nat.two_pow_add_eq_or_of_lt (i:=52) (b:=f) (by simpa using hf) k;rw[Nat.or_comm,Nat.mul_comm];simpa using this.symm
  rw[Nat.or_assoc,e,aCC S _ hS (by omega)]
 ·exact .inr (by omega)
theorem aL0 (S m:Nat)(e:Int)(w:World)(hS:fH S)(hm:m<4503599627370496) :
  Calls Tryz.prog 279 #[.int .u64 ((S+m:Nat):Int),.int .i64 e] w fun e' w'=>e'=.returned (.tuple #[.float .f64 (S+m),.nilIface])∧w=w':=by
 have ha:=wR S m hS (by omega);rw[if_pos hm]at ha
 have d:=fun w=>lN ((S+m:Nat):Int) w
 simp only[Int.toNat_natCast]at d;obtain⟨x,hx⟩:∃x,S+m=x:=⟨_,rfl⟩
 rw[hx]at ha d ⊢
 clear hx hm hS;go_enter Tryz.func279,Tryz.ntmps279
 go_wp2
 go_ret2;exact⟨rfl,rfl⟩
theorem aLZ (S m:Nat)(e:Int)(w:World)(hS:fH S)(hm:4503599627370496≤m)(hm2:m<9007199254740992)(he:972≤e) :
  Calls Tryz.prog 279 #[.int .u64 ((S+m:Nat):Int),.int .i64 e] w fun e' w'=>e'=.returned (.tuple #[.float .f64 (S+9218868437227405312),.iface 158 (.int .i64 1)])∧w=w':=by
 have ha:bits .and .u64 ((S+m:Nat):Int) 4503599627370496=4503599627370496:=by
  have ha:=wR S m hS (by omega);rw[if_neg (by omega)]at ha
  exact ha
 have hb:=aKU S m hS (by omega);have hc:bits .or .u64 (S:Int) 9218868437227405312=((S+9218868437227405312:Nat):Int):=pG S 9218868437227405312 hS (by omega);have d:=fun w=>lN ((S+9218868437227405312:Nat):Int) w
 simp only[Int.toNat_natCast]at d;obtain⟨x,hx⟩:∃x,S+m=x:=⟨_,rfl⟩
 obtain⟨y,hy⟩:∃y,S+9218868437227405312=y:=⟨_,rfl⟩
 rw[hx]at ha hb ⊢
 rw[hy]at hc d ⊢
 clear hx hy hm hm2 hS;go_enter Tryz.func279,Tryz.ntmps279
 go_wp2
 go_ret2;exact⟨rfl,rfl⟩
theorem aJG (S m:Nat)(k:Nat)(e:Int)(w:World)(hS:fH S)(hm:4503599627370496≤m)(hm2:m<9007199254740992)(he:e=(k:Int)-1074)(hk:k<2046) :
  Calls Tryz.prog 279 #[.int .u64 ((S+m:Nat):Int),.int .i64 e] w fun e' w'=>e'=.returned (.tuple #[.float .f64 (S+(k*4503599627370496+m)),.nilIface])∧w=w':=by
 have ha:=wR S m hS (by omega);rw[if_neg (by omega)]at ha
 obtain⟨f,rfl⟩:∃f,m=4503599627370496+f:=⟨m-4503599627370496,by omega⟩
 have hb:=aFh S f hS (by omega);have hc:=(aJE S f (k+1) hS (by omega)).resolve_right (by omega);have e1:((k+1)*4503599627370496:Nat)=k*4503599627370496+4503599627370496:=by omega
 have e2:S+((k+1)*4503599627370496+f)=S+(k*4503599627370496+(4503599627370496+f)):=by omega
 rw[e2]at hc
 have d:=fun w=>lN ((S+(k*4503599627370496+(4503599627370496+f)):Nat):Int) w
 simp only[Int.toNat_natCast]at d;have hsl:IntKind.u64.wrap (((k:Int)+1)*4503599627370496)=(((k+1)*4503599627370496:Nat):Int):=by rw[cW];omega
 have hcv:(1075:Int)+((k:Int)-1074)=(k:Int)+1:=by omega
 have h0:(0:Int)≤(k:Int)+1:=by omega
 have h1:(k:Int)+1≤2046:=by omega
 subst he;obtain⟨x,hx⟩:∃x,S+(4503599627370496+f)=x:=⟨_,rfl⟩
 obtain⟨y,hy⟩:∃y,S+(k*4503599627370496+(4503599627370496+f))=y:=⟨_,rfl⟩
 obtain⟨z,hz⟩:∃z,S+f=z:=⟨_,rfl⟩
 obtain⟨v,hv⟩:∃v,(k+1)*4503599627370496=v:=⟨_,rfl⟩
 rw[hx]at ha hb ⊢
 rw[hz]at hb hc
 rw[hv]at hc hsl
 rw[hy]at hc d ⊢
 clear hx hy hz hv hm hm2 hS e1 e2;go_enter Tryz.func279,Tryz.ntmps279
 go_wp2
 go_ret2;exact⟨rfl,rfl⟩
theorem aFo (w:World):Calls Tryz.prog 275 #[.int .u64 9007199254740992] w fun e w'=>e=.returned (.int .u64 36028797018963966)∧w=w':=by
 go_enter Tryz.func275,Tryz.ntmps275
 go_wp2
 go_ret;exact⟨rfl,rfl⟩
open Go.RowKit
theorem aBp (d b:Nat)(w:World)(hd:d<18446744073709551616)(hb:Lib.bitLen d=b):Calls Tryz.prog 191 #[.int .u64 (d:Int)] w fun e w'=>e=.returned (.int .i64 b)∧w=w':=by
 refine(Tryz.bits_Len64 _ _ (by omega) (by omega)).mono ?_;rintro e w' ⟨rfl,rfl⟩;rw[Int.toNat_natCast,hb];exact⟨rfl,rfl⟩
theorem aBC (d i b S s:Nat)(lp e:Int)(w:World)(T:aA w)(hS:fH S)(hd:d<18446744073709551616)(hb:Lib.bitLen d=b)(hb64:b≤64)(hi:i<696)(hlp:((i:Int)-348)*108853 / 32768=lp)(he:min 1074 (53-(b:Int)-lp)=e)(hs:-(e-(64-(b:Int))+lp+3)=s)(h64:64≤s) :
  Calls Tryz.prog 245 #[.int .u64 d,.int .i64 ((i:Int)-348),.int .u64 S] w fun e' w'=>e'=.returned (.tuple #[.float .f64 S,.nilIface])∧Below w.heap.size w w':=by
 have L:=fun w=>aBp d b w hd hb
 have HL:=hid L;have d1:=fun w=>lN (S:Int) w
 simp only[Int.toNat_natCast]at d1;have o0:bits .or .u64 (S:Int) 0=(S:Int):=by
  have:=pG S 0 hS (by omega);exact this
 have HT:=hid T;have HLP:=hid hlp;have HE:=hid he;have HS:=hid hs;have hsz:=T.size;clear L T hlp he hs hb hS;have LG:∀w,Calls Tryz.prog 272 #[.int .i64 ((i:Int)-348)] w fun e w'=>e=.returned (.int .i64 lp)∧w=w':=fun w=>by
  have:=mX ((i:Int)-348) w (by omega) (by omega);rw[HLP.out]at this
  exact this
 have hl1:-1200≤lp:=by have:=HLP.out;omega
 have hl2:lp≤1200:=by have:=HLP.out;omega
 have HLG:=hid LG;have he1:-1300≤e:=by have:=HE.out;omega
 have he2:e≤1074:=by have:=HE.out;omega
 clear LG;go_enter Tryz.func245,Tryz.ntmps245
 go_wp2_with (first
  | (go_at_call 191;((with_reducible refine(HL.out _).mono ?_);rintro e w' ⟨rfl,rfl⟩))
  | (go_at_call 272;((with_reducible refine(HLG.out _).mono ?_);rintro e w' ⟨rfl,rfl⟩)))
 rw[HE.out];have T1:aA (w.alloc (.cells #[.int .u64 0,.int .u64 0,.int .i64 0] 265)):=HT.out.below ((Below.refl w.heap.size w).alloc mN _) mN;have hg:=heap_alloc_new w (.cells #[.int .u64 0,.int .u64 0,.int .i64 0] 265);refine(gN (e-(64-(b:Int))) lp s i _ w.heap.size _ _ _ _ hg rfl hi (by omega) T1 (by omega) (by omega) (by omega) (by omega) HS.out).mono ?_;rintro e1 w1 ⟨rfl,hg1,K1⟩;have hz1:w.heap.size<w1.heap.size:=by have:=K1.size;simp at this;omega
 have B1:Below w.heap.size w w1:=(((aD.refl (fun _=>False) w).alloc _).trans' K1 (fun _ _ h=>by omega)).below mN (fun _ _ h=>h.elim);have HB1:=hid B1;have c0:=cell_of_row w1 w.heap.size 0 _ _ _ hg1;have c1:=cell_of_row w1 w.heap.size 1 _ _ _ hg1;have c2:=cell_of_row w1 w.heap.size 2 _ _ _ hg1;simp at c0 c1 c2;obtain⟨g,hgg⟩:∃g,w.heap.size=g:=⟨_,rfl⟩
 rw[hgg]at c0 c1 c2 hg1 hz1 ⊢
 clear T1 hg K1 B1 hgg hsz hg1;go_wp2
 go_ret2;exact⟨rfl,HB1.out⟩
theorem aCa (u:Nat):bO u≤u+1:=by
 unfold bO;split
 ·have:u%2=0∨u%2=1:=by omega
  rcases this with h|h
  ·rw[h,Nat.or_zero];omega
  ·rw[h,rP];omega
 ·omega
theorem aNn (u:Nat):gK u≤1:=by unfold gK;split<;>omega
def mZ (S k m:Nat):Nat:=S+min (k*4503599627370496+m) 9218868437227405312
def uH (k:Nat):Value:=if 2046≤k then .iface 158 (.int .i64 1)else .nilIface
def pL (S k m:Nat)(e:Ending):Prop:=e=.returned (.tuple #[.float .f64 (mZ S k m),uH k])
theorem aLY (S k m:Nat)(w:World)(hS:fH S)(hm:m<9007199254740992)(h:4503599627370496≤m∨k=0)(hk:k<4000) :
  Calls Tryz.prog 279 #[.int .u64 ((S+m:Nat):Int),.int .i64 ((k:Int)-1074)] w fun e' w'=>pL S k m e'∧w=w':=by
 unfold pL mZ uH;by_cases h1:m<4503599627370496
 ·obtain rfl:k=0:=by omega
  rw[if_neg (by decide),Nat.zero_mul,Nat.zero_add,Nat.min_eq_left (by omega)];exact aL0 S m _ w hS h1
 ·by_cases h2:2046≤k
  ·rw[if_pos h2,Nat.min_eq_right (by omega)];exact aLZ S m ((k:Int)-1074) w hS (by omega) hm (by omega)
  ·rw[if_neg h2,Nat.min_eq_left (by omega)];exact aJG S m k _ w hS (by omega) hm rfl (by omega)
theorem aAe (d i b S s u k m x:Nat)(lp e:Int)(w:World)(T:aA w)(hS:fH S)(hd:d<18446744073709551616)(hb:Lib.bitLen d=b)(hb64:b≤64)(hi:i<696)(hlp:((i:Int)-348)*108853 / 32768=lp)(he:min 1074 (53-(b:Int)-lp)=e)(hs:-(e-(64-(b:Int))+lp+3)=s)(h64:s<64)
  (hx:d*2^(64-b)=x) (hx2:x<18446744073709551616) (hu:cF x (aH i) (aR i) s=u) (hu2:u<9223372036854775808) (hm:aZ (bO u)=m) (hm':fV (bO u)=m) (hm2:m<9007199254740992) (hk:((k:Int)-1074)=-(e-gK u)) (hkm:4503599627370496≤m∨k=0) :
  Calls Tryz.prog 245 #[.int .u64 d,.int .i64 ((i:Int)-348),.int .u64 S] w fun e' w'=>pL S k m e'∧Below w.heap.size w w':=by
 have L:=fun w=>aBp d b w hd hb
 have HL:=hid L;obtain⟨r1,r2,r3⟩:=uP i hi;clear r3;have U1:=fun(w:World) b o c0 c1 c2=>cZ x (aH i) (aR i) s w b o c0 c1 c2 hx2 r1 r2 h64
 rw[hu]at U1
 have HU1:=hid U1;have hwx:IntKind.u64.wrap ((d:Int)*2^(64-b))=(x:Int):=by
  rw[cW,←hx];have:((d*2^(64-b):Nat):Int)=(d:Int)*2^(64-b):=by push_cast;rfl
  rw[←this];omega
 have HWX:=hid hwx;have RD:=fun w=>nA (bO u) m w (by have:=aCa u;omega) hm'
 have PK:=fun w=>aLY S k m w hS hm2 hkm (by have:=aNn u;omega)
 have or1:=pG S m hS (by omega);have HRD:=hid RD;have HPK:=hid PK;have HHK:=hid hk;clear hwx RD PK hk hx hkm hm hm';clear U1 r1 r2 hu;have HT:=hid T;have HLP:=hid hlp;have HE:=hid he;have HS:=hid hs;have hsz:=T.size;clear L T hlp he hs hb hS;have LG:∀w,Calls Tryz.prog 272 #[.int .i64 ((i:Int)-348)] w fun e w'=>e=.returned (.int .i64 lp)∧w=w':=fun w=>by
  have:=mX ((i:Int)-348) w (by omega) (by omega);rw[HLP.out]at this
  exact this
 have hl1:-1200≤lp:=by have:=HLP.out;omega
 have hl2:lp≤1200:=by have:=HLP.out;omega
 have HLG:=hid LG;have he1:-1300≤e:=by have:=HE.out;omega
 have he2:e≤1074:=by have:=HE.out;omega
 clear LG;go_enter Tryz.func245,Tryz.ntmps245
 go_wp2_with (first
  | (go_at_call 191;((with_reducible refine(HL.out _).mono ?_);rintro e w' ⟨rfl,rfl⟩))
  | (go_at_call 272;((with_reducible refine(HLG.out _).mono ?_);rintro e w' ⟨rfl,rfl⟩)))
 rw[HE.out];have T1:aA (w.alloc (.cells #[.int .u64 0,.int .u64 0,.int .i64 0] 265)):=HT.out.below ((Below.refl w.heap.size w).alloc mN _) mN;have hg:=heap_alloc_new w (.cells #[.int .u64 0,.int .u64 0,.int .i64 0] 265);refine(gN (e-(64-(b:Int))) lp s i _ w.heap.size _ _ _ _ hg rfl hi (by omega) T1 (by omega) (by omega) (by omega) (by omega) HS.out).mono ?_;rintro e1 w1 ⟨rfl,hg1,K1⟩;have hz1:w.heap.size<w1.heap.size:=by have:=K1.size;simp at this;omega
 have B1:Below w.heap.size w w1:=(((aD.refl (fun _=>False) w).alloc _).trans' K1 (fun _ _ h=>by omega)).below mN (fun _ _ h=>h.elim);have HB1:=hid B1;have c0:=cell_of_row w1 w.heap.size 0 _ _ _ hg1;have c1:=cell_of_row w1 w.heap.size 1 _ _ _ hg1;have c2:=cell_of_row w1 w.heap.size 2 _ _ _ hg1;simp at c0 c1 c2;obtain⟨g,hgg⟩:∃g,w.heap.size=g:=⟨_,rfl⟩
 rw[hgg]at c0 c1 c2 hg1 hz1 ⊢
 clear T1 hg K1 B1 hgg hsz hg1;go_wp2_with fail
 rw[HWX.out];refine(HU1.out w1 g 0 c0 c1 c2).mono ?_;rintro e w2 ⟨rfl,n,rfl⟩;by_cases c:36028797018963966≤u
 ·have c':(36028797018963966:Int)≤u:=by omega
  go_wp2_with (first
   | (go_at_call 275;((with_reducible refine(aFo _).mono ?_);rintro e w' ⟨rfl,rfl⟩))
   | (go_at_call 266;((with_reducible refine(aB8 _).mono ?_);rintro e w' ⟨rfl,rfl⟩)))
  have ecu:bits .or .u64 ((u:Int) / 2) (bits .and .u64 (u:Int) 1)=((bO u:Nat):Int):=by
   have e1:=uZ u (by omega);have e2:=pT (u / 2) (u%2) (by omega) (by omega);rw[e1];have e3:((u / 2:Nat):Int)=(u:Int) / 2:=by omega
   rw[←e3,e2];unfold bO;rw[if_pos c]
  rw[ecu];refine(HRD.out _).mono ?_;rintro e1 w3 ⟨rfl,rfl⟩;have ek:-(e-1)=(k:Int)-1074:=by
   have:=HHK.out;unfold gK at this;rw[if_pos c]at this
   omega
  have eSM:(S:Int)+(m:Int)=((S+m:Nat):Int):=by omega
  have HEK:=hid ek;have HES:=hid eSM;clear ek ecu eSM;go_wp2_with fail
  rw[HES.out,HEK.out];refine(HPK.out _).mono ?_;rintro e1 w4 ⟨hp,rfl⟩;unfold pL at hp;subst hp;go_wp2
  go_ret2;exact⟨rfl,HB1.out.trans ⟨rfl,rfl,rfl,Nat.le_refl _,fun _ _=>rfl⟩⟩
 ·have c':decide ((36028797018963966:Int)≤(u:Int))=false:=decide_eq_false (by omega);go_wp2_with (first
   | (go_at_call 275;((with_reducible refine(aFo _).mono ?_);rintro e w' ⟨rfl,rfl⟩))
   | (go_at_call 266;((with_reducible refine(aA6 _).mono ?_);rintro e w' ⟨rfl,rfl⟩)))
  have ecu:bits .or .u64 (u:Int) (bits .and .u64 (u:Int) 1)=((bO u:Nat):Int):=by
   have e1:=uZ u (by omega);have e2:=pT u (u%2) (by omega) (by omega);rw[e1,e2];unfold bO;rw[if_neg c];congr 1;have:u%2=0∨u%2=1:=by omega
   rcases this with h|h
   ·rw[h,Nat.or_zero]
   ·rw[h,rP];omega
  rw[ecu];refine(HRD.out _).mono ?_;rintro e1 w3 ⟨rfl,rfl⟩;have ek:-e=(k:Int)-1074:=by
   have:=HHK.out;unfold gK at this;rw[if_neg c]at this
   omega
  have eSM:(S:Int)+(m:Int)=((S+m:Nat):Int):=by omega
  have HEK:=hid ek;have HES:=hid eSM;clear ek ecu eSM;go_wp2_with fail
  rw[HES.out,HEK.out];refine(HPK.out _).mono ?_;rintro e1 w4 ⟨hp,rfl⟩;unfold pL at hp;subst hp;go_wp2
  go_ret2;exact⟨rfl,HB1.out.trans ⟨rfl,rfl,rfl,Nat.le_refl _,fun _ _=>rfl⟩⟩
end Go.Proofs.YtcfgbdhpcboikaaGreatDoor
