/-
shortFloat at a normal float that is no power of two.
-/
import Derived.Test.YtcfgbdhpcboikaaGreatDoorUnr
namespace Go.Proofs.YtcfgbdhpcboikaaGreatDoor
open Go.Lib (hid)
set_option maxHeartbeats 4000000
set_option maxRecDepth 100000
open Go.RowKit
theorem lS {n:Nat}:n≤n:=Nat.le_refl n
def fA (u:Nat)(d:Int):Nat:=(((u:Int)+d)%18446744073709551616).toNat
def pG (u:Nat):Nat:=(u+3)%18446744073709551616 / 4
def jG (u:Nat):Nat:=(u+1+u / 4%2)%18446744073709551616 / 4
def bO (dmin dmax dm:Nat)(p:Int):Nat × Int :=
 if dmin≤dmax / 10*10 then (dmax / 10,-(p-1))else if dmin<dmax then (dm,-p)else (dmin,-p)
theorem cV (x h l s:Nat)(hx:x<18446744073709551616)(hh:h<18446744073709551616)(_hl:l<18446744073709551616):cR x h l s<18446744073709551616:=by
 have b1:=rA x h hx hh;have two:(18446744073709551616:Nat)=2^64:=by decide
 unfold cR;simp only[];split
 ·rw[two];exact Nat.or_lt_two_pow (by rw[←two];exact mU _ _ b1) (by decide)
 ·rw[two];refine Nat.or_lt_two_pow (by rw[←two];exact mU _ _ (by split<;>omega)) (by split<;>decide)
theorem kH (u a:Nat)(d:Int)(w:World)(hu:u<18446744073709551616)(h:fA u d=a):Calls Tryz.prog 283 #[.int .u64 u,.int .i64 d] w fun e w'=>e=.returned (.int .u64 a)∧w=w':=by
 subst h;exact aHl u d w hu
theorem wU (u a:Nat)(w:World)(hu:u<18446744073709551616)(h:pG u=a):Calls Tryz.prog 284 #[.int .u64 u] w fun e w'=>e=.returned (.int .u64 a)∧w=w':=by
 subst h;exact aIR u w hu
theorem tP (u a:Nat)(w:World)(hu:u<18446744073709551616)(h:u / 4=a):Calls Tryz.prog 285 #[.int .u64 u] w fun e w'=>e=.returned (.int .u64 a)∧w=w':=by
 subst h;exact aGX u w hu
theorem qO (u a:Nat)(w:World)(hu:u<18446744073709551616)(h:jG u=a):Calls Tryz.prog 277 #[.int .u64 u] w fun e w'=>e=.returned (.int .u64 a)∧w=w':=by
 subst h;exact aHQ u w hu
theorem iU (u:Nat)(d:Int):fA u d<18446744073709551616:=by unfold fA;omega
theorem aEe (n:Nat)(h:n<9223372036854775808):IntKind.i64.wrap (n:Int)=n:=by
 have h1:IntKind.i64.signed=true:=rfl;have h2:IntKind.i64.bits=64:=rfl;unfold IntKind.wrap;simp only[h1,h2,Bool.true_and,decide_eq_true_eq];have e:(n:Int)%(2^64:Int)=n:=by
  have:((2:Int)^64)=18446744073709551616:=by decide
  rw[this];omega
 rw[e,if_neg];have:((2:Int)^(64-1))=9223372036854775808:=by decide
 rw[this];omega
theorem xN (a b:Nat)(ha:a<9223372036854775808)(hb:b<9223372036854775808):bits .and .i64 (a:Int) (b:Int)=((a &&& b:Nat):Int):=by
 have hx:a &&& b≤a:=Nat.and_le_left;show IntKind.i64.wrap ((BitVec.ofInt 64 (a:Int) &&& BitVec.ofInt 64 (b:Int)).toNat:Int)=_;rw[BitVec.toNat_and,ofInt_u64 a (by omega),ofInt_u64 b (by omega)];exact aEe _ (by omega)
theorem tE (n:Nat)(h:n<9223372036854775808):bits .and .i64 (n:Int) 1=((n%2:Nat):Int):=by
 have:=xN n 1 h (by omega);rw[Nat.and_one_is_mod]at this
 exact this
theorem aD1 (m:Nat)(e lp:Int)(i s odd umin umax um nmin nmax dmin dmax dm:Nat)(w:World)(T:aB w)(he1:-1085≤e)(he2:e≤1000)(hm1:9223372036854775808<m)(hm2:m<18446744073709550592)
  (hp:-((e+11)*78913 / 262144)=(i:Int)-348) (hi:i<696) (hlp:((i:Int)-348)*108853 / 32768=lp) (hs:-(e+lp+3)=s) (hs64:s<64) (hodd:m / 2048%2=odd)
  (h1:cR (m-1024) (aM i) (aU i) s=umin) (h2:cR (m+1024) (aM i) (aU i) s=umax) (h3:cR m (aM i) (aU i) s=um)
  (n1:fA umin odd=nmin) (n2:fA umax (-(odd:Int))=nmax) (k1:pG nmin=dmin) (k2:nmax / 4=dmax) (k3:jG um=dm) (hH:aM i<18446744073709551616) (hL:aU i<18446744073709551616) :
  Calls Tryz.prog 265 #[.int .u64 m,.int .i64 e] w fun e' w'=>e'=.returned (.tuple #[.int .u64 (bO dmin dmax dm ((i:Int)-348)).1,.int .i64 (bO dmin dmax dm ((i:Int)-348)).2])∧Below w.heap.size w w':=by
 have U1:=fun(w:World) b o c0 c1 c2=>dY (m-1024) (aM i) (aU i) s w b o c0 c1 c2 (by omega) hH hL hs64
 have U2:=fun(w:World) b o c0 c1 c2=>dY (m+1024) (aM i) (aU i) s w b o c0 c1 c2 (by omega) hH hL hs64
 have U3:=fun(w:World) b o c0 c1 c2=>dY m (aM i) (aU i) s w b o c0 c1 c2 (by omega) hH hL hs64
 rw[h1]at U1
 rw[h2]at U2
 rw[h3]at U3
 have em:((m-1024:Nat):Int)=(m:Int)-1024:=by omega
 have ep:((m+1024:Nat):Int)=(m:Int)+1024:=by omega
 rw[em]at U1
 rw[ep]at U2
 have ha:=tE (m / 2048) (by omega);have e5:((m / 2048:Nat):Int)=(m:Int) / 2048:=by omega
 rw[hodd,e5]at ha
 have hodd2:odd≤1:=by omega
 have j1:nmin<18446744073709551616:=by rw[←n1];exact iU _ _
 have j2:nmax<18446744073709551616:=by rw[←n2];exact iU _ _
 have j3:dmax<18446744073709551616:=by omega
 have N1:=fun w=>kH umin nmin odd w (by rw[←h1];exact cV _ _ _ _ (by omega) hH hL) n1
 have N2:=fun w=>kH umax nmax (-(odd:Int)) w (by rw[←h2];exact cV _ _ _ _ (by omega) hH hL) n2
 have C1:=fun w=>wU nmin dmin w j1 k1
 have F1:=fun w=>tP nmax dmax w j2 k2
 have R1:=fun w=>qO um dm w (by rw[←h3];exact cV _ _ _ _ (by omega) hH hL) k3
 have l1:umin<18446744073709551616:=by rw[←h1];exact cV _ _ _ _ (by omega) hH hL
 have l2:umax<18446744073709551616:=by rw[←h2];exact cV _ _ _ _ (by omega) hH hL
 have l3:um<18446744073709551616:=by rw[←h3];exact cV _ _ _ _ (by omega) hH hL
 have HU1:=hid U1;have HU2:=hid U2;have HU3:=hid U3;have HT:=hid T;have HS:=hid hs;have HO:=hid hodd;have HN1:=hid N1;have HN2:=hid N2;have HC1:=hid C1;have HF1:=hid F1;have HR1:=hid R1;clear U1 U2 U3 h1 h2 h3 hH hL T hs hodd N1 N2 C1 F1 R1 n1 n2 k1 k2 k3 em ep e5;have hne:((m:Int)==9223372036854775808)=false:=beq_eq_false_iff_ne.2 (by omega);go_enter Tryz.func265,Tryz.ntmps265
 go_wp2_with (first
  | (go_at_call 260;refine(vM _ _ (by omega) (by omega)).mono ?_;rintro e w' ⟨rfl,rfl⟩)
  | (go_at_call 272;refine(nJ _ _ (by omega) (by omega)).mono ?_;rintro e w' ⟨rfl,rfl⟩))
 have T1:aB (w.alloc (.cells #[.int .u64 0,.int .u64 0,.int .i64 0] 265)):=HT.out.below ((Below.refl w.heap.size w).alloc lS _) lS;have hg:=heap_alloc_new w (.cells #[.int .u64 0,.int .u64 0,.int .i64 0] 265);have hsz:=HT.out.size;refine(iN e lp s i _ w.heap.size _ _ _ _ hg rfl hi (by omega) T1 (by omega) (by omega) (by omega) (by omega) HS.out).mono ?_;rintro e1 w1 ⟨rfl,hg1,K1⟩;have hz1:w.heap.size<w1.heap.size:=by have:=K1.size;simp at this;omega
 have B1:Below w.heap.size w w1:=(((aF.refl (fun _=>False) w).alloc _).trans' K1 (fun _ _ h=>by omega)).below lS (fun _ _ h=>h.elim);have HB1:=hid B1;have HK1:=hid K1;have c0:=cell_of_row w1 w.heap.size 0 _ _ _ hg1;have c1:=cell_of_row w1 w.heap.size 1 _ _ _ hg1;have c2:=cell_of_row w1 w.heap.size 2 _ _ _ hg1;simp at c0 c1 c2;obtain⟨g,hgg⟩:∃g,w.heap.size=g:=⟨_,rfl⟩
 rw[hgg]at c0 c1 c2 hg1 hz1 ⊢
 clear T1 hg K1 B1 hgg hsz hg1;go_wp2_with (first
  | (go_at_call 274;((with_reducible refine(HU1.out _ _ _ ?_ ?_ ?_).mono ?_);all_goals first|exact c0|exact c1|exact c2|skip);rintro e w' ⟨rfl,n,rfl⟩)
  | (go_at_call 274;((with_reducible refine(HU2.out _ _ _ ?_ ?_ ?_).mono ?_);all_goals first|exact c0|exact c1|exact c2|skip);rintro e w' ⟨rfl,n,rfl⟩)
  | (go_at_call 274;((with_reducible refine(HU3.out _ _ _ ?_ ?_ ?_).mono ?_);all_goals first|exact c0|exact c1|exact c2|skip);rintro e w' ⟨rfl,n,rfl⟩)
  | (go_at_call 277;((with_reducible refine(HR1.out _).mono ?_);rintro e w' ⟨rfl,rfl⟩))
  | (go_at_call 283;((with_reducible refine(HN1.out _).mono ?_);rintro e w' ⟨rfl,rfl⟩))
  | (go_at_call 283;((with_reducible refine(HN2.out _).mono ?_);rintro e w' ⟨rfl,rfl⟩))
  | (go_at_call 284;((with_reducible refine(HC1.out _).mono ?_);rintro e w' ⟨rfl,rfl⟩))
  | (go_at_call 285;((with_reducible refine(HF1.out _).mono ?_);rintro e w' ⟨rfl,rfl⟩)))
 ·have hle:dmin≤dmax / 10*10:=by omega
  go_ret2;refine⟨?_,HB1.out.trans ⟨rfl,rfl,rfl,Nat.le_refl _,fun _ _=>rfl⟩⟩;have e:bO dmin dmax dm ((i:Int)-348)=(dmax / 10,-((i:Int)-348-1)):=by unfold bO;rw[if_pos hle]
  rw[e];rfl
 ·have hle:¬dmin≤dmax / 10*10:=by omega
  have hlt:dmin<dmax:=by assumption
  go_ret2;refine⟨?_,HB1.out.trans ⟨rfl,rfl,rfl,Nat.le_refl _,fun _ _=>rfl⟩⟩;have e:bO dmin dmax dm ((i:Int)-348)=(dm,-((i:Int)-348)):=by unfold bO;rw[if_neg hle,if_pos hlt]
  rw[e];rfl
 ·have hle:¬dmin≤dmax / 10*10:=by omega
  have hlt:¬dmin<dmax:=by assumption
  go_ret2;refine⟨?_,HB1.out.trans ⟨rfl,rfl,rfl,Nat.le_refl _,fun _ _=>rfl⟩⟩;have e:bO dmin dmax dm ((i:Int)-348)=(dmin,-((i:Int)-348)):=by unfold bO;rw[if_neg hle,if_neg hlt]
  rw[e];rfl
open Go.RowKit
theorem aHY (m:Nat)(e lp:Int)(i s odd umin umax um nmin nmax dmin dmax dm:Nat)(w:World)(T:aB w)(he1:-1085<e)(he2:e≤1000)(hm0:m=9223372036854775808)
  (hp:-(((e+11)*631305-261663) / 2097152)=(i:Int)-348) (hi:i<696) (hlp:((i:Int)-348)*108853 / 32768=lp) (hs:-(e+lp+3)=s) (hs64:s<64) (hodd:m / 2048%2=odd)
  (h1:cR (m-512) (aM i) (aU i) s=umin) (h2:cR (m+1024) (aM i) (aU i) s=umax) (h3:cR m (aM i) (aU i) s=um)
  (n1:fA umin odd=nmin) (n2:fA umax (-(odd:Int))=nmax) (k1:pG nmin=dmin) (k2:nmax / 4=dmax) (k3:jG um=dm) (hH:aM i<18446744073709551616) (hL:aU i<18446744073709551616) :
  Calls Tryz.prog 265 #[.int .u64 m,.int .i64 e] w fun e' w'=>e'=.returned (.tuple #[.int .u64 (bO dmin dmax dm ((i:Int)-348)).1,.int .i64 (bO dmin dmax dm ((i:Int)-348)).2])∧Below w.heap.size w w':=by
 have U1:=fun(w:World) b o c0 c1 c2=>dY (m-512) (aM i) (aU i) s w b o c0 c1 c2 (by omega) hH hL hs64
 have U2:=fun(w:World) b o c0 c1 c2=>dY (m+1024) (aM i) (aU i) s w b o c0 c1 c2 (by omega) hH hL hs64
 have U3:=fun(w:World) b o c0 c1 c2=>dY m (aM i) (aU i) s w b o c0 c1 c2 (by omega) hH hL hs64
 rw[h1]at U1
 rw[h2]at U2
 rw[h3]at U3
 have em:((m-512:Nat):Int)=(m:Int)-512:=by omega
 have ep:((m+1024:Nat):Int)=(m:Int)+1024:=by omega
 rw[em]at U1
 rw[ep]at U2
 have ha:=tE (m / 2048) (by omega);have e5:((m / 2048:Nat):Int)=(m:Int) / 2048:=by omega
 rw[hodd,e5]at ha
 have hodd2:odd≤1:=by omega
 have j1:nmin<18446744073709551616:=by rw[←n1];exact iU _ _
 have j2:nmax<18446744073709551616:=by rw[←n2];exact iU _ _
 have j3:dmax<18446744073709551616:=by omega
 have N1:=fun w=>kH umin nmin odd w (by rw[←h1];exact cV _ _ _ _ (by omega) hH hL) n1
 have N2:=fun w=>kH umax nmax (-(odd:Int)) w (by rw[←h2];exact cV _ _ _ _ (by omega) hH hL) n2
 have C1:=fun w=>wU nmin dmin w j1 k1
 have F1:=fun w=>tP nmax dmax w j2 k2
 have R1:=fun w=>qO um dm w (by rw[←h3];exact cV _ _ _ _ (by omega) hH hL) k3
 have l1:umin<18446744073709551616:=by rw[←h1];exact cV _ _ _ _ (by omega) hH hL
 have l2:umax<18446744073709551616:=by rw[←h2];exact cV _ _ _ _ (by omega) hH hL
 have l3:um<18446744073709551616:=by rw[←h3];exact cV _ _ _ _ (by omega) hH hL
 have HU1:=hid U1;have HU2:=hid U2;have HU3:=hid U3;have HT:=hid T;have HS:=hid hs;have HO:=hid hodd;have HN1:=hid N1;have HN2:=hid N2;have HC1:=hid C1;have HF1:=hid F1;have HR1:=hid R1;clear U1 U2 U3 h1 h2 h3 hH hL T hs hodd N1 N2 C1 F1 R1 n1 n2 k1 k2 k3 em ep e5;have hne:((m:Int)==9223372036854775808)=true:=beq_iff_eq.2 (by omega);have hm1:9223372036854775808≤m:=by omega
 have hm2:m≤9223372036854775808:=by omega
 clear hm0;go_enter Tryz.func265,Tryz.ntmps265
 go_wp2_with (first
  | (go_at_call 282;refine(aFV _ _ (by omega) (by omega)).mono ?_;rintro e w' ⟨rfl,rfl⟩)
  | (go_at_call 272;refine(nJ _ _ (by omega) (by omega)).mono ?_;rintro e w' ⟨rfl,rfl⟩))
 have T1:aB (w.alloc (.cells #[.int .u64 0,.int .u64 0,.int .i64 0] 265)):=HT.out.below ((Below.refl w.heap.size w).alloc lS _) lS;have hg:=heap_alloc_new w (.cells #[.int .u64 0,.int .u64 0,.int .i64 0] 265);have hsz:=HT.out.size;refine(iN e lp s i _ w.heap.size _ _ _ _ hg rfl hi (by omega) T1 (by omega) (by omega) (by omega) (by omega) HS.out).mono ?_;rintro e1 w1 ⟨rfl,hg1,K1⟩;have hz1:w.heap.size<w1.heap.size:=by have:=K1.size;simp at this;omega
 have B1:Below w.heap.size w w1:=(((aF.refl (fun _=>False) w).alloc _).trans' K1 (fun _ _ h=>by omega)).below lS (fun _ _ h=>h.elim);have HB1:=hid B1;have HK1:=hid K1;have c0:=cell_of_row w1 w.heap.size 0 _ _ _ hg1;have c1:=cell_of_row w1 w.heap.size 1 _ _ _ hg1;have c2:=cell_of_row w1 w.heap.size 2 _ _ _ hg1;simp at c0 c1 c2;obtain⟨g,hgg⟩:∃g,w.heap.size=g:=⟨_,rfl⟩
 rw[hgg]at c0 c1 c2 hg1 hz1 ⊢
 clear T1 hg K1 B1 hgg hsz hg1;go_wp2_with (first
  | (go_at_call 274;((with_reducible refine(HU1.out _ _ _ ?_ ?_ ?_).mono ?_);all_goals first|exact c0|exact c1|exact c2|skip);rintro e w' ⟨rfl,n,rfl⟩)
  | (go_at_call 274;((with_reducible refine(HU2.out _ _ _ ?_ ?_ ?_).mono ?_);all_goals first|exact c0|exact c1|exact c2|skip);rintro e w' ⟨rfl,n,rfl⟩)
  | (go_at_call 274;((with_reducible refine(HU3.out _ _ _ ?_ ?_ ?_).mono ?_);all_goals first|exact c0|exact c1|exact c2|skip);rintro e w' ⟨rfl,n,rfl⟩)
  | (go_at_call 277;((with_reducible refine(HR1.out _).mono ?_);rintro e w' ⟨rfl,rfl⟩))
  | (go_at_call 283;((with_reducible refine(HN1.out _).mono ?_);rintro e w' ⟨rfl,rfl⟩))
  | (go_at_call 283;((with_reducible refine(HN2.out _).mono ?_);rintro e w' ⟨rfl,rfl⟩))
  | (go_at_call 284;((with_reducible refine(HC1.out _).mono ?_);rintro e w' ⟨rfl,rfl⟩))
  | (go_at_call 285;((with_reducible refine(HF1.out _).mono ?_);rintro e w' ⟨rfl,rfl⟩)))
 ·have hle:dmin≤dmax / 10*10:=by omega
  go_ret2;refine⟨?_,HB1.out.trans ⟨rfl,rfl,rfl,Nat.le_refl _,fun _ _=>rfl⟩⟩;have e:bO dmin dmax dm ((i:Int)-348)=(dmax / 10,-((i:Int)-348-1)):=by unfold bO;rw[if_pos hle]
  rw[e];rfl
 ·have hle:¬dmin≤dmax / 10*10:=by omega
  have hlt:dmin<dmax:=by assumption
  go_ret2;refine⟨?_,HB1.out.trans ⟨rfl,rfl,rfl,Nat.le_refl _,fun _ _=>rfl⟩⟩;have e:bO dmin dmax dm ((i:Int)-348)=(dm,-((i:Int)-348)):=by unfold bO;rw[if_neg hle,if_pos hlt]
  rw[e];rfl
 ·have hle:¬dmin≤dmax / 10*10:=by omega
  have hlt:¬dmin<dmax:=by assumption
  go_ret2;refine⟨?_,HB1.out.trans ⟨rfl,rfl,rfl,Nat.le_refl _,fun _ _=>rfl⟩⟩;have e:bO dmin dmax dm ((i:Int)-348)=(dmin,-((i:Int)-348)):=by unfold bO;rw[if_neg hle,if_neg hlt]
  rw[e];rfl
open Go.RowKit Go.Sort
def cU (l:List UInt8):Nat:=(l.reverse.dropWhile (· == 48)).length
theorem kR (l:List UInt8):cU l≤l.length:=by
 unfold cU;have:∀(r:List UInt8),(r.dropWhile (· == 48)).length≤r.length:=by
  intro r;induction r with
  | nil=>simp
  | cons a r ih=>rw[List.dropWhile_cons];split<;>simp<;>omega
 have:=this l.reverse;simpa using this
theorem pX (l:List UInt8)(c:UInt8):cU (l++[c])=if c=48 then cU l else l.length+1:=by
 unfold cU;rw[List.reverse_append,List.reverse_singleton,List.singleton_append,List.dropWhile_cons];by_cases h:c=48
 ·simp[h]
 ·simp[h]
theorem aIh (l:List UInt8)(k:Nat)(hk:k<l.length)(h:l[k]=48)(ht:cU (l.take (k+1))=cU l):cU (l.take k)=cU l:=by
 rw[←ht,List.take_succ_eq_append_getElem hk,pX,if_pos h]
theorem aIg (l:List UInt8)(k:Nat)(hk:k<l.length)(h:l[k]≠48)(ht:cU (l.take (k+1))=cU l):cU l=k+1:=by
 rw[←ht,List.take_succ_eq_append_getElem hk,pX,if_neg h,List.length_take];omega
theorem iM (u:Nat)(h:u<18446744073709551616):Lib.nDigits u≤20:=by
 have h0:=Lib.nDigits_pos u;rcases Nat.lt_or_ge 20 (Lib.nDigits u)with h1|h1
 ·exfalso;by_cases hu:u=0
  ·rw[hu,Lib.nDigits_small (by omega)]at h1
   omega
  ·have:=Lib.numDigits_eq u (by omega) h;have h2:(if 10^Lib.l10 (Lib.bitLen u)≤u then 1 else 0)≤1:=by split<;>omega
   omega
 ·exact h1
theorem aEx (w:World)(g off:Nat)(dk:Array UInt8):aF (· = g) w (putRow (fun(b:UInt8)=>Value.int .u8 (b.toNat:Int)) w g off dk) :=
 ⟨rfl,rfl,rfl,by simp,fun k _ hn=>by
  show(w.heap.modify g _)[k]?=_;rw[Array.getElem?_modify,if_neg (fun e=>hn e.symm)]⟩
theorem aFN (w:World)(g n c h:Nat)(h1:h≤c):(Instr.slice 35 (.slice (some ⟨g,0,none⟩) n c) none (some (.int .i64 h)) none).run Tryz.prog w=.ok (.slice (some ⟨g,0,none⟩) h c) w:=by
 exact aHS 35 5 Tryz.underlying35 (by kernel_rfl) w _ n c h h1
theorem aCI (g d K:Nat)(p:Int)(N:Nat)(w:World)(hH:Holds (fun(b:UInt8)=>Value.int .u8 (b.toNat:Int)) w g 0 (Array.replicate K 0))(hK:20≤K)(_hd1:1≤d)(hd:d<18446744073709551616)(hN:Lib.nDigits d=N)(p1:-2000≤p)(p2:p≤2000) :
  Calls Tryz.prog 259 #[.slice (some ⟨g,0,none⟩) K K,.int .u64 d,.int .i64 p,.int .i64 N] w
   fun e w'=>e=.returned (.tuple #[.int .i64 (N+p),.int .i64 (cU (Lib.decDigits d):Nat)])∧IsB w' (some ⟨g,0,none⟩) (Lib.decDigits d)∧aF (· = g) w w':=by
 have n20:N≤20:=by rw[←hN];exact iM d hd
 have hN1:1≤N:=by rw[←hN];exact Lib.nDigits_pos d
 have hHN:Holds (fun(b:UInt8)=>Value.int .u8 (b.toNat:Int)) w g 0 (Array.replicate N 0):=by
  intro j hj;have hj':j<N:=by simpa using hj
  have:=hH j (by simp;omega);rw[getElem!_pos _ j (by simp;omega)]at this
  rw[getElem!_pos _ j hj];simpa using this
 have hlt:d<10^(Array.replicate N (0:UInt8)).size:=by rw[Array.size_replicate,←hN];exact Lib.lt_pow_nDigits d
 have FB:=fun cap=>Tryz.internal_strconv_formatBase10 g 0 cap d (Array.replicate N 0) w hHN hlt hd (by simp;omega)
 rw[Array.size_replicate]at FB
 have c1:=fun w=>aFN w g K K N (by omega)
 have hdl:(Lib.decDigits d).length=N:=by rw[Lib.decDigits_length,hN]
 have HFB:=hid FB;have HHN:=hid hHN;have HNN:=hid hN;have HDL:=hid hdl;clear FB hlt hHN hH hN hdl;go_enter Tryz.func259,Tryz.ntmps259
 go_wp2_with fail
 refine(HFB.out _).mono ?_;rintro e w1 ⟨rfl,n,v',dk,hw1,F⟩;have K1:aF (· = g) w w1:=by rw[hw1];exact(aEx w g 0 dk).drewN n
 have hds:dk.size=N:=F.size;have S1:IsB w1 (some ⟨g,0,none⟩) (Lib.decDigits d):=by
  intro j b hb;have hj:j<N:=by
   rcases Nat.lt_or_ge j N with h1|h1
   ·exact h1
   ·rw[List.getElem?_eq_none (by rw[HDL.out];exact h1)]at hb;cases hb
  refine⟨_,rfl,?_⟩;rw[Lib.add_plain,hw1];have hr:=Lib.row_is_numeral (u:=d) (v':=v') (dk:=dk) (by rw[HNN.out];exact F) j (by rw[HDL.out];exact hj);have hb':(Lib.decDigits d)[j]'(by rw[HDL.out];exact hj)=b:=by
   rw[List.getElem?_eq_getElem (by rw[HDL.out];exact hj)]at hb
   exact Option.some.inj hb
  show(putRow _ w g 0 dk).cell? ⟨g,0+j,none⟩=_;rw[cell?_putRow _ w g 0 (Array.replicate N 0) dk HHN.out (by simpa using hds) j (by omega),←hr,hb'];rfl
 have HK:=hid K1;have HS:=hid S1;clear K1 S1 hds F hw1;go_wp2_with fail
 go_loopg [3] N (fun k nd wx=>∃(j:Nat),nd=.int .i64 j∧j≤N∧cU ((Lib.decDigits d).take j)=cU (Lib.decDigits d)∧k=j∧wx=w1)
 case atStart=>exact⟨N,rfl,Nat.le_refl _,by rw[List.take_of_length_le (by rw[HDL.out];exact Nat.le_refl _)],rfl,rfl⟩
 case round =>
  obtain⟨j,rfl,hj,ht,hk,hwx⟩:=hrel;subst hwx;have HTR:=hid ht;have HKK:=hid hk;clear ht hk;by_cases h0:j=0
  ·have hp:¬(0:Int)<j:=by omega
   have H0:=hid h0;clear h0;go_wp2
   go_ret2;refine⟨?_,HS.out,HK.out⟩;have:=HTR.out;rw[H0.out]at this ⊢
   rw[←this];rfl
  ·obtain⟨i,hi⟩:∃i,j=i+1:=⟨j-1,by omega⟩
   subst hi;have hil:i<(Lib.decDigits d).length:=by rw[HDL.out];omega
   have hcell:=HS.out i ((Lib.decDigits d)[i]) (List.getElem?_eq_getElem hil);obtain⟨x,hx,hc⟩:=hcell;cases hx;rw[Lib.add_plain]at hc
   have hc':wr.cell? ⟨g,i,none⟩=some (.int .u8 ((Lib.decDigits d)[i].toNat)):=by simpa [fF]using hc
   have ht':=aIh (Lib.decDigits d) i hil;have hs':=aIg (Lib.decDigits d) i hil;have HT2:=hid ht';have HS2:=hid hs';clear hc ht' hs' h0;obtain⟨c,hcc⟩:∃c,(Lib.decDigits d)[i]=c:=⟨_,rfl⟩
   rw[hcc]at hc'
   have HC:=hid hcc;clear hcc;by_cases h48:c=48
   ·have f1:((c.toNat:Int)==48)=true:=by rw[h48];rfl
    have H48:=hid h48;clear h48;go_wp2
    go_roundg i
    case measure=>have:=HKK.out;omega
    case rel=>exact⟨i,by go_num,by omega,HT2.out (by rw[HC.out,H48.out]) HTR.out,rfl,rfl⟩
   ·have f1:((c.toNat:Int)==48)=false:=beq_eq_false_iff_ne.2 (by intro e;exact h48 (UInt8.toNat_inj.1 (by simp;omega)));have H48:=hid h48;clear h48;go_wp2
    go_ret2;refine⟨?_,HS.out,HK.out⟩;rw[HS2.out (by rw[HC.out];exact H48.out) HTR.out];rfl
open Go.RowKit
structure Out (w0 w:World) (B:Nat) (S:Nat→Prop) (ad:Option Addr) (c:Nat) (bs:List UInt8):Prop where
 own:gO w B 5 ad c bs
 kept:aF S w0 w
 lies:∀y,ad=some y→S y.block∨w0.heap.size≤y.block
 base:B≤w.heap.size
theorem Out.alloc {w0 w:World}{B:Nat}{S:Nat→Prop}{ad:Option Addr}{c:Nat}{bs:List UInt8}(h:Out w0 w B S ad c bs)(o:Obj):Out w0 (w.alloc o) B S ad c bs :=
 ⟨h.own.kept ((aF.refl (fun _=>False) w).alloc o) (fun _ _ h=>h),h.kept.alloc o,h.lies,by have:=h.base;simp;omega⟩
theorem Out.drewN {w0 w:World}{B:Nat}{S:Nat→Prop}{ad:Option Addr}{c:Nat}{bs:List UInt8}(h:Out w0 w B S ad c bs)(n:Nat):Out w0 (w.drewN n) B S ad c bs :=
 ⟨h.own.kept ((aF.refl (fun _=>False) w).drewN n) (fun _ _ h=>h),h.kept.drewN n,h.lies,h.base⟩
theorem Out.next {w0 w w':World}{B:Nat}{S:Nat→Prop}{ad ad':Option Addr}{c c':Nat}{bs bs':List UInt8}(h:Out w0 w B S ad c bs)
  (ho:gO w' B 5 ad' c' bs') (hk:aF (fun k=>ad.map (·.block)=some k) w w') (ha:∀y,ad'=some y→ad.map (·.block)=some y.block∨w.heap.size≤y.block):Out w0 w' B S ad' c' bs':=by
 have hs:=h.kept.size;refine⟨ho,h.kept.trans' hk ?_,?_,Nat.le_trans h.base hk.size⟩
 ·intro i hi e;cases ad with
  | none=>cases e
  | some y =>
   have e':y.block=i:=by simpa using e
   rcases h.lies y rfl with h1|h1
   ·rwa[e']at h1
   ·omega
 ·intro y hy;rcases ha y hy with h1|h1
  ·cases ad with
   | none=>cases h1
   | some z =>
    have e':z.block=y.block:=by simpa using h1
    rw[←e'];exact h.lies z rfl
  ·exact .inr (by omega)
section
variable {P:Program} {w:World} {ops:Array Oper} {rest:List Oper} {o:Oper} {a:Act} {Q:Exit→Act→World→Prop}
theorem qS (hgd:o.guard=none)(s x:Operand)(t:TypeId)
  (ho:o.op=.call { callee:=.builtin .append,args:=#[s,x],argTypes:=#[t,t] })
  (i:TypeInfo) (ht:P.underlying t=some (.slice 5)) (hi:P.info? 5=some i) (hz:i.zero=some (.int .u8 0)) (hsize:i.size=1) (hby:i.bytes=1)
  {w0:World} {B:Nat} {S:Nat→Prop} (ad:Option Addr) (n c:Nat) (bs:List UInt8) (hs:a.eval s=.slice ad n c) (hn:bs.length=n) (hO:Out w0 w B S ad c bs)
  (sp:Option Addr) (m sc:Nat) (cs:List UInt8) (hx:a.eval x=.slice sp m sc) (hm:cs.length=m) (hsrc:IsB w sp cs) (hb:n+m≤1000000)
  (h:∀ad' c' w',Hid (Out w0 w' B S ad' c' (bs++cs))→wpList P ops Q rest (a.put o.dst (.slice ad' (n+m:Nat) c')) w'):wpList P ops Q (o :: rest) a w :=
 aBD hgd s x t ho B 5 i ht hi hz hsize hby ad n c bs hs hn hO.own sp m sc cs hx hm hsrc (by omega) hO.base
  (fun ad' c' w' h1 h2 h3=>h ad' c' w' (show Out _ _ _ _ _ _ _ from hO.next h1.out h2 h3))
theorem zN (hgd:o.guard=none)(s x:Operand)(t:TypeId)
  (ho:o.op=.call { callee:=.builtin .append,args:=#[s,x],argTypes:=#[t,t] })
  (i:TypeInfo) (ht:P.underlying t=some (.slice 5)) (hi:P.info? 5=some i) (hz:i.zero=some (.int .u8 0)) (hsize:i.size=1) (hby:i.bytes=1)
  {w0 w1:World} {B:Nat} {S:Nat→Prop} (ad:Option Addr) (n c:Nat) (bs:List UInt8) (hs:a.eval s=.slice ad n c) (hn:bs.length=n) (hO:Out w0 w1 B S ad c bs)
  (m sc:Nat) (cs:List UInt8) (vs:Array Value) (hw:w=w1.alloc (.cells vs 5)) (hvs:vs=(cs.map fF).toArray) (hx:a.eval x=.slice (some ⟨w1.heap.size,0,none⟩) m sc) (hm:cs.length=m) (hb:n+m≤1000000)
  (h:∀ad' c' w',Hid (Out w0 w' B S ad' c' (bs++cs))→wpList P ops Q rest (a.put o.dst (.slice ad' (n+m:Nat) c')) w'):wpList P ops Q (o :: rest) a w:=by
 subst hw;subst hvs;exact qS hgd s x t ho i ht hi hz hsize hby ad n c bs hs hn (hO.alloc _) _ m sc cs hx hm (IsB.of_heap (arr:=cs) (heap_alloc_new w1 _) 0) hb h
end
def aR (x:Nat):List UInt8 :=
 if x<10 then [48,UInt8.ofNat (x+48)]else if x<100 then [UInt8.ofNat (x / 10+48),UInt8.ofNat (x%10+48)]
 else [UInt8.ofNat (x / 100+48),UInt8.ofNat (x / 10%10+48),UInt8.ofNat (x%10+48)]
def lQ (D:List UInt8)(x:Int):List UInt8 :=
 D.take 1++(if 1<D.length then 46 :: D.drop 1 else [])++[101,if x<0 then 45 else 43]++aR x.natAbs
open Go.RowKit
def fK (S:Nat):Prop:=S=0∨S=9223372036854775808
theorem aBz (S a:Nat)(hS:fK S)(ha:a<9223372036854775808):S ||| a=S+a:=by
 rcases hS with rfl|rfl
 ·rw[Nat.zero_or,Nat.zero_add]
 ·have:=Nat.two_pow_add_eq_or_of_lt (i:=63) (b:=a) (by simpa using ha) 1;simpa using this.symm
theorem oE (S a:Nat)(hS:fK S)(ha:a<9223372036854775808):bits .or .u64 (S:Int) (a:Int)=((S+a:Nat):Int):=by
 have:S≤9223372036854775808:=by rcases hS with rfl|rfl<;>omega
 rw[u64_or_nat S a (by omega) (by omega),aBz S a hS ha]
theorem aD3 (S:Nat)(hS:fK S):∃h,h<2048∧S=h*9007199254740992:=by
 rcases hS with rfl|rfl
 ·exact⟨0,by omega,rfl⟩
 ·exact⟨1024,by omega,rfl⟩
theorem aEQ (x n:Nat):x &&& 2^n=x / 2^n%2*2^n:=by
 have p:=Nat.two_pow_pos n;have d:=Nat.and_div_two_pow (a:=x) (b:=2^n) (n:=n);have r:=Nat.and_mod_two_pow (a:=x) (b:=2^n) (n:=n);rw[Nat.div_self p,Nat.and_one_is_mod]at d
 rw[Nat.mod_self,Nat.and_zero]at r
 have:=Nat.div_add_mod (x &&& 2^n) (2^n);rw[d,r,Nat.add_zero,Nat.mul_comm]at this
 exact this.symm
theorem uZ (S m:Nat)(hS:fK S)(hm:m<9007199254740992):bits .and .u64 ((S+m:Nat):Int) 4503599627370496=((if m<4503599627370496 then 0 else 4503599627370496:Nat):Int):=by
 have:S≤9223372036854775808:=by rcases hS with rfl|rfl<;>omega
 obtain⟨h,h1,rfl⟩:=aD3 S hS;have e:=u64_and_nat (h*9007199254740992+m) 4503599627370496 (by omega) (by omega);refine e.trans ?_;congr 1;have t:=aEQ (h*9007199254740992+m) 52;have e52:(2:Nat)^52=4503599627370496:=by decide
 rw[e52]at t
 rw[t];split<;>omega
theorem aIE (S m:Nat)(hS:fK S)(hm:m<9223372036854775808):bits .and .u64 ((S+m:Nat):Int) 9223372036854775808=(S:Int):=by
 have:S≤9223372036854775808:=by rcases hS with rfl|rfl<;>omega
 have e:=u64_and_nat (S+m) 9223372036854775808 (by omega) (by omega);refine e.trans ?_;congr 1;have t:=aEQ (S+m) 63;have e63:(2:Nat)^63=9223372036854775808:=by decide
 rw[e63]at t
 rw[t];rcases hS with rfl|rfl<;>omega
theorem aD7 (S f:Nat)(hS:fK S)(hf:f<4503599627370496):bits .andNot .u64 ((S+(4503599627370496+f):Nat):Int) 4503599627370496=((S+f:Nat):Int):=by
 obtain⟨h,h1,rfl⟩:=aD3 S hS;have e:=u64_andNot_nat (h*9007199254740992+(4503599627370496+f)) 4503599627370496 (by omega) (by omega);refine e.trans ?_;congr 1;have m:18446744073709551615-4503599627370496=2047*9007199254740992+4503599627370495:=by decide
 rw[m];have p53:(2:Nat)^53=9007199254740992:=by decide
 have d:=Nat.and_div_two_pow (a:=h*9007199254740992+(4503599627370496+f)) (b:=2047*9007199254740992+4503599627370495) (n:=53);have r:=Nat.and_mod_two_pow (a:=h*9007199254740992+(4503599627370496+f)) (b:=2047*9007199254740992+4503599627370495) (n:=53);rw[p53]at d r
 rw[show(h*9007199254740992+(4503599627370496+f)) / 9007199254740992=h by omega,show(2047*9007199254740992+4503599627370495) / 9007199254740992=2047 by omega,show(2047:Nat)=2^11-1 from rfl,Nat.and_two_pow_sub_one_eq_mod]at d
 rw[show(h*9007199254740992+(4503599627370496+f))%9007199254740992=4503599627370496+f by omega,show(2047*9007199254740992+4503599627370495)%9007199254740992=2^52-1 by omega,Nat.and_two_pow_sub_one_eq_mod]at r
 have e11:(2:Nat)^11=2048:=by decide
 have e52:(2:Nat)^52=4503599627370496:=by decide
 rw[e11]at d
 rw[e52]at r
 generalize (h*9007199254740992+(4503599627370496+f)) &&& ((2^11-1)*9007199254740992+4503599627370495)=x at *
 omega
theorem aHo (S f k:Nat)(hS:fK S)(hf:f<4503599627370496):bits .or .u64 ((S+f:Nat):Int) ((k*4503599627370496:Nat):Int)=((S+(k*4503599627370496+f):Nat):Int)∨2047<k:=by
 by_cases h:k<2048
 ·left;have:S≤9223372036854775808:=by rcases hS with rfl|rfl<;>omega
  rw[u64_or_nat (S+f) (k*4503599627370496) (by omega) (by omega),←aBz S f hS (by omega)];have e:f ||| k*4503599627370496=k*4503599627370496+f:=by
   have:=Nat.two_pow_add_eq_or_of_lt (i:=52) (b:=f) (by simpa using hf) k;rw[Nat.or_comm,Nat.mul_comm];simpa using this.symm
  rw[Nat.or_assoc,e,aBz S _ hS (by omega)]
 ·exact .inr (by omega)
theorem aJx (S m:Nat)(e:Int)(w:World)(hS:fK S)(hm:m<4503599627370496) :
  Calls Tryz.prog 279 #[.int .u64 ((S+m:Nat):Int),.int .i64 e] w fun e' w'=>e'=.returned (.tuple #[.float .f64 (S+m),.nilIface])∧w=w':=by
 have ha:=uZ S m hS (by omega);rw[if_pos hm]at ha
 have d:=fun w=>kY ((S+m:Nat):Int) w
 simp only[Int.toNat_natCast]at d;obtain⟨x,hx⟩:∃x,S+m=x:=⟨_,rfl⟩
 rw[hx]at ha d ⊢
 clear hx hm hS;go_enter Tryz.func279,Tryz.ntmps279
 go_wp2
 go_ret2;exact⟨rfl,rfl⟩
theorem aJw (S m:Nat)(e:Int)(w:World)(hS:fK S)(hm:4503599627370496≤m)(hm2:m<9007199254740992)(he:972≤e) :
  Calls Tryz.prog 279 #[.int .u64 ((S+m:Nat):Int),.int .i64 e] w fun e' w'=>e'=.returned (.tuple #[.float .f64 (S+9218868437227405312),.iface 158 (.int .i64 1)])∧w=w':=by
 have ha:bits .and .u64 ((S+m:Nat):Int) 4503599627370496=4503599627370496:=by
  have ha:=uZ S m hS (by omega);rw[if_neg (by omega)]at ha
  exact ha
 have hb:=aIE S m hS (by omega);have hc:bits .or .u64 (S:Int) 9218868437227405312=((S+9218868437227405312:Nat):Int):=oE S 9218868437227405312 hS (by omega);have d:=fun w=>kY ((S+9218868437227405312:Nat):Int) w
 simp only[Int.toNat_natCast]at d;obtain⟨x,hx⟩:∃x,S+m=x:=⟨_,rfl⟩
 obtain⟨y,hy⟩:∃y,S+9218868437227405312=y:=⟨_,rfl⟩
 rw[hx]at ha hb ⊢
 rw[hy]at hc d ⊢
 clear hx hy hm hm2 hS;go_enter Tryz.func279,Tryz.ntmps279
 go_wp2
 go_ret2;exact⟨rfl,rfl⟩
theorem aHp (S m:Nat)(k:Nat)(e:Int)(w:World)(hS:fK S)(hm:4503599627370496≤m)(hm2:m<9007199254740992)(he:e=(k:Int)-1074)(hk:k<2046) :
  Calls Tryz.prog 279 #[.int .u64 ((S+m:Nat):Int),.int .i64 e] w fun e' w'=>e'=.returned (.tuple #[.float .f64 (S+(k*4503599627370496+m)),.nilIface])∧w=w':=by
 have ha:=uZ S m hS (by omega);rw[if_neg (by omega)]at ha
 obtain⟨f,rfl⟩:∃f,m=4503599627370496+f:=⟨m-4503599627370496,by omega⟩
 have hb:=aD7 S f hS (by omega);have hc:=(aHo S f (k+1) hS (by omega)).resolve_right (by omega);have e1:((k+1)*4503599627370496:Nat)=k*4503599627370496+4503599627370496:=by omega
 have e2:S+((k+1)*4503599627370496+f)=S+(k*4503599627370496+(4503599627370496+f)):=by omega
 rw[e2]at hc
 have d:=fun w=>kY ((S+(k*4503599627370496+(4503599627370496+f)):Nat):Int) w
 simp only[Int.toNat_natCast]at d;have hsl:IntKind.u64.wrap (((k:Int)+1)*4503599627370496)=(((k+1)*4503599627370496:Nat):Int):=by rw[dQ];omega
 have hcv:(1075:Int)+((k:Int)-1074)=(k:Int)+1:=by omega
 have h0:(0:Int)≤(k:Int)+1:=by omega
 have h1:(k:Int)+1≤2046:=by omega
 subst he;obtain⟨x,hx⟩:∃x,S+(4503599627370496+f)=x:=⟨_,rfl⟩
 obtain⟨y,hy⟩:∃y,S+(k*4503599627370496+(4503599627370496+f))=y:=⟨_,rfl⟩
 obtain⟨z,hz⟩:∃z,S+f=z:=⟨_,rfl⟩
 obtain⟨v,hv⟩:∃v,(k+1)*4503599627370496=v:=⟨_,rfl⟩
 rw[hx]at ha hb ⊢
 rw[hz]at hb hc
 rw[hv]at hc hsl
 rw[hy]at hc d ⊢
 clear hx hy hz hv hm hm2 hS e1 e2;go_enter Tryz.func279,Tryz.ntmps279
 go_wp2
 go_ret2;exact⟨rfl,rfl⟩
theorem aEc (w:World):Calls Tryz.prog 275 #[.int .u64 9007199254740992] w fun e w'=>e=.returned (.int .u64 36028797018963966)∧w=w':=by
 go_enter Tryz.func275,Tryz.ntmps275
 go_wp2
 go_ret;exact⟨rfl,rfl⟩
open Go.RowKit
theorem aDu (d b:Nat)(w:World)(hd:d<18446744073709551616)(hb:Lib.bitLen d=b):Calls Tryz.prog 191 #[.int .u64 (d:Int)] w fun e w'=>e=.returned (.int .i64 b)∧w=w':=by
 refine(Tryz.bits_Len64 _ _ (by omega) (by omega)).mono ?_;rintro e w' ⟨rfl,rfl⟩;rw[Int.toNat_natCast,hb];exact⟨rfl,rfl⟩
theorem aAD (d i b S s:Nat)(lp e:Int)(w:World)(T:aB w)(hS:fK S)(hd:d<18446744073709551616)(hb:Lib.bitLen d=b)(hb64:b≤64)(hi:i<696)(hlp:((i:Int)-348)*108853 / 32768=lp)(he:min 1074 (53-(b:Int)-lp)=e)(hs:-(e-(64-(b:Int))+lp+3)=s)(h64:64≤s) :
  Calls Tryz.prog 245 #[.int .u64 d,.int .i64 ((i:Int)-348),.int .u64 S] w fun e' w'=>e'=.returned (.tuple #[.float .f64 S,.nilIface])∧Below w.heap.size w w':=by
 have L:=fun w=>aDu d b w hd hb
 have HL:=hid L;have d1:=fun w=>kY (S:Int) w
 simp only[Int.toNat_natCast]at d1;have o0:bits .or .u64 (S:Int) 0=(S:Int):=by
  have:=oE S 0 hS (by omega);exact this
 have HT:=hid T;have HLP:=hid hlp;have HE:=hid he;have HS:=hid hs;have hsz:=T.size;clear L T hlp he hs hb hS;have LG:∀w,Calls Tryz.prog 272 #[.int .i64 ((i:Int)-348)] w fun e w'=>e=.returned (.int .i64 lp)∧w=w':=fun w=>by
  have:=nJ ((i:Int)-348) w (by omega) (by omega);rw[HLP.out]at this
  exact this
 have hl1:-1200≤lp:=by have:=HLP.out;omega
 have hl2:lp≤1200:=by have:=HLP.out;omega
 have HLG:=hid LG;have he1:-1300≤e:=by have:=HE.out;omega
 have he2:e≤1074:=by have:=HE.out;omega
 clear LG;go_enter Tryz.func245,Tryz.ntmps245
 go_wp2_with (first
  | (go_at_call 191;((with_reducible refine(HL.out _).mono ?_);rintro e w' ⟨rfl,rfl⟩))
  | (go_at_call 272;((with_reducible refine(HLG.out _).mono ?_);rintro e w' ⟨rfl,rfl⟩)))
 rw[HE.out];have T1:aB (w.alloc (.cells #[.int .u64 0,.int .u64 0,.int .i64 0] 265)):=HT.out.below ((Below.refl w.heap.size w).alloc lS _) lS;have hg:=heap_alloc_new w (.cells #[.int .u64 0,.int .u64 0,.int .i64 0] 265);refine(iN (e-(64-(b:Int))) lp s i _ w.heap.size _ _ _ _ hg rfl hi (by omega) T1 (by omega) (by omega) (by omega) (by omega) HS.out).mono ?_;rintro e1 w1 ⟨rfl,hg1,K1⟩;have hz1:w.heap.size<w1.heap.size:=by have:=K1.size;simp at this;omega
 have B1:Below w.heap.size w w1:=(((aF.refl (fun _=>False) w).alloc _).trans' K1 (fun _ _ h=>by omega)).below lS (fun _ _ h=>h.elim);have HB1:=hid B1;have c0:=cell_of_row w1 w.heap.size 0 _ _ _ hg1;have c1:=cell_of_row w1 w.heap.size 1 _ _ _ hg1;have c2:=cell_of_row w1 w.heap.size 2 _ _ _ hg1;simp at c0 c1 c2;obtain⟨g,hgg⟩:∃g,w.heap.size=g:=⟨_,rfl⟩
 rw[hgg]at c0 c1 c2 hg1 hz1 ⊢
 clear T1 hg K1 B1 hgg hsz hg1;go_wp2
 go_ret2;exact⟨rfl,HB1.out⟩
theorem aA3 (u:Nat):cA u≤u+1:=by
 unfold cA;split
 ·have:u%2=0∨u%2=1:=by omega
  rcases this with h|h
  ·rw[h,Nat.or_zero];omega
  ·rw[h,vR];omega
 ·omega
theorem aKJ (u:Nat):gF u≤1:=by unfold gF;split<;>omega
def lZ (S k m:Nat):Nat:=S+min (k*4503599627370496+m) 9218868437227405312
def sL (k:Nat):Value:=if 2046≤k then .iface 158 (.int .i64 1)else .nilIface
def oI (S k m:Nat)(e:Ending):Prop:=e=.returned (.tuple #[.float .f64 (lZ S k m),sL k])
theorem aJv (S k m:Nat)(w:World)(hS:fK S)(hm:m<9007199254740992)(h:4503599627370496≤m∨k=0)(hk:k<4000) :
  Calls Tryz.prog 279 #[.int .u64 ((S+m:Nat):Int),.int .i64 ((k:Int)-1074)] w fun e' w'=>oI S k m e'∧w=w':=by
 unfold oI lZ sL;by_cases h1:m<4503599627370496
 ·obtain rfl:k=0:=by omega
  rw[if_neg (by decide),Nat.zero_mul,Nat.zero_add,Nat.min_eq_left (by omega)];exact aJx S m _ w hS h1
 ·by_cases h2:2046≤k
  ·rw[if_pos h2,Nat.min_eq_right (by omega)];exact aJw S m ((k:Int)-1074) w hS (by omega) hm (by omega)
  ·rw[if_neg h2,Nat.min_eq_left (by omega)];exact aHp S m k _ w hS (by omega) hm rfl (by omega)
theorem yD (d i b S s u k m x:Nat)(lp e:Int)(w:World)(T:aB w)(hS:fK S)(hd:d<18446744073709551616)(hb:Lib.bitLen d=b)(hb64:b≤64)(hi:i<696)(hlp:((i:Int)-348)*108853 / 32768=lp)(he:min 1074 (53-(b:Int)-lp)=e)(hs:-(e-(64-(b:Int))+lp+3)=s)(h64:s<64)
  (hx:d*2^(64-b)=x) (hx2:x<18446744073709551616) (hu:cR x (aM i) (aU i) s=u) (hu2:u<9223372036854775808) (hm:bP (cA u)=m) (hm':jG (cA u)=m) (hm2:m<9007199254740992) (hk:((k:Int)-1074)=-(e-gF u)) (hkm:4503599627370496≤m∨k=0) :
  Calls Tryz.prog 245 #[.int .u64 d,.int .i64 ((i:Int)-348),.int .u64 S] w fun e' w'=>oI S k m e'∧Below w.heap.size w w':=by
 have L:=fun w=>aDu d b w hd hb
 have HL:=hid L;obtain⟨r1,r2,r3⟩:=sR i hi;clear r3;have U1:=fun(w:World) b o c0 c1 c2=>dY x (aM i) (aU i) s w b o c0 c1 c2 hx2 r1 r2 h64
 rw[hu]at U1
 have HU1:=hid U1;have hwx:IntKind.u64.wrap ((d:Int)*2^(64-b))=(x:Int):=by
  rw[dQ,←hx];have:((d*2^(64-b):Nat):Int)=(d:Int)*2^(64-b):=by push_cast;rfl
  rw[←this];omega
 have HWX:=hid hwx;have RD:=fun w=>qO (cA u) m w (by have:=aA3 u;omega) hm'
 have PK:=fun w=>aJv S k m w hS hm2 hkm (by have:=aKJ u;omega)
 have or1:=oE S m hS (by omega);have HRD:=hid RD;have HPK:=hid PK;have HHK:=hid hk;clear hwx RD PK hk hx hkm hm hm';clear U1 r1 r2 hu;have HT:=hid T;have HLP:=hid hlp;have HE:=hid he;have HS:=hid hs;have hsz:=T.size;clear L T hlp he hs hb hS;have LG:∀w,Calls Tryz.prog 272 #[.int .i64 ((i:Int)-348)] w fun e w'=>e=.returned (.int .i64 lp)∧w=w':=fun w=>by
  have:=nJ ((i:Int)-348) w (by omega) (by omega);rw[HLP.out]at this
  exact this
 have hl1:-1200≤lp:=by have:=HLP.out;omega
 have hl2:lp≤1200:=by have:=HLP.out;omega
 have HLG:=hid LG;have he1:-1300≤e:=by have:=HE.out;omega
 have he2:e≤1074:=by have:=HE.out;omega
 clear LG;go_enter Tryz.func245,Tryz.ntmps245
 go_wp2_with (first
  | (go_at_call 191;((with_reducible refine(HL.out _).mono ?_);rintro e w' ⟨rfl,rfl⟩))
  | (go_at_call 272;((with_reducible refine(HLG.out _).mono ?_);rintro e w' ⟨rfl,rfl⟩)))
 rw[HE.out];have T1:aB (w.alloc (.cells #[.int .u64 0,.int .u64 0,.int .i64 0] 265)):=HT.out.below ((Below.refl w.heap.size w).alloc lS _) lS;have hg:=heap_alloc_new w (.cells #[.int .u64 0,.int .u64 0,.int .i64 0] 265);refine(iN (e-(64-(b:Int))) lp s i _ w.heap.size _ _ _ _ hg rfl hi (by omega) T1 (by omega) (by omega) (by omega) (by omega) HS.out).mono ?_;rintro e1 w1 ⟨rfl,hg1,K1⟩;have hz1:w.heap.size<w1.heap.size:=by have:=K1.size;simp at this;omega
 have B1:Below w.heap.size w w1:=(((aF.refl (fun _=>False) w).alloc _).trans' K1 (fun _ _ h=>by omega)).below lS (fun _ _ h=>h.elim);have HB1:=hid B1;have c0:=cell_of_row w1 w.heap.size 0 _ _ _ hg1;have c1:=cell_of_row w1 w.heap.size 1 _ _ _ hg1;have c2:=cell_of_row w1 w.heap.size 2 _ _ _ hg1;simp at c0 c1 c2;obtain⟨g,hgg⟩:∃g,w.heap.size=g:=⟨_,rfl⟩
 rw[hgg]at c0 c1 c2 hg1 hz1 ⊢
 clear T1 hg K1 B1 hgg hsz hg1;go_wp2_with fail
 rw[HWX.out];refine(HU1.out w1 g 0 c0 c1 c2).mono ?_;rintro e w2 ⟨rfl,n,rfl⟩;by_cases c:36028797018963966≤u
 ·have c':(36028797018963966:Int)≤u:=by omega
  go_wp2_with (first
   | (go_at_call 275;((with_reducible refine(aEc _).mono ?_);rintro e w' ⟨rfl,rfl⟩))
   | (go_at_call 266;((with_reducible refine(aA2 _).mono ?_);rintro e w' ⟨rfl,rfl⟩)))
  have ecu:bits .or .u64 ((u:Int) / 2) (bits .and .u64 (u:Int) 1)=((cA u:Nat):Int):=by
   have e1:=yK u (by omega);have e2:=vQ (u / 2) (u%2) (by omega) (by omega);rw[e1];have e3:((u / 2:Nat):Int)=(u:Int) / 2:=by omega
   rw[←e3,e2];unfold cA;rw[if_pos c]
  rw[ecu];refine(HRD.out _).mono ?_;rintro e1 w3 ⟨rfl,rfl⟩;have ek:-(e-1)=(k:Int)-1074:=by
   have:=HHK.out;unfold gF at this;rw[if_pos c]at this
   omega
  have eSM:(S:Int)+(m:Int)=((S+m:Nat):Int):=by omega
  have HEK:=hid ek;have HES:=hid eSM;clear ek ecu eSM;go_wp2_with fail
  rw[HES.out,HEK.out];refine(HPK.out _).mono ?_;rintro e1 w4 ⟨hp,rfl⟩;unfold oI at hp;subst hp;go_wp2
  go_ret2;exact⟨rfl,HB1.out.trans ⟨rfl,rfl,rfl,Nat.le_refl _,fun _ _=>rfl⟩⟩
 ·have c':decide ((36028797018963966:Int)≤(u:Int))=false:=decide_eq_false (by omega);go_wp2_with (first
   | (go_at_call 275;((with_reducible refine(aEc _).mono ?_);rintro e w' ⟨rfl,rfl⟩))
   | (go_at_call 266;((with_reducible refine(zY _).mono ?_);rintro e w' ⟨rfl,rfl⟩)))
  have ecu:bits .or .u64 (u:Int) (bits .and .u64 (u:Int) 1)=((cA u:Nat):Int):=by
   have e1:=yK u (by omega);have e2:=vQ u (u%2) (by omega) (by omega);rw[e1,e2];unfold cA;rw[if_neg c];congr 1;have:u%2=0∨u%2=1:=by omega
   rcases this with h|h
   ·rw[h,Nat.or_zero]
   ·rw[h,vR];omega
  rw[ecu];refine(HRD.out _).mono ?_;rintro e1 w3 ⟨rfl,rfl⟩;have ek:-e=(k:Int)-1074:=by
   have:=HHK.out;unfold gF at this;rw[if_neg c]at this
   omega
  have eSM:(S:Int)+(m:Int)=((S+m:Nat):Int):=by omega
  have HEK:=hid ek;have HES:=hid eSM;clear ek ecu eSM;go_wp2_with fail
  rw[HES.out,HEK.out];refine(HPK.out _).mono ?_;rintro e1 w4 ⟨hp,rfl⟩;unfold oI at hp;subst hp;go_wp2
  go_ret2;exact⟨rfl,HB1.out.trans ⟨rfl,rfl,rfl,Nat.le_refl _,fun _ _=>rfl⟩⟩
