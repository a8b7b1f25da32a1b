/-
shortFloat at the least normal float.
-/
import Derived.Test.YtcfgbdhpcboikaaGreatDoorFtoaS
namespace Go.Proofs.YtcfgbdhpcboikaaGreatDoor
open Go.Lib (hid)
set_option maxHeartbeats 4000000
set_option maxRecDepth 100000
open Go.RowKit
theorem vR {n:Nat}:n≤n:=Nat.le_refl n
theorem aEB (m:Nat)(e lp:Int)(i s odd umin umax um nmin nmax dmin dmax dm:Nat)(w:World)(T:aA w)(he1:-1085≤e)(he2:e≤-1085)(hm1:9223372036854775808≤m)(hm2:m≤9223372036854775808)
  (hp:-((e+11)*78913 / 262144)=(i:Int)-348) (hi:i<696) (hlp:((i:Int)-348)*108853 / 32768=lp) (hs:-(e+lp+3)=s) (hs64:s<64) (hodd:m / 2048%2=odd)
  (h1:bU (m-1024) (aG i) (aO i) s=umin) (h2:bU (m+1024) (aG i) (aO i) s=umax) (h3:bU m (aG i) (aO i) s=um)
  (n1:dV umin odd=nmin) (n2:dV umax (-(odd:Int))=nmax) (k1:oB nmin=dmin) (k2:nmax / 4=dmax) (k3:eV um=dm) (hH:aG i<18446744073709551616) (hL:aO i<18446744073709551616) :
  Calls Tryz.prog 265 #[.int .u64 m,.int .i64 e] w fun e' w'=>e'=.returned (.tuple #[.int .u64 (bA dmin dmax dm ((i:Int)-348)).1,.int .i64 (bA dmin dmax dm ((i:Int)-348)).2])∧Below w.heap.size w w':=by
 have U1:=fun(w:World) b o c0 c1 c2=>cQ (m-1024) (aG i) (aO i) s w b o c0 c1 c2 (by omega) hH hL hs64
 have U2:=fun(w:World) b o c0 c1 c2=>cQ (m+1024) (aG i) (aO i) s w b o c0 c1 c2 (by omega) hH hL hs64
 have U3:=fun(w:World) b o c0 c1 c2=>cQ m (aG i) (aO i) s w b o c0 c1 c2 (by omega) hH hL hs64
 rw[h1]at U1
 rw[h2]at U2
 rw[h3]at U3
 have em:((m-1024:Nat):Int)=(m:Int)-1024:=by omega
 have ep:((m+1024:Nat):Int)=(m:Int)+1024:=by omega
 rw[em]at U1
 rw[ep]at U2
 have ha:=rZ (m / 2048) (by omega);have e5:((m / 2048:Nat):Int)=(m:Int) / 2048:=by omega
 rw[hodd,e5]at ha
 have hodd2:odd≤1:=by omega
 have j1:nmin<18446744073709551616:=by rw[←n1];exact gY _ _
 have j2:nmax<18446744073709551616:=by rw[←n2];exact gY _ _
 have j3:dmax<18446744073709551616:=by omega
 have N1:=fun w=>jC umin nmin odd w (by rw[←h1];exact bX _ _ _ _ (by omega) hH hL) n1
 have N2:=fun w=>jC umax nmax (-(odd:Int)) w (by rw[←h2];exact bX _ _ _ _ (by omega) hH hL) n2
 have C1:=fun w=>vK nmin dmin w j1 k1
 have F1:=fun w=>sO nmax dmax w j2 k2
 have R1:=fun w=>lC um dm w (by rw[←h3];exact bX _ _ _ _ (by omega) hH hL) k3
 have l1:umin<18446744073709551616:=by rw[←h1];exact bX _ _ _ _ (by omega) hH hL
 have l2:umax<18446744073709551616:=by rw[←h2];exact bX _ _ _ _ (by omega) hH hL
 have l3:um<18446744073709551616:=by rw[←h3];exact bX _ _ _ _ (by omega) hH hL
 have HU1:=hid U1;have HU2:=hid U2;have HU3:=hid U3;have HT:=hid T;have HS:=hid hs;have HO:=hid hodd;have HN1:=hid N1;have HN2:=hid N2;have HC1:=hid C1;have HF1:=hid F1;have HR1:=hid R1;clear U1 U2 U3 h1 h2 h3 hH hL T hs hodd N1 N2 C1 F1 R1 n1 n2 k1 k2 k3 em ep e5;have hne:((m:Int)==9223372036854775808)=true:=beq_iff_eq.2 (by omega);go_enter Tryz.func265,Tryz.ntmps265
 go_wp2_with (first
  | (go_at_call 260;refine(pY _ _ (by omega) (by omega)).mono ?_;rintro e w' ⟨rfl,rfl⟩)
  | (go_at_call 272;refine(lA _ _ (by omega) (by omega)).mono ?_;rintro e w' ⟨rfl,rfl⟩))
 have T1:aA (w.alloc (.cells #[.int .u64 0,.int .u64 0,.int .i64 0] 265)):=HT.out.below ((Below.refl w.heap.size w).alloc vR _) vR;have hg:=heap_alloc_new w (.cells #[.int .u64 0,.int .u64 0,.int .i64 0] 265);have hsz:=HT.out.size;refine(fO e lp s i _ w.heap.size _ _ _ _ hg rfl hi (by omega) T1 (by omega) (by omega) (by omega) (by omega) HS.out).mono ?_;rintro e1 w1 ⟨rfl,hg1,K1⟩;have hz1:w.heap.size<w1.heap.size:=by have:=K1.size;simp at this;omega
 have B1:Below w.heap.size w w1:=(((aC.refl (fun _=>False) w).alloc _).trans' K1 (fun _ _ h=>by omega)).below vR (fun _ _ h=>h.elim);have HB1:=hid B1;have HK1:=hid K1;have c0:=cell_of_row w1 w.heap.size 0 _ _ _ hg1;have c1:=cell_of_row w1 w.heap.size 1 _ _ _ hg1;have c2:=cell_of_row w1 w.heap.size 2 _ _ _ hg1;simp at c0 c1 c2;obtain⟨g,hgg⟩:∃g,w.heap.size=g:=⟨_,rfl⟩
 rw[hgg]at c0 c1 c2 hg1 hz1 ⊢
 clear T1 hg K1 B1 hgg hsz hg1;go_wp2_with (first
  | (go_at_call 274;((with_reducible refine(HU1.out _ _ _ ?_ ?_ ?_).mono ?_);all_goals first|exact c0|exact c1|exact c2|skip);rintro e w' ⟨rfl,n,rfl⟩)
  | (go_at_call 274;((with_reducible refine(HU2.out _ _ _ ?_ ?_ ?_).mono ?_);all_goals first|exact c0|exact c1|exact c2|skip);rintro e w' ⟨rfl,n,rfl⟩)
  | (go_at_call 274;((with_reducible refine(HU3.out _ _ _ ?_ ?_ ?_).mono ?_);all_goals first|exact c0|exact c1|exact c2|skip);rintro e w' ⟨rfl,n,rfl⟩)
  | (go_at_call 277;((with_reducible refine(HR1.out _).mono ?_);rintro e w' ⟨rfl,rfl⟩))
  | (go_at_call 283;((with_reducible refine(HN1.out _).mono ?_);rintro e w' ⟨rfl,rfl⟩))
  | (go_at_call 283;((with_reducible refine(HN2.out _).mono ?_);rintro e w' ⟨rfl,rfl⟩))
  | (go_at_call 284;((with_reducible refine(HC1.out _).mono ?_);rintro e w' ⟨rfl,rfl⟩))
  | (go_at_call 285;((with_reducible refine(HF1.out _).mono ?_);rintro e w' ⟨rfl,rfl⟩)))
 ·have hle:dmin≤dmax / 10*10:=by omega
  go_ret2;refine⟨?_,HB1.out.trans ⟨rfl,rfl,rfl,Nat.le_refl _,fun _ _=>rfl⟩⟩;have e:bA dmin dmax dm ((i:Int)-348)=(dmax / 10,-((i:Int)-348-1)):=by unfold bA;rw[if_pos hle]
  rw[e];rfl
 ·have hle:¬dmin≤dmax / 10*10:=by omega
  have hlt:dmin<dmax:=by assumption
  go_ret2;refine⟨?_,HB1.out.trans ⟨rfl,rfl,rfl,Nat.le_refl _,fun _ _=>rfl⟩⟩;have e:bA dmin dmax dm ((i:Int)-348)=(dm,-((i:Int)-348)):=by unfold bA;rw[if_neg hle,if_pos hlt]
  rw[e];rfl
 ·have hle:¬dmin≤dmax / 10*10:=by omega
  have hlt:¬dmin<dmax:=by assumption
  go_ret2;refine⟨?_,HB1.out.trans ⟨rfl,rfl,rfl,Nat.le_refl _,fun _ _=>rfl⟩⟩;have e:bA dmin dmax dm ((i:Int)-348)=(dmin,-((i:Int)-348)):=by unfold bA;rw[if_neg hle,if_neg hlt]
  rw[e];rfl
open Go.RowKit
theorem aGJ (q:Nat)(h:q<9223372036854775808):wrap64 (q:Int)=(q:Int):=by unfold wrap64;omega
theorem aIA (m z mn mx:Nat)(e lp:Int)(i s odd umin umax um nmin nmax dmin dmax dm:Nat)(w:World)(T:aA w)(he1:-1137≤e)(he2:e < -1085)(hze:11+(-1085-e)=(z:Int))(hm1:9223372036854775808≤m)(hm2:m<18446744073709551616)(hmn:m-2^(z-1)=mn)(hmx:m+2^(z-1)=mx)(hmx2:mx<18446744073709551616)
  (hp:-((e+z)*78913 / 262144)=(i:Int)-348) (hi:i<696) (hlp:((i:Int)-348)*108853 / 32768=lp) (hs:-(e+lp+3)=s) (hs64:s<64) (hodd:m / 2^z%2=odd)
  (h1:bU mn (aG i) (aO i) s=umin) (h2:bU mx (aG i) (aO i) s=umax) (h3:bU m (aG i) (aO i) s=um)
  (n1:dV umin odd=nmin) (n2:dV umax (-(odd:Int))=nmax) (k1:oB nmin=dmin) (k2:nmax / 4=dmax) (k3:eV um=dm) (hH:aG i<18446744073709551616) (hL:aO i<18446744073709551616) :
  Calls Tryz.prog 265 #[.int .u64 m,.int .i64 e] w fun e' w'=>e'=.returned (.tuple #[.int .u64 (bA dmin dmax dm ((i:Int)-348)).1,.int .i64 (bA dmin dmax dm ((i:Int)-348)).2])∧Below w.heap.size w w':=by
 have hz1:12≤(z:Int):=by omega
 have hz2:(z:Int)≤63:=by omega
 have hmg:¬(-1085:Int)<e:=by omega
 have hge:¬(-1085:Int)≤e:=by omega
 obtain⟨Pz,hPz⟩:∃P,2^(z-1)=P:=⟨_,rfl⟩
 have hpz:Pz<9223372036854775808:=by
  have:2^(z-1)≤2^62:=Nat.pow_le_pow_right (by decide) (by omega);have e62:(2:Nat)^62=4611686018427387904:=by decide
  omega
 have ecast:((2:Int)^(z-1))=(Pz:Int):=by rw[←hPz,Int.natCast_pow];rfl
 rw[hPz]at hmn hmx
 have f0:IntKind.u64.wrap ((2:Int)^(z-1))=(Pz:Int):=by rw[cM,ecast];omega
 have f1:IntKind.u64.wrap ((m:Int)-IntKind.u64.wrap ((2:Int)^(z-1)))=(mn:Int):=by rw[f0,cM];omega
 have f2:IntKind.u64.wrap ((m:Int)+IntKind.u64.wrap ((2:Int)^(z-1)))=(mx:Int):=by rw[f0,cM];omega
 obtain⟨q,hq'⟩:∃q,m / 2^z=q:=⟨_,rfl⟩
 have hq4:q<9007199254740992:=by
  rw[←hq'];refine Nat.div_lt_of_lt_mul ?_;have h12:2^12≤2^z:=Nat.pow_le_pow_right (by decide) (by omega);have e12:(2:Nat)^12=4096:=by decide
  rw[e12]at h12
  have:=Nat.mul_le_mul_right 9007199254740992 h12;refine Nat.lt_of_lt_of_le hm2 (Nat.le_trans ?_ this);decide
 have e3:(q:Int)=(m:Int) / 2^z:=by rw[←hq',Int.natCast_ediv,Int.natCast_pow];rfl
 rw[hq']at hodd
 have e4:wrap64 (q:Int)=(q:Int):=aGJ q (by clear e3;omega);have hq63:q<9223372036854775808:=Nat.lt_trans hq4 (by decide);have e5:=rZ q hq63;rw[hodd]at e5
 have f3:bits .and .i64 (wrap64 ((m:Int) / 2^z)) 1=(odd:Int):=by rw[←e3,e4,e5]
 have HG1:=hid f1;have HG2:=hid f2;have HG3:=hid f3;clear e3 e4 e5 hq' hq4 hq63 f1 f2 f3;have hodd2:odd≤1:=by omega
 have hmn2:mn<18446744073709551616:=by omega
 have U1:=fun(w:World) b o c0 c1 c2=>cQ mn (aG i) (aO i) s w b o c0 c1 c2 hmn2 hH hL hs64
 have U2:=fun(w:World) b o c0 c1 c2=>cQ mx (aG i) (aO i) s w b o c0 c1 c2 hmx2 hH hL hs64
 have U3:=fun(w:World) b o c0 c1 c2=>cQ m (aG i) (aO i) s w b o c0 c1 c2 (by omega) hH hL hs64
 rw[h1]at U1
 rw[h2]at U2
 rw[h3]at U3
 have j1:nmin<18446744073709551616:=by rw[←n1];exact gY _ _
 have j2:nmax<18446744073709551616:=by rw[←n2];exact gY _ _
 have j3:dmax<18446744073709551616:=by omega
 have N1:=fun w=>jC umin nmin odd w (by rw[←h1];exact bX _ _ _ _ (by omega) hH hL) n1
 have N2:=fun w=>jC umax nmax (-(odd:Int)) w (by rw[←h2];exact bX _ _ _ _ (by omega) hH hL) n2
 have C1:=fun w=>vK nmin dmin w j1 k1
 have F1:=fun w=>sO nmax dmax w j2 k2
 have R1:=fun w=>lC um dm w (by rw[←h3];exact bX _ _ _ _ (by omega) hH hL) k3
 have l1:umin<18446744073709551616:=by rw[←h1];exact bX _ _ _ _ (by omega) hH hL
 have l2:umax<18446744073709551616:=by rw[←h2];exact bX _ _ _ _ (by omega) hH hL
 have l3:um<18446744073709551616:=by rw[←h3];exact bX _ _ _ _ (by omega) hH hL
 have HU1:=hid U1;have HU2:=hid U2;have HU3:=hid U3;have HT:=hid T;have HS:=hid hs;have HO:=hid hodd;have HN1:=hid N1;have HN2:=hid N2;have HC1:=hid C1;have HF1:=hid F1;have HR1:=hid R1;clear U1 U2 U3 h1 h2 h3 hH hL T hs hodd N1 N2 C1 F1 R1 n1 n2 k1 k2 k3 f0 ecast hmn hmx hPz;cases hq:((m:Int)==9223372036854775808);all_goals
  go_enter Tryz.func265,Tryz.ntmps265
  go_wp2_with (first
   | (go_at_call 260;refine(pY _ _ (by omega) (by omega)).mono ?_;rintro e w' ⟨rfl,rfl⟩)
   | (go_at_call 272;refine(lA _ _ (by omega) (by omega)).mono ?_;rintro e w' ⟨rfl,rfl⟩))
  rw[HG1.out,HG2.out,HG3.out];have T1:aA (w.alloc (.cells #[.int .u64 0,.int .u64 0,.int .i64 0] 265)):=HT.out.below ((Below.refl w.heap.size w).alloc vR _) vR;have hg:=heap_alloc_new w (.cells #[.int .u64 0,.int .u64 0,.int .i64 0] 265);have hsz:=HT.out.size;refine(fO e lp s i _ w.heap.size _ _ _ _ hg rfl hi (by omega) T1 (by omega) (by omega) (by omega) (by omega) HS.out).mono ?_;rintro e1 w1 ⟨rfl,hg1,K1⟩;have hz1:w.heap.size<w1.heap.size:=by have:=K1.size;simp at this;omega
  have B1:Below w.heap.size w w1:=(((aC.refl (fun _=>False) w).alloc _).trans' K1 (fun _ _ h=>by omega)).below vR (fun _ _ h=>h.elim);have HB1:=hid B1;have HK1:=hid K1;have c0:=cell_of_row w1 w.heap.size 0 _ _ _ hg1;have c1:=cell_of_row w1 w.heap.size 1 _ _ _ hg1;have c2:=cell_of_row w1 w.heap.size 2 _ _ _ hg1;simp at c0 c1 c2;obtain⟨g,hgg⟩:∃g,w.heap.size=g:=⟨_,rfl⟩
  rw[hgg]at c0 c1 c2 hg1 hz1 ⊢
  clear T1 hg K1 B1 hgg hsz hg1;go_wp2_with (first
   | (go_at_call 274;((with_reducible refine(HU1.out _ _ _ ?_ ?_ ?_).mono ?_);all_goals first|exact c0|exact c1|exact c2|skip);rintro e w' ⟨rfl,n,rfl⟩)
   | (go_at_call 274;((with_reducible refine(HU2.out _ _ _ ?_ ?_ ?_).mono ?_);all_goals first|exact c0|exact c1|exact c2|skip);rintro e w' ⟨rfl,n,rfl⟩)
   | (go_at_call 274;((with_reducible refine(HU3.out _ _ _ ?_ ?_ ?_).mono ?_);all_goals first|exact c0|exact c1|exact c2|skip);rintro e w' ⟨rfl,n,rfl⟩)
   | (go_at_call 277;((with_reducible refine(HR1.out _).mono ?_);rintro e w' ⟨rfl,rfl⟩))
   | (go_at_call 283;((with_reducible refine(HN1.out _).mono ?_);rintro e w' ⟨rfl,rfl⟩))
   | (go_at_call 283;((with_reducible refine(HN2.out _).mono ?_);rintro e w' ⟨rfl,rfl⟩))
   | (go_at_call 284;((with_reducible refine(HC1.out _).mono ?_);rintro e w' ⟨rfl,rfl⟩))
   | (go_at_call 285;((with_reducible refine(HF1.out _).mono ?_);rintro e w' ⟨rfl,rfl⟩)))
  ·have hle:dmin≤dmax / 10*10:=by omega
   go_ret2;refine⟨?_,HB1.out.trans ⟨rfl,rfl,rfl,Nat.le_refl _,fun _ _=>rfl⟩⟩;have e:bA dmin dmax dm ((i:Int)-348)=(dmax / 10,-((i:Int)-348-1)):=by unfold bA;rw[if_pos hle]
   rw[e];rfl
  ·have hle:¬dmin≤dmax / 10*10:=by omega
   have hlt:dmin<dmax:=by assumption
   go_ret2;refine⟨?_,HB1.out.trans ⟨rfl,rfl,rfl,Nat.le_refl _,fun _ _=>rfl⟩⟩;have e:bA dmin dmax dm ((i:Int)-348)=(dm,-((i:Int)-348)):=by unfold bA;rw[if_neg hle,if_pos hlt]
   rw[e];rfl
  ·have hle:¬dmin≤dmax / 10*10:=by omega
   have hlt:¬dmin<dmax:=by assumption
   go_ret2;refine⟨?_,HB1.out.trans ⟨rfl,rfl,rfl,Nat.le_refl _,fun _ _=>rfl⟩⟩;have e:bA dmin dmax dm ((i:Int)-348)=(dmin,-((i:Int)-348)):=by unfold bA;rw[if_neg hle,if_neg hlt]
   rw[e];rfl
open Go.RowKit
theorem aAw (i:Nat)(h:i<696):aG i<18446744073709551616∧aO i<18446744073709551616:=⟨(rT i h).1,(rT i h).2.1⟩
theorem aD4 (E f:Nat)(E1:1≤E)(E2:E≤2046)(f1:f<4503599627370496) :
  ∃d q j,fJ (E*4503599627370496+f) d q j∧∀w',aA w'→Calls Tryz.prog 265 #[.int .u64 ((4503599627370496+f)*2048:Nat),.int .i64 ((E:Int)-1086)] w' fun e' w2=>e'=.returned (.tuple #[.int .u64 d,.int .i64 q])∧Below w'.heap.size w' w2:=by
 obtain⟨k,hk⟩:∃k,E=k+1:=⟨E-1,by omega⟩
 subst hk;have er:(k+1)*4503599627370496+f=k*4503599627370496+(4503599627370496+f):=by omega
 rw[er];have hrI:k*4503599627370496+(4503599627370496+f)<aI:=by unfold aI;omega
 have ee:((k+1:Nat):Int)-1086=(k:Int)-1074-11:=by omega
 rw[ee];have p11:(2:Nat)^11=2048:=by decide
 have p10:(2:Nat)^(11-1)=1024:=by decide
 by_cases hf:4503599627370496<4503599627370496+f∨k=0
 ·obtain⟨r1,r2,r3,r4,r5,r6,r7⟩:=aDz k (by omega);obtain⟨i,hi⟩:∃i,i=iR k:=⟨_,rfl⟩
  rw[←hi]at r1 r2 r5 r6 r7
  obtain⟨s,hs⟩:∃s:Nat,-((k:Int)-1074-11+lpI i+3)=s:=⟨(-((k:Int)-1074-11+lpI i+3)).toNat,by omega⟩
  obtain⟨d,q,j,hD,hA⟩:=aBK (4503599627370496+f) k 11 i s ((4503599627370496+f)%2) _ _ _ ((k:Int)-1074-11) (by omega) (by omega) (by omega) hf (by omega) (by rw[p11];omega) hrI hi (by omega) hs rfl rfl rfl rfl;refine⟨d,q,j,hA,fun w' T'=>?_⟩;rw[p10,p11]at hD
  obtain⟨hH,hL⟩:=aAw i (by omega);have ho:(4503599627370496+f)*2048 / 2048%2=(4503599627370496+f)%2:=by omega
  have hp:-(((k:Int)-1074-11+11)*78913 / 262144)=(i:Int)-348:=by rw[r2];congr 2;omega
  by_cases h0:f=0
  ·have hk0:k=0:=by omega
   subst h0;have:=aEB ((4503599627370496+0)*2048) ((k:Int)-1074-11) (lpI i) i s _ _ _ _ _ _ _ _ _ w' T' (by omega) (by omega) (by omega) (by omega) hp (by omega) rfl hs (by omega) ho rfl rfl rfl rfl rfl rfl rfl rfl hH hL;rw[hD]at this
   exact this
  ·have:=aDH ((4503599627370496+f)*2048) ((k:Int)-1074-11) (lpI i) i s _ _ _ _ _ _ _ _ _ w' T' (by omega) (by omega) (by omega) (by omega) hp (by omega) rfl hs (by omega) ho rfl rfl rfl rfl rfl rfl rfl rfl hH hL;rw[hD]at this
   exact this
 ·have h0:f=0:=by omega
  subst h0;obtain⟨r1,r2,r3,r4,r5,r6,r7⟩:=aFk k (by omega);obtain⟨i,hi⟩:∃i,i=iS k:=⟨_,rfl⟩
  rw[←hi]at r1 r2 r5 r6 r7
  obtain⟨s,hs⟩:∃s:Nat,-((k:Int)-1074-11+lpI i+3)=s:=⟨(-((k:Int)-1074-11+lpI i+3)).toNat,by omega⟩
  obtain⟨d,q,j,hD,hA⟩:=aGl (4503599627370496+0) k i s _ _ _ ((k:Int)-1074-11) (by omega) (by omega) rfl hrI hi (by omega) hs rfl rfl rfl;refine⟨d,q,j,hA,fun w' T'=>?_⟩;obtain⟨hH,hL⟩:=aAw i (by omega);have hp:-((((k:Int)-1074-11+11)*631305-261663) / 2097152)=(i:Int)-348:=by rw[r2];congr 4;omega
  have:=aIz 9223372036854775808 ((k:Int)-1074-11) (lpI i) i s 0 _ _ _ _ _ _ _ _ w' T' (by omega) (by omega) rfl hp (by omega) rfl hs (by omega) (by decide) rfl rfl rfl rfl rfl rfl rfl rfl hH hL;rw[hD]at this
  exact this
theorem aJe (b L x:Nat)(h1:1≤b)(h2:b<4503599627370496)(L1:1≤L)(L2:L≤52)(l1:2^(L-1)≤b)(l2:b<2^L)(hx:b*2^(64-L)=x) :
  x<18446744073709551616∧∃d q j,fJ b d q j∧∀w',aA w'→Calls Tryz.prog 265 #[.int .u64 x,.int .i64 ((L:Int)-1138)] w' fun e' w2=>e'=.returned (.tuple #[.int .u64 d,.int .i64 q])∧Below w'.heap.size w' w2:=by
 obtain⟨z,hz⟩:∃z,64-L=z:=⟨_,rfl⟩
 rw[hz]at hx
 obtain⟨P,hP⟩:∃P,2^(z-1)=P:=⟨_,rfl⟩
 have hzp:2^z=2*P:=by rw[←hP,Nat.mul_comm,←Nat.pow_succ];congr 1;omega
 have hPp:0<P:=by rw[←hP];exact Nat.two_pow_pos _
 have hx64:x+2*P≤18446744073709551616:=by
  have:=Nat.mul_le_mul_right (2^z) (show b+1≤2^L from l2);rw[←Nat.pow_add,show L+z=64 by omega,Nat.add_mul,Nat.one_mul,hx,hzp]at this
  exact this
 have hx63:9223372036854775808≤x:=by
  have:=Nat.mul_le_mul_right (2^z) l1;rw[←Nat.pow_add,show L-1+z=63 by omega,hx]at this
  exact this
 refine⟨by omega,?_⟩;obtain⟨r1,r2,r3,r4,r5,r6,r7⟩:=aDz 0 (by omega);have hlp:=aN8;obtain⟨i,hi⟩:∃i,i=iR 0:=⟨_,rfl⟩
 rw[←hi]at r1 r2 r5 r6 r7 hlp
 obtain⟨s,hs⟩:∃s:Nat,-((L:Int)-1138+lpI i+3)=s:=⟨(-((L:Int)-1138+lpI i+3)).toNat,by omega⟩
 obtain⟨d,q,j,hD,hA⟩:=aBK b 0 z i s (b%2) _ _ _ ((L:Int)-1138) (by omega) h1 (by omega) (.inr rfl) (by omega) (by rw[hx];omega) (by unfold aI;omega) hi (by omega) hs rfl rfl rfl rfl;rw[Nat.zero_mul,Nat.zero_add]at hA
 refine⟨d,q,j,hA,fun w' T'=>?_⟩;rw[hx]at hD
 obtain⟨hH,hL⟩:=aAw i (by omega);have hp:-(((L:Int)-1138+z)*78913 / 262144)=(i:Int)-348:=by rw[r2];congr 2;omega
 have ho:x / 2^z%2=b%2:=by rw[←hx,Nat.mul_div_cancel _ (Nat.two_pow_pos _)]
 have:=aIA x z _ _ ((L:Int)-1138) (lpI i) i s _ _ _ _ _ _ _ _ _ w' T' (by omega) (by omega) (by omega) hx63 (by omega) rfl rfl (by rw[hP];omega) hp (by omega) rfl hs (by omega) ho rfl rfl rfl rfl rfl rfl rfl rfl hH hL;rw[hD]at this
 exact this
theorem aJF (b:Nat)(h1:1≤b)(h2:b<aI):∃d q j,fJ b d q j∧kH b (dS (bZ d) ((Lib.nDigits d:Int)+q-1)):=by
 have hI:b<9218868437227405312:=h2;by_cases hc:b<4503599627370496
 ·obtain⟨L,hL,L1,_,l1,l2⟩:=oM b h1 (by omega);have L2:L≤52:=by
   refine Nat.le_of_not_lt fun h=>?_
   have:2^52≤2^(L-1):=Nat.pow_le_pow_right (by decide) (by omega);have e52:(2:Nat)^52=4503599627370496:=by decide
   omega
  obtain⟨hx,d,q,j,hA,hC⟩:=aJe b L _ h1 hc L1 L2 l1 l2 rfl;have j1:=hA.idx;have j2:=hA.j1;have j3:=hA.j2;refine⟨d,q,j,hA,?_⟩;intro w B ad c S hO T hS;exact aJG w B ad c S b L _ d q hO T h1 hc hL L1 L2 rfl hx hS hC hA.pos (Nat.lt_trans hA.lt (by decide)) (by omega) (by omega)
 ·obtain⟨d,q,j,hA,hC⟩:=aD4 (b / 4503599627370496) (b%4503599627370496) (by omega) (by omega) (by omega);have eb:b / 4503599627370496*4503599627370496+b%4503599627370496=b:=by omega
  rw[eb]at hA
  have j1:=hA.idx;have j2:=hA.j1;have j3:=hA.j2;refine⟨d,q,j,hA,?_⟩;intro w B ad c S hO T hS;exact aEe w B ad c S b (b / 4503599627370496) (b%4503599627370496) d q hO T (by omega) rfl rfl (by omega) (by omega) (by omega) hS hC hA.pos (Nat.lt_trans hA.lt (by decide)) (by omega) (by omega)
open Go.RowKit
theorem tG (b:Nat):sgn false+b=b:=by simp[sgn]
theorem aI0 (neg:Bool)(b:Nat)(h:b<9223372036854775808):qM (sgn neg+b)=b:=by
 cases neg
 ·rw[tG];exact aKX b h
 ·unfold qM;have e:bits .andNot .u64 ((sgn true+b:Nat):Int) 9223372036854775808=(b:Int):=by
   have e:=u64_andNot_nat (sgn true+b) 9223372036854775808 (by unfold sgn;rw[if_pos rfl];omega) (by omega);refine e.trans ?_;congr 1;rw[show 18446744073709551615-9223372036854775808=2^63-1 by decide,Nat.and_two_pow_sub_one_eq_mod];have p63:(2:Nat)^63=9223372036854775808:=by decide
   rw[p63];unfold sgn;rw[if_pos rfl];omega
  rw[e,Int.toNat_natCast]
theorem mQ (neg:Bool)(b:Nat)(h:b<aI):kD (sgn neg+b)=false:=by
 have hI:b<9218868437227405312:=h;unfold kD;rw[aI0 neg b (by omega)];obtain⟨c1,k1⟩:=iV false b h;obtain⟨c2,k2⟩:=iV false 9218868437227405311 (by unfold aI;omega);rw[tG]at c1 k1 c2 k2
 cases hh:FloatKind.f64.format.order b 9218868437227405311==some .gt with
 | false=>rfl
 | true =>
  have h3:=((aCZ b 9218868437227405311).1 hh).2;rw[c1,c2,k1,k2]at h3
  have v:=mY b 9218868437227405311 (by omega);simp only[Bool.false_eq_true,if_false]at h3;unfold gS at h3;repeat' split at h3
  all_goals omega
theorem uW (neg:Bool)(b:Nat)(h:b<aI):(FloatKind.f64.format.order (sgn neg+b) (sgn neg+b)==some .eq)=true:=by
 obtain⟨c1,_⟩:=iV neg b h;exact(zM _ _).2 ⟨⟨by omega,by omega⟩,by simp[gS]⟩
theorem aKR:aL 0=0:=by decide
theorem aBb (neg:Bool)(b:Nat)(h:b<aI)(h1:1≤b):(FloatKind.f64.format.order (sgn neg+b) 0==some .eq)=false:=by
 obtain⟨c1,k1⟩:=iV neg b h;have v:=gD 0 b h1;rw[aKR]at v
 cases hh:FloatKind.f64.format.order (sgn neg+b) 0==some .eq with
 | false=>rfl
 | true =>
  have h3:=((zM _ _).1 hh).2;rw[c1,vL,k1,aA8]at h3
  unfold gS at h3;cases neg<;>simp at h3<;>(repeat' split at h3)<;>omega
theorem aA9 (neg:Bool)(b:Nat)(h:b<aI)(h1:1≤b):(FloatKind.f64.format.order (sgn neg+b) 0==some .lt)=neg:=by
 obtain⟨c1,k1⟩:=iV neg b h;have v:=gD 0 b h1;rw[aKR]at v
 have key:=aHN (sgn neg+b) 0;unfold ltF at key;cases neg
 ·cases hh:FloatKind.f64.format.order (sgn false+b) 0==some .lt with
  | false=>rfl
  | true =>
   have h3:=(key.1 hh).2;rw[c1,vL,k1,aA8]at h3
   unfold gS at h3;simp at h3
   (repeat' split at h3)<;>omega
 ·refine key.2 ⟨⟨by omega,by rw[vL];omega⟩,?_⟩;rw[c1,vL,k1,aA8];unfold gS;simp;omega
theorem aH8 (b:Nat)(h:b<aI)(h1:1≤b):rY b:=by
 have a:=uW false b h;have c:=mQ false b h;have d:=aBb false b h h1;have e:=aA9 false b h h1;rw[tG]at a c d e
 exact⟨by simp[bne,a],c,d,e⟩
def vW (D:List UInt8)(x:Int):List UInt8 :=
 if (D.length:Int)≤x+1∧x+1≤21 then D++List.replicate (x+1-D.length).toNat 48
 else if 1≤x+1∧x+1≤21 then D.take (x+1).toNat++[46]++D.drop (x+1).toNat
 else if -5≤x+1∧x+1≤0 then [48,46]++List.replicate (-(x+1)).toNat 48++D
 else bP D++(if 0<x+1 then [101,43]++Lib.itoa x else [101,45]++Lib.itoa (-x))
theorem aIc (b:Nat)(D:List UInt8)(x:Int)(w:World)(T:aA w)(hB:rY b)(h1:1≤D.length)(h2:D.length≤20)(hd:∀c∈D,aD c=true)(x0:-900<x)(x1:x<900)(hF:kH b (dS D x)) :
  Calls Tryz.prog 63 #[.float .f64 b] w fun e w'=>e=.returned (.string ⟨(vW D x).toArray⟩)∧Below w.heap.size w w':=by
 have hP:=aDr D x h1 (by omega) hd (by omega) (by omega);unfold vW;by_cases c1:(D.length:Int)≤x+1∧x+1≤21
 ·rw[if_pos c1];exact aEp b _ _ _ D x w T hF hP hB c1.1 c1.2
 ·rw[if_neg c1];by_cases c2:1≤x+1∧x+1≤21
  ·rw[if_pos c2];exact aEo b _ _ _ D x w T hF hP hB (by omega) c2.1 c2.2 (by omega)
  ·rw[if_neg c2];by_cases c3:-5≤x+1∧x+1≤0
   ·rw[if_pos c3];exact aF6 b _ _ _ D x w T hF hP hB (by omega) h1 c3.2 c3.1
   ·rw[if_neg c3];match D,h1,h2,hd,hF,hP with
    | [d],_,_,_,hF,hP =>
     by_cases c4:0<x+1
     ·rw[if_pos c4];exact aCa b _ _ _ d x w T hF hP hB (by omega)
     ·rw[if_neg c4];exact aB9 b _ _ _ d x w T hF hP hB (by omega)
    | d :: f :: D,_,h2,_,hF,hP =>
     by_cases c4:0<x+1
     ·rw[if_pos c4];have:=aBe b _ _ _ _ d (f :: D) x w T hF hP hB (by omega) rfl (by simp) (by simp at h2 ⊢;omega);have e:bP (d :: f :: D)++([101,43]++Lib.itoa x)=d :: 46 :: (f :: D)++[101,43]++Lib.itoa x:=by simp[bP]
      rw[e];exact this
     ·rw[if_neg c4];have:=aBd b _ _ _ _ d (f :: D) x w T hF hP hB (by omega) rfl (by simp) (by simp at h2 ⊢;omega);have e:bP (d :: f :: D)++([101,45]++Lib.itoa (-x))=d :: 46 :: (f :: D)++[101,45]++Lib.itoa (-x):=by simp[bP]
      rw[e];exact this
theorem aF5 (b:Nat)(h1:1≤b)(h2:b<aI):∃d q j,fJ b d q j∧∀w,aA w→Calls Tryz.prog 63 #[.float .f64 b] w fun e w'=>e=.returned (.string ⟨(vW (bZ d) ((Lib.nDigits d:Int)+q-1)).toArray⟩)∧Below w.heap.size w w':=by
 obtain⟨d,q,j,hA,hF⟩:=aJF b h1 h2;have j1:=hA.idx;have j2:=hA.j1;have j3:=hA.j2;have n1:=Lib.nDigits_pos d;have n2:=fN d (Nat.lt_trans hA.lt (by decide));obtain⟨l1,l2⟩:=xE d hA.pos;exact⟨d,q,j,hA,fun w T=>aIc b (bZ d) _ w T (aH8 b h2 h1) l1 (by omega) (wZ d) (by omega) (by omega) hF⟩
theorem aDh (b:Nat)(h2:b<aI):Op.negFloat .f64 (sgn true+b)=b:=by
 have hI:b<9218868437227405312:=h2;have es:sgn true+b=9223372036854775808+b:=by simp[sgn]
 show(sgn true+b) ^^^ 2^(FloatKind.f64.format.exponentBits+FloatKind.f64.format.fractionBits)=_;have e:FloatKind.f64.format.exponentBits+FloatKind.f64.format.fractionBits=63:=by kernel_rfl
 rw[e,es];have d:=Nat.xor_div_two_pow (a:=9223372036854775808+b) (b:=2^63) (n:=63);have r:=Nat.xor_mod_two_pow (a:=9223372036854775808+b) (b:=2^63) (n:=63);have p63:(2:Nat)^63=9223372036854775808:=by decide
 rw[p63]at d r ⊢
 rw[show(9223372036854775808+b) / 9223372036854775808=1 by omega,Nat.div_self (by decide),Nat.xor_self]at d
 rw[show(9223372036854775808+b)%9223372036854775808=b by omega,Nat.mod_self,Nat.xor_zero]at r
 omega
theorem aIb (b:Nat)(txt:List UInt8)(hl:txt.length≤1000)(h1:1≤b)(h2:b<aI)(w:World)(T:aA w)(hP:∀w,aA w→Calls Tryz.prog 63 #[.float .f64 b] w fun e w'=>e=.returned (.string ⟨txt.toArray⟩)∧Below w.heap.size w w') :
  Calls Tryz.prog 63 #[.float .f64 (9223372036854775808+b:Nat)] w fun e w'=>e=.returned (.string ⟨(45 :: txt).toArray⟩)∧Below w.heap.size w w':=by
 have hI:b<9218868437227405312:=h2;have es:sgn true+b=9223372036854775808+b:=by simp[sgn]
 have g1:=uW true b h2;have g2:=mQ true b h2;have g3:=aBb true b h2 h1;have g4:=aA9 true b h2 h1;have g5:=aDh b h2;rw[←es];have g1':(FloatKind.f64.format.order (sgn true+b) (sgn true+b) !=some .eq)=false:=by simp[bne,g1]
 have un:=fG;have II:=fun w=>fM (sgn true+b) false w g2
 obtain⟨x,hx⟩:∃x,sgn true+b=x:=⟨_,rfl⟩
 rw[hx]at g1 g1' g3 g4 g5 II ⊢
 have HII:=hid II;have HP:=hid hP;have HT:=hid T;clear hP T II hx es g2 g1;go_enter Tryz.func63,Tryz.ntmps63
 go_wp2_with (go_at_call 67;((with_reducible refine(HII.out _).mono ?_);rintro e w' ⟨rfl,rfl⟩))
 refine(HP.out _ HT.out).mono ?_;rintro e w2 ⟨rfl,B2⟩;have HB2:=hid B2;clear B2;go_wp2
 go_ret;refine⟨gB ?_,HB2.out⟩;simp
end Go.Proofs.YtcfgbdhpcboikaaGreatDoor
