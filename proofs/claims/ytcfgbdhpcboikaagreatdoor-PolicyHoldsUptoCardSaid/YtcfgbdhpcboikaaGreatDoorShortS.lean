/-
shortFloat at the least normal float.
-/
import Derived.Test.YtcfgbdhpcboikaaGreatDoorAtofW
namespace Go.Proofs.YtcfgbdhpcboikaaGreatDoor
open Go.Lib (hid)
set_option maxHeartbeats 4000000
set_option maxRecDepth 100000
open Go.RowKit
theorem mO {n:Nat}:n≤n:=Nat.le_refl n
theorem aF6 (m:Nat)(e lp:Int)(i s odd umin umax um nmin nmax dmin dmax dm:Nat)(w:World)(T:aA w)(he1:-1085≤e)(he2:e≤-1085)(hm1:9223372036854775808≤m)(hm2:m≤9223372036854775808)
  (hp:-((e+11)*78913 / 262144)=(i:Int)-348) (hi:i<696) (hlp:((i:Int)-348)*108853 / 32768=lp) (hs:-(e+lp+3)=s) (hs64:s<64) (hodd:m / 2048%2=odd)
  (h1:cF (m-1024) (aH i) (aR i) s=umin) (h2:cF (m+1024) (aH i) (aR i) s=umax) (h3:cF m (aH i) (aR i) s=um)
  (n1:eQ umin odd=nmin) (n2:eQ umax (-(odd:Int))=nmax) (k1:qH nmin=dmin) (k2:nmax / 4=dmax) (k3:fV um=dm) (hH:aH i<18446744073709551616) (hL:aR i<18446744073709551616) :
  Calls Tryz.prog 265 #[.int .u64 m,.int .i64 e] w fun e' w'=>e'=.returned (.tuple #[.int .u64 (bG dmin dmax dm ((i:Int)-348)).1,.int .i64 (bG dmin dmax dm ((i:Int)-348)).2])∧Below w.heap.size w w':=by
 have U1:=fun(w:World) b o c0 c1 c2=>cZ (m-1024) (aH i) (aR i) s w b o c0 c1 c2 (by omega) hH hL hs64
 have U2:=fun(w:World) b o c0 c1 c2=>cZ (m+1024) (aH i) (aR i) s w b o c0 c1 c2 (by omega) hH hL hs64
 have U3:=fun(w:World) b o c0 c1 c2=>cZ m (aH i) (aR i) s w b o c0 c1 c2 (by omega) hH hL hs64
 rw[h1]at U1
 rw[h2]at U2
 rw[h3]at U3
 have em:((m-1024:Nat):Int)=(m:Int)-1024:=by omega
 have ep:((m+1024:Nat):Int)=(m:Int)+1024:=by omega
 rw[em]at U1
 rw[ep]at U2
 have ha:=uY (m / 2048) (by omega);have e5:((m / 2048:Nat):Int)=(m:Int) / 2048:=by omega
 rw[hodd,e5]at ha
 have hodd2:odd≤1:=by omega
 have j1:nmin<18446744073709551616:=by rw[←n1];exact jJ _ _
 have j2:nmax<18446744073709551616:=by rw[←n2];exact jJ _ _
 have j3:dmax<18446744073709551616:=by omega
 have N1:=fun w=>kU umin nmin odd w (by rw[←h1];exact cH _ _ _ _ (by omega) hH hL) n1
 have N2:=fun w=>kU umax nmax (-(odd:Int)) w (by rw[←h2];exact cH _ _ _ _ (by omega) hH hL) n2
 have C1:=fun w=>zE nmin dmin w j1 k1
 have F1:=fun w=>vH nmax dmax w j2 k2
 have R1:=fun w=>nA um dm w (by rw[←h3];exact cH _ _ _ _ (by omega) hH hL) k3
 have l1:umin<18446744073709551616:=by rw[←h1];exact cH _ _ _ _ (by omega) hH hL
 have l2:umax<18446744073709551616:=by rw[←h2];exact cH _ _ _ _ (by omega) hH hL
 have l3:um<18446744073709551616:=by rw[←h3];exact cH _ _ _ _ (by omega) hH hL
 have HU1:=hid U1;have HU2:=hid U2;have HU3:=hid U3;have HT:=hid T;have HS:=hid hs;have HO:=hid hodd;have HN1:=hid N1;have HN2:=hid N2;have HC1:=hid C1;have HF1:=hid F1;have HR1:=hid R1;clear U1 U2 U3 h1 h2 h3 hH hL T hs hodd N1 N2 C1 F1 R1 n1 n2 k1 k2 k3 em ep e5;have hne:((m:Int)==9223372036854775808)=true:=beq_iff_eq.2 (by omega);go_enter Tryz.func265,Tryz.ntmps265
 go_wp2_with (first
  | (go_at_call 260;refine(sP _ _ (by omega) (by omega)).mono ?_;rintro e w' ⟨rfl,rfl⟩)
  | (go_at_call 272;refine(mX _ _ (by omega) (by omega)).mono ?_;rintro e w' ⟨rfl,rfl⟩))
 have T1:aA (w.alloc (.cells #[.int .u64 0,.int .u64 0,.int .i64 0] 265)):=HT.out.below ((Below.refl w.heap.size w).alloc mO _) mO;have hg:=heap_alloc_new w (.cells #[.int .u64 0,.int .u64 0,.int .i64 0] 265);have hsz:=HT.out.size;refine(gN e lp s i _ w.heap.size _ _ _ _ hg rfl hi (by omega) T1 (by omega) (by omega) (by omega) (by omega) HS.out).mono ?_;rintro e1 w1 ⟨rfl,hg1,K1⟩;have hz1:w.heap.size<w1.heap.size:=by have:=K1.size;simp at this;omega
 have B1:Below w.heap.size w w1:=(((aD.refl (fun _=>False) w).alloc _).trans' K1 (fun _ _ h=>by omega)).below mO (fun _ _ h=>h.elim);have HB1:=hid B1;have HK1:=hid K1;have c0:=cell_of_row w1 w.heap.size 0 _ _ _ hg1;have c1:=cell_of_row w1 w.heap.size 1 _ _ _ hg1;have c2:=cell_of_row w1 w.heap.size 2 _ _ _ hg1;simp at c0 c1 c2;obtain⟨g,hgg⟩:∃g,w.heap.size=g:=⟨_,rfl⟩
 rw[hgg]at c0 c1 c2 hg1 hz1 ⊢
 clear T1 hg K1 B1 hgg hsz hg1;go_wp2_with (first
  | (go_at_call 274;((with_reducible refine(HU1.out _ _ _ ?_ ?_ ?_).mono ?_);all_goals first|exact c0|exact c1|exact c2|skip);rintro e w' ⟨rfl,n,rfl⟩)
  | (go_at_call 274;((with_reducible refine(HU2.out _ _ _ ?_ ?_ ?_).mono ?_);all_goals first|exact c0|exact c1|exact c2|skip);rintro e w' ⟨rfl,n,rfl⟩)
  | (go_at_call 274;((with_reducible refine(HU3.out _ _ _ ?_ ?_ ?_).mono ?_);all_goals first|exact c0|exact c1|exact c2|skip);rintro e w' ⟨rfl,n,rfl⟩)
  | (go_at_call 277;((with_reducible refine(HR1.out _).mono ?_);rintro e w' ⟨rfl,rfl⟩))
  | (go_at_call 283;((with_reducible refine(HN1.out _).mono ?_);rintro e w' ⟨rfl,rfl⟩))
  | (go_at_call 283;((with_reducible refine(HN2.out _).mono ?_);rintro e w' ⟨rfl,rfl⟩))
  | (go_at_call 284;((with_reducible refine(HC1.out _).mono ?_);rintro e w' ⟨rfl,rfl⟩))
  | (go_at_call 285;((with_reducible refine(HF1.out _).mono ?_);rintro e w' ⟨rfl,rfl⟩)))
 ·have hle:dmin≤dmax / 10*10:=by omega
  go_ret2;refine⟨?_,HB1.out.trans ⟨rfl,rfl,rfl,Nat.le_refl _,fun _ _=>rfl⟩⟩;have e:bG dmin dmax dm ((i:Int)-348)=(dmax / 10,-((i:Int)-348-1)):=by unfold bG;rw[if_pos hle]
  rw[e];rfl
 ·have hle:¬dmin≤dmax / 10*10:=by omega
  have hlt:dmin<dmax:=by assumption
  go_ret2;refine⟨?_,HB1.out.trans ⟨rfl,rfl,rfl,Nat.le_refl _,fun _ _=>rfl⟩⟩;have e:bG dmin dmax dm ((i:Int)-348)=(dm,-((i:Int)-348)):=by unfold bG;rw[if_neg hle,if_pos hlt]
  rw[e];rfl
 ·have hle:¬dmin≤dmax / 10*10:=by omega
  have hlt:¬dmin<dmax:=by assumption
  go_ret2;refine⟨?_,HB1.out.trans ⟨rfl,rfl,rfl,Nat.le_refl _,fun _ _=>rfl⟩⟩;have e:bG dmin dmax dm ((i:Int)-348)=(dmin,-((i:Int)-348)):=by unfold bG;rw[if_neg hle,if_neg hlt]
  rw[e];rfl
open Go.RowKit
theorem aIk (q:Nat)(h:q<9223372036854775808):wrap64 (q:Int)=(q:Int):=by unfold wrap64;omega
theorem aKl (m z mn mx:Nat)(e lp:Int)(i s odd umin umax um nmin nmax dmin dmax dm:Nat)(w:World)(T:aA w)(he1:-1137≤e)(he2:e < -1085)(hze:11+(-1085-e)=(z:Int))(hm1:9223372036854775808≤m)(hm2:m<18446744073709551616)(hmn:m-2^(z-1)=mn)(hmx:m+2^(z-1)=mx)(hmx2:mx<18446744073709551616)
  (hp:-((e+z)*78913 / 262144)=(i:Int)-348) (hi:i<696) (hlp:((i:Int)-348)*108853 / 32768=lp) (hs:-(e+lp+3)=s) (hs64:s<64) (hodd:m / 2^z%2=odd)
  (h1:cF mn (aH i) (aR i) s=umin) (h2:cF mx (aH i) (aR i) s=umax) (h3:cF m (aH i) (aR i) s=um)
  (n1:eQ umin odd=nmin) (n2:eQ umax (-(odd:Int))=nmax) (k1:qH nmin=dmin) (k2:nmax / 4=dmax) (k3:fV um=dm) (hH:aH i<18446744073709551616) (hL:aR i<18446744073709551616) :
  Calls Tryz.prog 265 #[.int .u64 m,.int .i64 e] w fun e' w'=>e'=.returned (.tuple #[.int .u64 (bG dmin dmax dm ((i:Int)-348)).1,.int .i64 (bG dmin dmax dm ((i:Int)-348)).2])∧Below w.heap.size w w':=by
 have hz1:12≤(z:Int):=by omega
 have hz2:(z:Int)≤63:=by omega
 have hmg:¬(-1085:Int)<e:=by omega
 have hge:¬(-1085:Int)≤e:=by omega
 obtain⟨Pz,hPz⟩:∃P,2^(z-1)=P:=⟨_,rfl⟩
 have hpz:Pz<9223372036854775808:=by
  have:2^(z-1)≤2^62:=Nat.pow_le_pow_right (by decide) (by omega);have e62:(2:Nat)^62=4611686018427387904:=by decide
  omega
 have ecast:((2:Int)^(z-1))=(Pz:Int):=by rw[←hPz,Int.natCast_pow];rfl
 rw[hPz]at hmn hmx
 have f0:IntKind.u64.wrap ((2:Int)^(z-1))=(Pz:Int):=by rw[cW,ecast];omega
 have f1:IntKind.u64.wrap ((m:Int)-IntKind.u64.wrap ((2:Int)^(z-1)))=(mn:Int):=by rw[f0,cW];omega
 have f2:IntKind.u64.wrap ((m:Int)+IntKind.u64.wrap ((2:Int)^(z-1)))=(mx:Int):=by rw[f0,cW];omega
 obtain⟨q,hq'⟩:∃q,m / 2^z=q:=⟨_,rfl⟩
 have hq4:q<9007199254740992:=by
  rw[←hq'];refine Nat.div_lt_of_lt_mul ?_;have h12:2^12≤2^z:=Nat.pow_le_pow_right (by decide) (by omega);have e12:(2:Nat)^12=4096:=by decide
  rw[e12]at h12
  have:=Nat.mul_le_mul_right 9007199254740992 h12;refine Nat.lt_of_lt_of_le hm2 (Nat.le_trans ?_ this);decide
 have e3:(q:Int)=(m:Int) / 2^z:=by rw[←hq',Int.natCast_ediv,Int.natCast_pow];rfl
 rw[hq']at hodd
 have e4:wrap64 (q:Int)=(q:Int):=aIk q (by clear e3;omega);have hq63:q<9223372036854775808:=Nat.lt_trans hq4 (by decide);have e5:=uY q hq63;rw[hodd]at e5
 have f3:bits .and .i64 (wrap64 ((m:Int) / 2^z)) 1=(odd:Int):=by rw[←e3,e4,e5]
 have HG1:=hid f1;have HG2:=hid f2;have HG3:=hid f3;clear e3 e4 e5 hq' hq4 hq63 f1 f2 f3;have hodd2:odd≤1:=by omega
 have hmn2:mn<18446744073709551616:=by omega
 have U1:=fun(w:World) b o c0 c1 c2=>cZ mn (aH i) (aR i) s w b o c0 c1 c2 hmn2 hH hL hs64
 have U2:=fun(w:World) b o c0 c1 c2=>cZ mx (aH i) (aR i) s w b o c0 c1 c2 hmx2 hH hL hs64
 have U3:=fun(w:World) b o c0 c1 c2=>cZ m (aH i) (aR i) s w b o c0 c1 c2 (by omega) hH hL hs64
 rw[h1]at U1
 rw[h2]at U2
 rw[h3]at U3
 have j1:nmin<18446744073709551616:=by rw[←n1];exact jJ _ _
 have j2:nmax<18446744073709551616:=by rw[←n2];exact jJ _ _
 have j3:dmax<18446744073709551616:=by omega
 have N1:=fun w=>kU umin nmin odd w (by rw[←h1];exact cH _ _ _ _ (by omega) hH hL) n1
 have N2:=fun w=>kU umax nmax (-(odd:Int)) w (by rw[←h2];exact cH _ _ _ _ (by omega) hH hL) n2
 have C1:=fun w=>zE nmin dmin w j1 k1
 have F1:=fun w=>vH nmax dmax w j2 k2
 have R1:=fun w=>nA um dm w (by rw[←h3];exact cH _ _ _ _ (by omega) hH hL) k3
 have l1:umin<18446744073709551616:=by rw[←h1];exact cH _ _ _ _ (by omega) hH hL
 have l2:umax<18446744073709551616:=by rw[←h2];exact cH _ _ _ _ (by omega) hH hL
 have l3:um<18446744073709551616:=by rw[←h3];exact cH _ _ _ _ (by omega) hH hL
 have HU1:=hid U1;have HU2:=hid U2;have HU3:=hid U3;have HT:=hid T;have HS:=hid hs;have HO:=hid hodd;have HN1:=hid N1;have HN2:=hid N2;have HC1:=hid C1;have HF1:=hid F1;have HR1:=hid R1;clear U1 U2 U3 h1 h2 h3 hH hL T hs hodd N1 N2 C1 F1 R1 n1 n2 k1 k2 k3 f0 ecast hmn hmx hPz;cases hq:((m:Int)==9223372036854775808);all_goals
  go_enter Tryz.func265,Tryz.ntmps265
  go_wp2_with (first
   | (go_at_call 260;refine(sP _ _ (by omega) (by omega)).mono ?_;rintro e w' ⟨rfl,rfl⟩)
   | (go_at_call 272;refine(mX _ _ (by omega) (by omega)).mono ?_;rintro e w' ⟨rfl,rfl⟩))
  rw[HG1.out,HG2.out,HG3.out];have T1:aA (w.alloc (.cells #[.int .u64 0,.int .u64 0,.int .i64 0] 265)):=HT.out.below ((Below.refl w.heap.size w).alloc mO _) mO;have hg:=heap_alloc_new w (.cells #[.int .u64 0,.int .u64 0,.int .i64 0] 265);have hsz:=HT.out.size;refine(gN e lp s i _ w.heap.size _ _ _ _ hg rfl hi (by omega) T1 (by omega) (by omega) (by omega) (by omega) HS.out).mono ?_;rintro e1 w1 ⟨rfl,hg1,K1⟩;have hz1:w.heap.size<w1.heap.size:=by have:=K1.size;simp at this;omega
  have B1:Below w.heap.size w w1:=(((aD.refl (fun _=>False) w).alloc _).trans' K1 (fun _ _ h=>by omega)).below mO (fun _ _ h=>h.elim);have HB1:=hid B1;have HK1:=hid K1;have c0:=cell_of_row w1 w.heap.size 0 _ _ _ hg1;have c1:=cell_of_row w1 w.heap.size 1 _ _ _ hg1;have c2:=cell_of_row w1 w.heap.size 2 _ _ _ hg1;simp at c0 c1 c2;obtain⟨g,hgg⟩:∃g,w.heap.size=g:=⟨_,rfl⟩
  rw[hgg]at c0 c1 c2 hg1 hz1 ⊢
  clear T1 hg K1 B1 hgg hsz hg1;go_wp2_with (first
   | (go_at_call 274;((with_reducible refine(HU1.out _ _ _ ?_ ?_ ?_).mono ?_);all_goals first|exact c0|exact c1|exact c2|skip);rintro e w' ⟨rfl,n,rfl⟩)
   | (go_at_call 274;((with_reducible refine(HU2.out _ _ _ ?_ ?_ ?_).mono ?_);all_goals first|exact c0|exact c1|exact c2|skip);rintro e w' ⟨rfl,n,rfl⟩)
   | (go_at_call 274;((with_reducible refine(HU3.out _ _ _ ?_ ?_ ?_).mono ?_);all_goals first|exact c0|exact c1|exact c2|skip);rintro e w' ⟨rfl,n,rfl⟩)
   | (go_at_call 277;((with_reducible refine(HR1.out _).mono ?_);rintro e w' ⟨rfl,rfl⟩))
   | (go_at_call 283;((with_reducible refine(HN1.out _).mono ?_);rintro e w' ⟨rfl,rfl⟩))
   | (go_at_call 283;((with_reducible refine(HN2.out _).mono ?_);rintro e w' ⟨rfl,rfl⟩))
   | (go_at_call 284;((with_reducible refine(HC1.out _).mono ?_);rintro e w' ⟨rfl,rfl⟩))
   | (go_at_call 285;((with_reducible refine(HF1.out _).mono ?_);rintro e w' ⟨rfl,rfl⟩)))
  ·have hle:dmin≤dmax / 10*10:=by omega
   go_ret2;refine⟨?_,HB1.out.trans ⟨rfl,rfl,rfl,Nat.le_refl _,fun _ _=>rfl⟩⟩;have e:bG dmin dmax dm ((i:Int)-348)=(dmax / 10,-((i:Int)-348-1)):=by unfold bG;rw[if_pos hle]
   rw[e];rfl
  ·have hle:¬dmin≤dmax / 10*10:=by omega
   have hlt:dmin<dmax:=by assumption
   go_ret2;refine⟨?_,HB1.out.trans ⟨rfl,rfl,rfl,Nat.le_refl _,fun _ _=>rfl⟩⟩;have e:bG dmin dmax dm ((i:Int)-348)=(dm,-((i:Int)-348)):=by unfold bG;rw[if_neg hle,if_pos hlt]
   rw[e];rfl
  ·have hle:¬dmin≤dmax / 10*10:=by omega
   have hlt:¬dmin<dmax:=by assumption
   go_ret2;refine⟨?_,HB1.out.trans ⟨rfl,rfl,rfl,Nat.le_refl _,fun _ _=>rfl⟩⟩;have e:bG dmin dmax dm ((i:Int)-348)=(dmin,-((i:Int)-348)):=by unfold bG;rw[if_neg hle,if_neg hlt]
   rw[e];rfl
open Go.RowKit Go.Sort
theorem aLA (w:World)(B:Nat)(ad:Option Addr)(c:Nat)(S:Nat→Prop)(b L x d:Nat)(p:Int)(hO:Out w w B S ad c [])(T:aA w)
  (hb1:1≤b) (hb:b<4503599627370496) (hL:Lib.bitLen b=L) (L1:1≤L) (L2:L≤52) (hx:b*2^(64-L)=x) (hx2:x<18446744073709551616)
  (hS:∀k,S k→k<w.heap.size)
  (SF:∀w',aA w'→Calls Tryz.prog 265 #[.int .u64 x,.int .i64 ((L:Int)-1138)] w' fun e' w2=>e'=.returned (.tuple #[.int .u64 d,.int .i64 p])∧Below w'.heap.size w' w2)
  (hd1:1≤d) (hd:d<18446744073709551616) (p1:-900≤p) (p2:p≤900) :
  Calls Tryz.prog 228 #[.slice ad 0 c,.float .f64 b,.int .u8 101,.int .i64 (-1)] w (tU w B S (eN ((Lib.decDigits d).take (bN (Lib.decDigits d))) ((Lib.nDigits d:Int)+p-1))):=by
 have a1:bits .and .i64 (0:Int) 2047=0:=uA 0 (by omega);have a2:=aDI b (by omega);rw[Nat.mod_eq_of_lt hb]at a2
 have g3:(b:Int) / 4503599627370496=0:=by omega
 have g4:((b:Int) / 9223372036854775808 !=0)=false:=bne_eq_false_iff_eq.2 (by omega);have g5:((b:Int)==0)=false:=beq_eq_false_iff_ne.2 (by omega);have LL:=fun w=>aBp b L w (by omega) hL
 have HL:=hid LL;have hwx:IntKind.u64.wrap ((b:Int)*2^(64-L))=(x:Int):=by
  rw[cW,←hx];have:((b*2^(64-L):Nat):Int)=(b:Int)*2^(64-L):=by push_cast;rfl
  rw[←this];omega
 have HWX:=hid hwx;have d85:=aD7;have HO:=hid hO;have HT:=hid T;have HSF:=hid SF;have HSS:=hid hS;clear hO T SF hS LL hwx hx hL;go_enter Tryz.func228,Tryz.ntmps228
 go_wp2_with fail
 go_quiet (fail)
 go_wp2_with (go_at_call 191;((with_reducible refine(HL.out _).mono ?_);rintro e w' ⟨rfl,rfl⟩))
 obtain⟨g,hg⟩:∃g,g=w.heap.size:=⟨_,rfl⟩
 obtain⟨W,hW⟩:∃W,W=(w.drewN nq).alloc (.cells rE 251):=⟨_,rfl⟩
 have bW:Below w.heap.size w W:=by rw[hW];exact((Below.refl w.heap.size w).trans ⟨rfl,rfl,rfl,Nat.le_refl _,fun _ _=>rfl⟩:Below w.heap.size w (w.drewN nq)).alloc mO _
 have sW:W.heap.size=g+1:=by rw[hW,hg];simp
 have hH:Holds (fun(b:UInt8)=>Value.int .u8 (b.toNat:Int)) W g 0 (Array.replicate 32 (0:UInt8)):=by rw[hW,hg];exact aGv (w.drewN nq) 251
 have TW:=HT.out.below bW mO;have hW2:=hW;unfold rE at hW2;rw[←hW2,←hg];clear hW hW2;rw[HWX.out,show(-1022:Int)-(64-(L:Int))-52=(L:Int)-1138 by omega];refine(HSF.out W TW).mono ?_;rintro e1 w2 ⟨rfl,B2⟩;have H2:Holds (fun(b:UInt8)=>Value.int .u8 (b.toNat:Int)) w2 g 0 (Array.replicate 32 (0:UInt8)):=Holds.below hH B2 (by omega);have b2:Below w.heap.size w w2:=bW.trans (B2.mono (by omega));have s2:g<w2.heap.size:=by have:=B2.size;omega
 have T2:=HT.out.below b2 mO;have n20:=gM d hd;have n1:=Lib.nDigits_pos d;obtain⟨N,hN⟩:∃N,Lib.nDigits d=N:=⟨_,rfl⟩
 rw[hN]at n20 n1
 have ND:=fun(w:World) (h:Lib.TabIs Tryz.prog w "internal/strconv.uint64pow10" .u64 Lib.pow10Tab)=>Tryz.internal_strconv_numDigits d hd1 hd w h
 rw[hN]at ND
 have HGG:=hid hg;clear hg;have ht1:=wB d hd1;have ht2:bN (Lib.decDigits d)≤N:=by have:=iU (Lib.decDigits d);rw[Lib.decDigits_length,hN]at this;exact this
 obtain⟨k,hk⟩:∃k,bN (Lib.decDigits d)=k+1:=⟨bN (Lib.decDigits d)-1,by omega⟩
 have k20:k≤19:=by omega
 have hmx:max (k:Int) 0=k:=by omega
 have HKK:=hid hk;clear ht1 ht2 hk;have HH2:=hid H2;have HB2:=hid b2;have HT2:=hid T2;have HN:=hid hN;have HND:=hid ND;clear hH B2 H2 b2 T2 TW bW sW hN ND;go_wp2_with fail
 obtain⟨C,hC⟩:∃C:World→Prop,∀u,C u:=⟨fun _=>True,fun _=>trivial⟩
 haveI:Nonempty (WIn C):=⟨⟨w2,hC _⟩⟩
 refine dI 10 [([0,1,2,3],4),([],5)] [6,7,8,9] C (by kernel_rfl) (by kernel_rfl) (hC _) ?_;refine bE (fun K' hK'=>?_);simp only[pick,pickZ,pickS,pickG];repeat (go_big_quiet_step (fail))
 refine wpQuiet_nil (hK' _ (fun Q1 hQ1=>?_));clear hK' K';simp only[pick,pickZ,pickS,pickG];go_wp2_with fail
 refine(HND.out _ (HT2.out.drewN 1).u10).mono ?_;rintro e w3 ⟨rfl,hw3⟩;subst hw3;go_wp2_with fail
 refine hQ1 _ _ (hC _) (bE (fun K' hK'=>wpQuiet_nil (hK' _ (fun Q2 hQ2=>?_))));clear hK' K' hQ1 Q1;simp only[pick,pickZ,pickS,pickG];go_wp2_with fail
 refine(yN g d k p N (w2.drewN 1) (Holds.drewN HH2.out 1) hd1 hd HN.out (by omega) (by omega) HKK.out).mono ?_;rintro e w3 ⟨rfl,S3,K3⟩;have HS3:=hid S3;have HK3:=hid K3;clear S3 K3;go_wp2_with fail
 refine hQ2 _ _ (hC _) (dP (fun K' hK'=>?_));clear hQ2 Q2;simp only[pick,pickZ,pickS,pickG];repeat (go_big_quiet_step (fail))
 refine wpQuiet_nil (hK' _ (fun Q3 hQ3=>?_));clear hK' K';simp only[List.drop_succ_cons,List.drop_zero];go_wp2_with fail
 have K03:aD (fun i=>w.heap.size≤i) w w3:=(aD.of_below HB2.out).trans ((((aD.refl (· = g) w2).drewN 1).trans HK3.out).mono (fun i _ e=>by have:=HGG.out;omega));have K03f:aD (fun _=>False) w w3:=K03.mono (fun i hi e=>by omega);have O3:=HO.out.later K03;have S3':IsB w3 (some ⟨g,0,none⟩) ((Lib.decDigits d).take (k+1)):=HS3.out.take (k+1);have hl3:((Lib.decDigits d).take (k+1)).length=k+1:=by
  have:=HKK.out;have:=iU (Lib.decDigits d);rw[List.length_take];omega
 have hz3:g<w3.heap.size:=by have:=HK3.out.size;simp at this;omega
 refine(aI6 w3 B g k ad c S _ ((N:Int)+p) O3 S3' (fun e=>by have:=HSS.out g e;have:=HGG.out;omega) hz3 hl3 (by omega) (by omega) (by omega)).mono ?_;rintro e w4 ⟨ad4,c4,rfl,O4⟩;go_wp2
 go_ret;refine⟨ad4,c4,?_,?_⟩
 ·rw[HKK.out,HN.out];rfl
 ·rw[HKK.out,HN.out];exact Out.first K03f O4
open Go.RowKit
theorem aBM (i:Nat)(h:i<696):aH i<18446744073709551616∧aR i<18446744073709551616:=⟨(uP i h).1,(uP i h).2.1⟩
theorem aFy (E f:Nat)(E1:1≤E)(E2:E≤2046)(f1:f<4503599627370496) :
  ∃d q j,gI (E*4503599627370496+f) d q j∧∀w',aA w'→Calls Tryz.prog 265 #[.int .u64 ((4503599627370496+f)*2048:Nat),.int .i64 ((E:Int)-1086)] w' fun e' w2=>e'=.returned (.tuple #[.int .u64 d,.int .i64 q])∧Below w'.heap.size w' w2:=by
 obtain⟨k,hk⟩:∃k,E=k+1:=⟨E-1,by omega⟩
 subst hk;have er:(k+1)*4503599627370496+f=k*4503599627370496+(4503599627370496+f):=by omega
 rw[er];have hrI:k*4503599627370496+(4503599627370496+f)<aJ:=by unfold aJ;omega
 have ee:((k+1:Nat):Int)-1086=(k:Int)-1074-11:=by omega
 rw[ee];have p11:(2:Nat)^11=2048:=by decide
 have p10:(2:Nat)^(11-1)=1024:=by decide
 by_cases hf:4503599627370496<4503599627370496+f∨k=0
 ·obtain⟨r1,r2,r3,r4,r5,r6,r7⟩:=aEY k (by omega);obtain⟨i,hi⟩:∃i,i=iR k:=⟨_,rfl⟩
  rw[←hi]at r1 r2 r5 r6 r7
  obtain⟨s,hs⟩:∃s:Nat,-((k:Int)-1074-11+lpI i+3)=s:=⟨(-((k:Int)-1074-11+lpI i+3)).toNat,by omega⟩
  obtain⟨d,q,j,hD,hA⟩:=aC6 (4503599627370496+f) k 11 i s ((4503599627370496+f)%2) _ _ _ ((k:Int)-1074-11) (by omega) (by omega) (by omega) hf (by omega) (by rw[p11];omega) hrI hi (by omega) hs rfl rfl rfl rfl;refine⟨d,q,j,hA,fun w' T'=>?_⟩;rw[p10,p11]at hD
  obtain⟨hH,hL⟩:=aBM i (by omega);have ho:(4503599627370496+f)*2048 / 2048%2=(4503599627370496+f)%2:=by omega
  have hp:-(((k:Int)-1074-11+11)*78913 / 262144)=(i:Int)-348:=by rw[r2];congr 2;omega
  by_cases h0:f=0
  ·have hk0:k=0:=by omega
   subst h0;have:=aF6 ((4503599627370496+0)*2048) ((k:Int)-1074-11) (lpI i) i s _ _ _ _ _ _ _ _ _ w' T' (by omega) (by omega) (by omega) (by omega) hp (by omega) rfl hs (by omega) ho rfl rfl rfl rfl rfl rfl rfl rfl hH hL;rw[hD]at this
   exact this
  ·have:=aE7 ((4503599627370496+f)*2048) ((k:Int)-1074-11) (lpI i) i s _ _ _ _ _ _ _ _ _ w' T' (by omega) (by omega) (by omega) (by omega) hp (by omega) rfl hs (by omega) ho rfl rfl rfl rfl rfl rfl rfl rfl hH hL;rw[hD]at this
   exact this
 ·have h0:f=0:=by omega
  subst h0;obtain⟨r1,r2,r3,r4,r5,r6,r7⟩:=aGN k (by omega);obtain⟨i,hi⟩:∃i,i=iS k:=⟨_,rfl⟩
  rw[←hi]at r1 r2 r5 r6 r7
  obtain⟨s,hs⟩:∃s:Nat,-((k:Int)-1074-11+lpI i+3)=s:=⟨(-((k:Int)-1074-11+lpI i+3)).toNat,by omega⟩
  obtain⟨d,q,j,hD,hA⟩:=aHY (4503599627370496+0) k i s _ _ _ ((k:Int)-1074-11) (by omega) (by omega) rfl hrI hi (by omega) hs rfl rfl rfl;refine⟨d,q,j,hA,fun w' T'=>?_⟩;obtain⟨hH,hL⟩:=aBM i (by omega);have hp:-((((k:Int)-1074-11+11)*631305-261663) / 2097152)=(i:Int)-348:=by rw[r2];congr 4;omega
  have:=aKk 9223372036854775808 ((k:Int)-1074-11) (lpI i) i s 0 _ _ _ _ _ _ _ _ w' T' (by omega) (by omega) rfl hp (by omega) rfl hs (by omega) (by decide) rfl rfl rfl rfl rfl rfl rfl rfl hH hL;rw[hD]at this
  exact this
theorem aK7 (b L x:Nat)(h1:1≤b)(h2:b<4503599627370496)(L1:1≤L)(L2:L≤52)(l1:2^(L-1)≤b)(l2:b<2^L)(hx:b*2^(64-L)=x) :
  x<18446744073709551616∧∃d q j,gI b d q j∧∀w',aA w'→Calls Tryz.prog 265 #[.int .u64 x,.int .i64 ((L:Int)-1138)] w' fun e' w2=>e'=.returned (.tuple #[.int .u64 d,.int .i64 q])∧Below w'.heap.size w' w2:=by
 obtain⟨z,hz⟩:∃z,64-L=z:=⟨_,rfl⟩
 rw[hz]at hx
 obtain⟨P,hP⟩:∃P,2^(z-1)=P:=⟨_,rfl⟩
 have hzp:2^z=2*P:=by rw[←hP,Nat.mul_comm,←Nat.pow_succ];congr 1;omega
 have hPp:0<P:=by rw[←hP];exact Nat.two_pow_pos _
 have hx64:x+2*P≤18446744073709551616:=by
  have:=Nat.mul_le_mul_right (2^z) (show b+1≤2^L from l2);rw[←Nat.pow_add,show L+z=64 by omega,Nat.add_mul,Nat.one_mul,hx,hzp]at this
  exact this
 have hx63:9223372036854775808≤x:=by
  have:=Nat.mul_le_mul_right (2^z) l1;rw[←Nat.pow_add,show L-1+z=63 by omega,hx]at this
  exact this
 refine⟨by omega,?_⟩;obtain⟨r1,r2,r3,r4,r5,r6,r7⟩:=aEY 0 (by omega);have hlp:=aQM;obtain⟨i,hi⟩:∃i,i=iR 0:=⟨_,rfl⟩
 rw[←hi]at r1 r2 r5 r6 r7 hlp
 obtain⟨s,hs⟩:∃s:Nat,-((L:Int)-1138+lpI i+3)=s:=⟨(-((L:Int)-1138+lpI i+3)).toNat,by omega⟩
 obtain⟨d,q,j,hD,hA⟩:=aC6 b 0 z i s (b%2) _ _ _ ((L:Int)-1138) (by omega) h1 (by omega) (.inr rfl) (by omega) (by rw[hx];omega) (by unfold aJ;omega) hi (by omega) hs rfl rfl rfl rfl;rw[Nat.zero_mul,Nat.zero_add]at hA
 refine⟨d,q,j,hA,fun w' T'=>?_⟩;rw[hx]at hD
 obtain⟨hH,hL⟩:=aBM i (by omega);have hp:-(((L:Int)-1138+z)*78913 / 262144)=(i:Int)-348:=by rw[r2];congr 2;omega
 have ho:x / 2^z%2=b%2:=by rw[←hx,Nat.mul_div_cancel _ (Nat.two_pow_pos _)]
 have:=aKl x z _ _ ((L:Int)-1138) (lpI i) i s _ _ _ _ _ _ _ _ _ w' T' (by omega) (by omega) (by omega) hx63 (by omega) rfl rfl (by rw[hP];omega) hp (by omega) rfl hs (by omega) ho rfl rfl rfl rfl rfl rfl rfl rfl hH hL;rw[hD]at this
 exact this
theorem aLz (b:Nat)(h1:1≤b)(h2:b<aJ):∃d q j,gI b d q j∧lZ b (eN (cJ d) ((Lib.nDigits d:Int)+q-1)):=by
 have hI:b<9218868437227405312:=h2;by_cases hc:b<4503599627370496
 ·obtain⟨L,hL,L1,_,l1,l2⟩:=qV b h1 (by omega);have L2:L≤52:=by
   refine Nat.le_of_not_lt fun h=>?_
   have:2^52≤2^(L-1):=Nat.pow_le_pow_right (by decide) (by omega);have e52:(2:Nat)^52=4503599627370496:=by decide
   omega
  obtain⟨hx,d,q,j,hA,hC⟩:=aK7 b L _ h1 hc L1 L2 l1 l2 rfl;have j1:=hA.idx;have j2:=hA.j1;have j3:=hA.j2;refine⟨d,q,j,hA,?_⟩;intro w B ad c S hO T hS;exact aLA w B ad c S b L _ d q hO T h1 hc hL L1 L2 rfl hx hS hC hA.pos (Nat.lt_trans hA.lt (by decide)) (by omega) (by omega)
 ·obtain⟨d,q,j,hA,hC⟩:=aFy (b / 4503599627370496) (b%4503599627370496) (by omega) (by omega) (by omega);have eb:b / 4503599627370496*4503599627370496+b%4503599627370496=b:=by omega
  rw[eb]at hA
  have j1:=hA.idx;have j2:=hA.j1;have j3:=hA.j2;refine⟨d,q,j,hA,?_⟩;intro w B ad c S hO T hS;exact aFH w B ad c S b (b / 4503599627370496) (b%4503599627370496) d q hO T (by omega) rfl rfl (by omega) (by omega) (by omega) hS hC hA.pos (Nat.lt_trans hA.lt (by decide)) (by omega) (by omega)
open Go.RowKit
theorem vX (b:Nat):sgn false+b=b:=by simp[sgn]
theorem aKR (neg:Bool)(b:Nat)(h:b<9223372036854775808):tG (sgn neg+b)=b:=by
 cases neg
 ·rw[vX];exact aM6 b h
 ·unfold tG;have e:bits .andNot .u64 ((sgn true+b:Nat):Int) 9223372036854775808=(b:Int):=by
   have e:=u64_andNot_nat (sgn true+b) 9223372036854775808 (by unfold sgn;rw[if_pos rfl];omega) (by omega);refine e.trans ?_;congr 1;rw[show 18446744073709551615-9223372036854775808=2^63-1 by decide,Nat.and_two_pow_sub_one_eq_mod];have p63:(2:Nat)^63=9223372036854775808:=by decide
   rw[p63];unfold sgn;rw[if_pos rfl];omega
  rw[e,Int.toNat_natCast]
theorem oN (neg:Bool)(b:Nat)(h:b<aJ):lW (sgn neg+b)=false:=by
 have hI:b<9218868437227405312:=h;unfold lW;rw[aKR neg b (by omega)];obtain⟨c1,k1⟩:=kO false b h;obtain⟨c2,k2⟩:=kO false 9218868437227405311 (by unfold aJ;omega);rw[vX]at c1 k1 c2 k2
 cases hh:FloatKind.f64.format.order b 9218868437227405311==some .gt with
 | false=>rfl
 | true =>
  have h3:=((aEk b 9218868437227405311).1 hh).2;rw[c1,c2,k1,k2]at h3
  have v:=oW b 9218868437227405311 (by omega);simp only[Bool.false_eq_true,if_false]at h3;unfold jA at h3;repeat' split at h3
  all_goals omega
theorem yL (neg:Bool)(b:Nat)(h:b<aJ):(FloatKind.f64.format.order (sgn neg+b) (sgn neg+b)==some .eq)=true:=by
 obtain⟨c1,_⟩:=kO neg b h;exact(aBa _ _).2 ⟨⟨by omega,by omega⟩,by simp[jA]⟩
theorem aM0:aM 0=0:=by decide
theorem aCt (neg:Bool)(b:Nat)(h:b<aJ)(h1:1≤b):(FloatKind.f64.format.order (sgn neg+b) 0==some .eq)=false:=by
 obtain⟨c1,k1⟩:=kO neg b h;have v:=iG 0 b h1;rw[aM0]at v
 cases hh:FloatKind.f64.format.order (sgn neg+b) 0==some .eq with
 | false=>rfl
 | true =>
  have h3:=((aBa _ _).1 hh).2;rw[c1,zF,k1,aCr]at h3
  unfold jA at h3;cases neg<;>simp at h3<;>(repeat' split at h3)<;>omega
theorem aCs (neg:Bool)(b:Nat)(h:b<aJ)(h1:1≤b):(FloatKind.f64.format.order (sgn neg+b) 0==some .lt)=neg:=by
 obtain⟨c1,k1⟩:=kO neg b h;have v:=iG 0 b h1;rw[aM0]at v
 have key:=aJu (sgn neg+b) 0;unfold ltF at key;cases neg
 ·cases hh:FloatKind.f64.format.order (sgn false+b) 0==some .lt with
  | false=>rfl
  | true =>
   have h3:=(key.1 hh).2;rw[c1,zF,k1,aCr]at h3
   unfold jA at h3;simp at h3
   (repeat' split at h3)<;>omega
 ·refine key.2 ⟨⟨by omega,by rw[zF];omega⟩,?_⟩;rw[c1,zF,k1,aCr];unfold jA;simp;omega
theorem aJQ (b:Nat)(h:b<aJ)(h1:1≤b):uX b:=by
 have a:=yL false b h;have c:=oN false b h;have d:=aCt false b h h1;have e:=aCs false b h h1;rw[vX]at a c d e
 exact⟨by simp[bne,a],c,d,e⟩
def zO (D:List UInt8)(x:Int):List UInt8 :=
 if (D.length:Int)≤x+1∧x+1≤21 then D++List.replicate (x+1-D.length).toNat 48
 else if 1≤x+1∧x+1≤21 then D.take (x+1).toNat++[46]++D.drop (x+1).toNat
 else if -5≤x+1∧x+1≤0 then [48,46]++List.replicate (-(x+1)).toNat 48++D
 else bV D++(if 0<x+1 then [101,43]++Lib.itoa x else [101,45]++Lib.itoa (-x))
theorem aJU (b:Nat)(D:List UInt8)(x:Int)(w:World)(T:aA w)(hB:uX b)(h1:1≤D.length)(h2:D.length≤20)(hd:∀c∈D,aE c=true)(x0:-900<x)(x1:x<900)(hF:lZ b (eN D x)) :
  Calls Tryz.prog 63 #[.float .f64 b] w fun e w'=>e=.returned (.string ⟨(zO D x).toArray⟩)∧Below w.heap.size w w':=by
 have hP:=aEP D x h1 (by omega) hd (by omega) (by omega);unfold zO;by_cases c1:(D.length:Int)≤x+1∧x+1≤21
 ·rw[if_pos c1];exact aFU b _ _ _ D x w T hF hP hB c1.1 c1.2
 ·rw[if_neg c1];by_cases c2:1≤x+1∧x+1≤21
  ·rw[if_pos c2];exact aFT b _ _ _ D x w T hF hP hB (by omega) c2.1 c2.2 (by omega)
  ·rw[if_neg c2];by_cases c3:-5≤x+1∧x+1≤0
   ·rw[if_pos c3];exact aHF b _ _ _ D x w T hF hP hB (by omega) h1 c3.2 c3.1
   ·rw[if_neg c3];match D,h1,h2,hd,hF,hP with
    | [d],_,_,_,hF,hP =>
     by_cases c4:0<x+1
     ·rw[if_pos c4];exact aDv b _ _ _ d x w T hF hP hB (by omega)
     ·rw[if_neg c4];exact aDu b _ _ _ d x w T hF hP hB (by omega)
    | d :: f :: D,_,h2,_,hF,hP =>
     by_cases c4:0<x+1
     ·rw[if_pos c4];have:=aCw b _ _ _ _ d (f :: D) x w T hF hP hB (by omega) rfl (by simp) (by simp at h2 ⊢;omega);have e:bV (d :: f :: D)++([101,43]++Lib.itoa x)=d :: 46 :: (f :: D)++[101,43]++Lib.itoa x:=by simp[bV]
      rw[e];exact this
     ·rw[if_neg c4];have:=aCv b _ _ _ _ d (f :: D) x w T hF hP hB (by omega) rfl (by simp) (by simp at h2 ⊢;omega);have e:bV (d :: f :: D)++([101,45]++Lib.itoa (-x))=d :: 46 :: (f :: D)++[101,45]++Lib.itoa (-x):=by simp[bV]
      rw[e];exact this
theorem aHE (b:Nat)(h1:1≤b)(h2:b<aJ):∃d q j,gI b d q j∧∀w,aA w→Calls Tryz.prog 63 #[.float .f64 b] w fun e w'=>e=.returned (.string ⟨(zO (cJ d) ((Lib.nDigits d:Int)+q-1)).toArray⟩)∧Below w.heap.size w w':=by
 obtain⟨d,q,j,hA,hF⟩:=aLz b h1 h2;have j1:=hA.idx;have j2:=hA.j1;have j3:=hA.j2;have n1:=Lib.nDigits_pos d;have n2:=gM d (Nat.lt_trans hA.lt (by decide));obtain⟨l1,l2⟩:=aAs d hA.pos;exact⟨d,q,j,hA,fun w T=>aJU b (cJ d) _ w T (aJQ b h2 h1) l1 (by omega) (aAr d) (by omega) (by omega) hF⟩
theorem aEE (b:Nat)(h2:b<aJ):Op.negFloat .f64 (sgn true+b)=b:=by
 have hI:b<9218868437227405312:=h2;have es:sgn true+b=9223372036854775808+b:=by simp[sgn]
 show(sgn true+b) ^^^ 2^(FloatKind.f64.format.exponentBits+FloatKind.f64.format.fractionBits)=_;have e:FloatKind.f64.format.exponentBits+FloatKind.f64.format.fractionBits=63:=by kernel_rfl
 rw[e,es];have d:=Nat.xor_div_two_pow (a:=9223372036854775808+b) (b:=2^63) (n:=63);have r:=Nat.xor_mod_two_pow (a:=9223372036854775808+b) (b:=2^63) (n:=63);have p63:(2:Nat)^63=9223372036854775808:=by decide
 rw[p63]at d r ⊢
 rw[show(9223372036854775808+b) / 9223372036854775808=1 by omega,Nat.div_self (by decide),Nat.xor_self]at d
 rw[show(9223372036854775808+b)%9223372036854775808=b by omega,Nat.mod_self,Nat.xor_zero]at r
 omega
theorem aJT (b:Nat)(txt:List UInt8)(hl:txt.length≤1000)(h1:1≤b)(h2:b<aJ)(w:World)(T:aA w)(hP:∀w,aA w→Calls Tryz.prog 63 #[.float .f64 b] w fun e w'=>e=.returned (.string ⟨txt.toArray⟩)∧Below w.heap.size w w') :
  Calls Tryz.prog 63 #[.float .f64 (9223372036854775808+b:Nat)] w fun e w'=>e=.returned (.string ⟨(45 :: txt).toArray⟩)∧Below w.heap.size w w':=by
 have hI:b<9218868437227405312:=h2;have es:sgn true+b=9223372036854775808+b:=by simp[sgn]
 have g1:=yL true b h2;have g2:=oN true b h2;have g3:=aCt true b h2 h1;have g4:=aCs true b h2 h1;have g5:=aEE b h2;rw[←es];have g1':(FloatKind.f64.format.order (sgn true+b) (sgn true+b) !=some .eq)=false:=by simp[bne,g1]
 have un:=gF;have II:=fun w=>gL (sgn true+b) false w g2
 obtain⟨x,hx⟩:∃x,sgn true+b=x:=⟨_,rfl⟩
 rw[hx]at g1 g1' g3 g4 g5 II ⊢
 have HII:=hid II;have HP:=hid hP;have HT:=hid T;clear hP T II hx es g2 g1;go_enter Tryz.func63,Tryz.ntmps63
 go_wp2_with (go_at_call 67;((with_reducible refine(HII.out _).mono ?_);rintro e w' ⟨rfl,rfl⟩))
 refine(HP.out _ HT.out).mono ?_;rintro e w2 ⟨rfl,B2⟩;have HB2:=hid B2;clear B2;go_wp2
 go_ret;refine⟨iE ?_,HB2.out⟩;simp
open Go.RowKit Go.Sort
def zQ:Array Value:=#[Value.int .u8 0,Value.int .u8 0,Value.int .u8 0,Value.int .u8 0,Value.int .u8 0,Value.int .u8 0,Value.int .u8 0,Value.int .u8 0,Value.int .u8 0,Value.int .u8 0,Value.int .u8 0,Value.int .u8 0,Value.int .u8 0,Value.int .u8 0,Value.int .u8 0,Value.int .u8 0,Value.int .u8 0,Value.int .u8 0,Value.int .u8 0,Value.int .u8 0,Value.int .u8 0,Value.int .u8 0,Value.int .u8 0,Value.int .u8 0]
theorem aIl:zQ=Array.replicate 24 (.int .u8 0):=rfl
theorem aNN (w:World)(T:TypeId):Holds (fun(b:UInt8)=>Value.int .u8 (b.toNat:Int)) (w.alloc (.cells zQ T)) w.heap.size 0 (Array.replicate 24 (0:UInt8)):=fun j hj=>by
 have hj':j<24:=by simpa using hj
 refine⟨?_,World.frozen?_alloc_new _ _ _ _⟩;rw[World.cell?_alloc_new,getElem!_pos _ j hj];rw[aIl];simp[hj']
def aIn (b x:Nat)(ee:Int):Prop :=
 (b<4503599627370496∧∃L,Lib.bitLen b=L∧1≤L∧L≤52∧b*2^(64-L)=x∧ee=(L:Int)-1138) ∨
 (4503599627370496≤b∧(4503599627370496+b%4503599627370496)*2048=x∧ee=((b / 4503599627370496:Nat):Int)-1086)
theorem aHn (w:World)(B:Nat)(ad:Option Addr)(c:Nat)(S:Nat→Prop)(b x k d:Nat)(ee p:Int)(hO:Out w w B S ad c [])(T:aA w)
  (hb1:1≤b) (hb:b<9218868437227405312) (hx2:x<18446744073709551616) (hc:aIn b x ee) (hS:∀k,S k→k<w.heap.size)
  (FC:∀w',aA w'→Calls Tryz.prog 261 #[.int .u64 x,.int .i64 ee,.int .i64 ((k:Int)+1),.int .i64 k,.int .u8 101] w' fun e' w2=>e'=.returned (.tuple #[.int .u64 d,.int .i64 p])∧Below w'.heap.size w' w2)
  (k16:k≤16) (hN:Lib.nDigits d=k+1) (hd1:1≤d) (hd:d<18446744073709551616) (p1:-900≤p) (p2:p≤900) :
  Calls Tryz.prog 228 #[.slice ad 0 c,.float .f64 b,.int .u8 101,.int .i64 k] w (tU w B S (eN (Lib.decDigits d) ((k:Int)+p))):=by
 have hk0:¬(k:Int)<0:=by omega
 have hk1:(0:Int)<(k:Int)+1:=by omega
 have hk18:(k:Int)+1≤18:=by omega
 have hdne:((d:Int) !=0)=true:=by rw[bne_iff_ne];omega
 have d85:=aD7;have hopt:=T.opt;have n20:=gM d hd;have ND:=fun(w:World) (h:Lib.TabIs Tryz.prog w "internal/strconv.uint64pow10" .u64 Lib.pow10Tab)=>Tryz.internal_strconv_numDigits d hd1 hd w h
 rw[hN]at ND
 have ht1:=wB d hd1;have ht2:bN (Lib.decDigits d)≤k+1:=by have:=iU (Lib.decDigits d);rw[Lib.decDigits_length,hN]at this;exact this
 obtain⟨t,ht⟩:∃t,bN (Lib.decDigits d)=t+1:=⟨bN (Lib.decDigits d)-1,by omega⟩
 obtain⟨z,hz⟩:∃z,k=t+z:=⟨k-t,by omega⟩
 have hz':(k:Int)=(t:Int)+(z:Int):=by omega
 have hback:=aCI d;have hcl:(cJ d).length=t+1:=by unfold cJ;rw[List.length_take,ht,Lib.decDigits_length];omega
 rw[hcl,hN,show k+1-(t+1)=z by omega]at hback
 have HBK:=hid hback;have HCL:=hid hcl;have HN:=hid hN;have HND:=hid ND;have HTT:=hid ht;have HZ:=hid hz';have HK16:=hid k16;have HO:=hid hO;have HT:=hid T;have HFC:=hid FC;have HSS:=hid hS;have HP:Hid (-900≤p∧p≤900):=⟨p1,p2⟩
 have HD:Hid (1≤d∧d<18446744073709551616):=⟨hd1,hd⟩
 have HTK:Hid (t≤k):=hid (by omega);have g4:((b:Int) / 9223372036854775808 !=0)=false:=bne_eq_false_iff_eq.2 (by omega);clear hO T FC hS hback hcl hN ND ht ht1 ht2 hz hz' k16 n20 p1 p2 hd1 hd;rcases hc with⟨hb5,L,hL,L1,L2,hx,he⟩|⟨hb5,hx,he⟩
 case' inl =>
  have a1:bits .and .i64 (0:Int) 2047=0:=uA 0 (by omega);have a2:=aDI b (by omega);rw[Nat.mod_eq_of_lt hb5]at a2
  have g3:(b:Int) / 4503599627370496=0:=by omega
  have g5:((b:Int)==0)=false:=beq_eq_false_iff_ne.2 (by omega);have HL:=hid (fun w=>aBp b L w (by omega) hL);have HX:Hid (IntKind.u64.wrap ((b:Int)*2^(64-L))=(x:Int)):=by
   show _=_;rw[cW,←hx];have:((b*2^(64-L):Nat):Int)=(b:Int)*2^(64-L):=by push_cast;rfl
   rw[←this];omega
  have HE:Hid ((-1022:Int)-(64-(L:Int))-52=ee):=hid (by omega);clear hx he hL hx2 hb hb1;go_enter Tryz.func228,Tryz.ntmps228
  go_wp2_with fail
  go_quiet (fail)
  go_wp2_with (go_at_call 191;((with_reducible refine(HL.out _).mono ?_);rintro e w' ⟨rfl,rfl⟩))
  rw[HX.out,HE.out]
 case' inr =>
  obtain⟨E,hE⟩:∃E,b / 4503599627370496=E:=⟨_,rfl⟩
  obtain⟨f,hf⟩:∃f,b%4503599627370496=f:=⟨_,rfl⟩
  have f1:f<4503599627370496:=by omega
  have E1:1≤E:=by omega
  have E2:E≤2046:=by omega
  have a1:=uA E (by omega);have a2:=aDI b (by omega);rw[hf]at a2
  have a3:=aPX f f1;have g1:((E:Int)==2047)=false:=beq_eq_false_iff_ne.2 (by omega);have g2:((E:Int)==0)=false:=beq_eq_false_iff_ne.2 (by omega);have g3:(b:Int) / 4503599627370496=E:=by omega
  have HL:=hid (fun w=>aMQ f w f1);obtain⟨M,hM⟩:∃M,M=4503599627370496+f:=⟨_,rfl⟩
  rw[←hM]at a3 HL
  have g5:((M:Int)==0)=false:=beq_eq_false_iff_ne.2 (by omega);have m2:M<9007199254740992:=by omega
  rw[hf,←hM]at hx
  rw[hE]at he
  have HX:Hid ((M:Int)*2048=(x:Int)):=hid (by omega);have HE:Hid ((E:Int)+-1023-11-52=ee):=hid (by omega);clear hx he hE hf hM f1 E1 hx2 hb hb1 hb5;go_enter Tryz.func228,Tryz.ntmps228
  go_wp2_with fail
  go_quiet (fail)
  go_wp2_with (go_at_call 191;((with_reducible refine(HL.out _).mono ?_);rintro e w' ⟨rfl,rfl⟩))
  rw[HX.out,HE.out]
 all_goals
  obtain⟨g,hg⟩:∃g,g=w.heap.size:=⟨_,rfl⟩
  obtain⟨W,hW⟩:∃W,W=(w.drewN nq).alloc (.cells zQ 214):=⟨_,rfl⟩
  have bW:Below w.heap.size w W:=by rw[hW];exact((Below.refl w.heap.size w).trans ⟨rfl,rfl,rfl,Nat.le_refl _,fun _ _=>rfl⟩:Below w.heap.size w (w.drewN nq)).alloc mO _
  have sW:W.heap.size=g+1:=by rw[hW,hg];simp
  have hH:Holds (fun(b:UInt8)=>Value.int .u8 (b.toNat:Int)) W g 0 (Array.replicate 24 (0:UInt8)):=by rw[hW,hg];exact aNN (w.drewN nq) 214
  have TW:=HT.out.below bW mO;have hW2:=hW;unfold zQ at hW2;rw[←hW2,←hg];clear hW hW2;refine(HFC.out W TW).mono ?_;rintro e1 w2 ⟨rfl,B2⟩;have HH2:=hid (Holds.below hH B2 (by omega));have HB2:=hid (bW.trans (B2.mono (by omega)));have hs2:g<w2.heap.size:=by have:=B2.size;omega
  have HT2:=hid (HT.out.below HB2.out mO);have HGG:=hid hg;clear hg hH B2 TW bW sW;go_wp2_with fail
  obtain⟨C,hC⟩:∃C:World→Prop,∀u,C u:=⟨fun _=>True,fun _=>trivial⟩
  haveI:Nonempty (WIn C):=⟨⟨w2,hC _⟩⟩
  refine dI 10 [([0,1,2,3],4),([],5)] [6,7,8,9] C (by kernel_rfl) (by kernel_rfl) (hC _) ?_;refine bE (fun K' hK'=>?_);simp only[pick,pickZ,pickS,pickG];repeat (go_big_quiet_step (fail))
  refine wpQuiet_nil (hK' _ (fun Q1 hQ1=>?_));clear hK' K';simp only[pick,pickZ,pickS,pickG];go_wp2_with fail
  refine(HND.out _ (HT2.out.drewN 1).u10).mono ?_;rintro e w3 ⟨rfl,hw3⟩;subst hw3;go_wp2_with fail
  refine hQ1 _ _ (hC _) (bE (fun K' hK'=>wpQuiet_nil (hK' _ (fun Q2 hQ2=>?_))));clear hK' K' hQ1 Q1;simp only[pick,pickZ,pickS,pickG];go_wp2_with fail
  refine(wH g d 24 p (k+1) (w2.drewN 1) (Holds.drewN HH2.out 1) (by omega) HD.out.1 HD.out.2 HN.out (by have:=HP.out;omega) (by have:=HP.out;omega)).mono ?_;rintro e w3 ⟨rfl,S3,K3⟩;have HS3:=hid S3;have HK3:=hid K3;clear S3 K3;go_wp2_with fail
  refine hQ2 _ _ (hC _) (dP (fun K' hK'=>?_));clear hQ2 Q2;simp only[pick,pickZ,pickS,pickG];repeat (go_big_quiet_step (fail))
  refine wpQuiet_nil (hK' _ (fun Q3 hQ3=>?_));clear hK' K';simp only[List.drop_succ_cons,List.drop_zero];go_wp2_with fail
  rw[HTT.out];have K03:aD (fun i=>w.heap.size≤i) w w3:=(aD.of_below HB2.out).trans ((((aD.refl (· = g) w2).drewN 1).trans HK3.out).mono (fun i _ e=>by have:=HGG.out;omega));have K03f:aD (fun _=>False) w w3:=K03.mono (fun i hi e=>by omega);have O3:=HO.out.later K03;have S3':IsB w3 (some ⟨g,0,none⟩) ((Lib.decDigits d).take (t+1)):=HS3.out.take (t+1);have hl3:((Lib.decDigits d).take (t+1)).length=t+1:=by
   have:=HCL.out;unfold cJ at this;rwa[HTT.out]at this
  have hz3:g<w3.heap.size:=by have:=HK3.out.size;simp at this;omega
  have hp1:=HP.out.1;have hp2:=HP.out.2;have hk16:=HK16.out;have htk:=HTK.out;have hzz:=HZ.out;have hg9:¬S g:=fun e=>by have:=HSS.out g e;have:=HGG.out;omega
  have F:=aMM w3 B g t z 24 ad c S _ (((k+1:Nat):Int)+p) false O3 S3' hg9 hz3 hl3 (by omega) (by omega) (by omega) (by omega) (by omega);rw[←hzz]at F
  have HFF:=hid F;have HK3f:=hid K03f;clear F K03 K03f O3 S3' hl3 hz3 hg9 hzz htk hk16 hp1 hp2;refine HFF.out.mono ?_;rintro e w4 ⟨ad4,c4,rfl,O4⟩;have HO4:=hid O4;clear O4;go_wp2
  go_ret;have he:Lib.decDigits d=(Lib.decDigits d).take (t+1)++List.replicate z 48:=by
   have:=HBK.out;unfold cJ at this;rw[HTT.out]at this
   exact this.symm
  have hq:((k+1:Nat):Int)+p-1=(k:Int)+p:=by omega
  refine⟨ad4,c4,?_,?_⟩
  ·rw[←hq];conv=>rhs;rw[he]
   rfl
  ·have:=Out.first HK3f.out HO4.out;rw[hq,←he]at this
   exact this
end Go.Proofs.YtcfgbdhpcboikaaGreatDoor
