/-
shortFloat at the least normal float.
-/
import Derived.Test.YtcfgbdhpcboikaaGreatDoorShortT
namespace Go.Proofs.YtcfgbdhpcboikaaGreatDoor
open Go.Lib (hid)
set_option maxHeartbeats 4000000
set_option maxRecDepth 100000
open Go.RowKit
theorem nD {n:Nat}:n≤n:=Nat.le_refl n
theorem aEM (m:Nat)(e lp:Int)(i s odd umin umax um nmin nmax dmin dmax dm:Nat)(w:World)(T:aC w)(he1:-1085≤e)(he2:e≤-1085)(hm1:9223372036854775808≤m)(hm2:m≤9223372036854775808)
    (hp:-((e+11)*78913 / 262144)=(i:Int)-348) (hi:i<696) (hlp:((i:Int)-348)*108853 / 32768=lp) (hs:-(e+lp+3)=s) (hs64:s<64) (hodd:m / 2048%2=odd)
    (h1:cQ (m-1024) (aN i) (aY i) s=umin) (h2:cQ (m+1024) (aN i) (aY i) s=umax) (h3:cQ m (aN i) (aY i) s=um)
    (n1:eW umin odd=nmin) (n2:eW umax (-(odd:Int))=nmax) (k1:pR nmin=dmin) (k2:nmax / 4=dmax) (k3:jL um=dm) (hH:aN i<18446744073709551616) (hL:aY i<18446744073709551616) :
    Calls Tryz.prog 265 #[.int .u64 m,.int .i64 e] w fun e' w'=>e'=.returned (.tuple #[.int .u64 (bR dmin dmax dm ((i:Int)-348)).1,.int .i64 (bR dmin dmax dm ((i:Int)-348)).2])∧Below w.heap.size w w':=by
  have U1:=fun(w:World) b o c0 c1 c2=>dZ (m-1024) (aN i) (aY i) s w b o c0 c1 c2 (by omega) hH hL hs64
  have U2:=fun(w:World) b o c0 c1 c2=>dZ (m+1024) (aN i) (aY i) s w b o c0 c1 c2 (by omega) hH hL hs64
  have U3:=fun(w:World) b o c0 c1 c2=>dZ m (aN i) (aY i) s w b o c0 c1 c2 (by omega) hH hL hs64
  rw[h1]at U1
  rw[h2]at U2
  rw[h3]at U3
  have em:((m-1024:Nat):Int)=(m:Int)-1024:=by omega
  have ep:((m+1024:Nat):Int)=(m:Int)+1024:=by omega
  rw[em]at U1
  rw[ep]at U2
  have ha:=uE (m / 2048) (by omega);have e5:((m / 2048:Nat):Int)=(m:Int) / 2048:=by omega
  rw[hodd,e5]at ha
  have hodd2:odd≤1:=by omega
  have j1:nmin<18446744073709551616:=by rw[←n1];exact jA _ _
  have j2:nmax<18446744073709551616:=by rw[←n2];exact jA _ _
  have j3:dmax<18446744073709551616:=by omega
  have N1:=fun w=>kT umin nmin odd w (by rw[←h1];exact cR _ _ _ _ (by omega) hH hL) n1
  have N2:=fun w=>kT umax nmax (-(odd:Int)) w (by rw[←h2];exact cR _ _ _ _ (by omega) hH hL) n2
  have C1:=fun w=>xM nmin dmin w j1 k1
  have F1:=fun w=>tR nmax dmax w j2 k2
  have R1:=fun w=>qU um dm w (by rw[←h3];exact cR _ _ _ _ (by omega) hH hL) k3
  have l1:umin<18446744073709551616:=by rw[←h1];exact cR _ _ _ _ (by omega) hH hL
  have l2:umax<18446744073709551616:=by rw[←h2];exact cR _ _ _ _ (by omega) hH hL
  have l3:um<18446744073709551616:=by rw[←h3];exact cR _ _ _ _ (by omega) hH hL
  have HU1:=hid U1;have HU2:=hid U2;have HU3:=hid U3;have HT:=hid T;have HS:=hid hs;have HO:=hid hodd;have HN1:=hid N1;have HN2:=hid N2;have HC1:=hid C1;have HF1:=hid F1;have HR1:=hid R1;clear U1 U2 U3 h1 h2 h3 hH hL T hs hodd N1 N2 C1 F1 R1 n1 n2 k1 k2 k3 em ep e5;have hne:((m:Int)==9223372036854775808)=true:=beq_iff_eq.2 (by omega);go_enter Tryz.func265,Tryz.ntmps265
  go_wp2_with (first
    | (go_at_call 260;refine(wR _ _ (by omega) (by omega)).mono ?_;rintro e w' ⟨rfl,rfl⟩)
    | (go_at_call 272;refine(oE _ _ (by omega) (by omega)).mono ?_;rintro e w' ⟨rfl,rfl⟩))
  have T1:aC (w.alloc (.cells #[.int .u64 0,.int .u64 0,.int .i64 0] 265)):=HT.out.below ((Below.refl w.heap.size w).alloc nD _) nD;have hg:=heap_alloc_new w (.cells #[.int .u64 0,.int .u64 0,.int .i64 0] 265);have hsz:=HT.out.size;refine(iU e lp s i _ w.heap.size _ _ _ _ hg rfl hi (by omega) T1 (by omega) (by omega) (by omega) (by omega) HS.out).mono ?_;rintro e1 w1 ⟨rfl,hg1,K1⟩;have hz1:w.heap.size<w1.heap.size:=by have:=K1.size;simp at this;omega
  have B1:Below w.heap.size w w1:=(((aG.refl (fun _=>False) w).alloc _).trans' K1 (fun _ _ h=>by omega)).below nD (fun _ _ h=>h.elim);have HB1:=hid B1;have HK1:=hid K1;have c0:=cell_of_row w1 w.heap.size 0 _ _ _ hg1;have c1:=cell_of_row w1 w.heap.size 1 _ _ _ hg1;have c2:=cell_of_row w1 w.heap.size 2 _ _ _ hg1;simp at c0 c1 c2;obtain⟨g,hgg⟩:∃g,w.heap.size=g:=⟨_,rfl⟩
  rw[hgg]at c0 c1 c2 hg1 hz1 ⊢
  clear T1 hg K1 B1 hgg hsz hg1;go_wp2_with (first
    | (go_at_call 274;((with_reducible refine(HU1.out _ _ _ ?_ ?_ ?_).mono ?_);all_goals first|exact c0|exact c1|exact c2|skip);rintro e w' ⟨rfl,n,rfl⟩)
    | (go_at_call 274;((with_reducible refine(HU2.out _ _ _ ?_ ?_ ?_).mono ?_);all_goals first|exact c0|exact c1|exact c2|skip);rintro e w' ⟨rfl,n,rfl⟩)
    | (go_at_call 274;((with_reducible refine(HU3.out _ _ _ ?_ ?_ ?_).mono ?_);all_goals first|exact c0|exact c1|exact c2|skip);rintro e w' ⟨rfl,n,rfl⟩)
    | (go_at_call 277;((with_reducible refine(HR1.out _).mono ?_);rintro e w' ⟨rfl,rfl⟩))
    | (go_at_call 283;((with_reducible refine(HN1.out _).mono ?_);rintro e w' ⟨rfl,rfl⟩))
    | (go_at_call 283;((with_reducible refine(HN2.out _).mono ?_);rintro e w' ⟨rfl,rfl⟩))
    | (go_at_call 284;((with_reducible refine(HC1.out _).mono ?_);rintro e w' ⟨rfl,rfl⟩))
    | (go_at_call 285;((with_reducible refine(HF1.out _).mono ?_);rintro e w' ⟨rfl,rfl⟩)))
  · have hle:dmin≤dmax / 10*10:=by omega
    go_ret2;refine⟨?_,HB1.out.trans ⟨rfl,rfl,rfl,Nat.le_refl _,fun _ _=>rfl⟩⟩;have e:bR dmin dmax dm ((i:Int)-348)=(dmax / 10,-((i:Int)-348-1)):=by unfold bR;rw[if_pos hle]
    rw[e];rfl
  · have hle:¬dmin≤dmax / 10*10:=by omega
    have hlt:dmin<dmax:=by assumption
    go_ret2;refine⟨?_,HB1.out.trans ⟨rfl,rfl,rfl,Nat.le_refl _,fun _ _=>rfl⟩⟩;have e:bR dmin dmax dm ((i:Int)-348)=(dm,-((i:Int)-348)):=by unfold bR;rw[if_neg hle,if_pos hlt]
    rw[e];rfl
  · have hle:¬dmin≤dmax / 10*10:=by omega
    have hlt:¬dmin<dmax:=by assumption
    go_ret2;refine⟨?_,HB1.out.trans ⟨rfl,rfl,rfl,Nat.le_refl _,fun _ _=>rfl⟩⟩;have e:bR dmin dmax dm ((i:Int)-348)=(dmin,-((i:Int)-348)):=by unfold bR;rw[if_neg hle,if_neg hlt]
    rw[e];rfl
open Go.RowKit
theorem aGB (q:Nat)(h:q<9223372036854775808):wrap64 (q:Int)=(q:Int):=by unfold wrap64;omega
theorem aIa (m z mn mx:Nat)(e lp:Int)(i s odd umin umax um nmin nmax dmin dmax dm:Nat)(w:World)(T:aC w)(he1:-1137≤e)(he2:e < -1085)(hze:11+(-1085-e)=(z:Int))(hm1:9223372036854775808≤m)(hm2:m<18446744073709551616)(hmn:m-2^(z-1)=mn)(hmx:m+2^(z-1)=mx)(hmx2:mx<18446744073709551616)
    (hp:-((e+z)*78913 / 262144)=(i:Int)-348) (hi:i<696) (hlp:((i:Int)-348)*108853 / 32768=lp) (hs:-(e+lp+3)=s) (hs64:s<64) (hodd:m / 2^z%2=odd)
    (h1:cQ mn (aN i) (aY i) s=umin) (h2:cQ mx (aN i) (aY i) s=umax) (h3:cQ m (aN i) (aY i) s=um)
    (n1:eW umin odd=nmin) (n2:eW umax (-(odd:Int))=nmax) (k1:pR nmin=dmin) (k2:nmax / 4=dmax) (k3:jL um=dm) (hH:aN i<18446744073709551616) (hL:aY i<18446744073709551616) :
    Calls Tryz.prog 265 #[.int .u64 m,.int .i64 e] w fun e' w'=>e'=.returned (.tuple #[.int .u64 (bR dmin dmax dm ((i:Int)-348)).1,.int .i64 (bR dmin dmax dm ((i:Int)-348)).2])∧Below w.heap.size w w':=by
  have hz1:12≤(z:Int):=by omega
  have hz2:(z:Int)≤63:=by omega
  have hmg:¬(-1085:Int)<e:=by omega
  have hge:¬(-1085:Int)≤e:=by omega
  obtain⟨Pz,hPz⟩:∃P,2^(z-1)=P:=⟨_,rfl⟩
  have hpz:Pz<9223372036854775808:=by
    have:2^(z-1)≤2^62:=Nat.pow_le_pow_right (by decide) (by omega);have e62:(2:Nat)^62=4611686018427387904:=by decide
    omega
  have ecast:((2:Int)^(z-1))=(Pz:Int):=by rw[←hPz,Int.natCast_pow];rfl
  rw[hPz]at hmn hmx
  have f0:IntKind.u64.wrap ((2:Int)^(z-1))=(Pz:Int):=by rw[dW,ecast];omega
  have f1:IntKind.u64.wrap ((m:Int)-IntKind.u64.wrap ((2:Int)^(z-1)))=(mn:Int):=by rw[f0,dW];omega
  have f2:IntKind.u64.wrap ((m:Int)+IntKind.u64.wrap ((2:Int)^(z-1)))=(mx:Int):=by rw[f0,dW];omega
  obtain⟨q,hq'⟩:∃q,m / 2^z=q:=⟨_,rfl⟩
  have hq4:q<9007199254740992:=by
    rw[←hq'];refine Nat.div_lt_of_lt_mul ?_;have h12:2^12≤2^z:=Nat.pow_le_pow_right (by decide) (by omega);have e12:(2:Nat)^12=4096:=by decide
    rw[e12]at h12
    have:=Nat.mul_le_mul_right 9007199254740992 h12;refine Nat.lt_of_lt_of_le hm2 (Nat.le_trans ?_ this);decide
  have e3:(q:Int)=(m:Int) / 2^z:=by rw[←hq',Int.natCast_ediv,Int.natCast_pow];rfl
  rw[hq']at hodd
  have e4:wrap64 (q:Int)=(q:Int):=aGB q (by clear e3;omega);have hq63:q<9223372036854775808:=Nat.lt_trans hq4 (by decide);have e5:=uE q hq63;rw[hodd]at e5
  have f3:bits .and .i64 (wrap64 ((m:Int) / 2^z)) 1=(odd:Int):=by rw[←e3,e4,e5]
  have HG1:=hid f1;have HG2:=hid f2;have HG3:=hid f3;clear e3 e4 e5 hq' hq4 hq63 f1 f2 f3;have hodd2:odd≤1:=by omega
  have hmn2:mn<18446744073709551616:=by omega
  have U1:=fun(w:World) b o c0 c1 c2=>dZ mn (aN i) (aY i) s w b o c0 c1 c2 hmn2 hH hL hs64
  have U2:=fun(w:World) b o c0 c1 c2=>dZ mx (aN i) (aY i) s w b o c0 c1 c2 hmx2 hH hL hs64
  have U3:=fun(w:World) b o c0 c1 c2=>dZ m (aN i) (aY i) s w b o c0 c1 c2 (by omega) hH hL hs64
  rw[h1]at U1
  rw[h2]at U2
  rw[h3]at U3
  have j1:nmin<18446744073709551616:=by rw[←n1];exact jA _ _
  have j2:nmax<18446744073709551616:=by rw[←n2];exact jA _ _
  have j3:dmax<18446744073709551616:=by omega
  have N1:=fun w=>kT umin nmin odd w (by rw[←h1];exact cR _ _ _ _ (by omega) hH hL) n1
  have N2:=fun w=>kT umax nmax (-(odd:Int)) w (by rw[←h2];exact cR _ _ _ _ (by omega) hH hL) n2
  have C1:=fun w=>xM nmin dmin w j1 k1
  have F1:=fun w=>tR nmax dmax w j2 k2
  have R1:=fun w=>qU um dm w (by rw[←h3];exact cR _ _ _ _ (by omega) hH hL) k3
  have l1:umin<18446744073709551616:=by rw[←h1];exact cR _ _ _ _ (by omega) hH hL
  have l2:umax<18446744073709551616:=by rw[←h2];exact cR _ _ _ _ (by omega) hH hL
  have l3:um<18446744073709551616:=by rw[←h3];exact cR _ _ _ _ (by omega) hH hL
  have HU1:=hid U1;have HU2:=hid U2;have HU3:=hid U3;have HT:=hid T;have HS:=hid hs;have HO:=hid hodd;have HN1:=hid N1;have HN2:=hid N2;have HC1:=hid C1;have HF1:=hid F1;have HR1:=hid R1;clear U1 U2 U3 h1 h2 h3 hH hL T hs hodd N1 N2 C1 F1 R1 n1 n2 k1 k2 k3 f0 ecast hmn hmx hPz;cases hq:((m:Int)==9223372036854775808);all_goals
    go_enter Tryz.func265,Tryz.ntmps265
    go_wp2_with (first
      | (go_at_call 260;refine(wR _ _ (by omega) (by omega)).mono ?_;rintro e w' ⟨rfl,rfl⟩)
      | (go_at_call 272;refine(oE _ _ (by omega) (by omega)).mono ?_;rintro e w' ⟨rfl,rfl⟩))
    rw[HG1.out,HG2.out,HG3.out];have T1:aC (w.alloc (.cells #[.int .u64 0,.int .u64 0,.int .i64 0] 265)):=HT.out.below ((Below.refl w.heap.size w).alloc nD _) nD;have hg:=heap_alloc_new w (.cells #[.int .u64 0,.int .u64 0,.int .i64 0] 265);have hsz:=HT.out.size;refine(iU e lp s i _ w.heap.size _ _ _ _ hg rfl hi (by omega) T1 (by omega) (by omega) (by omega) (by omega) HS.out).mono ?_;rintro e1 w1 ⟨rfl,hg1,K1⟩;have hz1:w.heap.size<w1.heap.size:=by have:=K1.size;simp at this;omega
    have B1:Below w.heap.size w w1:=(((aG.refl (fun _=>False) w).alloc _).trans' K1 (fun _ _ h=>by omega)).below nD (fun _ _ h=>h.elim);have HB1:=hid B1;have HK1:=hid K1;have c0:=cell_of_row w1 w.heap.size 0 _ _ _ hg1;have c1:=cell_of_row w1 w.heap.size 1 _ _ _ hg1;have c2:=cell_of_row w1 w.heap.size 2 _ _ _ hg1;simp at c0 c1 c2;obtain⟨g,hgg⟩:∃g,w.heap.size=g:=⟨_,rfl⟩
    rw[hgg]at c0 c1 c2 hg1 hz1 ⊢
    clear T1 hg K1 B1 hgg hsz hg1;go_wp2_with (first
      | (go_at_call 274;((with_reducible refine(HU1.out _ _ _ ?_ ?_ ?_).mono ?_);all_goals first|exact c0|exact c1|exact c2|skip);rintro e w' ⟨rfl,n,rfl⟩)
      | (go_at_call 274;((with_reducible refine(HU2.out _ _ _ ?_ ?_ ?_).mono ?_);all_goals first|exact c0|exact c1|exact c2|skip);rintro e w' ⟨rfl,n,rfl⟩)
      | (go_at_call 274;((with_reducible refine(HU3.out _ _ _ ?_ ?_ ?_).mono ?_);all_goals first|exact c0|exact c1|exact c2|skip);rintro e w' ⟨rfl,n,rfl⟩)
      | (go_at_call 277;((with_reducible refine(HR1.out _).mono ?_);rintro e w' ⟨rfl,rfl⟩))
      | (go_at_call 283;((with_reducible refine(HN1.out _).mono ?_);rintro e w' ⟨rfl,rfl⟩))
      | (go_at_call 283;((with_reducible refine(HN2.out _).mono ?_);rintro e w' ⟨rfl,rfl⟩))
      | (go_at_call 284;((with_reducible refine(HC1.out _).mono ?_);rintro e w' ⟨rfl,rfl⟩))
      | (go_at_call 285;((with_reducible refine(HF1.out _).mono ?_);rintro e w' ⟨rfl,rfl⟩)))
    · have hle:dmin≤dmax / 10*10:=by omega
      go_ret2;refine⟨?_,HB1.out.trans ⟨rfl,rfl,rfl,Nat.le_refl _,fun _ _=>rfl⟩⟩;have e:bR dmin dmax dm ((i:Int)-348)=(dmax / 10,-((i:Int)-348-1)):=by unfold bR;rw[if_pos hle]
      rw[e];rfl
    · have hle:¬dmin≤dmax / 10*10:=by omega
      have hlt:dmin<dmax:=by assumption
      go_ret2;refine⟨?_,HB1.out.trans ⟨rfl,rfl,rfl,Nat.le_refl _,fun _ _=>rfl⟩⟩;have e:bR dmin dmax dm ((i:Int)-348)=(dm,-((i:Int)-348)):=by unfold bR;rw[if_neg hle,if_pos hlt]
      rw[e];rfl
    · have hle:¬dmin≤dmax / 10*10:=by omega
      have hlt:¬dmin<dmax:=by assumption
      go_ret2;refine⟨?_,HB1.out.trans ⟨rfl,rfl,rfl,Nat.le_refl _,fun _ _=>rfl⟩⟩;have e:bR dmin dmax dm ((i:Int)-348)=(dmin,-((i:Int)-348)):=by unfold bR;rw[if_neg hle,if_neg hlt]
      rw[e];rfl
open Go.RowKit Go.Sort
theorem aJL (w:World)(B:Nat)(ad:Option Addr)(c:Nat)(S:Nat→Prop)(b L x d:Nat)(p:Int)(hO:Out w w B S ad c [])(T:aC w)
    (hb1:1≤b) (hb:b<4503599627370496) (hL:Lib.bitLen b=L) (L1:1≤L) (L2:L≤52) (hx:b*2^(64-L)=x) (hx2:x<18446744073709551616)
    (hS:∀k,S k→k<w.heap.size)
    (SF:∀w',aC w'→Calls Tryz.prog 265 #[.int .u64 x,.int .i64 ((L:Int)-1138)] w' fun e' w2=>e'=.returned (.tuple #[.int .u64 d,.int .i64 p])∧Below w'.heap.size w' w2)
    (hd1:1≤d) (hd:d<18446744073709551616) (p1:-900≤p) (p2:p≤900) :
    Calls Tryz.prog 228 #[.slice ad 0 c,.float .f64 b,.int .u8 101,.int .i64 (-1)] w (fU w B S (lX ((Lib.decDigits d).take (cS (Lib.decDigits d))) ((Lib.nDigits d:Int)+p-1))):=by
  have a1:bits .and .i64 (0:Int) 2047=0:=aBw 0 (by omega);have a2:=aLB b (by omega);rw[Nat.mod_eq_of_lt hb]at a2
  have g3:(b:Int) / 4503599627370496=0:=by omega
  have g4:((b:Int) / 9223372036854775808 !=0)=false:=bne_eq_false_iff_eq.2 (by omega);have g5:((b:Int)==0)=false:=beq_eq_false_iff_ne.2 (by omega);have LL:=fun w=>aDg b L w (by omega) hL
  have HL:=hid LL;have hwx:IntKind.u64.wrap ((b:Int)*2^(64-L))=(x:Int):=by
    rw[dW,←hx];have:((b*2^(64-L):Nat):Int)=(b:Int)*2^(64-L):=by push_cast;rfl
    rw[←this];omega
  have HWX:=hid hwx;have d85:=aGQ;have HO:=hid hO;have HT:=hid T;have HSF:=hid SF;have HSS:=hid hS;clear hO T SF hS LL hwx hx hL;go_enter Tryz.func228,Tryz.ntmps228
  go_wp2_with fail
  go_quiet (fail)
  go_wp2_with (go_at_call 191;((with_reducible refine(HL.out _).mono ?_);rintro e w' ⟨rfl,rfl⟩))
  obtain⟨g,hg⟩:∃g,g=w.heap.size:=⟨_,rfl⟩
  obtain⟨W,hW⟩:∃W,W=(w.drewN nq).alloc (.cells qK 251):=⟨_,rfl⟩
  have bW:Below w.heap.size w W:=by rw[hW];exact((Below.refl w.heap.size w).trans ⟨rfl,rfl,rfl,Nat.le_refl _,fun _ _=>rfl⟩:Below w.heap.size w (w.drewN nq)).alloc nD _
  have sW:W.heap.size=g+1:=by rw[hW,hg];simp
  have hH:Holds (fun(b:UInt8)=>Value.int .u8 (b.toNat:Int)) W g 0 (Array.replicate 32 (0:UInt8)):=by rw[hW,hg];exact aFc (w.drewN nq) 251
  have TW:=HT.out.below bW nD;have hW2:=hW;unfold qK at hW2;rw[←hW2,←hg];clear hW hW2;rw[HWX.out,show(-1022:Int)-(64-(L:Int))-52=(L:Int)-1138 by omega];refine(HSF.out W TW).mono ?_;rintro e1 w2 ⟨rfl,B2⟩;have H2:Holds (fun(b:UInt8)=>Value.int .u8 (b.toNat:Int)) w2 g 0 (Array.replicate 32 (0:UInt8)):=Holds.below hH B2 (by omega);have b2:Below w.heap.size w w2:=bW.trans (B2.mono (by omega));have s2:g<w2.heap.size:=by have:=B2.size;omega
  have T2:=HT.out.below b2 nD;have n20:=iP d hd;have n1:=Lib.nDigits_pos d;obtain⟨N,hN⟩:∃N,Lib.nDigits d=N:=⟨_,rfl⟩
  rw[hN]at n20 n1
  have ND:=fun(w:World) (h:Lib.TabIs Tryz.prog w "internal/strconv.uint64pow10" .u64 Lib.pow10Tab)=>Tryz.internal_strconv_numDigits d hd1 hd w h
  rw[hN]at ND
  have HGG:=hid hg;clear hg;have ht1:=zT d hd1;have ht2:cS (Lib.decDigits d)≤N:=by have:=kC (Lib.decDigits d);rw[Lib.decDigits_length,hN]at this;exact this
  obtain⟨k,hk⟩:∃k,cS (Lib.decDigits d)=k+1:=⟨cS (Lib.decDigits d)-1,by omega⟩
  have k20:k≤19:=by omega
  have hmx:max (k:Int) 0=k:=by omega
  have HKK:=hid hk;clear ht1 ht2 hk;have HH2:=hid H2;have HB2:=hid b2;have HT2:=hid T2;have HN:=hid hN;have HND:=hid ND;clear hH B2 H2 b2 T2 TW bW sW hN ND;go_wp2_with fail
  obtain⟨C,hC⟩:∃C:World→Prop,∀u,C u:=⟨fun _=>True,fun _=>trivial⟩
  haveI:Nonempty (WIn C):=⟨⟨w2,hC _⟩⟩
  refine eV 10 [([0,1,2,3],4),([],5)] [6,7,8,9] C (by kernel_rfl) (by kernel_rfl) (hC _) ?_;refine bJ (fun K' hK'=>?_);simp only[pick,pickZ,pickS,pickG];repeat (go_big_quiet_step (fail))
  refine wpQuiet_nil (hK' _ (fun Q1 hQ1=>?_));clear hK' K';simp only[pick,pickZ,pickS,pickG];go_wp2_with fail
  refine(HND.out _ (HT2.out.drewN 1).u10).mono ?_;rintro e w3 ⟨rfl,hw3⟩;subst hw3;go_wp2_with fail
  refine hQ1 _ _ (hC _) (bJ (fun K' hK'=>wpQuiet_nil (hK' _ (fun Q2 hQ2=>?_))));clear hK' K' hQ1 Q1;simp only[pick,pickZ,pickS,pickG];go_wp2_with fail
  refine(wY g d k p N (w2.drewN 1) (Holds.drewN HH2.out 1) hd1 hd HN.out (by omega) (by omega) HKK.out).mono ?_;rintro e w3 ⟨rfl,S3,K3⟩;have HS3:=hid S3;have HK3:=hid K3;clear S3 K3;go_wp2_with fail
  refine hQ2 _ _ (hC _) (fJ (fun K' hK'=>?_));clear hQ2 Q2;simp only[pick,pickZ,pickS,pickG];repeat (go_big_quiet_step (fail))
  refine wpQuiet_nil (hK' _ (fun Q3 hQ3=>?_));clear hK' K';simp only[List.drop_succ_cons,List.drop_zero];go_wp2_with fail
  have K03:aG (fun i=>w.heap.size≤i) w w3:=(aG.of_below HB2.out).trans ((((aG.refl (· = g) w2).drewN 1).trans HK3.out).mono (fun i _ e=>by have:=HGG.out;omega));have K03f:aG (fun _=>False) w w3:=K03.mono (fun i hi e=>by omega);have O3:=HO.out.later K03;have S3':IsB w3 (some ⟨g,0,none⟩) ((Lib.decDigits d).take (k+1)):=HS3.out.take (k+1);have hl3:((Lib.decDigits d).take (k+1)).length=k+1:=by
    have:=HKK.out;have:=kC (Lib.decDigits d);rw[List.length_take];omega
  have hz3:g<w3.heap.size:=by have:=HK3.out.size;simp at this;omega
  refine(aLw w3 B g k ad c S _ ((N:Int)+p) O3 S3' (fun e=>by have:=HSS.out g e;have:=HGG.out;omega) hz3 hl3 (by omega) (by omega) (by omega)).mono ?_;rintro e w4 ⟨ad4,c4,rfl,O4⟩;go_wp2
  go_ret;refine⟨ad4,c4,?_,?_⟩
  · rw[HKK.out,HN.out]
    rfl
  · rw[HKK.out,HN.out]
    exact Out.first K03f O4
open Go.RowKit
theorem aDM (i:Nat)(h:i<696):aN i<18446744073709551616∧aY i<18446744073709551616:=⟨(tB i h).1,(tB i h).2.1⟩
theorem aES (E f:Nat)(E1:1≤E)(E2:E≤2046)(f1:f<4503599627370496) :
    ∃d q j,lF (E*4503599627370496+f) d q j∧∀w',aC w'→Calls Tryz.prog 265 #[.int .u64 ((4503599627370496+f)*2048:Nat),.int .i64 ((E:Int)-1086)] w' fun e' w2=>e'=.returned (.tuple #[.int .u64 d,.int .i64 q])∧Below w'.heap.size w' w2:=by
  obtain⟨k,hk⟩:∃k,E=k+1:=⟨E-1,by omega⟩
  subst hk;have er:(k+1)*4503599627370496+f=k*4503599627370496+(4503599627370496+f):=by omega
  rw[er];have hrI:k*4503599627370496+(4503599627370496+f)<aX:=by unfold aX;omega
  have ee:((k+1:Nat):Int)-1086=(k:Int)-1074-11:=by omega
  rw[ee];have p11:(2:Nat)^11=2048:=by decide
  have p10:(2:Nat)^(11-1)=1024:=by decide
  by_cases hf:4503599627370496<4503599627370496+f∨k=0
  · obtain⟨r1,r2,r3,r4,r5,r6,r7⟩:=aEb k (by omega)
    obtain⟨i,hi⟩:∃i,i=iR k:=⟨_,rfl⟩
    rw[←hi]at r1 r2 r5 r6 r7
    obtain⟨s,hs⟩:∃s:Nat,-((k:Int)-1074-11+lpI i+3)=s:=⟨(-((k:Int)-1074-11+lpI i+3)).toNat,by omega⟩
    obtain⟨d,q,j,hD,hA⟩:=aCv (4503599627370496+f) k 11 i s ((4503599627370496+f)%2) _ _ _ ((k:Int)-1074-11) (by omega) (by omega) (by omega) hf (by omega) (by rw[p11];omega) hrI hi (by omega) hs rfl rfl rfl rfl;refine⟨d,q,j,hA,fun w' T'=>?_⟩;rw[p10,p11]at hD
    obtain⟨hH,hL⟩:=aDM i (by omega);have ho:(4503599627370496+f)*2048 / 2048%2=(4503599627370496+f)%2:=by omega
    have hp:-(((k:Int)-1074-11+11)*78913 / 262144)=(i:Int)-348:=by rw[r2];congr 2;omega
    by_cases h0:f=0
    · have hk0:k=0:=by omega
      subst h0;have:=aEM ((4503599627370496+0)*2048) ((k:Int)-1074-11) (lpI i) i s _ _ _ _ _ _ _ _ _ w' T' (by omega) (by omega) (by omega) (by omega) hp (by omega) rfl hs (by omega) ho rfl rfl rfl rfl rfl rfl rfl rfl hH hL;rw[hD]at this
      exact this
    · have:=aDc ((4503599627370496+f)*2048) ((k:Int)-1074-11) (lpI i) i s _ _ _ _ _ _ _ _ _ w' T' (by omega) (by omega) (by omega) (by omega) hp (by omega) rfl hs (by omega) ho rfl rfl rfl rfl rfl rfl rfl rfl hH hL
      rw[hD]at this
      exact this
  · have h0:f=0:=by omega
    subst h0;obtain⟨r1,r2,r3,r4,r5,r6,r7⟩:=aFp k (by omega);obtain⟨i,hi⟩:∃i,i=iS k:=⟨_,rfl⟩
    rw[←hi]at r1 r2 r5 r6 r7
    obtain⟨s,hs⟩:∃s:Nat,-((k:Int)-1074-11+lpI i+3)=s:=⟨(-((k:Int)-1074-11+lpI i+3)).toNat,by omega⟩
    obtain⟨d,q,j,hD,hA⟩:=aGs (4503599627370496+0) k i s _ _ _ ((k:Int)-1074-11) (by omega) (by omega) rfl hrI hi (by omega) hs rfl rfl rfl;refine⟨d,q,j,hA,fun w' T'=>?_⟩;obtain⟨hH,hL⟩:=aDM i (by omega);have hp:-((((k:Int)-1074-11+11)*631305-261663) / 2097152)=(i:Int)-348:=by rw[r2];congr 4;omega
    have:=aG1 9223372036854775808 ((k:Int)-1074-11) (lpI i) i s 0 _ _ _ _ _ _ _ _ w' T' (by omega) (by omega) rfl hp (by omega) rfl hs (by omega) (by decide) rfl rfl rfl rfl rfl rfl rfl rfl hH hL;rw[hD]at this
    exact this
theorem aJ3 (b L x:Nat)(h1:1≤b)(h2:b<4503599627370496)(L1:1≤L)(L2:L≤52)(l1:2^(L-1)≤b)(l2:b<2^L)(hx:b*2^(64-L)=x) :
    x<18446744073709551616∧∃d q j,lF b d q j∧∀w',aC w'→Calls Tryz.prog 265 #[.int .u64 x,.int .i64 ((L:Int)-1138)] w' fun e' w2=>e'=.returned (.tuple #[.int .u64 d,.int .i64 q])∧Below w'.heap.size w' w2:=by
  obtain⟨z,hz⟩:∃z,64-L=z:=⟨_,rfl⟩
  rw[hz]at hx
  obtain⟨P,hP⟩:∃P,2^(z-1)=P:=⟨_,rfl⟩
  have hzp:2^z=2*P:=by rw[←hP,Nat.mul_comm,←Nat.pow_succ];congr 1;omega
  have hPp:0<P:=by rw[←hP];exact Nat.two_pow_pos _
  have hx64:x+2*P≤18446744073709551616:=by
    have:=Nat.mul_le_mul_right (2^z) (show b+1≤2^L from l2);rw[←Nat.pow_add,show L+z=64 by omega,Nat.add_mul,Nat.one_mul,hx,hzp]at this
    exact this
  have hx63:9223372036854775808≤x:=by
    have:=Nat.mul_le_mul_right (2^z) l1;rw[←Nat.pow_add,show L-1+z=63 by omega,hx]at this
    exact this
  refine⟨by omega,?_⟩;obtain⟨r1,r2,r3,r4,r5,r6,r7⟩:=aEb 0 (by omega);have hlp:=aOo;obtain⟨i,hi⟩:∃i,i=iR 0:=⟨_,rfl⟩
  rw[←hi]at r1 r2 r5 r6 r7 hlp
  obtain⟨s,hs⟩:∃s:Nat,-((L:Int)-1138+lpI i+3)=s:=⟨(-((L:Int)-1138+lpI i+3)).toNat,by omega⟩
  obtain⟨d,q,j,hD,hA⟩:=aCv b 0 z i s (b%2) _ _ _ ((L:Int)-1138) (by omega) h1 (by omega) (.inr rfl) (by omega) (by rw[hx];omega) (by unfold aX;omega) hi (by omega) hs rfl rfl rfl rfl;rw[Nat.zero_mul,Nat.zero_add]at hA
  refine⟨d,q,j,hA,fun w' T'=>?_⟩;rw[hx]at hD
  obtain⟨hH,hL⟩:=aDM i (by omega);have hp:-(((L:Int)-1138+z)*78913 / 262144)=(i:Int)-348:=by rw[r2];congr 2;omega
  have ho:x / 2^z%2=b%2:=by rw[←hx,Nat.mul_div_cancel _ (Nat.two_pow_pos _)]
  have:=aIa x z _ _ ((L:Int)-1138) (lpI i) i s _ _ _ _ _ _ _ _ _ w' T' (by omega) (by omega) (by omega) hx63 (by omega) rfl rfl (by rw[hP];omega) hp (by omega) rfl hs (by omega) ho rfl rfl rfl rfl rfl rfl rfl rfl hH hL;rw[hD]at this
  exact this
theorem aK2 (b:Nat)(h1:1≤b)(h2:b<aX):∃d q j,lF b d q j∧jO b (lX (fO d) ((Lib.nDigits d:Int)+q-1)):=by
  have hI:b<9218868437227405312:=h2;by_cases hc:b<4503599627370496
  · obtain⟨L,hL,L1,_,l1,l2⟩:=xR b h1 (by omega)
    have L2:L≤52:=by
      refine Nat.le_of_not_lt fun h=>?_
      have:2^52≤2^(L-1):=Nat.pow_le_pow_right (by decide) (by omega);have e52:(2:Nat)^52=4503599627370496:=by decide
      omega
    obtain⟨hx,d,q,j,hA,hC⟩:=aJ3 b L _ h1 hc L1 L2 l1 l2 rfl;have j1:=hA.idx;have j2:=hA.j1;have j3:=hA.j2;refine⟨d,q,j,hA,?_⟩;intro w B ad c S hO T hS;exact aJL w B ad c S b L _ d q hO T h1 hc hL L1 L2 rfl hx hS hC hA.pos (Nat.lt_trans hA.lt (by decide)) (by omega) (by omega)
  · obtain⟨d,q,j,hA,hC⟩:=aES (b / 4503599627370496) (b%4503599627370496) (by omega) (by omega) (by omega)
    have eb:b / 4503599627370496*4503599627370496+b%4503599627370496=b:=by omega
    rw[eb]at hA
    have j1:=hA.idx;have j2:=hA.j1;have j3:=hA.j2;refine⟨d,q,j,hA,?_⟩;intro w B ad c S hO T hS;exact aEL w B ad c S b (b / 4503599627370496) (b%4503599627370496) d q hO T (by omega) rfl rfl (by omega) (by omega) (by omega) hS hC hA.pos (Nat.lt_trans hA.lt (by decide)) (by omega) (by omega)
open Go.RowKit
theorem aFN (b:Nat):sgn false+b=b:=by simp[sgn]
theorem aKs (neg:Bool)(b:Nat)(h:b<9223372036854775808):aBq (sgn neg+b)=b:=by
  cases neg
  · rw[aFN];exact aLT b h
  · unfold aBq
    have e:bits .andNot .u64 ((sgn true+b:Nat):Int) 9223372036854775808=(b:Int):=by
      have e:=u64_andNot_nat (sgn true+b) 9223372036854775808 (by unfold sgn;rw[if_pos rfl];omega) (by omega);refine e.trans ?_;congr 1;rw[show 18446744073709551615-9223372036854775808=2^63-1 by decide,Nat.and_two_pow_sub_one_eq_mod];have p63:(2:Nat)^63=9223372036854775808:=by decide
      rw[p63];unfold sgn;rw[if_pos rfl];omega
    rw[e,Int.toNat_natCast]
theorem uQ (neg:Bool)(b:Nat)(h:b<aX):vY (sgn neg+b)=false:=by
  have hI:b<9218868437227405312:=h;unfold vY;rw[aKs neg b (by omega)];obtain⟨c1,k1⟩:=oZ false b h;obtain⟨c2,k2⟩:=oZ false 9218868437227405311 (by unfold aX;omega);rw[aFN]at c1 k1 c2 k2
  cases hh:FloatKind.f64.format.order b 9218868437227405311==some .gt with
  | false=>rfl
  | true =>
    have h3:=((aDJ b 9218868437227405311).1 hh).2;rw[c1,c2,k1,k2]at h3
    have v:=nQ b 9218868437227405311 (by omega);simp only[Bool.false_eq_true,if_false]at h3;unfold kM at h3;repeat' split at h3
    all_goals omega
theorem aCo (neg:Bool)(b:Nat)(h:b<aX):(FloatKind.f64.format.order (sgn neg+b) (sgn neg+b)==some .eq)=true:=by
  obtain⟨c1,_⟩:=oZ neg b h;exact(aHT _ _).2 ⟨⟨by omega,by omega⟩,by simp[kM]⟩
theorem aLC:bK 0=0:=by decide
theorem aE0 (neg:Bool)(b:Nat)(h:b<aX)(h1:1≤b):(FloatKind.f64.format.order (sgn neg+b) 0==some .eq)=false:=by
  obtain⟨c1,k1⟩:=oZ neg b h;have v:=jS 0 b h1;rw[aLC]at v
  cases hh:FloatKind.f64.format.order (sgn neg+b) 0==some .eq with
  | false=>rfl
  | true =>
    have h3:=((aHT _ _).1 hh).2;rw[c1,xN,k1,aBr]at h3
    unfold kM at h3;cases neg<;>simp at h3<;>(repeat' split at h3)<;>omega
theorem aFh (neg:Bool)(b:Nat)(h:b<aX)(h1:1≤b):(FloatKind.f64.format.order (sgn neg+b) 0==some .lt)=neg:=by
  obtain⟨c1,k1⟩:=oZ neg b h;have v:=jS 0 b h1;rw[aLC]at v
  have key:=aHq (sgn neg+b) 0;unfold ltF at key;cases neg
  · cases hh:FloatKind.f64.format.order (sgn false+b) 0==some .lt with
    | false=>rfl
    | true =>
      have h3:=(key.1 hh).2;rw[c1,xN,k1,aBr]at h3
      unfold kM at h3;simp at h3
      (repeat' split at h3)<;>omega
  · refine key.2 ⟨⟨by omega,by rw[xN];omega⟩,?_⟩
    rw[c1,xN,k1,aBr];unfold kM;simp;omega
theorem aID (b:Nat)(h:b<aX)(h1:1≤b):uP b:=by
  have a:=aCo false b h;have c:=uQ false b h;have d:=aE0 false b h h1;have e:=aFh false b h h1;rw[aFN]at a c d e
  exact⟨by simp[bne,a],c,d,e⟩
def xC (D:List UInt8)(x:Int):List UInt8 :=
  if (D.length:Int)≤x+1∧x+1≤21 then D++List.replicate (x+1-D.length).toNat 48
  else if 1≤x+1∧x+1≤21 then D.take (x+1).toNat++[46]++D.drop (x+1).toNat
  else if -5≤x+1∧x+1≤0 then [48,46]++List.replicate (-(x+1)).toNat 48++D
  else dK D++(if 0<x+1 then [101,43]++Lib.itoa x else [101,45]++Lib.itoa (-x))
theorem aIl (b:Nat)(D:List UInt8)(x:Int)(w:World)(T:aC w)(hB:uP b)(h1:1≤D.length)(h2:D.length≤20)(hd:∀c∈D,aS c=true)(x0:-900<x)(x1:x<900)(hF:jO b (lX D x)) :
    Calls Tryz.prog 63 #[.float .f64 b] w fun e w'=>e=.returned (.string ⟨(xC D x).toArray⟩)∧Below w.heap.size w w':=by
  have hP:=aDE D x h1 (by omega) hd (by omega) (by omega);unfold xC;by_cases c1:(D.length:Int)≤x+1∧x+1≤21
  · rw[if_pos c1]
    exact aEv b _ _ _ D x w T hF hP hB c1.1 c1.2
  · rw[if_neg c1]
    by_cases c2:1≤x+1∧x+1≤21
    · rw[if_pos c2]
      exact aEI b _ _ _ D x w T hF hP hB (by omega) c2.1 c2.2 (by omega)
    · rw[if_neg c2]
      by_cases c3:-5≤x+1∧x+1≤0
      · rw[if_pos c3]
        exact aGA b _ _ _ D x w T hF hP hB (by omega) h1 c3.2 c3.1
      · rw[if_neg c3]
        match D,h1,h2,hd,hF,hP with
        | [d],_,_,_,hF,hP =>
          by_cases c4:0<x+1
          · rw[if_pos c4]
            exact aCL b _ _ _ d x w T hF hP hB (by omega)
          · rw[if_neg c4]
            exact aCz b _ _ _ d x w T hF hP hB (by omega)
        | d :: f :: D,_,h2,_,hF,hP =>
          by_cases c4:0<x+1
          · rw[if_pos c4]
            have:=aA8 b _ _ _ _ d (f :: D) x w T hF hP hB (by omega) rfl (by simp) (by simp at h2 ⊢;omega);have e:dK (d :: f :: D)++([101,43]++Lib.itoa x)=d :: 46 :: (f :: D)++[101,43]++Lib.itoa x:=by simp[dK]
            rw[e];exact this
          · rw[if_neg c4]
            have:=aBs b _ _ _ _ d (f :: D) x w T hF hP hB (by omega) rfl (by simp) (by simp at h2 ⊢;omega);have e:dK (d :: f :: D)++([101,45]++Lib.itoa (-x))=d :: 46 :: (f :: D)++[101,45]++Lib.itoa (-x):=by simp[dK]
            rw[e];exact this
theorem aF6 (b:Nat)(h1:1≤b)(h2:b<aX):∃d q j,lF b d q j∧∀w,aC w→Calls Tryz.prog 63 #[.float .f64 b] w fun e w'=>e=.returned (.string ⟨(xC (fO d) ((Lib.nDigits d:Int)+q-1)).toArray⟩)∧Below w.heap.size w w':=by
  obtain⟨d,q,j,hA,hF⟩:=aK2 b h1 h2;have j1:=hA.idx;have j2:=hA.j1;have j3:=hA.j2;have n1:=Lib.nDigits_pos d;have n2:=iP d (Nat.lt_trans hA.lt (by decide));obtain⟨l1,l2⟩:=zV d hA.pos;exact⟨d,q,j,hA,fun w T=>aIl b (fO d) _ w T (aID b h2 h1) l1 (by omega) (yQ d) (by omega) (by omega) hF⟩
theorem aIw (b:Nat)(txt:List UInt8)(hl:txt.length≤1000)(h1:1≤b)(h2:b<aX)(w:World)(T:aC w)(hP:∀w,aC w→Calls Tryz.prog 63 #[.float .f64 b] w fun e w'=>e=.returned (.string ⟨txt.toArray⟩)∧Below w.heap.size w w') :
    Calls Tryz.prog 63 #[.float .f64 (9223372036854775808+b:Nat)] w fun e w'=>e=.returned (.string ⟨(45 :: txt).toArray⟩)∧Below w.heap.size w w':=by
  have hI:b<9218868437227405312:=h2;have es:sgn true+b=9223372036854775808+b:=by simp[sgn]
  have g1:=aCo true b h2;have g2:=uQ true b h2;have g3:=aE0 true b h2 h1;have g4:=aFh true b h2 h1;have g5:Op.negFloat .f64 (sgn true+b)=b:=by
    show(sgn true+b) ^^^ 2^(FloatKind.f64.format.exponentBits+FloatKind.f64.format.fractionBits)=_;have e:FloatKind.f64.format.exponentBits+FloatKind.f64.format.fractionBits=63:=by kernel_rfl
    rw[e,es];have d:=Nat.xor_div_two_pow (a:=9223372036854775808+b) (b:=2^63) (n:=63);have r:=Nat.xor_mod_two_pow (a:=9223372036854775808+b) (b:=2^63) (n:=63);have p63:(2:Nat)^63=9223372036854775808:=by decide
    rw[p63]at d r ⊢
    rw[show(9223372036854775808+b) / 9223372036854775808=1 by omega,Nat.div_self (by decide),Nat.xor_self]at d
    rw[show(9223372036854775808+b)%9223372036854775808=b by omega,Nat.mod_self,Nat.xor_zero]at r
    omega
  rw[←es];have g1':(FloatKind.f64.format.order (sgn true+b) (sgn true+b) !=some .eq)=false:=by simp[bne,g1]
  have un:=gZ;have II:=fun w=>gK (sgn true+b) false w g2
  obtain⟨x,hx⟩:∃x,sgn true+b=x:=⟨_,rfl⟩
  rw[hx]at g1 g1' g3 g4 g5 II ⊢
  have HII:=hid II;have HP:=hid hP;have HT:=hid T;clear hP T II hx es g2 g1;go_enter Tryz.func63,Tryz.ntmps63
  go_wp2_with (go_at_call 67;((with_reducible refine(HII.out _).mono ?_);rintro e w' ⟨rfl,rfl⟩))
  refine(HP.out _ HT.out).mono ?_;rintro e w2 ⟨rfl,B2⟩;have HB2:=hid B2;clear B2;go_wp2
  go_ret;refine⟨mJ ?_,HB2.out⟩;simp
def tT (v:Nat)(c:UInt8):Nat:=if c=46 then v else v*10+(c.toNat-48)
def eR (l:List UInt8):Nat:=l.foldl tT 0
theorem uM (l:List UInt8)(c:UInt8):eR (l++[c])=tT (eR l) c:=by simp[eR]
theorem aHx (l:List UInt8)(h:∀c∈l,dE c=true):(aR l).trunc=false→eR l=(aR l).mant*10^((aR l).nd-(aR l).ndM):=by
  induction l using gL with
  | h0=>intro _;rfl
  | h1 l c ih =>
    have hl:∀x∈l,dE x=true:=fun x hx=>h x (by simp[hx])
    have hc:dE c=true:=h c (by simp);have ih:=ih hl;obtain⟨b1,b2,b3,b4,b5⟩:=sQ l hl;rw[dP,uM];generalize aR l=r at *
    unfold dS tT;by_cases c46:c=46
    · rw[if_pos c46,if_pos c46]
      exact ih
    · have hd:aS c=true:=by simpa [dE,c46]using hc
      rw[if_neg c46,if_neg c46];by_cases c48:c=48∧r.nd=0
      · rw[if_pos c48]
        intro ht;have hv:=ih ht;have hM:r.ndM=0:=by omega
        rw[hM]at b3
        have m0:r.mant=0:=by simpa using b3
        rw[m0,Nat.zero_mul]at hv
        show eR l*10+(c.toNat-48)=r.mant*10^(r.nd-r.ndM);rw[hv,m0,c48.1];simp
      · rw[if_neg c48]
        by_cases c19:r.ndM<19
        · rw[if_pos c19]
          intro ht;have hv:=ih ht;show eR l*10+(c.toNat-48)=(r.mant*10+(c.toNat-48))*10^(r.nd+1-(r.ndM+1));rw[hv,show r.nd-r.ndM=0 by omega,show r.nd+1-(r.ndM+1)=0 by omega];simp
        · rw[if_neg c19]
          intro ht;have ht':(r.trunc||c !=48)=false:=ht;rw[Bool.or_eq_false_iff]at ht'
          have hv:=ih ht'.1;have hc48:c=48:=by simpa using ht'.2
          show eR l*10+(c.toNat-48)=r.mant*10^(r.nd+1-r.ndM);rw[hv,hc48,show r.nd+1-r.ndM=r.nd-r.ndM+1 by omega,Nat.pow_succ,Nat.mul_assoc];rfl
theorem oN (l:List UInt8)(h:∀c∈l,dE c=true):l.length≤19→(aR l).trunc=false:=by
  induction l using gL with
  | h0=>intro _;rfl
  | h1 l c ih =>
    intro hlen;rw[List.length_append]at hlen
    simp only[List.length_cons,List.length_nil]at hlen;have hl:∀x∈l,dE x=true:=fun x hx=>h x (by simp[hx])
    have ih:=ih hl (by omega);obtain⟨b1,b2,b3,b4,b5⟩:=sQ l hl;rw[dP];generalize aR l=r at *
    unfold dS;split
    · exact ih
    · split
      · exact ih
      · rw[if_pos (by omega)];exact ih
theorem aCy (l:List UInt8)(h:(aR l).trunc=false)(n:Nat):(aR (l++List.replicate n 48)).trunc=false:=by
  induction n with
  | zero=>simpa using h
  | succ n ih =>
    rw[List.replicate_succ',←List.append_assoc,dP];generalize aR (l++List.replicate n 48)=r at *
    unfold dS;rw[if_neg (by decide)];split
    · exact ih
    · split
      · exact ih
      · show(r.trunc||(48:UInt8) !=48)=false
        rw[ih];rfl
theorem sD (l:List UInt8)(h:∀c∈l,aS c=true):(aR l).dot=false:=by
  induction l using gL with
  | h0=>rfl
  | h1 l c ih =>
    have ih:=ih (fun x hx=>h x (by simp[hx]));have hc:=h c (by simp);have n46:c≠46:=by rintro rfl;exact absurd hc (by decide)
    rw[dP];generalize aR l=r at *
    unfold dS;rw[if_neg n46];split
    · exact ih
    · split<;>exact ih
theorem aGZ (A:List UInt8)(F:List UInt8)(h:∀c∈F,aS c=true):(aR (A++46 :: F)).dot=true∧(aR (A++46 :: F)).dp=(aR (A++46 :: F)).nd-(F.length:Int):=by
  induction F using gL with
  | h0 =>
    rw[dP];unfold dS;rw[if_pos rfl];exact⟨rfl,by simp⟩
  | h1 F c ih =>
    obtain⟨i1,i2⟩:=ih (fun x hx=>h x (by simp[hx]));have hc:=h c (by simp);have n46:c≠46:=by rintro rfl;exact absurd hc (by decide)
    rw[show A++46 :: (F++[c])=(A++46 :: F)++[c] by simp,dP];generalize aR (A++46 :: F)=r at *
    unfold dS;rw[if_neg n46,List.length_append];simp only[List.length_cons,List.length_nil];split
    · exact⟨i1,by show r.dp-1=(r.nd:Int)-_;omega⟩
    · split
      · exact⟨i1,by show r.dp=((r.nd+1:Nat):Int)-_;omega⟩
      · exact⟨i1,by show r.dp=((r.nd+1:Nat):Int)-_;omega⟩
theorem sH (r:RS)(c:UInt8)(h:r.dig=true∨aS c=true):(dS r c).dig=true:=by
  unfold dS;split
  · rename_i h46
    rcases h with h|h
    · exact h
    · rw[h46]at h;exact absurd h (by decide)
  · split
    · rfl
    · split<;>rfl
theorem vF (l:List UInt8)(c:UInt8)(hc:c∈l)(h:aS c=true):(aR l).dig=true:=by
  induction l using gL with
  | h0=>cases hc
  | h1 l d ih =>
    rw[dP];rcases List.mem_append.1 hc with h1|h1
    · exact sH _ _ (.inl (ih h1))
    · rw[List.mem_singleton.1 h1]at h
      exact sH _ _ (.inr h)
structure vW (s:ByteArray) (neg:Bool) (A F:List UInt8) (dot:Bool) (X:List UInt8) (ev:Int):Prop where
  txt:s.data.toList=(if neg then [45]else [])++(A++(if dot then 46 :: F else []))++X
  digA:∀c∈A,aS c=true
  digF:∀c∈F,aS c=true
  ne:A≠[]
  F0:dot=false→F=[]
  F1:dot=true→F≠[]
  exp:(X=[]∧ev=0)∨∃(sg Dg:List UInt8) (es:Int),X=101 :: sg++Dg∧Dg≠[]∧(∀c∈Dg,aS c=true)∧((sg=[]∧es=1)∨(sg=[43]∧es=1)∨(sg=[45]∧es=-1))∧ev=(cK Dg:Nat)*es
  len:s.size≤40
def cC (A F:List UInt8)(dot:Bool):List UInt8:=A++(if dot then 46 :: F else [])
theorem uA (l r:List UInt8)(h:∀c∈l,aS c=true)(hr:∀c,r.head?=some c→aS c=false):digs (l++r)=l.length:=by
  induction l with
  | nil =>
    cases r with
    | nil=>rfl
    | cons c r =>
      have:=hr c rfl;simp[digs,this]
  | cons c l ih =>
    have hc:=h c (by simp);have ih:=ih (fun x hx=>h x (by simp[hx]));have e:digs (c :: (l++r))=digs (l++r)+1:=by simp[digs,hc]
    rw[List.cons_append,e,ih,List.length_cons]
theorem aE7 {s:ByteArray}{neg dot:Bool}{A F X:List UInt8}{ev:Int}(N:vW s neg A F dot X ev):∀c∈cC A F dot,dE c=true:=by
  intro c hc;unfold cC at hc;rcases List.mem_append.1 hc with h|h
  · unfold dE;rw[N.digA c h];rfl
  · cases dot
    · simp at h
    · rw[if_pos rfl]at h
      rcases List.mem_cons.1 h with h|h
      · rw[h];rfl
      · unfold dE;rw[N.digF c h];rfl
theorem aNc (sg Dg:List UInt8)(h1:Dg≠[])(hd:∀c∈Dg,aS c=true)(hs:sg=[]∨sg=[43]∨sg=[45]):pL (sg++Dg)=true:=by
  obtain⟨c,D,rfl⟩:∃c D,Dg=c :: D:=by
    cases Dg with
    | nil=>exact absurd rfl h1
    | cons c D=>exact⟨c,D,rfl⟩
  have hc:=hd c (by simp);have hall:digs (c :: D)=(c :: D).length:=by
    have:=uA (c :: D) [] hd (fun c h=>by cases h);simpa using this
  unfold pL;have e:(if (sg++c :: D).head?=some 43∨(sg++c :: D).head?=some 45 then (sg++c :: D).drop 1 else sg++c :: D)=c :: D:=by
    rcases hs with rfl|rfl|rfl
    · rw[List.nil_append,if_neg]
      intro h;rcases h with h|h
      · have:c=43:=by simpa using h
        rw[this]at hc
        exact absurd hc (by decide)
      · have:c=45:=by simpa using h
        rw[this]at hc
        exact absurd hc (by decide)
    · simp
    · simp
  simp only[e,hall];simp
theorem aFt (n:Nat)(hn:n≠0)(X:List UInt8)(ev:Int)
    (exp:(X=[]∧ev=0)∨∃(sg Dg:List UInt8) (es:Int),X=101 :: sg++Dg∧Dg≠[]∧(∀c∈Dg,aS c=true)∧((sg=[]∧es=1)∨(sg=[43]∧es=1)∨(sg=[45]∧es=-1))∧ev=(cK Dg:Nat)*es):kP n X=true:=by
  unfold kP;rw[if_neg hn];rcases exp with⟨rfl,_⟩|⟨sg,Dg,es,rfl,h1,h2,h3,_⟩
  · rw[if_pos rfl]
  · rw[if_neg (by simp),if_pos (by simp)]
    refine aNc sg Dg h1 h2 ?_;rcases h3 with h|h|h
    · exact .inl h.1
    · exact .inr (.inl h.1)
    · exact .inr (.inr h.1)
theorem aDB {X:List UInt8}{ev:Int}(exp:(X=[]∧ev=0)∨∃(sg Dg:List UInt8) (es:Int),X=101 :: sg++Dg∧Dg≠[]∧(∀c∈Dg,aS c=true)∧((sg=[]∧es=1)∨(sg=[43]∧es=1)∨(sg=[45]∧es=-1))∧ev=(cK Dg:Nat)*es) :
    X=[]∨X.head?=some 101:=by
  rcases exp with⟨rfl,_⟩|⟨sg,Dg,es,rfl,_⟩
  · exact .inl rfl
  · exact .inr rfl
theorem aLL {s:ByteArray}{neg dot:Bool}{A F X:List UInt8}{ev:Int}(N:vW s neg A F dot X ev):iG s.data.toList=true:=by
  have hlen:=N.len;rw[bF]at hlen
  have hX:=aDB N.exp;obtain⟨c,A',hA⟩:∃c A',A=c :: A':=by
    cases h:A with
    | nil=>exact absurd h N.ne
    | cons c A'=>exact⟨c,A',rfl⟩
  have hc:=N.digA c (by rw[hA];simp);unfold iG;rw[if_neg (by omega),N.txt];have e:(if ((if neg then [45]else [])++(A++(if dot then 46 :: F else []))++X:List UInt8).head?=some 45 then ((if neg then [45]else [])++(A++(if dot then 46 :: F else []))++X:List UInt8).drop 1 else (if neg then [45]else [])++(A++(if dot then 46 :: F else []))++X)=A++((if dot then 46 :: F else [])++X):=by
    cases neg
    · simp only[Bool.false_eq_true,if_false,List.nil_append]
      rw[if_neg,List.append_assoc];rw[hA];intro h;have:c=45:=by simpa using h
      rw[this]at hc
      exact absurd hc (by decide)
    · simp
  rw[e];unfold uK;cases dot
  · have hF:=N.F0 rfl
    simp only[Bool.false_eq_true,if_false,List.nil_append];have hd:digs (A++X)=A.length:=uA A X N.digA (fun c h=>by
      rcases hX with h0|h0
      · rw[h0]at h;cases h
      · rw[h0]at h;cases h;rfl)
    rw[hd,List.drop_left];have hn46:¬X.head?=some 46:=by
      rcases hX with h0|h0
      · rw[h0];simp
      · rw[h0];decide
    rw[if_neg hn46];exact aFt _ (by rw[hA];simp) X ev N.exp
  · have hF:=N.F1 rfl
    simp only[if_true];have hd:digs (A++(46 :: F++X))=A.length:=uA A _ N.digA (fun c h=>by cases h;rfl);rw[hd,List.drop_left,if_pos (by simp)];have hd2:digs (F++X)=F.length:=uA F X N.digF (fun c h=>by
      rcases hX with h0|h0
      · rw[h0]at h;cases h
      · rw[h0]at h;cases h;rfl)
    have e2:(46 :: F++X).drop 1=F++X:=rfl;have hFl:F.length≠0:=by
      intro h;exact hF (List.length_eq_zero_iff.1 h)
    rw[e2,hd2,if_neg hFl];have e3:(46 :: F++X).drop (1+F.length)=X:=by
      rw[Nat.add_comm];show(F++X).drop F.length=X;rw[List.drop_left]
    rw[e3];exact aFt _ (by omega) X ev N.exp
open Go.RowKit
theorem dO (s:ByteArray)(a b c:List UInt8)(h:s.data.toList=a++b++c)(j:Nat)(hj:j<s.size)(h1:a.length≤j)(h2:j-a.length<b.length):s[j]=b[j-a.length]:=by
  rw[←uN s j hj];have e:s.data.toList[j]'(by rw[←bF];exact hj)=(a++b++c)[j]'(by rw[←h,←bF];exact hj):=List.getElem_of_eq h _;rw[e,List.getElem_append_left (by rw[List.length_append];omega),List.getElem_append_right h1]
theorem nT (s:ByteArray)(a b c:List UInt8)(h:s.data.toList=a++b++c):aK s a.length (a.length+b.length)=b:=by
  unfold aK;rw[h,List.append_assoc,List.drop_left,show a.length+b.length-a.length=b.length by omega,List.take_left]
theorem aEf (s:ByteArray)(a b c:List UInt8)(h:s.data.toList=a++b++c)(j:Nat)(h1:a.length≤j)(h2:j≤a.length+b.length):aK s a.length j=b.take (j-a.length):=by
  unfold aK;rw[h,List.append_assoc,List.drop_left,List.take_append_of_le_length (by omega)]
theorem aBN {s:ByteArray}{neg dot:Bool}{A F X:List UInt8}{ev:Int}(N:vW s neg A F dot X ev) :
    ∃p0 q,vV s neg p0∧mI s p0 q∧aAW s q ev∧aK s p0 q=cC A F dot∧p0<s.size∧(∀h:p0<s.size,s[p0].toNat≤57)∧p0=(if neg then 1 else 0):=by
  obtain⟨S,hS⟩:∃S:List UInt8,(if neg then [45]else [])=S:=⟨_,rfl⟩
  obtain⟨W,hW⟩:∃W,cC A F dot=W:=⟨_,rfl⟩
  have ht:=N.txt;have hch:=aE7 N;rw[hW]at hch
  have hW':A++(if dot then 46 :: F else [])=W:=hW;rw[hS,hW']at ht
  have hsz:s.size=S.length+W.length+X.length:=by rw[bF,ht];simp;omega
  have hA:1≤A.length:=by
    have:=N.ne;cases h:A with
    | nil=>exact absurd h this
    | cons c A'=>simp
  have hWl:A.length≤W.length:=by rw[←hW'];simp
  have hp0:S.length=(if neg then 1 else 0):=by rw[←hS];cases neg<;>rfl
  have first:∀h:S.length<s.size,aS s[S.length]=true:=by
    intro h;have e:=dO s S W X ht S.length h nD (by omega);rw[e];have e2:W[S.length-S.length]'(by omega)=A[0]'(by omega):=by
      simp only[Nat.sub_self];have:=List.getElem_of_eq hW'.symm (i:=0) (by omega);rw[this,List.getElem_append_left (by omega)]
    rw[e2];exact N.digA _ (List.getElem_mem _)
  have hlt:S.length<s.size:=by omega
  have fb:=eQ _ (first hlt);refine⟨S.length,S.length+W.length,?_,?_,?_,?_,hlt,fun h=>(eQ _ (first h)).2,hp0⟩
  · refine⟨by omega,?_⟩
    cases neg
    · have hS0:S=[]:=by rw[←hS];rfl
      subst hS0;left;have b:=fb;refine⟨rfl,rfl,?_,?_⟩
      · rw[beq_eq_false_iff_ne]
        have:(s[0].toNat)=s[([]:List UInt8).length].toNat:=rfl;omega
      · rw[beq_eq_false_iff_ne]
        have:(s[0].toNat)=s[([]:List UInt8).length].toNat:=rfl;omega
    · have hS0:S=[45]:=by rw[←hS];rfl
      subst hS0;right;have e:=dO s [] [45] (W++X) (by rw[ht];simp) 0 (by omega) (Nat.zero_le _) (by simp);have e':s[0]'(by omega)=45:=e;refine⟨rfl,rfl,?_,?_⟩
      · rw[e'];decide
      · rw[e'];decide
  · refine⟨by omega,by omega,?_,?_,?_,?_⟩
    · intro j h h1 h2
      rw[dO s S W X ht j h h1 (by omega)];exact hch _ (List.getElem_mem _)
    · intro j h h1 h2 h46
      rw[aEf s S W X ht j h1 (by omega)];have e:=dO s S W X ht j h h1 (by omega);rw[h46]at e
      have hj:j-S.length=A.length:=by
        rcases Nat.lt_trichotomy (j-S.length) A.length with hl|hl|hl
        · exfalso
          have e2:W[j-S.length]'(by omega)=A[j-S.length]'hl:=by
            have:=List.getElem_of_eq hW'.symm (i:=j-S.length) (by omega);rw[this,List.getElem_append_left hl]
          rw[e2]at e
          have:=N.digA _ (List.getElem_mem hl);rw[←e]at this
          exact absurd this (by decide)
        · exact hl
        · exfalso
          cases dot
          · have:W=A:=by rw[←hW'];simp
            rw[this]at h2
            omega
          · have hWe:W=A++46 :: F:=by rw[←hW'];rfl
            have hlF:j-S.length-A.length-1<F.length:=by
              have:W.length=A.length+(F.length+1):=by rw[hWe];simp
              omega
            have e2:W[j-S.length]'(by omega)=F[j-S.length-A.length-1]'hlF:=by
              have:=List.getElem_of_eq hWe (i:=j-S.length) (by omega);rw[this,List.getElem_append_right (by omega)];rw[List.getElem_cons];rw[dif_neg (by omega)]
            rw[e2]at e
            have:=N.digF _ (List.getElem_mem hlF);rw[←e]at this
            exact absurd this (by decide)
      have e3:W.take (j-S.length)=A:=by
        rw[hj,←hW',List.take_left]
      rw[e3];exact sD A N.digA
    · rw[nT s S W X ht]
      obtain⟨c,A',hAe⟩:∃c A',A=c :: A':=by
        cases h:A with
        | nil=>rw[h]at hA;simp at hA
        | cons c A'=>exact⟨c,A',rfl⟩
      exact vF W c (by rw[←hW',hAe];simp) (N.digA c (by rw[hAe];simp))
    · intro h
      left;have hX:X≠[]:=by
        intro h0;rw[h0]at hsz
        simp at hsz;omega
      have e:=dO s (S++W) X [] (by rw[ht];simp) (S.length+W.length) h (by simp) (by
        simp;exact List.length_pos_iff.2 hX)
      rw[e];rcases aDB N.exp with h0|h0
      · exact absurd h0 hX
      · obtain⟨c,X',rfl⟩:∃c X',X=c :: X':=by
          cases X with
          | nil=>exact absurd rfl hX
          | cons c X'=>exact⟨c,X',rfl⟩
        simp at h0 ⊢;exact h0
  · rcases N.exp with⟨h0,h1⟩|⟨sg,Dg,es,hX,hne,hdg,hsg,hev⟩
    · left
      rw[h0]at hsz
      simp at hsz;exact⟨by omega,h1⟩
    · right
      have hDl:1≤Dg.length:=List.length_pos_iff.2 hne;have hXl:X.length=1+sg.length+Dg.length:=by rw[hX];simp;omega
      have hq:S.length+W.length+1<s.size:=by omega
      have htx:s.data.toList=(S++W++[101]++sg)++Dg++[]:=by rw[ht,hX];simp
      have hl4:(S++W++[101]++sg).length=S.length+W.length+1+sg.length:=by simp;omega
      refine⟨hq,S.length+W.length+1+sg.length,es,?_,by omega,?_,?_⟩
      · rcases hsg with⟨h1,h2⟩|⟨h1,h2⟩|⟨h1,h2⟩
        · left
          refine⟨by rw[h1];rfl,h2,?_⟩;rw[h1]at hl4
          have:=dO s _ Dg [] htx (S.length+W.length+1) hq (by rw[h1,hl4];simp) (by rw[h1,hl4];simp;omega);rw[this];exact hdg _ (List.getElem_mem _)
        · right;left
          refine⟨by rw[h1];rfl,h2,?_⟩;have:=dO s (S++W++[101]) sg Dg (by rw[ht,hX];simp) (S.length+W.length+1) hq (by simp;omega) (by rw[h1];simp;omega);rw[this];simp[h1]
        · right;right
          refine⟨by rw[h1];rfl,h2,?_⟩;have:=dO s (S++W++[101]) sg Dg (by rw[ht,hX];simp) (S.length+W.length+1) hq (by simp;omega) (by rw[h1];simp;omega);rw[this];simp[h1]
      · intro j h h1
        have:=dO s _ Dg [] htx j h (by rw[hl4];exact h1) (by rw[hl4];omega);rw[this];exact hdg _ (List.getElem_mem _)
      · have e:aK s (S.length+W.length+1+sg.length) s.size=Dg:=by
          have:=nT s _ Dg [] htx;rw[hl4,show S.length+W.length+1+sg.length+Dg.length=s.size by omega]at this
          exact this
        rw[e];exact hev
  · rw[hW];exact nT s S W X ht
theorem aK7 {s:ByteArray}{neg dot:Bool}{A F X:List UInt8}{ev:Int}(N:vW s neg A F dot X ev)(w:World) :
    Calls Tryz.prog 234 #[.string s] w fun e w'=>e=.returned (.tuple #[.int .u64 (aR (cC A F dot)).mant,.int .i64 ((aR (cC A F dot)).expo ev),.bool neg,.bool (aR (cC A F dot)).trunc,.bool false,.int .i64 s.size,.bool true])∧w=w':=by
  obtain⟨p0,q,h1,h2,h3,h4,_⟩:=aBN N;have:=zN s neg p0 q w N.len h1 h2 ev h3;rw[h4]at this
  exact this
theorem aEU {s:ByteArray}{neg dot:Bool}{A F X:List UInt8}{ev:Int}(N:vW s neg A F dot X ev)(w:World) :
    Calls Tryz.prog 233 #[.string s] w fun e w'=>e=.returned (.tuple #[.float .f64 0,.int .i64 0,.bool false])∧w=w':=by
  obtain⟨p0,q,⟨g0,hsg⟩,h2,h3,h4,h5,h6,h7⟩:=aBN N;have hl:=N.len;rcases hsg with⟨rfl,rfl,a,b⟩|⟨rfl,rfl,a,b⟩
  · exact pN s w g0 hl (h6 h5) a b
  · exact vA s w h5 hl a b (h6 h5)
theorem aHI {s:ByteArray}{neg dot:Bool}{A F X:List UInt8}{ev:Int}(N:vW s neg A F dot X ev):(aR (cC A F dot)).place=(aR (cC A F dot)).nd-(F.length:Int):=by
  unfold RS.place cC;cases dot
  · have hF:=N.F0 rfl
    have e:A++(if false=true then 46 :: F else [])=A:=by simp
    rw[e,sD A N.digA,hF];simp
  · have e:A++(if true=true then 46 :: F else [])=A++46 :: F:=by simp
    rw[e];obtain⟨d1,d2⟩:=aGZ A F N.digF;rw[d1,if_pos rfl,d2]
theorem pS (n j t r:Nat):cY (bY n (j+t)) (aO (j+t)) r↔cY (bY (n*10^t) j) (aO j) r:=by
  induction t generalizing n with
  | zero=>simp
  | succ t ih =>
    rw[←Nat.add_assoc,oC,ih,Nat.pow_succ];have e:10*n*10^t=n*(10^t*10):=by rw[Nat.mul_comm 10 n,Nat.mul_assoc,Nat.mul_comm 10]
    rw[e]
theorem aEc {s:ByteArray}{neg dot:Bool}{A F X:List UInt8}{ev:Int}(N:vW s neg A F dot X ev)(V i0 R:Nat)(hV:eR (cC A F dot)=V)(V1:1≤V)(hi0:(i0:Int)=348-F.length+ev)(ht:(aR (cC A F dot)).trunc=false)
    (hr:cY (bY V i0) (aO i0) R) (hrI:R<aX) (i1:3≤i0) (i2:i0+((cC A F dot).length-19)≤658) (hg:V<144115188075855872∨(348≤i0∧i0≤350)) (w:World) (T:aC w) :
    Calls Tryz.prog 205 #[.string s] w fun e w'=>e=.returned (.tuple #[.float .f64 (sgn neg+R),.int .i64 s.size,.nilIface])∧Below w.heap.size w w':=by
  have hlen:=N.len;have hch:=aE7 N;have RB:=sQ _ hch;have hval:=aHx _ hch ht;have hpl:=aHI N;have RD:=fun w=>aK7 N w
  rw[hV]at hval
  obtain⟨r,hr'⟩:∃r,aR (cC A F dot)=r:=⟨_,rfl⟩
  rw[hr']at hval hpl RB ht RD
  obtain⟨b1,b2,b3,b4,b5⟩:=RB;obtain⟨z,hz⟩:∃z,r.nd-r.ndM=z:=⟨_,rfl⟩
  rw[hz]at hval
  have hm:1≤r.mant:=by
    refine Nat.pos_of_ne_zero fun h=>?_
    rw[h,Nat.zero_mul]at hval
    omega
  have hm2:r.mant<18446744073709551616:=by
    have:=aLo r.ndM (by omega);omega
  have hmV:r.mant≤V:=by
    rw[hval];exact Nat.le_mul_of_pos_right _ (Nat.pow_pos (by decide))
  have hbl:(cC A F dot).length≤40:=by
    have:s.data.toList.length=s.size:=(bF s).symm;rw[N.txt]at this
    simp only[List.length_append]at this;unfold cC;simp only[List.length_append];omega
  have hx:r.expo ev=((i0+z:Nat):Int)-348:=by
    unfold RS.expo;rw[if_neg (by omega),hpl];omega
  rw[ht,hx]at RD
  have hr2:cY (bY r.mant (i0+z)) (aO (i0+z)) R:=by
    rw[pS,←hval];exact hr
  refine aM4 s r.mant (i0+z) R neg w T hm hm2 (by omega) (by omega) ?_ hr2 hrI (fun w=>aEU N w) RD;rcases hg with h|h
  · left;omega
  · right
    exact⟨by omega,by omega⟩
theorem vK (a b:List UInt8):eR (a++b)=b.foldl tT (eR a):=by simp[eR]
theorem wE (a b:List UInt8):eR (a++46 :: b)=eR (a++b):=by
  rw[vK,vK,List.foldl_cons];rfl
theorem yL (a:List UInt8)(n:Nat):eR (a++List.replicate n 48)=eR a*10^n:=by
  induction n with
  | zero=>simp
  | succ n ih =>
    rw[List.replicate_succ',←List.append_assoc,uM,ih,Nat.pow_succ];show eR a*10^n*10+0=_;rw[Nat.add_zero,Nat.mul_assoc]
theorem aFX (n:Nat)(b:List UInt8):eR (List.replicate n 48++b)=eR b:=by
  induction n with
  | zero=>simp
  | succ n ih =>
    rw[List.replicate_succ,List.cons_append];exact ih
theorem aHn (n:Nat):eR (Lib.decDigits n)=n:=by
  induction n using Nat.strongRecOn with
  | _ n ih =>
    rw[Lib.decDigits];split
    · rename_i h
      have e:(UInt8.ofNat (48+n)).toNat=48+n:=UInt8.toNat_ofNat_of_lt' (by show _<256;omega);have n46:UInt8.ofNat (48+n)≠46:=by
        intro h46;have:=congrArg UInt8.toNat h46;rw[e]at this
        have e46:(46:UInt8).toNat=46:=rfl;omega
      show tT 0 (UInt8.ofNat (48+n))=n;unfold tT;rw[if_neg n46,e];omega
    · rename_i h
      have e:(UInt8.ofNat (48+n%10)).toNat=48+n%10:=UInt8.toNat_ofNat_of_lt' (by show _<256;omega);have n46:UInt8.ofNat (48+n%10)≠46:=by
        intro h46;have:=congrArg UInt8.toNat h46;rw[e]at this
        have e46:(46:UInt8).toNat=46:=rfl;omega
      rw[uM,ih (n / 10) (by omega)];unfold tT;rw[if_neg n46,e];omega
theorem aCb (n:Nat)(h:n<10000):cK (Lib.decDigits n)=n:=by
  induction n using Nat.strongRecOn with
  | _ n ih =>
    rw[Lib.decDigits];split
    · rename_i h
      have e:(UInt8.ofNat (48+n)).toNat=48+n:=UInt8.toNat_ofNat_of_lt' (by show _<256;omega);show eT 0 (UInt8.ofNat (48+n))=n;unfold eT;rw[if_pos (by omega),e];omega
    · rename_i h
      have e:(UInt8.ofNat (48+n%10)).toNat=48+n%10:=UInt8.toNat_ofNat_of_lt' (by show _<256;omega);rw[gX,ih (n / 10) (by omega) (by omega)];unfold eT;rw[if_pos (by omega),e];omega
theorem aB7 (l:List UInt8)(h:∀c∈l,dE c=true):(aR l).nd≤19→(aR l).trunc=false:=by
  induction l using gL with
  | h0=>intro _;rfl
  | h1 l c ih =>
    have hl:∀x∈l,dE x=true:=fun x hx=>h x (by simp[hx])
    have ih:=ih hl;obtain⟨b1,b2,b3,b4,b5⟩:=sQ l hl;rw[dP];generalize aR l=r at *
    unfold dS;split
    · exact ih
    · split
      · exact ih
      · split
        · intro hn
          have hn:r.nd+1≤19:=hn;exact ih (by omega)
        · intro hn
          have hn:r.nd+1≤19:=hn;omega
theorem aIq (a b:List UInt8):(aR (a++b)).nd≤(aR a).nd+b.length:=by
  induction b using gL with
  | h0=>simp
  | h1 b c ih =>
    rw[←List.append_assoc,dP,List.length_append];generalize aR (a++b)=r at *
    simp only[List.length_cons,List.length_nil];unfold dS;split
    · show r.nd≤_;omega
    · split
      · show r.nd≤_;omega
      · split
        · show r.nd+1≤_;omega
        · show r.nd+1≤_;omega
theorem aLG (n:Nat):(aR ([48]++46 :: List.replicate n 48)).nd=0:=by
  induction n with
  | zero=>rfl
  | succ n ih =>
    rw[List.replicate_succ',show [48]++46 :: (List.replicate n 48++[48])=([48]++46 :: List.replicate n 48)++[(48:UInt8)] by simp,dP];generalize aR ([48]++46 :: List.replicate n 48)=r at *
    unfold dS;rw[if_neg (by decide),if_pos ⟨rfl,ih⟩];exact ih
theorem aJo (x:Int)(h0:-1000<x)(h1:x<1000):∃(sg Dg:List UInt8) (es:Int),(if 0<x+1 then [101,43]++Lib.itoa x else [101,45]++Lib.itoa (-x))=101 :: sg++Dg∧Dg≠[]∧(∀c∈Dg,aS c=true)∧((sg=[]∧es=1)∨(sg=[43]∧es=1)∨(sg=[45]∧es=-1))∧x=(cK Dg:Nat)*es∧Dg.length≤3:=by
  have ln:∀n:Nat,n<1000→(Lib.decDigits n).length≤3:=fun n hn=>by
    rw[Lib.decDigits_length];by_cases c1:n<10
    · rw[Lib.nDigits_small c1];omega
    · rw[Lib.nDigits_big c1]
      by_cases c2:n / 10<10
      · rw[Lib.nDigits_small c2];omega
      · rw[Lib.nDigits_big c2,Lib.nDigits_small (by omega)];omega
  have ne:∀n:Nat,Lib.decDigits n≠[]:=fun n h=>by
    have:=Lib.decDigits_length n;rw[h]at this
    have:=Lib.nDigits_pos n;simp at *
    omega
  by_cases c:0<x+1
  · rw[if_pos c]
    refine⟨[43],Lib.decDigits x.toNat,1,?_,ne _,aBL _,.inr (.inl ⟨rfl,rfl⟩),?_,ln _ (by omega)⟩
    · unfold Lib.itoa
      rw[if_neg (by omega)]
    · rw[aCb _ (by omega)];omega
  · rw[if_neg c]
    refine⟨[45],Lib.decDigits (-x).toNat,-1,?_,ne _,aBL _,.inr (.inr ⟨rfl,rfl⟩),?_,ln _ (by omega)⟩
    · unfold Lib.itoa
      rw[if_neg (by omega)]
    · rw[aCb _ (by omega)];omega
def zG (neg:Bool)(D:List UInt8)(x:Int):List UInt8:=(if neg then [45]else [])++xC D x
theorem aBH (n:Nat):∀c∈List.replicate n (48:UInt8),aS c=true:=fun c hc=>by
  rw[(List.mem_replicate.1 hc).2];rfl
theorem aB0 (neg:Bool)(D:List UInt8)(x:Int)(k1:1≤D.length)(k17:D.length≤17)(hd:∀c∈D,aS c=true)(x0:-900<x)(x1:x<900) :
    (zG neg D x).length≤25∧∃A F dot X ev,vW ⟨(zG neg D x).toArray⟩ neg A F dot X ev∧(aR (cC A F dot)).trunc=false ∧
    ((eR (cC A F dot) = eR D ∧ (348 : Int) - F.length + ev = 349 + x - D.length ∧ ((cC A F dot).length ≤ 19 ∨ (x < 0 ∧ (cC A F dot).length ≤ 24))) ∨
     (eR (cC A F dot) = eR D * 10 ^ (x + 1 - D.length).toNat ∧ F.length = 0 ∧ ev = 0 ∧ (D.length : Int) ≤ x + 1 ∧ x + 1 ≤ 21 ∧ (cC A F dot).length ≤ 21)) := by
  have hne:D≠[]:=fun h=>by rw[h]at k1;simp at k1
  have sl:(if neg then [45]else []:List UInt8).length≤1:=by cases neg<;>simp
  unfold zG xC;by_cases c1:(D.length:Int)≤x+1∧x+1≤21
  · rw[if_pos c1]
    obtain⟨n,hn⟩:∃n,(x+1-D.length).toNat=n:=⟨_,rfl⟩
    rw[hn];have hl:((if neg then [45]else []:List UInt8)++(D++List.replicate n 48)).length≤25:=by simp only[List.length_append,List.length_replicate];omega
    refine⟨hl,D++List.replicate n 48,[],false,[],0,⟨by simp,?_,by simp,by simp[hne],fun _=>rfl,(fun h=>by cases h),.inl ⟨rfl,rfl⟩,by rw[jU];omega⟩,?_,.inr ⟨?_,rfl,rfl,c1.1,c1.2,?_⟩⟩
    · intro c hc
      rcases List.mem_append.1 hc with h|h
      · exact hd c h
      · exact aBH n c h
    · have e:cC (D++List.replicate n 48) [] false=D++List.replicate n 48:=by simp[cC]
      rw[e];exact aCy D (oN D (fun c hc=>by unfold dE;rw[hd c hc];rfl) (by omega)) n
    · have e:cC (D++List.replicate n 48) [] false=D++List.replicate n 48:=by simp[cC]
      rw[e,yL]
    · have e:cC (D++List.replicate n 48) [] false=D++List.replicate n 48:=by simp[cC]
      rw[e];simp only[List.length_append,List.length_replicate];omega
  · rw[if_neg c1]
    by_cases c2:1≤x+1∧x+1≤21
    · rw[if_pos c2]
      obtain⟨n,hn⟩:∃n,(x+1).toNat=n:=⟨_,rfl⟩
      rw[hn];have hnk:n<D.length:=by omega
      have eb:cC (D.take n) (D.drop n) true=D.take n++46 :: D.drop n:=by simp[cC]
      have lb:(D.take n++46 :: D.drop n).length=D.length+1:=by simp;omega
      refine⟨by simp only[List.length_append,List.length_take,List.length_drop,List.length_cons,List.length_nil];omega,D.take n,D.drop n,true,[],0,⟨by simp,fun c hc=>hd c (List.mem_of_mem_take hc),fun c hc=>hd c (List.mem_of_mem_drop hc),?_,(fun h=>by cases h),fun _=>?_,.inl ⟨rfl,rfl⟩,?_⟩,?_,.inl ⟨?_,?_,.inl ?_⟩⟩
      · intro h
        have:=congrArg List.length h;simp only[List.length_take,List.length_nil]at this;omega
      · intro h
        have:=congrArg List.length h;simp only[List.length_drop,List.length_nil]at this;omega
      · rw[jU]
        simp only[List.length_append,List.length_take,List.length_drop,List.length_cons,List.length_nil];omega
      · rw[eb]
        refine oN _ (fun c hc=>?_) (by rw[lb];omega);unfold dE;rcases List.mem_append.1 hc with h|h
        · rw[hd c (List.mem_of_mem_take h)];rfl
        · rcases List.mem_cons.1 h with h|h
          · rw[h];rfl
          · rw[hd c (List.mem_of_mem_drop h)];rfl
      · rw[eb,wE,List.take_append_drop]
      · rw[List.length_drop];omega
      · rw[eb,lb];omega
    · rw[if_neg c2]
      by_cases c3:-5≤x+1∧x+1≤0
      · rw[if_pos c3]
        obtain⟨n,hn⟩:∃n,(-(x+1)).toNat=n:=⟨_,rfl⟩
        rw[hn];have eb:cC [48] (List.replicate n 48++D) true=([48]++46 :: List.replicate n 48)++D:=by simp[cC]
        have lb:(([48]++46 :: List.replicate n 48)++D:List UInt8).length=n+2+D.length:=by simp;omega
        refine⟨by simp only[List.length_append,List.length_replicate,List.length_cons,List.length_nil];omega,[48],List.replicate n 48++D,true,[],0,⟨by simp,by simp;rfl,?_,by simp,(fun h=>by cases h),(fun _=>by simp[hne]),.inl ⟨rfl,rfl⟩,?_⟩,?_,.inl ⟨?_,?_,.inr ⟨by omega,?_⟩⟩⟩
        · intro c hc
          rcases List.mem_append.1 hc with h|h
          · exact aBH n c h
          · exact hd c h
        · rw[jU]
          simp only[List.length_append,List.length_replicate,List.length_cons,List.length_nil];omega
        · rw[eb]
          refine aB7 _ (fun c hc=>?_) ?_
          · unfold dE
            rcases List.mem_append.1 hc with h|h
            · rcases List.mem_append.1 h with h|h
              · rw[List.mem_singleton.1 h];rfl
              · rcases List.mem_cons.1 h with h|h
                · rw[h];rfl
                · rw[aBH n c h];rfl
            · rw[hd c h];rfl
          · have:=aIq ([48]++46 :: List.replicate n 48) D
            rw[aLG]at this
            omega
        · rw[eb,show([48]++46 :: List.replicate n 48)++D=[48]++46 :: (List.replicate n 48++D) by simp,wE]
          have:[48]++(List.replicate n 48++D)=List.replicate (n+1) 48++D:=by rw[List.replicate_succ];rfl
          rw[this,aFX]
        · rw[List.length_append,List.length_replicate];omega
        · rw[eb,lb];omega
      · rw[if_neg c3]
        obtain⟨sg,Dg,es,e1,e2,e3,e4,e5,e6⟩:=aJo x (by omega) (by omega);rw[e1];have sgl:sg.length≤1:=by rcases e4 with h|h|h<;>rw[h.1]<;>simp
        by_cases ck:1<D.length
        · have ep:dK D=D.take 1++46 :: D.drop 1:=by unfold dK;rw[if_pos ck]
          rw[ep];have eb:cC (D.take 1) (D.drop 1) true=D.take 1++46 :: D.drop 1:=by simp[cC]
          have lb:(D.take 1++46 :: D.drop 1).length=D.length+1:=by simp;omega
          refine⟨by simp only[List.length_append,List.length_take,List.length_drop,List.length_cons];omega,D.take 1,D.drop 1,true,101 :: sg++Dg,x,⟨by simp,fun c hc=>hd c (List.mem_of_mem_take hc),fun c hc=>hd c (List.mem_of_mem_drop hc),?_,(fun h=>by cases h),fun _=>?_,.inr ⟨sg,Dg,es,rfl,e2,e3,e4,e5⟩,?_⟩,?_,.inl ⟨?_,?_,.inl ?_⟩⟩
          · intro h
            have:=congrArg List.length h;simp only[List.length_take,List.length_nil]at this;omega
          · intro h
            have:=congrArg List.length h;simp only[List.length_drop,List.length_nil]at this;omega
          · rw[jU]
            simp only[List.length_append,List.length_take,List.length_drop,List.length_cons];omega
          · rw[eb]
            refine oN _ (fun c hc=>?_) (by rw[lb];omega);unfold dE;rcases List.mem_append.1 hc with h|h
            · rw[hd c (List.mem_of_mem_take h)];rfl
            · rcases List.mem_cons.1 h with h|h
              · rw[h];rfl
              · rw[hd c (List.mem_of_mem_drop h)];rfl
          · rw[eb,wE,List.take_append_drop]
          · rw[List.length_drop];omega
          · rw[eb,lb];omega
        · have ep:dK D=D:=by
            unfold dK;rw[if_neg ck,List.append_nil,List.take_of_length_le (by omega)]
          rw[ep];have eb:cC D [] false=D:=by simp[cC]
          refine⟨by simp only[List.length_append,List.length_cons];omega,D,[],false,101 :: sg++Dg,x,⟨by simp,hd,by simp,hne,fun _=>rfl,(fun h=>by cases h),.inr ⟨sg,Dg,es,rfl,e2,e3,e4,e5⟩,?_⟩,?_,.inl ⟨by rw[eb],?_,.inl (by rw[eb];omega)⟩⟩
          · rw[jU]
            simp only[List.length_append,List.length_cons];omega
          · rw[eb]
            exact oN _ (fun c hc=>by unfold dE;rw[hd c hc];rfl) (by omega)
          · simp
            omega
open Go.RowKit
theorem aKZ (s:ByteArray)(r:Nat)(w:World)(T:aC w)
    (A:∀w',aC w'→Calls Tryz.prog 205 #[.string s] w' fun e w2=>e=.returned (.tuple #[.float .f64 r,.int .i64 s.size,.nilIface])∧Below w'.heap.size w' w2) :
    Calls Tryz.prog 164 #[.string s,.int .i64 64] w fun e w'=>e=.returned (.tuple #[.float .f64 r,.int .i64 s.size,.nilIface])∧Below w.heap.size w w':=by
  have HA:=hid A;have HT:=hid T;clear A T;go_enter Tryz.func164,Tryz.ntmps164
  go_wp2_with fail
  refine(HA.out _ HT.out).mono ?_;rintro e w2 ⟨rfl,B2⟩;have HB:=hid B2;clear B2;go_wp2
  go_ret3;exact⟨rfl,HB.out⟩
theorem aNQ (s:ByteArray)(r:Nat)(w:World)(T:aC w)
    (A:∀w',aC w'→Calls Tryz.prog 205 #[.string s] w' fun e w2=>e=.returned (.tuple #[.float .f64 r,.int .i64 s.size,.nilIface])∧Below w'.heap.size w' w2) :
    Calls Tryz.prog 119 #[.string s,.int .i64 64] w fun e w'=>e=.returned (.tuple #[.float .f64 r,.nilIface])∧Below w.heap.size w w':=by
  have HA:=hid A;have HT:=hid T;clear A T;go_enter Tryz.func119,Tryz.ntmps119
  go_wp2_with fail
  refine(aKZ s r _ HT.out HA.out).mono ?_;rintro e w2 ⟨rfl,B2⟩;have HB:=hid B2;clear B2;go_wp2
  go_ret2;exact⟨rfl,HB.out⟩
theorem aNC (s:ByteArray)(r:Nat)(w:World)(T:aC w)
    (A:∀w',aC w'→Calls Tryz.prog 205 #[.string s] w' fun e w2=>e=.returned (.tuple #[.float .f64 r,.int .i64 s.size,.nilIface])∧Below w'.heap.size w' w2) :
    Calls Tryz.prog 66 #[.string s,.int .i64 64] w fun e w'=>e=.returned (.tuple #[.float .f64 r,.nilIface])∧Below w.heap.size w w':=by
  have HA:=hid A;have HT:=hid T;clear A T;go_enter Tryz.func66,Tryz.ntmps66
  go_wp2_with fail
  refine(aNQ s r _ HT.out HA.out).mono ?_;rintro e w2 ⟨rfl,B2⟩;have HB:=hid B2;clear B2;go_wp2
  go_ret2;exact⟨rfl,HB.out⟩
theorem aFl (s:ByteArray)(r:Nat)(w:World)(T:aC w)(hs:s.size≤maxLen)(hn:iG s.data.toList=true)(hi:vY r=false)
    (A:∀w',aC w'→Calls Tryz.prog 205 #[.string s] w' fun e w2=>e=.returned (.tuple #[.float .f64 r,.int .i64 s.size,.nilIface])∧Below w'.heap.size w' w2) :
    Calls Tryz.prog 21 #[.string s] w fun e w'=>e=.returned (.tuple #[.float .f64 r,.bool true])∧Below w.heap.size w w':=by
  have NB:=fun w=>oJ s w hs
  rw[hn]at NB
  have HA:=hid A;have HNB:=hid NB;have HI:=hid hi;have HT:=hid T;clear A NB hn hi hs T;go_enter Tryz.func21,Tryz.ntmps21
  go_wp2_with (go_at_call 65;refine(HNB.out _).mono ?_;rintro e w' ⟨rfl,rfl⟩)
  refine(aNC s r _ HT.out HA.out).mono ?_;rintro e w2 ⟨rfl,B2⟩;have HB:=hid B2;clear B2;go_wp2_with (go_at_call 67;refine(gK r false _ HI.out).mono ?_;rintro e w' ⟨rfl,rfl⟩)
  go_ret2;exact⟨rfl,HB.out⟩
theorem aLp (s:ByteArray)(r:Nat)(t:ByteArray)(w:World)(T:aC w)
    (P:∀w,aC w→Calls Tryz.prog 21 #[.string s] w fun e w'=>e=.returned (.tuple #[.float .f64 r,.bool true])∧Below w.heap.size w w')
    (Q:∀w,aC w→Calls Tryz.prog 63 #[.float .f64 r] w fun e w'=>e=.returned (.string t)∧Below w.heap.size w w') :
    Calls Tryz.prog 20 #[.string s] w fun e w'=>e=.returned (.tuple #[.string t,.bool true])∧Below w.heap.size w w':=by
  have HP:=hid P;have HQ:=hid Q;have HT:=hid T;clear P Q T;go_enter Tryz.func20,Tryz.ntmps20
  go_wp2_with fail
  refine(HP.out _ HT.out).mono ?_;rintro e w1 ⟨rfl,B1⟩;have HB:=hid B1;have HT1:=hid (HT.out.below B1 nD);clear B1;go_wp2_with fail
  refine(HQ.out _ HT1.out).mono ?_;rintro e w2 ⟨rfl,B2⟩;have HB2:=hid (HB.out.trans (B2.mono HB.out.size));clear B2;go_wp2
  go_ret2;exact⟨rfl,HB2.out⟩
theorem aAm (d:Nat)(h:d<100000000000000000):Lib.nDigits d≤17:=by
  refine Nat.le_of_not_lt fun hh=>?_
  obtain⟨n,hn⟩:∃n,Lib.nDigits d=n+18:=⟨Lib.nDigits d-18,by omega⟩
  have key:∀k u,Lib.nDigits u=k+1→k≠0→10^k≤u:=by
    intro k;induction k with
    | zero=>intro u _ h;exact absurd rfl h
    | succ k ih =>
      intro u hu _;by_cases c:u<10
      · rw[Lib.nDigits_small c]at hu;omega
      · rw[Lib.nDigits_big c]at hu
        by_cases hk:k=0
        · subst hk;simp;omega
        · have:=ih (u / 10) (by omega) hk
          rw[Nat.pow_succ];omega
  have h1:=key (n+17) d (by omega) (by omega);have h2:10^17≤10^(n+17):=Nat.pow_le_pow_right (by decide) (by omega);have e17:(10:Nat)^17=100000000000000000:=by decide
  omega
theorem aAF (neg:Bool)(b d j:Nat)(q:Int)(h2:b<aX)(hA:lF b d q j)(w:World)(T:aC w) :
    Calls Tryz.prog 21 #[.string ⟨(zG neg (fO d) ((Lib.nDigits d:Int)+q-1)).toArray⟩] w fun e w'=>e=.returned (.tuple #[.float .f64 (sgn neg+b),.bool true])∧Below w.heap.size w w':=by
  have j1:=hA.idx;have j2:=hA.j1;have j3:=hA.j2;have n1:=Lib.nDigits_pos d;have n17:=aAm d hA.lt;obtain⟨l1,l2⟩:=zV d hA.pos;obtain⟨N,hN⟩:∃N,Lib.nDigits d=N:=⟨_,rfl⟩
  have hback:=aH2 d;have hv:=aHn d;rw[←hback,yL]at hv
  rw[hN]at n1 n17 l2 hv ⊢
  obtain⟨k,hk⟩:∃k,(fO d).length=k:=⟨_,rfl⟩
  rw[hk]at l1 l2 hv
  obtain⟨hlen,A,F,dot,X,ev,hNP,ht,hcase⟩:=aB0 neg (fO d) ((N:Int)+q-1) (by omega) (by omega) (yQ d) (by omega) (by omega);rw[hk]at hcase
  have hd1:=hA.pos;have hdl:=hA.lt;have hrn:=hA.rn;obtain⟨v,hv0⟩:∃v,eR (fO d)=v:=⟨_,rfl⟩
  rw[hv0]at hv hcase
  have v1:1≤v:=by
    refine Nat.pos_of_ne_zero fun h=>?_
    rw[h,Nat.zero_mul]at hv
    omega
  have vd:v≤d:=by
    rw[←hv];exact Nat.le_mul_of_pos_right _ (Nat.pow_pos (by decide))
  refine aFl _ (sgn neg+b) w T (by rw[jU];unfold maxLen;omega) (aLL hNP) (uQ neg b h2) (fun w' T'=>?_);rcases hcase with⟨c1,c2,c3⟩|⟨c1,c2,c3,c4,c5,c6⟩
  · have hr2:cY (bY v (j+(N-k))) (aO (j+(N-k))) b:=by
      rw[pS,hv];exact hrn
    exact aEc hNP v (j+(N-k)) b c1 v1 (by omega) ht hr2 h2 (by omega) (by omega) (.inl (by omega)) w' T'
  · obtain⟨p,hp⟩:∃p,((N:Int)+q-1+1-k).toNat=p:=⟨_,rfl⟩
    rw[hp]at c1
    have hr2:cY (bY (v*10^p) 348) (aO 348) b:=by
      by_cases hq:0≤q
      · obtain⟨t,ht⟩:∃t,j=348+t:=⟨j-348,by omega⟩
        rw[ht,pS,←hv,Nat.mul_assoc,←Nat.pow_add,show N-k+t=p by omega]at hrn
        exact hrn
      · obtain⟨t,ht⟩:∃t,348=j+t:=⟨348-j,by omega⟩
        have e:bY (v*10^p) 348=bY (v*10^p) (j+t):=by rw[←ht]
        have e':aO 348=aO (j+t):=by rw[←ht]
        rw[e,e',pS,Nat.mul_assoc,←Nat.pow_add,show p+t=N-k by omega,hv];exact hrn
    have vp:1≤v*10^p:=Nat.mul_pos v1 (Nat.pow_pos (by decide));exact aEc hNP (v*10^p) 348 b c1 vp (by omega) ht hr2 h2 (by omega) (by omega) (.inr ⟨by omega,by omega⟩) w' T'
theorem aLd (neg:Bool)(b:Nat)(h1:1≤b)(h2:b<aX):∃d q j,lF b d q j∧∃t:ByteArray,t=⟨(zG neg (fO d) ((Lib.nDigits d:Int)+q-1)).toArray⟩∧t.size≤25 ∧
    (∀w,aC w→Calls Tryz.prog 63 #[.float .f64 (sgn neg+b:Nat)] w fun e w'=>e=.returned (.string t)∧Below w.heap.size w w') ∧
    (∀w,aC w→Calls Tryz.prog 21 #[.string t] w fun e w'=>e=.returned (.tuple #[.float .f64 (sgn neg+b),.bool true])∧Below w.heap.size w w') ∧
    (∀w,aC w→Calls Tryz.prog 20 #[.string t] w fun e w'=>e=.returned (.tuple #[.string t,.bool true])∧Below w.heap.size w w'):=by
  obtain⟨d,q,j,hA,hP⟩:=aF6 b h1 h2;have j1:=hA.idx;have j2:=hA.j1;have j3:=hA.j2;have n1:=Lib.nDigits_pos d;have n17:=aAm d hA.lt;obtain⟨l1,l2⟩:=zV d hA.pos;have hlen:=(aB0 neg (fO d) ((Lib.nDigits d:Int)+q-1) (by omega) (by omega) (yQ d) (by omega) (by omega)).1;have PR:∀w,aC w→Calls Tryz.prog 63 #[.float .f64 (sgn neg+b:Nat)] w fun e w'=>e=.returned (.string ⟨(zG neg (fO d) ((Lib.nDigits d:Int)+q-1)).toArray⟩)∧Below w.heap.size w w':=by
    intro w T;cases neg
    · have:=hP w T
      rw[aFN];exact this
    · have e:sgn true=9223372036854775808:=by simp[sgn]
      rw[e];have hl:(xC (fO d) ((Lib.nDigits d:Int)+q-1)).length≤1000:=by
        unfold zG at hlen;simp only[List.length_append]at hlen;omega
      exact aIw b _ hl h1 h2 w T hP
  exact⟨d,q,j,hA,_,rfl,by rw[jU];exact hlen,PR,fun w T=>aAF neg b d j q h2 hA w T,fun w T=>aLp _ _ _ w T (fun w T=>aAF neg b d j q h2 hA w T) PR⟩
end Go.Proofs.YtcfgbdhpcboikaaGreatDoor
