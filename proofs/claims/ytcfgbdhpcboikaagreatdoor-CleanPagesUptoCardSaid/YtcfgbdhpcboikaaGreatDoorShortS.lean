/-
shortFloat at the least normal float.
-/
import Derived.Test.YtcfgbdhpcboikaaGreatDoorAtofW
namespace Go.Proofs.YtcfgbdhpcboikaaGreatDoor
set_option maxHeartbeats 4000000
set_option maxRecDepth 100000
open Go.RowKit
theorem oL {n:Nat}:n<=n:=ag n
theorem aHE (m:Nat)(e J:Int)(i s odd A z y p l a dmax f:Nat)(w:H)(T:aA w)(a3:-1085<=e)(a4:e<=-1085)(a6:9223372036854775808<=m)(a7:m<=9223372036854775808)
  (hp:-((e+11)*78913 / 262144)=(i:Int)-348) (hi:i<696) (a5:((i:Int)-348)*108853 / 32768=J) (hs:-(e+J+3)=s) (F:s<64) (E:m / 2048%2=odd)
  (u:cZ (m-1024) (aN i) (aX i) s=A) (v:cZ (m+1024) (aN i) (aX i) s=z) (x:cZ m (aN i) (aX i) s=y)
  (n1:fR A odd=p) (K:fR z (-(odd:Int))=l) (k1:sO p=a) (k2:l / 4=dmax) (k3:gU y=f) (c:aN i<18446744073709551616) (d:aX i<18446744073709551616) :
  Y 265 #[.int .u64 m,.int .i64 e] w (O (.tuple #[.int .u64 (bX a dmax f ((i:Int)-348)).1,.int .i64 (bX a dmax f ((i:Int)-348)).2]) w):=by
 have r:=fun(w:H) b o c0 c1 c2=>dY (m-1024) (aN i) (aX i) s w b o c0 c1 c2 (by omega) c d F;have t:=fun(w:H) b o c0 c1 c2=>dY (m+1024) (aN i) (aX i) s w b o c0 c1 c2 (by omega) c d F;have C:=fun(w:H) b o c0 c1 c2=>dY m (aN i) (aX i) s w b o c0 c1 c2 (by omega) c d F;rw[u]at r;rw[v]at t;rw[x]at C;have V:((m-1024:Nat):Int)=(m:Int)-1024:=by{omega};have W:((m+1024:Nat):Int)=(m:Int)+1024:=by{omega};rw[V]at r;rw[W]at t;have ha:=xP (m / 2048) (by omega);have e5:((m / 2048:Nat):Int)=(m:Int) / 2048:=by{omega};rw[E,e5]at ha;have a9:odd<=1:=by{omega};have j1:p<18446744073709551616:=by{rw[<-n1];exact kX _ _};have j2:l<18446744073709551616:=by{rw[<-K];exact kX _ _};have j3:dmax<18446744073709551616:=by{omega};have P:=fun w=>mO A p odd w (by rw[<-u];exact dC _ _ _ _ (by omega) c d) n1;have Q:=fun w=>mO z l (-(odd:Int)) w (by rw[<-v];exact dC _ _ _ _ (by omega) c d) K;have M:=fun w=>aAW p a w j1 k1;have F1:=fun w=>yG l dmax w j2 k2;have R:=fun w=>oS y f w (by rw[<-x];exact dC _ _ _ _ (by omega) c d) k3;have l1:A<18446744073709551616:=by{rw[<-u];exact dC _ _ _ _ (by omega) c d};have l2:z<18446744073709551616:=by{rw[<-v];exact dC _ _ _ _ (by omega) c d};have l3:y<18446744073709551616:=by{rw[<-x];exact dC _ _ _ _ (by omega) c d};have ao:=Z r;have ar:=Z t;have av:=Z C;have N:=Z T;have HS:=Z hs;have HO:=Z E;have ah:=Z P;have al:=Z Q;have ab:=Z M;have ad:=Z F1;have an:=Z R;clear r t C u v x c d T hs E P Q M F1 R n1 K k1 k2 k3 V W e5;have a8:((m:Int)==9223372036854775808)=true:=cv.2 (by omega);go_enter Tryz.func265,Tryz.ntmps265
 go_wp2_with (first
  | (go_at_call 260;refine(vF _ _ (by omega) (by omega)).mono ?_;rintro e w' ⟨rfl,rfl⟩)
  | (go_at_call 272;refine(oQ _ _ (by omega) (by omega)).mono ?_;rintro e w' ⟨rfl,rfl⟩))
 have S:aA (w.alloc (.cells #[.int .u64 0,.int .u64 0,.int .i64 0] 265)):=N.o.below ((aj w.heap.size w).alloc oL _) oL;have X:=bi w (.cells #[.int .u64 0,.int .u64 0,.int .i64 0] 265);have a0:=N.o.size;refine(iW e J s i _ w.heap.size _ _ _ _ X rfl hi (by omega) S (by omega) (by omega) (by omega) (by omega) HS.o).mono ?_;rintro e1 w1 ⟨rfl,j,q⟩;have a1:w.heap.size<w1.heap.size:=by{have:=q.size;simp at this;omega};have L:Below w.heap.size w w1:=(((aG.refl (fun _=>False) w).alloc _).trans' q (fun _ _ h=>by omega)).below oL (fun _ _ h=>h.elim);have B:=Z L;have a2:=Z q;have c0:=aq w1 w.heap.size 0 _ _ _ j;have c1:=aq w1 w.heap.size 1 _ _ _ j;have c2:=aq w1 w.heap.size 2 _ _ _ j;simp at c0 c1 c2;obtain⟨g,aa⟩:∃g,w.heap.size=g:=⟨_,rfl⟩;rw[aa]at c0 c1 c2 j a1 ⊢
 clear S X q L aa a0 j;go_wp2_with (first
  | (go_at_call 274;((with_reducible refine(ao.o _ _ _ ?_ ?_ ?_).mono ?_);all_goals first|exact c0|exact c1|exact c2|skip);rintro e w' ⟨rfl,n,rfl⟩)
  | (go_at_call 274;((with_reducible refine(ar.o _ _ _ ?_ ?_ ?_).mono ?_);all_goals first|exact c0|exact c1|exact c2|skip);rintro e w' ⟨rfl,n,rfl⟩)
  | (go_at_call 274;((with_reducible refine(av.o _ _ _ ?_ ?_ ?_).mono ?_);all_goals first|exact c0|exact c1|exact c2|skip);rintro e w' ⟨rfl,n,rfl⟩)
  | (go_at_call 277;((with_reducible refine(an.o _).mono ?_);rintro e w' ⟨rfl,rfl⟩))
  | (go_at_call 283;((with_reducible refine(ah.o _).mono ?_);rintro e w' ⟨rfl,rfl⟩))
  | (go_at_call 283;((with_reducible refine(al.o _).mono ?_);rintro e w' ⟨rfl,rfl⟩))
  | (go_at_call 284;((with_reducible refine(ab.o _).mono ?_);rintro e w' ⟨rfl,rfl⟩))
  | (go_at_call 285;((with_reducible refine(ad.o _).mono ?_);rintro e w' ⟨rfl,rfl⟩)))
 {have k:a<=dmax / 10*10:=by{omega};go_ret2;refine⟨?_,B.o.trans ⟨rfl,rfl,rfl,ag _,fun _ _=>rfl⟩⟩;have e:bX a dmax f ((i:Int)-348)=(dmax / 10,-((i:Int)-348-1)):=by{unfold bX;rw[ae k]};rw[e];rfl};{have k:¬a<=dmax / 10*10:=by{omega};have D:a<dmax:=by{assumption};go_ret2;refine⟨?_,B.o.trans ⟨rfl,rfl,rfl,ag _,fun _ _=>rfl⟩⟩;have e:bX a dmax f ((i:Int)-348)=(f,-((i:Int)-348)):=by{unfold bX;rw[ac k,ae D]};rw[e];rfl};{have k:¬a<=dmax / 10*10:=by{omega};have D:¬a<dmax:=by{assumption};go_ret2;refine⟨?_,B.o.trans ⟨rfl,rfl,rfl,ag _,fun _ _=>rfl⟩⟩;have e:bX a dmax f ((i:Int)-348)=(a,-((i:Int)-348)):=by{unfold bX;rw[ac k,ac D]};rw[e];rfl}
open Go.RowKit
theorem aJQ (q:Nat)(h:q<9223372036854775808):wrap64 (q:Int)=(q:Int):=by unfold wrap64;omega
theorem aLK (m z l p:Nat)(e V:Int)(i s odd E D C t r a dmax f:Nat)(w:H)(T:aA w)(bs:-1137<=e)(bx:e < -1085)(ca:11+(-1085-e)=(z:Int))(b2:9223372036854775808<=m)(bf:m<18446744073709551616)(ah:m-2^(z-1)=l)(al:m+2^(z-1)=p)(bj:p<18446744073709551616)
  (hp:-((e+z)*78913 / 262144)=(i:Int)-348) (hi:i<696) (b1:((i:Int)-348)*108853 / 32768=V) (hs:-(e+V+3)=s) (S:s<64) (A:m / 2^z%2=odd)
  (v:cZ l (aN i) (aX i) s=E) (x:cZ p (aN i) (aX i) s=D) (y:cZ m (aN i) (aX i) s=C)
  (n1:fR E odd=t) (W:fR D (-(odd:Int))=r) (k1:sO t=a) (k2:r / 4=dmax) (k3:gU C=f) (c:aN i<18446744073709551616) (d:aX i<18446744073709551616) :
  Y 265 #[.int .u64 m,.int .i64 e] w (O (.tuple #[.int .u64 (bX a dmax f ((i:Int)-348)).1,.int .i64 (bX a dmax f ((i:Int)-348)).2]) w):=by
 have ar:12<=(z:Int):=by{omega};have b6:(z:Int)<=63:=by{omega};have b3:¬(-1085:Int)<e:=by{omega};have b0:¬(-1085:Int)<=e:=by{omega};obtain⟨J,Q⟩:∃P,2^(z-1)=P:=⟨_,rfl⟩;have b5:J<9223372036854775808:=by{have:2^(z-1)<=2^62:=cc (by decide) (by omega);have bq:(2:Nat)^62=4611686018427387904:=by{decide};omega};have aa:((2:Int)^(z-1))=(J:Int):=by{rw[<-Q,Int.natCast_pow];rfl};rw[Q]at ah al;have N:IntKind.u64.wrap ((2:Int)^(z-1))=(J:Int):=by{rw[dV,aa];omega};have f1:IntKind.u64.wrap ((m:Int)-IntKind.u64.wrap ((2:Int)^(z-1)))=(l:Int):=by{rw[N,dV];omega};have f2:IntKind.u64.wrap ((m:Int)+IntKind.u64.wrap ((2:Int)^(z-1)))=(p:Int):=by{rw[N,dV];omega};obtain⟨q,B⟩:∃q,m / 2^z=q:=⟨_,rfl⟩;have an:q<9007199254740992:=by{rw[<-B];refine Nat.div_lt_of_lt_mul ?_;have ab:2^12<=2^z:=cc (by decide) (by omega);have bd:(2:Nat)^12=4096:=by{decide};rw[bd]at ab;have:=au 9007199254740992 ab;refine cf bf (bg ?_ this);decide};have e3:(q:Int)=(m:Int) / 2^z:=by{rw[<-B,nn,Int.natCast_pow];rfl};rw[B]at A;have e4:wrap64 (q:Int)=(q:Int):=aJQ q (by clear e3;omega);have ao:q<9223372036854775808:=lx an (by decide);have e5:=xP q ao;rw[A]at e5;have f3:bits .and .i64 (wrap64 ((m:Int) / 2^z)) 1=(odd:Int):=by{rw[<-e3,e4,e5]};have a1:=Z f1;have a2:=Z f2;have a3:=Z f3;clear e3 e4 e5 B an ao f1 f2 f3;have b4:odd<=1:=by{omega};have bh:l<18446744073709551616:=by{omega};have K:=fun(w:H) b o c0 c1 c2=>dY l (aN i) (aX i) s w b o c0 c1 c2 bh c d S;have L:=fun(w:H) b o c0 c1 c2=>dY p (aN i) (aX i) s w b o c0 c1 c2 bj c d S;have M:=fun(w:H) b o c0 c1 c2=>dY m (aN i) (aX i) s w b o c0 c1 c2 (by omega) c d S;rw[v]at K;rw[x]at L;rw[y]at M;have j1:t<18446744073709551616:=by{rw[<-n1];exact kX _ _};have j2:r<18446744073709551616:=by{rw[<-W];exact kX _ _};have j3:dmax<18446744073709551616:=by{omega};have N1:=fun w=>mO E t odd w (by rw[<-v];exact dC _ _ _ _ (by omega) c d) n1;have N2:=fun w=>mO D r (-(odd:Int)) w (by rw[<-x];exact dC _ _ _ _ (by omega) c d) W;have C1:=fun w=>aAW t a w j1 k1;have F1:=fun w=>yG r dmax w j2 k2;have R1:=fun w=>oS C f w (by rw[<-y];exact dC _ _ _ _ (by omega) c d) k3;have l1:E<18446744073709551616:=by{rw[<-v];exact dC _ _ _ _ (by omega) c d};have l2:D<18446744073709551616:=by{rw[<-x];exact dC _ _ _ _ (by omega) c d};have l3:C<18446744073709551616:=by rw[<-y];exact dC _ _ _ _ (by omega) c d
 have a7:=Z K;have a8:=Z L;have a9:=Z M;have HT:=Z T;have HS:=Z hs;have HO:=Z A;have a4:=Z N1;have a5:=Z N2;have av:=Z C1;have a0:=Z F1;have a6:=Z R1;clear K L M v x y c d T hs A N1 N2 C1 F1 R1 n1 W k1 k2 k3 N aa ah al Q;cases hq:((m:Int)==9223372036854775808);all_goals
  go_enter Tryz.func265,Tryz.ntmps265
  go_wp2_with (first
   | (go_at_call 260;refine(vF _ _ (by omega) (by omega)).mono ?_;rintro e w' ⟨rfl,rfl⟩)
   | (go_at_call 272;refine(oQ _ _ (by omega) (by omega)).mono ?_;rintro e w' ⟨rfl,rfl⟩))
  rw[a1.o,a2.o,a3.o];have T1:aA (w.alloc (.cells #[.int .u64 0,.int .u64 0,.int .i64 0] 265)):=HT.o.below ((aj w.heap.size w).alloc oL _) oL;have hg:=bi w (.cells #[.int .u64 0,.int .u64 0,.int .i64 0] 265);have bk:=HT.o.size;refine(iW e V s i _ w.heap.size _ _ _ _ hg rfl hi (by omega) T1 (by omega) (by omega) (by omega) (by omega) HS.o).mono ?_;rintro e1 w1 ⟨rfl,j,u⟩;have ar:w.heap.size<w1.heap.size:=by have:=u.size;simp at this;omega
  have X:Below w.heap.size w w1:=(((aG.refl (fun _=>False) w).alloc _).trans' u (fun _ _ h=>by omega)).below oL (fun _ _ h=>h.elim);have F:=Z X;have bl:=Z u;have c0:=aq w1 w.heap.size 0 _ _ _ j;have c1:=aq w1 w.heap.size 1 _ _ _ j;have c2:=aq w1 w.heap.size 2 _ _ _ j;simp at c0 c1 c2;obtain⟨g,ad⟩:∃g,w.heap.size=g:=⟨_,rfl⟩
  rw[ad]at c0 c1 c2 j ar ⊢
  clear T1 hg u X ad bk j;go_wp2_with (first
   | (go_at_call 274;((with_reducible refine(a7.o _ _ _ ?_ ?_ ?_).mono ?_);all_goals first|exact c0|exact c1|exact c2|skip);rintro e w' ⟨rfl,n,rfl⟩)
   | (go_at_call 274;((with_reducible refine(a8.o _ _ _ ?_ ?_ ?_).mono ?_);all_goals first|exact c0|exact c1|exact c2|skip);rintro e w' ⟨rfl,n,rfl⟩)
   | (go_at_call 274;((with_reducible refine(a9.o _ _ _ ?_ ?_ ?_).mono ?_);all_goals first|exact c0|exact c1|exact c2|skip);rintro e w' ⟨rfl,n,rfl⟩)
   | (go_at_call 277;((with_reducible refine(a6.o _).mono ?_);rintro e w' ⟨rfl,rfl⟩))
   | (go_at_call 283;((with_reducible refine(a4.o _).mono ?_);rintro e w' ⟨rfl,rfl⟩))
   | (go_at_call 283;((with_reducible refine(a5.o _).mono ?_);rintro e w' ⟨rfl,rfl⟩))
   | (go_at_call 284;((with_reducible refine(av.o _).mono ?_);rintro e w' ⟨rfl,rfl⟩))
   | (go_at_call 285;((with_reducible refine(a0.o _).mono ?_);rintro e w' ⟨rfl,rfl⟩)))
  ·have k:a<=dmax / 10*10:=by omega
   go_ret2;refine⟨?_,F.o.trans ⟨rfl,rfl,rfl,ag _,fun _ _=>rfl⟩⟩;have e:bX a dmax f ((i:Int)-348)=(dmax / 10,-((i:Int)-348-1)):=by unfold bX;rw[ae k]
   rw[e];rfl
  ·have k:¬a<=dmax / 10*10:=by omega
   have R:a<dmax:=by assumption
   go_ret2;refine⟨?_,F.o.trans ⟨rfl,rfl,rfl,ag _,fun _ _=>rfl⟩⟩;have e:bX a dmax f ((i:Int)-348)=(f,-((i:Int)-348)):=by unfold bX;rw[ac k,ae R]
   rw[e];rfl
  ·have k:¬a<=dmax / 10*10:=by omega
   have R:¬a<dmax:=by assumption
   go_ret2;refine⟨?_,F.o.trans ⟨rfl,rfl,rfl,ag _,fun _ _=>rfl⟩⟩;have e:bX a dmax f ((i:Int)-348)=(a,-((i:Int)-348)):=by unfold bX;rw[ac k,ac R]
   rw[e];rfl
open Go.RowKit Go.Sort
theorem aM0 (w:H)(B:Nat)(v:Option Addr)(c:Nat)(S:Nat->Prop)(b L x d:Nat)(p:Int)(hO:Out w w B S v c [])(T:aA w)
  (bl:1<=b) (hb:b<4503599627370496) (hL:Lib.bitLen b=L) (L1:1<=L) (L2:L<=52) (hx:b*2^(64-L)=x) (bs:x<18446744073709551616)
  (hS:∀k,S k->k<w.heap.size)
  (V:∀w',aA w'->Y 265 #[.int .u64 x,.int .i64 ((L:Int)-1138)] w' (O (.tuple #[.int .u64 d,.int .i64 p]) w'))
  (D:1<=d) (hd:d<18446744073709551616) (p1:-900<=p) (p2:p<=900) :
  Y 228 #[.slice v 0 c,.float .f64 b,.int .u8 101,.int .i64 (-1)] w (wG w B S (fN ((Lib.decDigits d).take (cL (Lib.decDigits d))) ((Lib.nDigits d:Int)+p-1))):=by
 have bh:bits .and .i64 (0:Int) 2047=0:=wL 0 (by omega);have a4:=aFl b (by omega);rw[l9 hb]at a4;have g3:(b:Int) / 4503599627370496=0:=by{omega};have g4:((b:Int) / 9223372036854775808 !=0)=false:=ir.2 (by omega);have g5:((b:Int)==0)=false:=ai.2 (by omega);have Q:=fun w=>aCO b L w (by omega) hL;have HL:=Z Q;have ad:IntKind.u64.wrap ((b:Int)*2^(64-L))=(x:Int):=by{rw[dV,<-hx];have:((b*2^(64-L):Nat):Int)=(b:Int)*2^(64-L):=by{push_cast;rfl};rw[<-this];omega};have a1:=Z ad;have bj:=aFQ;have HO:=Z hO;have K:=Z T;have ar:=Z V;have av:=Z hS;clear hO T V hS Q ad hx hL;go_enter Tryz.func228,Tryz.ntmps228;go_wp2_with fail;go_quiet (fail);go_wp2_with (go_at_call 191;((with_reducible refine(HL.o _).mono ?_);rintro e w' ⟨rfl,rfl⟩));obtain⟨g,m⟩:=ex w.heap.size;obtain⟨W,l⟩:=ex ((w.drewN nq).alloc (.cells tS 251));have z:Below w.heap.size w W:=by{rw[l];exact((aj w.heap.size w).trans ⟨rfl,rfl,rfl,ag _,fun _ _=>rfl⟩:Below w.heap.size w (w.drewN nq)).alloc oL _};have sW:W.heap.size=g+1:=by{rw[l,m];simp};have hH:Holds (fun(b:UInt8)=>Value.int .u8 (b.toNat:Int)) W g 0 (Array.replicate 32 (0:UInt8)):=by{rw[l,m];exact aH4 (w.drewN nq) 251};have TW:=K.o.below z oL;have A:=l;unfold tS at A;rw[<-A,<-m];clear l A;rw[a1.o,show(-1022:Int)-(64-(L:Int))-52=(L:Int)-1138 by omega];refine(ar.o W TW).mono ?_;rintro e1 w2 ⟨rfl,n⟩;have E:Holds (fun(b:UInt8)=>Value.int .u8 (b.toNat:Int)) w2 g 0 (Array.replicate 32 (0:UInt8)):=Holds.below hH n (by omega);have y:Below w.heap.size w w2:=z.trans (n.mono (by omega));have s2:g<w2.heap.size:=by{have:=n.size;omega};have X:=K.o.below y oL;have bf:=iV d hd;have n1:=gf d;obtain⟨N,j⟩:∃N,Lib.nDigits d=N:=⟨_,rfl⟩;rw[j]at bf n1;have t:=fun(w:H) (h:Lib.TabIs Tryz.prog w "internal/strconv.uint64pow10" .u64 Lib.pow10Tab)=>Tryz.internal_strconv_numDigits d D hd w h;rw[j]at t;have F:=Z m;clear m;have a7:=zG d D;have a8:cL (Lib.decDigits d)<=N:=by{have:=kH (Lib.decDigits d);rw[eo,j]at this;exact this};obtain⟨k,hk⟩:∃k,cL (Lib.decDigits d)=k+1:=⟨cL (Lib.decDigits d)-1,by omega⟩;have bx:k<=19:=by{omega};have bq:max (k:Int) 0=k:=by{omega};have q:=Z hk;clear a7 a8 hk;have al:=Z E;have ah:=Z y;have a0:=Z X;have s:=Z j;have an:=Z t;clear hH n E y X TW z sW j t;go_wp2_with fail;obtain⟨C,r⟩:∃C:H->Prop,∀u,C u:=⟨fun _=>True,fun _=>trivial⟩;haveI:Nonempty (WIn C):=⟨⟨w2,r _⟩⟩;refine gF 10 [([0,1,2,3],4),([],5)] [6,7,8,9] C (by kernel_rfl) (by kernel_rfl) (r _) ?_;refine bT (fun f a=>?_);simp only[pick,pickZ,pickS,pickG];repeat (go_big_quiet_step (fail))
 refine am (a _ (fun Q1 aa=>?_));clear a f;simp only[pick,pickZ,pickS,pickG];go_wp2_with fail;refine(an.o _ (a0.o.drewN 1).u10).mono ?_;rintro e w3 ⟨rfl,a9⟩;subst a9;go_wp2_with fail;refine aa _ _ (r _) (bT (fun f a=>am (a _ (fun Q2 ab=>?_))));clear a f aa Q1;simp only[pick,pickZ,pickS,pickG];go_wp2_with fail;refine(aAC g d k p N (w2.drewN 1) (Holds.drewN al.o 1) D hd s.o (by omega) (by omega) q.o).mono ?_;rintro e w3 ⟨rfl,R,P⟩;have ao:=Z R;have J:=Z P;clear R P;go_wp2_with fail;refine ab _ _ (r _) (iH (fun f a=>?_));clear ab Q2;simp only[pick,pickZ,pickS,pickG];repeat (go_big_quiet_step (fail))
 refine am (a _ (fun Q3 bk=>?_));clear a f;simp only[dj,dt];go_wp2_with fail;have M:aG (fun i=>w.heap.size<=i) w w3:=(aG.of_below ah.o).trans ((((aG.refl (· = g) w2).drewN 1).trans J.o).mono (fun i _ e=>by have:=F.o;omega));have a2:aG (fun _=>False) w w3:=M.mono (fun i hi e=>by omega);have O3:=HO.o.later M;have a3:IsB w3 (some ⟨g,0,none⟩) ((Lib.decDigits d).take (k+1)):=ao.o.take (k+1);have a6:((Lib.decDigits d).take (k+1)).length=k+1:=by{have:=q.o;have:=kH (Lib.decDigits d);rw[br];omega};have bd:g<w3.heap.size:=by{have:=J.o.size;simp at this;omega};refine(aKD w3 B g k v c S _ ((N:Int)+p) O3 a3 (fun e=>by have:=av.o g e;have:=F.o;omega) bd a6 (by omega) (by omega) (by omega)).mono ?_;rintro e w4 ⟨a5,c4,rfl,O4⟩;go_wp2;go_ret;refine⟨a5,c4,?_,?_⟩;{rw[q.o,s.o];rfl};{rw[q.o,s.o];exact Out.first a2 O4}
open Go.RowKit
theorem aDe (i:Nat)(h:i<696):aN i<18446744073709551616/\aX i<18446744073709551616:=⟨(wX i h).1,(wX i h).2.1⟩
theorem aG6 (E f:Nat)(w:1<=E)(x:E<=2046)(y:f<4503599627370496) :
  ∃d q j,iI (E*4503599627370496+f) d q j/\∀w',aA w'->Y 265 #[.int .u64 ((4503599627370496+f)*2048:Nat),.int .i64 ((E:Int)-1086)] w' (O (.tuple #[.int .u64 d,.int .i64 q]) w'):=by
 obtain⟨k,v⟩:∃k,E=k+1:=⟨E-1,by omega⟩;subst v;have t:(k+1)*4503599627370496+f=k*4503599627370496+(4503599627370496+f):=by{omega};rw[t];have o:k*4503599627370496+(4503599627370496+f)<aQ:=by{unfold aQ;omega};have r:((k+1:Nat):Int)-1086=(k:Int)-1074-11:=by{omega};rw[r];have p:(2:Nat)^11=2048:=by{decide};have p10:(2:Nat)^(11-1)=1024:=by{decide};by_cases u:4503599627370496<4503599627370496+f\/k=0;{obtain⟨l,r2,r3,r4,r5,r6,m⟩:=aGD k (by omega);obtain⟨i,hi⟩:=ex (iR k);rw[<-hi]at l r2 r5 r6 m;obtain⟨s,a⟩:∃s:Nat,-((k:Int)-1074-11+lpI i+3)=s:=⟨(-((k:Int)-1074-11+lpI i+3)).toNat,by omega⟩;obtain⟨d,q,j,hD,hA⟩:=aEz (4503599627370496+f) k 11 i s ((4503599627370496+f)%2) _ _ _ ((k:Int)-1074-11) (by omega) (by omega) (by omega) u (by omega) (by rw[p];omega) o hi (by omega) a rfl rfl rfl rfl;refine⟨d,q,j,hA,fun w' b=>?_⟩;rw[p10,p]at hD;obtain⟨c,e⟩:=aDe i (by omega);have n:(4503599627370496+f)*2048 / 2048%2=(4503599627370496+f)%2:=by{omega};have g:-(((k:Int)-1074-11+11)*78913 / 262144)=(i:Int)-348:=by{rw[r2];congr 2;omega};by_cases h:f=0;{have z:k=0:=by{omega};subst h;have:=aHE ((4503599627370496+0)*2048) ((k:Int)-1074-11) (lpI i) i s _ _ _ _ _ _ _ _ _ w' b (by omega) (by omega) (by omega) (by omega) g (by omega) rfl a (by omega) n rfl rfl rfl rfl rfl rfl rfl rfl c e;rw[hD]at this;exact this};{have:=aGM ((4503599627370496+f)*2048) ((k:Int)-1074-11) (lpI i) i s _ _ _ _ _ _ _ _ _ w' b (by omega) (by omega) (by omega) (by omega) g (by omega) rfl a (by omega) n rfl rfl rfl rfl rfl rfl rfl rfl c e;rw[hD]at this;exact this}};{have h:f=0:=by{omega};subst h;obtain⟨l,r2,r3,r4,r5,r6,m⟩:=aIk k (by omega);obtain⟨i,hi⟩:=ex (iS k);rw[<-hi]at l r2 r5 r6 m;obtain⟨s,a⟩:∃s:Nat,-((k:Int)-1074-11+lpI i+3)=s:=⟨(-((k:Int)-1074-11+lpI i+3)).toNat,by omega⟩;obtain⟨d,q,j,hD,hA⟩:=aJq (4503599627370496+0) k i s _ _ _ ((k:Int)-1074-11) (by omega) (by omega) rfl o hi (by omega) a rfl rfl rfl;refine⟨d,q,j,hA,fun w' b=>?_⟩;obtain⟨c,e⟩:=aDe i (by omega);have g:-((((k:Int)-1074-11+11)*631305-261663) / 2097152)=(i:Int)-348:=by{rw[r2];congr 4;omega};have:=aLJ 9223372036854775808 ((k:Int)-1074-11) (lpI i) i s 0 _ _ _ _ _ _ _ _ w' b (by omega) (by omega) rfl g (by omega) rfl a (by omega) (by decide) rfl rfl rfl rfl rfl rfl rfl rfl c e;rw[hD]at this;exact this}
theorem aMz (b L x:Nat)(k:1<=b)(F:b<4503599627370496)(D:1<=L)(E:L<=52)(v:2^(L-1)<=b)(w:b<2^L)(hx:b*2^(64-L)=x) :
  x<18446744073709551616/\∃d q j,iI b d q j/\∀w',aA w'->Y 265 #[.int .u64 x,.int .i64 ((L:Int)-1138)] w' (O (.tuple #[.int .u64 d,.int .i64 q]) w'):=by
 obtain⟨z,t⟩:∃z,64-L=z:=⟨_,rfl⟩;rw[t]at hx;obtain⟨P,a⟩:∃P,2^(z-1)=P:=⟨_,rfl⟩;have u:2^z=2*P:=by{rw[<-a,bo,<-bz];congr 1;omega};have J:0<P:=by{rw[<-a];exact ay _};have K:x+2*P<=18446744073709551616:=by{have:=au (2^z) (show b+1<=2^L from w);rw[<-ap,show L+z=64 by omega,bb,da,hx,u]at this;exact this};have r:9223372036854775808<=x:=by{have:=au (2^z) v;rw[<-ap,show L-1+z=63 by omega,hx]at this;exact this};refine⟨by omega,?_⟩;obtain⟨y,g,M,N,A,B,C⟩:=aGD 0 (by omega);have n:=aSr;obtain⟨i,hi⟩:=ex (iR 0);rw[<-hi]at y g A B C n;obtain⟨s,f⟩:∃s:Nat,-((L:Int)-1138+lpI i+3)=s:=⟨(-((L:Int)-1138+lpI i+3)).toNat,by omega⟩;obtain⟨d,q,j,e,c⟩:=aEz b 0 z i s (b%2) _ _ _ ((L:Int)-1138) (by omega) k (by omega) (.inr rfl) (by omega) (by rw[hx];omega) (by unfold aQ;omega) hi (by omega) f rfl rfl rfl rfl;rw[i8,be]at c;refine⟨d,q,j,c,fun w' h=>?_⟩;rw[hx]at e;obtain⟨l,m⟩:=aDe i (by omega);have p:-(((L:Int)-1138+z)*78913 / 262144)=(i:Int)-348:=by{rw[g];congr 2;omega};have o:x / 2^z%2=b%2:=by{rw[<-hx,Nat.mul_div_cancel _ (ay _)]};have:=aLK x z _ _ ((L:Int)-1138) (lpI i) i s _ _ _ _ _ _ _ _ _ w' h (by omega) (by omega) (by omega) r (by omega) rfl rfl (by rw[a];omega) p (by omega) rfl f (by omega) o rfl rfl rfl rfl rfl rfl rfl rfl l m;rw[e]at this;exact this
theorem aMZ (b:Nat)(e:1<=b)(n:b<aQ):∃d q j,iI b d q j/\nZ b (fN (dG d) ((Lib.nDigits d:Int)+q-1)):=by
 have r:b<9218868437227405312:=n;by_cases l:b<4503599627370496;{obtain⟨L,hL,L1,_,l1,o⟩:=tH b e (by omega);have k:L<=52:=by{refine fo fun h=>?_;have:2^52<=2^(L-1):=cc (by decide) (by omega);have p:(2:Nat)^52=4503599627370496:=by{decide};omega};obtain⟨hx,d,q,j,hA,f⟩:=aMz b L _ e l L1 k l1 o rfl;have j1:=hA.idx;have j2:=hA.j1;have j3:=hA.j2;refine⟨d,q,j,hA,?_⟩;intro w B a c S g T i;exact aM0 w B a c S b L _ d q g T e l hL L1 k rfl hx i f hA.pos (lx hA.lt (by decide)) (by omega) (by omega)};{obtain⟨d,q,j,hA,f⟩:=aG6 (b / 4503599627370496) (b%4503599627370496) (by omega) (by omega) (by omega);have m:b / 4503599627370496*4503599627370496+b%4503599627370496=b:=by{omega};rw[m]at hA;have j1:=hA.idx;have j2:=hA.j1;have j3:=hA.j2;refine⟨d,q,j,hA,?_⟩;intro w B a c S g T i;exact aHg w B a c S b (b / 4503599627370496) (b%4503599627370496) d q g T (by omega) rfl rfl (by omega) (by omega) (by omega) i f hA.pos (lx hA.lt (by decide)) (by omega) (by omega)}
open Go.RowKit
theorem zD (b:Nat):sgn false+b=b:=by simp[sgn]
theorem aMh (neg:Bool)(b:Nat)(h:b<9223372036854775808):vR (sgn neg+b)=b:=by
 cases neg;{rw[zD];exact aOD b h};{unfold vR;have e:bits .andNot .u64 ((sgn true+b:Nat):Int) 9223372036854775808=(b:Int):=by{have e:=u64_andNot_nat (sgn true+b) 9223372036854775808 (by unfold sgn;rw[ae rfl];omega) (by omega);refine e.trans ?_;congr 1;rw[show 18446744073709551615-9223372036854775808=2^63-1 by decide,jq];have a:(2:Nat)^63=9223372036854775808:=by{decide};rw[a];unfold sgn;rw[ae rfl];omega};rw[e,fh]}
theorem qL (neg:Bool)(b:Nat)(h:b<aQ):nS (sgn neg+b)=false:=by
 have c:b<9218868437227405312:=h;unfold nS;rw[aMh neg b (by omega)];obtain⟨c1,k1⟩:=mG false b h;obtain⟨c2,k2⟩:=mG false 9218868437227405311 (by unfold aQ;omega);rw[zD]at c1 k1 c2 k2;cases hh:FloatKind.f64.format.order b 9218868437227405311==some .gt with|false=>rfl|true=>{have a:=((aF3 b 9218868437227405311).1 hh).2;rw[c1,c2,k1,k2]at a;have v:=qV b 9218868437227405311 (by omega);simp only[f9,gc]at a;unfold kO at a;(repeat' split at a);all_goals omega}
theorem aAB (neg:Bool)(b:Nat)(h:b<aQ):(FloatKind.f64.format.order (sgn neg+b) (sgn neg+b)==some .eq)=true:=by
 obtain⟨c1,_⟩:=mG neg b h;exact(aCu _ _).2 ⟨⟨by omega,by omega⟩,by simp[kO]⟩
theorem aOy:aV 0=0:=by decide
theorem aDU (neg:Bool)(b:Nat)(h:b<aQ)(c:1<=b):(FloatKind.f64.format.order (sgn neg+b) 0==some .eq)=false:=by
 obtain⟨c1,k1⟩:=mG neg b h;have v:=jP 0 b c;rw[aOy]at v;cases hh:FloatKind.f64.format.order (sgn neg+b) 0==some .eq with|false=>rfl|true=>{have a:=((aCu _ _).1 hh).2;rw[c1,aAX,k1,aDS]at a;unfold kO at a;cases neg<;>simp at a<;>(repeat' split at a)<;>omega}
theorem aDT (neg:Bool)(b:Nat)(h:b<aQ)(d:1<=b):(FloatKind.f64.format.order (sgn neg+b) 0==some .lt)=neg:=by
 obtain⟨c1,k1⟩:=mG neg b h;have v:=jP 0 b d;rw[aOy]at v;have c:=aKW (sgn neg+b) 0;unfold ltF at c;cases neg;{cases hh:FloatKind.f64.format.order (sgn false+b) 0==some .lt with|false=>rfl|true=>{have a:=(c.1 hh).2;rw[c1,aAX,k1,aDS]at a;unfold kO at a;simp at a;(repeat' split at a)<;>omega}};{refine c.2 ⟨⟨by omega,by rw[aAX];omega⟩,?_⟩;rw[c1,aAX,k1,aDS];unfold kO;simp;omega}
theorem aLi (b:Nat)(h:b<aQ)(f:1<=b):xO b:=by
 have a:=aAB false b h;have c:=qL false b h;have d:=aDU false b h f;have e:=aDT false b h f;rw[zD]at a c d e;exact⟨by simp[bne,a],c,d,e⟩
def aA7 (D:U)(x:Int):U :=
 if (D.length:Int)<=x+1/\x+1<=21 then D++List.replicate (x+1-D.length).toNat 48
 else if 1<=x+1/\x+1<=21 then D.take (x+1).toNat++[46]++D.drop (x+1).toNat
 else if -5<=x+1/\x+1<=0 then [48,46]++List.replicate (-(x+1)).toNat 48++D
 else cV D++(if 0<x+1 then [101,43]++Lib.itoa x else [101,45]++Lib.itoa (-x))
theorem aLm (b:Nat)(D:U)(x:Int)(w:H)(T:aA w)(h:xO b)(j:1<=D.length)(i:D.length<=20)(hd:∀c∈D,aI c=true)(x0:-900<x)(x1:x<900)(a:nZ b (fN D x)) :
  Y 63 #[.float .f64 b] w (O (.string ⟨(aA7 D x).toArray⟩) w):=by
 have g:=aGu D x j (by omega) hd (by omega) (by omega);unfold aA7;by_cases c1:(D.length:Int)<=x+1/\x+1<=21;{rw[ae c1];exact aHq b _ _ _ D x w T a g h c1.1 c1.2}
 ·rw[ac c1];by_cases c2:1<=x+1/\x+1<=21;{rw[ae c2];exact aHp b _ _ _ D x w T a g h (by omega) c2.1 c2.2 (by omega)}
  ·rw[ac c2];by_cases c3:-5<=x+1/\x+1<=0;{rw[ae c3];exact aI5 b _ _ _ D x w T a g h (by omega) j c3.2 c3.1}
   ·rw[ac c3];match D,j,i,hd,a,g with
    | [d],_,_,_,a,g =>
     by_cases c4:0<x+1
     ·rw[ae c4];exact aE5 b _ _ _ d x w T a g h (by omega)
     ·rw[ac c4];exact aE4 b _ _ _ d x w T a g h (by omega)
    | d :: f :: D,_,i,_,a,g =>
     by_cases c4:0<x+1
     ·rw[ae c4];have:=aDX b _ _ _ _ d (f :: D) x w T a g h (by omega) rfl (by simp) (by simp at i ⊢;omega);have e:cV (d :: f :: D)++([101,43]++Lib.itoa x)=d :: 46 :: (f :: D)++[101,43]++Lib.itoa x:=by simp[cV]
      rw[e];exact this
     ·rw[ac c4];have:=aDW b _ _ _ _ d (f :: D) x w T a g h (by omega) rfl (by simp) (by simp at i ⊢;omega);have e:cV (d :: f :: D)++([101,45]++Lib.itoa (-x))=d :: 46 :: (f :: D)++[101,45]++Lib.itoa (-x):=by simp[cV]
      rw[e];exact this
theorem aI4 (b:Nat)(c:1<=b)(e:b<aQ):∃d q j,iI b d q j/\∀w,aA w->Y 63 #[.float .f64 b] w (O (.string ⟨(aA7 (dG d) ((Lib.nDigits d:Int)+q-1)).toArray⟩) w):=by
 obtain⟨d,q,j,a,f⟩:=aMZ b c e;have j1:=a.idx;have j2:=a.j1;have j3:=a.j2;have n1:=gf d;have i:=iV d (lx a.lt (by decide));obtain⟨g,h⟩:=aBF d a.pos;exact⟨d,q,j,a,fun w T=>aLm b (dG d) _ w T (aLi b e c) g (by omega) (aBE d) (by omega) (by omega) f⟩
theorem aGk (b:Nat)(f:b<aQ):Op.negFloat .f64 (sgn true+b)=b:=by
 have h:b<9218868437227405312:=f;have c:sgn true+b=9223372036854775808+b:=by{simp[sgn]};show(sgn true+b) ^^^ 2^(FloatKind.f64.format.exponentBits+FloatKind.f64.format.fractionBits)=_;have e:FloatKind.f64.format.exponentBits+FloatKind.f64.format.fractionBits=63:=by{kernel_rfl};rw[e,c];have d:=vg (a:=9223372036854775808+b) (b:=2^63) (n:=63);have r:=vi (a:=9223372036854775808+b) (b:=2^63) (n:=63);have g:(2:Nat)^63=9223372036854775808:=by{decide};rw[g]at d r ⊢;rw[show(9223372036854775808+b) / 9223372036854775808=1 by omega,tf (by decide),Nat.xor_self]at d;rw[show(9223372036854775808+b)%9223372036854775808=b by omega,tg,Nat.xor_zero]at r;omega
theorem aLl (b:Nat)(txt:U)(u:txt.length<=1000)(i:1<=b)(a:b<aQ)(w:H)(T:aA w)(j:∀w,aA w->Y 63 #[.float .f64 b] w (O (.string ⟨txt.toArray⟩) w)) :
  Y 63 #[.float .f64 (9223372036854775808+b:Nat)] w (O (.string ⟨(45 :: txt).toArray⟩) w):=by
 have t:b<9218868437227405312:=a;have g:sgn true+b=9223372036854775808+b:=by{simp[sgn]};have d:=aAB true b a;have h:=qL true b a;have q:=aDU true b a i;have r:=aDT true b a i;have s:=aGk b a;rw[<-g];have p:(FloatKind.f64.format.order (sgn true+b) (sgn true+b) !=some .eq)=false:=by{simp[bne,d]};have un:=iE;have c:=fun w=>iT (sgn true+b) false w h;obtain⟨x,hx⟩:∃x,sgn true+b=x:=⟨_,rfl⟩;rw[hx]at d p q r s c ⊢;have l:=Z c;have m:=Z j;have n:=Z T;clear j T c hx g h d;go_enter Tryz.func63,Tryz.ntmps63;go_wp2_with (go_at_call 67;((with_reducible refine(l.o _).mono ?_);rintro e w' ⟨rfl,rfl⟩));refine(m.o _ n.o).mono ?_;rintro e v ⟨rfl,f⟩;have k:=Z f;clear f;go_wp2;go_ret;refine⟨jN ?_,k.o⟩;simp
open Go.RowKit Go.Sort
def aBa:Array Value:=#[Value.int .u8 0,Value.int .u8 0,Value.int .u8 0,Value.int .u8 0,Value.int .u8 0,Value.int .u8 0,Value.int .u8 0,Value.int .u8 0,Value.int .u8 0,Value.int .u8 0,Value.int .u8 0,Value.int .u8 0,Value.int .u8 0,Value.int .u8 0,Value.int .u8 0,Value.int .u8 0,Value.int .u8 0,Value.int .u8 0,Value.int .u8 0,Value.int .u8 0,Value.int .u8 0,Value.int .u8 0,Value.int .u8 0,Value.int .u8 0]
theorem aJR:aBa=Array.replicate 24 (.int .u8 0):=rfl
theorem aPl (w:H)(T:TypeId):Holds (fun(b:UInt8)=>Value.int .u8 (b.toNat:Int)) (w.alloc (.cells aBa T)) w.heap.size 0 (Array.replicate 24 (0:UInt8)):=fun j a=>by
 have c:j<24:=by simpa using a
 refine⟨?_,vw _ _ _ _⟩;rw[vx,im _ j a];rw[aJR];simp[c]
def aJT (b x:Nat)(ee:Int):Prop :=
 (b<4503599627370496/\∃L,Lib.bitLen b=L/\1<=L/\L<=52/\b*2^(64-L)=x/\ee=(L:Int)-1138) \/
 (4503599627370496<=b/\(4503599627370496+b%4503599627370496)*2048=x/\ee=((b / 4503599627370496:Nat):Int)-1086)
theorem aIR (w:H)(B:Nat)(X:Option Addr)(c:Nat)(S:Nat->Prop)(b x k d:Nat)(y p:Int)(hO:Out w w B S X c [])(T:aA w)
  (a2:1<=b) (hb:b<9218868437227405312) (a5:x<18446744073709551616) (hc:aJT b x y) (hS:∀k,S k->k<w.heap.size)
  (FC:∀w',aA w'->Y 261 #[.int .u64 x,.int .i64 y,.int .i64 ((k:Int)+1),.int .i64 k,.int .u8 101] w' (O (.tuple #[.int .u64 d,.int .i64 p]) w'))
  (a9:k<=16) (m:Lib.nDigits d=k+1) (D:1<=d) (hd:d<18446744073709551616) (p1:-900<=p) (p2:p<=900) :
  Y 228 #[.slice X 0 c,.float .f64 b,.int .u8 101,.int .i64 k] w (wG w B S (fN (Lib.decDigits d) ((k:Int)+p))):=by
 have cz:¬(k:Int)<0:=by{omega};have c0:(0:Int)<(k:Int)+1:=by{omega};have c1:(k:Int)+1<=18:=by{omega};have cw:((d:Int) !=0)=true:=by{rw[db];omega};have cr:=aFQ;have c2:=T.opt;have cp:=iV d hd;have R:=fun(w:H) (h:Lib.TabIs Tryz.prog w "internal/strconv.uint64pow10" .u64 Lib.pow10Tab)=>Tryz.internal_strconv_numDigits d D hd w h;rw[m]at R;have ci:=zG d D;have cj:cL (Lib.decDigits d)<=k+1:=by{have:=kH (Lib.decDigits d);rw[eo,m]at this;exact this};obtain⟨t,ht⟩:∃t,cL (Lib.decDigits d)=t+1:=⟨cL (Lib.decDigits d)-1,by omega⟩;obtain⟨z,hz⟩:∃z,k=t+z:=⟨k-t,by omega⟩;have a6:(k:Int)=(t:Int)+(z:Int):=by{omega};have ad:=aEc d;have ah:(dG d).length=t+1:=by{unfold dG;rw[br,ht,eo];omega};rw[ah,m,show k+1-(t+1)=z by omega]at ad;have bd:=Z ad;have bf:=Z ah;have HN:=Z m;have bs:=Z R;have N:=Z ht;have HZ:=Z a6;have bl:=Z a9;have HO:=Z hO;have HT:=Z T;have bh:=Z FC;have b1:=Z hS;have v:G (-900<=p/\p<=900):=⟨p1,p2⟩;have HD:G (1<=d/\d<18446744073709551616):=⟨D,hd⟩;have b3:G (t<=k):=Z (by omega);have g4:((b:Int) / 9223372036854775808 !=0)=false:=ir.2 (by omega);clear hO T FC hS ad ah m R ht ci cj hz a6 a9 cp p1 p2 D hd;rcases hc with⟨ab,L,hL,L1,L2,hx,j⟩|⟨ab,hx,j⟩;case' inl =>have b4:bits .and .i64 (0:Int) 2047=0:=wL 0 (by omega);have V:=aFl b (by omega);rw[l9 ab]at V;have g3:(b:Int) / 4503599627370496=0:=by{omega};have g5:((b:Int)==0)=false:=ai.2 (by omega);have s:=Z (fun w=>aCO b L w (by omega) hL);have P:G (IntKind.u64.wrap ((b:Int)*2^(64-L))=(x:Int)):=by{show _=_;rw[dV,<-hx];have:((b*2^(64-L):Nat):Int)=(b:Int)*2^(64-L):=by{push_cast;rfl};rw[<-this];omega};have K:G ((-1022:Int)-(64-(L:Int))-52=y):=Z (by omega);clear hx j hL a5 hb a2;go_enter Tryz.func228,Tryz.ntmps228;go_wp2_with fail;go_quiet (fail);go_wp2_with (go_at_call 191;((with_reducible refine(s.o _).mono ?_);rintro e w' ⟨rfl,rfl⟩));rw[P.o,K.o]
 case' inr =>obtain⟨E,hE⟩:∃E,b / 4503599627370496=E:=⟨_,rfl⟩;obtain⟨f,hf⟩:∃f,b%4503599627370496=f:=⟨_,rfl⟩;have f1:f<4503599627370496:=by{omega};have E1:1<=E:=by{omega};have E2:E<=2046:=by{omega};have b4:=wL E (by omega);have V:=aFl b (by omega);rw[hf]at V;have b5:=aRz f f1;have g1:((E:Int)==2047)=false:=ai.2 (by omega);have g2:((E:Int)==0)=false:=ai.2 (by omega);have g3:(b:Int) / 4503599627370496=E:=by{omega};have s:=Z (fun w=>aOp f w f1);obtain⟨M,hM⟩:=ex (4503599627370496+f);rw[<-hM]at b5 s;have g5:((M:Int)==0)=false:=ai.2 (by omega);have m2:M<9007199254740992:=by{omega};rw[hf,<-hM]at hx;rw[hE]at j;have P:G ((M:Int)*2048=(x:Int)):=Z (by omega);have K:G ((E:Int)+-1023-11-52=y):=Z (by omega);clear hx j hE hf hM f1 E1 a5 hb a2 ab;go_enter Tryz.func228,Tryz.ntmps228;go_wp2_with fail;go_quiet (fail);go_wp2_with (go_at_call 191;((with_reducible refine(s.o _).mono ?_);rintro e w' ⟨rfl,rfl⟩));rw[P.o,K.o]
 all_goals
  obtain⟨g,q⟩:=ex w.heap.size
  obtain⟨W,n⟩:=ex ((w.drewN nq).alloc (.cells aBa 214))
  have bW:Below w.heap.size w W:=by rw[n];exact((aj w.heap.size w).trans ⟨rfl,rfl,rfl,ag _,fun _ _=>rfl⟩:Below w.heap.size w (w.drewN nq)).alloc oL _
  have sW:W.heap.size=g+1:=by rw[n,q];simp
  have hH:Holds (fun(b:UInt8)=>Value.int .u8 (b.toNat:Int)) W g 0 (Array.replicate 24 (0:UInt8)):=by rw[n,q];exact aPl (w.drewN nq) 214
  have TW:=HT.o.below bW oL;have aa:=n;unfold aBa at aa;rw[<-aa,<-q];clear n aa;refine(bh.o W TW).mono ?_;rintro e1 J ⟨rfl,r⟩;have bk:=Z (Holds.below hH r (by omega));have al:=Z (bW.trans (r.mono (by omega)));have c3:g<J.heap.size:=by have:=r.size;omega
  have b2:=Z (HT.o.below al.o oL);have an:=Z q;clear q hH r TW bW sW;go_wp2_with fail
  obtain⟨C,A⟩:∃C:H->Prop,∀u,C u:=⟨fun _=>True,fun _=>trivial⟩
  haveI:Nonempty (WIn C):=⟨⟨J,A _⟩⟩
  refine gF 10 [([0,1,2,3],4),([],5)] [6,7,8,9] C (by kernel_rfl) (by kernel_rfl) (A _) ?_;refine bT (fun l a=>?_);simp only[pick,pickZ,pickS,pickG];repeat (go_big_quiet_step (fail))
  refine am (a _ (fun Q1 a0=>?_));clear a l;simp only[pick,pickZ,pickS,pickG];go_wp2_with fail
  refine(bs.o _ (b2.o.drewN 1).u10).mono ?_;rintro e w3 ⟨rfl,cm⟩;subst cm;go_wp2_with fail
  refine a0 _ _ (A _) (bT (fun l a=>am (a _ (fun Q2 a1=>?_))));clear a l a0 Q1;simp only[pick,pickZ,pickS,pickG];go_wp2_with fail
  refine(zN g d 24 p (k+1) (J.drewN 1) (Holds.drewN bk.o 1) (by omega) HD.o.1 HD.o.2 HN.o (by have:=v.o;omega) (by have:=v.o;omega)).mono ?_;rintro e w3 ⟨rfl,S3,K3⟩;have b0:=Z S3;have ao:=Z K3;clear S3 K3;go_wp2_with fail
  refine a1 _ _ (A _) (iH (fun l a=>?_));clear a1 Q2;simp only[pick,pickZ,pickS,pickG];repeat (go_big_quiet_step (fail))
  refine am (a _ (fun Q3 cs=>?_));clear a l;simp only[dj,dt];go_wp2_with fail
  rw[N.o];have Q:aG (fun i=>w.heap.size<=i) w w3:=(aG.of_below al.o).trans ((((aG.refl (· = g) J).drewN 1).trans ao.o).mono (fun i _ e=>by have:=an.o;omega));have ar:aG (fun _=>False) w w3:=Q.mono (fun i hi e=>by omega);have O3:=HO.o.later Q;have av:IsB w3 (some ⟨g,0,none⟩) ((Lib.decDigits d).take (t+1)):=b0.o.take (t+1);have a4:((Lib.decDigits d).take (t+1)).length=t+1:=by
   have:=bf.o;unfold dG at this;rwa[N.o]at this
  have a7:g<w3.heap.size:=by have:=ao.o.size;simp at this;omega
  have cb:=v.o.1;have cd:=v.o.2;have ca:=bl.o;have ck:=b3.o;have a8:=HZ.o;have a3:¬S g:=fun e=>by have:=b1.o g e;have:=an.o;omega
  have F:=aOl w3 B g t z 24 X c S _ (((k+1:Nat):Int)+p) false O3 av a3 a7 a4 (by omega) (by omega) (by omega) (by omega) (by omega);rw[<-a8]at F
  have bj:=Z F;have bq:=Z ar;clear F Q ar O3 av a4 a7 a3 a8 ck ca cb cd;refine bj.o.mono ?_;rintro e w4 ⟨b6,c4,rfl,O4⟩;have bx:=Z O4;clear O4;go_wp2
  go_ret;have j:Lib.decDigits d=(Lib.decDigits d).take (t+1)++List.replicate z 48:=by
   have:=bd.o;unfold dG at this;rw[N.o]at this
   exact this.symm
  have hq:((k+1:Nat):Int)+p-1=(k:Int)+p:=by omega
  refine⟨b6,c4,?_,?_⟩
  ·rw[<-hq];conv=>rhs;rw[j]
   rfl
  ·have:=Out.first bq.o bx.o;rw[hq,<-j]at this
   exact this
