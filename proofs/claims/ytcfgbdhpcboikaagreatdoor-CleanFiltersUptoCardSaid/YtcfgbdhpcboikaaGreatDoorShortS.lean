/-
shortFloat at the least normal float.
-/
import Derived.Test.YtcfgbdhpcboikaaGreatDoorAtofW
namespace Go.Proofs.YtcfgbdhpcboikaaGreatDoor
set_option maxHeartbeats 4000000
set_option maxRecDepth 100000
open Go.RowKit
theorem nC {n:Nat}:n<=n:=ah n
theorem aGK (m:Nat)(e M:Int)(i s odd D C B t r a dmax l:Nat)(w:H)(T:aA w)(a3:-1085<=e)(a4:e<=-1085)(a6:9223372036854775808<=m)(a7:m<=9223372036854775808)
  (hp:-((e+11)*78913 / 262144)=(i:Int)-348) (hi:i<696) (a5:((i:Int)-348)*108853 / 32768=M) (hs:-(e+M+3)=s) (L:s<64) (K:m / 2048%2=odd)
  (y:cJ (m-1024) (aJ i) (aR i) s=D) (z:cJ (m+1024) (aJ i) (aR i) s=C) (A:cJ m (aJ i) (aR i) s=B)
  (N:eZ D odd=t) (P:eZ C (-(odd:Int))=r) (k1:qW t=a) (k2:r / 4=dmax) (k3:fW B=l) (j:aJ i<18446744073709551616) (k:aR i<18446744073709551616) :
  Y 265 #[.int .u64 m,.int .i64 e] w (O (.tuple #[.int .u64 (bF a dmax l ((i:Int)-348)).1,.int .i64 (bF a dmax l ((i:Int)-348)).2]) w):=by
 have v:=fun(w:H) b o c d f=>dI (m-1024) (aJ i) (aR i) s w b o c d f (by omega) j k L;have x:=fun(w:H) b o c d f=>dI (m+1024) (aJ i) (aR i) s w b o c d f (by omega) j k L;have F:=fun(w:H) b o c d f=>dI m (aJ i) (aR i) s w b o c d f (by omega) j k L;rw[y]at v;rw[z]at x;rw[A]at F;have em:((m-1024:Nat):Int)=(m:Int)-1024:=by{omega};have ep:((m+1024:Nat):Int)=(m:Int)+1024:=by{omega};rw[em]at v;rw[ep]at x;have ha:=vR (m / 2048) (by omega);have e5:((m / 2048:Nat):Int)=(m:Int) / 2048:=by{omega};rw[K,e5]at ha;have a9:odd<=1:=by{omega};have j1:t<18446744073709551616:=by{rw[<-N];exact jO _ _};have j2:r<18446744073709551616:=by{rw[<-P];exact jO _ _};have j3:dmax<18446744073709551616:=by{omega};have V:=fun w=>lF D t odd w (by rw[<-y];exact cL _ _ _ _ (by omega) j k) N;have W:=fun w=>lF C r (-(odd:Int)) w (by rw[<-z];exact cL _ _ _ _ (by omega) j k) P;have R:=fun w=>aAa t a w j1 k1;have F1:=fun w=>wB r dmax w j2 k2;have X:=fun w=>nL B l w (by rw[<-A];exact cL _ _ _ _ (by omega) j k) k3;have l1:D<18446744073709551616:=by{rw[<-y];exact cL _ _ _ _ (by omega) j k};have l2:C<18446744073709551616:=by{rw[<-z];exact cL _ _ _ _ (by omega) j k};have l3:B<18446744073709551616:=by{rw[<-A];exact cL _ _ _ _ (by omega) j k};have ao:=Z v;have av:=Z x;have aw:=Z F;have S:=Z T;have HS:=Z hs;have HO:=Z K;have ad:=Z V;have al:=Z W;have ab:=Z R;have ac:=Z F1;have an:=Z X;clear v x F y z A j k T hs K V W R F1 X N P k1 k2 k3 em ep e5;have a8:((m:Int)==9223372036854775808)=true:=cn.2 (by omega);go_enter Tryz.func265,Tryz.ntmps265
 go_wp2_with (first
  | (go_at_call 260;refine(tM _ _ (by omega) (by omega)).mono ?_;rintro e w' ⟨rfl,rfl⟩)
  | (go_at_call 272;refine(nJ _ _ (by omega) (by omega)).mono ?_;rintro e w' ⟨rfl,rfl⟩))
 have T1:aA (w.alloc (.cells #[.int .u64 0,.int .u64 0,.int .i64 0] 265)):=S.o.below ((am w.heap.size w).alloc nC _) nC;have hg:=cc w (.cells #[.int .u64 0,.int .u64 0,.int .i64 0] 265);have a0:=S.o.size;refine(gS e M s i _ w.heap.size _ _ _ _ hg rfl hi (by omega) T1 (by omega) (by omega) (by omega) (by omega) HS.o).mono ?_;rintro e1 w1 ⟨rfl,p,u⟩;have a1:w.heap.size<w1.heap.size:=by{have:=u.size;simp at this;omega};have Q:Below w.heap.size w w1:=(((aD.refl (fun _=>False) w).alloc _).trans' u (fun _ _ h=>by omega)).below nC (fun _ _ h=>h.elim);have E:=Z Q;have a2:=Z u;have c:=au w1 w.heap.size 0 _ _ _ p;have d:=au w1 w.heap.size 1 _ _ _ p;have f:=au w1 w.heap.size 2 _ _ _ p;simp at c d f;obtain⟨g,aa⟩:∃g,w.heap.size=g:=⟨_,rfl⟩;rw[aa]at c d f p a1 ⊢
 clear T1 hg u Q aa a0 p;go_wp2_with (first
  | (go_at_call 274;((with_reducible refine(ao.o _ _ _ ?_ ?_ ?_).mono ?_);all_goals first|exact c|exact d|exact f|skip);rintro e w' ⟨rfl,n,rfl⟩)
  | (go_at_call 274;((with_reducible refine(av.o _ _ _ ?_ ?_ ?_).mono ?_);all_goals first|exact c|exact d|exact f|skip);rintro e w' ⟨rfl,n,rfl⟩)
  | (go_at_call 274;((with_reducible refine(aw.o _ _ _ ?_ ?_ ?_).mono ?_);all_goals first|exact c|exact d|exact f|skip);rintro e w' ⟨rfl,n,rfl⟩)
  | (go_at_call 277;((with_reducible refine(an.o _).mono ?_);rintro e w' ⟨rfl,rfl⟩))
  | (go_at_call 283;((with_reducible refine(ad.o _).mono ?_);rintro e w' ⟨rfl,rfl⟩))
  | (go_at_call 283;((with_reducible refine(al.o _).mono ?_);rintro e w' ⟨rfl,rfl⟩))
  | (go_at_call 284;((with_reducible refine(ab.o _).mono ?_);rintro e w' ⟨rfl,rfl⟩))
  | (go_at_call 285;((with_reducible refine(ac.o _).mono ?_);rintro e w' ⟨rfl,rfl⟩)))
 {have q:a<=dmax / 10*10:=by{omega};go_ret2;refine⟨?_,E.o.trans ⟨rfl,rfl,rfl,ah _,fun _ _=>rfl⟩⟩;have e:bF a dmax l ((i:Int)-348)=(dmax / 10,-((i:Int)-348-1)):=by{unfold bF;rw[af q]};rw[e];rfl};{have q:¬a<=dmax / 10*10:=by{omega};have J:a<dmax:=by{assumption};go_ret2;refine⟨?_,E.o.trans ⟨rfl,rfl,rfl,ah _,fun _ _=>rfl⟩⟩;have e:bF a dmax l ((i:Int)-348)=(l,-((i:Int)-348)):=by{unfold bF;rw[ae q,af J]};rw[e];rfl};{have q:¬a<=dmax / 10*10:=by{omega};have J:¬a<dmax:=by{assumption};go_ret2;refine⟨?_,E.o.trans ⟨rfl,rfl,rfl,ah _,fun _ _=>rfl⟩⟩;have e:bF a dmax l ((i:Int)-348)=(a,-((i:Int)-348)):=by{unfold bF;rw[ae q,ae J]};rw[e];rfl}
open Go.RowKit
theorem aIQ (q:Nat)(h:q<9223372036854775808):wrap64 (q:Int)=(q:Int):=by unfold wrap64;omega
theorem aKH (m z t u:Nat)(e lp:Int)(i s odd K J F x v a dmax l:Nat)(w:H)(T:aA w)(bq:-1137<=e)(bs:e < -1085)(ca:11+(-1085-e)=(z:Int))(b1:9223372036854775808<=m)(be:m<18446744073709551616)(ad:m-2^(z-1)=t)(al:m+2^(z-1)=u)(bh:u<18446744073709551616)
  (hp:-((e+z)*78913 / 262144)=(i:Int)-348) (hi:i<696) (b0:((i:Int)-348)*108853 / 32768=lp) (hs:-(e+lp+3)=s) (X:s<64) (D:m / 2^z%2=odd)
  (A:cJ t (aJ i) (aR i) s=K) (B:cJ u (aJ i) (aR i) s=J) (C:cJ m (aJ i) (aR i) s=F)
  (n1:eZ K odd=x) (n2:eZ J (-(odd:Int))=v) (k1:qW x=a) (k2:v / 4=dmax) (k3:fW F=l) (j:aJ i<18446744073709551616) (k:aR i<18446744073709551616) :
  Y 265 #[.int .u64 m,.int .i64 e] w (O (.tuple #[.int .u64 (bF a dmax l ((i:Int)-348)).1,.int .i64 (bF a dmax l ((i:Int)-348)).2]) w):=by
 have av:12<=(z:Int):=by{omega};have b5:(z:Int)<=63:=by{omega};have b2:¬(-1085:Int)<e:=by{omega};have bx:¬(-1085:Int)<=e:=by{omega};obtain⟨M,V⟩:∃P,2^(z-1)=P:=⟨_,rfl⟩;have b4:M<9223372036854775808:=by{have:2^(z-1)<=2^62:=b8 (by decide) (by omega);have bl:(2:Nat)^62=4611686018427387904:=by{decide};omega};have aa:((2:Int)^(z-1))=(M:Int):=by{rw[<-V,Int.natCast_pow];rfl};rw[V]at ad al;have S:IntKind.u64.wrap ((2:Int)^(z-1))=(M:Int):=by{rw[dC,aa];omega};have f1:IntKind.u64.wrap ((m:Int)-IntKind.u64.wrap ((2:Int)^(z-1)))=(t:Int):=by{rw[S,dC];omega};have f2:IntKind.u64.wrap ((m:Int)+IntKind.u64.wrap ((2:Int)^(z-1)))=(u:Int):=by{rw[S,dC];omega};obtain⟨q,E⟩:∃q,m / 2^z=q:=⟨_,rfl⟩;have an:q<9007199254740992:=by{rw[<-E];refine Nat.div_lt_of_lt_mul ?_;have ab:2^12<=2^z:=b8 (by decide) (by omega);have bd:(2:Nat)^12=4096:=by{decide};rw[bd]at ab;have:=ap 9007199254740992 ab;refine dj be (bg ?_ this);decide};have e3:(q:Int)=(m:Int) / 2^z:=by{rw[<-E,m8,Int.natCast_pow];rfl};rw[E]at D;have e4:wrap64 (q:Int)=(q:Int):=aIQ q (by clear e3;omega);have ao:q<9223372036854775808:=ld an (by decide);have e5:=vR q ao;rw[D]at e5;have f3:bits .and .i64 (wrap64 ((m:Int) / 2^z)) 1=(odd:Int):=by{rw[<-e3,e4,e5]};have a1:=Z f1;have a2:=Z f2;have a3:=Z f3;clear e3 e4 e5 E an ao f1 f2 f3;have b3:odd<=1:=by{omega};have bf:t<18446744073709551616:=by{omega};have N:=fun(w:H) b o c d f=>dI t (aJ i) (aR i) s w b o c d f bf j k X;have Q:=fun(w:H) b o c d f=>dI u (aJ i) (aR i) s w b o c d f bh j k X;have R:=fun(w:H) b o c d f=>dI m (aJ i) (aR i) s w b o c d f (by omega) j k X;rw[A]at N;rw[B]at Q;rw[C]at R;have j1:x<18446744073709551616:=by{rw[<-n1];exact jO _ _};have j2:v<18446744073709551616:=by{rw[<-n2];exact jO _ _};have j3:dmax<18446744073709551616:=by{omega};have N1:=fun w=>lF K x odd w (by rw[<-A];exact cL _ _ _ _ (by omega) j k) n1;have N2:=fun w=>lF J v (-(odd:Int)) w (by rw[<-B];exact cL _ _ _ _ (by omega) j k) n2;have C1:=fun w=>aAa x a w j1 k1;have F1:=fun w=>wB v dmax w j2 k2;have R1:=fun w=>nL F l w (by rw[<-C];exact cL _ _ _ _ (by omega) j k) k3;have l1:K<18446744073709551616:=by{rw[<-A];exact cL _ _ _ _ (by omega) j k};have l2:J<18446744073709551616:=by{rw[<-B];exact cL _ _ _ _ (by omega) j k};have l3:F<18446744073709551616:=by rw[<-C];exact cL _ _ _ _ (by omega) j k
 have a7:=Z N;have a8:=Z Q;have a9:=Z R;have HT:=Z T;have HS:=Z hs;have HO:=Z D;have a4:=Z N1;have a5:=Z N2;have aw:=Z C1;have a0:=Z F1;have a6:=Z R1;clear N Q R A B C j k T hs D N1 N2 C1 F1 R1 n1 n2 k1 k2 k3 S aa ad al V;cases hq:((m:Int)==9223372036854775808);all_goals
  go_enter Tryz.func265,Tryz.ntmps265
  go_wp2_with (first
   | (go_at_call 260;refine(tM _ _ (by omega) (by omega)).mono ?_;rintro e w' ⟨rfl,rfl⟩)
   | (go_at_call 272;refine(nJ _ _ (by omega) (by omega)).mono ?_;rintro e w' ⟨rfl,rfl⟩))
  rw[a1.o,a2.o,a3.o];have T1:aA (w.alloc (.cells #[.int .u64 0,.int .u64 0,.int .i64 0] 265)):=HT.o.below ((am w.heap.size w).alloc nC _) nC;have hg:=cc w (.cells #[.int .u64 0,.int .u64 0,.int .i64 0] 265);have bj:=HT.o.size;refine(gS e lp s i _ w.heap.size _ _ _ _ hg rfl hi (by omega) T1 (by omega) (by omega) (by omega) (by omega) HS.o).mono ?_;rintro e1 w1 ⟨rfl,p,y⟩;have av:w.heap.size<w1.heap.size:=by have:=y.size;simp at this;omega
  have B1:Below w.heap.size w w1:=(((aD.refl (fun _=>False) w).alloc _).trans' y (fun _ _ h=>by omega)).below nC (fun _ _ h=>h.elim);have L:=Z B1;have bk:=Z y;have c:=au w1 w.heap.size 0 _ _ _ p;have d:=au w1 w.heap.size 1 _ _ _ p;have f:=au w1 w.heap.size 2 _ _ _ p;simp at c d f;obtain⟨g,ac⟩:∃g,w.heap.size=g:=⟨_,rfl⟩
  rw[ac]at c d f p av ⊢
  clear T1 hg y B1 ac bj p;go_wp2_with (first
   | (go_at_call 274;((with_reducible refine(a7.o _ _ _ ?_ ?_ ?_).mono ?_);all_goals first|exact c|exact d|exact f|skip);rintro e w' ⟨rfl,n,rfl⟩)
   | (go_at_call 274;((with_reducible refine(a8.o _ _ _ ?_ ?_ ?_).mono ?_);all_goals first|exact c|exact d|exact f|skip);rintro e w' ⟨rfl,n,rfl⟩)
   | (go_at_call 274;((with_reducible refine(a9.o _ _ _ ?_ ?_ ?_).mono ?_);all_goals first|exact c|exact d|exact f|skip);rintro e w' ⟨rfl,n,rfl⟩)
   | (go_at_call 277;((with_reducible refine(a6.o _).mono ?_);rintro e w' ⟨rfl,rfl⟩))
   | (go_at_call 283;((with_reducible refine(a4.o _).mono ?_);rintro e w' ⟨rfl,rfl⟩))
   | (go_at_call 283;((with_reducible refine(a5.o _).mono ?_);rintro e w' ⟨rfl,rfl⟩))
   | (go_at_call 284;((with_reducible refine(aw.o _).mono ?_);rintro e w' ⟨rfl,rfl⟩))
   | (go_at_call 285;((with_reducible refine(a0.o _).mono ?_);rintro e w' ⟨rfl,rfl⟩)))
  ·have r:a<=dmax / 10*10:=by omega
   go_ret2;refine⟨?_,L.o.trans ⟨rfl,rfl,rfl,ah _,fun _ _=>rfl⟩⟩;have e:bF a dmax l ((i:Int)-348)=(dmax / 10,-((i:Int)-348-1)):=by unfold bF;rw[af r]
   rw[e];rfl
  ·have r:¬a<=dmax / 10*10:=by omega
   have W:a<dmax:=by assumption
   go_ret2;refine⟨?_,L.o.trans ⟨rfl,rfl,rfl,ah _,fun _ _=>rfl⟩⟩;have e:bF a dmax l ((i:Int)-348)=(l,-((i:Int)-348)):=by unfold bF;rw[ae r,af W]
   rw[e];rfl
  ·have r:¬a<=dmax / 10*10:=by omega
   have W:¬a<dmax:=by assumption
   go_ret2;refine⟨?_,L.o.trans ⟨rfl,rfl,rfl,ah _,fun _ _=>rfl⟩⟩;have e:bF a dmax l ((i:Int)-348)=(a,-((i:Int)-348)):=by unfold bF;rw[ae r,ae W]
   rw[e];rfl
open Go.RowKit Go.Sort
theorem aL0 (w:H)(B:Nat)(v:Option Addr)(c:Nat)(S:Nat->Prop)(b L x d:Nat)(p:Int)(hO:Out w w B S v c [])(T:aA w)
  (bk:1<=b) (hb:b<4503599627370496) (hL:Lib.bitLen b=L) (L1:1<=L) (L2:L<=52) (hx:b*2^(64-L)=x) (bq:x<18446744073709551616)
  (hS:∀k,S k->k<w.heap.size)
  (V:∀w',aA w'->Y 265 #[.int .u64 x,.int .i64 ((L:Int)-1138)] w' (O (.tuple #[.int .u64 d,.int .i64 p]) w'))
  (D:1<=d) (hd:d<18446744073709551616) (p1:-900<=p) (p2:p<=900) :
  Y 228 #[.slice v 0 c,.float .f64 b,.int .u8 101,.int .i64 (-1)] w (uR w B S (eS ((Lib.decDigits d).take (bT (Lib.decDigits d))) ((Lib.nDigits d:Int)+p-1))):=by
 have bf:bits .and .i64 (0:Int) 2047=0:=uV 0 (by omega);have a4:=aEo b (by omega);rw[lj hb]at a4;have g3:(b:Int) / 4503599627370496=0:=by{omega};have g4:((b:Int) / 9223372036854775808 !=0)=false:=ii.2 (by omega);have g5:((b:Int)==0)=false:=ai.2 (by omega);have Q:=fun w=>aBU b L w (by omega) hL;have HL:=Z Q;have ac:IntKind.u64.wrap ((b:Int)*2^(64-L))=(x:Int):=by{rw[dC,<-hx];have:((b*2^(64-L):Nat):Int)=(b:Int)*2^(64-L):=by{push_cast;rfl};rw[<-this];omega};have a1:=Z ac;have bh:=aEU;have HO:=Z hO;have K:=Z T;have av:=Z V;have aw:=Z hS;clear hO T V hS Q ac hx hL;go_enter Tryz.func228,Tryz.ntmps228;go_wp2_with fail;go_quiet (fail);go_wp2_with (go_at_call 191;((with_reducible refine(HL.o _).mono ?_);rintro e w' ⟨rfl,rfl⟩));obtain⟨g,m⟩:=ex w.heap.size;obtain⟨W,l⟩:=ex ((w.drewN nq).alloc (.cells rW 251));have z:Below w.heap.size w W:=by{rw[l];exact((am w.heap.size w).trans ⟨rfl,rfl,rfl,ah _,fun _ _=>rfl⟩:Below w.heap.size w (w.drewN nq)).alloc nC _};have sW:W.heap.size=g+1:=by{rw[l,m];simp};have hH:Holds (fun(b:UInt8)=>Value.int .u8 (b.toNat:Int)) W g 0 (Array.replicate 32 (0:UInt8)):=by{rw[l,m];exact aG7 (w.drewN nq) 251};have TW:=K.o.below z nC;have A:=l;unfold rW at A;rw[<-A,<-m];clear l A;rw[a1.o,show(-1022:Int)-(64-(L:Int))-52=(L:Int)-1138 by omega];refine(av.o W TW).mono ?_;rintro e1 w2 ⟨rfl,n⟩;have E:Holds (fun(b:UInt8)=>Value.int .u8 (b.toNat:Int)) w2 g 0 (Array.replicate 32 (0:UInt8)):=Holds.below hH n (by omega);have y:Below w.heap.size w w2:=z.trans (n.mono (by omega));have s2:g<w2.heap.size:=by{have:=n.size;omega};have X:=K.o.below y nC;have be:=gR d hd;have n1:=f7 d;obtain⟨N,j⟩:∃N,Lib.nDigits d=N:=⟨_,rfl⟩;rw[j]at be n1;have t:=fun(w:H) (h:Lib.TabIs Tryz.prog w "internal/strconv.uint64pow10" .u64 Lib.pow10Tab)=>Tryz.internal_strconv_numDigits d D hd w h;rw[j]at t;have F:=Z m;clear m;have a7:=wT d D;have a8:bT (Lib.decDigits d)<=N:=by{have:=jA (Lib.decDigits d);rw[dv,j]at this;exact this};obtain⟨k,hk⟩:∃k,bT (Lib.decDigits d)=k+1:=⟨bT (Lib.decDigits d)-1,by omega⟩;have bs:k<=19:=by{omega};have bl:max (k:Int) 0=k:=by{omega};have q:=Z hk;clear a7 a8 hk;have al:=Z E;have ad:=Z y;have a0:=Z X;have s:=Z j;have an:=Z t;clear hH n E y X TW z sW j t;go_wp2_with fail;obtain⟨C,r⟩:∃C:H->Prop,∀u,C u:=⟨fun _=>True,fun _=>trivial⟩;haveI:Nonempty (WIn C):=⟨⟨w2,r _⟩⟩;refine iW 10 [([0,1,2,3],4),([],5)] [6,7,8,9] C (by kernel_rfl) (by kernel_rfl) (r _) ?_;refine cP (fun f a=>?_);simp only[pick,pickZ,pickS,pickG];repeat (go_big_quiet_step (fail))
 refine aq (a _ (fun Q1 aa=>?_));clear a f;simp only[pick,pickZ,pickS,pickG];go_wp2_with fail;refine(an.o _ (a0.o.drewN 1).u10).mono ?_;rintro e w3 ⟨rfl,a9⟩;subst a9;go_wp2_with fail;refine aa _ _ (r _) (cP (fun f a=>aq (a _ (fun Q2 ab=>?_))));clear a f aa Q1;simp only[pick,pickZ,pickS,pickG];go_wp2_with fail;refine(zH g d k p N (w2.drewN 1) (Holds.drewN al.o 1) D hd s.o (by omega) (by omega) q.o).mono ?_;rintro e w3 ⟨rfl,R,P⟩;have ao:=Z R;have J:=Z P;clear R P;go_wp2_with fail;refine ab _ _ (r _) (jP (fun f a=>?_));clear ab Q2;simp only[pick,pickZ,pickS,pickG];repeat (go_big_quiet_step (fail))
 refine aq (a _ (fun Q3 bj=>?_));clear a f;simp only[fo,fq];go_wp2_with fail;have M:aD (fun i=>w.heap.size<=i) w w3:=(aD.of_below ad.o).trans ((((aD.refl (· = g) w2).drewN 1).trans J.o).mono (fun i _ e=>by have:=F.o;omega));have a2:aD (fun _=>False) w w3:=M.mono (fun i hi e=>by omega);have O3:=HO.o.later M;have a3:IsB w3 (some ⟨g,0,none⟩) ((Lib.decDigits d).take (k+1)):=ao.o.take (k+1);have a6:((Lib.decDigits d).take (k+1)).length=k+1:=by{have:=q.o;have:=jA (Lib.decDigits d);rw[bu];omega};have bd:g<w3.heap.size:=by{have:=J.o.size;simp at this;omega};refine(aJB w3 B g k v c S _ ((N:Int)+p) O3 a3 (fun e=>by have:=aw.o g e;have:=F.o;omega) bd a6 (by omega) (by omega) (by omega)).mono ?_;rintro e w4 ⟨a5,c4,rfl,O4⟩;go_wp2;go_ret;refine⟨a5,c4,?_,?_⟩;{rw[q.o,s.o];rfl};{rw[q.o,s.o];exact Out.first a2 O4}
open Go.RowKit
theorem aCk (i:Nat)(h:i<696):aJ i<18446744073709551616/\aR i<18446744073709551616:=⟨(vH i h).1,(vH i h).2.1⟩
theorem aGc (E f:Nat)(w:1<=E)(x:E<=2046)(y:f<4503599627370496) :
  ∃d q j,gJ (E*4503599627370496+f) d q j/\∀w',aA w'->Y 265 #[.int .u64 ((4503599627370496+f)*2048:Nat),.int .i64 ((E:Int)-1086)] w' (O (.tuple #[.int .u64 d,.int .i64 q]) w'):=by
 obtain⟨k,v⟩:∃k,E=k+1:=⟨E-1,by omega⟩;subst v;have t:(k+1)*4503599627370496+f=k*4503599627370496+(4503599627370496+f):=by{omega};rw[t];have o:k*4503599627370496+(4503599627370496+f)<aL:=by{unfold aL;omega};have r:((k+1:Nat):Int)-1086=(k:Int)-1074-11:=by{omega};rw[r];have p:(2:Nat)^11=2048:=by{decide};have p10:(2:Nat)^(11-1)=1024:=by{decide};by_cases u:4503599627370496<4503599627370496+f\/k=0;{obtain⟨l,r2,r3,r4,r5,r6,m⟩:=aFI k (by omega);obtain⟨i,hi⟩:=ex (iR k);rw[<-hi]at l r2 r5 r6 m;obtain⟨s,a⟩:∃s:Nat,-((k:Int)-1074-11+lpI i+3)=s:=⟨(-((k:Int)-1074-11+lpI i+3)).toNat,by omega⟩;obtain⟨d,q,j,hD,hA⟩:=aDB (4503599627370496+f) k 11 i s ((4503599627370496+f)%2) _ _ _ ((k:Int)-1074-11) (by omega) (by omega) (by omega) u (by omega) (by rw[p];omega) o hi (by omega) a rfl rfl rfl rfl;refine⟨d,q,j,hA,fun w' b=>?_⟩;rw[p10,p]at hD;obtain⟨c,e⟩:=aCk i (by omega);have n:(4503599627370496+f)*2048 / 2048%2=(4503599627370496+f)%2:=by{omega};have g:-(((k:Int)-1074-11+11)*78913 / 262144)=(i:Int)-348:=by{rw[r2];congr 2;omega};by_cases h:f=0;{have z:k=0:=by{omega};subst h;have:=aGK ((4503599627370496+0)*2048) ((k:Int)-1074-11) (lpI i) i s _ _ _ _ _ _ _ _ _ w' b (by omega) (by omega) (by omega) (by omega) g (by omega) rfl a (by omega) n rfl rfl rfl rfl rfl rfl rfl rfl c e;rw[hD]at this;exact this};{have:=aFS ((4503599627370496+f)*2048) ((k:Int)-1074-11) (lpI i) i s _ _ _ _ _ _ _ _ _ w' b (by omega) (by omega) (by omega) (by omega) g (by omega) rfl a (by omega) n rfl rfl rfl rfl rfl rfl rfl rfl c e;rw[hD]at this;exact this}};{have h:f=0:=by{omega};subst h;obtain⟨l,r2,r3,r4,r5,r6,m⟩:=aHn k (by omega);obtain⟨i,hi⟩:=ex (iS k);rw[<-hi]at l r2 r5 r6 m;obtain⟨s,a⟩:∃s:Nat,-((k:Int)-1074-11+lpI i+3)=s:=⟨(-((k:Int)-1074-11+lpI i+3)).toNat,by omega⟩;obtain⟨d,q,j,hD,hA⟩:=aIq (4503599627370496+0) k i s _ _ _ ((k:Int)-1074-11) (by omega) (by omega) rfl o hi (by omega) a rfl rfl rfl;refine⟨d,q,j,hA,fun w' b=>?_⟩;obtain⟨c,e⟩:=aCk i (by omega);have g:-((((k:Int)-1074-11+11)*631305-261663) / 2097152)=(i:Int)-348:=by{rw[r2];congr 4;omega};have:=aKG 9223372036854775808 ((k:Int)-1074-11) (lpI i) i s 0 _ _ _ _ _ _ _ _ w' b (by omega) (by omega) rfl g (by omega) rfl a (by omega) (by decide) rfl rfl rfl rfl rfl rfl rfl rfl c e;rw[hD]at this;exact this}
theorem aLy (b L x:Nat)(k:1<=b)(F:b<4503599627370496)(D:1<=L)(E:L<=52)(v:2^(L-1)<=b)(w:b<2^L)(hx:b*2^(64-L)=x) :
  x<18446744073709551616/\∃d q j,gJ b d q j/\∀w',aA w'->Y 265 #[.int .u64 x,.int .i64 ((L:Int)-1138)] w' (O (.tuple #[.int .u64 d,.int .i64 q]) w'):=by
 obtain⟨z,t⟩:∃z,64-L=z:=⟨_,rfl⟩;rw[t]at hx;obtain⟨P,a⟩:∃P,2^(z-1)=P:=⟨_,rfl⟩;have u:2^z=2*P:=by{rw[<-a,bn,<-bz];congr 1;omega};have J:0<P:=by{rw[<-a];exact ar _};have K:x+2*P<=18446744073709551616:=by{have:=ap (2^z) (show b+1<=2^L from w);rw[<-aj,show L+z=64 by omega,ba,cr,hx,u]at this;exact this};have r:9223372036854775808<=x:=by{have:=ap (2^z) v;rw[<-aj,show L-1+z=63 by omega,hx]at this;exact this};refine⟨by omega,?_⟩;obtain⟨y,g,M,N,A,B,C⟩:=aFI 0 (by omega);have n:=aRs;obtain⟨i,hi⟩:=ex (iR 0);rw[<-hi]at y g A B C n;obtain⟨s,f⟩:∃s:Nat,-((L:Int)-1138+lpI i+3)=s:=⟨(-((L:Int)-1138+lpI i+3)).toNat,by omega⟩;obtain⟨d,q,j,e,c⟩:=aDB b 0 z i s (b%2) _ _ _ ((L:Int)-1138) (by omega) k (by omega) (.inr rfl) (by omega) (by rw[hx];omega) (by unfold aL;omega) hi (by omega) f rfl rfl rfl rfl;rw[iy,bw]at c;refine⟨d,q,j,c,fun w' h=>?_⟩;rw[hx]at e;obtain⟨l,m⟩:=aCk i (by omega);have p:-(((L:Int)-1138+z)*78913 / 262144)=(i:Int)-348:=by{rw[g];congr 2;omega};have o:x / 2^z%2=b%2:=by{rw[<-hx,Nat.mul_div_cancel _ (ar _)]};have:=aKH x z _ _ ((L:Int)-1138) (lpI i) i s _ _ _ _ _ _ _ _ _ w' h (by omega) (by omega) (by omega) r (by omega) rfl rfl (by rw[a];omega) p (by omega) rfl f (by omega) o rfl rfl rfl rfl rfl rfl rfl rfl l m;rw[e]at this;exact this
theorem aLZ (b:Nat)(e:1<=b)(n:b<aL):∃d q j,gJ b d q j/\mQ b (eS (cO d) ((Lib.nDigits d:Int)+q-1)):=by
 have r:b<9218868437227405312:=n;by_cases l:b<4503599627370496;{obtain⟨L,hL,L1,_,l1,o⟩:=rK b e (by omega);have k:L<=52:=by{refine ff fun h=>?_;have:2^52<=2^(L-1):=b8 (by decide) (by omega);have p:(2:Nat)^52=4503599627370496:=by{decide};omega};obtain⟨hx,d,q,j,hA,f⟩:=aLy b L _ e l L1 k l1 o rfl;have j1:=hA.idx;have j2:=hA.j1;have j3:=hA.j2;refine⟨d,q,j,hA,?_⟩;intro w B a c S g T i;exact aL0 w B a c S b L _ d q g T e l hL L1 k rfl hx i f hA.pos (ld hA.lt (by decide)) (by omega) (by omega)};{obtain⟨d,q,j,hA,f⟩:=aGc (b / 4503599627370496) (b%4503599627370496) (by omega) (by omega) (by omega);have m:b / 4503599627370496*4503599627370496+b%4503599627370496=b:=by{omega};rw[m]at hA;have j1:=hA.idx;have j2:=hA.j1;have j3:=hA.j2;refine⟨d,q,j,hA,?_⟩;intro w B a c S g T i;exact aGl w B a c S b (b / 4503599627370496) (b%4503599627370496) d q g T (by omega) rfl rfl (by omega) (by omega) (by omega) i f hA.pos (ld hA.lt (by decide)) (by omega) (by omega)}
open Go.RowKit
theorem wQ (b:Nat):sgn false+b=b:=by simp[sgn]
theorem aLg (neg:Bool)(b:Nat)(h:b<9223372036854775808):uB (sgn neg+b)=b:=by
 cases neg;{rw[wQ];exact aNC b h};{unfold uB;have e:bits .andNot .u64 ((sgn true+b:Nat):Int) 9223372036854775808=(b:Int):=by{have e:=u64_andNot_nat (sgn true+b) 9223372036854775808 (by unfold sgn;rw[af rfl];omega) (by omega);refine e.trans ?_;congr 1;rw[show 18446744073709551615-9223372036854775808=2^63-1 by decide,jk];have a:(2:Nat)^63=9223372036854775808:=by{decide};rw[a];unfold sgn;rw[af rfl];omega};rw[e,eo]}
theorem pB (neg:Bool)(b:Nat)(h:b<aL):mK (sgn neg+b)=false:=by
 have d:b<9218868437227405312:=h;unfold mK;rw[aLg neg b (by omega)];obtain⟨c,k1⟩:=kY false b h;obtain⟨c2,k2⟩:=kY false 9218868437227405311 (by unfold aL;omega);rw[wQ]at c k1 c2 k2;cases hh:FloatKind.f64.format.order b 9218868437227405311==some .gt with|false=>rfl|true=>{have a:=((aE7 b 9218868437227405311).1 hh).2;rw[c,c2,k1,k2]at a;have v:=pL b 9218868437227405311 (by omega);simp only[fw,fy]at a;unfold jF at a;(repeat' split at a);all_goals omega}
theorem zG (neg:Bool)(b:Nat)(h:b<aL):(FloatKind.f64.format.order (sgn neg+b) (sgn neg+b)==some .eq)=true:=by
 obtain⟨a,_⟩:=kY neg b h;exact(aBF _ _).2 ⟨⟨by omega,by omega⟩,by simp[jF]⟩
theorem aNx:aP 0=0:=by decide
theorem aCY (neg:Bool)(b:Nat)(h:b<aL)(d:1<=b):(FloatKind.f64.format.order (sgn neg+b) 0==some .eq)=false:=by
 obtain⟨c,k1⟩:=kY neg b h;have v:=iL 0 b d;rw[aNx]at v;cases hh:FloatKind.f64.format.order (sgn neg+b) 0==some .eq with|false=>rfl|true=>{have a:=((aBF _ _).1 hh).2;rw[c,aAb,k1,aCW]at a;unfold jF at a;cases neg<;>simp at a<;>(repeat' split at a)<;>omega}
theorem aCX (neg:Bool)(b:Nat)(h:b<aL)(e:1<=b):(FloatKind.f64.format.order (sgn neg+b) 0==some .lt)=neg:=by
 obtain⟨d,k1⟩:=kY neg b h;have v:=iL 0 b e;rw[aNx]at v;have c:=aJU (sgn neg+b) 0;unfold ltF at c;cases neg;{cases hh:FloatKind.f64.format.order (sgn false+b) 0==some .lt with|false=>rfl|true=>{have a:=(c.1 hh).2;rw[d,aAb,k1,aCW]at a;unfold jF at a;simp at a;(repeat' split at a)<;>omega}};{refine c.2 ⟨⟨by omega,by rw[aAb];omega⟩,?_⟩;rw[d,aAb,k1,aCW];unfold jF;simp;omega}
theorem aKg (b:Nat)(h:b<aL)(f:1<=b):vQ b:=by
 have a:=zG false b h;have c:=pB false b h;have d:=aCY false b h f;have e:=aCX false b h f;rw[wQ]at a c d e;exact⟨by simp[bne,a],c,d,e⟩
def aAk (D:U)(x:Int):U :=
 if (D.length:Int)<=x+1/\x+1<=21 then D++List.replicate (x+1-D.length).toNat 48
 else if 1<=x+1/\x+1<=21 then D.take (x+1).toNat++[46]++D.drop (x+1).toNat
 else if -5<=x+1/\x+1<=0 then [48,46]++List.replicate (-(x+1)).toNat 48++D
 else cG D++(if 0<x+1 then [101,43]++Lib.itoa x else [101,45]++Lib.itoa (-x))
theorem aKk (b:Nat)(D:U)(x:Int)(w:H)(T:aA w)(h:vQ b)(n:1<=D.length)(m:D.length<=20)(hd:∀c∈D,aE c=true)(x0:-900<x)(x1:x<900)(a:mQ b (eS D x)) :
  Y 63 #[.float .f64 b] w (O (.string ⟨(aAk D x).toArray⟩) w):=by
 have g:=aFz D x n (by omega) hd (by omega) (by omega);unfold aAk;by_cases j:(D.length:Int)<=x+1/\x+1<=21;{rw[af j];exact aGv b _ _ _ D x w T a g h j.1 j.2}
 ·rw[ae j];by_cases k:1<=x+1/\x+1<=21;{rw[af k];exact aGu b _ _ _ D x w T a g h (by omega) k.1 k.2 (by omega)}
  ·rw[ae k];by_cases l:-5<=x+1/\x+1<=0;{rw[af l];exact aH8 b _ _ _ D x w T a g h (by omega) n l.2 l.1}
   ·rw[ae l];match D,n,m,hd,a,g with
    | [d],_,_,_,a,g =>
     by_cases i:0<x+1
     ·rw[af i];exact aD7 b _ _ _ d x w T a g h (by omega)
     ·rw[ae i];exact aD6 b _ _ _ d x w T a g h (by omega)
    | d :: f :: D,_,m,_,a,g =>
     by_cases i:0<x+1
     ·rw[af i];have:=aC1 b _ _ _ _ d (f :: D) x w T a g h (by omega) rfl (by simp) (by simp at m ⊢;omega);have e:cG (d :: f :: D)++([101,43]++Lib.itoa x)=d :: 46 :: (f :: D)++[101,43]++Lib.itoa x:=by simp[cG]
      rw[e];exact this
     ·rw[ae i];have:=aC0 b _ _ _ _ d (f :: D) x w T a g h (by omega) rfl (by simp) (by simp at m ⊢;omega);have e:cG (d :: f :: D)++([101,45]++Lib.itoa (-x))=d :: 46 :: (f :: D)++[101,45]++Lib.itoa (-x):=by simp[cG]
      rw[e];exact this
theorem aH7 (b:Nat)(c:1<=b)(e:b<aL):∃d q j,gJ b d q j/\∀w,aA w->Y 63 #[.float .f64 b] w (O (.string ⟨(aAk (cO d) ((Lib.nDigits d:Int)+q-1)).toArray⟩) w):=by
 obtain⟨d,q,j,a,f⟩:=aLZ b c e;have j1:=a.idx;have j2:=a.j1;have j3:=a.j2;have i:=f7 d;have k:=gR d (ld a.lt (by decide));obtain⟨g,h⟩:=aAT d a.pos;exact⟨d,q,j,a,fun w T=>aKk b (cO d) _ w T (aKg b e c) g (by omega) (aAS d) (by omega) (by omega) f⟩
theorem aFq (b:Nat)(f:b<aL):Op.negFloat .f64 (sgn true+b)=b:=by
 have h:b<9218868437227405312:=f;have c:sgn true+b=9223372036854775808+b:=by{simp[sgn]};show(sgn true+b) ^^^ 2^(FloatKind.f64.format.exponentBits+FloatKind.f64.format.fractionBits)=_;have e:FloatKind.f64.format.exponentBits+FloatKind.f64.format.fractionBits=63:=by{kernel_rfl};rw[e,c];have d:=ux (a:=9223372036854775808+b) (b:=2^63) (n:=63);have r:=uy (a:=9223372036854775808+b) (b:=2^63) (n:=63);have g:(2:Nat)^63=9223372036854775808:=by{decide};rw[g]at d r ⊢;rw[show(9223372036854775808+b) / 9223372036854775808=1 by omega,sy (by decide),Nat.xor_self]at d;rw[show(9223372036854775808+b)%9223372036854775808=b by omega,s6,Nat.xor_zero]at r;omega
theorem aKj (b:Nat)(txt:U)(u:txt.length<=1000)(i:1<=b)(a:b<aL)(w:H)(T:aA w)(j:∀w,aA w->Y 63 #[.float .f64 b] w (O (.string ⟨txt.toArray⟩) w)) :
  Y 63 #[.float .f64 (9223372036854775808+b:Nat)] w (O (.string ⟨(45 :: txt).toArray⟩) w):=by
 have t:b<9218868437227405312:=a;have g:sgn true+b=9223372036854775808+b:=by{simp[sgn]};have d:=zG true b a;have h:=pB true b a;have q:=aCY true b a i;have r:=aCX true b a i;have s:=aFq b a;rw[<-g];have p:(FloatKind.f64.format.order (sgn true+b) (sgn true+b) !=some .eq)=false:=by{simp[bne,d]};have un:=gG;have c:=fun w=>gQ (sgn true+b) false w h;obtain⟨x,hx⟩:∃x,sgn true+b=x:=⟨_,rfl⟩;rw[hx]at d p q r s c ⊢;have l:=Z c;have m:=Z j;have n:=Z T;clear j T c hx g h d;go_enter Tryz.func63,Tryz.ntmps63;go_wp2_with (go_at_call 67;((with_reducible refine(l.o _).mono ?_);rintro e w' ⟨rfl,rfl⟩));refine(m.o _ n.o).mono ?_;rintro e v ⟨rfl,f⟩;have k:=Z f;clear f;go_wp2;go_ret;refine⟨iI ?_,k.o⟩;simp
open Go.RowKit Go.Sort
def aAn:Array Value:=#[Value.int .u8 0,Value.int .u8 0,Value.int .u8 0,Value.int .u8 0,Value.int .u8 0,Value.int .u8 0,Value.int .u8 0,Value.int .u8 0,Value.int .u8 0,Value.int .u8 0,Value.int .u8 0,Value.int .u8 0,Value.int .u8 0,Value.int .u8 0,Value.int .u8 0,Value.int .u8 0,Value.int .u8 0,Value.int .u8 0,Value.int .u8 0,Value.int .u8 0,Value.int .u8 0,Value.int .u8 0,Value.int .u8 0,Value.int .u8 0]
theorem aIR:aAn=Array.replicate 24 (.int .u8 0):=rfl
theorem aOk (w:H)(T:TypeId):Holds (fun(b:UInt8)=>Value.int .u8 (b.toNat:Int)) (w.alloc (.cells aAn T)) w.heap.size 0 (Array.replicate 24 (0:UInt8)):=fun j a=>by
 have c:j<24:=by simpa using a
 refine⟨?_,vt _ _ _ _⟩;rw[vu,ib _ j a];rw[aIR];simp[c]
def aIT (b x:Nat)(ee:Int):Prop :=
 (b<4503599627370496/\∃L,Lib.bitLen b=L/\1<=L/\L<=52/\b*2^(64-L)=x/\ee=(L:Int)-1138) \/
 (4503599627370496<=b/\(4503599627370496+b%4503599627370496)*2048=x/\ee=((b / 4503599627370496:Nat):Int)-1086)
theorem aHU (w:H)(B:Nat)(X:Option Addr)(c:Nat)(S:Nat->Prop)(b x k d:Nat)(y p:Int)(hO:Out w w B S X c [])(T:aA w)
  (a2:1<=b) (hb:b<9218868437227405312) (a5:x<18446744073709551616) (hc:aIT b x y) (hS:∀k,S k->k<w.heap.size)
  (FC:∀w',aA w'->Y 261 #[.int .u64 x,.int .i64 y,.int .i64 ((k:Int)+1),.int .i64 k,.int .u8 101] w' (O (.tuple #[.int .u64 d,.int .i64 p]) w'))
  (a9:k<=16) (m:Lib.nDigits d=k+1) (D:1<=d) (hd:d<18446744073709551616) (p1:-900<=p) (p2:p<=900) :
  Y 228 #[.slice X 0 c,.float .f64 b,.int .u8 101,.int .i64 k] w (uR w B S (eS (Lib.decDigits d) ((k:Int)+p))):=by
 have cz:¬(k:Int)<0:=by{omega};have c0:(0:Int)<(k:Int)+1:=by{omega};have c1:(k:Int)+1<=18:=by{omega};have cw:((d:Int) !=0)=true:=by{rw[ct];omega};have cp:=aEU;have c2:=T.opt;have co:=gR d hd;have R:=fun(w:H) (h:Lib.TabIs Tryz.prog w "internal/strconv.uint64pow10" .u64 Lib.pow10Tab)=>Tryz.internal_strconv_numDigits d D hd w h;rw[m]at R;have ci:=wT d D;have cj:bT (Lib.decDigits d)<=k+1:=by{have:=jA (Lib.decDigits d);rw[dv,m]at this;exact this};obtain⟨t,ht⟩:∃t,bT (Lib.decDigits d)=t+1:=⟨bT (Lib.decDigits d)-1,by omega⟩;obtain⟨z,hz⟩:∃z,k=t+z:=⟨k-t,by omega⟩;have a6:(k:Int)=(t:Int)+(z:Int):=by{omega};have ac:=aDh d;have ad:(cO d).length=t+1:=by{unfold cO;rw[bu,ht,dv];omega};rw[ad,m,show k+1-(t+1)=z by omega]at ac;have bd:=Z ac;have be:=Z ad;have HN:=Z m;have bq:=Z R;have N:=Z ht;have HZ:=Z a6;have bk:=Z a9;have HO:=Z hO;have HT:=Z T;have bf:=Z FC;have b0:=Z hS;have v:G (-900<=p/\p<=900):=⟨p1,p2⟩;have HD:G (1<=d/\d<18446744073709551616):=⟨D,hd⟩;have b2:G (t<=k):=Z (by omega);have g4:((b:Int) / 9223372036854775808 !=0)=false:=ii.2 (by omega);clear hO T FC hS ac ad m R ht ci cj hz a6 a9 co p1 p2 D hd;rcases hc with⟨ab,L,hL,L1,L2,hx,j⟩|⟨ab,hx,j⟩;case' inl =>have b3:bits .and .i64 (0:Int) 2047=0:=uV 0 (by omega);have V:=aEo b (by omega);rw[lj ab]at V;have g3:(b:Int) / 4503599627370496=0:=by{omega};have g5:((b:Int)==0)=false:=ai.2 (by omega);have s:=Z (fun w=>aBU b L w (by omega) hL);have P:G (IntKind.u64.wrap ((b:Int)*2^(64-L))=(x:Int)):=by{show _=_;rw[dC,<-hx];have:((b*2^(64-L):Nat):Int)=(b:Int)*2^(64-L):=by{push_cast;rfl};rw[<-this];omega};have K:G ((-1022:Int)-(64-(L:Int))-52=y):=Z (by omega);clear hx j hL a5 hb a2;go_enter Tryz.func228,Tryz.ntmps228;go_wp2_with fail;go_quiet (fail);go_wp2_with (go_at_call 191;((with_reducible refine(s.o _).mono ?_);rintro e w' ⟨rfl,rfl⟩));rw[P.o,K.o]
 case' inr =>obtain⟨E,hE⟩:∃E,b / 4503599627370496=E:=⟨_,rfl⟩;obtain⟨f,hf⟩:∃f,b%4503599627370496=f:=⟨_,rfl⟩;have f1:f<4503599627370496:=by{omega};have E1:1<=E:=by{omega};have E2:E<=2046:=by{omega};have b3:=uV E (by omega);have V:=aEo b (by omega);rw[hf]at V;have b4:=aQA f f1;have g1:((E:Int)==2047)=false:=ai.2 (by omega);have g2:((E:Int)==0)=false:=ai.2 (by omega);have g3:(b:Int) / 4503599627370496=E:=by{omega};have s:=Z (fun w=>aNo f w f1);obtain⟨M,hM⟩:=ex (4503599627370496+f);rw[<-hM]at b4 s;have g5:((M:Int)==0)=false:=ai.2 (by omega);have m2:M<9007199254740992:=by{omega};rw[hf,<-hM]at hx;rw[hE]at j;have P:G ((M:Int)*2048=(x:Int)):=Z (by omega);have K:G ((E:Int)+-1023-11-52=y):=Z (by omega);clear hx j hE hf hM f1 E1 a5 hb a2 ab;go_enter Tryz.func228,Tryz.ntmps228;go_wp2_with fail;go_quiet (fail);go_wp2_with (go_at_call 191;((with_reducible refine(s.o _).mono ?_);rintro e w' ⟨rfl,rfl⟩));rw[P.o,K.o]
 all_goals
  obtain⟨g,q⟩:=ex w.heap.size
  obtain⟨W,n⟩:=ex ((w.drewN nq).alloc (.cells aAn 214))
  have bW:Below w.heap.size w W:=by rw[n];exact((am w.heap.size w).trans ⟨rfl,rfl,rfl,ah _,fun _ _=>rfl⟩:Below w.heap.size w (w.drewN nq)).alloc nC _
  have sW:W.heap.size=g+1:=by rw[n,q];simp
  have hH:Holds (fun(b:UInt8)=>Value.int .u8 (b.toNat:Int)) W g 0 (Array.replicate 24 (0:UInt8)):=by rw[n,q];exact aOk (w.drewN nq) 214
  have TW:=HT.o.below bW nC;have aa:=n;unfold aAn at aa;rw[<-aa,<-q];clear n aa;refine(bf.o W TW).mono ?_;rintro e1 J ⟨rfl,r⟩;have bj:=Z (Holds.below hH r (by omega));have al:=Z (bW.trans (r.mono (by omega)));have c3:g<J.heap.size:=by have:=r.size;omega
  have b1:=Z (HT.o.below al.o nC);have an:=Z q;clear q hH r TW bW sW;go_wp2_with fail
  obtain⟨C,A⟩:∃C:H->Prop,∀u,C u:=⟨fun _=>True,fun _=>trivial⟩
  haveI:Nonempty (WIn C):=⟨⟨J,A _⟩⟩
  refine iW 10 [([0,1,2,3],4),([],5)] [6,7,8,9] C (by kernel_rfl) (by kernel_rfl) (A _) ?_;refine cP (fun l a=>?_);simp only[pick,pickZ,pickS,pickG];repeat (go_big_quiet_step (fail))
  refine aq (a _ (fun Q1 a0=>?_));clear a l;simp only[pick,pickZ,pickS,pickG];go_wp2_with fail
  refine(bq.o _ (b1.o.drewN 1).u10).mono ?_;rintro e w3 ⟨rfl,cm⟩;subst cm;go_wp2_with fail
  refine a0 _ _ (A _) (cP (fun l a=>aq (a _ (fun Q2 a1=>?_))));clear a l a0 Q1;simp only[pick,pickZ,pickS,pickG];go_wp2_with fail
  refine(wZ g d 24 p (k+1) (J.drewN 1) (Holds.drewN bj.o 1) (by omega) HD.o.1 HD.o.2 HN.o (by have:=v.o;omega) (by have:=v.o;omega)).mono ?_;rintro e w3 ⟨rfl,S3,K3⟩;have bx:=Z S3;have ao:=Z K3;clear S3 K3;go_wp2_with fail
  refine a1 _ _ (A _) (jP (fun l a=>?_));clear a1 Q2;simp only[pick,pickZ,pickS,pickG];repeat (go_big_quiet_step (fail))
  refine aq (a _ (fun Q3 cs=>?_));clear a l;simp only[fo,fq];go_wp2_with fail
  rw[N.o];have Q:aD (fun i=>w.heap.size<=i) w w3:=(aD.of_below al.o).trans ((((aD.refl (· = g) J).drewN 1).trans ao.o).mono (fun i _ e=>by have:=an.o;omega));have av:aD (fun _=>False) w w3:=Q.mono (fun i hi e=>by omega);have O3:=HO.o.later Q;have aw:IsB w3 (some ⟨g,0,none⟩) ((Lib.decDigits d).take (t+1)):=bx.o.take (t+1);have a4:((Lib.decDigits d).take (t+1)).length=t+1:=by
   have:=be.o;unfold cO at this;rwa[N.o]at this
  have a7:g<w3.heap.size:=by have:=ao.o.size;simp at this;omega
  have cb:=v.o.1;have cd:=v.o.2;have ca:=bk.o;have ck:=b2.o;have a8:=HZ.o;have a3:¬S g:=fun e=>by have:=b0.o g e;have:=an.o;omega
  have F:=aNk w3 B g t z 24 X c S _ (((k+1:Nat):Int)+p) false O3 aw a3 a7 a4 (by omega) (by omega) (by omega) (by omega) (by omega);rw[<-a8]at F
  have bh:=Z F;have bl:=Z av;clear F Q av O3 aw a4 a7 a3 a8 ck ca cb cd;refine bh.o.mono ?_;rintro e w4 ⟨b5,c4,rfl,O4⟩;have bs:=Z O4;clear O4;go_wp2
  go_ret;have j:Lib.decDigits d=(Lib.decDigits d).take (t+1)++List.replicate z 48:=by
   have:=bd.o;unfold cO at this;rw[N.o]at this
   exact this.symm
  have hq:((k+1:Nat):Int)+p-1=(k:Int)+p:=by omega
  refine⟨b5,c4,?_,?_⟩
  ·rw[<-hq];conv=>rhs;rw[j]
   rfl
  ·have:=Out.first bl.o bs.o;rw[hq,<-j]at this
   exact this
