/-
shortFloat at a normal float that is no power of two.
-/
import Derived.Test.YtcfgbdhpcboikaaGreatDoorUnr
namespace Go.Proofs.YtcfgbdhpcboikaaGreatDoor
set_option maxHeartbeats 4000000
set_option maxRecDepth 100000
open Go.RowKit
theorem nB {n:Nat}:n<=n:=ah n
def eZ (u:Nat)(d:Int):Nat:=(((u:Int)+d)%18446744073709551616).toNat
def qW (u:Nat):Nat:=(u+3)%18446744073709551616 / 4
def fW (u:Nat):Nat:=(u+1+u / 4%2)%18446744073709551616 / 4
def bF (dmin dmax dm:Nat)(p:Int):Nat × Int :=
 if dmin<=dmax / 10*10 then (dmax / 10,-(p-1))else if dmin<dmax then (dm,-p)else (dmin,-p)
theorem cL (x h l s:Nat)(hx:x<18446744073709551616)(b:h<18446744073709551616)(_hl:l<18446744073709551616):cJ x h l s<18446744073709551616:=by
 have a:=tR x h hx b;have two:(18446744073709551616:Nat)=2^64:=by{decide};unfold cJ;simp only[];split;{rw[two];exact nl (by rw[<-two];exact oH _ _ a) (by decide)};{rw[two];refine nl (by rw[<-two];exact oH _ _ (by split<;>omega)) (by split<;>decide)}
theorem lF (u a:Nat)(d:Int)(w:H)(b:u<18446744073709551616)(h:eZ u d=a):Y 283 #[.int .u64 u,.int .i64 d] w fun e w'=>e=.returned (.int .u64 a)/\w=w':=by
 subst h;exact aJ0 u d w b
theorem aAa (u a:Nat)(w:H)(b:u<18446744073709551616)(h:qW u=a):Y 284 #[.int .u64 u] w fun e w'=>e=.returned (.int .u64 a)/\w=w':=by
 subst h;exact aLA u w b
theorem wB (u a:Nat)(w:H)(b:u<18446744073709551616)(h:u / 4=a):Y 285 #[.int .u64 u] w fun e w'=>e=.returned (.int .u64 a)/\w=w':=by
 subst h;exact aJA u w b
theorem nL (u a:Nat)(w:H)(b:u<18446744073709551616)(h:fW u=a):Y 277 #[.int .u64 u] w fun e w'=>e=.returned (.int .u64 a)/\w=w':=by
 subst h;exact aKv u w b
theorem jO (u:Nat)(d:Int):eZ u d<18446744073709551616:=by unfold eZ;omega
theorem aF9 (n:Nat)(h:n<9223372036854775808):IntKind.i64.wrap (n:Int)=n:=by
 have a:IntKind.i64.signed=true:=rfl;have b:IntKind.i64.bits=64:=rfl;unfold IntKind.wrap;simp only[a,b,jn,bi];have e:(n:Int)%(2^64:Int)=n:=by{have:((2:Int)^64)=18446744073709551616:=by{decide};rw[this];omega};rw[e,ae];have:((2:Int)^(64-1))=9223372036854775808:=by{decide};rw[this];omega
theorem aAp (a b:Nat)(c:a<9223372036854775808)(d:b<9223372036854775808):bits .and .i64 (a:Int) (b:Int)=((a &&& b:Nat):Int):=by
 have hx:a &&& b<=a:=Nat.and_le_left;show IntKind.i64.wrap ((BitVec.ofInt 64 (a:Int) &&& BitVec.ofInt 64 (b:Int)).toNat:Int)=_;rw[BitVec.toNat_and,ofInt_u64 a (by omega),ofInt_u64 b (by omega)];exact aF9 _ (by omega)
theorem vR (n:Nat)(h:n<9223372036854775808):bits .and .i64 (n:Int) 1=((n%2:Nat):Int):=by
 have:=aAp n 1 h (by omega);rw[Nat.and_one_is_mod]at this;exact this
theorem aFS (m:Nat)(e M:Int)(i s odd D C B t r a dmax l:Nat)(w:H)(T:aA w)(a3:-1085<=e)(a4:e<=1000)(a6:9223372036854775808<m)(a7:m<18446744073709550592)
  (hp:-((e+11)*78913 / 262144)=(i:Int)-348) (hi:i<696) (a5:((i:Int)-348)*108853 / 32768=M) (hs:-(e+M+3)=s) (L:s<64) (K:m / 2048%2=odd)
  (y:cJ (m-1024) (aJ i) (aR i) s=D) (z:cJ (m+1024) (aJ i) (aR i) s=C) (A:cJ m (aJ i) (aR i) s=B)
  (N:eZ D odd=t) (P:eZ C (-(odd:Int))=r) (k1:qW t=a) (k2:r / 4=dmax) (k3:fW B=l) (j:aJ i<18446744073709551616) (k:aR i<18446744073709551616) :
  Y 265 #[.int .u64 m,.int .i64 e] w (O (.tuple #[.int .u64 (bF a dmax l ((i:Int)-348)).1,.int .i64 (bF a dmax l ((i:Int)-348)).2]) w):=by
 have v:=fun(w:H) b o c d f=>dI (m-1024) (aJ i) (aR i) s w b o c d f (by omega) j k L;have x:=fun(w:H) b o c d f=>dI (m+1024) (aJ i) (aR i) s w b o c d f (by omega) j k L;have F:=fun(w:H) b o c d f=>dI m (aJ i) (aR i) s w b o c d f (by omega) j k L;rw[y]at v;rw[z]at x;rw[A]at F;have em:((m-1024:Nat):Int)=(m:Int)-1024:=by{omega};have ep:((m+1024:Nat):Int)=(m:Int)+1024:=by{omega};rw[em]at v;rw[ep]at x;have ha:=vR (m / 2048) (by omega);have e5:((m / 2048:Nat):Int)=(m:Int) / 2048:=by{omega};rw[K,e5]at ha;have a9:odd<=1:=by{omega};have j1:t<18446744073709551616:=by{rw[<-N];exact jO _ _};have j2:r<18446744073709551616:=by{rw[<-P];exact jO _ _};have j3:dmax<18446744073709551616:=by{omega};have V:=fun w=>lF D t odd w (by rw[<-y];exact cL _ _ _ _ (by omega) j k) N;have W:=fun w=>lF C r (-(odd:Int)) w (by rw[<-z];exact cL _ _ _ _ (by omega) j k) P;have R:=fun w=>aAa t a w j1 k1;have F1:=fun w=>wB r dmax w j2 k2;have X:=fun w=>nL B l w (by rw[<-A];exact cL _ _ _ _ (by omega) j k) k3;have l1:D<18446744073709551616:=by{rw[<-y];exact cL _ _ _ _ (by omega) j k};have l2:C<18446744073709551616:=by{rw[<-z];exact cL _ _ _ _ (by omega) j k};have l3:B<18446744073709551616:=by{rw[<-A];exact cL _ _ _ _ (by omega) j k};have ao:=Z v;have av:=Z x;have aw:=Z F;have S:=Z T;have HS:=Z hs;have HO:=Z K;have ad:=Z V;have al:=Z W;have ab:=Z R;have ac:=Z F1;have an:=Z X;clear v x F y z A j k T hs K V W R F1 X N P k1 k2 k3 em ep e5;have a8:((m:Int)==9223372036854775808)=false:=ai.2 (by omega);go_enter Tryz.func265,Tryz.ntmps265
 go_wp2_with (first
  | (go_at_call 260;refine(tM _ _ (by omega) (by omega)).mono ?_;rintro e w' ⟨rfl,rfl⟩)
  | (go_at_call 272;refine(nJ _ _ (by omega) (by omega)).mono ?_;rintro e w' ⟨rfl,rfl⟩))
 have T1:aA (w.alloc (.cells #[.int .u64 0,.int .u64 0,.int .i64 0] 265)):=S.o.below ((am w.heap.size w).alloc nB _) nB;have hg:=cc w (.cells #[.int .u64 0,.int .u64 0,.int .i64 0] 265);have a0:=S.o.size;refine(gS e M s i _ w.heap.size _ _ _ _ hg rfl hi (by omega) T1 (by omega) (by omega) (by omega) (by omega) HS.o).mono ?_;rintro e1 w1 ⟨rfl,p,u⟩;have a1:w.heap.size<w1.heap.size:=by{have:=u.size;simp at this;omega};have Q:Below w.heap.size w w1:=(((aD.refl (fun _=>False) w).alloc _).trans' u (fun _ _ h=>by omega)).below nB (fun _ _ h=>h.elim);have E:=Z Q;have a2:=Z u;have c:=au w1 w.heap.size 0 _ _ _ p;have d:=au w1 w.heap.size 1 _ _ _ p;have f:=au w1 w.heap.size 2 _ _ _ p;simp at c d f;obtain⟨g,aa⟩:∃g,w.heap.size=g:=⟨_,rfl⟩;rw[aa]at c d f p a1 ⊢
 clear T1 hg u Q aa a0 p;go_wp2_with (first
  | (go_at_call 274;((with_reducible refine(ao.o _ _ _ ?_ ?_ ?_).mono ?_);all_goals first|exact c|exact d|exact f|skip);rintro e w' ⟨rfl,n,rfl⟩)
  | (go_at_call 274;((with_reducible refine(av.o _ _ _ ?_ ?_ ?_).mono ?_);all_goals first|exact c|exact d|exact f|skip);rintro e w' ⟨rfl,n,rfl⟩)
  | (go_at_call 274;((with_reducible refine(aw.o _ _ _ ?_ ?_ ?_).mono ?_);all_goals first|exact c|exact d|exact f|skip);rintro e w' ⟨rfl,n,rfl⟩)
  | (go_at_call 277;((with_reducible refine(an.o _).mono ?_);rintro e w' ⟨rfl,rfl⟩))
  | (go_at_call 283;((with_reducible refine(ad.o _).mono ?_);rintro e w' ⟨rfl,rfl⟩))
  | (go_at_call 283;((with_reducible refine(al.o _).mono ?_);rintro e w' ⟨rfl,rfl⟩))
  | (go_at_call 284;((with_reducible refine(ab.o _).mono ?_);rintro e w' ⟨rfl,rfl⟩))
  | (go_at_call 285;((with_reducible refine(ac.o _).mono ?_);rintro e w' ⟨rfl,rfl⟩)))
 {have q:a<=dmax / 10*10:=by{omega};go_ret2;refine⟨?_,E.o.trans ⟨rfl,rfl,rfl,ah _,fun _ _=>rfl⟩⟩;have e:bF a dmax l ((i:Int)-348)=(dmax / 10,-((i:Int)-348-1)):=by{unfold bF;rw[af q]};rw[e];rfl};{have q:¬a<=dmax / 10*10:=by{omega};have J:a<dmax:=by{assumption};go_ret2;refine⟨?_,E.o.trans ⟨rfl,rfl,rfl,ah _,fun _ _=>rfl⟩⟩;have e:bF a dmax l ((i:Int)-348)=(l,-((i:Int)-348)):=by{unfold bF;rw[ae q,af J]};rw[e];rfl};{have q:¬a<=dmax / 10*10:=by{omega};have J:¬a<dmax:=by{assumption};go_ret2;refine⟨?_,E.o.trans ⟨rfl,rfl,rfl,ah _,fun _ _=>rfl⟩⟩;have e:bF a dmax l ((i:Int)-348)=(a,-((i:Int)-348)):=by{unfold bF;rw[ae q,ae J]};rw[e];rfl}
open Go.RowKit
theorem aKG (m:Nat)(e M:Int)(i s odd D C B t r a dmax l:Nat)(w:H)(T:aA w)(a4:-1085<e)(a5:e<=1000)(a0:m=9223372036854775808)
  (hp:-(((e+11)*631305-261663) / 2097152)=(i:Int)-348) (hi:i<696) (a6:((i:Int)-348)*108853 / 32768=M) (hs:-(e+M+3)=s) (L:s<64) (K:m / 2048%2=odd)
  (y:cJ (m-512) (aJ i) (aR i) s=D) (z:cJ (m+1024) (aJ i) (aR i) s=C) (A:cJ m (aJ i) (aR i) s=B)
  (N:eZ D odd=t) (P:eZ C (-(odd:Int))=r) (k1:qW t=a) (k2:r / 4=dmax) (k3:fW B=l) (j:aJ i<18446744073709551616) (k:aR i<18446744073709551616) :
  Y 265 #[.int .u64 m,.int .i64 e] w (O (.tuple #[.int .u64 (bF a dmax l ((i:Int)-348)).1,.int .i64 (bF a dmax l ((i:Int)-348)).2]) w):=by
 have v:=fun(w:H) b o c d f=>dI (m-512) (aJ i) (aR i) s w b o c d f (by omega) j k L;have x:=fun(w:H) b o c d f=>dI (m+1024) (aJ i) (aR i) s w b o c d f (by omega) j k L;have F:=fun(w:H) b o c d f=>dI m (aJ i) (aR i) s w b o c d f (by omega) j k L;rw[y]at v;rw[z]at x;rw[A]at F;have em:((m-512:Nat):Int)=(m:Int)-512:=by{omega};have ep:((m+1024:Nat):Int)=(m:Int)+1024:=by{omega};rw[em]at v;rw[ep]at x;have ha:=vR (m / 2048) (by omega);have e5:((m / 2048:Nat):Int)=(m:Int) / 2048:=by{omega};rw[K,e5]at ha;have bd:odd<=1:=by{omega};have j1:t<18446744073709551616:=by{rw[<-N];exact jO _ _};have j2:r<18446744073709551616:=by{rw[<-P];exact jO _ _};have j3:dmax<18446744073709551616:=by{omega};have V:=fun w=>lF D t odd w (by rw[<-y];exact cL _ _ _ _ (by omega) j k) N;have W:=fun w=>lF C r (-(odd:Int)) w (by rw[<-z];exact cL _ _ _ _ (by omega) j k) P;have R:=fun w=>aAa t a w j1 k1;have F1:=fun w=>wB r dmax w j2 k2;have X:=fun w=>nL B l w (by rw[<-A];exact cL _ _ _ _ (by omega) j k) k3;have l1:D<18446744073709551616:=by{rw[<-y];exact cL _ _ _ _ (by omega) j k};have l2:C<18446744073709551616:=by{rw[<-z];exact cL _ _ _ _ (by omega) j k};have l3:B<18446744073709551616:=by{rw[<-A];exact cL _ _ _ _ (by omega) j k};have ao:=Z v;have av:=Z x;have aw:=Z F;have S:=Z T;have HS:=Z hs;have HO:=Z K;have ad:=Z V;have al:=Z W;have ab:=Z R;have ac:=Z F1;have an:=Z X;clear v x F y z A j k T hs K V W R F1 X N P k1 k2 k3 em ep e5;have a9:((m:Int)==9223372036854775808)=true:=cn.2 (by omega);have a7:9223372036854775808<=m:=by{omega};have a8:m<=9223372036854775808:=by{omega};clear a0;go_enter Tryz.func265,Tryz.ntmps265
 go_wp2_with (first
  | (go_at_call 282;refine(aIr _ _ (by omega) (by omega)).mono ?_;rintro e w' ⟨rfl,rfl⟩)
  | (go_at_call 272;refine(nJ _ _ (by omega) (by omega)).mono ?_;rintro e w' ⟨rfl,rfl⟩))
 have T1:aA (w.alloc (.cells #[.int .u64 0,.int .u64 0,.int .i64 0] 265)):=S.o.below ((am w.heap.size w).alloc nB _) nB;have hg:=cc w (.cells #[.int .u64 0,.int .u64 0,.int .i64 0] 265);have a1:=S.o.size;refine(gS e M s i _ w.heap.size _ _ _ _ hg rfl hi (by omega) T1 (by omega) (by omega) (by omega) (by omega) HS.o).mono ?_;rintro e1 w1 ⟨rfl,p,u⟩;have a2:w.heap.size<w1.heap.size:=by{have:=u.size;simp at this;omega};have Q:Below w.heap.size w w1:=(((aD.refl (fun _=>False) w).alloc _).trans' u (fun _ _ h=>by omega)).below nB (fun _ _ h=>h.elim);have E:=Z Q;have a3:=Z u;have c:=au w1 w.heap.size 0 _ _ _ p;have d:=au w1 w.heap.size 1 _ _ _ p;have f:=au w1 w.heap.size 2 _ _ _ p;simp at c d f;obtain⟨g,aa⟩:∃g,w.heap.size=g:=⟨_,rfl⟩;rw[aa]at c d f p a2 ⊢
 clear T1 hg u Q aa a1 p;go_wp2_with (first
  | (go_at_call 274;((with_reducible refine(ao.o _ _ _ ?_ ?_ ?_).mono ?_);all_goals first|exact c|exact d|exact f|skip);rintro e w' ⟨rfl,n,rfl⟩)
  | (go_at_call 274;((with_reducible refine(av.o _ _ _ ?_ ?_ ?_).mono ?_);all_goals first|exact c|exact d|exact f|skip);rintro e w' ⟨rfl,n,rfl⟩)
  | (go_at_call 274;((with_reducible refine(aw.o _ _ _ ?_ ?_ ?_).mono ?_);all_goals first|exact c|exact d|exact f|skip);rintro e w' ⟨rfl,n,rfl⟩)
  | (go_at_call 277;((with_reducible refine(an.o _).mono ?_);rintro e w' ⟨rfl,rfl⟩))
  | (go_at_call 283;((with_reducible refine(ad.o _).mono ?_);rintro e w' ⟨rfl,rfl⟩))
  | (go_at_call 283;((with_reducible refine(al.o _).mono ?_);rintro e w' ⟨rfl,rfl⟩))
  | (go_at_call 284;((with_reducible refine(ab.o _).mono ?_);rintro e w' ⟨rfl,rfl⟩))
  | (go_at_call 285;((with_reducible refine(ac.o _).mono ?_);rintro e w' ⟨rfl,rfl⟩)))
 {have q:a<=dmax / 10*10:=by{omega};go_ret2;refine⟨?_,E.o.trans ⟨rfl,rfl,rfl,ah _,fun _ _=>rfl⟩⟩;have e:bF a dmax l ((i:Int)-348)=(dmax / 10,-((i:Int)-348-1)):=by{unfold bF;rw[af q]};rw[e];rfl};{have q:¬a<=dmax / 10*10:=by{omega};have J:a<dmax:=by{assumption};go_ret2;refine⟨?_,E.o.trans ⟨rfl,rfl,rfl,ah _,fun _ _=>rfl⟩⟩;have e:bF a dmax l ((i:Int)-348)=(l,-((i:Int)-348)):=by{unfold bF;rw[ae q,af J]};rw[e];rfl};{have q:¬a<=dmax / 10*10:=by{omega};have J:¬a<dmax:=by{assumption};go_ret2;refine⟨?_,E.o.trans ⟨rfl,rfl,rfl,ah _,fun _ _=>rfl⟩⟩;have e:bF a dmax l ((i:Int)-348)=(a,-((i:Int)-348)):=by{unfold bF;rw[ae q,ae J]};rw[e];rfl}
open Go.RowKit
def fM (S:Nat):Prop:=S=0\/S=9223372036854775808
theorem aC7 (S a:Nat)(c:fM S)(d:a<9223372036854775808):S ||| a=S+a:=by
 rcases c with rfl|rfl;{rw[Nat.zero_or,bw]};{have:=ts (i:=63) (b:=a) (by simpa using d) 1;simpa using this.symm}
theorem pX (S a:Nat)(b:fM S)(c:a<9223372036854775808):bits .or .u64 (S:Int) (a:Int)=((S+a:Nat):Int):=by
 have:S<=9223372036854775808:=by{rcases b with rfl|rfl<;>omega};rw[l8 S a (by omega) (by omega),aC7 S a b c]
theorem aFU (S:Nat)(a:fM S):∃h,h<2048/\S=h*9007199254740992:=by
 rcases a with rfl|rfl;{exact⟨0,by omega,rfl⟩};{exact⟨1024,by omega,rfl⟩}
theorem aGW (x n:Nat):x &&& 2^n=x / 2^n%2*2^n:=by
 have p:=ar n;have d:=vv (a:=x) (b:=2^n) (n:=n);have r:=vw (a:=x) (b:=2^n) (n:=n);rw[sy p,Nat.and_one_is_mod]at d;rw[s6,Nat.and_zero]at r;have:=k7 (x &&& 2^n) (2^n);rw[d,r,gw,bn]at this;exact this.symm
theorem xW (S m:Nat)(a:fM S)(d:m<9007199254740992):bits .and .u64 ((S+m:Nat):Int) 4503599627370496=((if m<4503599627370496 then 0 else 4503599627370496:Nat):Int):=by
 have:S<=9223372036854775808:=by{rcases a with rfl|rfl<;>omega};obtain⟨h,c,rfl⟩:=aFU S a;have e:=nc (h*9007199254740992+m) 4503599627370496 (by omega) (by omega);refine e.trans ?_;congr 1;have t:=aGW (h*9007199254740992+m) 52;have b:(2:Nat)^52=4503599627370496:=by{decide};rw[b]at t;rw[t];split<;>omega
theorem aLk (S m:Nat)(a:fM S)(c:m<9223372036854775808):bits .and .u64 ((S+m:Nat):Int) 9223372036854775808=(S:Int):=by
 have:S<=9223372036854775808:=by{rcases a with rfl|rfl<;>omega};have e:=nc (S+m) 9223372036854775808 (by omega) (by omega);refine e.trans ?_;congr 1;have t:=aGW (S+m) 63;have b:(2:Nat)^63=9223372036854775808:=by{decide};rw[b]at t;rw[t];rcases a with rfl|rfl<;>omega
theorem aF0 (S f:Nat)(i:fM S)(l:f<4503599627370496):bits .andNot .u64 ((S+(4503599627370496+f):Nat):Int) 4503599627370496=((S+f:Nat):Int):=by
 obtain⟨h,k,rfl⟩:=aFU S i;have e:=u64_andNot_nat (h*9007199254740992+(4503599627370496+f)) 4503599627370496 (by omega) (by omega);refine e.trans ?_;congr 1;have m:18446744073709551615-4503599627370496=2047*9007199254740992+4503599627370495:=by{decide};rw[m];have j:(2:Nat)^53=9007199254740992:=by{decide};have d:=vv (a:=h*9007199254740992+(4503599627370496+f)) (b:=2047*9007199254740992+4503599627370495) (n:=53);have r:=vw (a:=h*9007199254740992+(4503599627370496+f)) (b:=2047*9007199254740992+4503599627370495) (n:=53);rw[j]at d r;rw[show(h*9007199254740992+(4503599627370496+f)) / 9007199254740992=h by omega,show(2047*9007199254740992+4503599627370495) / 9007199254740992=2047 by omega,show(2047:Nat)=2^11-1 from rfl,jk]at d;rw[show(h*9007199254740992+(4503599627370496+f))%9007199254740992=4503599627370496+f by omega,show(2047*9007199254740992+4503599627370495)%9007199254740992=2^52-1 by omega,jk]at r;have c:(2:Nat)^11=2048:=by{decide};have g:(2:Nat)^52=4503599627370496:=by{decide};rw[c]at d;rw[g]at r;generalize (h*9007199254740992+(4503599627370496+f)) &&& ((2^11-1)*9007199254740992+4503599627370495)=x at *;omega
theorem aJ3 (S f k:Nat)(a:fM S)(c:f<4503599627370496):bits .or .u64 ((S+f:Nat):Int) ((k*4503599627370496:Nat):Int)=((S+(k*4503599627370496+f):Nat):Int)\/2047<k:=by
 by_cases h:k<2048;{left;have:S<=9223372036854775808:=by{rcases a with rfl|rfl<;>omega};rw[l8 (S+f) (k*4503599627370496) (by omega) (by omega),<-aC7 S f a (by omega)];have e:f ||| k*4503599627370496=k*4503599627370496+f:=by{have:=ts (i:=52) (b:=f) (by simpa using c) k;rw[tf,bn];simpa using this.symm};rw[Nat.or_assoc,e,aC7 S _ a (by omega)]};{exact .inr (by omega)}
theorem aMt (S m:Nat)(e:Int)(w:H)(a:fM S)(c:m<4503599627370496) :
  Y 279 #[.int .u64 ((S+m:Nat):Int),.int .i64 e] w fun f w'=>f=.returned (.tuple #[.float .f64 (S+m),.nilIface])/\w=w':=by
 have b:=xW S m a (by omega);rw[af c]at b
 have d:=fun w=>mB ((S+m:Nat):Int) w
 simp only[eo]at d;obtain⟨x,hx⟩:∃x,S+m=x:=⟨_,rfl⟩
 rw[hx]at b d ⊢
 clear hx c a;go_enter Tryz.func279,Tryz.ntmps279
 go_wp2
 go_ret2;exact⟨rfl,rfl⟩
theorem aMs (S m:Nat)(e:Int)(w:H)(a:fM S)(i:4503599627370496<=m)(j:m<9007199254740992)(k:972<=e) :
  Y 279 #[.int .u64 ((S+m:Nat):Int),.int .i64 e] w fun f w'=>f=.returned (.tuple #[.float .f64 (S+9218868437227405312),.iface 158 (.int .i64 1)])/\w=w':=by
 have b:bits .and .u64 ((S+m:Nat):Int) 4503599627370496=4503599627370496:=by
  have b:=xW S m a (by omega);rw[ae (by omega)]at b
  exact b
 have g:=aLk S m a (by omega);have h:bits .or .u64 (S:Int) 9218868437227405312=((S+9218868437227405312:Nat):Int):=pX S 9218868437227405312 a (by omega);have d:=fun w=>mB ((S+9218868437227405312:Nat):Int) w
 simp only[eo]at d;obtain⟨x,hx⟩:∃x,S+m=x:=⟨_,rfl⟩
 obtain⟨y,c⟩:∃y,S+9218868437227405312=y:=⟨_,rfl⟩
 rw[hx]at b g ⊢
 rw[c]at h d ⊢
 clear hx c i j a;go_enter Tryz.func279,Tryz.ntmps279
 go_wp2
 go_ret2;exact⟨rfl,rfl⟩
theorem aJ5 (S m:Nat)(k:Nat)(e:Int)(w:H)(a:fM S)(q:4503599627370496<=m)(r:m<9007199254740992)(p:e=(k:Int)-1074)(B:k<2046) :
  Y 279 #[.int .u64 ((S+m:Nat):Int),.int .i64 e] w fun n w'=>n=.returned (.tuple #[.float .f64 (S+(k*4503599627370496+m)),.nilIface])/\w=w':=by
 have g:=xW S m a (by omega);rw[ae (by omega)]at g
 obtain⟨f,rfl⟩:∃f,m=4503599627370496+f:=⟨m-4503599627370496,by omega⟩
 have h:=aF0 S f a (by omega);have b:=(aJ3 S f (k+1) a (by omega)).resolve_right (by omega);have o:((k+1)*4503599627370496:Nat)=k*4503599627370496+4503599627370496:=by omega
 have c:S+((k+1)*4503599627370496+f)=S+(k*4503599627370496+(4503599627370496+f)):=by omega
 rw[c]at b
 have d:=fun w=>mB ((S+(k*4503599627370496+(4503599627370496+f)):Nat):Int) w
 simp only[eo]at d;have s:IntKind.u64.wrap (((k:Int)+1)*4503599627370496)=(((k+1)*4503599627370496:Nat):Int):=by rw[dC];omega
 have A:(1075:Int)+((k:Int)-1074)=(k:Int)+1:=by omega
 have t:(0:Int)<=(k:Int)+1:=by omega
 have u:(k:Int)+1<=2046:=by omega
 subst p;obtain⟨x,hx⟩:∃x,S+(4503599627370496+f)=x:=⟨_,rfl⟩
 obtain⟨y,j⟩:∃y,S+(k*4503599627370496+(4503599627370496+f))=y:=⟨_,rfl⟩
 obtain⟨z,l⟩:∃z,S+f=z:=⟨_,rfl⟩
 obtain⟨v,i⟩:∃v,(k+1)*4503599627370496=v:=⟨_,rfl⟩
 rw[hx]at g h ⊢
 rw[l]at h b
 rw[i]at b s
 rw[j]at b d ⊢
 clear hx j l i q r a o c;go_enter Tryz.func279,Tryz.ntmps279
 go_wp2
 go_ret2;exact⟨rfl,rfl⟩
theorem aF6 (w:H):Y 275 #[.int .u64 9007199254740992] w fun e w'=>e=.returned (.int .u64 36028797018963966)/\w=w':=by
 go_enter Tryz.func275,Tryz.ntmps275;go_wp2;go_ret;exact⟨rfl,rfl⟩
open Go.RowKit
theorem aBU (d b:Nat)(w:H)(hd:d<18446744073709551616)(a:Lib.bitLen d=b):Y 191 #[.int .u64 (d:Int)] w fun e w'=>e=.returned (.int .i64 b)/\w=w':=by
 refine(Tryz.bits_Len64 _ _ (by omega) (by omega)).mono ?_;rintro e w' ⟨rfl,rfl⟩;rw[eo,a];exact⟨rfl,rfl⟩
theorem aCa (d i b S s:Nat)(lp e:Int)(w:H)(T:aA w)(r:fM S)(hd:d<18446744073709551616)(t:Lib.bitLen d=b)(P:b<=64)(hi:i<696)(y:((i:Int)-348)*108853 / 32768=lp)(u:min 1074 (53-(b:Int)-lp)=e)(z:-(e-(64-(b:Int))+lp+3)=s)(N:64<=s) :
  Y 245 #[.int .u64 d,.int .i64 ((i:Int)-348),.int .u64 S] w (O (.tuple #[.float .f64 S,.nilIface]) w):=by
 have L:=fun w=>aBU d b w hd t;have B:=Z L;have F:=fun w=>mB (S:Int) w;simp only[eo]at F;have X:bits .or .u64 (S:Int) 0=(S:Int):=by{have:=pX S 0 r (by omega);exact this};have E:=Z T;have f:=Z y;have c:=Z u;have D:=Z z;have J:=T.size;clear L T y u z t r;have l:∀w,Y 272 #[.int .i64 ((i:Int)-348)] w fun e w'=>e=.returned (.int .i64 lp)/\w=w':=fun w=>by{have:=nJ ((i:Int)-348) w (by omega) (by omega);rw[f.o]at this;exact this};have V:-1200<=lp:=by{have:=f.o;omega};have W:lp<=1200:=by{have:=f.o;omega};have C:=Z l;have Q:-1300<=e:=by{have:=c.o;omega};have R:e<=1074:=by{have:=c.o;omega};clear l;go_enter Tryz.func245,Tryz.ntmps245
 go_wp2_with (first
  | (go_at_call 191;((with_reducible refine(B.o _).mono ?_);rintro e w' ⟨rfl,rfl⟩))
  | (go_at_call 272;((with_reducible refine(C.o _).mono ?_);rintro e w' ⟨rfl,rfl⟩)))
 rw[c.o];have m:aA (w.alloc (.cells #[.int .u64 0,.int .u64 0,.int .i64 0] 265)):=E.o.below ((am w.heap.size w).alloc nB _) nB;have v:=cc w (.cells #[.int .u64 0,.int .u64 0,.int .i64 0] 265);refine(gS (e-(64-(b:Int))) lp s i _ w.heap.size _ _ _ _ v rfl hi (by omega) m (by omega) (by omega) (by omega) (by omega) D.o).mono ?_;rintro M w1 ⟨rfl,a,j⟩;have K:w.heap.size<w1.heap.size:=by{have:=j.size;simp at this;omega};have k:Below w.heap.size w w1:=(((aD.refl (fun _=>False) w).alloc _).trans' j (fun _ _ h=>by omega)).below nB (fun _ _ h=>h.elim);have A:=Z k;have n:=au w1 w.heap.size 0 _ _ _ a;have p:=au w1 w.heap.size 1 _ _ _ a;have q:=au w1 w.heap.size 2 _ _ _ a;simp at n p q;obtain⟨g,x⟩:∃g,w.heap.size=g:=⟨_,rfl⟩;rw[x]at n p q a K ⊢;clear m v j k x J a;go_wp2;go_ret2;exact⟨rfl,A.o⟩
theorem aCH (u:Nat):bU u<=u+1:=by
 unfold bU;split;{have:u%2=0\/u%2=1:=by{omega};rcases this with h|h;{rw[h,jo];omega};{rw[h,sQ];omega}};{omega}
theorem aNU (u:Nat):gO u<=1:=by unfold gO;split<;>omega
def nK (S k m:Nat):Nat:=S+min (k*4503599627370496+m) 9218868437227405312
def vA (k:Nat):Value:=if 2046<=k then .iface 158 (.int .i64 1)else .nilIface
def qB (S k m:Nat)(e:Ending):Prop:=e=.returned (.tuple #[.float .f64 (nK S k m),vA k])
theorem aMr (S k m:Nat)(w:H)(a:fM S)(c:m<9007199254740992)(h:4503599627370496<=m\/k=0)(f:k<4000) :
  Y 279 #[.int .u64 ((S+m:Nat):Int),.int .i64 ((k:Int)-1074)] w fun d w'=>qB S k m d/\w=w':=by
 unfold qB nK vA;by_cases e:m<4503599627370496
 ·obtain rfl:k=0:=by omega
  rw[ae (by decide),iy,bw,mz (by omega)];exact aMt S m _ w a e
 ·by_cases b:2046<=k
  ·rw[af b,oc (by omega)];exact aMs S m ((k:Int)-1074) w a (by omega) c (by omega)
  ·rw[ae b,mz (by omega)];exact aJ5 S m k _ w a (by omega) c rfl (by omega)
theorem aAG (d i b S s u k m x:Nat)(lp e:Int)(w:H)(T:aA w)(F:fM S)(hd:d<18446744073709551616)(X:Lib.bitLen d=b)(a4:b<=64)(hi:i<696)(ac:((i:Int)-348)*108853 / 32768=lp)(he:min 1074 (53-(b:Int)-lp)=e)(hs:-(e-(64-(b:Int))+lp+3)=s)(aw:s<64)
  (hx:d*2^(64-b)=x) (a2:x<18446744073709551616) (hu:cJ x (aJ i) (aR i) s=u) (a9:u<9223372036854775808) (hm:bA (bU u)=m) (ad:fW (bU u)=m) (a0:m<9007199254740992) (hk:((k:Int)-1074)=-(e-gO u)) (ab:4503599627370496<=m\/k=0) :
  Y 245 #[.int .u64 d,.int .i64 ((i:Int)-348),.int .u64 S] w fun e' w'=>qB S k m e'/\Below w.heap.size w w':=by
 have L:=fun w=>aBU d b w hd X
 have HL:=Z L;obtain⟨r1,r2,r3⟩:=vH i hi;clear r3;have D:=fun(w:H) b o f j l=>dI x (aJ i) (aR i) s w b o f j l a2 r1 r2 aw
 rw[hu]at D
 have ao:=Z D;have al:IntKind.u64.wrap ((d:Int)*2^(64-b))=(x:Int):=by
  rw[dC,<-hx];have:((d*2^(64-b):Nat):Int)=(d:Int)*2^(64-b):=by push_cast;rfl
  rw[<-this];omega
 have av:=Z al;have V:=fun w=>nL (bU u) m w (by have:=aCH u;omega) ad
 have R:=fun w=>aMr S k m w F a0 ab (by have:=aNU u;omega)
 have bd:=pX S m F (by omega);have P:=Z V;have N:=Z R;have M:=Z hk;clear al V R hk hx ab hm ad;clear D r1 r2 hu;have HT:=Z T;have B:=Z ac;have y:=Z he;have HS:=Z hs;have a1:=T.size;clear L T ac he hs X F;have Q:∀w,Y 272 #[.int .i64 ((i:Int)-348)] w fun e w'=>e=.returned (.int .i64 lp)/\w=w':=fun w=>by
  have:=nJ ((i:Int)-348) w (by omega) (by omega);rw[B.o]at this
  exact this
 have a7:-1200<=lp:=by have:=B.o;omega
 have a8:lp<=1200:=by have:=B.o;omega
 have an:=Z Q;have a5:-1300<=e:=by have:=y.o;omega
 have a6:e<=1074:=by have:=y.o;omega
 clear Q;go_enter Tryz.func245,Tryz.ntmps245
 go_wp2_with (first
  | (go_at_call 191;((with_reducible refine(HL.o _).mono ?_);rintro e w' ⟨rfl,rfl⟩))
  | (go_at_call 272;((with_reducible refine(an.o _).mono ?_);rintro e w' ⟨rfl,rfl⟩)))
 rw[y.o];have W:aA (w.alloc (.cells #[.int .u64 0,.int .u64 0,.int .i64 0] 265)):=HT.o.below ((am w.heap.size w).alloc nB _) nB;have hg:=cc w (.cells #[.int .u64 0,.int .u64 0,.int .i64 0] 265);refine(gS (e-(64-(b:Int))) lp s i _ w.heap.size _ _ _ _ hg rfl hi (by omega) W (by omega) (by omega) (by omega) (by omega) HS.o).mono ?_;rintro a w1 ⟨rfl,t,C⟩;have a3:w.heap.size<w1.heap.size:=by have:=C.size;simp at this;omega
 have J:Below w.heap.size w w1:=(((aD.refl (fun _=>False) w).alloc _).trans' C (fun _ _ h=>by omega)).below nB (fun _ _ h=>h.elim);have K:=Z J;have f:=au w1 w.heap.size 0 _ _ _ t;have j:=au w1 w.heap.size 1 _ _ _ t;have l:=au w1 w.heap.size 2 _ _ _ t;simp at f j l;obtain⟨g,aa⟩:∃g,w.heap.size=g:=⟨_,rfl⟩
 rw[aa]at f j l t a3 ⊢
 clear W hg C J aa a1 t;go_wp2_with fail
 rw[av.o];refine(ao.o w1 g 0 f j l).mono ?_;rintro e w2 ⟨rfl,n,rfl⟩;by_cases c:36028797018963966<=u
 ·have c':(36028797018963966:Int)<=u:=by omega
  go_wp2_with (first
   | (go_at_call 275;((with_reducible refine(aF6 _).mono ?_);rintro e w' ⟨rfl,rfl⟩))
   | (go_at_call 266;((with_reducible refine(aCF _).mono ?_);rintro e w' ⟨rfl,rfl⟩)))
  have q:bits .or .u64 ((u:Int) / 2) (bits .and .u64 (u:Int) 1)=((bU u:Nat):Int):=by
   have a:=vS u (by omega);have E:=qG (u / 2) (u%2) (by omega) (by omega);rw[a];have e3:((u / 2:Nat):Int)=(u:Int) / 2:=by omega
   rw[<-e3,E];unfold bU;rw[af c]
  rw[q];refine(P.o _).mono ?_;rintro a w3 ⟨rfl,rfl⟩;have r:-(e-1)=(k:Int)-1074:=by
   have:=M.o;unfold gO at this;rw[af c]at this
   omega
  have p:(S:Int)+(m:Int)=((S+m:Nat):Int):=by omega
  have z:=Z r;have A:=Z p;clear r q p;go_wp2_with fail
  rw[A.o,z.o];refine(N.o _).mono ?_;rintro a w4 ⟨v,rfl⟩;unfold qB at v;subst v;go_wp2
  go_ret2;exact⟨rfl,K.o.trans ⟨rfl,rfl,rfl,ah _,fun _ _=>rfl⟩⟩
 ·have c':decide ((36028797018963966:Int)<=(u:Int))=false:=bo (by omega);go_wp2_with (first
   | (go_at_call 275;((with_reducible refine(aF6 _).mono ?_);rintro e w' ⟨rfl,rfl⟩))
   | (go_at_call 266;((with_reducible refine(aBB _).mono ?_);rintro e w' ⟨rfl,rfl⟩)))
  have q:bits .or .u64 (u:Int) (bits .and .u64 (u:Int) 1)=((bU u:Nat):Int):=by
   have a:=vS u (by omega);have E:=qG u (u%2) (by omega) (by omega);rw[a,E];unfold bU;rw[ae c];congr 1;have:u%2=0\/u%2=1:=by omega
   rcases this with h|h
   ·rw[h,jo]
   ·rw[h,sQ];omega
  rw[q];refine(P.o _).mono ?_;rintro a w3 ⟨rfl,rfl⟩;have r:-e=(k:Int)-1074:=by
   have:=M.o;unfold gO at this;rw[ae c]at this
   omega
  have p:(S:Int)+(m:Int)=((S+m:Nat):Int):=by omega
  have z:=Z r;have A:=Z p;clear r q p;go_wp2_with fail
  rw[A.o,z.o];refine(N.o _).mono ?_;rintro a w4 ⟨v,rfl⟩;unfold qB at v;subst v;go_wp2
  go_ret2;exact⟨rfl,K.o.trans ⟨rfl,rfl,rfl,ah _,fun _ _=>rfl⟩⟩
