/-
shortFloat at a normal float that is no power of two.
-/
import Derived.Test.YtcfgbdhpcboikaaGreatDoorUnr
namespace Go.Proofs.YtcfgbdhpcboikaaGreatDoor
set_option maxHeartbeats 4000000
set_option maxRecDepth 100000
open Go.RowKit
theorem oK {n:Nat}:n<=n:=ag n
def fR (u:Nat)(d:Int):Nat:=(((u:Int)+d)%18446744073709551616).toNat
def sO (u:Nat):Nat:=(u+3)%18446744073709551616 / 4
def gU (u:Nat):Nat:=(u+1+u / 4%2)%18446744073709551616 / 4
def bX (dmin dmax dm:Nat)(p:Int):Nat × Int :=
 if dmin<=dmax / 10*10 then (dmax / 10,-(p-1))else if dmin<dmax then (dm,-p)else (dmin,-p)
theorem dC (x h l s:Nat)(hx:x<18446744073709551616)(b:h<18446744073709551616)(_hl:l<18446744073709551616):cZ x h l s<18446744073709551616:=by
 have a:=vH x h hx b;have two:(18446744073709551616:Nat)=2^64:=by{decide};unfold cZ;simp only[];split;{rw[two];exact nx (by rw[<-two];exact pP _ _ a) (by decide)};{rw[two];refine nx (by rw[<-two];exact pP _ _ (by split<;>omega)) (by split<;>decide)}
theorem mO (u a:Nat)(d:Int)(w:H)(b:u<18446744073709551616)(h:fR u d=a):Y 283 #[.int .u64 u,.int .i64 d] w fun e w'=>e=.returned (.int .u64 a)/\w=w':=by
 subst h;exact aK2 u d w b
theorem aAW (u a:Nat)(w:H)(b:u<18446744073709551616)(h:sO u=a):Y 284 #[.int .u64 u] w fun e w'=>e=.returned (.int .u64 a)/\w=w':=by
 subst h;exact aMB u w b
theorem yG (u a:Nat)(w:H)(b:u<18446744073709551616)(h:u / 4=a):Y 285 #[.int .u64 u] w fun e w'=>e=.returned (.int .u64 a)/\w=w':=by
 subst h;exact aKC u w b
theorem oS (u a:Nat)(w:H)(b:u<18446744073709551616)(h:gU u=a):Y 277 #[.int .u64 u] w fun e w'=>e=.returned (.int .u64 a)/\w=w':=by
 subst h;exact aLy u w b
theorem kX (u:Nat)(d:Int):fR u d<18446744073709551616:=by unfold fR;omega
theorem aG3 (n:Nat)(h:n<9223372036854775808):IntKind.i64.wrap (n:Int)=n:=by
 have a:IntKind.i64.signed=true:=rfl;have b:IntKind.i64.bits=64:=rfl;unfold IntKind.wrap;simp only[a,b,jz,bm];have e:(n:Int)%(2^64:Int)=n:=by{have:((2:Int)^64)=18446744073709551616:=by{decide};rw[this];omega};rw[e,ac];have:((2:Int)^(64-1))=9223372036854775808:=by{decide};rw[this];omega
theorem aBc (a b:Nat)(c:a<9223372036854775808)(d:b<9223372036854775808):bits .and .i64 (a:Int) (b:Int)=((a &&& b:Nat):Int):=by
 have hx:a &&& b<=a:=Nat.and_le_left;show IntKind.i64.wrap ((BitVec.ofInt 64 (a:Int) &&& BitVec.ofInt 64 (b:Int)).toNat:Int)=_;rw[BitVec.toNat_and,ofInt_u64 a (by omega),ofInt_u64 b (by omega)];exact aG3 _ (by omega)
theorem xP (n:Nat)(h:n<9223372036854775808):bits .and .i64 (n:Int) 1=((n%2:Nat):Int):=by
 have:=aBc n 1 h (by omega);rw[Nat.and_one_is_mod]at this;exact this
theorem aGM (m:Nat)(e J:Int)(i s odd A z y p l a dmax f:Nat)(w:H)(T:aA w)(a3:-1085<=e)(a4:e<=1000)(a6:9223372036854775808<m)(a7:m<18446744073709550592)
  (hp:-((e+11)*78913 / 262144)=(i:Int)-348) (hi:i<696) (a5:((i:Int)-348)*108853 / 32768=J) (hs:-(e+J+3)=s) (F:s<64) (E:m / 2048%2=odd)
  (u:cZ (m-1024) (aN i) (aX i) s=A) (v:cZ (m+1024) (aN i) (aX i) s=z) (x:cZ m (aN i) (aX i) s=y)
  (n1:fR A odd=p) (K:fR z (-(odd:Int))=l) (k1:sO p=a) (k2:l / 4=dmax) (k3:gU y=f) (c:aN i<18446744073709551616) (d:aX i<18446744073709551616) :
  Y 265 #[.int .u64 m,.int .i64 e] w (O (.tuple #[.int .u64 (bX a dmax f ((i:Int)-348)).1,.int .i64 (bX a dmax f ((i:Int)-348)).2]) w):=by
 have r:=fun(w:H) b o c0 c1 c2=>dY (m-1024) (aN i) (aX i) s w b o c0 c1 c2 (by omega) c d F;have t:=fun(w:H) b o c0 c1 c2=>dY (m+1024) (aN i) (aX i) s w b o c0 c1 c2 (by omega) c d F;have C:=fun(w:H) b o c0 c1 c2=>dY m (aN i) (aX i) s w b o c0 c1 c2 (by omega) c d F;rw[u]at r;rw[v]at t;rw[x]at C;have V:((m-1024:Nat):Int)=(m:Int)-1024:=by{omega};have W:((m+1024:Nat):Int)=(m:Int)+1024:=by{omega};rw[V]at r;rw[W]at t;have ha:=xP (m / 2048) (by omega);have e5:((m / 2048:Nat):Int)=(m:Int) / 2048:=by{omega};rw[E,e5]at ha;have a9:odd<=1:=by{omega};have j1:p<18446744073709551616:=by{rw[<-n1];exact kX _ _};have j2:l<18446744073709551616:=by{rw[<-K];exact kX _ _};have j3:dmax<18446744073709551616:=by{omega};have P:=fun w=>mO A p odd w (by rw[<-u];exact dC _ _ _ _ (by omega) c d) n1;have Q:=fun w=>mO z l (-(odd:Int)) w (by rw[<-v];exact dC _ _ _ _ (by omega) c d) K;have M:=fun w=>aAW p a w j1 k1;have F1:=fun w=>yG l dmax w j2 k2;have R:=fun w=>oS y f w (by rw[<-x];exact dC _ _ _ _ (by omega) c d) k3;have l1:A<18446744073709551616:=by{rw[<-u];exact dC _ _ _ _ (by omega) c d};have l2:z<18446744073709551616:=by{rw[<-v];exact dC _ _ _ _ (by omega) c d};have l3:y<18446744073709551616:=by{rw[<-x];exact dC _ _ _ _ (by omega) c d};have ao:=Z r;have ar:=Z t;have av:=Z C;have N:=Z T;have HS:=Z hs;have HO:=Z E;have ah:=Z P;have al:=Z Q;have ab:=Z M;have ad:=Z F1;have an:=Z R;clear r t C u v x c d T hs E P Q M F1 R n1 K k1 k2 k3 V W e5;have a8:((m:Int)==9223372036854775808)=false:=ai.2 (by omega);go_enter Tryz.func265,Tryz.ntmps265
 go_wp2_with (first
  | (go_at_call 260;refine(vF _ _ (by omega) (by omega)).mono ?_;rintro e w' ⟨rfl,rfl⟩)
  | (go_at_call 272;refine(oQ _ _ (by omega) (by omega)).mono ?_;rintro e w' ⟨rfl,rfl⟩))
 have S:aA (w.alloc (.cells #[.int .u64 0,.int .u64 0,.int .i64 0] 265)):=N.o.below ((aj w.heap.size w).alloc oK _) oK;have X:=bi w (.cells #[.int .u64 0,.int .u64 0,.int .i64 0] 265);have a0:=N.o.size;refine(iW e J s i _ w.heap.size _ _ _ _ X rfl hi (by omega) S (by omega) (by omega) (by omega) (by omega) HS.o).mono ?_;rintro e1 w1 ⟨rfl,j,q⟩;have a1:w.heap.size<w1.heap.size:=by{have:=q.size;simp at this;omega};have L:Below w.heap.size w w1:=(((aG.refl (fun _=>False) w).alloc _).trans' q (fun _ _ h=>by omega)).below oK (fun _ _ h=>h.elim);have B:=Z L;have a2:=Z q;have c0:=aq w1 w.heap.size 0 _ _ _ j;have c1:=aq w1 w.heap.size 1 _ _ _ j;have c2:=aq w1 w.heap.size 2 _ _ _ j;simp at c0 c1 c2;obtain⟨g,aa⟩:∃g,w.heap.size=g:=⟨_,rfl⟩;rw[aa]at c0 c1 c2 j a1 ⊢
 clear S X q L aa a0 j;go_wp2_with (first
  | (go_at_call 274;((with_reducible refine(ao.o _ _ _ ?_ ?_ ?_).mono ?_);all_goals first|exact c0|exact c1|exact c2|skip);rintro e w' ⟨rfl,n,rfl⟩)
  | (go_at_call 274;((with_reducible refine(ar.o _ _ _ ?_ ?_ ?_).mono ?_);all_goals first|exact c0|exact c1|exact c2|skip);rintro e w' ⟨rfl,n,rfl⟩)
  | (go_at_call 274;((with_reducible refine(av.o _ _ _ ?_ ?_ ?_).mono ?_);all_goals first|exact c0|exact c1|exact c2|skip);rintro e w' ⟨rfl,n,rfl⟩)
  | (go_at_call 277;((with_reducible refine(an.o _).mono ?_);rintro e w' ⟨rfl,rfl⟩))
  | (go_at_call 283;((with_reducible refine(ah.o _).mono ?_);rintro e w' ⟨rfl,rfl⟩))
  | (go_at_call 283;((with_reducible refine(al.o _).mono ?_);rintro e w' ⟨rfl,rfl⟩))
  | (go_at_call 284;((with_reducible refine(ab.o _).mono ?_);rintro e w' ⟨rfl,rfl⟩))
  | (go_at_call 285;((with_reducible refine(ad.o _).mono ?_);rintro e w' ⟨rfl,rfl⟩)))
 {have k:a<=dmax / 10*10:=by{omega};go_ret2;refine⟨?_,B.o.trans ⟨rfl,rfl,rfl,ag _,fun _ _=>rfl⟩⟩;have e:bX a dmax f ((i:Int)-348)=(dmax / 10,-((i:Int)-348-1)):=by{unfold bX;rw[ae k]};rw[e];rfl};{have k:¬a<=dmax / 10*10:=by{omega};have D:a<dmax:=by{assumption};go_ret2;refine⟨?_,B.o.trans ⟨rfl,rfl,rfl,ag _,fun _ _=>rfl⟩⟩;have e:bX a dmax f ((i:Int)-348)=(f,-((i:Int)-348)):=by{unfold bX;rw[ac k,ae D]};rw[e];rfl};{have k:¬a<=dmax / 10*10:=by{omega};have D:¬a<dmax:=by{assumption};go_ret2;refine⟨?_,B.o.trans ⟨rfl,rfl,rfl,ag _,fun _ _=>rfl⟩⟩;have e:bX a dmax f ((i:Int)-348)=(a,-((i:Int)-348)):=by{unfold bX;rw[ac k,ac D]};rw[e];rfl}
open Go.RowKit
theorem aLJ (m:Nat)(e J:Int)(i s odd A z y p l a dmax f:Nat)(w:H)(T:aA w)(a4:-1085<e)(a5:e<=1000)(a0:m=9223372036854775808)
  (hp:-(((e+11)*631305-261663) / 2097152)=(i:Int)-348) (hi:i<696) (a6:((i:Int)-348)*108853 / 32768=J) (hs:-(e+J+3)=s) (F:s<64) (E:m / 2048%2=odd)
  (u:cZ (m-512) (aN i) (aX i) s=A) (v:cZ (m+1024) (aN i) (aX i) s=z) (x:cZ m (aN i) (aX i) s=y)
  (n1:fR A odd=p) (K:fR z (-(odd:Int))=l) (k1:sO p=a) (k2:l / 4=dmax) (k3:gU y=f) (c:aN i<18446744073709551616) (d:aX i<18446744073709551616) :
  Y 265 #[.int .u64 m,.int .i64 e] w (O (.tuple #[.int .u64 (bX a dmax f ((i:Int)-348)).1,.int .i64 (bX a dmax f ((i:Int)-348)).2]) w):=by
 have r:=fun(w:H) b o c0 c1 c2=>dY (m-512) (aN i) (aX i) s w b o c0 c1 c2 (by omega) c d F;have t:=fun(w:H) b o c0 c1 c2=>dY (m+1024) (aN i) (aX i) s w b o c0 c1 c2 (by omega) c d F;have C:=fun(w:H) b o c0 c1 c2=>dY m (aN i) (aX i) s w b o c0 c1 c2 (by omega) c d F;rw[u]at r;rw[v]at t;rw[x]at C;have V:((m-512:Nat):Int)=(m:Int)-512:=by{omega};have W:((m+1024:Nat):Int)=(m:Int)+1024:=by{omega};rw[V]at r;rw[W]at t;have ha:=xP (m / 2048) (by omega);have e5:((m / 2048:Nat):Int)=(m:Int) / 2048:=by{omega};rw[E,e5]at ha;have bd:odd<=1:=by{omega};have j1:p<18446744073709551616:=by{rw[<-n1];exact kX _ _};have j2:l<18446744073709551616:=by{rw[<-K];exact kX _ _};have j3:dmax<18446744073709551616:=by{omega};have P:=fun w=>mO A p odd w (by rw[<-u];exact dC _ _ _ _ (by omega) c d) n1;have Q:=fun w=>mO z l (-(odd:Int)) w (by rw[<-v];exact dC _ _ _ _ (by omega) c d) K;have M:=fun w=>aAW p a w j1 k1;have F1:=fun w=>yG l dmax w j2 k2;have R:=fun w=>oS y f w (by rw[<-x];exact dC _ _ _ _ (by omega) c d) k3;have l1:A<18446744073709551616:=by{rw[<-u];exact dC _ _ _ _ (by omega) c d};have l2:z<18446744073709551616:=by{rw[<-v];exact dC _ _ _ _ (by omega) c d};have l3:y<18446744073709551616:=by{rw[<-x];exact dC _ _ _ _ (by omega) c d};have ao:=Z r;have ar:=Z t;have av:=Z C;have N:=Z T;have HS:=Z hs;have HO:=Z E;have ah:=Z P;have al:=Z Q;have ab:=Z M;have ad:=Z F1;have an:=Z R;clear r t C u v x c d T hs E P Q M F1 R n1 K k1 k2 k3 V W e5;have a9:((m:Int)==9223372036854775808)=true:=cv.2 (by omega);have a7:9223372036854775808<=m:=by{omega};have a8:m<=9223372036854775808:=by{omega};clear a0;go_enter Tryz.func265,Tryz.ntmps265
 go_wp2_with (first
  | (go_at_call 282;refine(aJr _ _ (by omega) (by omega)).mono ?_;rintro e w' ⟨rfl,rfl⟩)
  | (go_at_call 272;refine(oQ _ _ (by omega) (by omega)).mono ?_;rintro e w' ⟨rfl,rfl⟩))
 have S:aA (w.alloc (.cells #[.int .u64 0,.int .u64 0,.int .i64 0] 265)):=N.o.below ((aj w.heap.size w).alloc oK _) oK;have X:=bi w (.cells #[.int .u64 0,.int .u64 0,.int .i64 0] 265);have a1:=N.o.size;refine(iW e J s i _ w.heap.size _ _ _ _ X rfl hi (by omega) S (by omega) (by omega) (by omega) (by omega) HS.o).mono ?_;rintro e1 w1 ⟨rfl,j,q⟩;have a2:w.heap.size<w1.heap.size:=by{have:=q.size;simp at this;omega};have L:Below w.heap.size w w1:=(((aG.refl (fun _=>False) w).alloc _).trans' q (fun _ _ h=>by omega)).below oK (fun _ _ h=>h.elim);have B:=Z L;have a3:=Z q;have c0:=aq w1 w.heap.size 0 _ _ _ j;have c1:=aq w1 w.heap.size 1 _ _ _ j;have c2:=aq w1 w.heap.size 2 _ _ _ j;simp at c0 c1 c2;obtain⟨g,aa⟩:∃g,w.heap.size=g:=⟨_,rfl⟩;rw[aa]at c0 c1 c2 j a2 ⊢
 clear S X q L aa a1 j;go_wp2_with (first
  | (go_at_call 274;((with_reducible refine(ao.o _ _ _ ?_ ?_ ?_).mono ?_);all_goals first|exact c0|exact c1|exact c2|skip);rintro e w' ⟨rfl,n,rfl⟩)
  | (go_at_call 274;((with_reducible refine(ar.o _ _ _ ?_ ?_ ?_).mono ?_);all_goals first|exact c0|exact c1|exact c2|skip);rintro e w' ⟨rfl,n,rfl⟩)
  | (go_at_call 274;((with_reducible refine(av.o _ _ _ ?_ ?_ ?_).mono ?_);all_goals first|exact c0|exact c1|exact c2|skip);rintro e w' ⟨rfl,n,rfl⟩)
  | (go_at_call 277;((with_reducible refine(an.o _).mono ?_);rintro e w' ⟨rfl,rfl⟩))
  | (go_at_call 283;((with_reducible refine(ah.o _).mono ?_);rintro e w' ⟨rfl,rfl⟩))
  | (go_at_call 283;((with_reducible refine(al.o _).mono ?_);rintro e w' ⟨rfl,rfl⟩))
  | (go_at_call 284;((with_reducible refine(ab.o _).mono ?_);rintro e w' ⟨rfl,rfl⟩))
  | (go_at_call 285;((with_reducible refine(ad.o _).mono ?_);rintro e w' ⟨rfl,rfl⟩)))
 {have k:a<=dmax / 10*10:=by{omega};go_ret2;refine⟨?_,B.o.trans ⟨rfl,rfl,rfl,ag _,fun _ _=>rfl⟩⟩;have e:bX a dmax f ((i:Int)-348)=(dmax / 10,-((i:Int)-348-1)):=by{unfold bX;rw[ae k]};rw[e];rfl};{have k:¬a<=dmax / 10*10:=by{omega};have D:a<dmax:=by{assumption};go_ret2;refine⟨?_,B.o.trans ⟨rfl,rfl,rfl,ag _,fun _ _=>rfl⟩⟩;have e:bX a dmax f ((i:Int)-348)=(f,-((i:Int)-348)):=by{unfold bX;rw[ac k,ae D]};rw[e];rfl};{have k:¬a<=dmax / 10*10:=by{omega};have D:¬a<dmax:=by{assumption};go_ret2;refine⟨?_,B.o.trans ⟨rfl,rfl,rfl,ag _,fun _ _=>rfl⟩⟩;have e:bX a dmax f ((i:Int)-348)=(a,-((i:Int)-348)):=by{unfold bX;rw[ac k,ac D]};rw[e];rfl}
open Go.RowKit
def gH (S:Nat):Prop:=S=0\/S=9223372036854775808
theorem aD3 (S a:Nat)(c:gH S)(d:a<9223372036854775808):S ||| a=S+a:=by
 rcases c with rfl|rfl;{rw[Nat.zero_or,be]};{have:=tv (i:=63) (b:=a) (by simpa using d) 1;simpa using this.symm}
theorem rI (S a:Nat)(b:gH S)(c:a<9223372036854775808):bits .or .u64 (S:Int) (a:Int)=((S+a:Nat):Int):=by
 have:S<=9223372036854775808:=by{rcases b with rfl|rfl<;>omega};rw[mj S a (by omega) (by omega),aD3 S a b c]
theorem aGO (S:Nat)(a:gH S):∃h,h<2048/\S=h*9007199254740992:=by
 rcases a with rfl|rfl;{exact⟨0,by omega,rfl⟩};{exact⟨1024,by omega,rfl⟩}
theorem aHR (x n:Nat):x &&& 2^n=x / 2^n%2*2^n:=by
 have p:=ay n;have d:=vz (a:=x) (b:=2^n) (n:=n);have r:=v8 (a:=x) (b:=2^n) (n:=n);rw[tf p,Nat.and_one_is_mod]at d;rw[tg,Nat.and_zero]at r;have:=lu (x &&& 2^n) (2^n);rw[d,r,il,bo]at this;exact this.symm
theorem zY (S m:Nat)(a:gH S)(d:m<9007199254740992):bits .and .u64 ((S+m:Nat):Int) 4503599627370496=((if m<4503599627370496 then 0 else 4503599627370496:Nat):Int):=by
 have:S<=9223372036854775808:=by{rcases a with rfl|rfl<;>omega};obtain⟨h,c,rfl⟩:=aGO S a;have e:=np (h*9007199254740992+m) 4503599627370496 (by omega) (by omega);refine e.trans ?_;congr 1;have t:=aHR (h*9007199254740992+m) 52;have b:(2:Nat)^52=4503599627370496:=by{decide};rw[b]at t;rw[t];split<;>omega
theorem aMl (S m:Nat)(a:gH S)(c:m<9223372036854775808):bits .and .u64 ((S+m:Nat):Int) 9223372036854775808=(S:Int):=by
 have:S<=9223372036854775808:=by{rcases a with rfl|rfl<;>omega};have e:=np (S+m) 9223372036854775808 (by omega) (by omega);refine e.trans ?_;congr 1;have t:=aHR (S+m) 63;have b:(2:Nat)^63=9223372036854775808:=by{decide};rw[b]at t;rw[t];rcases a with rfl|rfl<;>omega
theorem aGU (S f:Nat)(i:gH S)(l:f<4503599627370496):bits .andNot .u64 ((S+(4503599627370496+f):Nat):Int) 4503599627370496=((S+f:Nat):Int):=by
 obtain⟨h,k,rfl⟩:=aGO S i;have e:=u64_andNot_nat (h*9007199254740992+(4503599627370496+f)) 4503599627370496 (by omega) (by omega);refine e.trans ?_;congr 1;have m:18446744073709551615-4503599627370496=2047*9007199254740992+4503599627370495:=by{decide};rw[m];have j:(2:Nat)^53=9007199254740992:=by{decide};have d:=vz (a:=h*9007199254740992+(4503599627370496+f)) (b:=2047*9007199254740992+4503599627370495) (n:=53);have r:=v8 (a:=h*9007199254740992+(4503599627370496+f)) (b:=2047*9007199254740992+4503599627370495) (n:=53);rw[j]at d r;rw[show(h*9007199254740992+(4503599627370496+f)) / 9007199254740992=h by omega,show(2047*9007199254740992+4503599627370495) / 9007199254740992=2047 by omega,show(2047:Nat)=2^11-1 from rfl,jq]at d;rw[show(h*9007199254740992+(4503599627370496+f))%9007199254740992=4503599627370496+f by omega,show(2047*9007199254740992+4503599627370495)%9007199254740992=2^52-1 by omega,jq]at r;have c:(2:Nat)^11=2048:=by{decide};have g:(2:Nat)^52=4503599627370496:=by{decide};rw[c]at d;rw[g]at r;generalize (h*9007199254740992+(4503599627370496+f)) &&& ((2^11-1)*9007199254740992+4503599627370495)=x at *;omega
theorem aK5 (S f k:Nat)(a:gH S)(c:f<4503599627370496):bits .or .u64 ((S+f:Nat):Int) ((k*4503599627370496:Nat):Int)=((S+(k*4503599627370496+f):Nat):Int)\/2047<k:=by
 by_cases h:k<2048;{left;have:S<=9223372036854775808:=by{rcases a with rfl|rfl<;>omega};rw[mj (S+f) (k*4503599627370496) (by omega) (by omega),<-aD3 S f a (by omega)];have e:f ||| k*4503599627370496=k*4503599627370496+f:=by{have:=tv (i:=52) (b:=f) (by simpa using c) k;rw[ti,bo];simpa using this.symm};rw[Nat.or_assoc,e,aD3 S _ a (by omega)]};{exact .inr (by omega)}
theorem aNt (S m:Nat)(e:Int)(w:H)(a:gH S)(c:m<4503599627370496) :
  Y 279 #[.int .u64 ((S+m:Nat):Int),.int .i64 e] w fun f w'=>f=.returned (.tuple #[.float .f64 (S+m),.nilIface])/\w=w':=by
 have b:=zY S m a (by omega);rw[ae c]at b
 have d:=fun w=>nH ((S+m:Nat):Int) w
 simp only[fh]at d;obtain⟨x,hx⟩:∃x,S+m=x:=⟨_,rfl⟩
 rw[hx]at b d ⊢
 clear hx c a;go_enter Tryz.func279,Tryz.ntmps279
 go_wp2
 go_ret2;exact⟨rfl,rfl⟩
theorem aNs (S m:Nat)(e:Int)(w:H)(a:gH S)(i:4503599627370496<=m)(j:m<9007199254740992)(k:972<=e) :
  Y 279 #[.int .u64 ((S+m:Nat):Int),.int .i64 e] w fun f w'=>f=.returned (.tuple #[.float .f64 (S+9218868437227405312),.iface 158 (.int .i64 1)])/\w=w':=by
 have b:bits .and .u64 ((S+m:Nat):Int) 4503599627370496=4503599627370496:=by
  have b:=zY S m a (by omega);rw[ac (by omega)]at b
  exact b
 have g:=aMl S m a (by omega);have h:bits .or .u64 (S:Int) 9218868437227405312=((S+9218868437227405312:Nat):Int):=rI S 9218868437227405312 a (by omega);have d:=fun w=>nH ((S+9218868437227405312:Nat):Int) w
 simp only[fh]at d;obtain⟨x,hx⟩:∃x,S+m=x:=⟨_,rfl⟩
 obtain⟨y,c⟩:∃y,S+9218868437227405312=y:=⟨_,rfl⟩
 rw[hx]at b g ⊢
 rw[c]at h d ⊢
 clear hx c i j a;go_enter Tryz.func279,Tryz.ntmps279
 go_wp2
 go_ret2;exact⟨rfl,rfl⟩
theorem aK7 (S m:Nat)(k:Nat)(e:Int)(w:H)(a:gH S)(q:4503599627370496<=m)(r:m<9007199254740992)(p:e=(k:Int)-1074)(B:k<2046) :
  Y 279 #[.int .u64 ((S+m:Nat):Int),.int .i64 e] w fun n w'=>n=.returned (.tuple #[.float .f64 (S+(k*4503599627370496+m)),.nilIface])/\w=w':=by
 have g:=zY S m a (by omega);rw[ac (by omega)]at g
 obtain⟨f,rfl⟩:∃f,m=4503599627370496+f:=⟨m-4503599627370496,by omega⟩
 have h:=aGU S f a (by omega);have b:=(aK5 S f (k+1) a (by omega)).resolve_right (by omega);have o:((k+1)*4503599627370496:Nat)=k*4503599627370496+4503599627370496:=by omega
 have c:S+((k+1)*4503599627370496+f)=S+(k*4503599627370496+(4503599627370496+f)):=by omega
 rw[c]at b
 have d:=fun w=>nH ((S+(k*4503599627370496+(4503599627370496+f)):Nat):Int) w
 simp only[fh]at d;have s:IntKind.u64.wrap (((k:Int)+1)*4503599627370496)=(((k+1)*4503599627370496:Nat):Int):=by rw[dV];omega
 have A:(1075:Int)+((k:Int)-1074)=(k:Int)+1:=by omega
 have t:(0:Int)<=(k:Int)+1:=by omega
 have u:(k:Int)+1<=2046:=by omega
 subst p;obtain⟨x,hx⟩:∃x,S+(4503599627370496+f)=x:=⟨_,rfl⟩
 obtain⟨y,j⟩:∃y,S+(k*4503599627370496+(4503599627370496+f))=y:=⟨_,rfl⟩
 obtain⟨z,l⟩:∃z,S+f=z:=⟨_,rfl⟩
 obtain⟨v,i⟩:∃v,(k+1)*4503599627370496=v:=⟨_,rfl⟩
 rw[hx]at g h ⊢
 rw[l]at h b
 rw[i]at b s
 rw[j]at b d ⊢
 clear hx j l i q r a o c;go_enter Tryz.func279,Tryz.ntmps279
 go_wp2
 go_ret2;exact⟨rfl,rfl⟩
theorem aG0 (w:H):Y 275 #[.int .u64 9007199254740992] w fun e w'=>e=.returned (.int .u64 36028797018963966)/\w=w':=by
 go_enter Tryz.func275,Tryz.ntmps275;go_wp2;go_ret;exact⟨rfl,rfl⟩
open Go.RowKit
theorem aCO (d b:Nat)(w:H)(hd:d<18446744073709551616)(a:Lib.bitLen d=b):Y 191 #[.int .u64 (d:Int)] w fun e w'=>e=.returned (.int .i64 b)/\w=w':=by
 refine(Tryz.bits_Len64 _ _ (by omega) (by omega)).mono ?_;rintro e w' ⟨rfl,rfl⟩;rw[fh,a];exact⟨rfl,rfl⟩
theorem aC4 (d i b S s:Nat)(lp e:Int)(w:H)(T:aA w)(n:gH S)(hd:d<18446744073709551616)(p:Lib.bitLen d=b)(K:b<=64)(hi:i<696)(u:((i:Int)-348)*108853 / 32768=lp)(q:min 1074 (53-(b:Int)-lp)=e)(v:-(e-(64-(b:Int))+lp+3)=s)(J:64<=s) :
  Y 245 #[.int .u64 d,.int .i64 ((i:Int)-348),.int .u64 S] w (O (.tuple #[.float .f64 S,.nilIface]) w):=by
 have L:=fun w=>aCO d b w hd p;have y:=Z L;have C:=fun w=>nH (S:Int) w;simp only[fh]at C;have R:bits .or .u64 (S:Int) 0=(S:Int):=by{have:=rI S 0 n (by omega);exact this};have B:=Z T;have f:=Z u;have c:=Z q;have A:=Z v;have D:=T.size;clear L T u q v p n;have l:∀w,Y 272 #[.int .i64 ((i:Int)-348)] w fun e w'=>e=.returned (.int .i64 lp)/\w=w':=fun w=>by{have:=oQ ((i:Int)-348) w (by omega) (by omega);rw[f.o]at this;exact this};have P:-1200<=lp:=by{have:=f.o;omega};have Q:lp<=1200:=by{have:=f.o;omega};have z:=Z l;have M:-1300<=e:=by{have:=c.o;omega};have N:e<=1074:=by{have:=c.o;omega};clear l;go_enter Tryz.func245,Tryz.ntmps245
 go_wp2_with (first
  | (go_at_call 191;((with_reducible refine(y.o _).mono ?_);rintro e w' ⟨rfl,rfl⟩))
  | (go_at_call 272;((with_reducible refine(z.o _).mono ?_);rintro e w' ⟨rfl,rfl⟩)))
 rw[c.o];have m:aA (w.alloc (.cells #[.int .u64 0,.int .u64 0,.int .i64 0] 265)):=B.o.below ((aj w.heap.size w).alloc oK _) oK;have r:=bi w (.cells #[.int .u64 0,.int .u64 0,.int .i64 0] 265);refine(iW (e-(64-(b:Int))) lp s i _ w.heap.size _ _ _ _ r rfl hi (by omega) m (by omega) (by omega) (by omega) (by omega) A.o).mono ?_;rintro F w1 ⟨rfl,a,j⟩;have E:w.heap.size<w1.heap.size:=by{have:=j.size;simp at this;omega};have k:Below w.heap.size w w1:=(((aG.refl (fun _=>False) w).alloc _).trans' j (fun _ _ h=>by omega)).below oK (fun _ _ h=>h.elim);have x:=Z k;have c0:=aq w1 w.heap.size 0 _ _ _ a;have c1:=aq w1 w.heap.size 1 _ _ _ a;have c2:=aq w1 w.heap.size 2 _ _ _ a;simp at c0 c1 c2;obtain⟨g,t⟩:∃g,w.heap.size=g:=⟨_,rfl⟩;rw[t]at c0 c1 c2 a E ⊢;clear m r j k t D a;go_wp2;go_ret2;exact⟨rfl,x.o⟩
theorem aDD (u:Nat):cM u<=u+1:=by
 unfold cM;split;{have:u%2=0\/u%2=1:=by{omega};rcases this with h|h;{rw[h,jx];omega};{rw[h,uI];omega}};{omega}
theorem aOV (u:Nat):iO u<=1:=by unfold iO;split<;>omega
def oR (S k m:Nat):Nat:=S+min (k*4503599627370496+m) 9218868437227405312
def wQ (k:Nat):Value:=if 2046<=k then .iface 158 (.int .i64 1)else .nilIface
def rM (S k m:Nat)(e:Ending):Prop:=e=.returned (.tuple #[.float .f64 (oR S k m),wQ k])
theorem aNr (S k m:Nat)(w:H)(a:gH S)(c:m<9007199254740992)(h:4503599627370496<=m\/k=0)(f:k<4000) :
  Y 279 #[.int .u64 ((S+m:Nat):Int),.int .i64 ((k:Int)-1074)] w fun d w'=>rM S k m d/\w=w':=by
 unfold rM oR wQ;by_cases e:m<4503599627370496
 ·obtain rfl:k=0:=by omega
  rw[ac (by decide),i8,be,jn (by omega)];exact aNt S m _ w a e
 ·by_cases b:2046<=k
  ·rw[ae b,o8 (by omega)];exact aNs S m ((k:Int)-1074) w a (by omega) c (by omega)
  ·rw[ac b,jn (by omega)];exact aK7 S m k _ w a (by omega) c rfl (by omega)
theorem aBs (d i b S s u k m x:Nat)(lp e:Int)(w:H)(T:aA w)(C:gH S)(hd:d<18446744073709551616)(R:Lib.bitLen d=b)(a3:b<=64)(hi:i<696)(ab:((i:Int)-348)*108853 / 32768=lp)(V:min 1074 (53-(b:Int)-lp)=e)(hs:-(e-(64-(b:Int))+lp+3)=s)(ar:s<64)
  (hx:d*2^(64-b)=x) (a1:x<18446744073709551616) (hu:cZ x (aN i) (aX i) s=u) (a8:u<9223372036854775808) (hm:bK (cM u)=m) (ad:gU (cM u)=m) (av:m<9007199254740992) (hk:((k:Int)-1074)=-(e-iO u)) (aa:4503599627370496<=m\/k=0) :
  Y 245 #[.int .u64 d,.int .i64 ((i:Int)-348),.int .u64 S] w fun e' w'=>rM S k m e'/\Below w.heap.size w w':=by
 have L:=fun w=>aCO d b w hd R
 have HL:=Z L;obtain⟨r1,r2,r3⟩:=wX i hi;clear r3;have A:=fun(w:H) b o c0 c1 c2=>dY x (aN i) (aX i) s w b o c0 c1 c2 a1 r1 r2 ar
 rw[hu]at A
 have an:=Z A;have ah:IntKind.u64.wrap ((d:Int)*2^(64-b))=(x:Int):=by
  rw[dV,<-hx];have:((d*2^(64-b):Nat):Int)=(d:Int)*2^(64-b):=by push_cast;rfl
  rw[<-this];omega
 have ao:=Z ah;have P:=fun w=>oS (cM u) m w (by have:=aDD u;omega) ad
 have N:=fun w=>aNr S k m w C av aa (by have:=aOV u;omega)
 have a9:=rI S m C (by omega);have K:=Z P;have J:=Z N;have F:=Z hk;clear ah P N hk hx aa hm ad;clear A r1 r2 hu;have HT:=Z T;have y:=Z ab;have r:=Z V;have HS:=Z hs;have a0:=T.size;clear L T ab V hs R C;have M:∀w,Y 272 #[.int .i64 ((i:Int)-348)] w fun e w'=>e=.returned (.int .i64 lp)/\w=w':=fun w=>by
  have:=oQ ((i:Int)-348) w (by omega) (by omega);rw[y.o]at this
  exact this
 have a6:-1200<=lp:=by have:=y.o;omega
 have a7:lp<=1200:=by have:=y.o;omega
 have al:=Z M;have a4:-1300<=e:=by have:=r.o;omega
 have a5:e<=1074:=by have:=r.o;omega
 clear M;go_enter Tryz.func245,Tryz.ntmps245
 go_wp2_with (first
  | (go_at_call 191;((with_reducible refine(HL.o _).mono ?_);rintro e w' ⟨rfl,rfl⟩))
  | (go_at_call 272;((with_reducible refine(al.o _).mono ?_);rintro e w' ⟨rfl,rfl⟩)))
 rw[r.o];have Q:aA (w.alloc (.cells #[.int .u64 0,.int .u64 0,.int .i64 0] 265)):=HT.o.below ((aj w.heap.size w).alloc oK _) oK;have W:=bi w (.cells #[.int .u64 0,.int .u64 0,.int .i64 0] 265);refine(iW (e-(64-(b:Int))) lp s i _ w.heap.size _ _ _ _ W rfl hi (by omega) Q (by omega) (by omega) (by omega) (by omega) HS.o).mono ?_;rintro a w1 ⟨rfl,p,z⟩;have a2:w.heap.size<w1.heap.size:=by have:=z.size;simp at this;omega
 have D:Below w.heap.size w w1:=(((aG.refl (fun _=>False) w).alloc _).trans' z (fun _ _ h=>by omega)).below oK (fun _ _ h=>h.elim);have E:=Z D;have c0:=aq w1 w.heap.size 0 _ _ _ p;have c1:=aq w1 w.heap.size 1 _ _ _ p;have c2:=aq w1 w.heap.size 2 _ _ _ p;simp at c0 c1 c2;obtain⟨g,X⟩:∃g,w.heap.size=g:=⟨_,rfl⟩
 rw[X]at c0 c1 c2 p a2 ⊢
 clear Q W z D X a0 p;go_wp2_with fail
 rw[ao.o];refine(an.o w1 g 0 c0 c1 c2).mono ?_;rintro e w2 ⟨rfl,n,rfl⟩;by_cases c:36028797018963966<=u
 ·have c':(36028797018963966:Int)<=u:=by omega
  go_wp2_with (first
   | (go_at_call 275;((with_reducible refine(aG0 _).mono ?_);rintro e w' ⟨rfl,rfl⟩))
   | (go_at_call 266;((with_reducible refine(aDB _).mono ?_);rintro e w' ⟨rfl,rfl⟩)))
  have j:bits .or .u64 ((u:Int) / 2) (bits .and .u64 (u:Int) 1)=((cM u:Nat):Int):=by
   have a:=xQ u (by omega);have B:=rS (u / 2) (u%2) (by omega) (by omega);rw[a];have e3:((u / 2:Nat):Int)=(u:Int) / 2:=by omega
   rw[<-e3,B];unfold cM;rw[ae c]
  rw[j];refine(K.o _).mono ?_;rintro a w3 ⟨rfl,rfl⟩;have l:-(e-1)=(k:Int)-1074:=by
   have:=F.o;unfold iO at this;rw[ae c]at this
   omega
  have f:(S:Int)+(m:Int)=((S+m:Nat):Int):=by omega
  have t:=Z l;have v:=Z f;clear l j f;go_wp2_with fail
  rw[v.o,t.o];refine(J.o _).mono ?_;rintro a w4 ⟨q,rfl⟩;unfold rM at q;subst q;go_wp2
  go_ret2;exact⟨rfl,E.o.trans ⟨rfl,rfl,rfl,ag _,fun _ _=>rfl⟩⟩
 ·have c':decide ((36028797018963966:Int)<=(u:Int))=false:=bp (by omega);go_wp2_with (first
   | (go_at_call 275;((with_reducible refine(aG0 _).mono ?_);rintro e w' ⟨rfl,rfl⟩))
   | (go_at_call 266;((with_reducible refine(aCn _).mono ?_);rintro e w' ⟨rfl,rfl⟩)))
  have j:bits .or .u64 (u:Int) (bits .and .u64 (u:Int) 1)=((cM u:Nat):Int):=by
   have a:=xQ u (by omega);have B:=rS u (u%2) (by omega) (by omega);rw[a,B];unfold cM;rw[ac c];congr 1;have:u%2=0\/u%2=1:=by omega
   rcases this with h|h
   ·rw[h,jx]
   ·rw[h,uI];omega
  rw[j];refine(K.o _).mono ?_;rintro a w3 ⟨rfl,rfl⟩;have l:-e=(k:Int)-1074:=by
   have:=F.o;unfold iO at this;rw[ac c]at this
   omega
  have f:(S:Int)+(m:Int)=((S+m:Nat):Int):=by omega
  have t:=Z l;have v:=Z f;clear l j f;go_wp2_with fail
  rw[v.o,t.o];refine(J.o _).mono ?_;rintro a w4 ⟨q,rfl⟩;unfold rM at q;subst q;go_wp2
  go_ret2;exact⟨rfl,E.o.trans ⟨rfl,rfl,rfl,ag _,fun _ _=>rfl⟩⟩
