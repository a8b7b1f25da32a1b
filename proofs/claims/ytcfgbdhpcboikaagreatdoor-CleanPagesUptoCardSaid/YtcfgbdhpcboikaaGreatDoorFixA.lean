/-
internal/strconv: div of an unrounded value; fixedWidthFloat in the form 'e'.
-/
import Derived.Test.YtcfgbdhpcboikaaGreatDoorAtofC
namespace Go.Proofs.YtcfgbdhpcboikaaGreatDoor
set_option maxHeartbeats 4000000
set_option maxRecDepth 100000
open Go.RowKit
def lX (u d:Nat):Nat:=u / d ||| u%2 ||| (if u%d=0 then 0 else 1)
theorem aO1 (u d:Nat)(w:H)(a:u<18446744073709551616)(s:1<=d)(hd:d<18446744073709551616):Y 286 #[.int .u64 u,.int .u64 d] w fun e w'=>e=.returned (.int .u64 (lX u d:Nat))/\∃n,w'=w.drewN n:=by
 have m:=xQ u a;have f:=Z m;clear m;have k:=rS (u / d) (u%2) (ko (nw _ _) a) (by omega);have j:u / d ||| u%2<18446744073709551616:=by{have two:(18446744073709551616:Nat)=2^64:=by{decide};rw[two];refine nx (by rw[<-two];exact ko (nw _ _) a) (by rw[<-two];omega)};have l:=rS (u / d ||| u%2) 1 j (by omega);have e3:=rS (u / d ||| u%2) 0 j (by omega);have nd:(d:Int)≠0:=by{omega};have p:IntKind.u64.wrap ((u:Int) / d)=((u / d:Nat):Int):=by{rw[<-nn];exact aB7 _ (ko (nw _ _) a)};have i:=Z p;clear p;have g:=Z k;have q:=Z l;have r:=Z e3;clear k l e3;go_enter Tryz.func286,Tryz.ntmps286;by_cases b:u%d=0;{have c:((u:Int)%d !=0)=false:=ir.2 (by rw[<-Int.natCast_emod,b];rfl);go_wp2_with fail;go_quiet ((go_at_call 295;exact qa ((aCo _).mono fun _ _ h=>⟨h.1,h.2.symm⟩)));go_wp2;go_ret;refine⟨?_,_,rfl⟩;unfold lX;rw[ae b,i.o,f.o,g.o];exact az _ (az _ r.o)};{have c:((u:Int)%d !=0)=true:=by{rw[db,<-Int.natCast_emod];omega};go_wp2_with fail;go_quiet ((go_at_call 295;exact qa ((aDC _).mono fun _ _ h=>⟨h.1,h.2.symm⟩)));go_wp2;go_ret;refine⟨?_,_,rfl⟩;unfold lX;rw[ac b,i.o,f.o,g.o];exact az _ (az _ q.o)}
theorem aO0 (u:Nat)(a:u<18446744073709551616):lX u 10<18446744073709551616:=by
 have two:(18446744073709551616:Nat)=2^64:=by{decide};unfold lX;rw[two]at a ⊢;refine nx (nx (ko (nw _ _) a) ?_) ?_;{rw[<-two];omega};{split<;>decide}
theorem aKl (u:Nat)(w:H)(a:u<18446744073709551616):Y 286 #[.int .u64 u,.int .u64 10] w fun e w'=>e=.returned (.int .u64 (lX u 10:Nat))/\∃n,w'=w.drewN n:=aO1 u 10 w a (by omega) (by omega)
def aFX (u n:Nat)(p:Int):Nat × Int:=if 4*10^n-2<=u then (gU (lX u 10),-(p-1))else (gU u,-p)
theorem aNw (n:Nat)(w:H)(h:n<20)(T:Lib.TabIs Tryz.prog w "internal/strconv.uint64pow10" .u64 Lib.pow10Tab):w.cell? ⟨9,n,none⟩=some (.int .u64 (10^n:Nat)):=by
 unfold Lib.TabIs World.var? at T;simp only[aIS,Option.bind_some]at T;split at T;{rename_i cs x y a;cases T;have:=aq w 9 n _ _ _ a;rw[this];simp[Lib.pow10Tab,h]};{cases T}
theorem aEL (x:Nat)(w:H)(a:1<=x)(b:x<4611686018427387904):Y 275 #[.int .u64 x] w fun e w'=>e=.returned (.int .u64 (4*x-2:Nat))/\w=w':=by
 go_enter Tryz.func275,Tryz.ntmps275;go_wp2;go_ret;refine⟨pA ?_,rfl⟩;omega
theorem aKx (m n:Nat)(e y ad N:Int)(i s u d:Nat)(w:H)(T:aA w)(al:-1140<=e)(an:e<=1000)(L:m<18446744073709551616)(n1:1<=n)(n2:n<=17)
  (hp:(n:Int)-1-(e+63)*78913 / 262144=(i:Int)-348) (hi:i<696) (ao:((i:Int)-348)*108853 / 32768=y) (M:-(e+y+3)=s) (X:s<64)
  (r:cZ m (aN i) (aX i) s=u) (a:aFX u n ((i:Int)-348)=(d,N)) (t:aN i<18446744073709551616) (v:aX i<18446744073709551616) :
  Y 261 #[.int .u64 m,.int .i64 e,.int .i64 n,.int .i64 ad,.int .u8 101] w (O (.tuple #[.int .u64 d,.int .i64 N]) w):=by
 have p:=fun(w:H) b o c0 c1 c2=>dY m (aN i) (aX i) s w b o c0 c1 c2 L t v X;rw[r]at p;have x:u<18446744073709551616:=by{rw[<-r];exact dC _ _ _ _ L t v};have B:=fun w=>oS u (gU u) w x rfl;have A:=Z p;have l:=Z T;have S:=Z M;have Q:=Z B;clear p r t v T M B;go_enter Tryz.func261,Tryz.ntmps261
 go_wp2_with (first
  | (go_at_call 260;refine(vF _ _ (by omega) (by omega)).mono ?_;rintro e w' ⟨rfl,rfl⟩)
  | (go_at_call 272;refine(oQ _ _ (by omega) (by omega)).mono ?_;rintro e w' ⟨rfl,rfl⟩))
 have D:aA (w.alloc (.cells #[.int .u64 0,.int .u64 0,.int .i64 0] 265)):=l.o.below ((aj w.heap.size w).alloc (ag _) _) (ag _);have J:=bi w (.cells #[.int .u64 0,.int .u64 0,.int .i64 0] 265);have aa:=l.o.size;refine(iW e y s i _ w.heap.size _ _ _ _ J rfl hi (by omega) D (by omega) (by omega) (by omega) (by omega) S.o).mono ?_;rintro e1 w1 ⟨rfl,c,f⟩;have ab:w.heap.size<w1.heap.size:=by{have:=f.size;simp at this;omega};have j:Below w.heap.size w w1:=(((aG.refl (fun _=>False) w).alloc _).trans' f (fun _ _ h=>by omega)).below (ag _) (fun _ _ h=>h.elim);have E:=l.o.below j (ag _);have z:=Z j;have ah:=Z f;have c0:=aq w1 w.heap.size 0 _ _ _ c;have c1:=aq w1 w.heap.size 1 _ _ _ c;have c2:=aq w1 w.heap.size 2 _ _ _ c;have V:=fun k=>aNw n (w1.drewN k) (by omega) (E.drewN k).u10;simp at c0 c1 c2;obtain⟨g,K⟩:∃g,w.heap.size=g:=⟨_,rfl⟩;rw[K]at c0 c1 c2 c ab ⊢;clear D E J f j K aa c;have hq:1<=10^n/\10^n<=100000000000000000:=⟨b7 (by decide),cc (n:=10) (by decide) n2⟩;unfold aFX at a;generalize 10^n=q at V hq a;obtain⟨P,q2⟩:=hq;by_cases F:4*q-2<=u
 ·have W:decide (((4*q-2:Nat):Int)<=(u:Int))=true:=bu (by omega);have l2:lX u 10<18446744073709551616:=aO0 u x;have C:=fun w=>oS (lX u 10) (gU (lX u 10)) w l2 rfl;have R:=Z C;clear C;rw[ae F]at a
  obtain⟨rfl,rfl⟩:=gz a;go_wp2_with (first
   | (go_at_call 274;((with_reducible refine(A.o _ _ _ ?_ ?_ ?_).mono ?_);all_goals first|exact c0|exact c1|exact c2|skip);rintro e w' ⟨rfl,k1,rfl⟩)
   | (go_at_call 275;((with_reducible refine(aEL q _ P (by omega)).mono ?_);rintro e w' ⟨rfl,rfl⟩))
   | (go_at_call 286;((with_reducible refine(aKl u _ x).mono ?_);rintro e w' ⟨rfl,k2,rfl⟩))
   | (go_at_call 277;((with_reducible refine(R.o _).mono ?_);rintro e w' ⟨rfl,rfl⟩)))
  go_ret2;refine⟨rfl,z.o.trans ⟨rfl,rfl,rfl,ag _,fun _ _=>rfl⟩⟩
 ·have W:decide (((4*q-2:Nat):Int)<=(u:Int))=false:=bp (by omega);rw[ac F]at a
  obtain⟨rfl,rfl⟩:=gz a;go_wp2_with (first
   | (go_at_call 274;((with_reducible refine(A.o _ _ _ ?_ ?_ ?_).mono ?_);all_goals first|exact c0|exact c1|exact c2|skip);rintro e w' ⟨rfl,k1,rfl⟩)
   | (go_at_call 275;((with_reducible refine(aEL q _ P (by omega)).mono ?_);rintro e w' ⟨rfl,rfl⟩))
   | (go_at_call 277;((with_reducible refine(Q.o _).mono ?_);rintro e w' ⟨rfl,rfl⟩)))
  go_ret2;refine⟨rfl,z.o.trans ⟨rfl,rfl,rfl,ag _,fun _ _=>rfl⟩⟩
theorem aL3 (A B:Nat)(b:0<B):lX (unr A B) 10=unr A (10*B):=by
 have e:∀u:Nat,lX u 10=if u%10=0 then u / 10 else 2*(u / 10 / 2)+1:=by{intro u;unfold lX;by_cases h:u%10=0;{rw[ae h,ae h,show u%2=0 by omega,jx,jx]};{rw[ac h,ac h];rcases rx u with a|a;{rw[a,jx,uI]};{rw[a,Nat.or_assoc,Nat.or_self,uI]}}}
 rw[e];have c:=fun k=>gV A B k b;have d:=fun k=>gA A B k b;refine(aIn _ _ (fun k=>?_) (fun k=>?_)).symm;{rw[gV _ _ _ (by omega),show k*(10*B)=(10*k)*B by rw[cx,af],<-c];split<;>omega};{rw[gA _ _ _ (by omega),show k*(10*B)=(10*k)*B by rw[cx,af],<-d];split<;>omega}
def vS (y:Nat):Int:=((y:Int)-1074)*78913 / 262144
def aFc (y:Nat):Prop:=10^(vS y).toNat*2^1074<=2^y*10^(-vS y).toNat/\2^y*10^(-(vS y+1)).toNat<10^(vS y+1).toNat*2^1074/\-324<=vS y/\vS y<=308
instance (y:Nat):Decidable (aFc y):=by unfold aFc;exact inferInstance
theorem aOY:((List.range 2098).all fun y=>decide (aFc y))=true:=by kernel_rfl
theorem aQ0 (y:Nat)(h:y<2098):aFc y:=bv (di.1 aOY y (fq.2 h))
def aIu (y n:Nat):Prop:=4<=60-((y:Int)-1074)-lpI ((n:Int)+347-vS y).toNat/\60-((y:Int)-1074)-lpI ((n:Int)+347-vS y).toNat<=63
instance (y n:Nat):Decidable (aIu y n):=by unfold aIu;exact inferInstance
theorem aRO:((List.range 2098).all fun y=>(List.range 17).all fun n=>decide (aIu y (n+1)))=true:=by kernel_rfl
theorem aSH (y n:Nat)(h:y<2098)(n1:1<=n)(a:n<=17):aIu y n:=by
 have:=bv (di.1 (di.1 aRO y (fq.2 h)) (n-1) (fq.2 (by omega)));rwa[show n-1+1=n by omega]at this
theorem aEv (a b c d X f:Nat)(h:a+d=c+b)(g:10^a*X<=f*10^b):10^c*X<=f*10^d:=by
 refine sf (c:=10^a) ?_ (eW a);have i:=fm (10^c) g;have e:10^a*10^d=10^c*10^b:=by rw[<-ap,<-ap,h]
 calc 10^a*(10^c*X)=10^c*(10^a*X):=cx _ _ _
  _<=10^c*(f*10^b):=i
  _=f*(10^c*10^b):=cx _ _ _
  _=f*(10^a*10^d):=by rw[e]
  _=10^a*(f*10^d):=cx _ _ _
theorem aGw (a b c d X e:Nat)(h:a+d=c+b)(f:e*10^b<10^a*X):e*10^d<10^c*X :=
 g9 fun g=>Nat.not_le_of_lt f (aEv c d a b X e (by omega) g)
theorem aIM (A B u n i:Nat)(k:0<B)(n1:1<=n)(w:n<=17)(hi:i<=696)(b:u=unr A (10^(696-i)*B))(r:10^(n-1)*(10^(696-i)*B)<=A)(m:A<2*(10^n*(10^(696-i)*B))) :
  ∃d j:Nat,aFX u n ((i:Int)-348)=(d,(j:Int)-348)/\(j=696-i\/j=697-i)/\Fx (2*A) B n d j:=by
 have a:=cn (eW (696-i)) k;have c:10^n=10*10^(n-1):=by{rw[<-gD];congr 1;omega};have o:=eW (n-1);have x:10^(n-1)<=10^16:=lR (by omega);have p:(10:Nat)^16=10000000000000000:=by{decide};have f:10^(697-i)*B=10*(10^(696-i)*B):=by{rw[show 697-i=696-i+1 by omega,gD,af]};have e:=aL3 A (10^(696-i)*B) a;have ev1:=vD A _ u a b;have l:=vD A _ (lX u 10) (show 0<10*(10^(696-i)*B) by omega) (by rw[b];exact e);have low:4*10^(n-1)<=u:=by{have:=(gV A (10^(696-i)*B) (2*10^(n-1)) a).2 (by rw[af];omega);omega};have t:u<=8*10^n:=by{have:=(gA A (10^(696-i)*B) (4*10^n) a).2 (by rw[af];omega);omega};unfold aFX;by_cases g:4*10^n-2<=u
 ·rw[ae g];have k1:(2*10^n-1)*(10^(696-i)*B)<=2*A:=by{have:=(gV A (10^(696-i)*B) (2*10^n-1) a).1 (by omega);exact this};have s:=Nat.le_mul_of_pos_left (10^(696-i)*B) o;generalize 10^(696-i)*B=C at *;rw[rz,da,af]at k1;have v:4*10^(n-1)-2<lX u 10:=by{rw[b,e];refine g9 fun h=>?_;have:=(gA A (10*C) (2*10^(n-1)-1) (by omega)).1 (by omega);rw[rz,da,af,cx _ 10]at this;rw[c,af]at k1;omega}
  have q:lX u 10<=8*10^(n-1):=by
   have:=(gA A (10*C) (4*10^(n-1)) (by omega)).2 (by
    rw[af,cx _ 10];rw[c,af]at m
    omega)
   rw[b,e];omega
  rw[nL _ (by omega)];have r1:10^(n-1)<=bK (lX u 10):=by{unfold bK;omega};have r2:bK (lX u 10)<=2*10^(n-1):=by{unfold bK;omega};refine⟨_,697-i,by congr 1;omega,.inr rfl,r1,by omega,n1,by rw[f];exact l,?_⟩;rw[af,f];rw[c,af]at k1;rw[cx _ 10];omega
 {rw[ac g,nL _ (by omega)];have r1:10^(n-1)<=bK u:=by{unfold bK;omega};have r2:bK u<10^n:=by{unfold bK;omega};refine⟨_,696-i,by congr 1;omega,.inl rfl,r1,r2,n1,ev1,?_⟩;rw[af];omega}
theorem aKw (M k z n:Nat)(e:Int)(J:k<2046)(l:1<=M)(A:M<9007199254740992)(K:4503599627370496<=M\/k=0)(Q:11<=z)(B:9223372036854775808<=M*2^z)(hx:M*2^z<18446744073709551616)
  (x:e=(k:Int)-1074-z) (n1:1<=n) (p:n<=17) :
  ∃i s:Nat,i<696/\(n:Int)-1-(e+63)*78913 / 262144=(i:Int)-348/\-(e+lpI i+3)=s/\s<64/\∃d j:Nat,aFX (cZ (M*2^z) (aN i) (aX i) s) n ((i:Int)-348)=(d,(j:Int)-348)/\8<=j/\j<=657/\Fx (2*(aV (k*4503599627370496+M)*10^348)) (2^1074) n d j:=by
 have R:z<=63:=by{refine fo fun h=>?_;have a:2^64<=2^z:=cc (by decide) h;have b:1*2^z<=M*2^z:=au _ l;have c:(2:Nat)^64=18446744073709551616:=by{decide};omega};obtain⟨y,P⟩:∃y:Nat,y=k+63-z:=⟨_,rfl⟩;have t:e+63=(y:Int)-1074:=by{omega};obtain⟨q,r,D,E⟩:=aQ0 y (by omega);obtain⟨s1,C⟩:=aSH y n (by omega) n1 p;rw[t];have w:((y:Int)-1074)*78913 / 262144=vS y:=rfl;rw[w];generalize vS y=L at *;obtain⟨i,hi⟩:∃i:Nat,i=((n:Int)+347-L).toNat:=⟨_,rfl⟩;rw[<-hi]at s1 C;obtain⟨s,N⟩:∃s:Nat,s=(60-((y:Int)-1074)-lpI i).toNat:=⟨_,rfl⟩;have m:-(e+lpI i+3)=s:=by{omega};have o:=kU k M A (by omega);have p2:2^y*2^z=2^k*9223372036854775808:=by{rw[show(9223372036854775808:Nat)=2^63 by decide,<-ap,<-ap];congr 1;omega};have v1:2^y<=M*2^k:=by{refine dv (c:=2^z) ?_ (ay z);rw[p2,mo];have:=au (2^k) B;rw[bo]at this;exact this};have v2:M*2^k<2*2^y:=by{refine gq (a:=2^z) ?_;rw[af 2,p2,mo];have:=d7 hx (ay k);have e:18446744073709551616*2^k=2*(2^k*9223372036854775808):=by{rw[bo (2^k)];omega};omega};have u1:=mR M z k i s z 0 e (by omega) l hx (by omega) x m (.inr ⟨by omega,by omega⟩);rw[fg,du]at u1;have u2:=u1.trans (zH M k i (k*4503599627370496+M) (by omega) o);rw[o]at u2 ⊢;have c1:10^(n-1)*(10^(696-i)*2^1074)<=M*2^k*10^348:=by{have f:=aEv L.toNat (-L).toNat (n-1+(696-i)) 348 _ _ (by omega) q;rw[ap,af]at f;exact bg f (au _ v1)};have c2:M*2^k*10^348<2*(10^n*(10^(696-i)*2^1074)):=by{have f:=aGw (L+1).toNat (-(L+1)).toNat (n+(696-i)) 348 _ _ (by omega) r;rw[ap,af]at f;have g:=d7 v2 (eW 348);rw[af 2 (2^y)]at g;exact cf g (fm 2 (b9 f))};obtain⟨d,j,u,F,v⟩:=aIM (M*2^k*10^348) (2^1074) _ n i (ay _) n1 p (by omega) u2 c1 c2;exact⟨i,s,by omega,by omega,m,by omega,d,j,u,by omega,by omega,v⟩
def RN0 (r a:Nat):Prop:=bY (bN a 0) (aK 0) r
theorem qT (r c j:Nat):bY (bN c j) (aK j) r↔RN0 r (c*10^j):=by
 have:=pY c 0 j r;rwa[be]at this
theorem aM8 (W C e d x y:Nat)(g:x+e=W)(f:y=W+d)(o:Prop) :
  ((x<=2*C/\(o->x<2*C))/\(2*C<=y/\(o->2*C<y)))↔((W<=2*C+e/\(o->W<2*C+e))/\(2*C<=W+d/\(o->2*C<W+d))):=by
 subst f;constructor;{rintro⟨⟨a,b⟩,c⟩;exact⟨⟨by omega,fun h=>by have:=b h;omega⟩,c⟩};{rintro⟨⟨a,b⟩,c⟩;exact⟨⟨by omega,fun h=>by have:=b h;omega⟩,c⟩}
theorem aRU {q r:Nat}(h:q<=r):ulp q<=ulp r:=cc (by decide) (by have:=uh (c:=4503599627370496) h;omega)
theorem aOn (r:Nat)(i:1<=r)(f:r<aQ):Iv (2*(aV r*10^348)) (ulp (r-1)*10^348) (ulp r*10^348) (2^1074) (r%2=1) (RN0 r):=by
 obtain⟨q,rfl⟩:∃q,r=q+1:=⟨r-1,by omega⟩;refine⟨fun a=>?_,ay 1074,cn (aIm _) (eW 348),au _ (aRU (by omega))⟩;have b:bN a 0=a*2^1074:=by unfold bN;rw[Nat.zero_sub,fg,du]
 have c:aK 0=10^348:=by{unfold aK;rw[Nat.sub_zero]};have v1:=jX q;have v2:=jX (q+1);rw[go];have s:=aM8 (2*(aV (q+1)*10^348)) (a*2^1074) (ulp q*10^348) (ulp (q+1)*10^348) ((aV q+aV (q+1))*10^348) ((aV (q+1)+aV (q+1+1))*10^348)
  (by rw[<-bb,<-af,show aV q+aV (q+1)+ulp q=2*aV (q+1) by omega]) (by rw[<-af,<-bb,show aV (q+1)+aV (q+1+1)=2*aV (q+1)+ulp (q+1) by omega]) ((q+1)%2=1)
 refine Iff.trans ⟨fun h=>?_,fun h=>?_⟩ s;{have d:=h.lo q rfl;have e:=h.hi f;rw[b,c]at d e;exact⟨d,e⟩};{refine⟨b9 f,fun g hq=>?_,fun _=>?_⟩;{obtain rfl:g=q:=by{omega};rw[b,c];exact h.1};{rw[b,c];exact h.2}}
theorem aOb:decide (10^348<10^25*2^1074)=true/\decide (19*10^23*2^1074<2*10^348)=true/\decide (19*10^24*2^1074<4*10^348)=true/\decide (3*10^348<2*10^25*2^1074)=true:=⟨by kernel_rfl,by kernel_rfl,by kernel_rfl,by kernel_rfl⟩
theorem aQs (r:Nat)(l:1<=r)(n:r<aQ):aMf (2*(aV r*10^348)) (2^1074) (RN0 r):=by
 intro s o d;have c:=(((aOn r l n).iff _).1 o).2.1;obtain⟨c1,c2,c3,c4⟩:=aOb;have c1:=bv c1;have c2:=bv c2;have c3:=bv c3;have c4:=bv c4;have j:10^(s+1)*2^1074=10*(10^s*2^1074):=by{rw[gD,af]};rw[j]at c;obtain⟨k,m,rfl,f,e⟩:=aDg r;have g:=kU k m f e;have p:=qF k m f e;rw[g,p]at c;rw[g]at d;have i:m*2^k*10^348=m*(2^k*10^348):=af _ _ _;rw[i]at c d;have v:0<2^k*10^348:=cn (ay k) (eW 348);have w:m<=9:=by{refine fo fun h=>?_;have:=au (2^k*10^348) (show 10<=m from h);omega};have q:k=0:=by{omega};generalize (2:Nat)^1074=y at *;generalize (10:Nat)^348=z at *;subst q;rw[fg,da]at c d;have B:0<y:=kr fun h=>by{subst h;omega};have A:s<25:=by{refine g9 fun h=>?_;have:=au y (lR h);omega};have x:24<=s:=by{refine fo fun h=>?_;have a:=au y (lR (show s<=23 by omega));rw[af]at c2;have b:=au z (show 1<=m by omega);omega};obtain rfl:s=24:=by{omega};have t:m=1:=by{have:m<2:=by{refine g9 fun h=>?_;have:=au z h;rw[af]at c3;omega};omega};subst t;rw[af]at c4;have u:10^25*y=10*(10^24*y):=by{rw[<-af,<-gD]};omega
theorem aME (d:Nat)(h:1<=d):∃D t,d=D*10^t/\D%10≠0/\1<=D:=by
 induction d using Nat.strongRecOn with|_ d ih=>{by_cases a:d%10=0;{obtain⟨D,t,e,h1,b⟩:=ih (d / 10) (by omega) (by omega);refine⟨D,t+1,?_,h1,b⟩;rw[bz,<-af,<-e];omega};{exact⟨d,0,by simp,a,h⟩}}
theorem aMF (D:Nat)(h:D%10≠0):dG D=Lib.decDigits D:=by
 obtain⟨l,c,d,b⟩:∃l c,Lib.decDigits D=l++[c]/\c≠48:=by{by_cases a:D<10;{refine⟨[],UInt8.ofNat (48+D),by rw[Lib.decDigits_one a];rfl,fun e=>?_⟩;have:=az UInt8.toNat e;simp at this;omega};{refine⟨Lib.decDigits (D / 10),UInt8.ofNat (48+D%10),by rw[Lib.decDigits,dif_neg a],fun e=>?_⟩;have:=az UInt8.toNat e;simp at this;omega}};unfold dG;rw[d,nP,ac b];exact cy (by simp)
theorem aCW (D N:Nat)(h:Lib.nDigits D=N)(b:1<=D):10^(N-1)<=D:=by
 induction D using Nat.strongRecOn generalizing N with|_ D ih=>{by_cases a:D<10;{rw[i5 a]at h;subst h;exact b};{rw[lw a]at h;subst h;have:=ih (D / 10) (by omega) _ rfl (by omega);have p:=gf (D / 10);rw[go,show Lib.nDigits (D / 10)=Lib.nDigits (D / 10)-1+1 by omega,gD];omega}}
theorem aHm (D t:Nat)(h:1<=D):Lib.nDigits (D*10^t)=Lib.nDigits D+t:=by
 have a:=aCW D _ rfl h;have b:=ny D;have p:=gf D;have e:=o9 (Lib.nDigits D+t-1) (D*10^t) (by
  rw[show Lib.nDigits D+t-1=Lib.nDigits D-1+t by omega,ap];exact au _ a) (by
  rw[show Lib.nDigits D+t-1+1=Lib.nDigits D+t by omega,ap];exact d7 b (eW t))
 omega
theorem aSI {r d j:Nat}{q:Int}(S:iI r d q j):∃D t N,Sh (2*(aV r*10^348)) (2^1074) (RN0 r) d j t D N/\dG d=Lib.decDigits D/\Lib.nDigits D=N/\Lib.nDigits d=N+t:=by
 obtain⟨D,t,hd,e,b⟩:=aME d S.pos;refine⟨D,t,Lib.nDigits D,⟨hd.symm,aCW D _ rfl b,ny D,gf D,e,(qT _ _ _).1 S.rn,?_⟩,?_,rfl,?_⟩;{refine S.pick.imp (fun f a c=>f a ((qT _ _ _).2 c)) (fun⟨E,ev⟩=>⟨?_,fun a c=>E a ((qT _ _ _).2 c),ev⟩);refine Nat.eq_zero_of_not_pos fun g=>?_;refine E (D*10^(t-1)) ?_;rw[lO];have:10*(D*10^(t-1))=d:=by{rw[hd,cx,<-gD,show t-1+1=t by omega]};rw[this];exact S.rn};{rw[hd];unfold dG;rw[aID D t b,aMF D e]};{rw[hd];exact aHm D t b}
theorem aOZ {r d j:Nat}{q:Int}(S:iI r d q j)(e:1<=r)(f:r<aQ):∃D t N,dG d=Lib.decDigits D/\Lib.nDigits D=N/\Lib.nDigits d=N+t/\1<=N/\10^(N-1)<=D/\D<10^N/\bY (bN D (j+t)) (aK (j+t)) r /\
  (∀c n i,1<=c->c<10^n->n<N->¬bY (bN c i) (aK i) r) /\
  (∀m s,Fx (2*(aV r*10^348)) (2^1074) N m s->s=j+t/\(m=D\/(¬bY (bN m s) (aK s) r/\m+1=D)\/(¬bY (bN m s) (aK s) r/\¬bY (bN (m+1) s) (aK s) r/\m=D+1))):=by
 obtain⟨D,t,N,a,g,k,e3⟩:=aSI S;have b:=aOn r e f;have T:=aQs r e f;refine⟨D,t,N,g,k,e3,a.one,a.lo,a.hi,?_,fun c n i c1 c2 c3 h=>aGL b a c n i c1 c2 c3 ((qT _ _ _).1 h),fun m s F=>?_⟩;{rw[qT,ap,bo (10^j),<-af,a.val];exact a.rn};{rw[qT,qT];exact aNN b T a F}
open Go.RowKit
theorem aFY (b n:Nat)(h1:1<=b)(C:b<aQ)(n1:1<=n)(g:n<=17) :
  ∃m s,Fx (2*(aV b*10^348)) (2^1074) n m s/\8<=s/\s<=657/\aCe b ((n:Int)-1) (fN (Lib.decDigits m) ((n:Int)+s-349)):=by
 have E:b<9218868437227405312:=C;obtain⟨M,k,z,x,ee,e0,t,v,e3,e4,e5,e,y,f,A,u,a⟩:∃(M k z x:Nat) (ee:Int),z<=63/\k<2046/\1<=M/\M<9007199254740992/\(4503599627370496<=M\/k=0)/\11<=z/\M*2^z=x/\9223372036854775808<=x/\x<18446744073709551616/\ee=(k:Int)-1074-z/\b=k*4503599627370496+M/\aJT b x ee:=by{by_cases P:b<4503599627370496;{obtain⟨L,hL,L1,_,l1,l2⟩:=tH b h1 (by omega);have L2:L<=52:=by{refine fo fun h=>?_;have:2^52<=2^(L-1):=cc (by decide) (by omega);have aa:(2:Nat)^52=4503599627370496:=by{decide};omega};refine⟨b,0,64-L,_,(L:Int)-1138,by omega,by omega,h1,by omega,.inr rfl,by omega,rfl,?_,?_,by omega,by omega,.inl ⟨P,L,hL,L1,L2,rfl,rfl⟩⟩;{have:=au (2^(64-L)) l1;rw[<-ap,show L-1+(64-L)=63 by omega]at this;exact this};{have:=d7 l2 (ay (64-L));rw[<-ap,show L+(64-L)=64 by omega]at this;exact this}};{have a:(2:Nat)^11=2048:=by{decide};exact⟨4503599627370496+b%4503599627370496,b / 4503599627370496-1,11,(4503599627370496+b%4503599627370496)*2048,((b / 4503599627370496:Nat):Int)-1086,by omega,by omega,by omega,by omega,.inl (by omega),by omega,by rw[a],by omega,by omega,by omega,by omega,.inr ⟨by omega,rfl,rfl⟩⟩}};obtain⟨i,s,p,V,W,X,d,j,o,j1,j2,F⟩:=aKw M k z n ee t v e3 e4 e5 (by rw[e];exact y) (by rw[e];exact f) A n1 g;rw[e]at o;rw[<-u]at F;refine⟨d,j,F,j1,j2,?_⟩;intro w B r c S K T N;obtain⟨D,hL⟩:=aDe i p;have ab:10^n<=10^17:=lR g;have ad:(10:Nat)^17=100000000000000000:=by{decide};have R:=F.lo;have Q:=F.hi;have hp:=eW (n-1);have J:Lib.nDigits d=n:=by{have:=o9 (n-1) d R (by rw[show n-1+1=n by omega];exact Q);omega};have l:=fun w' q=>aKx x n ee (lpI i) ((n:Int)-1) _ i s _ d w' q (by omega) (by omega) f n1 g V p rfl W X rfl o D hL;obtain⟨k',rfl⟩:∃k',n=k'+1:=⟨n-1,by omega⟩;have c1:((k'+1:Nat):Int)=(k':Int)+1:=by{omega};have c2:(k':Int)+1-1=k':=by{omega};rw[c1,c2]at l;have:=aIR w B r c S b x k' d ee ((j:Int)-348) K T h1 E f a N l (by omega) J (by omega) (by omega) (by omega) (by omega);rw[c1,c2,show(k':Int)+1+j-349=(k':Int)+(j-348) by omega];exact this
theorem aJG:∀(l:U) (acc:Nat),(∀c∈l,aI c=true)->l.foldl nQ acc<=1000000000000000000->Lib.parseUintM 18446744073709551615 acc l=.ok (l.foldl nQ acc)/\acc<=l.foldl nQ acc:=by
 intro l;induction l with|nil=>{intro acc _ _;exact⟨rfl,ag _⟩}|cons c l ih=>{intro acc hd b;have a:=hd c eh;have hr:48<=c.toNat/\c.toNat<=57:=by{unfold aI at a;simpa using a};have f:nQ acc c=acc*10+(c.toNat-48):=by{unfold nQ;rw[ac];intro e;rw[e]at hr;exact absurd hr.1 (by decide)};rw[List.foldl_cons,f]at b ⊢;obtain⟨d,g⟩:=ih _ (fun x hx=>hd x (ew _ hx)) b;refine⟨?_,by omega⟩;unfold Lib.parseUintM;rw[ae hr,ac (by omega),ac (by omega)];exact d}
theorem aGq (m:Nat)(f:m<=100000000000000000):Lib.parseIntB 64 (Lib.decDigits m)=.ok (m:Int):=by
 have d:(Lib.decDigits m).foldl nQ 0=m:=aAK m;have hu:=(aJG (Lib.decDigits m) 0 (nG m) (by rw[d];omega)).1;rw[d]at hu;have b:=eo m;have g:=gf m;cases h:Lib.decDigits m with|nil=>{rw[h]at b;simp at b;omega}|cons c r=>{have a:=nG m c (by rw[h];exact eh);have hr:48<=c.toNat/\c.toNat<=57:=by{unfold aI at a;simpa using a};have e64:(2:Nat)^64-1=18446744073709551615:=by{decide};have e:(2:Nat)^(64-1)=9223372036854775808:=by{decide};unfold Lib.parseIntB;simp only;rw[ac (by omega),<-h];unfold Lib.parseUintB;rw[ac (by rw[h];simp),e64,hu,e];simp only;rw[ac (by omega),ac (by omega),ac (by omega)]}
theorem aFC:((List.range 1000).all fun x=>decide (Lib.atoi (43 :: dB x)=some (x:Int))&&decide (Lib.atoi (45 :: dB x)=some (-(x:Int))))=true:=by kernel_rfl
theorem aMq (X:Int)(a:-1000<X)(b:X<1000):Lib.atoi ((if X<0 then 45 else 43) :: dB X.natAbs)=some X:=by
 have:=di.1 aFC X.natAbs (fq.2 (by omega));simp only[bt,bm]at this;by_cases h:X<0;{rw[ae h,this.2];congr 1;omega};{rw[ac h,this.1];congr 1;omega}
theorem aHH (D:U)(n:Nat)(X:Int)(h:D.length=n)(a:1<=n) :
  (fN D X).take 1=D.take 1/\(1<n->((fN D X).take (1+n)).drop 2=D.drop 1)/\(fN D X).drop (if 1<n then n+2 else 2)=(if X<0 then 45 else 43) :: dB X.natAbs/\(fN D X).length<=n+6:=by
 obtain⟨d,D',rfl⟩:∃d D',D=d :: D':=by{cases D with|nil=>{simp at h;omega}|cons d D'=>exact⟨d,D',rfl⟩};have f:D'.length+1=n:=by{simpa using h};have b:(dB X.natAbs).length<=3:=by{unfold dB;(repeat' split);all_goals simp};by_cases c:1<n;{have e:=aCq d D' X (by omega);rw[e];refine⟨rfl,fun _=>?_,?_,?_⟩;{rw[show 1+n=D'.length+2 by omega];show List.drop 2 (d :: 46 :: ((D'++[101,if X<0 then 45 else 43])++dB X.natAbs).take D'.length)=D';simp[List.append_assoc]};{rw[ae c,show n+2=D'.length+3 by omega];show((D'++[101,if X<0 then 45 else 43])++dB X.natAbs).drop (D'.length+1)=_;rw[ct,<-jd,ig];rfl};{simp;omega}};{obtain rfl:D'=[]:=fv (by omega);rw[aEg];refine⟨rfl,fun h=>absurd h c,?_,?_⟩;{rw[ac c];rfl};{simp;omega}}
theorem aM4 {r N n m s:Nat}(h:∀c n i,1<=c->c<10^n->n<N->¬bY (bN c i) (aK i) r)(e:n<N)(j:Nat):¬Hit r n m s j:=by
 rintro⟨⟨a,b⟩,d⟩;have:=ny (gY m j);rw[d]at this;exact h _ n s a this e b
theorem aPk {r N D m s:Nat}(f:1<=D)(g:Lib.nDigits D=N)(hr:bY (bN D s) (aK s) r)(h:m=D\/(¬bY (bN m s) (aK s) r/\m+1=D)\/(¬bY (bN m s) (aK s) r/\¬bY (bN (m+1) s) (aK s) r/\m=D+1)) :
  ∃j,j<3/\gY m j=D/\Hit r N m s j/\∀i,i<j->¬Hit r N m s i:=by
 have c0:gY m 0=m:=rfl;have c1:gY m 1=m+1:=rfl;have c2:gY m 2=m-1:=rfl;have c:∀j,gY m j=D->Hit r N m s j:=fun j e=>by{unfold Hit;rw[e];exact⟨⟨f,hr⟩,g⟩};rcases h with rfl|⟨b,d⟩|⟨b,d,k⟩;{exact⟨0,by omega,c0,c 0 c0,fun i hi=>by omega⟩};{refine⟨1,by omega,by omega,c 1 (by omega),fun i hi=>?_⟩;obtain rfl:i=0:=by{omega};exact fun a=>b a.1.2};{refine⟨2,by omega,by omega,c 2 (by omega),fun i hi=>?_⟩;rcases(show i=0\/i=1 by omega)with rfl|rfl;{exact fun a=>b a.1.2};{exact fun a=>d a.1.2}}
open Go.RowKit
theorem aOW (s:I)(i j:Nat)(h:j<=s.size)(b:i<=j) :
  ∃a:I,a.data.toList=(s.data.toList.take j).drop i/\∀w,(Instr.slice 9 (.string s) (some (.int .i64 i)) (some (.int .i64 j)) none).run Tryz.prog w=.ok (.string a) w:=by
 refine⟨s.extract i j,?_,fun w=>?_⟩;{rw[si,sj]};{rw[run_slice_string_if (P:=Tryz.prog) w 9 s .i64 .i64 i j Tryz.underlying9,ae (by omega),ae (by omega)];simp}
theorem aLz (r n m s:Nat)(n1:1<=n)(D:n<=17)(p:Lib.nDigits m=n)(f:s<=657)(j:aCe r ((n:Int)-1) (fN (Lib.decDigits m) ((n:Int)+s-349))):∃S sA sB a sD,aHN r n m s S sA sB a sD:=by
 obtain⟨X,o⟩:∃X,(n:Int)+s-349=X:=⟨_,rfl⟩;rw[o]at j;have i:(Lib.decDigits m).length=n:=by{rw[eo];exact p};obtain⟨E,F,u,Q⟩:=aHH (Lib.decDigits m) n X i n1;have M:m<10^n:=by{have:=ny m;rwa[p]at this};have N:10^n<=10^17:=lR D;have P:(10:Nat)^17=100000000000000000:=by{decide};obtain⟨S,l⟩:∃S:I,S=⟨(fN (Lib.decDigits m) X).toArray⟩:=⟨_,rfl⟩;have b:S.data.toList=fN (Lib.decDigits m) X:=by{rw[l]};have hlen:n+3<=S.size:=by{have y:S.data.toList.length=S.size:=rfl;have:=az List.length u;rw[bn,<-b,y]at this;have L:2<=(dB X.natAbs).length:=by{unfold dB;(repeat' split);all_goals simp};simp only[bw]at this;split at this<;>omega};obtain⟨sA,c,R,B⟩:=rQ S 1 (by omega);obtain⟨sB,g,C⟩:∃f:I,f.data.toList=(if 1<n then (Lib.decDigits m).drop 1 else [])/\(1<n->∀w,(Instr.slice 9 (.string S) (some (.int .i64 2)) (some (.int .i64 (1+(n:Int)))) none).run Tryz.prog w=.ok (.string f) w):=by{by_cases h:1<n;{obtain⟨x,e,k⟩:=aOW S 2 (1+n) (by omega) (by omega);refine⟨x,?_,fun _ w=>?_⟩;{rw[e,b,F h,ae h]};{have:=k w;rw[show((1+n:Nat):Int)=1+(n:Int) by omega]at this;exact this}};{exact⟨⟨#[]⟩,by rw[ac h],fun v=>absurd v h⟩}};obtain⟨a,d,V,q⟩:=gO S (if 1<n then n+2 else 2) (by split<;>omega);rw[b,u]at d;rw[b,E]at c;have z:(if n=1 then sA else sA++sB)=⟨(Lib.decDigits m).toArray⟩:=by{by_cases h:n=1;{rw[ae h];refine rP _ _ ?_;rw[c,cy (by omega)]};{rw[ac h];refine rP _ _ ?_;rw[fM,c,g,ae (by omega),jt]}};have J:sA.size<=1000:=by{omega};have K:sB.size<=1000:=by{rw[aY,g];split;{rw[bn];omega};{simp}};refine⟨S,sA,sB,a,⟨(Lib.decDigits m).toArray⟩,?_,B,C,?_,?_,z,⟨J,K⟩,?_,?_⟩;{intro w T;rw[l];exact aF2 r ((n:Int)-1) _ w T (by omega) (by omega) j};{intro h w;have:=q w;rw[ac (by omega)]at this;exact this};{intro h w;have:=q w;rw[ae h,show((n+2:Nat):Int)=1+(n:Int)+1 by omega]at this;exact this};{intro w;rw[o];have A:a.size<=18:=by{rw[aY,d];unfold dB;(repeat' split);all_goals simp};refine(Tryz.strconv_Atoi a X A (by rw[d];exact aMq X (by omega) (by omega)) w).mono ?_;rintro e w' ⟨rfl,t,rfl⟩;exact⟨rfl,sk w 5 t⟩};{intro w;refine(Tryz.strconv_ParseInt _ (by rw[fE,i];omega) m (aGq m (by omega)) w).mono ?_;rintro e w' ⟨rfl,h|⟨t,h⟩⟩;{rw[h];exact⟨rfl,aj _ _⟩};{rw[h];exact⟨rfl,sk w 5 t⟩}}
theorem aKL (n:Int)(w:H)(T:aA w)(a:-9223372036854775808<=n)(b:n<=9223372036854775807) :
  Y 225 #[.int .i64 n,.int .i64 10] w (O (.string ⟨(Lib.itoa n).toArray⟩) w):=by
 refine(Tryz.strconv_FormatInt n a b w T.u10).mono ?_;rintro e w' ⟨rfl,k,os,rfl⟩;refine⟨rfl,rfl,rfl,rfl,?_,?_⟩;{show w.heap.size<=(w.heap++os).size;simp};{intro j c;show(w.heap++os)[j]?=w.heap[j]?;rw[l8 c]}
