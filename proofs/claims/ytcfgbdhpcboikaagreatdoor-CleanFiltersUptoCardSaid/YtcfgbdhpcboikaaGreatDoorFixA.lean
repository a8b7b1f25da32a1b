/-
internal/strconv: div of an unrounded value; fixedWidthFloat in the form 'e'.
-/
import Derived.Test.YtcfgbdhpcboikaaGreatDoorAtofC
namespace Go.Proofs.YtcfgbdhpcboikaaGreatDoor
set_option maxHeartbeats 4000000
set_option maxRecDepth 100000
open Go.RowKit
def kQ (u d:Nat):Nat:=u / d ||| u%2 ||| (if u%d=0 then 0 else 1)
theorem aN0 (u d:Nat)(w:H)(a:u<18446744073709551616)(s:1<=d)(hd:d<18446744073709551616):Y 286 #[.int .u64 u,.int .u64 d] w fun e w'=>e=.returned (.int .u64 (kQ u d:Nat))/\∃n,w'=w.drewN n:=by
 have m:=vS u a;have f:=Z m;clear m;have k:=qG (u / d) (u%2) (ju (nj _ _) a) (by omega);have j:u / d ||| u%2<18446744073709551616:=by{have two:(18446744073709551616:Nat)=2^64:=by{decide};rw[two];refine nl (by rw[<-two];exact ju (nj _ _) a) (by rw[<-two];omega)};have l:=qG (u / d ||| u%2) 1 j (by omega);have e3:=qG (u / d ||| u%2) 0 j (by omega);have nd:(d:Int)≠0:=by{omega};have p:IntKind.u64.wrap ((u:Int) / d)=((u / d:Nat):Int):=by{rw[<-m8];exact aBm _ (ju (nj _ _) a)};have i:=Z p;clear p;have g:=Z k;have q:=Z l;have r:=Z e3;clear k l e3;go_enter Tryz.func286,Tryz.ntmps286;by_cases b:u%d=0;{have c:((u:Int)%d !=0)=false:=ii.2 (by rw[<-Int.natCast_emod,b];rfl);go_wp2_with fail;go_quiet ((go_at_call 295;exact pu ((aBC _).mono fun _ _ h=>⟨h.1,h.2.symm⟩)));go_wp2;go_ret;refine⟨?_,_,rfl⟩;unfold kQ;rw[af b,i.o,f.o,g.o];exact az _ (az _ r.o)};{have c:((u:Int)%d !=0)=true:=by{rw[ct,<-Int.natCast_emod];omega};go_wp2_with fail;go_quiet ((go_at_call 295;exact pu ((aCG _).mono fun _ _ h=>⟨h.1,h.2.symm⟩)));go_wp2;go_ret;refine⟨?_,_,rfl⟩;unfold kQ;rw[ae b,i.o,f.o,g.o];exact az _ (az _ q.o)}
theorem aNZ (u:Nat)(a:u<18446744073709551616):kQ u 10<18446744073709551616:=by
 have two:(18446744073709551616:Nat)=2^64:=by{decide};unfold kQ;rw[two]at a ⊢;refine nl (nl (ju (nj _ _) a) ?_) ?_;{rw[<-two];omega};{split<;>decide}
theorem aJj (u:Nat)(w:H)(a:u<18446744073709551616):Y 286 #[.int .u64 u,.int .u64 10] w fun e w'=>e=.returned (.int .u64 (kQ u 10:Nat))/\∃n,w'=w.drewN n:=aN0 u 10 w a (by omega) (by omega)
def aE1 (u n:Nat)(p:Int):Nat × Int:=if 4*10^n-2<=u then (fW (kQ u 10),-(p-1))else (fW u,-p)
theorem aMw (n:Nat)(w:H)(h:n<20)(T:Lib.TabIs Tryz.prog w "internal/strconv.uint64pow10" .u64 Lib.pow10Tab):w.cell? ⟨9,n,none⟩=some (.int .u64 (10^n:Nat)):=by
 unfold Lib.TabIs World.var? at T;simp only[aHV,Option.bind_some]at T;split at T;{rename_i cs x y a;cases T;have:=au w 9 n _ _ _ a;rw[this];simp[Lib.pow10Tab,h]};{cases T}
theorem aDM (x:Nat)(w:H)(a:1<=x)(b:x<4611686018427387904):Y 275 #[.int .u64 x] w fun e w'=>e=.returned (.int .u64 (4*x-2:Nat))/\w=w':=by
 go_enter Tryz.func275,Tryz.ntmps275;go_wp2;go_ret;refine⟨nS ?_,rfl⟩;omega
theorem aJv (m n:Nat)(e B al R:Int)(i s u d:Nat)(w:H)(T:aA w)(ao:-1140<=e)(av:e<=1000)(P:m<18446744073709551616)(n1:1<=n)(n2:n<=17)
  (hp:(n:Int)-1-(e+63)*78913 / 262144=(i:Int)-348) (hi:i<696) (aw:((i:Int)-348)*108853 / 32768=B) (Q:-(e+B+3)=s) (ab:s<64)
  (x:cJ m (aJ i) (aR i) s=u) (j:aE1 u n ((i:Int)-348)=(d,R)) (y:aJ i<18446744073709551616) (z:aR i<18446744073709551616) :
  Y 261 #[.int .u64 m,.int .i64 e,.int .i64 n,.int .i64 al,.int .u8 101] w (O (.tuple #[.int .u64 d,.int .i64 R]) w):=by
 have v:=fun(w:H) b o a c f=>dI m (aJ i) (aR i) s w b o a c f P y z ab;rw[x]at v;have A:u<18446744073709551616:=by{rw[<-x];exact cL _ _ _ _ P y z};have E:=fun w=>nL u (fW u) w A rfl;have D:=Z v;have t:=Z T;have X:=Z Q;have V:=Z E;clear v x y z T Q E;go_enter Tryz.func261,Tryz.ntmps261
 go_wp2_with (first
  | (go_at_call 260;refine(tM _ _ (by omega) (by omega)).mono ?_;rintro e w' ⟨rfl,rfl⟩)
  | (go_at_call 272;refine(nJ _ _ (by omega) (by omega)).mono ?_;rintro e w' ⟨rfl,rfl⟩))
 have J:aA (w.alloc (.cells #[.int .u64 0,.int .u64 0,.int .i64 0] 265)):=t.o.below ((am w.heap.size w).alloc (ah _) _) (ah _);have M:=cc w (.cells #[.int .u64 0,.int .u64 0,.int .i64 0] 265);have ac:=t.o.size;refine(gS e B s i _ w.heap.size _ _ _ _ M rfl hi (by omega) J (by omega) (by omega) (by omega) (by omega) X.o).mono ?_;rintro e1 w1 ⟨rfl,l,p⟩;have ad:w.heap.size<w1.heap.size:=by{have:=p.size;simp at this;omega};have r:Below w.heap.size w w1:=(((aD.refl (fun _=>False) w).alloc _).trans' p (fun _ _ h=>by omega)).below (ah _) (fun _ _ h=>h.elim);have K:=t.o.below r (ah _);have C:=Z r;have an:=Z p;have a:=au w1 w.heap.size 0 _ _ _ l;have c:=au w1 w.heap.size 1 _ _ _ l;have f:=au w1 w.heap.size 2 _ _ _ l;have cp:=fun k=>aMw n (w1.drewN k) (by omega) (K.drewN k).u10;simp at a c f;obtain⟨g,N⟩:∃g,w.heap.size=g:=⟨_,rfl⟩;rw[N]at a c f l ad ⊢;clear J K M p r N ac l;have hq:1<=10^n/\10^n<=100000000000000000:=⟨b7 (by decide),b8 (n:=10) (by decide) n2⟩;unfold aE1 at j;generalize 10^n=q at cp hq j;obtain⟨S,q2⟩:=hq;by_cases L:4*q-2<=u
 ·have aa:decide (((4*q-2:Nat):Int)<=(u:Int))=true:=bt (by omega);have l2:kQ u 10<18446744073709551616:=aNZ u A;have F:=fun w=>nL (kQ u 10) (fW (kQ u 10)) w l2 rfl;have W:=Z F;clear F;rw[af L]at j
  obtain⟨rfl,rfl⟩:=go j;go_wp2_with (first
   | (go_at_call 274;((with_reducible refine(D.o _ _ _ ?_ ?_ ?_).mono ?_);all_goals first|exact a|exact c|exact f|skip);rintro e w' ⟨rfl,k1,rfl⟩)
   | (go_at_call 275;((with_reducible refine(aDM q _ S (by omega)).mono ?_);rintro e w' ⟨rfl,rfl⟩))
   | (go_at_call 286;((with_reducible refine(aJj u _ A).mono ?_);rintro e w' ⟨rfl,k2,rfl⟩))
   | (go_at_call 277;((with_reducible refine(W.o _).mono ?_);rintro e w' ⟨rfl,rfl⟩)))
  go_ret2;refine⟨rfl,C.o.trans ⟨rfl,rfl,rfl,ah _,fun _ _=>rfl⟩⟩
 ·have aa:decide (((4*q-2:Nat):Int)<=(u:Int))=false:=bo (by omega);rw[ae L]at j
  obtain⟨rfl,rfl⟩:=go j;go_wp2_with (first
   | (go_at_call 274;((with_reducible refine(D.o _ _ _ ?_ ?_ ?_).mono ?_);all_goals first|exact a|exact c|exact f|skip);rintro e w' ⟨rfl,k1,rfl⟩)
   | (go_at_call 275;((with_reducible refine(aDM q _ S (by omega)).mono ?_);rintro e w' ⟨rfl,rfl⟩))
   | (go_at_call 277;((with_reducible refine(V.o _).mono ?_);rintro e w' ⟨rfl,rfl⟩)))
  go_ret2;refine⟨rfl,C.o.trans ⟨rfl,rfl,rfl,ah _,fun _ _=>rfl⟩⟩
theorem aK4 (A B:Nat)(b:0<B):kQ (unr A B) 10=unr A (10*B):=by
 have e:∀u:Nat,kQ u 10=if u%10=0 then u / 10 else 2*(u / 10 / 2)+1:=by{intro u;unfold kQ;by_cases h:u%10=0;{rw[af h,af h,show u%2=0 by omega,jo,jo]};{rw[ae h,ae h];rcases o9 u with a|a;{rw[a,jo,sQ]};{rw[a,Nat.or_assoc,Nat.or_self,sQ]}}}
 rw[e];have c:=fun k=>fX A B k b;have d:=fun k=>fI A B k b;refine(aHq _ _ (fun k=>?_) (fun k=>?_)).symm;{rw[fX _ _ _ (by omega),show k*(10*B)=(10*k)*B by rw[cq,ag],<-c];split<;>omega};{rw[fI _ _ _ (by omega),show k*(10*B)=(10*k)*B by rw[cq,ag],<-d];split<;>omega}
def uC (y:Nat):Int:=((y:Int)-1074)*78913 / 262144
def aEf (y:Nat):Prop:=10^(uC y).toNat*2^1074<=2^y*10^(-uC y).toNat/\2^y*10^(-(uC y+1)).toNat<10^(uC y+1).toNat*2^1074/\-324<=uC y/\uC y<=308
instance (y:Nat):Decidable (aEf y):=by unfold aEf;exact inferInstance
theorem aNX:((List.range 2098).all fun y=>decide (aEf y))=true:=by kernel_rfl
theorem aPZ (y:Nat)(h:y<2098):aEf y:=br (da.1 aNX y (fg.2 h))
def aHx (y n:Nat):Prop:=4<=60-((y:Int)-1074)-lpI ((n:Int)+347-uC y).toNat/\60-((y:Int)-1074)-lpI ((n:Int)+347-uC y).toNat<=63
instance (y n:Nat):Decidable (aHx y n):=by unfold aHx;exact inferInstance
theorem aQP:((List.range 2098).all fun y=>(List.range 17).all fun n=>decide (aHx y (n+1)))=true:=by kernel_rfl
theorem aRH (y n:Nat)(h:y<2098)(a:1<=n)(b:n<=17):aHx y n:=by
 have:=br (da.1 (da.1 aQP y (fg.2 h)) (n-1) (fg.2 (by omega)));rwa[show n-1+1=n by omega]at this
theorem aDx (a b c d X f:Nat)(h:a+d=c+b)(g:10^a*X<=f*10^b):10^c*X<=f*10^d:=by
 refine rz (c:=10^a) ?_ (dT a);have i:=fe (10^c) g;have e:10^a*10^d=10^c*10^b:=by rw[<-aj,<-aj,h]
 calc 10^a*(10^c*X)=10^c*(10^a*X):=cq _ _ _
  _<=10^c*(f*10^b):=i
  _=f*(10^c*10^b):=cq _ _ _
  _=f*(10^a*10^d):=by rw[e]
  _=10^a*(f*10^d):=cq _ _ _
theorem aFB (a b c d X e:Nat)(h:a+d=c+b)(f:e*10^b<10^a*X):e*10^d<10^c*X :=
 gu fun g=>Nat.not_le_of_lt f (aDx c d a b X e (by omega) g)
theorem aHP (A B u n i:Nat)(k:0<B)(n1:1<=n)(w:n<=17)(hi:i<=696)(b:u=unr A (10^(696-i)*B))(r:10^(n-1)*(10^(696-i)*B)<=A)(m:A<2*(10^n*(10^(696-i)*B))) :
  ∃d j:Nat,aE1 u n ((i:Int)-348)=(d,(j:Int)-348)/\(j=696-i\/j=697-i)/\Fx (2*A) B n d j:=by
 have a:=cf (dT (696-i)) k;have c:10^n=10*10^(n-1):=by{rw[<-fK];congr 1;omega};have o:=dT (n-1);have x:10^(n-1)<=10^16:=kJ (by omega);have p:(10:Nat)^16=10000000000000000:=by{decide};have f:10^(697-i)*B=10*(10^(696-i)*B):=by{rw[show 697-i=696-i+1 by omega,fK,ag]};have e:=aK4 A (10^(696-i)*B) a;have ev1:=tK A _ u a b;have l:=tK A _ (kQ u 10) (show 0<10*(10^(696-i)*B) by omega) (by rw[b];exact e);have low:4*10^(n-1)<=u:=by{have:=(fX A (10^(696-i)*B) (2*10^(n-1)) a).2 (by rw[ag];omega);omega};have t:u<=8*10^n:=by{have:=(fI A (10^(696-i)*B) (4*10^n) a).2 (by rw[ag];omega);omega};unfold aE1;by_cases g:4*10^n-2<=u
 ·rw[af g];have k1:(2*10^n-1)*(10^(696-i)*B)<=2*A:=by{have:=(fX A (10^(696-i)*B) (2*10^n-1) a).1 (by omega);exact this};have s:=Nat.le_mul_of_pos_left (10^(696-i)*B) o;generalize 10^(696-i)*B=C at *;rw[rq,cr,ag]at k1;have v:4*10^(n-1)-2<kQ u 10:=by{rw[b,e];refine gu fun h=>?_;have:=(fI A (10*C) (2*10^(n-1)-1) (by omega)).1 (by omega);rw[rq,cr,ag,cq _ 10]at this;rw[c,ag]at k1;omega}
  have q:kQ u 10<=8*10^(n-1):=by
   have:=(fI A (10*C) (4*10^(n-1)) (by omega)).2 (by
    rw[ag,cq _ 10];rw[c,ag]at m
    omega)
   rw[b,e];omega
  rw[mE _ (by omega)];have r1:10^(n-1)<=bA (kQ u 10):=by{unfold bA;omega};have r2:bA (kQ u 10)<=2*10^(n-1):=by{unfold bA;omega};refine⟨_,697-i,by congr 1;omega,.inr rfl,r1,by omega,n1,by rw[f];exact l,?_⟩;rw[ag,f];rw[c,ag]at k1;rw[cq _ 10];omega
 {rw[ae g,mE _ (by omega)];have r1:10^(n-1)<=bA u:=by{unfold bA;omega};have r2:bA u<10^n:=by{unfold bA;omega};refine⟨_,696-i,by congr 1;omega,.inl rfl,r1,r2,n1,ev1,?_⟩;rw[ag];omega}
theorem aJu (M k z n:Nat)(e:Int)(P:k<2046)(l:1<=M)(D:M<9007199254740992)(Q:4503599627370496<=M\/k=0)(T:11<=z)(E:9223372036854775808<=M*2^z)(hx:M*2^z<18446744073709551616)
  (C:e=(k:Int)-1074-z) (p:1<=n) (q:n<=17) :
  ∃i s:Nat,i<696/\(n:Int)-1-(e+63)*78913 / 262144=(i:Int)-348/\-(e+lpI i+3)=s/\s<64/\∃d j:Nat,aE1 (cJ (M*2^z) (aJ i) (aR i) s) n ((i:Int)-348)=(d,(j:Int)-348)/\8<=j/\j<=657/\Fx (2*(aP (k*4503599627370496+M)*10^348)) (2^1074) n d j:=by
 have V:z<=63:=by{refine ff fun h=>?_;have a:2^64<=2^z:=b8 (by decide) h;have b:1*2^z<=M*2^z:=ap _ l;have c:(2:Nat)^64=18446744073709551616:=by{decide};omega};obtain⟨y,S⟩:∃y:Nat,y=k+63-z:=⟨_,rfl⟩;have w:e+63=(y:Int)-1074:=by{omega};obtain⟨u,v,J,K⟩:=aPZ y (by omega);obtain⟨s1,F⟩:=aRH y n (by omega) p q;rw[w];have B:((y:Int)-1074)*78913 / 262144=uC y:=rfl;rw[B];generalize uC y=L at *;obtain⟨i,hi⟩:∃i:Nat,i=((n:Int)+347-L).toNat:=⟨_,rfl⟩;rw[<-hi]at s1 F;obtain⟨s,R⟩:∃s:Nat,s=(60-((y:Int)-1074)-lpI i).toNat:=⟨_,rfl⟩;have m:-(e+lpI i+3)=s:=by{omega};have o:=jL k M D (by omega);have p2:2^y*2^z=2^k*9223372036854775808:=by{rw[show(9223372036854775808:Nat)=2^63 by decide,<-aj,<-aj];congr 1;omega};have v1:2^y<=M*2^k:=by{refine dh (c:=2^z) ?_ (ar z);rw[p2,l9];have:=ap (2^k) E;rw[bn]at this;exact this};have v2:M*2^k<2*2^y:=by{refine gj (a:=2^z) ?_;rw[ag 2,p2,l9];have:=di hx (ar k);have e:18446744073709551616*2^k=2*(2^k*9223372036854775808):=by{rw[bn (2^k)];omega};omega};have u1:=lJ M z k i s z 0 e (by omega) l hx (by omega) C m (.inr ⟨by omega,by omega⟩);rw[en,df]at u1;have u2:=u1.trans (wU M k i (k*4503599627370496+M) (by omega) o);rw[o]at u2 ⊢;have r:10^(n-1)*(10^(696-i)*2^1074)<=M*2^k*10^348:=by{have f:=aDx L.toNat (-L).toNat (n-1+(696-i)) 348 _ _ (by omega) u;rw[aj,ag]at f;exact bg f (ap _ v1)};have t:M*2^k*10^348<2*(10^n*(10^(696-i)*2^1074)):=by{have f:=aFB (L+1).toNat (-(L+1)).toNat (n+(696-i)) 348 _ _ (by omega) v;rw[aj,ag]at f;have g:=di v2 (dT 348);rw[ag 2 (2^y)]at g;exact dj g (fe 2 (b6 f))};obtain⟨d,j,x,N,A⟩:=aHP (M*2^k*10^348) (2^1074) _ n i (ar _) p q (by omega) u2 r t;exact⟨i,s,by omega,by omega,m,by omega,d,j,x,by omega,by omega,A⟩
def RN0 (r a:Nat):Prop:=bI (bC a 0) (aG 0) r
theorem pJ (r c j:Nat):bI (bC c j) (aG j) r↔RN0 r (c*10^j):=by
 have:=oP c 0 j r;rwa[bw]at this
theorem aL7 (W C e d x y:Nat)(g:x+e=W)(f:y=W+d)(o:Prop) :
  ((x<=2*C/\(o->x<2*C))/\(2*C<=y/\(o->2*C<y)))↔((W<=2*C+e/\(o->W<2*C+e))/\(2*C<=W+d/\(o->2*C<W+d))):=by
 subst f;constructor;{rintro⟨⟨a,b⟩,c⟩;exact⟨⟨by omega,fun h=>by have:=b h;omega⟩,c⟩};{rintro⟨⟨a,b⟩,c⟩;exact⟨⟨by omega,fun h=>by have:=b h;omega⟩,c⟩}
theorem aQV {q r:Nat}(h:q<=r):ulp q<=ulp r:=b8 (by decide) (by have:=ub (c:=4503599627370496) h;omega)
theorem aNm (r:Nat)(i:1<=r)(f:r<aL):Iv (2*(aP r*10^348)) (ulp (r-1)*10^348) (ulp r*10^348) (2^1074) (r%2=1) (RN0 r):=by
 obtain⟨q,rfl⟩:∃q,r=q+1:=⟨r-1,by omega⟩;refine⟨fun a=>?_,ar 1074,cf (aHp _) (dT 348),ap _ (aQV (by omega))⟩;have b:bC a 0=a*2^1074:=by unfold bC;rw[Nat.zero_sub,en,df]
 have c:aG 0=10^348:=by{unfold aG;rw[Nat.sub_zero]};have v1:=iU q;have v2:=iU (q+1);rw[gg];have s:=aL7 (2*(aP (q+1)*10^348)) (a*2^1074) (ulp q*10^348) (ulp (q+1)*10^348) ((aP q+aP (q+1))*10^348) ((aP (q+1)+aP (q+1+1))*10^348)
  (by rw[<-ba,<-ag,show aP q+aP (q+1)+ulp q=2*aP (q+1) by omega]) (by rw[<-ag,<-ba,show aP (q+1)+aP (q+1+1)=2*aP (q+1)+ulp (q+1) by omega]) ((q+1)%2=1)
 refine Iff.trans ⟨fun h=>?_,fun h=>?_⟩ s;{have d:=h.lo q rfl;have e:=h.hi f;rw[b,c]at d e;exact⟨d,e⟩};{refine⟨b6 f,fun g hq=>?_,fun _=>?_⟩;{obtain rfl:g=q:=by{omega};rw[b,c];exact h.1};{rw[b,c];exact h.2}}
theorem aNa:decide (10^348<10^25*2^1074)=true/\decide (19*10^23*2^1074<2*10^348)=true/\decide (19*10^24*2^1074<4*10^348)=true/\decide (3*10^348<2*10^25*2^1074)=true:=⟨by kernel_rfl,by kernel_rfl,by kernel_rfl,by kernel_rfl⟩
theorem aPr (r:Nat)(q:1<=r)(t:r<aL):aLe (2*(aP r*10^348)) (2^1074) (RN0 r):=by
 intro s u g;have c:=(((aNm r q t).iff _).1 u).2.1;obtain⟨i,d,e,f⟩:=aNa;have i:=br i;have d:=br d;have e:=br e;have f:=br f;have p:10^(s+1)*2^1074=10*(10^s*2^1074):=by{rw[fK,ag]};rw[p]at c;obtain⟨k,m,rfl,l,j⟩:=aCl r;have n:=jL k m l j;have v:=oX k m l j;rw[n,v]at c;rw[n]at g;have o:m*2^k*10^348=m*(2^k*10^348):=ag _ _ _;rw[o]at c g;have B:0<2^k*10^348:=cf (ar k) (dT 348);have C:m<=9:=by{refine ff fun h=>?_;have:=ap (2^k*10^348) (show 10<=m from h);omega};have w:k=0:=by{omega};generalize (2:Nat)^1074=y at *;generalize (10:Nat)^348=z at *;subst w;rw[en,cr]at c g;have F:0<y:=jv fun h=>by{subst h;omega};have E:s<25:=by{refine gu fun h=>?_;have:=ap y (kJ h);omega};have D:24<=s:=by{refine ff fun h=>?_;have a:=ap y (kJ (show s<=23 by omega));rw[ag]at d;have b:=ap z (show 1<=m by omega);omega};obtain rfl:s=24:=by{omega};have x:m=1:=by{have:m<2:=by{refine gu fun h=>?_;have:=ap z h;rw[ag]at e;omega};omega};subst x;rw[ag]at f;have A:10^25*y=10*(10^24*y):=by{rw[<-ag,<-fK]};omega
theorem aLE (d:Nat)(h:1<=d):∃D t,d=D*10^t/\D%10≠0/\1<=D:=by
 induction d using Nat.strongRecOn with|_ d ih=>{by_cases a:d%10=0;{obtain⟨D,t,e,h1,b⟩:=ih (d / 10) (by omega) (by omega);refine⟨D,t+1,?_,h1,b⟩;rw[bz,<-ag,<-e];omega};{exact⟨d,0,by simp,a,h⟩}}
theorem aLF (D:Nat)(h:D%10≠0):cO D=Lib.decDigits D:=by
 obtain⟨l,c,d,b⟩:∃l c,Lib.decDigits D=l++[c]/\c≠48:=by{by_cases a:D<10;{refine⟨[],UInt8.ofNat (48+D),by rw[Lib.decDigits_one a];rfl,fun e=>?_⟩;have:=az UInt8.toNat e;simp at this;omega};{refine⟨Lib.decDigits (D / 10),UInt8.ofNat (48+D%10),by rw[Lib.decDigits,dif_neg a],fun e=>?_⟩;have:=az UInt8.toNat e;simp at this;omega}};unfold cO;rw[d,mH,ae b];exact fi (by simp)
theorem aB2 (D N:Nat)(h:Lib.nDigits D=N)(b:1<=D):10^(N-1)<=D:=by
 induction D using Nat.strongRecOn generalizing N with|_ D ih=>{by_cases a:D<10;{rw[ip a]at h;subst h;exact b};{rw[lc a]at h;subst h;have:=ih (D / 10) (by omega) _ rfl (by omega);have p:=f7 (D / 10);rw[gg,show Lib.nDigits (D / 10)=Lib.nDigits (D / 10)-1+1 by omega,fK];omega}}
theorem aGr (D t:Nat)(h:1<=D):Lib.nDigits (D*10^t)=Lib.nDigits D+t:=by
 have a:=aB2 D _ rfl h;have b:=nn D;have p:=f7 D;have e:=oe (Lib.nDigits D+t-1) (D*10^t) (by
  rw[show Lib.nDigits D+t-1=Lib.nDigits D-1+t by omega,aj];exact ap _ a) (by
  rw[show Lib.nDigits D+t-1+1=Lib.nDigits D+t by omega,aj];exact di b (dT t))
 omega
theorem aRI {r d j:Nat}{q:Int}(S:gJ r d q j):∃D t N,Sh (2*(aP r*10^348)) (2^1074) (RN0 r) d j t D N/\cO d=Lib.decDigits D/\Lib.nDigits D=N/\Lib.nDigits d=N+t:=by
 obtain⟨D,t,hd,e,b⟩:=aLE d S.pos;refine⟨D,t,Lib.nDigits D,⟨hd.symm,aB2 D _ rfl b,nn D,f7 D,e,(pJ _ _ _).1 S.rn,?_⟩,?_,rfl,?_⟩;{refine S.pick.imp (fun f a c=>f a ((pJ _ _ _).2 c)) (fun⟨E,ev⟩=>⟨?_,fun a c=>E a ((pJ _ _ _).2 c),ev⟩);refine Nat.eq_zero_of_not_pos fun g=>?_;refine E (D*10^(t-1)) ?_;rw[kE];have:10*(D*10^(t-1))=d:=by{rw[hd,cq,<-fK,show t-1+1=t by omega]};rw[this];exact S.rn};{rw[hd];unfold cO;rw[aHG D t b,aLF D e]};{rw[hd];exact aGr D t b}
theorem aNY {r d j:Nat}{q:Int}(S:gJ r d q j)(e:1<=r)(f:r<aL):∃D t N,cO d=Lib.decDigits D/\Lib.nDigits D=N/\Lib.nDigits d=N+t/\1<=N/\10^(N-1)<=D/\D<10^N/\bI (bC D (j+t)) (aG (j+t)) r /\
  (∀c n i,1<=c->c<10^n->n<N->¬bI (bC c i) (aG i) r) /\
  (∀m s,Fx (2*(aP r*10^348)) (2^1074) N m s->s=j+t/\(m=D\/(¬bI (bC m s) (aG s) r/\m+1=D)\/(¬bI (bC m s) (aG s) r/\¬bI (bC (m+1) s) (aG s) r/\m=D+1))):=by
 obtain⟨D,t,N,a,o,p,e3⟩:=aRI S;have b:=aNm r e f;have T:=aPr r e f;refine⟨D,t,N,o,p,e3,a.one,a.lo,a.hi,?_,fun c n i g k l h=>aFR b a c n i g k l ((pJ _ _ _).1 h),fun m s F=>?_⟩;{rw[pJ,aj,bn (10^j),<-ag,a.val];exact a.rn};{rw[pJ,pJ];exact aMO b T a F}
open Go.RowKit
theorem aE2 (b n:Nat)(h1:1<=b)(J:b<aL)(t:1<=n)(g:n<=17) :
  ∃m s,Fx (2*(aP b*10^348)) (2^1074) n m s/\8<=s/\s<=657/\aBt b ((n:Int)-1) (eS (Lib.decDigits m) ((n:Int)+s-349)):=by
 have N:b<9218868437227405312:=J;obtain⟨M,k,z,x,ee,e0,y,C,e3,e4,e5,e,D,f,E,A,a⟩:∃(M k z x:Nat) (ee:Int),z<=63/\k<2046/\1<=M/\M<9007199254740992/\(4503599627370496<=M\/k=0)/\11<=z/\M*2^z=x/\9223372036854775808<=x/\x<18446744073709551616/\ee=(k:Int)-1074-z/\b=k*4503599627370496+M/\aIT b x ee:=by{by_cases V:b<4503599627370496;{obtain⟨L,hL,L1,_,l1,l2⟩:=rK b h1 (by omega);have L2:L<=52:=by{refine ff fun h=>?_;have:2^52<=2^(L-1):=b8 (by decide) (by omega);have aa:(2:Nat)^52=4503599627370496:=by{decide};omega};refine⟨b,0,64-L,_,(L:Int)-1138,by omega,by omega,h1,by omega,.inr rfl,by omega,rfl,?_,?_,by omega,by omega,.inl ⟨V,L,hL,L1,L2,rfl,rfl⟩⟩;{have:=ap (2^(64-L)) l1;rw[<-aj,show L-1+(64-L)=63 by omega]at this;exact this};{have:=di l2 (ar (64-L));rw[<-aj,show L+(64-L)=64 by omega]at this;exact this}};{have a:(2:Nat)^11=2048:=by{decide};exact⟨4503599627370496+b%4503599627370496,b / 4503599627370496-1,11,(4503599627370496+b%4503599627370496)*2048,((b / 4503599627370496:Nat):Int)-1086,by omega,by omega,by omega,by omega,.inl (by omega),by omega,by rw[a],by omega,by omega,by omega,by omega,.inr ⟨by omega,rfl,rfl⟩⟩}};obtain⟨i,s,r,i2,i3,i4,d,j,q,j1,j2,F⟩:=aJu M k z n ee y C e3 e4 e5 (by rw[e];exact D) (by rw[e];exact f) E t g;rw[e]at q;rw[<-A]at F;refine⟨d,j,F,j1,j2,?_⟩;intro w B v c S Q T R;obtain⟨K,hL⟩:=aCk i r;have ab:10^n<=10^17:=kJ g;have ac:(10:Nat)^17=100000000000000000:=by{decide};have X:=F.lo;have W:=F.hi;have hp:=dT (n-1);have P:Lib.nDigits d=n:=by{have:=oe (n-1) d X (by rw[show n-1+1=n by omega];exact W);omega};have l:=fun w' u=>aJv x n ee (lpI i) ((n:Int)-1) _ i s _ d w' u (by omega) (by omega) f t g i2 r rfl i3 i4 rfl q K hL;obtain⟨k',rfl⟩:∃k',n=k'+1:=⟨n-1,by omega⟩;have o:((k'+1:Nat):Int)=(k':Int)+1:=by{omega};have p:(k':Int)+1-1=k':=by{omega};rw[o,p]at l;have:=aHU w B v c S b x k' d ee ((j:Int)-348) Q T h1 N f a R l (by omega) P (by omega) (by omega) (by omega) (by omega);rw[o,p,show(k':Int)+1+j-349=(k':Int)+(j-348) by omega];exact this
theorem aIG:∀(l:U) (acc:Nat),(∀c∈l,aE c=true)->l.foldl mI acc<=1000000000000000000->Lib.parseUintM 18446744073709551615 acc l=.ok (l.foldl mI acc)/\acc<=l.foldl mI acc:=by
 intro l;induction l with|nil=>{intro acc _ _;exact⟨rfl,ah _⟩}|cons c l ih=>{intro acc hd b;have a:=hd c du;have hr:48<=c.toNat/\c.toNat<=57:=by{unfold aE at a;simpa using a};have f:mI acc c=acc*10+(c.toNat-48):=by{unfold mI;rw[ae];intro e;rw[e]at hr;exact absurd hr.1 (by decide)};rw[List.foldl_cons,f]at b ⊢;obtain⟨d,g⟩:=ih _ (fun x hx=>hd x (d7 _ hx)) b;refine⟨?_,by omega⟩;unfold Lib.parseUintM;rw[af hr,ae (by omega),ae (by omega)];exact d}
theorem aFv (m:Nat)(f:m<=100000000000000000):Lib.parseIntB 64 (Lib.decDigits m)=.ok (m:Int):=by
 have d:(Lib.decDigits m).foldl mI 0=m:=zQ m;have hu:=(aIG (Lib.decDigits m) 0 (mA m) (by rw[d];omega)).1;rw[d]at hu;have b:=dv m;have g:=f7 m;cases h:Lib.decDigits m with|nil=>{rw[h]at b;simp at b;omega}|cons c r=>{have a:=mA m c (by rw[h];exact du);have hr:48<=c.toNat/\c.toNat<=57:=by{unfold aE at a;simpa using a};have e64:(2:Nat)^64-1=18446744073709551615:=by{decide};have e:(2:Nat)^(64-1)=9223372036854775808:=by{decide};unfold Lib.parseIntB;simp only;rw[ae (by omega),<-h];unfold Lib.parseUintB;rw[ae (by rw[h];simp),e64,hu,e];simp only;rw[ae (by omega),ae (by omega),ae (by omega)]}
theorem aEH:((List.range 1000).all fun x=>decide (Lib.atoi (43 :: cK x)=some (x:Int))&&decide (Lib.atoi (45 :: cK x)=some (-(x:Int))))=true:=by kernel_rfl
theorem aLp (X:Int)(a:-1000<X)(b:X<1000):Lib.atoi ((if X<0 then 45 else 43) :: cK X.natAbs)=some X:=by
 have:=da.1 aEH X.natAbs (fg.2 (by omega));simp only[bp,bi]at this;by_cases h:X<0;{rw[af h,this.2];congr 1;omega};{rw[ae h,this.1];congr 1;omega}
theorem aGN (D:U)(n:Nat)(X:Int)(h:D.length=n)(a:1<=n) :
  (eS D X).take 1=D.take 1/\(1<n->((eS D X).take (1+n)).drop 2=D.drop 1)/\(eS D X).drop (if 1<n then n+2 else 2)=(if X<0 then 45 else 43) :: cK X.natAbs/\(eS D X).length<=n+6:=by
 obtain⟨d,D',rfl⟩:∃d D',D=d :: D':=by{cases D with|nil=>{simp at h;omega}|cons d D'=>exact⟨d,D',rfl⟩};have f:D'.length+1=n:=by{simpa using h};have b:(cK X.natAbs).length<=3:=by{unfold cK;(repeat' split);all_goals simp};by_cases c:1<n;{have e:=aBD d D' X (by omega);rw[e];refine⟨rfl,fun _=>?_,?_,?_⟩;{rw[show 1+n=D'.length+2 by omega];show List.drop 2 (d :: 46 :: ((D'++[101,if X<0 then 45 else 43])++cK X.natAbs).take D'.length)=D';simp[List.append_assoc]};{rw[af c,show n+2=D'.length+3 by omega];show((D'++[101,if X<0 then 45 else 43])++cK X.natAbs).drop (D'.length+1)=_;rw[cv,<-i5,gy];rfl};{simp;omega}};{obtain rfl:D'=[]:=fj (by omega);rw[aDl];refine⟨rfl,fun h=>absurd h c,?_,?_⟩;{rw[ae c];rfl};{simp;omega}}
theorem aL3 {r N n m s:Nat}(h:∀c n i,1<=c->c<10^n->n<N->¬bI (bC c i) (aG i) r)(e:n<N)(j:Nat):¬Hit r n m s j:=by
 rintro⟨⟨a,b⟩,d⟩;have:=nn (gA m j);rw[d]at this;exact h _ n s a this e b
theorem aOj {r N D m s:Nat}(g:1<=D)(k:Lib.nDigits D=N)(hr:bI (bC D s) (aG s) r)(h:m=D\/(¬bI (bC m s) (aG s) r/\m+1=D)\/(¬bI (bC m s) (aG s) r/\¬bI (bC (m+1) s) (aG s) r/\m=D+1)) :
  ∃j,j<3/\gA m j=D/\Hit r N m s j/\∀i,i<j->¬Hit r N m s i:=by
 have d:gA m 0=m:=rfl;have l:gA m 1=m+1:=rfl;have n:gA m 2=m-1:=rfl;have c:∀j,gA m j=D->Hit r N m s j:=fun j e=>by{unfold Hit;rw[e];exact⟨⟨g,hr⟩,k⟩};rcases h with rfl|⟨b,f⟩|⟨b,f,o⟩;{exact⟨0,by omega,d,c 0 d,fun i hi=>by omega⟩};{refine⟨1,by omega,by omega,c 1 (by omega),fun i hi=>?_⟩;obtain rfl:i=0:=by{omega};exact fun a=>b a.1.2};{refine⟨2,by omega,by omega,c 2 (by omega),fun i hi=>?_⟩;rcases(show i=0\/i=1 by omega)with rfl|rfl;{exact fun a=>b a.1.2};{exact fun a=>f a.1.2}}
open Go.RowKit
theorem aNV (s:I)(i j:Nat)(h:j<=s.size)(b:i<=j) :
  ∃a:I,a.data.toList=(s.data.toList.take j).drop i/\∀w,(Instr.slice 9 (.string s) (some (.int .i64 i)) (some (.int .i64 j)) none).run Tryz.prog w=.ok (.string a) w:=by
 refine⟨s.extract i j,?_,fun w=>?_⟩;{rw[sd,se]};{rw[run_slice_string_if (P:=Tryz.prog) w 9 s .i64 .i64 i j Tryz.underlying9,af (by omega),af (by omega)];simp}
theorem aKw (r n m s:Nat)(D:1<=n)(E:n<=17)(p:Lib.nDigits m=n)(f:s<=657)(j:aBt r ((n:Int)-1) (eS (Lib.decDigits m) ((n:Int)+s-349))):∃S sA sB a sD,aGS r n m s S sA sB a sD:=by
 obtain⟨X,o⟩:∃X,(n:Int)+s-349=X:=⟨_,rfl⟩;rw[o]at j;have i:(Lib.decDigits m).length=n:=by{rw[dv];exact p};obtain⟨F,J,u,R⟩:=aGN (Lib.decDigits m) n X i D;have N:m<10^n:=by{have:=nn m;rwa[p]at this};have P:10^n<=10^17:=kJ E;have Q:(10:Nat)^17=100000000000000000:=by{decide};obtain⟨S,l⟩:∃S:I,S=⟨(eS (Lib.decDigits m) X).toArray⟩:=⟨_,rfl⟩;have b:S.data.toList=eS (Lib.decDigits m) X:=by{rw[l]};have hlen:n+3<=S.size:=by{have y:S.data.toList.length=S.size:=rfl;have:=az List.length u;rw[bm,<-b,y]at this;have M:2<=(cK X.natAbs).length:=by{unfold cK;(repeat' split);all_goals simp};simp only[bv]at this;split at this<;>omega};obtain⟨sA,c,V,B⟩:=qF S 1 (by omega);obtain⟨sB,g,C⟩:∃f:I,f.data.toList=(if 1<n then (Lib.decDigits m).drop 1 else [])/\(1<n->∀w,(Instr.slice 9 (.string S) (some (.int .i64 2)) (some (.int .i64 (1+(n:Int)))) none).run Tryz.prog w=.ok (.string f) w):=by{by_cases h:1<n;{obtain⟨x,e,k⟩:=aNV S 2 (1+n) (by omega) (by omega);refine⟨x,?_,fun _ w=>?_⟩;{rw[e,b,J h,af h]};{have:=k w;rw[show((1+n:Nat):Int)=1+(n:Int) by omega]at this;exact this}};{exact⟨⟨#[]⟩,by rw[ae h],fun v=>absurd v h⟩}};obtain⟨a,d,W,q⟩:=fT S (if 1<n then n+2 else 2) (by split<;>omega);rw[b,u]at d;rw[b,F]at c;have z:(if n=1 then sA else sA++sB)=⟨(Lib.decDigits m).toArray⟩:=by{by_cases h:n=1;{rw[af h];refine qE _ _ ?_;rw[c,fi (by omega)]};{rw[ae h];refine qE _ _ ?_;rw[eR,c,g,af (by omega),lv]}};have K:sA.size<=1000:=by{omega};have L:sB.size<=1000:=by{rw[aS,g];split;{rw[bm];omega};{simp}};refine⟨S,sA,sB,a,⟨(Lib.decDigits m).toArray⟩,?_,B,C,?_,?_,z,⟨K,L⟩,?_,?_⟩;{intro w T;rw[l];exact aE6 r ((n:Int)-1) _ w T (by omega) (by omega) j};{intro h w;have:=q w;rw[ae (by omega)]at this;exact this};{intro h w;have:=q w;rw[af h,show((n+2:Nat):Int)=1+(n:Int)+1 by omega]at this;exact this};{intro w;rw[o];have A:a.size<=18:=by{rw[aS,d];unfold cK;(repeat' split);all_goals simp};refine(Tryz.strconv_Atoi a X A (by rw[d];exact aLp X (by omega) (by omega)) w).mono ?_;rintro e w' ⟨rfl,t,rfl⟩;exact⟨rfl,sf w 5 t⟩};{intro w;refine(Tryz.strconv_ParseInt _ (by rw[eG,i];omega) m (aFv m (by omega)) w).mono ?_;rintro e w' ⟨rfl,h|⟨t,h⟩⟩;{rw[h];exact⟨rfl,am _ _⟩};{rw[h];exact⟨rfl,sf w 5 t⟩}}
theorem aJI (n:Int)(w:H)(T:aA w)(a:-9223372036854775808<=n)(b:n<=9223372036854775807) :
  Y 225 #[.int .i64 n,.int .i64 10] w (O (.string ⟨(Lib.itoa n).toArray⟩) w):=by
 refine(Tryz.strconv_FormatInt n a b w T.u10).mono ?_;rintro e w' ⟨rfl,k,os,rfl⟩;refine⟨rfl,rfl,rfl,rfl,?_,?_⟩;{show w.heap.size<=(w.heap++os).size;simp};{intro j c;show(w.heap++os)[j]?=w.heap[j]?;rw[li c]}
