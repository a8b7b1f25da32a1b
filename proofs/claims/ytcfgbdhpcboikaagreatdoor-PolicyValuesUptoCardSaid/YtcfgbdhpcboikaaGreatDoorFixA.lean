/-
internal/strconv: div of an unrounded value; fixedWidthFloat in the form 'e'.
-/
import Derived.Test.YtcfgbdhpcboikaaGreatDoorAtofC
namespace Go.Proofs.YtcfgbdhpcboikaaGreatDoor
open Go.Lib (hid)
set_option maxHeartbeats 4000000
set_option maxRecDepth 100000
open Go.RowKit
def iO (u d:Nat):Nat:=u / d ||| u%2 ||| (if u%d=0 then 0 else 1)
theorem aLk (u d:Nat)(w:World)(hu:u<18446744073709551616)(hd1:1≤d)(hd:d<18446744073709551616):Calls Tryz.prog 286 #[.int .u64 u,.int .u64 d] w fun e w'=>e=.returned (.int .u64 (iO u d:Nat))∧∃n,w'=w.drewN n:=by
 have ha:=sE u hu;have HA:=hid ha;clear ha;have e1:=nP (u / d) (u%2) (Nat.lt_of_le_of_lt (Nat.div_le_self _ _) hu) (by omega);have b1:u / d ||| u%2<18446744073709551616:=by
  have two:(18446744073709551616:Nat)=2^64:=by decide
  rw[two];refine Nat.or_lt_two_pow (by rw[←two];exact Nat.lt_of_le_of_lt (Nat.div_le_self _ _) hu) (by rw[←two];omega)
 have e2:=nP (u / d ||| u%2) 1 b1 (by omega);have e3:=nP (u / d ||| u%2) 0 b1 (by omega);have nd:(d:Int)≠0:=by omega
 have hw:IntKind.u64.wrap ((u:Int) / d)=((u / d:Nat):Int):=by rw[←Int.natCast_ediv];exact yT _ (Nat.lt_of_le_of_lt (Nat.div_le_self _ _) hu)
 have HW:=hid hw;clear hw;have HE1:=hid e1;have HE2:=hid e2;have HE3:=hid e3;clear e1 e2 e3;go_enter Tryz.func286,Tryz.ntmps286
 by_cases hm:u%d=0
 ·have c:((u:Int)%d !=0)=false:=bne_eq_false_iff_eq.2 (by rw[←Int.natCast_emod,hm];rfl);go_wp2_with fail
  go_quiet ((go_at_call 295;exact Calls.quiet_of_same ((zI _).mono fun _ _ h=>⟨h.1,h.2.symm⟩)))
  go_wp2
  go_ret;refine⟨?_,_,rfl⟩;unfold iO;rw[if_pos hm,HW.out,HA.out,HE1.out];exact congrArg _ (congrArg _ HE3.out)
 ·have c:((u:Int)%d !=0)=true:=by rw[bne_iff_ne,←Int.natCast_emod];omega
  go_wp2_with fail
  go_quiet ((go_at_call 295;exact Calls.quiet_of_same ((aAT _).mono fun _ _ h=>⟨h.1,h.2.symm⟩)))
  go_wp2
  go_ret;refine⟨?_,_,rfl⟩;unfold iO;rw[if_neg hm,HW.out,HA.out,HE1.out];exact congrArg _ (congrArg _ HE2.out)
theorem aLj (u:Nat)(hu:u<18446744073709551616):iO u 10<18446744073709551616:=by
 have two:(18446744073709551616:Nat)=2^64:=by decide
 unfold iO;rw[two]at hu ⊢
 refine Nat.or_lt_two_pow (Nat.or_lt_two_pow (Nat.lt_of_le_of_lt (Nat.div_le_self _ _) hu) ?_) ?_
 ·rw[←two];omega
 ·split<;>decide
theorem aHb (u:Nat)(w:World)(hu:u<18446744073709551616):Calls Tryz.prog 286 #[.int .u64 u,.int .u64 10] w fun e w'=>e=.returned (.int .u64 (iO u 10:Nat))∧∃n,w'=w.drewN n:=aLk u 10 w hu (by omega) (by omega)
def aCT (u n:Nat)(p:Int):Nat × Int:=if 4*10^n-2≤u then (eV (iO u 10),-(p-1))else (eV u,-p)
theorem aJ8 (n:Nat)(w:World)(h:n<20)(T:Lib.TabIs Tryz.prog w "internal/strconv.uint64pow10" .u64 Lib.pow10Tab):w.cell? ⟨9,n,none⟩=some (.int .u64 (10^n:Nat)):=by
 unfold Lib.TabIs World.var? at T;simp only[aFR,Option.bind_some]at T;split at T
 ·rename_i cs x y hc;cases T;have:=cell_of_row w 9 n _ _ _ hc;rw[this];simp[Lib.pow10Tab,h]
 ·cases T
theorem aBT (x:Nat)(w:World)(h1:1≤x)(h2:x<4611686018427387904):Calls Tryz.prog 275 #[.int .u64 x] w fun e w'=>e=.returned (.int .u64 (4*x-2:Nat))∧w=w':=by
 go_enter Tryz.func275,Tryz.ntmps275
 go_wp2
 go_ret;refine⟨lJ ?_,rfl⟩;omega
theorem aHo (m n:Nat)(e lp prec p':Int)(i s u d:Nat)(w:World)(T:aA w)(he1:-1140≤e)(he2:e≤1000)(hm:m<18446744073709551616)(n1:1≤n)(n2:n≤17)
  (hp:(n:Int)-1-(e+63)*78913 / 262144=(i:Int)-348) (hi:i<696) (hlp:((i:Int)-348)*108853 / 32768=lp) (hs:-(e+lp+3)=s) (hs64:s<64)
  (h1:bU m (aG i) (aO i) s=u) (hD:aCT u n ((i:Int)-348)=(d,p')) (hH:aG i<18446744073709551616) (hL:aO i<18446744073709551616) :
  Calls Tryz.prog 261 #[.int .u64 m,.int .i64 e,.int .i64 n,.int .i64 prec,.int .u8 101] w fun e' w'=>e'=.returned (.tuple #[.int .u64 d,.int .i64 p'])∧Below w.heap.size w w':=by
 have U1:=fun(w:World) b o c0 c1 c2=>cQ m (aG i) (aO i) s w b o c0 c1 c2 hm hH hL hs64
 rw[h1]at U1
 have l1:u<18446744073709551616:=by rw[←h1];exact bX _ _ _ _ hm hH hL
 have R1:=fun w=>lC u (eV u) w l1 rfl
 have HU1:=hid U1;have HT:=hid T;have HS:=hid hs;have HR1:=hid R1;clear U1 h1 hH hL T hs R1;go_enter Tryz.func261,Tryz.ntmps261
 go_wp2_with (first
  | (go_at_call 260;refine(pY _ _ (by omega) (by omega)).mono ?_;rintro e w' ⟨rfl,rfl⟩)
  | (go_at_call 272;refine(lA _ _ (by omega) (by omega)).mono ?_;rintro e w' ⟨rfl,rfl⟩))
 have T1:aA (w.alloc (.cells #[.int .u64 0,.int .u64 0,.int .i64 0] 265)):=HT.out.below ((Below.refl w.heap.size w).alloc (Nat.le_refl _) _) (Nat.le_refl _);have hg:=heap_alloc_new w (.cells #[.int .u64 0,.int .u64 0,.int .i64 0] 265);have hsz:=HT.out.size;refine(fO e lp s i _ w.heap.size _ _ _ _ hg rfl hi (by omega) T1 (by omega) (by omega) (by omega) (by omega) HS.out).mono ?_;rintro e1 w1 ⟨rfl,hg1,K1⟩;have hz1:w.heap.size<w1.heap.size:=by have:=K1.size;simp at this;omega
 have B1:Below w.heap.size w w1:=(((aC.refl (fun _=>False) w).alloc _).trans' K1 (fun _ _ h=>by omega)).below (Nat.le_refl _) (fun _ _ h=>h.elim);have T3:=HT.out.below B1 (Nat.le_refl _);have HB1:=hid B1;have HK1:=hid K1;have c0:=cell_of_row w1 w.heap.size 0 _ _ _ hg1;have c1:=cell_of_row w1 w.heap.size 1 _ _ _ hg1;have c2:=cell_of_row w1 w.heap.size 2 _ _ _ hg1;have cp:=fun k=>aJ8 n (w1.drewN k) (by omega) (T3.drewN k).u10
 simp at c0 c1 c2;obtain⟨g,hgg⟩:∃g,w.heap.size=g:=⟨_,rfl⟩
 rw[hgg]at c0 c1 c2 hg1 hz1 ⊢
 clear T1 T3 hg K1 B1 hgg hsz hg1;have hq:1≤10^n∧10^n≤100000000000000000:=⟨Nat.pow_pos (by decide),Nat.pow_le_pow_right (n:=10) (by decide) n2⟩
 unfold aCT at hD;generalize 10^n=q at cp hq hD;obtain⟨q1,q2⟩:=hq;by_cases hc:4*q-2≤u
 ·have hge:decide (((4*q-2:Nat):Int)≤(u:Int))=true:=decide_eq_true (by omega);have l2:iO u 10<18446744073709551616:=aLj u l1;have R2:=fun w=>lC (iO u 10) (eV (iO u 10)) w l2 rfl
  have HR2:=hid R2;clear R2;rw[if_pos hc]at hD
  obtain⟨rfl,rfl⟩:=Prod.mk.inj hD;go_wp2_with (first
   | (go_at_call 274;((with_reducible refine(HU1.out _ _ _ ?_ ?_ ?_).mono ?_);all_goals first|exact c0|exact c1|exact c2|skip);rintro e w' ⟨rfl,k1,rfl⟩)
   | (go_at_call 275;((with_reducible refine(aBT q _ q1 (by omega)).mono ?_);rintro e w' ⟨rfl,rfl⟩))
   | (go_at_call 286;((with_reducible refine(aHb u _ l1).mono ?_);rintro e w' ⟨rfl,k2,rfl⟩))
   | (go_at_call 277;((with_reducible refine(HR2.out _).mono ?_);rintro e w' ⟨rfl,rfl⟩)))
  go_ret2;refine⟨rfl,HB1.out.trans ⟨rfl,rfl,rfl,Nat.le_refl _,fun _ _=>rfl⟩⟩
 ·have hge:decide (((4*q-2:Nat):Int)≤(u:Int))=false:=decide_eq_false (by omega);rw[if_neg hc]at hD
  obtain⟨rfl,rfl⟩:=Prod.mk.inj hD;go_wp2_with (first
   | (go_at_call 274;((with_reducible refine(HU1.out _ _ _ ?_ ?_ ?_).mono ?_);all_goals first|exact c0|exact c1|exact c2|skip);rintro e w' ⟨rfl,k1,rfl⟩)
   | (go_at_call 275;((with_reducible refine(aBT q _ q1 (by omega)).mono ?_);rintro e w' ⟨rfl,rfl⟩))
   | (go_at_call 277;((with_reducible refine(HR1.out _).mono ?_);rintro e w' ⟨rfl,rfl⟩)))
  go_ret2;refine⟨rfl,HB1.out.trans ⟨rfl,rfl,rfl,Nat.le_refl _,fun _ _=>rfl⟩⟩
theorem aIP (A B:Nat)(hB:0<B):iO (unr A B) 10=unr A (10*B):=by
 have e:∀u:Nat,iO u 10=if u%10=0 then u / 10 else 2*(u / 10 / 2)+1:=by
  intro u;unfold iO;by_cases h:u%10=0
  ·rw[if_pos h,if_pos h,show u%2=0 by omega,Nat.or_zero,Nat.or_zero]
  ·rw[if_neg h,if_neg h];rcases Nat.mod_two_eq_zero_or_one u with h2|h2
   ·rw[h2,Nat.or_zero,pF]
   ·rw[h2,Nat.or_assoc,Nat.or_self,pF]
 rw[e];have g1:=fun k=>eW A B k hB
 have l1:=fun k=>dZ A B k hB
 refine(aFo _ _ (fun k=>?_) (fun k=>?_)).symm
 ·rw[eW _ _ _ (by omega),show k*(10*B)=(10*k)*B by rw[Nat.mul_left_comm,Nat.mul_assoc],←g1];split<;>omega
 ·rw[dZ _ _ _ (by omega),show k*(10*B)=(10*k)*B by rw[Nat.mul_left_comm,Nat.mul_assoc],←l1];split<;>omega
def qN (y:Nat):Int:=((y:Int)-1074)*78913 / 262144
def aCg (y:Nat):Prop:=10^(qN y).toNat*2^1074≤2^y*10^(-qN y).toNat∧2^y*10^(-(qN y+1)).toNat<10^(qN y+1).toNat*2^1074∧-324≤qN y∧qN y≤308
instance (y:Nat):Decidable (aCg y):=by unfold aCg;exact inferInstance
theorem aLh:((List.range 2098).all fun y=>decide (aCg y))=true:=by kernel_rfl
theorem aM4 (y:Nat)(h:y<2098):aCg y:=of_decide_eq_true (List.all_eq_true.1 aLh y (List.mem_range.2 h))
def aFt (y n:Nat):Prop:=4≤60-((y:Int)-1074)-lpI ((n:Int)+347-qN y).toNat∧60-((y:Int)-1074)-lpI ((n:Int)+347-qN y).toNat≤63
instance (y n:Nat):Decidable (aFt y n):=by unfold aFt;exact inferInstance
theorem aNJ:((List.range 2098).all fun y=>(List.range 17).all fun n=>decide (aFt y (n+1)))=true:=by kernel_rfl
theorem aOs (y n:Nat)(h:y<2098)(n1:1≤n)(n2:n≤17):aFt y n:=by
 have:=of_decide_eq_true (List.all_eq_true.1 (List.all_eq_true.1 aNJ y (List.mem_range.2 h)) (n-1) (List.mem_range.2 (by omega)));rwa[show n-1+1=n by omega]at this
theorem aBH (a b c d X Y:Nat)(h:a+d=c+b)(h1:10^a*X≤Y*10^b):10^c*X≤Y*10^d:=by
 refine Nat.le_of_mul_le_mul_left (c:=10^a) ?_ (dG a);have h2:=Nat.mul_le_mul_left (10^c) h1;have e:10^a*10^d=10^c*10^b:=by rw[←Nat.pow_add,←Nat.pow_add,h]
 calc 10^a*(10^c*X)=10^c*(10^a*X):=Nat.mul_left_comm _ _ _
  _≤10^c*(Y*10^b):=h2
  _=Y*(10^c*10^b):=Nat.mul_left_comm _ _ _
  _=Y*(10^a*10^d):=by rw[e]
  _=10^a*(Y*10^d):=Nat.mul_left_comm _ _ _
theorem aDt (a b c d X Y:Nat)(h:a+d=c+b)(h1:Y*10^b<10^a*X):Y*10^d<10^c*X :=
 Nat.lt_of_not_le fun h2=>Nat.not_le_of_lt h1 (aBH c d a b X Y (by omega) h2)
theorem aFL (A B u n i:Nat)(B0:0<B)(n1:1≤n)(n2:n≤17)(hi:i≤696)(hu:u=unr A (10^(696-i)*B))(h1:10^(n-1)*(10^(696-i)*B)≤A)(h2:A<2*(10^n*(10^(696-i)*B))) :
  ∃d j:Nat,aCT u n ((i:Int)-348)=(d,(j:Int)-348)∧(j=696-i∨j=697-i)∧Fx (2*A) B n d j:=by
 have hC:=Nat.mul_pos (dG (696-i)) B0;have hN:10^n=10*10^(n-1):=by rw[←eF];congr 1;omega
 have q1:=dG (n-1);have q2:10^(n-1)≤10^16:=iM (by omega);have e16:(10:Nat)^16=10000000000000000:=by decide
 have eC:10^(697-i)*B=10*(10^(696-i)*B):=by rw[show 697-i=696-i+1 by omega,eF,Nat.mul_assoc]
 have ud:=aIP A (10^(696-i)*B) hC;have ev1:=pW A _ u hC hu;have ev2:=pW A _ (iO u 10) (show 0<10*(10^(696-i)*B) by omega) (by rw[hu];exact ud);have low:4*10^(n-1)≤u:=by
  have:=(eW A (10^(696-i)*B) (2*10^(n-1)) hC).2 (by rw[Nat.mul_assoc];omega);omega
 have high:u≤8*10^n:=by
  have:=(dZ A (10^(696-i)*B) (4*10^n) hC).2 (by rw[Nat.mul_assoc];omega);omega
 unfold aCT;by_cases hc:4*10^n-2≤u
 ·rw[if_pos hc];have k1:(2*10^n-1)*(10^(696-i)*B)≤2*A:=by
   have:=(eW A (10^(696-i)*B) (2*10^n-1) hC).1 (by omega);exact this
  have hg:=Nat.le_mul_of_pos_left (10^(696-i)*B) q1;generalize 10^(696-i)*B=C at *
  rw[Nat.sub_mul,Nat.one_mul,Nat.mul_assoc]at k1
  have l2:4*10^(n-1)-2<iO u 10:=by
   rw[hu,ud];refine Nat.lt_of_not_le fun h=>?_
   have:=(dZ A (10*C) (2*10^(n-1)-1) (by omega)).1 (by omega);rw[Nat.sub_mul,Nat.one_mul,Nat.mul_assoc,Nat.mul_left_comm _ 10]at this
   rw[hN,Nat.mul_assoc]at k1
   omega
  have g2:iO u 10≤8*10^(n-1):=by
   have:=(dZ A (10*C) (4*10^(n-1)) (by omega)).2 (by
    rw[Nat.mul_assoc,Nat.mul_left_comm _ 10];rw[hN,Nat.mul_assoc]at h2
    omega)
   rw[hu,ud];omega
  rw[jV _ (by omega)];have r1:10^(n-1)≤aU (iO u 10):=by unfold aU;omega
  have r2:aU (iO u 10)≤2*10^(n-1):=by unfold aU;omega
  refine⟨_,697-i,by congr 1;omega,.inr rfl,r1,by omega,n1,by rw[eC];exact ev2,?_⟩;rw[Nat.mul_assoc,eC];rw[hN,Nat.mul_assoc]at k1
  rw[Nat.mul_left_comm _ 10];omega
 ·rw[if_neg hc,jV _ (by omega)];have r1:10^(n-1)≤aU u:=by unfold aU;omega
  have r2:aU u<10^n:=by unfold aU;omega
  refine⟨_,696-i,by congr 1;omega,.inl rfl,r1,r2,n1,ev1,?_⟩;rw[Nat.mul_assoc];omega
theorem aHn (M k z n:Nat)(e:Int)(hk:k<2046)(hM:1≤M)(hm:M<9007199254740992)(hkM:4503599627370496≤M∨k=0)(hz:11≤z)(hx1:9223372036854775808≤M*2^z)(hx:M*2^z<18446744073709551616)
  (he:e=(k:Int)-1074-z) (n1:1≤n) (n2:n≤17) :
  ∃i s:Nat,i<696∧(n:Int)-1-(e+63)*78913 / 262144=(i:Int)-348∧-(e+lpI i+3)=s∧s<64∧∃d j:Nat,aCT (bU (M*2^z) (aG i) (aO i) s) n ((i:Int)-348)=(d,(j:Int)-348)∧8≤j∧j≤657∧Fx (2*(aL (k*4503599627370496+M)*10^348)) (2^1074) n d j:=by
 have z63:z≤63:=by
  refine Nat.le_of_not_lt fun h=>?_
  have a:2^64≤2^z:=Nat.pow_le_pow_right (by decide) h;have b:1*2^z≤M*2^z:=Nat.mul_le_mul_right _ hM;have c:(2:Nat)^64=18446744073709551616:=by decide
  omega
 obtain⟨y,hy⟩:∃y:Nat,y=k+63-z:=⟨_,rfl⟩
 have ey:e+63=(y:Int)-1074:=by omega
 obtain⟨d1,d2,d3,d4⟩:=aM4 y (by omega);obtain⟨s1,s2⟩:=aOs y n (by omega) n1 n2;rw[ey];have hL:((y:Int)-1074)*78913 / 262144=qN y:=rfl;rw[hL];generalize qN y=L at *
 obtain⟨i,hi⟩:∃i:Nat,i=((n:Int)+347-L).toNat:=⟨_,rfl⟩
 rw[←hi]at s1 s2
 obtain⟨s,hs⟩:∃s:Nat,s=(60-((y:Int)-1074)-lpI i).toNat:=⟨_,rfl⟩
 have hs':-(e+lpI i+3)=s:=by omega
 have hv:=gW k M hm (by omega);have p2:2^y*2^z=2^k*9223372036854775808:=by
  rw[show(9223372036854775808:Nat)=2^63 by decide,←Nat.pow_add,←Nat.pow_add];congr 1;omega
 have v1:2^y≤M*2^k:=by
  refine Nat.le_of_mul_le_mul_right (c:=2^z) ?_ (Nat.two_pow_pos z);rw[p2,Nat.mul_right_comm];have:=Nat.mul_le_mul_right (2^k) hx1;rw[Nat.mul_comm]at this
  exact this
 have v2:M*2^k<2*2^y:=by
  refine Nat.lt_of_mul_lt_mul_right (a:=2^z) ?_;rw[Nat.mul_assoc 2,p2,Nat.mul_right_comm];have:=Nat.mul_lt_mul_of_pos_right hx (Nat.two_pow_pos k);have e:18446744073709551616*2^k=2*(2^k*9223372036854775808):=by rw[Nat.mul_comm (2^k)];omega
  omega
 have u1:=jF M z k i s z 0 e (by omega) hM hx (by omega) he hs' (.inr ⟨by omega,by omega⟩);rw[Nat.pow_zero,Nat.mul_one]at u1
 have u2:=u1.trans (tJ M k i (k*4503599627370496+M) (by omega) hv);rw[hv]at u2 ⊢
 have c1:10^(n-1)*(10^(696-i)*2^1074)≤M*2^k*10^348:=by
  have h1:=aBH L.toNat (-L).toNat (n-1+(696-i)) 348 _ _ (by omega) d1;rw[Nat.pow_add,Nat.mul_assoc]at h1
  exact Nat.le_trans h1 (Nat.mul_le_mul_right _ v1)
 have c2:M*2^k*10^348<2*(10^n*(10^(696-i)*2^1074)):=by
  have h1:=aDt (L+1).toNat (-(L+1)).toNat (n+(696-i)) 348 _ _ (by omega) d2;rw[Nat.pow_add,Nat.mul_assoc]at h1
  have h2:=Nat.mul_lt_mul_of_pos_right v2 (dG 348);rw[Nat.mul_assoc 2 (2^y)]at h2
  exact Nat.lt_of_lt_of_le h2 (Nat.mul_le_mul_left 2 (Nat.le_of_lt h1))
 obtain⟨d,j,f1,f2,f3⟩:=aFL (M*2^k*10^348) (2^1074) _ n i (Nat.two_pow_pos _) n1 n2 (by omega) u2 c1 c2;exact⟨i,s,by omega,by omega,hs',by omega,d,j,f1,by omega,by omega,f3⟩
def RN0 (r a:Nat):Prop:=bB (aV a 0) (aE 0) r
theorem mX (r c j:Nat):bB (aV c j) (aE j) r↔RN0 r (c*10^j):=by
 have:=mF c 0 j r;rwa[Nat.zero_add]at this
theorem aJN (W C Vl Vh x y:Nat)(h1:x+Vl=W)(h2:y=W+Vh)(o:Prop) :
  ((x≤2*C∧(o→x<2*C))∧(2*C≤y∧(o→2*C<y)))↔((W≤2*C+Vl∧(o→W<2*C+Vl))∧(2*C≤W+Vh∧(o→2*C<W+Vh))):=by
 subst h2;constructor
 ·rintro⟨⟨a,b⟩,c⟩;exact⟨⟨by omega,fun h=>by have:=b h;omega⟩,c⟩
 ·rintro⟨⟨a,b⟩,c⟩;exact⟨⟨by omega,fun h=>by have:=b h;omega⟩,c⟩
theorem aNO {q r:Nat}(h:q≤r):ulp q≤ulp r:=Nat.pow_le_pow_right (by decide) (by have:=Nat.div_le_div_right (c:=4503599627370496) h;omega)
theorem aKH (r:Nat)(h1:1≤r)(h2:r<aI):Iv (2*(aL r*10^348)) (ulp (r-1)*10^348) (ulp r*10^348) (2^1074) (r%2=1) (RN0 r):=by
 obtain⟨q,rfl⟩:∃q,r=q+1:=⟨r-1,by omega⟩
 refine⟨fun a=>?_,Nat.two_pow_pos 1074,Nat.mul_pos (aFn _) (dG  348),Nat.mul_le_mul_right _ (aNO (by omega))⟩;have eA:aV a 0=a*2^1074:=by unfold aV;rw[Nat.zero_sub,Nat.pow_zero,Nat.mul_one]
 have eB:aE 0=10^348:=(by unfold aE; rw [Nat.sub_zero]);have v1:=gI q;have v2:=gI (q+1);rw[Nat.add_sub_cancel];have s:=aJN (2*(aL (q+1)*10^348)) (a*2^1074) (ulp q*10^348) (ulp (q+1)*10^348) ((aL q+aL (q+1))*10^348) ((aL (q+1)+aL (q+1+1))*10^348)
  (by rw[←Nat.add_mul,←Nat.mul_assoc,show aL q+aL (q+1)+ulp q=2*aL (q+1) by omega]) (by rw[←Nat.mul_assoc,←Nat.add_mul,show aL (q+1)+aL (q+1+1)=2*aL (q+1)+ulp (q+1) by omega]) ((q+1)%2=1)
 refine Iff.trans ⟨fun h=>?_,fun h=>?_⟩ s
 ·have a1:=h.lo q rfl;have a2:=h.hi h2;rw[eA,eB]at a1 a2
  exact⟨a1,a2⟩
 ·refine⟨Nat.le_of_lt h2,fun q' hq=>?_,fun _=>?_⟩
  ·obtain rfl:q'=q:=by omega
   rw[eA,eB];exact h.1
  ·rw[eA,eB];exact h.2
theorem aKw:decide (10^348<10^25*2^1074)=true∧decide (19*10^23*2^1074<2*10^348)=true∧decide (19*10^24*2^1074<4*10^348)=true∧decide (3*10^348<2*10^25*2^1074)=true:=⟨by kernel_rfl,by kernel_rfl,by kernel_rfl,by kernel_rfl⟩
theorem aMz (r:Nat)(h1:1≤r)(h2:r<aI):aIY (2*(aL r*10^348)) (2^1074) (RN0 r):=by
 intro s hR hW;have hI:=(((aKH r h1 h2).iff _).1 hR).2.1;obtain⟨c1,c2,c3,c4⟩:=aKw;have c1:=of_decide_eq_true c1;have c2:=of_decide_eq_true c2;have c3:=of_decide_eq_true c3;have c4:=of_decide_eq_true c4;have eT:10^(s+1)*2^1074=10*(10^s*2^1074):=by rw[eF,Nat.mul_assoc]
 rw[eT]at hI
 obtain⟨k,m,rfl,hm,hk⟩:=aAx r;have hv:=gW k m hm hk;have hu:=mL k m hm hk;rw[hv,hu]at hI
 rw[hv]at hW
 have e1:m*2^k*10^348=m*(2^k*10^348):=Nat.mul_assoc _ _ _;rw[e1]at hI hW
 have hp:0<2^k*10^348:=Nat.mul_pos (Nat.two_pow_pos k) (dG  348);have m9:m≤9:=by
  refine Nat.le_of_not_lt fun h=>?_
  have:=Nat.mul_le_mul_right (2^k*10^348) (show 10≤m from h);omega
 have k0:k=0:=by omega
 generalize (2 : Nat) ^ 1074 = y at *;generalize (10 : Nat) ^ 348 = z at *;subst k0;rw [Nat.pow_zero, Nat.one_mul] at hI hW
 have y0:0<y:=Nat.pos_of_ne_zero fun h=>by subst h;omega
 have s25:s<25:=by
  refine Nat.lt_of_not_le fun h=>?_
  have:=Nat.mul_le_mul_right y (iM h);omega
 have s24:24≤s:=by
  refine Nat.le_of_not_lt fun h=>?_
  have a:=Nat.mul_le_mul_right y (iM (show s≤23 by omega));rw[Nat.mul_assoc]at c2
  have b:=Nat.mul_le_mul_right z (show 1≤m by omega);omega
 obtain rfl:s=24:=by omega
 have m1:m=1:=by
  have:m<2:=by
   refine Nat.lt_of_not_le fun h=>?_
   have:=Nat.mul_le_mul_right z h;rw[Nat.mul_assoc]at c3
   omega
  omega
 subst m1;rw[Nat.mul_assoc]at c4
 have e25:10^25*y=10*(10^24*y):=by rw[←Nat.mul_assoc,←eF]
 omega
theorem aJj (d:Nat)(h:1≤d):∃D t,d=D*10^t∧D%10≠0∧1≤D:=by
 induction d using Nat.strongRecOn with
 | _ d ih =>
  by_cases h0:d%10=0
  ·obtain⟨D,t,e,h1,h2⟩:=ih (d / 10) (by omega) (by omega);refine⟨D,t+1,?_,h1,h2⟩;rw[Nat.pow_succ,←Nat.mul_assoc,←e];omega
  ·exact⟨d,0,by simp,h0,h⟩
theorem aJk (D:Nat)(h:D%10≠0):bZ D=Lib.decDigits D:=by
 obtain⟨l,c,hl,hc⟩:∃l c,Lib.decDigits D=l++[c]∧c≠48:=by
  by_cases h10:D<10
  ·refine⟨[],UInt8.ofNat (48+D),by rw[Lib.decDigits_one h10];rfl,fun e=>?_⟩;have:=congrArg UInt8.toNat e;simp at this;omega
  ·refine⟨Lib.decDigits (D / 10),UInt8.ofNat (48+D%10),by rw[Lib.decDigits,dif_neg h10],fun e=>?_⟩;have:=congrArg UInt8.toNat e;simp at this;omega
 unfold bZ;rw[hl,jX,if_neg hc];exact List.take_of_length_le (by simp)
theorem aAf (D N:Nat)(h:Lib.nDigits D=N)(h1:1≤D):10^(N-1)≤D:=by
 induction D using Nat.strongRecOn generalizing N with
 | _ D ih =>
  by_cases h10:D<10
  ·rw[Lib.nDigits_small h10]at h
   subst h;exact h1
  ·rw[Lib.nDigits_big h10]at h
   subst h;have:=ih (D / 10) (by omega) _ rfl (by omega);have p:=Lib.nDigits_pos (D / 10);rw[Nat.add_sub_cancel,show Lib.nDigits (D / 10)=Lib.nDigits (D / 10)-1+1 by omega,eF];omega
theorem aEl (D t:Nat)(h:1≤D):Lib.nDigits (D*10^t)=Lib.nDigits D+t:=by
 have h1:=aAf D _ rfl h;have h2:=Lib.lt_pow_nDigits D;have p:=Lib.nDigits_pos D;have e:=Lib.nDigits_unique (Lib.nDigits D+t-1) (D*10^t) (by
  rw[show Lib.nDigits D+t-1=Lib.nDigits D-1+t by omega,Nat.pow_add];exact Nat.mul_le_mul_right _ h1) (by
  rw[show Lib.nDigits D+t-1+1=Lib.nDigits D+t by omega,Nat.pow_add];exact Nat.mul_lt_mul_of_pos_right h2 (dG t))
 omega
theorem aOt {r d j:Nat}{q:Int}(S:fJ r d q j):∃D t N,Sh (2*(aL r*10^348)) (2^1074) (RN0 r) d j t D N∧bZ d=Lib.decDigits D∧Lib.nDigits D=N∧Lib.nDigits d=N+t:=by
 obtain⟨D,t,hd,ho,h1⟩:=aJj d S.pos;refine⟨D,t,Lib.nDigits D,⟨hd.symm,aAf D _ rfl h1,Lib.lt_pow_nDigits D,Lib.nDigits_pos D,ho,(mX _ _ _).1 S.rn,?_⟩,?_,rfl,?_⟩
 ·refine S.pick.imp (fun U a ha=>U a ((mX _ _ _).2 ha)) (fun⟨E,ev⟩=>⟨?_,fun a ha=>E a ((mX _ _ _).2 ha),ev⟩);refine Nat.eq_zero_of_not_pos fun ht=>?_
  refine E (D*10^(t-1)) ?_;rw[iI];have:10*(D*10^(t-1))=d:=by
   rw[hd,Nat.mul_left_comm,←eF,show t-1+1=t by omega]
  rw[this];exact S.rn
 ·rw[hd];unfold bZ;rw[aFE D t h1,aJk D ho]
 ·rw[hd];exact aEl D t h1
theorem aLi {r d j:Nat}{q:Int}(S:fJ r d q j)(h1:1≤r)(h2:r<aI):∃D t N,bZ d=Lib.decDigits D∧Lib.nDigits D=N∧Lib.nDigits d=N+t∧1≤N∧10^(N-1)≤D∧D<10^N∧bB (aV D (j+t)) (aE (j+t)) r ∧
  (∀c n i,1≤c→c<10^n→n<N→¬bB (aV c i) (aE i) r) ∧
  (∀m s,Fx (2*(aL r*10^348)) (2^1074) N m s→s=j+t∧(m=D∨(¬bB (aV m s) (aE s) r∧m+1=D)∨(¬bB (aV m s) (aE s) r∧¬bB (aV (m+1) s) (aE s) r∧m=D+1))):=by
 obtain⟨D,t,N,H,e1,e2,e3⟩:=aOt S;have I:=aKH r h1 h2;have T:=aMz r h1 h2;refine⟨D,t,N,e1,e2,e3,H.one,H.lo,H.hi,?_,fun c n i c1 c2 c3 h=>aDG I H c n i c1 c2 c3 ((mX _ _ _).1 h),fun m s F=>?_⟩
 ·rw[mX,Nat.pow_add,Nat.mul_comm (10^j),←Nat.mul_assoc,H.val];exact H.rn
 ·rw[mX,mX];exact aKk I T H F
open Go.RowKit
theorem aCU (b n:Nat)(h1:1≤b)(h2:b<aI)(n1:1≤n)(n2:n≤17) :
  ∃m s,Fx (2*(aL b*10^348)) (2^1074) n m s∧8≤s∧s≤657∧zB b ((n:Int)-1) (dS (Lib.decDigits m) ((n:Int)+s-349)):=by
 have hI:b<9218868437227405312:=h2;obtain⟨M,k,z,x,ee,e0,e1,e2,e3,e4,e5,e6,e7,e8,e9,e10,e11⟩:∃(M k z x:Nat) (ee:Int),z≤63∧k<2046∧1≤M∧M<9007199254740992∧(4503599627370496≤M∨k=0)∧11≤z∧M*2^z=x∧9223372036854775808≤x∧x<18446744073709551616∧ee=(k:Int)-1074-z∧b=k*4503599627370496+M∧aGM b x ee:=by
  by_cases hc:b<4503599627370496
  ·obtain⟨L,hL,L1,_,l1,l2⟩:=oM b h1 (by omega);have L2:L≤52:=by
    refine Nat.le_of_not_lt fun h=>?_
    have:2^52≤2^(L-1):=Nat.pow_le_pow_right (by decide) (by omega);have e52:(2:Nat)^52=4503599627370496:=by decide
    omega
   refine⟨b,0,64-L,_,(L:Int)-1138,by omega,by omega,h1,by omega,.inr rfl,by omega,rfl,?_,?_,by omega,by omega,.inl ⟨hc,L,hL,L1,L2,rfl,rfl⟩⟩
   ·have:=Nat.mul_le_mul_right (2^(64-L)) l1;rw[←Nat.pow_add,show L-1+(64-L)=63 by omega]at this
    exact this
   ·have:=Nat.mul_lt_mul_of_pos_right l2 (Nat.two_pow_pos (64-L));rw[←Nat.pow_add,show L+(64-L)=64 by omega]at this
    exact this
  ·have e11:(2:Nat)^11=2048:=by decide
   exact⟨4503599627370496+b%4503599627370496,b / 4503599627370496-1,11,(4503599627370496+b%4503599627370496)*2048,((b / 4503599627370496:Nat):Int)-1086,by omega,by omega,by omega,by omega,.inl (by omega),by omega,by rw[e11],by omega,by omega,by omega,by omega,.inr ⟨by omega,rfl,rfl⟩⟩
 obtain⟨i,s,i1,i2,i3,i4,d,j,f1,j1,j2,F⟩:=aHn M k z n ee e1 e2 e3 e4 e5 (by rw[e6];exact e7) (by rw[e6];exact e8) e9 n1 n2;rw[e6]at f1
 rw[←e10]at F
 refine⟨d,j,F,j1,j2,?_⟩;intro w B ad c S hO T hS;obtain⟨hH,hL⟩:=aAw i i1;have q16:10^n≤10^17:=iM n2;have q17:(10:Nat)^17=100000000000000000:=by decide
 have hlo:=F.lo;have hhi:=F.hi;have hp:=dG (n-1);have hN:Lib.nDigits d=n:=by
  have:=Lib.nDigits_unique (n-1) d hlo (by rw[show n-1+1=n by omega];exact hhi);omega
 have FC:=fun w' T'=>aHo x n ee (lpI i) ((n:Int)-1) _ i s _ d w' T' (by omega) (by omega) e8 n1 n2 i2 i1 rfl i3 i4 rfl f1 hH hL
 obtain⟨k',rfl⟩:∃k',n=k'+1:=⟨n-1,by omega⟩
 have c1:((k'+1:Nat):Int)=(k':Int)+1:=by omega
 have c2:(k':Int)+1-1=k':=by omega
 rw[c1,c2]at FC
 have:=aFQ w B ad c S b x k' d ee ((j:Int)-348) hO T h1 hI e8 e11 hS FC (by omega) hN (by omega) (by omega) (by omega) (by omega);rw[c1,c2,show(k':Int)+1+j-349=(k':Int)+(j-348) by omega];exact this
theorem aGx:∀(l:List UInt8) (acc:Nat),(∀c∈l,aD c=true)→l.foldl jY acc≤1000000000000000000→Lib.parseUintM 18446744073709551615 acc l=.ok (l.foldl jY acc)∧acc≤l.foldl jY acc:=by
 intro l;induction l with
 | nil=>intro acc _ _;exact⟨rfl,Nat.le_refl _⟩
 | cons c l ih =>
  intro acc hd hv;have hc:=hd c List.mem_cons_self;have hr:48≤c.toNat∧c.toNat≤57:=by
   unfold aD at hc;simpa using hc
  have hs:jY acc c=acc*10+(c.toNat-48):=by
   unfold jY;rw[if_neg];intro e;rw[e]at hr
   exact absurd hr.1 (by decide)
  rw[List.foldl_cons,hs]at hv ⊢
  obtain⟨h1,h2⟩:=ih _ (fun x hx=>hd x (List.mem_cons_of_mem _ hx)) hv;refine⟨?_,by omega⟩;unfold Lib.parseUintM;rw[if_pos hr,if_neg (by omega),if_neg (by omega)];exact h1
theorem aDn (m:Nat)(hm:m≤100000000000000000):Lib.parseIntB 64 (Lib.decDigits m)=.ok (m:Int):=by
 have hv:(Lib.decDigits m).foldl jY 0=m:=vD m;have hu:=(aGx (Lib.decDigits m) 0 (jS m) (by rw[hv];omega)).1;rw[hv]at hu
 have hl:=Lib.decDigits_length m;have hp:=Lib.nDigits_pos m;cases h:Lib.decDigits m with
 | nil=>rw[h]at hl;simp at hl;omega
 | cons c r =>
  have hc:=jS m c (by rw[h];exact List.mem_cons_self);have hr:48≤c.toNat∧c.toNat≤57:=by
   unfold aD at hc;simpa using hc
  have e64:(2:Nat)^64-1=18446744073709551615:=by decide
  have e63:(2:Nat)^(64-1)=9223372036854775808:=by decide
  unfold Lib.parseIntB;simp only;rw[if_neg (by omega),←h];unfold Lib.parseUintB;rw[if_neg (by rw[h];simp),e64,hu,e63];simp only;rw[if_neg (by omega),if_neg (by omega),if_neg (by omega)]
theorem aCz:((List.range 1000).all fun x=>decide (Lib.atoi (43 :: bV x)=some (x:Int))&&decide (Lib.atoi (45 :: bV x)=some (-(x:Int))))=true:=by kernel_rfl
theorem aI8 (X:Int)(h0:-1000<X)(h1:X<1000):Lib.atoi ((if X<0 then 45 else 43) :: bV X.natAbs)=some X:=by
 have:=List.all_eq_true.1 aCz X.natAbs (List.mem_range.2 (by omega));simp only[Bool.and_eq_true,decide_eq_true_eq]at this;by_cases h:X<0
 ·rw[if_pos h,this.2];congr 1;omega
 ·rw[if_neg h,this.1];congr 1;omega
theorem aEE (D:List UInt8)(n:Nat)(X:Int)(h:D.length=n)(h1:1≤n) :
  (dS D X).take 1=D.take 1∧(1<n→((dS D X).take (1+n)).drop 2=D.drop 1)∧(dS D X).drop (if 1<n then n+2 else 2)=(if X<0 then 45 else 43) :: bV X.natAbs∧(dS D X).length≤n+6:=by
 obtain⟨d,D',rfl⟩:∃d D',D=d :: D':=by
  cases D with
  | nil=>simp at h;omega
  | cons d D'=>exact⟨d,D',rfl⟩
 have hl:D'.length+1=n:=by simpa using h
 have he:(bV X.natAbs).length≤3:=by
  unfold bV;repeat' split
  all_goals simp
 by_cases c:1<n
 ·have e:=zK d D' X (by omega);rw[e];refine⟨rfl,fun _=>?_,?_,?_⟩
  ·rw[show 1+n=D'.length+2 by omega];show List.drop 2 (d :: 46 :: ((D'++[101,if X<0 then 45 else 43])++bV X.natAbs).take D'.length)=D';simp[List.append_assoc]
  ·rw[if_pos c,show n+2=D'.length+3 by omega];show((D'++[101,if X<0 then 45 else 43])++bV X.natAbs).drop (D'.length+1)=_;rw[List.append_assoc,←List.drop_drop,List.drop_left];rfl
  ·simp;omega
 ·obtain rfl:D'=[]:=List.eq_nil_of_length_eq_zero (by omega);rw[aBu];refine⟨rfl,fun h=>absurd h c,?_,?_⟩
  ·rw[if_neg c];rfl
  ·simp;omega
theorem aJJ {r N n m s:Nat}(h:∀c n i,1≤c→c<10^n→n<N→¬bB (aV c i) (aE i) r)(hn:n<N)(j:Nat):¬Hit r n m s j:=by
 rintro⟨⟨h1,h2⟩,h3⟩;have:=Lib.lt_pow_nDigits (fA m j);rw[h3]at this
 exact h _ n s h1 this hn h2
theorem aLC {r N D m s:Nat}(hD1:1≤D)(hN:Lib.nDigits D=N)(hr:bB (aV D s) (aE s) r)(h:m=D∨(¬bB (aV m s) (aE s) r∧m+1=D)∨(¬bB (aV m s) (aE s) r∧¬bB (aV (m+1) s) (aE s) r∧m=D+1)) :
  ∃j,j<3∧fA m j=D∧Hit r N m s j∧∀i,i<j→¬Hit r N m s i:=by
 have c0:fA m 0=m:=rfl;have c1:fA m 1=m+1:=rfl;have c2:fA m 2=m-1:=rfl;have key:∀j,fA m j=D→Hit r N m s j:=fun j e=>by unfold Hit;rw[e];exact⟨⟨hD1,hr⟩,hN⟩
 rcases h with rfl|⟨h1,h2⟩|⟨h1,h2,h3⟩
 ·exact⟨0,by omega,c0,key 0 c0,fun i hi=>by omega⟩
 ·refine⟨1,by omega,by omega,key 1 (by omega),fun i hi=>?_⟩;obtain rfl:i=0:=by omega
  exact fun hh=>h1 hh.1.2
 ·refine⟨2,by omega,by omega,key 2 (by omega),fun i hi=>?_⟩;rcases(show i=0∨i=1 by omega)with rfl|rfl
  ·exact fun hh=>h1 hh.1.2
  ·exact fun hh=>h2 hh.1.2
open Go.RowKit
theorem aLf (s:ByteArray)(i j:Nat)(h:j≤s.size)(h2:i≤j) :
  ∃s2:ByteArray,s2.data.toList=(s.data.toList.take j).drop i∧∀w,(Instr.slice 9 (.string s) (some (.int .i64 i)) (some (.int .i64 j)) none).run Tryz.prog w=.ok (.string s2) w:=by
 refine⟨s.extract i j,?_,fun w=>?_⟩
 ·rw[Lib.extract_data,List.drop_take]
 ·rw[run_slice_string_if (P:=Tryz.prog) w 9 s .i64 .i64 i j Tryz.underlying9,if_pos (by omega),if_pos (by omega)];simp
theorem aIm (r n m s:Nat)(n1:1≤n)(n2:n≤17)(hm:Lib.nDigits m=n)(s2:s≤657)(hF:zB r ((n:Int)-1) (dS (Lib.decDigits m) ((n:Int)+s-349))):∃S sA sB sC sD,aEM r n m s S sA sB sC sD:=by
 obtain⟨X,hX⟩:∃X,(n:Int)+s-349=X:=⟨_,rfl⟩
 rw[hX]at hF
 have hD:(Lib.decDigits m).length=n:=by rw[Lib.decDigits_length];exact hm
 obtain⟨t1,t2,t3,t4⟩:=aEE (Lib.decDigits m) n X hD n1;have q17:m<10^n:=by have:=Lib.lt_pow_nDigits m;rwa[hm]at this
 have q18:10^n≤10^17:=iM n2;have q19:(10:Nat)^17=100000000000000000:=by decide
 obtain⟨S,hS⟩:∃S:ByteArray,S=⟨(dS (Lib.decDigits m) X).toArray⟩:=⟨_,rfl⟩
 have hSL:S.data.toList=dS (Lib.decDigits m) X:=by rw[hS]
 have hlen:n+3≤S.size:=by
  have h3:S.data.toList.length=S.size:=rfl;have:=congrArg List.length t3;rw[List.length_drop,←hSL,h3]at this
  have he:2≤(bV X.natAbs).length:=by
   unfold bV;repeat' split
   all_goals simp
  simp only[List.length_cons]at this;split at this<;>omega
 obtain⟨sA,eA,zA,kA⟩:=nO S 1 (by omega);obtain⟨sB,eB,kB⟩:∃s2:ByteArray,s2.data.toList=(if 1<n then (Lib.decDigits m).drop 1 else [])∧(1<n→∀w,(Instr.slice 9 (.string S) (some (.int .i64 2)) (some (.int .i64 (1+(n:Int)))) none).run Tryz.prog w=.ok (.string s2) w):=by
  by_cases h:1<n
  ·obtain⟨x,e,k⟩:=aLf S 2 (1+n) (by omega) (by omega);refine⟨x,?_,fun _ w=>?_⟩
   ·rw[e,hSL,t2 h,if_pos h]
   ·have:=k w;rw[show((1+n:Nat):Int)=1+(n:Int) by omega]at this
    exact this
  ·exact⟨⟨#[]⟩,by rw[if_neg h],fun h2=>absurd h2 h⟩
 obtain⟨sC,eC,zC,kC⟩:=eR S (if 1<n then n+2 else 2) (by split<;>omega);rw[hSL,t3]at eC
 rw[hSL,t1]at eA
 have hap:(if n=1 then sA else sA++sB)=⟨(Lib.decDigits m).toArray⟩:=by
  by_cases h:n=1
  ·rw[if_pos h];refine nN _ _ ?_;rw[eA,List.take_of_length_le (by omega)]
  ·rw[if_neg h];refine nN _ _ ?_;rw[dR,eA,eB,if_pos (by omega),List.take_append_drop]
 have zA2:sA.size≤1000:=by omega
 have zB2:sB.size≤1000:=by
  rw[aP,eB];split
  ·rw[List.length_drop];omega
  ·simp
 refine⟨S,sA,sB,sC,⟨(Lib.decDigits m).toArray⟩,?_,kA,kB,?_,?_,hap,⟨zA2,zB2⟩,?_,?_⟩
 ·intro w T;rw[hS];exact aCY r ((n:Int)-1) _ w T (by omega) (by omega) hF
 ·intro h w;have:=kC w;rw[if_neg (by omega)]at this
  exact this
 ·intro h w;have:=kC w;rw[if_pos h,show((n+2:Nat):Int)=1+(n:Int)+1 by omega]at this
  exact this
 ·intro w;rw[hX];have hl:sC.size≤18:=by
   rw[aP,eC];unfold bV;repeat' split
   all_goals simp
  refine(Tryz.strconv_Atoi sC X hl (by rw[eC];exact aI8 X (by omega) (by omega)) w).mono ?_;rintro e w' ⟨rfl,t,rfl⟩;exact⟨rfl,Lib.bytesWorld_below w 5 t⟩
 ·intro w;refine(Tryz.strconv_ParseInt _ (by rw[dN,hD];omega) m (aDn m (by omega)) w).mono ?_;rintro e w' ⟨rfl,h|⟨t,h⟩⟩
  ·rw[h];exact⟨rfl,Below.refl _ _⟩
  ·rw[h];exact⟨rfl,Lib.bytesWorld_below w 5 t⟩
theorem aHC (n:Int)(w:World)(T:aA w)(h0:-9223372036854775808≤n)(h1:n≤9223372036854775807) :
  Calls Tryz.prog 225 #[.int .i64 n,.int .i64 10] w fun e w'=>e=.returned (.string ⟨(Lib.itoa n).toArray⟩)∧Below w.heap.size w w':=by
 refine(Tryz.strconv_FormatInt n h0 h1 w T.u10).mono ?_;rintro e w' ⟨rfl,k,os,rfl⟩;refine⟨rfl,rfl,rfl,rfl,?_,?_⟩
 ·show w.heap.size≤(w.heap++os).size;simp
 ·intro j hj;show(w.heap++os)[j]?=w.heap[j]?;rw[Array.getElem?_append_left hj]
end Go.Proofs.YtcfgbdhpcboikaaGreatDoor
