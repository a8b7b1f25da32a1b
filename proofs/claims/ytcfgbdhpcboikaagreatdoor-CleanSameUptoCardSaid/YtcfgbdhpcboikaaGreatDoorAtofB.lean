/-
atof64 at a numeral of many digits, whose ends do not come to one: the slow decimals.
-/
import Derived.Test.YtcfgbdhpcboikaaGreatDoorNumQ
import Derived.Test.YtcfgbdhpcboikaaGreatDoorDecH
namespace Go.Proofs.YtcfgbdhpcboikaaGreatDoor
open Go.Lib (hid)
set_option maxHeartbeats 2000000
set_option maxRecDepth 100000
open Go.RowKit
theorem aBs {n:Nat}:n≤n:=Nat.le_refl n
def aA5:Dec.Dc:=⟨List.replicate 800 0,0,0,false,false⟩
theorem aIW:aA5.D.length=800:=List.length_replicate
def xL:Array Value:=(kC aA5).toArray
theorem aID (m:Nat)(h:m<18446744073709551616):bits .and .u64 (m:Int) 4503599627370495=((m%4503599627370496:Nat):Int):=by
 have:=u64_and_nat m 4503599627370495 h (by omega);rw[show(4503599627370495:Nat)=2^52-1 from rfl,Nat.and_two_pow_sub_one_eq_mod]at this
 exact this
theorem aFH (m x:Nat)(neg:Bool)(hm:m<18446744073709551616)(hx:x<2048):jQ m x neg=((sgn neg+(x*4503599627370496+m%4503599627370496):Nat):Int):=by
 have a1:=aID m hm;have a2:bits .and .i64 (x:Int) 2047=x:=aAZ x (by omega);have a3:IntKind.u64.wrap (IntKind.u64.wrap (x:Int)*4503599627370496)=((x*4503599627370496:Nat):Int):=by
  rw[dQ,dQ];omega
 have hf:m%4503599627370496<4503599627370496:=Nat.mod_lt _ (by decide);have a4:bits .or .u64 ((m%4503599627370496:Nat):Int) ((x*4503599627370496:Nat):Int)=((x*4503599627370496+m%4503599627370496:Nat):Int):=by
  have:=(aHo 0 (m%4503599627370496) x (.inl rfl) hf).resolve_right (by omega);rw[Nat.zero_add,Nat.zero_add]at this
  exact this
 unfold jQ;rw[a1,a2,a3,a4];cases neg
 ·rw[if_neg (by decide)];simp[sgn]
 ·rw[if_pos rfl];have:=oE 9223372036854775808 (x*4503599627370496+m%4503599627370496) (.inr rfl) (by omega);rw[show bits .or .u64 ((x*4503599627370496+m%4503599627370496:Nat):Int) 9223372036854775808=bits .or .u64 ((9223372036854775808:Nat):Int) ((x*4503599627370496+m%4503599627370496:Nat):Int)from ?_,this]
  ·simp[sgn]
  ·have e1:=u64_or_nat (x*4503599627370496+m%4503599627370496) 9223372036854775808 (by omega) (by omega);have e2:=u64_or_nat 9223372036854775808 (x*4503599627370496+m%4503599627370496) (by omega) (by omega);rw[Nat.or_comm]at e1
   exact e1.trans e2.symm
theorem aJE (s:Dec.Dc):pS s<18446744073709551616:=by
 unfold pS;split
 ·omega
 ·split
  ·exact Nat.mod_lt _ (by decide)
  ·exact wP _ _
theorem aE7 (m:Nat)(E:Int)(neg:Bool)(hm:m<18446744073709551616)(h1:-1022≤E)(h2:E+1023<2047):∃b,b<aT∧rR m E neg=(((sgn neg+b:Nat):Int),false):=by
 obtain⟨x,hx,hxe⟩:∃x:Nat,x<2047∧(if bits .and .u64 (m:Int) 4503599627370496==0 then 0 else E+1023)=(x:Int):=by
  split
  ·exact⟨0,by omega,rfl⟩
  ·exact⟨(E+1023).toNat,by omega,by omega⟩
 unfold rR;rw[hxe,aFH m x neg hm (by omega)];exact⟨_,by unfold aT;omega,rfl⟩
theorem aLc (s:Dec.Dc)(E:Int)(neg:Bool)(h1:-1022≤E):(∃b,b<aT∧zF s E neg=(((sgn neg+b:Nat):Int),false))∨∃z:Int,zF s E neg=(z,true):=by
 unfold zF;split
 ·exact .inr ⟨_,rfl⟩
 ·split
  ·split
   ·exact .inr ⟨_,rfl⟩
   ·exact .inl (aE7 _ _ _ (by omega) (by omega) (by omega))
  ·exact .inl (aE7 _ _ _ (aJE _) h1 (by omega))
theorem aMK (s:Dec.Dc)(E:Int):-1022≤(upS s E).2:=by
 unfold upS;split
 ·exact Int.le_refl _
 ·omega
theorem aMi (r1 r2:Nat)(s:Dec.Dc):(∃b,b<aT∧fbF r1 r2 s=(((sgn s.neg+b:Nat):Int),false))∨∃z:Int,fbF r1 r2 s=(z,true):=aLc _ _ _ (aMK _ _)
theorem aB.slow {w:World}(T:aB w)(o:Obj):mO (w.alloc o) w.heap.size:=by
 have hc:∀a v,w.cell? a=some v→(w.alloc o).cell? a=some v∧a.block≠w.heap.size:=fun a v hv=>by
  have:=World.block_lt_of_cell? w _ hv;exact⟨by rw[((Below.refl w.heap.size w).alloc aBs o).cell this,hv],by omega⟩
 obtain⟨b,oo,h1,h2⟩:=T.cheats;obtain⟨b2,o2,h3,h4⟩:=T.p2;refine⟨⟨b,oo,(hc _ _ (h2 0 (by omega)).1).2,(hc _ _ h1).1,fun i hi=>?_⟩,⟨b2,o2,(hc _ _ (h4 0 (by omega))).2,(hc _ _ h3).1,fun i hi=>(hc _ _ (h4 i hi)).1⟩,(hc _ _ T.info0).1,(hc _ _ T.info1).1,(hc _ _ T.info2).1,?_⟩
 ·have:=h2 i hi;rw[show i*2=2*i by omega,show oo+2*i+1=oo+(2*i+1) by omega];exact⟨(hc _ _ this.1).1,(hc _ _ this.2).1⟩
 ·have:=T.size;omega
theorem aKK (w:World):aE (w.alloc (.cells xL 234)) w.heap.size aA5:=⟨heap_alloc_new w _,aIW⟩
theorem aEg:Tryz.zeroCells234=xL:=by kernel_rfl
theorem aIJ (s:ByteArray)(m:Nat)(x:Int)(neg:Bool)(r r2:Nat)(v v2:Value)(w:World)(T:aB w)(SP:yJ s)(RD:uW s m x neg true)(hm:m≠0)(hm2:m+1<18446744073709551616)(x1:-345≤x)(x2:x≤310)(_hs:s.size≤40)
  (PF:∀w,aB w→Calls Tryz.prog 245 #[.int .u64 m,.int .i64 x,.int .u64 (sgn neg)] w fun e' w'=>e'=.returned (.tuple #[.float .f64 r,v])∧Below w.heap.size w w')
  (PG:∀w,aB w→Calls Tryz.prog 245 #[.int .u64 (m+1:Nat),.int .i64 x,.int .u64 (sgn neg)] w fun e' w'=>e'=.returned (.tuple #[.float .f64 r2,v2])∧Below w.heap.size w w')
  (hq:(FloatKind.f64.format.order r r2==some .eq)=false) (D:Dec.Dc) (z:Int) (ov:Bool)
  (SF:∀w B,aE w B aA5→Calls Tryz.prog 240 #[.pointer (some ⟨B,0,none⟩),.string s] w fun e w'=>e=.returned (.bool true)∧aE w' B D∧aF (· = B) w w')
  (FB:∀w B,mO w B→aE w B D→Calls Tryz.prog 241 #[.pointer (some ⟨B,0,none⟩),.pointer (some ⟨8,0,none⟩)] w (uS B (z,ov) w)) :
  Calls Tryz.prog 205 #[.string s] w fun e w'=>e=.returned (.tuple #[.float .f64 z.toNat,.int .i64 s.size,if ov then .iface 158 (.int .i64 1)else .nilIface])∧Below w.heap.size w w':=by
 have h3:=T.opt;have d1:=kY;have hm0:((m:Int)==0)=false:=beq_eq_false_iff_ne.2 (by omega);have HSP:=hid SP;have HRD:=hid RD;have HPF:=hid PF;have HPG:=hid PG;have HSF:=hid SF;have HFB:=hid FB;have HT:=hid T;clear SP RD PF PG SF FB T;cases neg;all_goals
  go_enter Tryz.func205,Tryz.ntmps205
  go_wp2_with (first
   | (go_at_call 233;refine(HSP.out _).mono ?_;rintro e w' ⟨rfl,rfl⟩)
   | (go_at_call 234;refine(HRD.out _).mono ?_;rintro e w' ⟨rfl,rfl⟩)
   | (go_at_call 242;((with_reducible refine(dI _).mono ?_);rintro e w' ⟨rfl,rfl⟩))
   | (go_at_call 242;((with_reducible refine(cN _).mono ?_);rintro e w' ⟨rfl,rfl⟩)))
  refine(HPF.out _ HT.out).mono ?_;rintro e w2 ⟨rfl,B2⟩;have HB2:=hid B2;have HT2:=hid (HT.out.below B2 aBs);clear B2;go_wp2_with fail
  refine(HPG.out _ HT2.out).mono ?_;rintro e w3 ⟨rfl,B3⟩;have HB3:=hid (HB2.out.trans (B3.mono HB2.out.size));have HT3:=hid (HT2.out.below B3 aBs);clear B3;go_wp2_with fail
  rw[aEg];have D0:=aKK w3;have S0:=HT3.out.slow (.cells xL 234);obtain⟨W,hW⟩:∃W,w3.alloc (.cells xL 234)=W:=⟨_,rfl⟩
  have bW:Below w.heap.size w W:=by rw[←hW];exact HB3.out.alloc HB3.out.size _
  obtain⟨B,hB⟩:∃B,w3.heap.size=B:=⟨_,rfl⟩
  have hle:w.heap.size≤B:=by rw[←hB];exact HB3.out.size
  rw[hW,hB]at D0 S0
  rw[hW,hB];clear hW hB;refine(HSF.out _ _ D0).mono ?_;rintro e w4 ⟨rfl,D4,K4⟩;have S4:=S0.kept K4;have HD4:=hid D4;have HS4:=hid S4;have HK4:=hid K4;have HBW:=hid bW;clear D4 S4 K4 D0 S0 bW;go_wp2_with fail
  refine(HFB.out _ _ HS4.out HD4.out).mono ?_;rintro e w5 ⟨rfl,K5⟩;have HB5:Hid (Below w.heap.size w w5):=HBW.out.trans ((HK4.out.trans K5).below HBW.out.size (fun k _ e=>by omega));clear K5;cases ov
  ·go_wp2
   go_ret3;exact⟨rfl,HB5.out⟩
  ·go_wp2
   go_ret3;exact⟨rfl,HB5.out⟩
open Go.RowKit
theorem aMl (D:Dec.Dc)(hF:Dec.Fine D)(hn:1≤D.nd)(p1:-330≤D.dp) :
  ∃(z:Int) (ov:Bool),(∀w B,mO w B→aE w B D→Calls Tryz.prog 241 #[.pointer (some ⟨B,0,none⟩),.pointer (some ⟨8,0,none⟩)] w (uS B (z,ov) w)) ∧
   (ov=false→∃b,b<aT∧z=((sgn D.neg+b:Nat):Int)):=by
 by_cases hbig:310<D.dp
 ·exact⟨_,true,fun w B T h=>aMk B D w T h hn hbig,fun h=>by cases h⟩
 ·obtain⟨d,r,e1,_,e3,e4,_⟩:=Dec.fine_cons hF hn;have ht:D.top<10:=by rw[e3];exact e4 d (by simp)
  obtain⟨r1,b1,E1⟩:=aMX _ D hF hn ht aBs;obtain⟨q1,q2,q3,q4,q5,q6,q7,q8⟩:=aKT r1 D 0 E1 hF hn ht (by omega) (by omega) (Int.le_refl _);obtain⟨r2,b2,E2⟩:=aMY _ (eZ r1 D 0).1 q1 q2 q3 aBs;have FB:∀w B,mO w B→aE w B D→Calls Tryz.prog 241 #[.pointer (some ⟨B,0,none⟩),.pointer (some ⟨8,0,none⟩)] w (uS B (fbF r1 r2 D) w) :=
   fun w B T h=>aMj B r1 r2 D w T h hF hn ht p1 (by omega) E1 E2 (by omega) (by omega)
  rcases aMi r1 r2 D with⟨b,hb,e⟩|⟨z,e⟩
  ·rw[e]at FB
   exact⟨_,false,FB,fun _=>⟨b,hb,rfl⟩⟩
  ·rw[e]at FB
   exact⟨z,true,FB,fun h=>by cases h⟩
theorem aLd (K m:Nat)(h1:m<9007199254740992)(h2:¬ 2046≤K):0+min (K*4503599627370496+m) 9218868437227405312<aT:=by
 have h3:K*4503599627370496+m<9218868437227405312:=by omega
 rw[Nat.zero_add];exact Nat.lt_of_le_of_lt (Nat.min_le_left _ _) h3
theorem aFI (d i:Nat)(hd1:1≤d)(hd:d<18446744073709551616)(hi:i<696) :
  (∃b,b<aT∧mY d i=(b,.nilIface))∨∃b,mY d i=(b,.iface 158 (.int .i64 1)):=by
 obtain⟨b,hb,b1,b64,l1,l2⟩:=wR d hd1 hd;unfold mY;rw[hb];by_cases hfar:64≤gJ b i
 ·rw[if_pos hfar];exact .inl ⟨0,by unfold aT;omega,rfl⟩
 ·rw[if_neg hfar];obtain⟨s,hs⟩:∃s:Nat,gJ b i=s:=⟨(gJ b i).toNat,by
   obtain⟨p1,p2⟩:=aFD i hi;unfold gJ;omega⟩
  rw[hs,Int.toNat_natCast];obtain⟨q1,q2,q3⟩:=aAC d i b s _ hi b1 l1 l2 b64 hs rfl;obtain⟨m,hm⟩:∃m,bP (cA (cR (d*2^(64-b)) (aM i) (aU i) s))=m:=⟨_,rfl⟩
  rw[hm]at q2 ⊢
  clear hm;obtain⟨K,hK0⟩:∃K,bY b i+gF (cR (d*2^(64-b)) (aM i) (aU i) s)=K:=⟨_,rfl⟩
  rw[hK0];clear hK0 q3 q1;unfold lZ sL;by_cases hK:2046≤K
  ·rw[if_pos hK];exact .inr ⟨_,rfl⟩
  ·rw[if_neg hK];exact .inl ⟨0+min (K*4503599627370496+m) 9218868437227405312,aLd K m q2 hK,rfl⟩
def aMP (s:ByteArray)(neg:Bool)(b:Nat):Prop:=b<aT∧∀w,aB w→Calls Tryz.prog 205 #[.string s] w fun e w'=>e=.returned (.tuple #[.float .f64 (sgn neg+b),.int .i64 s.size,.nilIface])∧Below w.heap.size w w'
def aMQ (s:ByteArray)(r:Nat):Prop:=∀w,aB w→Calls Tryz.prog 205 #[.string s] w fun e w'=>e=.returned (.tuple #[.float .f64 r,.int .i64 s.size,.iface 158 (.int .i64 1)])∧Below w.heap.size w w'
def aFf (s:ByteArray):Prop:=(∃neg b,aMP s neg b)∨∃r,aMQ s r
theorem gZ {P:Ending→Prop}{p:FuncId}{args:Array Value}{w:World}(h:Calls Tryz.prog p args w fun e w'=>P e∧w=w'):Calls Tryz.prog p args w fun e w'=>P e∧Below w.heap.size w w' :=
 h.mono fun _ _ ⟨h1,h2⟩=>⟨h1,by rw[←h2];exact Below.refl _ _⟩
theorem aII (s:ByteArray)(m:Nat)(x:Int)(neg tr:Bool)(hs:s.size≤40)(SP:yJ s)(RD:uW s m x neg tr)(hm2:m+1<18446744073709551616)
  (D:Dec.Dc) (hF:Dec.Fine D) (hneg:D.neg=neg) (hD:m≠0→tr=true→1≤D.nd∧x+19=D.dp)
  (SF:∀w B,aE w B aA5→Calls Tryz.prog 240 #[.pointer (some ⟨B,0,none⟩),.string s] w fun e w'=>e=.returned (.bool true)∧aE w' B D∧aF (· = B) w w'):aFf s:=by
 by_cases hm:m=0
 ·subst hm;exact .inl ⟨neg,0,by unfold aT;omega,fun w T=>gZ (aEi s x neg tr w T SP RD)⟩
 ·by_cases x2:310<x
  ·exact .inr ⟨_,fun w T=>gZ (aGp s m x neg tr w T SP RD hm x2)⟩
  ·by_cases x1:x < -345
   ·exact .inl ⟨neg,0,by unfold aT;omega,fun w T=>gZ (aGr s m x neg tr w T SP RD hm x1)⟩
   ·obtain⟨i,hi⟩:∃i:Nat,x=(i:Int)-348:=⟨(x+348).toNat,by omega⟩
    have i1:i<696:=by omega
    have PF:∀w,aB w→Calls Tryz.prog 245 #[.int .u64 m,.int .i64 x,.int .u64 (sgn neg)] w fun e' w'=>e'=.returned (.tuple #[.float .f64 (sgn neg+(mY m i).1),(mY m i).2])∧Below w.heap.size w w':=by
     intro w T;rw[hi];exact aDI m i (sgn neg) w T (zJ neg) (by omega) (by omega) i1
    have ends:∀(A:∀w,aB w→Calls Tryz.prog 205 #[.string s] w fun e w'=>e=.returned (.tuple #[.float .f64 (sgn neg+(mY m i).1),.int .i64 s.size,(mY m i).2])∧Below w.heap.size w w'),aFf s:=by
     intro A;rcases aFI m i (by omega) (by omega) i1 with⟨b,hb,e⟩|⟨b,e⟩
     ·rw[e]at A
      exact .inl ⟨neg,b,hb,A⟩
     ·rw[e]at A
      exact .inr ⟨_,A⟩
    cases tr with
    | false =>
     rcases aGR m i neg hm i1 with⟨r,hr,EX⟩|EX
     ·rw[←hi]at EX
      exact .inl ⟨neg,r,hr,fun w T=>gZ (aFj s m x neg (sgn neg+r) w T hs hm (by omega) (by omega) SP RD EX)⟩
     ·rw[←hi]at EX
      exact ends fun w T=>aGq s m x neg _ _ w T SP RD hm (by omega) (by omega) EX PF
    | true =>
     have PG:∀w,aB w→Calls Tryz.prog 245 #[.int .u64 (m+1:Nat),.int .i64 x,.int .u64 (sgn neg)] w fun e' w'=>e'=.returned (.tuple #[.float .f64 (sgn neg+(mY (m+1) i).1),(mY (m+1) i).2])∧Below w.heap.size w w':=by
      intro w T;rw[hi];exact aDI (m+1) i (sgn neg) w T (zJ neg) (by omega) (by omega) i1
     obtain⟨n1,n2⟩:=hD hm rfl;cases hq:FloatKind.f64.format.order (sgn neg+(mY m i).1) (sgn neg+(mY (m+1) i).1)==some .eq with
     | true=>exact ends fun w T=>aGo s m x neg _ _ _ _ w T SP RD hm hm2 (by omega) (by omega) PF PG hq
     | false =>
      obtain⟨z,ov,FB,hz⟩:=aMl D hF n1 (by omega);have A:=fun w T=>aIJ s m x neg _ _ _ _ w T SP RD hm hm2 (by omega) (by omega) hs PF PG hq D z ov SF FB
      cases ov with
      | true=>exact .inr ⟨_,A⟩
      | false =>
       obtain⟨b,hb,e⟩:=hz rfl;rw[hneg]at e
       rw[e]at A
       exact .inl ⟨neg,b,hb,A⟩
open Go.RowKit
theorem aGs (s:ByteArray)(w:World)(T:aB w)(_hs:s.size≤40)
  (SP:∀w,Calls Tryz.prog 233 #[.string s] w fun e w'=>e=.returned (.tuple #[.float .f64 0,.int .i64 0,.bool false])∧w=w')
  (RD:∀w,Calls Tryz.prog 234 #[.string s] w fun e w'=>e=.returned (.tuple #[.int .u64 0,.int .i64 0,.bool false,.bool false,.bool false,.int .i64 s.size,.bool true])∧w=w') :
  Calls Tryz.prog 205 #[.string s] w fun e w'=>e=.returned (.tuple #[.float .f64 0,.int .i64 s.size,.nilIface])∧w=w':=by
 have h3:=T.opt;have d1:=kY;have HSP:=hid SP;have HRD:=hid RD;clear SP RD T;go_enter Tryz.func205,Tryz.ntmps205
 go_wp2_with (first
  | (go_at_call 233;refine(HSP.out _).mono ?_;rintro e w' ⟨rfl,rfl⟩)
  | (go_at_call 234;refine(HRD.out _).mono ?_;rintro e w' ⟨rfl,rfl⟩)
  | (go_at_call 242;((with_reducible refine(cN _).mono ?_);rintro e w' ⟨rfl,rfl⟩)))
 go_ret3;exact⟨rfl,rfl⟩
def s0:ByteArray:={ data:=#[48] }
theorem aNc (w:World):Calls Tryz.prog 234 #[.string s0] w fun e w'=>e=.returned (.tuple #[.int .u64 0,.int .i64 0,.bool false,.bool false,.bool false,.int .i64 s0.size,.bool true])∧w=w':=by
 have N:mC s0 0 1:=by
  refine⟨by decide,by decide,?_,?_,by kernel_rfl,fun h=>absurd h (by decide)⟩
  ·intro j h _ hj;match j,h,hj with
   | 0,_,_=>rfl
  ·intro j h _ hj;match j,h,hj with
   | 0,_,_=>intro e;exact absurd (show(48:UInt8)=46 from e) (by decide)
 have:=zG s0 false 0 1 w (by decide) ⟨by decide,.inl ⟨rfl,rfl,rfl,rfl⟩⟩ N 0 (.inl ⟨rfl,rfl⟩);have e:aO (aK s0 0 1)=⟨0,0,0,-1,false,true,false⟩:=by kernel_rfl
 rw[e]at this
 exact this
theorem aMv (w:World)(T:aB w):Calls Tryz.prog 21 #[.string s0] w fun e w'=>e=.returned (.tuple #[.float .f64 0,.bool true])∧w=w':=by
 refine aJy s0 0 w (by decide) (by kernel_rfl) (by kernel_rfl) ?_;intro w' hw;subst hw;exact aGs s0 w T (by decide) (fun w=>oZ s0 w (by decide) (by decide) (by decide) rfl rfl) aNc
theorem aNn (w:World)(T:aB w):Calls Tryz.prog 20 #[.string s0] w fun e w'=>e=.returned (.tuple #[.string s0,.bool true])∧Below w.heap.size w w':=by
 have P:=aMv;have Q:∀w,Calls Tryz.prog 63 #[.float .f64 0] w fun e w'=>e=.returned (.string s0)∧w=w':=fun w=>uC 0 w (by kernel_rfl) (by kernel_rfl) (by kernel_rfl)
 obtain⟨s,hs⟩:∃s,s=s0:=⟨_,rfl⟩
 rw[←hs]at P Q ⊢
 have HP:=hid P;have HQ:=hid Q;have HT:=hid T;clear P Q T hs;go_enter Tryz.func20,Tryz.ntmps20
 go_wp2_with fail
 refine(HP.out _ HT.out).mono ?_;rintro e w1 ⟨rfl,rfl⟩;go_wp2_with fail
 refine(HQ.out _).mono ?_;rintro e w2 ⟨rfl,rfl⟩;go_wp2
 go_ret2;exact⟨rfl,Below.refl _ _⟩
open Go.RowKit
theorem aJC (s:ByteArray)(r:Nat)(w:World)(T:aB w)
  (A:∀w',aB w'→Calls Tryz.prog 205 #[.string s] w' fun e w2=>e=.returned (.tuple #[.float .f64 r,.int .i64 s.size,.iface 158 (.int .i64 1)])∧Below w'.heap.size w' w2) :
  Calls Tryz.prog 164 #[.string s,.int .i64 64] w fun e w'=>e=.returned (.tuple #[.float .f64 r,.int .i64 s.size,.iface 158 (.int .i64 1)])∧Below w.heap.size w w':=by
 have HA:=hid A;have HT:=hid T;clear A T;go_enter Tryz.func164,Tryz.ntmps164
 go_wp2_with fail
 refine(HA.out _ HT.out).mono ?_;rintro e w2 ⟨rfl,B2⟩;have HB:=hid B2;clear B2;go_wp2
 go_ret3;exact⟨rfl,HB.out⟩
theorem aMz (s:ByteArray)(r:Nat)(w:World)(T:aB w)
  (A:∀w',aB w'→Calls Tryz.prog 205 #[.string s] w' fun e w2=>e=.returned (.tuple #[.float .f64 r,.int .i64 s.size,.iface 158 (.int .i64 1)])∧Below w'.heap.size w' w2) :
  Calls Tryz.prog 119 #[.string s,.int .i64 64] w fun e w'=>e=.returned (.tuple #[.float .f64 r,.iface 158 (.int .i64 1)])∧Below w.heap.size w w':=by
 have HA:=hid A;have HT:=hid T;clear A T;go_enter Tryz.func119,Tryz.ntmps119
 go_wp2_with fail
 refine(aJC s r _ HT.out HA.out).mono ?_;rintro e w2 ⟨rfl,B2⟩;have HB:=hid B2;clear B2;go_wp2
 go_ret2;exact⟨rfl,HB.out⟩
def aKo (r:Nat)(e:Ending):Prop:=∃t p,e=.returned (.tuple #[.float .f64 r,.iface t p])
theorem aMx (s:ByteArray)(hs:s.size≤1000)(r:Nat)(w:World)(T:aB w)
  (A:∀w',aB w'→Calls Tryz.prog 205 #[.string s] w' fun e w2=>e=.returned (.tuple #[.float .f64 r,.int .i64 s.size,.iface 158 (.int .i64 1)])∧Below w'.heap.size w' w2) :
  Calls Tryz.prog 66 #[.string s,.int .i64 64] w fun e w'=>aKo r e∧Below w.heap.size w w':=by
 have HA:=hid A;have HT:=hid T;clear A T;go_enter Tryz.func66,Tryz.ntmps66
 go_wp2_with fail
 refine(aMz s r _ HT.out HA.out).mono ?_;rintro e w2 ⟨rfl,B2⟩;have HB:=hid B2;have HT2:=hid (HT.out.below B2 aBs);clear B2;go_wp2_with fail
 obtain⟨t2,v2,h2⟩:=HT2.out.rng;refine(Tryz.strconv_toError_range _ s _ _ _ _ (by omega) h2 (.inr ⟨_,_,rfl⟩)).mono ?_;rintro e w3 ⟨N,rfl,_,_,B3⟩;have HB3:=hid (HB.out.trans (B3.mono HB.out.size));clear B3;go_wp2
 go_ret2;exact⟨⟨_,_,rfl⟩,HB3.out⟩
theorem aLe (s:ByteArray)(r:Nat)(w:World)(T:aB w)(hs:s.size≤1000)(hn:iC s.data.toList=true)
  (A:∀w',aB w'→Calls Tryz.prog 205 #[.string s] w' fun e w2=>e=.returned (.tuple #[.float .f64 r,.int .i64 s.size,.iface 158 (.int .i64 1)])∧Below w'.heap.size w' w2) :
  Calls Tryz.prog 21 #[.string s] w fun e w'=>e=.returned (.tuple #[.float .f64 0,.bool false])∧Below w.heap.size w w':=by
 have NB:=fun w=>oA s w (by unfold maxLen;omega)
 rw[hn]at NB
 have HA:=hid A;have HNB:=hid NB;have HT:=hid T;clear A NB hn T;go_enter Tryz.func21,Tryz.ntmps21
 go_wp2_with (go_at_call 65;refine(HNB.out _).mono ?_;rintro e w' ⟨rfl,rfl⟩)
 refine(aMx s hs r _ HT.out HA.out).mono ?_;rintro e w2 ⟨⟨t,p,rfl⟩,B2⟩;have HB:=hid B2;clear B2;go_wp2
 go_ret2;exact⟨rfl,HB.out⟩
theorem aDJ (s:ByteArray)(w:World)(hs:s.size≤maxLen)(hn:iC s.data.toList=false) :
  Calls Tryz.prog 21 #[.string s] w fun e w'=>e=.returned (.tuple #[.float .f64 0,.bool false])∧w=w':=by
 have NB:=fun w=>oA s w hs
 rw[hn]at NB
 have HNB:=hid NB;clear NB hn hs;go_enter Tryz.func21,Tryz.ntmps21
 go_wp2_with (go_at_call 65;refine(HNB.out _).mono ?_;rintro e w' ⟨rfl,rfl⟩)
 go_ret2;exact⟨rfl,rfl⟩
theorem aGV (s:ByteArray)(w:World)(T:aB w)
  (P:∀w,aB w→Calls Tryz.prog 21 #[.string s] w fun e w'=>e=.returned (.tuple #[.float .f64 0,.bool false])∧Below w.heap.size w w') :
  Calls Tryz.prog 20 #[.string s] w fun e w'=>e=.returned (.tuple #[.string ByteArray.empty,.bool false])∧Below w.heap.size w w':=by
 have HP:=hid P;have HT:=hid T;clear P T;go_enter Tryz.func20,Tryz.ntmps20
 go_wp2_with fail
 refine(HP.out _ HT.out).mono ?_;rintro e w1 ⟨rfl,B1⟩;have HB:=hid B1;clear B1;go_wp2
 go_ret2;exact⟨rfl,HB.out⟩
def aMS (s:ByteArray)(neg:Bool)(b:Nat):Prop:=b<aT∧∀w,aB w→Calls Tryz.prog 21 #[.string s] w fun e w'=>e=.returned (.tuple #[.float .f64 (sgn neg+b),.bool true])∧Below w.heap.size w w'
def aMT (s:ByteArray):Prop:=∀w,aB w→Calls Tryz.prog 21 #[.string s] w fun e w'=>e=.returned (.tuple #[.float .f64 0,.bool false])∧Below w.heap.size w w'
theorem aHs (A:∀s:ByteArray,iC s.data.toList=true→aFf s)(s:ByteArray)(hs:s.size≤maxLen):(∃neg b,aMS s neg b)∨aMT s:=by
 cases hn:iC s.data.toList with
 | false=>exact .inr fun w _=>gZ (aDJ s w hs hn)
 | true =>
  have h40:s.size≤40:=by
   unfold iC at hn;split at hn
   ·cases hn
   ·rw[bF];omega
  rcases A s hn with⟨neg,b,hb,h⟩|⟨r,h⟩
  ·exact .inl ⟨neg,b,hb,fun w T=>aE8 s _ w T hs hn (tR neg b hb) h⟩
  ·exact .inr fun w T=>aLe s r w T (by omega) hn h
open Go.RowKit
theorem aBH {P:Program}{f:FuncId}{args:Array Value}{w:World}{A B:Value}{R1 R2:World→Prop}(hi:P.inits.idxOf? f=none)
  (h1:Calls P f args w fun e w'=>e=.returned A∧R1 w') (h2:Calls P f args w fun e w'=>e=.returned B∧R2 w'):A=B:=by
 obtain⟨e1,w1,f1,⟨rfl,_⟩,⟨n1,c1⟩,g1,l1⟩:=h1 [];obtain⟨e2,w2,f2,⟨rfl,_⟩,⟨n2,c2⟩,g2,l2⟩:=h2 [];have s1:=step_leave_done l1 (by rw[g1];exact hi);have s2:=step_leave_done l2 (by rw[g2];exact hi);have r1:∀k,runN P (n1+(k+1)) (lone (Frame.enter P f args .normal) [] w)=.ended (.done A) w1:=fun k=>by
  rw[runN_add,c1];simp only[runN,s1]
 have r2:∀k,runN P (n2+(k+1)) (lone (Frame.enter P f args .normal) [] w)=.ended (.done B) w2:=fun k=>by
  rw[runN_add,c2];simp only[runN,s2]
 have e:n1+(n2+1)=n2+(n1+1):=by omega
 have a:=r1 n2;rw[e,r2 n1]at a
 injection a with a _;injection a with a;exact a.symm
structure Prn (neg:Bool) (b:Nat) (t:ByteArray):Prop where
 sz:t.size≤25
 nought:b=0→t=s0
 pr:∀w,aB w→Calls Tryz.prog 63 #[.float .f64 (sgn neg+b)] w fun e w'=>e=.returned (.string t)∧Below w.heap.size w w'
 pa:1≤b→∀w,aB w→Calls Tryz.prog 21 #[.string t] w fun e w'=>e=.returned (.tuple #[.float .f64 (sgn neg+b),.bool true])∧Below w.heap.size w w'
 fx:∀w,aB w→Calls Tryz.prog 20 #[.string t] w fun e w'=>e=.returned (.tuple #[.string t,.bool true])∧Below w.heap.size w w'
theorem aLj (neg:Bool)(b:Nat)(hb:b<aT):∃t,Prn neg b t:=by
 by_cases h0:b=0
 ·subst h0;refine⟨s0,by decide,fun _=>rfl,fun w T=>?_,fun h=>by omega,aNn⟩;cases neg
  ·exact gZ (uC 0 w (by kernel_rfl) (by kernel_rfl) (by kernel_rfl))
  ·exact gZ (uC 9223372036854775808 w (by kernel_rfl) (by kernel_rfl) (by kernel_rfl))
 ·obtain⟨d,q,j,_,t,_,h1,h2,h3,h4⟩:=aIM neg b (by omega) hb;exact⟨t,h1,fun h=>absurd h h0,h2,fun _=>h3,h4⟩
