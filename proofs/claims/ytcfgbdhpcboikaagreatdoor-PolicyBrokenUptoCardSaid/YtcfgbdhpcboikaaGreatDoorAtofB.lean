/-
  atof64 at a numeral of many digits, whose ends do not come to one: the slow decimals.
  What the slow decimals and parseFloat64 give, ahead of the world.
  ParseFloat, Parse and Fix of a numeral whose digits are all noughts.
  Parse and Fix, of every text.
  RealSame, without the program: two floats have one text just where they are one.
  policy.form as a plain function: which form a value has, by its element and its attribute.
  policy.language: what it answers.
  atof64 at every numeral.
  real.Fix, of every text: its one text, or none.
  policy.form at dir.
-/
import Derived.Test.YtcfgbdhpcboikaaGreatDoorNumQ
import Derived.Test.YtcfgbdhpcboikaaGreatDoorDecH
import Derived.Test.YtcfgbdhpcboikaaGreatDoorSpec
import Derived.Test.YtcfgbdhpcboikaaGreatDoorReadC
import Derived.Test.YtcfgbdhpcboikaaGreatDoorCmp
import Derived.Test.YtcfgbdhpcboikaaGreatDoorNumL
import Derived.Test.YtcfgbdhpcboikaaGreatDoorMayW
import Derived.Test.YtcfgbdhpcboikaaGreatDoorDecV
namespace Go.Proofs.YtcfgbdhpcboikaaGreatDoor
set_option maxHeartbeats 4000000
set_option maxRecDepth 100000
open Go.RowKit
def decN:Dec.Dc:=⟨List.replicate 800 0,0,0,false,false⟩
theorem decN_len:decN.D.length=800:=List.length_replicate
def zero234:Array Value:=(decCells decN).toArray
theorem and_mant (m:Nat)(h:m<18446744073709551616):bits .and .u64 (m:Int) 4503599627370495=((m%4503599627370496:Nat):Int):=by
 have:=u64_and_nat m 4503599627370495 h (by omega)
 rw[show(4503599627370495:Nat)=2^52-1 from rfl,Nat.and_two_pow_sub_one_eq_mod] at this
 exact this
theorem outI_small (m x:Nat)(neg:Bool)(hm:m<18446744073709551616)(hx:x<2048):outI m x neg=((sgn neg+(x*4503599627370496+m%4503599627370496):Nat):Int):=by
 have a1:=and_mant m hm
 have a2:bits .and .i64 (x:Int) 2047=x:=and2047 x (by omega)
 have a3:IntKind.u64.wrap (IntKind.u64.wrap (x:Int)*4503599627370496)=((x*4503599627370496:Nat):Int):=by
  rw[wrap_u64,wrap_u64];omega
 have hf:m%4503599627370496<4503599627370496:=Nat.mod_lt _ (by decide)
 have a4:bits .or .u64 ((m%4503599627370496:Nat):Int) ((x*4503599627370496:Nat):Int)=((x*4503599627370496+m%4503599627370496:Nat):Int):=by
  have:=(or_exp 0 (m%4503599627370496) x (.inl rfl) hf).resolve_right (by omega)
  rw[Nat.zero_add,Nat.zero_add] at this
  exact this
 unfold outI
 rw[a1,a2,a3,a4]
 cases neg
 ·rw[if_neg (by decide)]
  simp[sgn]
 ·rw[if_pos rfl]
  have:=sign_or_u64 9223372036854775808 (x*4503599627370496+m%4503599627370496) (.inr rfl) (by omega)
  rw[show bits .or .u64 ((x*4503599627370496+m%4503599627370496:Nat):Int) 9223372036854775808=bits .or .u64 ((9223372036854775808:Nat):Int) ((x*4503599627370496+m%4503599627370496:Nat):Int) from ?_,this]
  ·simp[sgn]
  ·have e1:=u64_or_nat (x*4503599627370496+m%4503599627370496) 9223372036854775808 (by omega) (by omega)
   have e2:=u64_or_nat 9223372036854775808 (x*4503599627370496+m%4503599627370496) (by omega) (by omega)
   rw[Nat.or_comm] at e1
   exact e1.trans e2.symm
theorem rintD_lt (s:Dec.Dc):rintD s<18446744073709551616:=by
 unfold rintD
 split
 ·omega
 ·split
  ·exact Nat.mod_lt _ (by decide)
  ·exact accD_lt _ _
theorem outM_ok (m:Nat)(E:Int)(neg:Bool)(hm:m<18446744073709551616)(h1:-1022≤E)(h2:E+1023<2047):∃ b,b<infR∧outM m E neg=(((sgn neg+b:Nat):Int),false):=by
 obtain⟨x,hx,hxe⟩:∃ x:Nat,x<2047∧(if bits .and .u64 (m:Int) 4503599627370496==0 then 0 else E+1023)=(x:Int):=by
  split
  ·exact⟨0,by omega,rfl⟩
  ·exact⟨(E+1023).toNat,by omega,by omega⟩
 unfold outM
 rw[hxe,outI_small m x neg hm (by omega)]
 exact⟨_,by unfold infR;omega,rfl⟩
theorem outF_ok (s:Dec.Dc)(E:Int)(neg:Bool)(h1:-1022≤E):(∃ b,b<infR∧outF s E neg=(((sgn neg+b:Nat):Int),false))∨∃ z:Int,outF s E neg=(z,true):=by
 unfold outF
 split
 ·exact .inr ⟨_,rfl⟩
 ·split
  ·split
   ·exact .inr ⟨_,rfl⟩
   ·exact .inl (outM_ok _ _ _ (by omega) (by omega) (by omega))
  ·exact .inl (outM_ok _ _ _ (rintD_lt _) h1 (by omega))
theorem upS_ge (s:Dec.Dc)(E:Int):-1022≤(upS s E).2:=by
 unfold upS
 split
 ·exact Int.le_refl _
 ·omega
theorem fbF_ok (r1 r2:Nat)(s:Dec.Dc):(∃ b,b<infR∧fbF r1 r2 s=(((sgn s.neg+b:Nat):Int),false))∨∃ z:Int,fbF r1 r2 s=(z,true):=outF_ok _ _ _ (upS_ge _ _)
theorem Tabs.slow {w:World}(T:Tabs w)(o:Obj):Slow (w.alloc o) w.heap.size:=by
 have hc:∀ a v,w.cell? a=some v→(w.alloc o).cell? a=some v∧a.block≠w.heap.size:=fun a v hv=>by
  have:=World.block_lt_of_cell? w _ hv
  exact⟨by rw[((Below.refl w.heap.size w).alloc (Nat.le_refl _) o).cell this,hv],by omega⟩
 obtain⟨b,oo,h1,h2⟩:=T.cheats
 obtain⟨b2,o2,h3,h4⟩:=T.p2
 refine⟨⟨b,oo,(hc _ _ (h2 0 (by omega)).1).2,(hc _ _ h1).1,fun i hi=>?_⟩,⟨b2,o2,(hc _ _ (h4 0 (by omega))).2,(hc _ _ h3).1,fun i hi=>(hc _ _ (h4 i hi)).1⟩,(hc _ _ T.info0).1,(hc _ _ T.info1).1,(hc _ _ T.info2).1,?_⟩
 ·have:=h2 i hi
  rw[show i*2=2*i by omega,show oo+2*i+1=oo+(2*i+1) by omega]
  exact⟨(hc _ _ this.1).1,(hc _ _ this.2).1⟩
 ·have:=T.size
  omega
theorem decN_at (w:World):DecAt (w.alloc (.cells zero234 234)) w.heap.size decN:=⟨heap_alloc_new w _,decN_len⟩
theorem zeroCells_eq:Tryz.zeroCells234=zero234:=by kernel_rfl
theorem atof_dec (s:ByteArray)(m:Nat)(x:Int)(neg:Bool)(r r2:Nat)(v v2:Value)(w:World)(T:Tabs w)(SP:SpAt s)(RD:RdAt s m x neg true)(hm:m≠0)(hm2:m+1<18446744073709551616)(x1:-345≤x)(x2:x≤310)(_hs:s.size≤40)
  (PF:∀ w,Tabs w→Calls Tryz.prog 245 #[.int .u64 m,.int .i64 x,.int .u64 (sgn neg)] w fun e' w'=>e'=.returned (.tuple #[.float .f64 r,v])∧Below w.heap.size w w')
  (PG:∀ w,Tabs w→Calls Tryz.prog 245 #[.int .u64 (m+1:Nat),.int .i64 x,.int .u64 (sgn neg)] w fun e' w'=>e'=.returned (.tuple #[.float .f64 r2,v2])∧Below w.heap.size w w')
  (hq:(FloatKind.f64.format.order r r2==some .eq)=false) (D:Dec.Dc) (z:Int) (ov:Bool)
  (SF:∀ w B,DecAt w B decN→Calls Tryz.prog 240 #[.pointer (some ⟨B,0,none⟩),.string s] w fun e w'=>e=.returned (.bool true)∧DecAt w' B D∧Kept (· = B) w w')
  (FB:∀ w B,Slow w B→DecAt w B D→Calls Tryz.prog 241 #[.pointer (some ⟨B,0,none⟩),.pointer (some ⟨8,0,none⟩)] w (FbPost B (z,ov) w)) :
  Calls Tryz.prog 205 #[.string s] w fun e w'=>e=.returned (.tuple #[.float .f64 z.toNat,.int .i64 s.size,if ov then .iface 158 (.int .i64 1) else .nilIface])∧Below w.heap.size w w':=by
 have h3:=T.opt
 have d1:=door115
 have hm0:((m:Int)==0)=false:=beq_eq_false_iff_ne.2 (by omega)
 have HSP:=Lib.hid SP
 have HRD:=Lib.hid RD
 have HPF:=Lib.hid PF
 have HPG:=Lib.hid PG
 have HSF:=Lib.hid SF
 have HFB:=Lib.hid FB
 have HT:=Lib.hid T
 clear SP RD PF PG SF FB T
 cases neg
 all_goals
  go_enter Tryz.func205,Tryz.ntmps205
  go_wp2_with (first
   | (go_at_call 233;refine(HSP.out _).mono ?_;rintro e w' ⟨rfl,rfl⟩)
   | (go_at_call 234;refine(HRD.out _).mono ?_;rintro e w' ⟨rfl,rfl⟩)
   | (go_at_call 242;((with_reducible refine(bool2_u64_true _).mono ?_);rintro e w' ⟨rfl,rfl⟩))
   | (go_at_call 242;((with_reducible refine(bool2_u64_false _).mono ?_);rintro e w' ⟨rfl,rfl⟩)))
  refine(HPF.out _ HT.out).mono ?_
  rintro e w2 ⟨rfl,B2⟩
  have HB2:=Lib.hid B2
  have HT2:=Lib.hid (HT.out.below B2 (Nat.le_refl _))
  clear B2
  go_wp2_with fail
  refine(HPG.out _ HT2.out).mono ?_
  rintro e w3 ⟨rfl,B3⟩
  have HB3:=Lib.hid (HB2.out.trans (B3.mono HB2.out.size))
  have HT3:=Lib.hid (HT2.out.below B3 (Nat.le_refl _))
  clear B3
  go_wp2_with fail
  rw[zeroCells_eq]
  have D0:=decN_at w3
  have S0:=HT3.out.slow (.cells zero234 234)
  obtain⟨W,hW⟩:∃ W,w3.alloc (.cells zero234 234)=W:=⟨_,rfl⟩
  have bW:Below w.heap.size w W:=by rw[← hW];exact HB3.out.alloc HB3.out.size _
  obtain⟨B,hB⟩:∃ B,w3.heap.size=B:=⟨_,rfl⟩
  have hle:w.heap.size≤B:=by rw[← hB];exact HB3.out.size
  rw[hW,hB] at D0 S0
  rw[hW,hB]
  clear hW hB
  refine(HSF.out _ _ D0).mono ?_
  rintro e w4 ⟨rfl,D4,K4⟩
  have S4:=S0.kept K4
  have HD4:=Lib.hid D4
  have HS4:=Lib.hid S4
  have HK4:=Lib.hid K4
  have HBW:=Lib.hid bW
  clear D4 S4 K4 D0 S0 bW
  go_wp2_with fail
  refine(HFB.out _ _ HS4.out HD4.out).mono ?_
  rintro e w5 ⟨rfl,K5⟩
  have HB5:Hid (Below w.heap.size w w5):=HBW.out.trans ((HK4.out.trans K5).below HBW.out.size (fun k _ e=>by omega))
  clear K5
  cases ov
  ·go_wp2
   go_ret3
   exact⟨rfl,HB5.out⟩
  ·go_wp2
   go_ret3
   exact⟨rfl,HB5.out⟩
open Go.RowKit
theorem fb_res (D:Dec.Dc)(hF:Dec.Fine D)(hn:1≤D.nd)(p1:-330≤D.dp) :
  ∃ (z:Int) (ov:Bool),(∀ w B,Slow w B→DecAt w B D→Calls Tryz.prog 241 #[.pointer (some ⟨B,0,none⟩),.pointer (some ⟨8,0,none⟩)] w (FbPost B (z,ov) w)) ∧
   (ov=false→∃ b,b<infR∧z=((sgn D.neg+b:Nat):Int)):=by
 by_cases hbig:310<D.dp
 ·exact⟨_,true,fun w B T h=>fb_big B D w T h hn hbig,fun h=>by cases h⟩
 ·obtain⟨d,r,e1,_,e3,e4,_⟩:=Dec.fine_cons hF hn
  have ht:D.top<10:=by rw[e3];exact e4 d (by simp)
  obtain⟨r1,b1,E1⟩:=ends1 _ D hF hn ht (Nat.le_refl _)
  obtain⟨q1,q2,q3,q4,q5,q6,q7,q8⟩:=fin1_ok r1 D 0 E1 hF hn ht (by omega) (by omega) (Int.le_refl _)
  obtain⟨r2,b2,E2⟩:=ends2 _ (fin1 r1 D 0).1 q1 q2 q3 (Nat.le_refl _)
  have FB:∀ w B,Slow w B→DecAt w B D→Calls Tryz.prog 241 #[.pointer (some ⟨B,0,none⟩),.pointer (some ⟨8,0,none⟩)] w (FbPost B (fbF r1 r2 D) w) :=
   fun w B T h=>fb_any B r1 r2 D w T h hF hn ht p1 (by omega) E1 E2 (by omega) (by omega)
  rcases fbF_ok r1 r2 D with⟨b,hb,e⟩|⟨z,e⟩
  ·rw[e] at FB
   exact⟨_,false,FB,fun _=>⟨b,hb,rfl⟩⟩
  ·rw[e] at FB
   exact⟨z,true,FB,fun h=>by cases h⟩
theorem pack_lt (K m:Nat)(h1:m<9007199254740992)(h2:¬ 2046≤K):0+min (K*4503599627370496+m) 9218868437227405312<infR:=by
 have h3:K*4503599627370496+m<9218868437227405312:=by omega
 rw[Nat.zero_add]
 exact Nat.lt_of_le_of_lt (Nat.min_le_left _ _) h3
theorem parF_shape (d i:Nat)(hd1:1≤d)(hd:d<18446744073709551616)(hi:i<696) :
  (∃ b,b<infR∧parF d i=(b,.nilIface))∨∃ b,parF d i=(b,.iface 158 (.int .i64 1)):=by
 obtain⟨b,hb,b1,b64,l1,l2⟩:=bit_len d hd1 hd
 unfold parF
 rw[hb]
 by_cases hfar:64≤parS b i
 ·rw[if_pos hfar]
  exact .inl ⟨0,by unfold infR;omega,rfl⟩
 ·rw[if_neg hfar]
  obtain⟨s,hs⟩:∃ s:Nat,parS b i=s:=⟨(parS b i).toNat,by
   obtain⟨p1,p2⟩:=lp_bd i hi
   unfold parS
   omega⟩
  rw[hs,Int.toNat_natCast]
  obtain⟨q1,q2,q3⟩:=par_bounds d i b s _ hi b1 l1 l2 b64 hs rfl
  obtain⟨m,hm⟩:∃ m,round4 (cutU (uscN (d*2^(64-b)) (p10hi i) (p10lo i) s))=m:=⟨_,rfl⟩
  rw[hm] at q2 ⊢
  clear hm
  obtain⟨K,hK0⟩:∃ K,parK b i+cutK (uscN (d*2^(64-b)) (p10hi i) (p10lo i) s)=K:=⟨_,rfl⟩
  rw[hK0]
  clear hK0 q3 q1
  unfold packBits packErr
  by_cases hK:2046≤K
  ·rw[if_pos hK]
   exact .inr ⟨_,rfl⟩
  ·rw[if_neg hK]
   exact .inl ⟨0+min (K*4503599627370496+m) 9218868437227405312,pack_lt K m q2 hK,rfl⟩
def AFine (s:ByteArray)(neg:Bool)(b:Nat):Prop:=b<infR∧∀ w,Tabs w→Calls Tryz.prog 205 #[.string s] w fun e w'=>e=.returned (.tuple #[.float .f64 (sgn neg+b),.int .i64 s.size,.nilIface])∧Below w.heap.size w w'
def AOver (s:ByteArray)(r:Nat):Prop:=∀ w,Tabs w→Calls Tryz.prog 205 #[.string s] w fun e w'=>e=.returned (.tuple #[.float .f64 r,.int .i64 s.size,.iface 158 (.int .i64 1)])∧Below w.heap.size w w'
def ARes (s:ByteArray):Prop:=(∃ neg b,AFine s neg b)∨∃ r,AOver s r
theorem same_below {P:Ending→Prop}{p:FuncId}{args:Array Value}{w:World}(h:Calls Tryz.prog p args w fun e w'=>P e∧w=w'):Calls Tryz.prog p args w fun e w'=>P e∧Below w.heap.size w w' :=
 h.mono fun _ _ ⟨h1,h2⟩=>⟨h1,by rw[← h2];exact Below.refl _ _⟩
theorem atof_any (s:ByteArray)(m:Nat)(x:Int)(neg tr:Bool)(hs:s.size≤40)(SP:SpAt s)(RD:RdAt s m x neg tr)(hm2:m+1<18446744073709551616)
  (D:Dec.Dc) (hF:Dec.Fine D) (hneg:D.neg=neg) (hD:m≠0→tr=true→1≤D.nd∧x+19=D.dp)
  (SF:∀ w B,DecAt w B decN→Calls Tryz.prog 240 #[.pointer (some ⟨B,0,none⟩),.string s] w fun e w'=>e=.returned (.bool true)∧DecAt w' B D∧Kept (· = B) w w'):ARes s:=by
 by_cases hm:m=0
 ·subst hm
  exact .inl ⟨neg,0,by unfold infR;omega,fun w T=>same_below (atof_nought s x neg tr w T SP RD)⟩
 ·by_cases x2:310<x
  ·exact .inr ⟨_,fun w T=>same_below (atof_huge s m x neg tr w T SP RD hm x2)⟩
  ·by_cases x1:x < -345
   ·exact .inl ⟨neg,0,by unfold infR;omega,fun w T=>same_below (atof_tiny s m x neg tr w T SP RD hm x1)⟩
   ·obtain⟨i,hi⟩:∃ i:Nat,x=(i:Int)-348:=⟨(x+348).toNat,by omega⟩
    have i1:i<696:=by omega
    have PF:∀ w,Tabs w→Calls Tryz.prog 245 #[.int .u64 m,.int .i64 x,.int .u64 (sgn neg)] w fun e' w'=>e'=.returned (.tuple #[.float .f64 (sgn neg+(parF m i).1),(parF m i).2])∧Below w.heap.size w w':=by
     intro w T
     rw[hi]
     exact parF_any m i (sgn neg) w T (sgn_sign neg) (by omega) (by omega) i1
    have ends:∀ (A:∀ w,Tabs w→Calls Tryz.prog 205 #[.string s] w fun e w'=>e=.returned (.tuple #[.float .f64 (sgn neg+(parF m i).1),.int .i64 s.size,(parF m i).2])∧Below w.heap.size w w'),ARes s:=by
     intro A
     rcases parF_shape m i (by omega) (by omega) i1 with⟨b,hb,e⟩|⟨b,e⟩
     ·rw[e] at A
      exact .inl ⟨neg,b,hb,A⟩
     ·rw[e] at A
      exact .inr ⟨_,A⟩
    cases tr with
    | false =>
     rcases exact_all m i neg hm i1 with⟨r,hr,EX⟩|EX
     ·rw[← hi] at EX
      exact .inl ⟨neg,r,hr,fun w T=>same_below (atof_exact s m x neg (sgn neg+r) w T hs hm (by omega) (by omega) SP RD EX)⟩
     ·rw[← hi] at EX
      exact ends fun w T=>atof_slow s m x neg _ _ w T SP RD hm (by omega) (by omega) EX PF
    | true =>
     have PG:∀ w,Tabs w→Calls Tryz.prog 245 #[.int .u64 (m+1:Nat),.int .i64 x,.int .u64 (sgn neg)] w fun e' w'=>e'=.returned (.tuple #[.float .f64 (sgn neg+(parF (m+1) i).1),(parF (m+1) i).2])∧Below w.heap.size w w':=by
      intro w T
      rw[hi]
      exact parF_any (m+1) i (sgn neg) w T (sgn_sign neg) (by omega) (by omega) i1
     obtain⟨n1,n2⟩:=hD hm rfl
     cases hq:FloatKind.f64.format.order (sgn neg+(parF m i).1) (sgn neg+(parF (m+1) i).1)==some .eq with
     | true=>exact ends fun w T=>atof_both s m x neg _ _ _ _ w T SP RD hm hm2 (by omega) (by omega) PF PG hq
     | false =>
      obtain⟨z,ov,FB,hz⟩:=fb_res D hF n1 (by omega)
      have A:=fun w T=>atof_dec s m x neg _ _ _ _ w T SP RD hm hm2 (by omega) (by omega) hs PF PG hq D z ov SF FB
      cases ov with
      | true=>exact .inr ⟨_,A⟩
      | false =>
       obtain⟨b,hb,e⟩:=hz rfl
       rw[hneg] at e
       rw[e] at A
       exact .inl ⟨neg,b,hb,A⟩
open Go.RowKit
theorem atof_zero (s:ByteArray)(w:World)(T:Tabs w)(_hs:s.size≤40)
  (SP:∀ w,Calls Tryz.prog 233 #[.string s] w fun e w'=>e=.returned (.tuple #[.float .f64 0,.int .i64 0,.bool false])∧w=w')
  (RD:∀ w,Calls Tryz.prog 234 #[.string s] w fun e w'=>e=.returned (.tuple #[.int .u64 0,.int .i64 0,.bool false,.bool false,.bool false,.int .i64 s.size,.bool true])∧w=w') :
  Calls Tryz.prog 205 #[.string s] w fun e w'=>e=.returned (.tuple #[.float .f64 0,.int .i64 s.size,.nilIface])∧w=w':=by
 have h3:=T.opt
 have d1:=door115
 have HSP:=Lib.hid SP
 have HRD:=Lib.hid RD
 clear SP RD T
 go_enter Tryz.func205,Tryz.ntmps205
 go_wp2_with (first
  | (go_at_call 233;refine(HSP.out _).mono ?_;rintro e w' ⟨rfl,rfl⟩)
  | (go_at_call 234;refine(HRD.out _).mono ?_;rintro e w' ⟨rfl,rfl⟩)
  | (go_at_call 242;((with_reducible refine(bool2_u64_false _).mono ?_);rintro e w' ⟨rfl,rfl⟩)))
 go_ret3
 exact⟨rfl,rfl⟩
def s0:ByteArray:={ data:=#[48] }
theorem read0 (w:World):Calls Tryz.prog 234 #[.string s0] w fun e w'=>e=.returned (.tuple #[.int .u64 0,.int .i64 0,.bool false,.bool false,.bool false,.int .i64 s0.size,.bool true])∧w=w':=by
 have N:NumText s0 0 1:=by
  refine⟨by decide,by decide,?_,?_,by kernel_rfl,fun h=>absurd h (by decide)⟩
  ·intro j h _ hj
   match j,h,hj with
   | 0,_,_=>rfl
  ·intro j h _ hj
   match j,h,hj with
   | 0,_,_=>intro e;exact absurd (show(48:UInt8)=46 from e) (by decide)
 have:=read_any s0 false 0 1 w (by decide) ⟨by decide,.inl ⟨rfl,rfl,rfl,rfl⟩⟩ N 0 (.inl ⟨rfl,rfl⟩)
 have e:rfold (part s0 0 1)=⟨0,0,0,-1,false,true,false⟩:=by kernel_rfl
 rw[e] at this
 exact this
theorem parse0 (w:World)(T:Tabs w):Calls Tryz.prog 21 #[.string s0] w fun e w'=>e=.returned (.tuple #[.float .f64 0,.bool true])∧w=w':=by
 refine parse_ok s0 0 w (by decide) (by kernel_rfl) (by kernel_rfl) ?_
 intro w' hw
 subst hw
 exact atof_zero s0 w T (by decide) (fun w=>special_plain s0 w (by decide) (by decide) (by decide) rfl rfl) read0
theorem fix0 (w:World)(T:Tabs w):Calls Tryz.prog 20 #[.string s0] w fun e w'=>e=.returned (.tuple #[.string s0,.bool true])∧Below w.heap.size w w':=by
 have P:=parse0
 have Q:∀ w,Calls Tryz.prog 63 #[.float .f64 0] w fun e w'=>e=.returned (.string s0)∧w=w':=fun w=>print_zero 0 w (by kernel_rfl) (by kernel_rfl) (by kernel_rfl)
 obtain⟨s,hs⟩:∃ s,s=s0:=⟨_,rfl⟩
 rw[← hs] at P Q ⊢
 have HP:=Lib.hid P
 have HQ:=Lib.hid Q
 have HT:=Lib.hid T
 clear P Q T hs
 go_enter Tryz.func20,Tryz.ntmps20
 go_wp2_with fail
 refine(HP.out _ HT.out).mono ?_
 rintro e w1 ⟨rfl,rfl⟩
 go_wp2_with fail
 refine(HQ.out _).mono ?_
 rintro e w2 ⟨rfl,rfl⟩
 go_wp2
 go_ret2
 exact⟨rfl,Below.refl _ _⟩
open Go.RowKit
theorem prefix_e (s:ByteArray)(r:Nat)(w:World)(T:Tabs w)
  (A:∀ w',Tabs w'→Calls Tryz.prog 205 #[.string s] w' fun e w2=>e=.returned (.tuple #[.float .f64 r,.int .i64 s.size,.iface 158 (.int .i64 1)])∧Below w'.heap.size w' w2) :
  Calls Tryz.prog 164 #[.string s,.int .i64 64] w fun e w'=>e=.returned (.tuple #[.float .f64 r,.int .i64 s.size,.iface 158 (.int .i64 1)])∧Below w.heap.size w w':=by
 have HA:=Lib.hid A
 have HT:=Lib.hid T
 clear A T
 go_enter Tryz.func164,Tryz.ntmps164
 go_wp2_with fail
 refine(HA.out _ HT.out).mono ?_
 rintro e w2 ⟨rfl,B2⟩
 have HB:=Lib.hid B2
 clear B2
 go_wp2
 go_ret3
 exact⟨rfl,HB.out⟩
theorem pf46_e (s:ByteArray)(r:Nat)(w:World)(T:Tabs w)
  (A:∀ w',Tabs w'→Calls Tryz.prog 205 #[.string s] w' fun e w2=>e=.returned (.tuple #[.float .f64 r,.int .i64 s.size,.iface 158 (.int .i64 1)])∧Below w'.heap.size w' w2) :
  Calls Tryz.prog 119 #[.string s,.int .i64 64] w fun e w'=>e=.returned (.tuple #[.float .f64 r,.iface 158 (.int .i64 1)])∧Below w.heap.size w w':=by
 have HA:=Lib.hid A
 have HT:=Lib.hid T
 clear A T
 go_enter Tryz.func119,Tryz.ntmps119
 go_wp2_with fail
 refine(prefix_e s r _ HT.out HA.out).mono ?_
 rintro e w2 ⟨rfl,B2⟩
 have HB:=Lib.hid B2
 clear B2
 go_wp2
 go_ret2
 exact⟨rfl,HB.out⟩
def SomeErr (r:Nat)(e:Ending):Prop:=∃ t p,e=.returned (.tuple #[.float .f64 r,.iface t p])
theorem pf31_e (s:ByteArray)(hs:s.size≤1000)(r:Nat)(w:World)(T:Tabs w)
  (A:∀ w',Tabs w'→Calls Tryz.prog 205 #[.string s] w' fun e w2=>e=.returned (.tuple #[.float .f64 r,.int .i64 s.size,.iface 158 (.int .i64 1)])∧Below w'.heap.size w' w2) :
  Calls Tryz.prog 66 #[.string s,.int .i64 64] w fun e w'=>SomeErr r e∧Below w.heap.size w w':=by
 have HA:=Lib.hid A
 have HT:=Lib.hid T
 clear A T
 go_enter Tryz.func66,Tryz.ntmps66
 go_wp2_with fail
 refine(pf46_e s r _ HT.out HA.out).mono ?_
 rintro e w2 ⟨rfl,B2⟩
 have HB:=Lib.hid B2
 have HT2:=Lib.hid (HT.out.below B2 (Nat.le_refl _))
 clear B2
 go_wp2_with fail
 obtain⟨t2,v2,h2⟩:=HT2.out.rng
 refine(Tryz.strconv_toError_range _ s _ _ _ _ (by omega) h2 (.inr ⟨_,_,rfl⟩)).mono ?_
 rintro e w3 ⟨N,rfl,_,_,B3⟩
 have HB3:=Lib.hid (HB.out.trans (B3.mono HB.out.size))
 clear B3
 go_wp2
 go_ret2
 exact⟨⟨_,_,rfl⟩,HB3.out⟩
theorem parse_e (s:ByteArray)(r:Nat)(w:World)(T:Tabs w)(hs:s.size≤1000)(hn:numB s.data.toList=true)
  (A:∀ w',Tabs w'→Calls Tryz.prog 205 #[.string s] w' fun e w2=>e=.returned (.tuple #[.float .f64 r,.int .i64 s.size,.iface 158 (.int .i64 1)])∧Below w'.heap.size w' w2) :
  Calls Tryz.prog 21 #[.string s] w fun e w'=>e=.returned (.tuple #[.float .f64 0,.bool false])∧Below w.heap.size w w':=by
 have NB:=fun w=>numeral_any s w (by unfold maxLen;omega)
 rw[hn] at NB
 have HA:=Lib.hid A
 have HNB:=Lib.hid NB
 have HT:=Lib.hid T
 clear A NB hn T
 go_enter Tryz.func21,Tryz.ntmps21
 go_wp2_with (go_at_call 65;refine(HNB.out _).mono ?_;rintro e w' ⟨rfl,rfl⟩)
 refine(pf31_e s hs r _ HT.out HA.out).mono ?_
 rintro e w2 ⟨⟨t,p,rfl⟩,B2⟩
 have HB:=Lib.hid B2
 clear B2
 go_wp2
 go_ret2
 exact⟨rfl,HB.out⟩
theorem parse_no (s:ByteArray)(w:World)(hs:s.size≤maxLen)(hn:numB s.data.toList=false) :
  Calls Tryz.prog 21 #[.string s] w fun e w'=>e=.returned (.tuple #[.float .f64 0,.bool false])∧w=w':=by
 have NB:=fun w=>numeral_any s w hs
 rw[hn] at NB
 have HNB:=Lib.hid NB
 clear NB hn hs
 go_enter Tryz.func21,Tryz.ntmps21
 go_wp2_with (go_at_call 65;refine(HNB.out _).mono ?_;rintro e w' ⟨rfl,rfl⟩)
 go_ret2
 exact⟨rfl,rfl⟩
theorem fix_no (s:ByteArray)(w:World)(T:Tabs w)
  (P:∀ w,Tabs w→Calls Tryz.prog 21 #[.string s] w fun e w'=>e=.returned (.tuple #[.float .f64 0,.bool false])∧Below w.heap.size w w') :
  Calls Tryz.prog 20 #[.string s] w fun e w'=>e=.returned (.tuple #[.string ByteArray.empty,.bool false])∧Below w.heap.size w w':=by
 have HP:=Lib.hid P
 have HT:=Lib.hid T
 clear P T
 go_enter Tryz.func20,Tryz.ntmps20
 go_wp2_with fail
 refine(HP.out _ HT.out).mono ?_
 rintro e w1 ⟨rfl,B1⟩
 have HB:=Lib.hid B1
 clear B1
 go_wp2
 go_ret2
 exact⟨rfl,HB.out⟩
def PFine (s:ByteArray)(neg:Bool)(b:Nat):Prop:=b<infR∧∀ w,Tabs w→Calls Tryz.prog 21 #[.string s] w fun e w'=>e=.returned (.tuple #[.float .f64 (sgn neg+b),.bool true])∧Below w.heap.size w w'
def PNone (s:ByteArray):Prop:=∀ w,Tabs w→Calls Tryz.prog 21 #[.string s] w fun e w'=>e=.returned (.tuple #[.float .f64 0,.bool false])∧Below w.heap.size w w'
theorem parse_all (A:∀ s:ByteArray,numB s.data.toList=true→ARes s)(s:ByteArray)(hs:s.size≤maxLen):(∃ neg b,PFine s neg b)∨PNone s:=by
 cases hn:numB s.data.toList with
 | false=>exact .inr fun w _=>same_below (parse_no s w hs hn)
 | true =>
  have h40:s.size≤40:=by
   unfold numB at hn
   split at hn
   ·cases hn
   ·rw[size_list];omega
  rcases A s hn with⟨neg,b,hb,h⟩|⟨r,h⟩
  ·exact .inl ⟨neg,b,hb,fun w T=>parse_b s _ w T hs hn (inf_rung neg b hb) h⟩
  ·exact .inr fun w T=>parse_e s r w T (by omega) hn h
open Go.RowKit
theorem calls_det {P:Program}{f:FuncId}{args:Array Value}{w:World}{A B:Value}{R1 R2:World→Prop}(hi:P.inits.idxOf? f=none)
  (h1:Calls P f args w fun e w'=>e=.returned A∧R1 w') (h2:Calls P f args w fun e w'=>e=.returned B∧R2 w'):A=B:=by
 obtain⟨e1,w1,f1,⟨rfl,_⟩,⟨n1,c1⟩,g1,l1⟩:=h1 []
 obtain⟨e2,w2,f2,⟨rfl,_⟩,⟨n2,c2⟩,g2,l2⟩:=h2 []
 have s1:=step_leave_done l1 (by rw[g1];exact hi)
 have s2:=step_leave_done l2 (by rw[g2];exact hi)
 have r1:∀ k,runN P (n1+(k+1)) (lone (Frame.enter P f args .normal) [] w)=.ended (.done A) w1:=fun k=>by
  rw[runN_add,c1]
  simp only[runN,s1]
 have r2:∀ k,runN P (n2+(k+1)) (lone (Frame.enter P f args .normal) [] w)=.ended (.done B) w2:=fun k=>by
  rw[runN_add,c2]
  simp only[runN,s2]
 have e:n1+(n2+1)=n2+(n1+1):=by omega
 have a:=r1 n2
 rw[e,r2 n1] at a
 injection a with a _
 injection a with a
 exact a.symm
structure Prn (neg:Bool) (b:Nat) (t:ByteArray):Prop where
 sz:t.size≤25
 nought:b=0→t=s0
 pr:∀ w,Tabs w→Calls Tryz.prog 63 #[.float .f64 (sgn neg+b)] w fun e w'=>e=.returned (.string t)∧Below w.heap.size w w'
 pa:1≤b→∀ w,Tabs w→Calls Tryz.prog 21 #[.string t] w fun e w'=>e=.returned (.tuple #[.float .f64 (sgn neg+b),.bool true])∧Below w.heap.size w w'
 fx:∀ w,Tabs w→Calls Tryz.prog 20 #[.string t] w fun e w'=>e=.returned (.tuple #[.string t,.bool true])∧Below w.heap.size w w'
theorem prn_all (neg:Bool)(b:Nat)(hb:b<infR):∃ t,Prn neg b t:=by
 by_cases h0:b=0
 ·subst h0
  refine⟨s0,by decide,fun _=>rfl,fun w T=>?_,fun h=>by omega,fix0⟩
  cases neg
  ·exact same_below (print_zero 0 w (by kernel_rfl) (by kernel_rfl) (by kernel_rfl))
  ·exact same_below (print_zero 9223372036854775808 w (by kernel_rfl) (by kernel_rfl) (by kernel_rfl))
 ·obtain⟨d,q,j,_,t,_,h1,h2,h3,h4⟩:=back_all neg b (by omega) hb
  exact⟨t,h1,fun h=>absurd h h0,h2,fun _=>h3,h4⟩
open Go.RowKit
def sLang:ByteArray:=⟨#[108,97,110,103]⟩
def sDir:ByteArray:=⟨#[100,105,114]⟩
def sSrc:ByteArray:=⟨#[115,114,99]⟩
def sImg:ByteArray:=⟨#[105,109,103]⟩
def sAlt:ByteArray:=⟨#[97,108,116]⟩
def sHeight:ByteArray:=⟨#[104,101,105,103,104,116]⟩
def sWidth:ByteArray:=⟨#[119,105,100,116,104]⟩
def sOl:ByteArray:=⟨#[111,108]⟩
def sStart:ByteArray:=⟨#[115,116,97,114,116]⟩
def sTd:ByteArray:=⟨#[116,100]⟩
def sTh:ByteArray:=⟨#[116,104]⟩
def sColspan:ByteArray:=⟨#[99,111,108,115,112,97,110]⟩
def sRowspan:ByteArray:=⟨#[114,111,119,115,112,97,110]⟩
def sMeter:ByteArray:=⟨#[109,101,116,101,114]⟩
def sProgress:ByteArray:=⟨#[112,114,111,103,114,101,115,115]⟩
def sMax:ByteArray:=⟨#[109,97,120]⟩
def sValue:ByteArray:=⟨#[118,97,108,117,101]⟩
def sHigh:ByteArray:=⟨#[104,105,103,104]⟩
def sLow:ByteArray:=⟨#[108,111,119]⟩
def sMin:ByteArray:=⟨#[109,105,110]⟩
def sAuto:ByteArray:=⟨#[97,117,116,111]⟩
def sLtr:ByteArray:=⟨#[108,116,114]⟩
def sRtl:ByteArray:=⟨#[114,116,108]⟩
def sHttp:ByteArray:=⟨#[104,116,116,112]⟩
def sHttps:ByteArray:=⟨#[104,116,116,112,115]⟩
inductive FK where
 | text|lang|dir|linkA|linkI|whole (lo hi:Nat)|fix|none
deriving DecidableEq
def isFix (e n:ByteArray):Bool:=(decide (e=sMeter)&&(decide (n=sMax)||decide (n=sValue)||decide (n=sHigh)||decide (n=sLow)||decide (n=sMin)))||(decide (e=sProgress)&&(decide (n=sMax)||decide (n=sValue)))
def fkind (e n:ByteArray):FK :=
 if n=sTitle then .text else if n=sLang then .lang else if n=sDir then .dir
 else if e=sA∧n=sHref then .linkA
 else if e=sImg∧n=sSrc then .linkI
 else if e=sImg∧n=sAlt then .text
 else if e=sImg∧(n=sHeight∨n=sWidth) then .whole 0 9999
 else if e=sOl∧n=sStart then .whole 0 999999
 else if (e=sTd∨e=sTh)∧(n=sColspan∨n=sRowspan) then .whole 1 1000
 else if isFix e n=true then .fix
 else .none
def letterB (c:UInt8):Bool:=(decide (97≤c.toNat)&&decide (c.toNat≤122))||(decide (65≤c.toNat)&&decide (c.toNat≤90))
def langB (c:UInt8)(i:Nat):Bool:=letterB c||(decide (0<i)&&(decide (c.toNat=45)||(decide (48≤c.toNat)&&decide (c.toNat≤57))))
def langAll (l:List UInt8):Prop:=∀ j (h:j<l.length),langB l[j] j=true
def langP (v:ByteArray):Prop:=langAll v.data.toList∧1≤v.size∧v.size≤16
def dirP (v:ByteArray):Prop:=v=sAuto∨v=sLtr∨v=sRtl
def wholeP (lo hi:Nat)(v:ByteArray):Prop:=∃ x,WholeRet v lo hi x true
def smallBA (v:ByteArray):ByteArray:=⟨(smallL v.data.toList).toArray⟩
def zSrc:List ByteArray:=[sHttp,sHttps]
structure FixAt (v t:ByteArray):Prop where
 sz:t.size≤25
 num:numB t.data.toList=true
 yes:∀ w,Tabs w→Calls Tryz.prog 20 #[.string v] w fun e w'=>e=.returned (.tuple #[.string t,.bool true])∧Below w.heap.size w w'
 again:∀ w,Tabs w→Calls Tryz.prog 20 #[.string t] w fun e w'=>e=.returned (.tuple #[.string t,.bool true])∧Below w.heap.size w w'
def FixNo (v:ByteArray):Prop:=∀ w,Tabs w→Calls Tryz.prog 20 #[.string v] w fun e w'=>e=.returned (.tuple #[.string ⟨#[]⟩,.bool false])∧Below w.heap.size w w'
def FormR (k:FK)(v:ByteArray):Option ByteArray→Prop
 | some t=>match k with
  | .text=>t=textB v
  | .lang=>langP v∧t=v
  | .dir=>dirP (smallBA v)∧t=smallBA v
  | .linkA=>linkOk zHref (linkL v.data.toList)=true∧t=linkB v
  | .linkI=>linkOk zSrc (linkL v.data.toList)=true∧t=linkB v
  | .whole lo hi=>wholeP lo hi v∧t=v
  | .fix=>FixAt v t
  | .none=>False
 | none=>match k with
  | .text=>False
  | .lang=>¬ langP v
  | .dir=>¬ dirP (smallBA v)
  | .linkA=>linkOk zHref (linkL v.data.toList)=false
  | .linkI=>linkOk zSrc (linkL v.data.toList)=false
  | .whole lo hi=>∃ x,WholeRet v lo hi x false
  | .fix=>FixNo v
  | .none=>True
def ValueR (e n v:ByteArray)(o:Option ByteArray):Prop :=
 match o with
 | some t=>¬ (kindL e.data.toList<2∨kindL e.data.toList=14)∧FormR (fkind e n) v (some t)∧(escB t).size≤120
 | none=>(kindL e.data.toList<2∨kindL e.data.toList=14)∨FormR (fkind e n) v none∨∃ t,FormR (fkind e n) v (some t)∧120<(escB t).size
open Go.RowKit
def LangAt (l:List UInt8)(k:Nat):Prop:=k≤l.length∧∀ j (h:j<l.length),j<k→langB l[j] j=true
theorem LangAt.step {l:List UInt8}{k:Nat}(h:LangAt l k)(hk:k<l.length)(hb:langB l[k] k=true):LangAt l (k+1) :=
 ⟨hk,fun j hj hlt=>by
  rcases Nat.lt_or_ge j k with h1|h1
  ·exact h.2 j hj h1
  ·obtain rfl:j=k:=by omega
   exact hb⟩
theorem lang_bad {l:List UInt8}{k:Nat}(hk:k<l.length)(hb:langB l[k] k=false):¬ langAll l:=fun h=>by
 have:=h k hk
 rw[hb] at this
 cases this
theorem langB_of (c:UInt8)(d k:Nat)(h:c.toNat=d):langB c k=(((decide (97≤d)&&decide (d≤122))||(decide (65≤d)&&decide (d≤90)))||(decide (0<k)&&(decide (d=45)||(decide (48≤d)&&decide (d≤57))))):=by
 unfold langB letterB
 rw[h]
structure LangStep (v:ByteArray) (k d:Nat):Prop where
 yes:(((decide (97≤d)&&decide (d≤122))||(decide (65≤d)&&decide (d≤90)))||(decide (0<k)&&(decide (d=45)||(decide (48≤d)&&decide (d≤57)))))=true→LangAt v.data.toList (k+1)
 no:(((decide (97≤d)&&decide (d≤122))||(decide (65≤d)&&decide (d≤90)))||(decide (0<k)&&(decide (d=45)||(decide (48≤d)&&decide (d≤57)))))=false→¬ langP v
theorem LangStep.of (v:ByteArray)(k d:Nat)(hk:k<v.data.toList.length)(h:LangAt v.data.toList k)(hd:v.data.toList[k].toNat=d):LangStep v k d :=
 ⟨fun hy=>by rw[← langB_of _ d k hd] at hy;exact h.step hk hy,fun hn hp=>by rw[← langB_of _ d k hd] at hn;exact lang_bad hk hn hp.1⟩
theorem lang_any (v:ByteArray)(hv:v.size≤140737488355328)(b:Bool)(hb:Hid (b=true↔langP v))(w:World):Calls Tryz.prog 142 #[.string v] w fun e w'=>e=.returned (.bool b)∧Below w.heap.size w w':=by
 obtain⟨cap,W,hrun,hbel,hby,hcap,hsz⟩:=conv_bytes v w
 have HB:=Lib.hid hbel
 have HY:Hid (BytesAt W w.heap.size 0 v.data.toList):=hby
 have HNO:Hid (¬ langP v→b=false):=fun h=>by
  cases b with
  | false=>rfl
  | true=>exact absurd (hb.out.1 rfl) h
 clear hbel hby hcap hsz
 go_enter Tryz.func142,Tryz.ntmps142
 go_wp2
 clear hrun
 go_loop [2,9] (fun r i=>r=.bool false∧∃ k:Nat,i=.int .i64 k∧Hid (LangAt v.data.toList k)) (fun _ i=>v.size-(intOf i).toNat)
 case atStart=>exact⟨rfl,0,rfl,Lib.hid ⟨Nat.zero_le _,fun j hj h0=>absurd h0 (by omega)⟩⟩
 case round =>
  obtain⟨rfl,k,rfl,hR⟩:=hrel
  rcases Nat.lt_or_ge k v.size with hlt|hge
  ·have hcell:=HY.out k hlt
   obtain⟨d,hd⟩:∃ d,(v.data.toList[k]'hlt).toNat=d:=⟨_,rfl⟩
   have HS:=Lib.hid (LangStep.of v k d hlt hR.out hd)
   have hd8:d<256:=by rw[← hd];exact(v.data.toList[k]'hlt).toNat_lt
   rw[hd,Nat.zero_add] at hcell
   clear hd
   have hcases:(97≤d∧d≤122)∨(65≤d∧d≤90)∨d=45∨(48≤d∧d≤57)∨(d<45∨(45<d∧d<48)∨(57<d∧d<65)∨(90<d∧d<97)∨122<d):=by omega
   rcases hcases with⟨h,h2⟩|⟨h,h2⟩|rfl|⟨h,h2⟩|h
   ·have HF:=Lib.hid (HS.out.yes (by simp;omega))
    have l1:decide ((d:Int)≤122)=true:=by simp;omega
    go_wp2
    go_round
    case rel=>exact⟨rfl,k+1,by go_num,HF⟩
    case measure=>simp[intOf];omega
   ·have HF:=Lib.hid (HS.out.yes (by simp;omega))
    have l1:decide ((d:Int)≤90)=true:=by simp;omega
    go_wp2
    go_round
    case rel=>exact⟨rfl,k+1,by go_num,HF⟩
    case measure=>simp[intOf];omega
   ·rcases Nat.eq_zero_or_pos k with hk0|hk0
    ·subst hk0
     have HF:=Lib.hid (HNO.out (HS.out.no (by simp)))
     go_wp2
     go_ret
     exact⟨by rw[HF.out];rfl,HB.out⟩
    ·have HF:=Lib.hid (HS.out.yes (by simp;omega))
     have tk:((k:Int)==0)=false:=by rw[beq_eq_false_iff_ne];omega
     go_wp2
     go_round
     case rel=>exact⟨rfl,k+1,by go_num,HF⟩
     case measure=>simp[intOf];omega
   ·have t45:((d:Int)==45)=false:=by rw[beq_eq_false_iff_ne];omega
    have t45':((d:Int) !=45)=true:=by rw[bne_iff_ne];omega
    have l1:decide ((d:Int)≤57)=true:=by simp;omega
    rcases Nat.eq_zero_or_pos k with hk0|hk0
    ·subst hk0
     have HF:=Lib.hid (HNO.out (HS.out.no (by simp;omega)))
     go_wp2
     go_ret
     exact⟨by rw[HF.out];rfl,HB.out⟩
    ·have HF:=Lib.hid (HS.out.yes (by simp;omega))
     have tk:((k:Int)==0)=false:=by rw[beq_eq_false_iff_ne];omega
     go_wp2
     go_round
     case rel=>exact⟨rfl,k+1,by go_num,HF⟩
     case measure=>simp[intOf];omega
   ·have t45:((d:Int)==45)=false:=by rw[beq_eq_false_iff_ne];omega
    have t45':((d:Int) !=45)=true:=by rw[bne_iff_ne];omega
    have HF:=Lib.hid (HNO.out (HS.out.no (by simp;omega)))
    rcases Nat.eq_zero_or_pos k with hk0|hk0
    ·subst hk0
     rcases h with h|⟨h,h2⟩|⟨h,h2⟩|⟨h,h2⟩|h
     all_goals
      try have l1:decide ((d:Int)≤122)=false:=by simp;omega
      try have l2:decide ((d:Int)≤90)=false:=by simp;omega
      try have l3:decide ((d:Int)≤57)=false:=by simp;omega
      go_wp2
      go_ret
      exact⟨by rw[HF.out];rfl,HB.out⟩
    ·have tk:((k:Int)==0)=false:=by rw[beq_eq_false_iff_ne];omega
     rcases h with h|⟨h,h2⟩|⟨h,h2⟩|⟨h,h2⟩|h
     all_goals
      try have l1:decide ((d:Int)≤122)=false:=by simp;omega
      try have l2:decide ((d:Int)≤90)=false:=by simp;omega
      try have l3:decide ((d:Int)≤57)=false:=by simp;omega
      go_wp2
      go_ret
      exact⟨by rw[HF.out];rfl,HB.out⟩
  ·have hall:langAll v.data.toList:=fun j hj=>hR.out.2 j hj (by have:v.data.toList.length=v.size:=rfl;omega)
   have HX:Hid (1≤v.size∧v.size≤16→b=true):=fun h=>hb.out.2 ⟨hall,h.1,h.2⟩
   have HN:Hid (¬ (1≤v.size∧v.size≤16)→b=false):=fun h=>HNO.out fun hp=>h hp.2
   clear hall
   rcases Nat.lt_or_ge v.size 1 with h1|h1
   ·have HF:=Lib.hid (HN.out (by omega))
    go_wp2
    go_ret
    exact⟨by rw[HF.out];rfl,HB.out⟩
   ·rcases Nat.lt_or_ge 16 v.size with h2|h2
    ·have HF:=Lib.hid (HN.out (by omega))
     have l16:decide ((v.size:Int)≤16)=false:=by simp;omega
     go_wp2
     go_ret
     exact⟨by rw[HF.out];rfl,HB.out⟩
    ·have HF:=Lib.hid (HX.out ⟨h1,h2⟩)
     have l16:decide ((v.size:Int)≤16)=true:=by simp;omega
     go_wp2
     go_ret
     exact⟨by rw[HF.out];rfl,HB.out⟩
open Go.RowKit
theorem atof_all (s:ByteArray)(hn:numB s.data.toList=true):ARes s:=by
 obtain⟨neg,p0,q,ev,hs,hsg,N,hE,SP⟩:=numB_reads s hn
 have hlt:=N.lt
 have hle:=N.le
 have hch:=part_all s p0 q N q (Nat.le_of_lt hlt) (Nat.le_refl _)
 have hpl:=part_len s p0 q (Nat.le_of_lt hlt) hle
 have RD:RdAt s (rfold (part s p0 q)).mant ((rfold (part s p0 q)).expo ev) neg (rfold (part s p0 q)).trunc:=fun w=>read_any s neg p0 q w hs hsg N ev hE
 have rb:=rb_at s p0 q N q (Nat.le_of_lt hlt) (Nat.le_refl _)
 have so:=sok_fold neg (part s p0 q) (by omega) hch
 have few:=rfold_few (part s p0 q) hch
 have SF:∀ w B,DecAt w B decN→Calls Tryz.prog 240 #[.pointer (some ⟨B,0,none⟩),.string s] w fun e w'=>e=.returned (.bool true)∧DecAt w' B (setF neg (part s p0 q) ev)∧Kept (· = B) w w' :=
  fun w B h=>set_any B s neg p0 q w h hs hsg N ev hE
 have hm:=rb.mant
 have h19:=pow19 (rfold (part s p0 q)).ndM (by have:=rb.ndM;omega)
 refine atof_any s _ _ neg _ hs SP RD (by omega) (setF neg (part s p0 q) ev) ⟨so.len,?_,so.dig,so.head⟩ so.neg ?_ SF
 ·have:=so.le
  show(sfold neg (part s p0 q)).nd≤800
  omega
 ·intro hm0 ht
  have h20:20≤(rfold (part s p0 q)).nd:=by
   refine Nat.le_of_not_lt fun h=>?_
   rw[few (by omega)] at ht
   cases ht
  refine⟨?_,?_⟩
  ·show 1≤(sfold neg (part s p0 q)).nd
   have:=so.nd
   omega
  ·unfold RS.expo
   rw[if_neg hm0]
   have:=rb.ndM
   show(rfold (part s p0 q)).place+ev-_+19=(rfold (part s p0 q)).place+ev
   omega
open Go.RowKit
theorem fix_all (w0:World)(T0:Tabs w0)(v:ByteArray)(hv:v.size≤maxLen):(∃ t,FixAt v t)∨FixNo v:=by
 rcases parse_all atof_all v hv with⟨neg,b,hb,hp⟩|h
 ·obtain⟨t,ht⟩:=prn_all neg b hb
  refine .inl ⟨t,ht.sz,?_,fun w T=>fix_b v _ t w T hp ht.pr,ht.fx⟩
  cases hn:numB t.data.toList with
  | true=>rfl
  | false =>
   have h1:=fun w (_:Tabs w)=>parse_no t w (by have:=ht.sz;unfold maxLen;omega) hn
   have h2:=fix_no t w0 T0 (fun w T=>same_below (h1 w T))
   have h3:=ht.fx w0 T0
   have:=calls_det (by kernel_rfl) h3 h2
   simp at this
 ·exact .inr fun w T=>fix_no v w T h
open Go.RowKit
def zDir:List ByteArray:=[sAuto,sLtr,sRtl]
structure DirAt (sm:ByteArray) (B k:Nat) (w wx:World):Prop where
 le:k≤3
 no1:1≤k→sm≠sAuto
 no2:2≤k→sm≠sLtr
 no3:3≤k→sm≠sRtl
 str:StrsAt wx B 0 zDir
 bel:Below B w wx
 lt:B<wx.heap.size
structure DirEnd (sm t:ByteArray) (b:Bool):Prop where
 yes:dirP sm→sm=t∧true=b
 no:¬ dirP sm→t=⟨#[]⟩∧b=false
theorem dir_neL {sm c:ByteArray}(l:List UInt8)(h:sm≠c)(hl:c.data.toList=l):(sm.toList==l)=false:=by
 rw[beq_eq_false_iff_ne,toList_data,← hl]
 exact fun e=>h (ba_ext e)
theorem dir_ne {sm c:ByteArray}(h:sm≠c):¬ sm.toList=c.toList:=fun e=>h (ba_ext (by rw[toList_data,toList_data] at e;exact e))
theorem form_dir (e v t:ByteArray)(b:Bool)(hv:v.size≤140737488355328)(hE:Hid (DirEnd (smallBA v) t b)):FormAt e sDir v t b:=by
 intro w T
 have S:=fun W=>small_any v hv W
 rw[show(⟨(smallL v.data.toList).toArray⟩:ByteArray)=smallBA v from rfl] at S
 generalize smallBA v=sm at *
 have HS:=Lib.hid S
 clear S T
 unfold sDir
 go_enter Tryz.func83,Tryz.ntmps83
 go_upto_region 8 with fail
 have H0:Hid (DirAt sm w.heap.size 0 w (w.alloc (.cells #[Value.string ⟨#[97,117,116,111]⟩,Value.string ⟨#[108,116,114]⟩,Value.string ⟨#[114,116,108]⟩] 9))):=by
  refine⟨by omega,by omega,by omega,by omega,?_,(Below.refl _ w).alloc (Nat.le_refl _) _,by simp⟩
  intro j hj
  rw[Nat.zero_add,cell_of_row _ w.heap.size j _ 9 (0,0) (heap_alloc_new w _)]
  have:∀ j<3,(#[Value.string ⟨#[97,117,116,111]⟩,Value.string ⟨#[108,116,114]⟩,Value.string ⟨#[114,116,108]⟩]:Array Value)[j]?=some (Value.string (zDir.getD j ByteArray.empty)):=by
   intro j hj
   match j,hj with
   | 0,_=>rfl
   | 1,_=>rfl
   | 2,_=>rfl
  exact this j hj
 go_loopw [6,7,24] (fun r6 r7 i wx=>r6=.string ⟨#[]⟩∧r7=.bool false∧∃ k:Nat,i=.int .i64 k∧Hid (DirAt sm w.heap.size k w wx)) (fun _ _ i _=>3-(intOf i).toNat)
 case atStart=>exact⟨rfl,rfl,0,rfl,H0⟩
 case round =>
  obtain⟨rfl,rfl,k,rfl,hD⟩:=hrel
  have hk:=hD.out.le
  have hcases:k=0∨k=1∨k=2∨k=3:=by omega
  rcases hcases with rfl|rfl|rfl|rfl
  ·have hcell:wr.cell? ⟨w.heap.size,0,none⟩=some (.string ⟨#[97,117,116,111]⟩):=hD.out.str 0 (by decide)
   by_cases hs:sm=sAuto
   ·obtain⟨rfl,rfl⟩:=hE.out.yes (.inl hs)
    subst hs
    unfold sAuto at *
    go_wp2_with fail
    refine(HS.out _).mono ?_
    rintro x w1 ⟨rfl,B1⟩
    have HB:=Lib.hid (hD.out.bel.trans (B1.mono (Nat.le_of_lt hD.out.lt)))
    clear B1
    go_wp2
    go_ret2
    exact⟨rfl,HB.out⟩
   ·have hn:=dir_neL [97,117,116,111] hs rfl
    have HH:=Lib.hid hs
    clear hs
    go_wp2_with fail
    refine(HS.out _).mono ?_
    rintro x w1 ⟨rfl,B1⟩
    have HN:Hid (DirAt sm w.heap.size 1 w w1):=⟨by omega,fun _=>HH.out,by omega,by omega,hD.out.str.below B1 hD.out.lt,hD.out.bel.trans (B1.mono (Nat.le_of_lt hD.out.lt)),Nat.lt_of_lt_of_le hD.out.lt B1.size⟩
    clear B1
    go_wp2
    go_roundw
    case rel=>exact⟨rfl,rfl,1,by go_num,HN⟩
    case measure=>simp[intOf]
  ·have hcell:wr.cell? ⟨w.heap.size,1,none⟩=some (.string ⟨#[108,116,114]⟩):=hD.out.str 1 (by decide)
   by_cases hs:sm=sLtr
   ·obtain⟨rfl,rfl⟩:=hE.out.yes (.inr (.inl hs))
    subst hs
    unfold sLtr at *
    go_wp2_with fail
    refine(HS.out _).mono ?_
    rintro x w1 ⟨rfl,B1⟩
    have HB:=Lib.hid (hD.out.bel.trans (B1.mono (Nat.le_of_lt hD.out.lt)))
    clear B1
    go_wp2
    go_ret2
    exact⟨rfl,HB.out⟩
   ·have hn:=dir_neL [108,116,114] hs rfl
    have HH:=Lib.hid hs
    clear hs
    go_wp2_with fail
    refine(HS.out _).mono ?_
    rintro x w1 ⟨rfl,B1⟩
    have HN:Hid (DirAt sm w.heap.size 2 w w1):=⟨by omega,fun _=>hD.out.no1 (by omega),fun _=>HH.out,by omega,hD.out.str.below B1 hD.out.lt,hD.out.bel.trans (B1.mono (Nat.le_of_lt hD.out.lt)),Nat.lt_of_lt_of_le hD.out.lt B1.size⟩
    clear B1
    go_wp2
    go_roundw
    case rel=>exact⟨rfl,rfl,2,by go_num,HN⟩
    case measure=>simp[intOf]
  ·have hcell:wr.cell? ⟨w.heap.size,2,none⟩=some (.string ⟨#[114,116,108]⟩):=hD.out.str 2 (by decide)
   by_cases hs:sm=sRtl
   ·obtain⟨rfl,rfl⟩:=hE.out.yes (.inr (.inr hs))
    subst hs
    unfold sRtl at *
    go_wp2_with fail
    refine(HS.out _).mono ?_
    rintro x w1 ⟨rfl,B1⟩
    have HB:=Lib.hid (hD.out.bel.trans (B1.mono (Nat.le_of_lt hD.out.lt)))
    clear B1
    go_wp2
    go_ret2
    exact⟨rfl,HB.out⟩
   ·have hn:=dir_neL [114,116,108] hs rfl
    have HH:=Lib.hid hs
    clear hs
    go_wp2_with fail
    refine(HS.out _).mono ?_
    rintro x w1 ⟨rfl,B1⟩
    have HN:Hid (DirAt sm w.heap.size 3 w w1):=⟨by omega,fun _=>hD.out.no1 (by omega),fun _=>hD.out.no2 (by omega),fun _=>HH.out,hD.out.str.below B1 hD.out.lt,hD.out.bel.trans (B1.mono (Nat.le_of_lt hD.out.lt)),Nat.lt_of_lt_of_le hD.out.lt B1.size⟩
    clear B1
    go_wp2
    go_roundw
    case rel=>exact⟨rfl,rfl,3,by go_num,HN⟩
    case measure=>simp[intOf]
  ·obtain⟨rfl,rfl⟩:=hE.out.no (fun hp=>by
    rcases hp with h|h|h
    ·exact hD.out.no1 (by omega) h
    ·exact hD.out.no2 (by omega) h
    ·exact hD.out.no3 (by omega) h)
   go_wp2
   go_ret2
   exact⟨rfl,hD.out.bel⟩
end Go.Proofs.YtcfgbdhpcboikaaGreatDoor
