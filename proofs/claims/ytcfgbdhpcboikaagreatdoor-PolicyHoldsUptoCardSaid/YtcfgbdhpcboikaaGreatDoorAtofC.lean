/-
What the slow decimals and parseFloat64 give, ahead of the world.
-/
import Derived.Test.YtcfgbdhpcboikaaGreatDoorNumQ
namespace Go.Proofs.YtcfgbdhpcboikaaGreatDoor
open Go.Lib (hid)
set_option maxHeartbeats 8000000
set_option maxRecDepth 100000
open Go.RowKit
theorem aAB {n:Nat}:n≤n:=Nat.le_refl n
theorem qA {a w v:World}(h:Go.RowKit.Hid (Go.RowKit.Below a.heap.size a w))(b:Go.RowKit.Below w.heap.size w v):Go.RowKit.Hid (Go.RowKit.Below a.heap.size a v):=hid (h.out.trans (b.mono h.out.size))
theorem aPG (D:Dec.Dc)(hF:Dec.Fine D)(hn:1≤D.nd)(p1:-330≤D.dp) :
  ∃(z:Int) (ov:Bool),(∀w B,nR w B→aC w B D→Calls Tryz.prog 241 #[.pointer (some ⟨B,0,none⟩),.pointer (some ⟨8,0,none⟩)] w (wK B (z,ov) w)) ∧
   (ov=false→∃b,b<aJ∧z=((sgn D.neg+b:Nat):Int))∧(ov=true→z=((sgn D.neg+aJ:Nat):Int)):=by
 by_cases hbig:310<D.dp
 ·exact⟨_,true,fun w B T h=>aPF B D w T h hn hbig,(fun h=>by cases h),fun _=>aAF _⟩
 ·obtain⟨d,r,e1,_,e3,e4,_⟩:=Dec.fine_cons hF hn;have ht:D.top<10:=by rw[e3];exact e4 d (by simp)
  obtain⟨r1,b1,E1⟩:=aQA _ D hF hn ht aAB;obtain⟨q1,q2,q3,q4,q5,q6,q7,q8⟩:=aNC r1 D 0 E1 hF hn ht (by omega) (by omega) (Int.le_refl _);obtain⟨r2,b2,E2⟩:=aQB _ (eO r1 D 0).1 q1 q2 q3 aAB;have FB:∀w B,nR w B→aC w B D→Calls Tryz.prog 241 #[.pointer (some ⟨B,0,none⟩),.pointer (some ⟨8,0,none⟩)] w (wK B (fbF r1 r2 D) w) :=
   fun w B T h=>aPE B r1 r2 D w T h hF hn ht p1 (by omega) E1 E2 (by omega) (by omega)
  rcases aPD r1 r2 D with⟨b,hb,e⟩|e
  ·rw[e]at FB
   exact⟨_,false,FB,(fun _=>⟨b,hb,rfl⟩),fun h=>by cases h⟩
  ·rw[e]at FB
   exact⟨_,true,FB,(fun h=>by cases h),fun _=>rfl⟩
theorem aOb (K m:Nat)(h1:m<9007199254740992)(h2:¬ 2046≤K):0+min (K*4503599627370496+m) 9218868437227405312<aJ:=by
 have h3:K*4503599627370496+m<9218868437227405312:=by omega
 rw[Nat.zero_add];exact Nat.lt_of_le_of_lt (Nat.min_le_left _ _) h3
theorem aJF (K m:Nat)(h:4503599627370496≤m∨K=0)(h2:2046≤K):0+min (K*4503599627370496+m) 9218868437227405312=aJ:=by
 have h3:9218868437227405312≤K*4503599627370496+m:=by omega
 rw[Nat.zero_add,Nat.min_eq_right h3];rfl
theorem aHz (d i:Nat)(hd1:1≤d)(hd:d<18446744073709551616)(hi:i<696) :
  (∃b,b<aJ∧oD d i=(b,.nilIface))∨oD d i=(aJ,.iface 158 (.int .i64 1)):=by
 obtain⟨b,hb,b1,b64,l1,l2⟩:=qV d hd1 hd;unfold oD;rw[hb];by_cases hfar:64≤fA b i
 ·rw[if_pos hfar];exact .inl ⟨0,by unfold aJ;omega,rfl⟩
 ·rw[if_neg hfar];obtain⟨s,hs⟩:∃s:Nat,fA b i=s:=⟨(fA b i).toNat,by
   obtain⟨p1,p2⟩:=aDK i hi;unfold fA;omega⟩
  rw[hs,Int.toNat_natCast];obtain⟨q1,q2,q3⟩:=aBB d i b s _ hi b1 l1 l2 b64 hs rfl;obtain⟨m,hm⟩:∃m,aZ (bO (cF (d*2^(64-b)) (aH i) (aR i) s))=m:=⟨_,rfl⟩
  rw[hm]at q2 q3 ⊢
  clear hm;obtain⟨K,hK0⟩:∃K,bM b i+gK (cF (d*2^(64-b)) (aH i) (aR i) s)=K:=⟨_,rfl⟩
  rw[hK0]at q3 ⊢
  clear hK0 q1;unfold mZ uH;by_cases hK:2046≤K
  ·rw[if_pos hK];exact .inr (by rw[aJF K m q3 hK])
  ·rw[if_neg hK];exact .inl ⟨0+min (K*4503599627370496+m) 9218868437227405312,aOb K m q2 hK,rfl⟩
def aQo (s:ByteArray)(neg:Bool)(b:Nat):Prop:=b<aJ∧∀w,aA w→Calls Tryz.prog 205 #[.string s] w fun e w'=>e=.returned (.tuple #[.float .f64 (sgn neg+b),.int .i64 s.size,.nilIface])∧Below w.heap.size w w'
def aQp (s:ByteArray)(r:Nat):Prop:=∀w,aA w→Calls Tryz.prog 205 #[.string s] w fun e w'=>e=.returned (.tuple #[.float .f64 r,.int .i64 s.size,.iface 158 (.int .i64 1)])∧Below w.heap.size w w'
def aGU (s:ByteArray):Prop:=(∃neg b,aQo s neg b)∨∃neg,aQp s (sgn neg+aJ)
theorem dK {P:Ending→Prop}{p:FuncId}{args:Array Value}{w:World}(h:Calls Tryz.prog p args w fun e w'=>P e∧w=w'):Calls Tryz.prog p args w fun e w'=>P e∧Below w.heap.size w w' :=
 h.mono fun _ _ ⟨h1,h2⟩=>⟨h1,by rw[←h2];exact Below.refl _ _⟩
theorem aKX (s:ByteArray)(m:Nat)(x:Int)(neg tr:Bool)(hs:s.size≤40)(SP:aAm s)(RD:wO s m x neg tr)(hm2:m+1<18446744073709551616)
  (D:Dec.Dc) (hF:Dec.Fine D) (hneg:D.neg=neg) (hD:m≠0→tr=true→1≤D.nd∧x+19=D.dp)
  (SF:∀w B,aC w B aCc→Calls Tryz.prog 240 #[.pointer (some ⟨B,0,none⟩),.string s] w fun e w'=>e=.returned (.bool true)∧aC w' B D∧aD (· = B) w w'):aGU s:=by
 by_cases hm:m=0
 ·subst hm;exact .inl ⟨neg,0,by unfold aJ;omega,fun w T=>dK (zS s x neg tr w T SP RD)⟩
 ·by_cases x2:310<x
  ·exact .inr ⟨neg,fun w T=>dK (aIr s m x neg tr w T SP RD hm x2)⟩
  ·by_cases x1:x < -345
   ·exact .inl ⟨neg,0,by unfold aJ;omega,fun w T=>dK (aIt s m x neg tr w T SP RD hm x1)⟩
   ·obtain⟨i,hi⟩:∃i:Nat,x=(i:Int)-348:=⟨(x+348).toNat,by omega⟩
    have i1:i<696:=by omega
    have PF:∀w,aA w→Calls Tryz.prog 245 #[.int .u64 m,.int .i64 x,.int .u64 (sgn neg)] w fun e' w'=>e'=.returned (.tuple #[.float .f64 (sgn neg+(oD m i).1),(oD m i).2])∧Below w.heap.size w w':=by
     intro w T;rw[hi];exact aEK m i (sgn neg) w T (aAM neg) (by omega) (by omega) i1
    have ends:∀(A:∀w,aA w→Calls Tryz.prog 205 #[.string s] w fun e w'=>e=.returned (.tuple #[.float .f64 (sgn neg+(oD m i).1),.int .i64 s.size,(oD m i).2])∧Below w.heap.size w w'),aGU s:=by
     intro A;rcases aHz m i (by omega) (by omega) i1 with⟨b,hb,e⟩|e
     ·rw[e]at A
      exact .inl ⟨neg,b,hb,A⟩
     ·rw[e]at A
      exact .inr ⟨neg,A⟩
    cases tr with
    | false =>
     rcases aCO m i neg hm i1 with⟨r,hr,_,EX⟩|EX
     ·rw[←hi]at EX
      exact .inl ⟨neg,r,hr,fun w T=>dK (aG1 s m x neg (sgn neg+r) w T hs hm (by omega) (by omega) SP RD EX)⟩
     ·rw[←hi]at EX
      exact ends fun w T=>aIs s m x neg _ _ w T SP RD hm (by omega) (by omega) EX PF
    | true =>
     have PG:∀w,aA w→Calls Tryz.prog 245 #[.int .u64 (m+1:Nat),.int .i64 x,.int .u64 (sgn neg)] w fun e' w'=>e'=.returned (.tuple #[.float .f64 (sgn neg+(oD (m+1) i).1),(oD (m+1) i).2])∧Below w.heap.size w w':=by
      intro w T;rw[hi];exact aEK (m+1) i (sgn neg) w T (aAM neg) (by omega) (by omega) i1
     obtain⟨n1,n2⟩:=hD hm rfl;cases hq:FloatKind.f64.format.order (sgn neg+(oD m i).1) (sgn neg+(oD (m+1) i).1)==some .eq with
     | true=>exact ends fun w T=>aIq s m x neg _ _ _ _ w T SP RD hm hm2 (by omega) (by omega) PF PG hq
     | false =>
      obtain⟨z,ov,FB,hz,hz2⟩:=aPG D hF n1 (by omega);have A:=fun w T=>aKY s m x neg _ _ _ _ w T SP RD hm hm2 (by omega) (by omega) hs PF PG hq D z ov SF FB
      cases ov with
      | true =>
       have e:=hz2 rfl;rw[hneg]at e
       rw[e]at A
       exact .inr ⟨neg,A⟩
      | false =>
       obtain⟨b,hb,e⟩:=hz rfl;rw[hneg]at e
       rw[e]at A
       exact .inl ⟨neg,b,hb,A⟩
open Go.RowKit
theorem aIu (s:ByteArray)(w:World)(T:aA w)(_hs:s.size≤40)
  (SP:∀w,Calls Tryz.prog 233 #[.string s] w fun e w'=>e=.returned (.tuple #[.float .f64 0,.int .i64 0,.bool false])∧w=w')
  (RD:∀w,Calls Tryz.prog 234 #[.string s] w fun e w'=>e=.returned (.tuple #[.int .u64 0,.int .i64 0,.bool false,.bool false,.bool false,.int .i64 s.size,.bool true])∧w=w') :
  Calls Tryz.prog 205 #[.string s] w fun e w'=>e=.returned (.tuple #[.float .f64 0,.int .i64 s.size,.nilIface])∧w=w':=by
 have h3:=T.opt;have d1:=lN;have HSP:=hid SP;have HRD:=hid RD;clear SP RD T;go_enter Tryz.func205,Tryz.ntmps205
 go_wp2_with (first
  | (go_at_call 233;refine(HSP.out _).mono ?_;rintro e w' ⟨rfl,rfl⟩)
  | (go_at_call 234;refine(HRD.out _).mono ?_;rintro e w' ⟨rfl,rfl⟩)
  | (go_at_call 242;((with_reducible refine(cI _).mono ?_);rintro e w' ⟨rfl,rfl⟩)))
 go_ret3;exact⟨rfl,rfl⟩
def s0:ByteArray:={ data:=#[48] }
theorem aQ0 (w:World):Calls Tryz.prog 234 #[.string s0] w fun e w'=>e=.returned (.tuple #[.int .u64 0,.int .i64 0,.bool false,.bool false,.bool false,.int .i64 s0.size,.bool true])∧w=w':=by
 have N:nD s0 0 1:=by
  refine⟨by decide,by decide,?_,?_,by kernel_rfl,fun h=>absurd h (by decide)⟩
  ·intro j h _ hj;match j,h,hj with
   | 0,_,_=>rfl
  ·intro j h _ hj;match j,h,hj with
   | 0,_,_=>intro e;exact absurd (show(48:UInt8)=46 from e) (by decide)
 have:=aAH s0 false 0 1 w (by decide) ⟨by decide,.inl ⟨rfl,rfl,rfl,rfl⟩⟩ N 0 (.inl ⟨rfl,rfl⟩);have e:aL (aK s0 0 1)=⟨0,0,0,-1,false,true,false⟩:=by kernel_rfl
 rw[e]at this
 exact this
theorem aPZ (w:World)(T:aA w):Calls Tryz.prog 21 #[.string s0] w fun e w'=>e=.returned (.tuple #[.float .f64 0,.bool true])∧w=w':=by
 refine aL2 s0 0 w (by decide) (by kernel_rfl) (by kernel_rfl) ?_;intro w' hw;subst hw;exact aIu s0 w T (by decide) (fun w=>qC s0 w (by decide) (by decide) (by decide) rfl rfl) aQ0
theorem aRe (w:World)(T:aA w):Calls Tryz.prog 20 #[.string s0] w fun e w'=>e=.returned (.tuple #[.string s0,.bool true])∧Below w.heap.size w w':=by
 have P:=aPZ;have Q:∀w,Calls Tryz.prog 63 #[.float .f64 0] w fun e w'=>e=.returned (.string s0)∧w=w':=fun w=>vR 0 w (by kernel_rfl) (by kernel_rfl) (by kernel_rfl)
 obtain⟨s,hs⟩:∃s,s=s0:=⟨_,rfl⟩
 rw[←hs]at P Q ⊢
 have HP:=hid P;have HQ:=hid Q;have HT:=hid T;clear P Q T hs;go_enter Tryz.func20,Tryz.ntmps20
 go_wp2_with fail
 refine(HP.out _ HT.out).mono ?_;rintro e w1 ⟨rfl,rfl⟩;go_wp2_with fail
 refine(HQ.out _).mono ?_;rintro e w2 ⟨rfl,rfl⟩;go_wp2
 go_ret2;exact⟨rfl,Below.refl _ _⟩
open Go.RowKit
theorem aL7 (s:ByteArray)(r:Nat)(w:World)(T:aA w)
  (A:∀w',aA w'→Calls Tryz.prog 205 #[.string s] w' fun e w2=>e=.returned (.tuple #[.float .f64 r,.int .i64 s.size,.iface 158 (.int .i64 1)])∧Below w'.heap.size w' w2) :
  Calls Tryz.prog 164 #[.string s,.int .i64 64] w fun e w'=>e=.returned (.tuple #[.float .f64 r,.int .i64 s.size,.iface 158 (.int .i64 1)])∧Below w.heap.size w w':=by
 have HA:=hid A;have HT:=hid T;clear A T;go_enter Tryz.func164,Tryz.ntmps164
 go_wp2_with fail
 refine(HA.out _ HT.out).mono ?_;rintro e w2 ⟨rfl,B2⟩;have HB:=hid B2;clear B2;go_wp2
 go_ret3;exact⟨rfl,HB.out⟩
theorem aP1 (s:ByteArray)(r:Nat)(w:World)(T:aA w)
  (A:∀w',aA w'→Calls Tryz.prog 205 #[.string s] w' fun e w2=>e=.returned (.tuple #[.float .f64 r,.int .i64 s.size,.iface 158 (.int .i64 1)])∧Below w'.heap.size w' w2) :
  Calls Tryz.prog 119 #[.string s,.int .i64 64] w fun e w'=>e=.returned (.tuple #[.float .f64 r,.iface 158 (.int .i64 1)])∧Below w.heap.size w w':=by
 have HA:=hid A;have HT:=hid T;clear A T;go_enter Tryz.func119,Tryz.ntmps119
 go_wp2_with fail
 refine(aL7 s r _ HT.out HA.out).mono ?_;rintro e w2 ⟨rfl,B2⟩;have HB:=hid B2;clear B2;go_wp2
 go_ret2;exact⟨rfl,HB.out⟩
def aM5 (r:Nat)(e:Ending):Prop:=∃t p,e=.returned (.tuple #[.float .f64 r,.iface t p])
theorem aEQ (s:ByteArray)(hs:s.size≤1000)(r:Nat)(w:World)(T:aA w)
  (A:∀w',aA w'→Calls Tryz.prog 205 #[.string s] w' fun e w2=>e=.returned (.tuple #[.float .f64 r,.int .i64 s.size,.iface 158 (.int .i64 1)])∧Below w'.heap.size w' w2) :
  Calls Tryz.prog 66 #[.string s,.int .i64 64] w fun e w'=>aM5 r e∧Below w.heap.size w w':=by
 have HA:=hid A;have HT:=hid T;clear A T;go_enter Tryz.func66,Tryz.ntmps66
 go_wp2_with fail
 refine(aP1 s r _ HT.out HA.out).mono ?_;rintro e w2 ⟨rfl,B2⟩;have HB:=hid B2;have HT2:=hid (HT.out.below B2 aAB);clear B2;go_wp2_with fail
 obtain⟨t2,v2,h2⟩:=HT2.out.rng;refine(Tryz.strconv_toError_range _ s _ _ _ _ (by omega) h2 (.inr ⟨_,_,rfl⟩)).mono ?_;rintro e w3 ⟨N,rfl,_,_,B3⟩;have HB3:=qA HB B3;clear B3;go_wp2
 go_ret2;exact⟨⟨_,_,rfl⟩,HB3.out⟩
theorem aGG (s:ByteArray)(r:Nat)(w:World)(T:aA w)(hs:s.size≤1000)(hn:bX s.data.toList=true)
  (A:∀w',aA w'→Calls Tryz.prog 205 #[.string s] w' fun e w2=>e=.returned (.tuple #[.float .f64 r,.int .i64 s.size,.iface 158 (.int .i64 1)])∧Below w'.heap.size w' w2) :
  Calls Tryz.prog 21 #[.string s] w fun e w'=>e=.returned (.tuple #[.float .f64 0,.bool false])∧Below w.heap.size w w':=by
 have NB:=fun w=>pC s w (by unfold maxLen;omega)
 rw[hn]at NB
 have HA:=hid A;have HNB:=hid NB;have HT:=hid T;clear A NB hn T;go_enter Tryz.func21,Tryz.ntmps21
 go_wp2_with (go_at_call 65;refine(HNB.out _).mono ?_;rintro e w' ⟨rfl,rfl⟩)
 refine(aEQ s hs r _ HT.out HA.out).mono ?_;rintro e w2 ⟨⟨t,p,rfl⟩,B2⟩;have HB:=hid B2;clear B2;go_wp2
 go_ret2;exact⟨rfl,HB.out⟩
theorem aAG (s:ByteArray)(w:World)(hs:s.size≤maxLen)(hn:bX s.data.toList=false) :
  Calls Tryz.prog 21 #[.string s] w fun e w'=>e=.returned (.tuple #[.float .f64 0,.bool false])∧w=w':=by
 have NB:=fun w=>pC s w hs
 rw[hn]at NB
 have HNB:=hid NB;clear NB hn hs;go_enter Tryz.func21,Tryz.ntmps21
 go_wp2_with (go_at_call 65;refine(HNB.out _).mono ?_;rintro e w' ⟨rfl,rfl⟩)
 go_ret2;exact⟨rfl,rfl⟩
theorem aBe (s:ByteArray)(w:World)(T:aA w)
  (P:∀w,aA w→Calls Tryz.prog 21 #[.string s] w fun e w'=>e=.returned (.tuple #[.float .f64 0,.bool false])∧Below w.heap.size w w') :
  Calls Tryz.prog 20 #[.string s] w fun e w'=>e=.returned (.tuple #[.string ByteArray.empty,.bool false])∧Below w.heap.size w w':=by
 have HP:=hid P;have HT:=hid T;clear P T;go_enter Tryz.func20,Tryz.ntmps20
 go_wp2_with fail
 refine(HP.out _ HT.out).mono ?_;rintro e w1 ⟨rfl,B1⟩;have HB:=hid B1;clear B1;go_wp2
 go_ret2;exact⟨rfl,HB.out⟩
def aQt (s:ByteArray)(neg:Bool)(b:Nat):Prop:=b<aJ∧∀w,aA w→Calls Tryz.prog 21 #[.string s] w fun e w'=>e=.returned (.tuple #[.float .f64 (sgn neg+b),.bool true])∧Below w.heap.size w w'
def aQu (s:ByteArray):Prop:=∀w,aA w→Calls Tryz.prog 21 #[.string s] w fun e w'=>e=.returned (.tuple #[.float .f64 0,.bool false])∧Below w.heap.size w w'
theorem aJJ (A:∀s:ByteArray,bX s.data.toList=true→aGU s)(s:ByteArray)(hs:s.size≤maxLen):(∃neg b,aQt s neg b)∨aQu s:=by
 cases hn:bX s.data.toList with
 | false=>exact .inr fun w _=>dK (aAG s w hs hn)
 | true =>
  have h40:s.size≤40:=by
   unfold bX at hn;split at hn
   ·cases hn
   ·rw[aS];omega
  rcases A s hn with⟨neg,b,hb,h⟩|⟨_,h⟩
  ·exact .inl ⟨neg,b,hb,fun w T=>aCu s _ w T hs hn (oN neg b hb) h⟩
  ·exact .inr fun w T=>aGG s _ w T (by omega) hn h
open Go.RowKit
theorem sE {P:Program}{f:FuncId}{args:Array Value}{w:World}{A B:Value}{R1 R2:World→Prop}(hi:P.inits.idxOf? f=none)
  (h1:Calls P f args w fun e w'=>e=.returned A∧R1 w') (h2:Calls P f args w fun e w'=>e=.returned B∧R2 w'):A=B:=by
 obtain⟨e1,w1,f1,⟨rfl,_⟩,⟨n1,c1⟩,g1,l1⟩:=h1 [];obtain⟨e2,w2,f2,⟨rfl,_⟩,⟨n2,c2⟩,g2,l2⟩:=h2 [];have s1:=step_leave_done l1 (by rw[g1];exact hi);have s2:=step_leave_done l2 (by rw[g2];exact hi);have r1:∀k,runN P (n1+(k+1)) (lone (Frame.enter P f args .normal) [] w)=.ended (.done A) w1:=fun k=>by
  rw[runN_add,c1];simp only[runN,s1]
 have r2:∀k,runN P (n2+(k+1)) (lone (Frame.enter P f args .normal) [] w)=.ended (.done B) w2:=fun k=>by
  rw[runN_add,c2];simp only[runN,s2]
 have e:n1+(n2+1)=n2+(n1+1):=by omega
 have a:=r1 n2;rw[e,r2 n1]at a
 injection a with a _;injection a with a;exact a.symm
structure Prn (neg:Bool) (b:Nat) (t:ByteArray):Prop where
 sz:t.size≤25
 nought:b=0→t=s0
 pr:∀w,aA w→Calls Tryz.prog 63 #[.float .f64 (sgn neg+b)] w fun e w'=>e=.returned (.string t)∧Below w.heap.size w w'
 pa:1≤b→∀w,aA w→Calls Tryz.prog 21 #[.string t] w fun e w'=>e=.returned (.tuple #[.float .f64 (sgn neg+b),.bool true])∧Below w.heap.size w w'
 fx:∀w,aA w→Calls Tryz.prog 20 #[.string t] w fun e w'=>e=.returned (.tuple #[.string t,.bool true])∧Below w.heap.size w w'
theorem aGH (neg:Bool)(b:Nat)(hb:b<aJ):∃t,Prn neg b t:=by
 by_cases h0:b=0
 ·subst h0;refine⟨s0,by decide,fun _=>rfl,fun w T=>?_,fun h=>by omega,aRe⟩;cases neg
  ·exact dK (vR 0 w (by kernel_rfl) (by kernel_rfl) (by kernel_rfl))
  ·exact dK (vR 9223372036854775808 w (by kernel_rfl) (by kernel_rfl) (by kernel_rfl))
 ·obtain⟨d,q,j,_,t,_,h1,h2,h3,h4⟩:=aDW neg b (by omega) hb;exact⟨t,h1,fun h=>absurd h h0,h2,fun _=>h3,h4⟩
theorem aAQ (a b:Nat)(h:aM a=aM b):a=b:=by
 rcases Nat.lt_trichotomy a b with g|g|g
 ·have:=iG a b g;omega
 ·exact g
 ·have:=iG b a g;omega
theorem aKE:aM 0=0:=by decide
theorem aHT (n1 n2:Bool)(b1 b2:Nat)(h1:b1<aJ)(h2:b2<aJ) :
  (FloatKind.f64.format.order (sgn n1+b1) (sgn n2+b2)==some .eq)=true↔(b1=0∧b2=0)∨(n1=n2∧b1=b2):=by
 obtain⟨c1,k1⟩:=kO n1 b1 h1;obtain⟨c2,k2⟩:=kO n2 b2 h2;rw[aBa,c1,c2,k1,k2];have z0:=aKE;have p:∀b,aM b=0→b=0:=fun b h=>aAQ b 0 (by rw[h,z0])
 have cz:∀x y:Int,jA 0 x 0 y=0↔x=y:=by
  intro x y;unfold jA;repeat' split
  all_goals omega
 rw[cz];constructor
 ·rintro⟨_,h⟩;cases n1<;>cases n2<;>simp only[Bool.false_eq_true,if_false,if_true]at h
  ·exact .inr ⟨rfl,aAQ _ _ (by omega)⟩
  ·exact .inl ⟨p _ (by omega),p _ (by omega)⟩
  ·exact .inl ⟨p _ (by omega),p _ (by omega)⟩
  ·exact .inr ⟨rfl,aAQ _ _ (by omega)⟩
 ·rintro(⟨rfl,rfl⟩|⟨rfl,rfl⟩)
  ·refine⟨by decide,?_⟩;rw[z0];split<;>split<;>rfl
  ·exact⟨by decide,rfl⟩
open Go.RowKit
def byI (j:Nat):Int:=if j=0 then 0 else if j=1 then 1 else -1
def gA (m j:Nat):Nat:=if j=0 then m else if j=1 then m+1 else m-1
theorem aK8 (m j:Nat)(h:1≤m):(m:Int)+byI j=(gA m j:Nat):=by
 unfold byI gA;split
 ·omega
 ·split<;>omega
def Hit (r n m s j:Nat):Prop:=(1≤gA m j∧bI (bA (gA m j) s) (aF s) r)∧Lib.nDigits (gA m j)=n
def aDP (R:Nat)(e:Ending):Prop:=∃v,e=.returned (.tuple #[.float .f64 R,v])
structure aGe (r n m s:Nat) (S sA sB sC sD:ByteArray):Prop where
 fmt:∀w,aA w→Calls Tryz.prog 158 #[.float .f64 r,.int .u8 101,.int .i64 ((n:Int)-1),.int .i64 64] w fun e w'=>e=.returned (.string S)∧Below w.heap.size w w'
 cA:∀w,(Instr.slice 9 (.string S) none (some (.int .i64 1)) none).run Tryz.prog w=.ok (.string sA) w
 cB:1<n→∀w,(Instr.slice 9 (.string S) (some (.int .i64 2)) (some (.int .i64 (1+(n:Int)))) none).run Tryz.prog w=.ok (.string sB) w
 cC:n=1→∀w,(Instr.slice 9 (.string S) (some (.int .i64 2)) none none).run Tryz.prog w=.ok (.string sC) w
 cD:1<n→∀w,(Instr.slice 9 (.string S) (some (.int .i64 (1+(n:Int)+1))) none none).run Tryz.prog w=.ok (.string sC) w
 app:(if n=1 then sA else sA++sB)=sD
 sz:sA.size≤1000∧sB.size≤1000
 atoi:∀w,Calls Tryz.prog 113 #[.string sC] w fun e w'=>e=.returned (.tuple #[.int .i64 ((n:Int)+s-349),.nilIface])∧Below w.heap.size w w'
 num:∀w,Calls Tryz.prog 224 #[.string sD,.int .i64 10,.int .i64 64] w fun e w'=>e=.returned (.tuple #[.int .i64 (m:Int),.nilIface])∧Below w.heap.size w w'
structure aMI (r n m s j:Nat) (t u:ByteArray) (y:Nat):Prop where
 fmt:∀w,aA w→Calls Tryz.prog 225 #[.int .i64 ((m:Int)+byI j),.int .i64 10] w fun e w'=>e=.returned (.string t)∧Below w.heap.size w w'
 exp:∀w,aA w→Calls Tryz.prog 116 #[.int .i64 ((n:Int)+s-349+1-n)] w fun e w'=>e=.returned (.string u)∧Below w.heap.size w w'
 flt:∀w,aA w→Calls Tryz.prog 66 #[.string (t++⟨#[101]⟩++u),.int .i64 64] w fun e w'=>aDP y e∧Below w.heap.size w w'
 hit:((FloatKind.f64.format.order y r==some .eq)&&decide ((t.size:Int)=n))=true↔Hit r n m s j
 sz:t.size≤1000∧u.size≤1000
def aQs (r N n:Nat)(tD:ByteArray)(P:Int):Prop :=
 ∃(m s:Nat) (S sA sB sC sD:ByteArray) (t u:Nat→ByteArray) (y:Nat→Nat),aGe r n m s S sA sB sC sD∧1≤m∧m≤100000000000000000∧s≤657∧(∀j,j<3→aMI r n m s j (t j) (u j) (y j))∧(n<N→∀j,¬Hit r n m s j) ∧
  (n=N→∃j,j<3∧Hit r n m s j∧(∀i,i<j→¬Hit r n m s i)∧(∀i,i<3→Hit r n m s i→(∀k,k<i→¬Hit r n m s k)→t i=tD)∧(n:Int)+s-349+1=P)
theorem aFB (r N:Nat)(tD:ByteArray)(P:Int)(hN1:1≤N)(hN:N≤17)(K:∀n,1≤n→n≤N→aQs r N n tD P)(w:World)(T:aA w) :
  Calls Tryz.prog 194 #[.float .f64 r] w fun e w'=>e=.returned (.tuple #[.string tD,.int .i64 P])∧Below w.heap.size w w':=by
 have HK:=hid K;have HT:=hid T;have HN:Hid (1≤N∧N≤17):=⟨hN1,hN⟩
 clear K T hN1 hN;go_enter Tryz.func194,Tryz.ntmps194
 go_wp2
 go_loopw [4] (fun i wx=>∃n:Nat,i=.int .i64 n∧Hid (1≤n∧n≤N∧Below w.heap.size w wx)) (fun i _=>20-(intOf i).toNat)
 case atStart=>exact⟨1,rfl,hid ⟨Nat.le_refl _,HN.out.1,Below.refl _ _⟩⟩
 case round =>
  obtain⟨n,rfl,hR⟩:=hrel;obtain⟨m,s,S,sA,sB,sC,sD,t,u,y,R,m1,m2,s2,TR,H1,H2⟩:=HK.out n hR.out.1 hR.out.2.1;have hn17:(n:Int)≤17:=by have:=hR.out;have:=HN.out;omega
  have hn1:(1:Int)≤n:=by have:=hR.out;omega
  have HF:=hid R.fmt;have HAT:=hid R.atoi;have HNU:=hid R.num;have cA:=R.cA;obtain⟨z1,z2⟩:=R.sz;have HB0:=hid hR.out.2.2;have HTR:=hid TR;have HH1:=hid H1;have HH2:=hid H2;have HTW:=hid (HT.out.below HB0.out aAB);have hm:Hid (1≤m∧m≤100000000000000000∧s≤657):=hid ⟨m1,m2,s2⟩;have hs657:(s:Int)≤657:=by omega
  have hs0:(0:Int)≤s:=by omega
  clear H1 H2 TR m1 m2 s2;by_cases hn:n=1
  case' pos =>
   have cC:=R.cC hn;have hap:=R.app;rw[if_pos hn]at hap
   subst hap;have hlt:¬(1:Int)<n:=by omega
   clear R hn;go_wp2_with fail
   refine(HF.out wr HTW.out).mono ?_;rintro e W1 ⟨rfl,B1⟩;have HB1:=qA HB0 B1;clear B1;go_wp2_with fail
   refine(HAT.out W1).mono ?_;rintro e W2 ⟨rfl,B2⟩;have HB2:=qA HB1 B2;clear B2;go_wp2_with fail
   refine(HNU.out W2).mono ?_;rintro e W3 ⟨rfl,B3⟩;have HB3:=qA HB2 B3;clear B3;go_wp2_with fail
  case' neg =>
   have cB:=R.cB (by have:=hR.out;omega);have cD:=R.cD (by have:=hR.out;omega);have hap:=R.app;rw[if_neg hn]at hap
   have hlt:(1:Int)<n:=by have:=hR.out;omega
   have hab:sA.size+sB.size≤1000000:=by omega
   have HAP:=hid hap;clear R hn hap;go_wp2_with fail
   refine(HF.out wr HTW.out).mono ?_;rintro e W1 ⟨rfl,B1⟩;have HB1:=qA HB0 B1;clear B1;go_wp2_with fail
   refine(HAT.out W1).mono ?_;rintro e W2 ⟨rfl,B2⟩;have HB2:=qA HB1 B2;clear B2;go_wp2_with fail
   rw[HAP.out];refine(HNU.out W2).mono ?_;rintro e W3 ⟨rfl,B3⟩;have HB3:=qA HB2 B3;clear B3;go_wp2_with fail
  all_goals
   obtain⟨g,hg⟩:∃g,g=W3.heap.size:=⟨_,rfl⟩
   obtain⟨W4,hW4⟩:∃W4,W4=W3.alloc (.cells #[.int .i64 0,.int .i64 1,.int .i64 (-1)] 2):=⟨_,rfl⟩
   have hcell:Hid (∀j,j<3→W4.cell? ⟨g,j,none⟩=some (.int .i64 (byI j))):=by
    intro j hj;rw[hW4,hg];rcases(show j=0∨j=1∨j=2 by omega)with rfl|rfl|rfl<;>simp[byI]
   have hgW:Hid (g<W4.heap.size):=hid (by rw[hW4,hg];simp);have HB4:Hid (Below w.heap.size w W4):=by
    rw[hW4];exact hid (HB3.out.alloc HB3.out.size _)
   rw[←hW4,←hg];clear hW4 hg HF HAT HNU;go_loopw [52] (fun i wx=>∃j:Nat,i=.int .i64 j∧Hid (j≤3∧(∀i,i<j→¬Hit r n m s i)∧Below W4.heap.size W4 wx)) (fun i _=>4-(intOf i).toNat)
   case atStart=>exact⟨0,rfl,hid ⟨Nat.zero_le _,fun i hi=>by omega,Below.refl _ _⟩⟩
   case round =>
    obtain⟨j,rfl,hQ⟩:=hrel;rcases Nat.lt_or_ge j 3 with hj|hj
    ·obtain⟨q1,q2,q3,q4,q5⟩:=HTR.out j hj;have hc:wr.cell? ⟨g,j,none⟩=some (.int .i64 (byI j)):=cell_later hQ.out.2.2 (hcell.out j hj);have hb:-1≤byI j∧byI j≤1:=by
      unfold byI;repeat' split
      all_goals omega
     have h1:=hm.out.1;have h2:=hm.out.2.1;have HBj:=hid (HB4.out.trans (hQ.out.2.2.mono HB4.out.size));have HTj:=hid (HT.out.below HBj.out aAB);have HF:=hid q1;have HE:=hid q2;have HL:=hid q3;have HI:=hid q4;have HDN:=hid (fun h=>(HH2.out h));clear q1 q2 q3 q4;generalize hbj:byI j=bj at *
     obtain⟨hb1,hb2⟩:=hb;obtain⟨q6,q7⟩:=q5;have q8:(t j).size+1≤1000000:=by omega
     have q9:(t j++⟨#[101]⟩).size+(u j).size≤1000000:=by
      have:(t j++⟨#[101]⟩).size=(t j).size+1:=by rw[ByteArray.size_append];rfl
      omega
     clear q6 q7;go_wp2_with fail
     refine(HF.out wr HTj.out).mono ?_;rintro e W5 ⟨rfl,B5⟩;have HB5:=qA HBj B5;have HC5:=hid (hQ.out.2.2.trans (B5.mono hQ.out.2.2.size));clear B5;go_wp2_with fail
     refine(HE.out W5 (HT.out.below HB5.out aAB)).mono ?_;rintro e W6 ⟨rfl,B6⟩;have HB6:=qA HB5 B6;have HC6:=qA HC5 B6;clear B6;go_wp2_with fail
     refine(HL.out W6 (HT.out.below HB6.out aAB)).mono ?_;rintro e W7 ⟨⟨v,rfl⟩,B7⟩;have HB7:=qA HB6 B7;have HC7:=qA HC6 B7;clear B7;by_cases hh:Hit r n m s j
     ·have hy:=HI.out.2 hh;rw[Bool.and_eq_true]at hy
      have he:=hy.1;have hl:=of_decide_eq_true hy.2;have hnN:n=N:=by
       rcases Nat.lt_or_ge n N with h|h
       ·exact absurd hh (HH1.out h j)
       ·have:=hR.out;omega
      have hd:=HDN.out hnN;have HA:Hid (t j=tD∧(n:Int)+s-349+1=P):=by
       obtain⟨_,_,_,_,hd1,hd2⟩:=hd;exact hid ⟨hd1 j hj hh hQ.out.2.1,hd2⟩
      clear hy hd hh hnN;go_wp2
      go_ret2;refine⟨?_,HB7.out⟩;rw[←HA.out.1,←HA.out.2];rfl
     ·have hn':¬((FloatKind.f64.format.order (y j) r==some .eq)&&decide (((t j).size:Int)=n))=true:=fun h=>hh (HI.out.1 h)
      have HM:=hid hh;clear hh;cases he:(FloatKind.f64.format.order (y j) r==some .eq)
      case' false=>skip
      case' true =>
       have hl:¬((t j).size:Int)=n:=fun h=>hn' (by rw[he,decide_eq_true h];rfl)
      all_goals
       clear hn';go_wp2
       go_roundw
       case rel =>
        refine⟨j+1,by go_num,hid ⟨hj,fun i hi=>?_,HC7.out⟩⟩;rcases(show i<j∨i=j by omega)with h|rfl
        ·exact hQ.out.2.1 i h
        ·exact HM.out
       case measure=>simp[intOf];omega
    ·obtain rfl:j=3:=by have:=hQ.out.1;omega
     have HNN:Hid (n<N):=by
      show n<N;rcases(show n<N∨n=N by have:=hR.out;omega)with h|h
      ·exact h
      ·obtain⟨i,i1,i2,_⟩:=HH2.out h;exact absurd i2 (hQ.out.2.1 i i1)
     have HBj:=hid (HB4.out.trans (hQ.out.2.2.mono HB4.out.size));go_wp2
     go_roundw
     case rel=>exact⟨n+1,by go_num,hid ⟨by omega,HNN.out,HBj.out⟩⟩
     case measure=>simp[intOf];omega
open Go.RowKit
theorem aOt (c s:Nat)(h1:1≤c)(hc:c<144115188075855872)(hs:s<696):∃R,bI (bA c s) (aF s) R:=by
 obtain⟨b,hb,b1,b64,l1,l2⟩:=qV c h1 (by omega);obtain⟨p1,p2⟩:=aDK s hs;obtain⟨z,hz⟩:∃z:Nat,fA b s=z:=⟨(fA b s).toNat,by unfold fA;omega⟩
 by_cases hfar:64≤fA b s
 ·exact⟨0,aCY c s b hs l2 hfar⟩
 ·have hb57:b≤57:=by
   refine Nat.le_of_not_lt fun hh=>?_
   have:2^57≤2^(b-1):=Nat.pow_le_pow_right (by decide) (by omega);have e57:(2:Nat)^57=144115188075855872:=by decide
   omega
  have hN:=aAb c s b z hs h1 l2 b64 hz (.inl hb57);exact⟨_,(aEM c s b hs b1 l1 l2 b64 z hz hN _ rfl).2.2.2⟩
theorem aEq (q:Int)(h0:-1000<q)(h1:q<1000):∃(sg Dg:List UInt8) (es:Int),Lib.itoa q=sg++Dg∧Dg≠[]∧(∀c∈Dg,aE c=true)∧((sg=[]∧es=1)∨(sg=[43]∧es=1)∨(sg=[45]∧es=-1))∧q=(bR Dg:Nat)*es∧Dg.length≤3:=by
 have ln:∀n:Nat,n<1000→(Lib.decDigits n).length≤3:=fun n hn=>by
  rw[Lib.decDigits_length];refine Nat.le_of_not_lt fun h=>?_
  have h1:=Lib.nDigits_pos n;by_cases c1:n<10
  ·rw[Lib.nDigits_small c1]at h;omega
  ·rw[Lib.nDigits_big c1]at h
   by_cases c2:n / 10<10
   ·rw[Lib.nDigits_small c2]at h;omega
   ·rw[Lib.nDigits_big c2,Lib.nDigits_small (by omega)]at h;omega
 have ne:∀n:Nat,Lib.decDigits n≠[]:=fun n h=>by
  have:=Lib.decDigits_length n;rw[h]at this
  have:=Lib.nDigits_pos n;simp at *
  omega
 by_cases c:q<0
 ·refine⟨[45],Lib.decDigits q.natAbs,-1,?_,ne _,lM _,.inr (.inr ⟨rfl,rfl⟩),?_,ln _ (by omega)⟩
  ·unfold Lib.itoa;rw[if_pos c];rfl
  ·rw[sH _ (by omega)];omega
 ·refine⟨[],Lib.decDigits q.toNat,1,?_,ne _,lM _,.inl ⟨rfl,rfl⟩,?_,ln _ (by omega)⟩
  ·unfold Lib.itoa;rw[if_neg c];rfl
  ·rw[sH _ (by omega)];omega
def vC (c:Nat)(q:Int):ByteArray:=⟨(Lib.decDigits c++101 :: Lib.itoa q).toArray⟩
theorem aLT (c:Nat)(h:c≤100000000000000000):Lib.nDigits c≤18:=by
 by_cases h1:c<100000000000000000
 ·have:=oB c h1;omega
 ·have ha:(10:Nat)^17=100000000000000000:=by decide
  have hb:(10:Nat)^(17+1)=1000000000000000000:=by decide
  have:=Lib.nDigits_unique 17 c (by omega) (by omega);omega
theorem aG8 (c:Nat)(q:Int)(hc:c≤100000000000000000)(h0:-1000<q)(h1:q<1000):uW (vC c q) false (Lib.decDigits c) [] false (101 :: Lib.itoa q) q:=by
 obtain⟨sg,Dg,es,e1,e2,e3,e4,e5,e6⟩:=aEq q h0 h1;have l1:=aLT c hc;have hsg:sg.length≤1:=by rcases e4 with⟨rfl,_⟩|⟨rfl,_⟩|⟨rfl,_⟩<;>simp
 refine⟨by simp[vC],lM _,by simp,fun h=>?_,fun _=>rfl,fun h=>absurd h (by decide),.inr ⟨sg,Dg,es,by rw[e1];rfl,e2,e3,e4,e5⟩,?_⟩
 ·have:=Lib.decDigits_length c;rw[h]at this
  have:=Lib.nDigits_pos c;simp at *
  omega
 ·unfold vC;rw[dZ,List.length_append,Lib.decDigits_length,e1];simp;omega
theorem aG7 (c s:Nat)(hc:c≤100000000000000000)(s1:8≤s)(s2:s≤657):∃R,R≤aJ∧(∀r,1≤r→(R=r↔1≤c∧bI (bA c s) (aF s) r)) ∧
  ∀w,aA w→Calls Tryz.prog 66 #[.string (vC c ((s:Int)-348)),.int .i64 64] w fun e w'=>aDP R e∧Below w.heap.size w w':=by
 have N:=aG8 c ((s:Int)-348) hc (by omega) (by omega);have eb:bJ (Lib.decDigits c) [] false=Lib.decDigits c:=by simp[bJ]
 have hlen:(Lib.decDigits c).length≤18:=by rw[Lib.decDigits_length];exact aLT c hc
 have hsz:(vC c ((s:Int)-348)).size≤1000:=by have:=N.len;omega
 by_cases h0:c=0
 ·subst h0;refine⟨0,Nat.zero_le _,fun r hr=>⟨fun h=>by omega,fun h=>by omega⟩,fun w T=>?_⟩;have RD:=fun w=>aEV N w
  rw[eb]at RD
  have e0:aL (Lib.decDigits 0)=aL [48]:=by rw[Lib.decDigits_one (by decide)];rfl
  rw[e0]at RD
  have A:=fun w T=>dK (zS (vC 0 ((s:Int)-348)) _ false _ w T (fun w=>aAi N w) RD)
  exact(aBD _ _ w T A).mono fun _ _ h=>⟨⟨_,h.1⟩,h.2⟩
 ·obtain⟨R,hR⟩:=aOt c s (by omega) (by omega) (by omega);refine⟨R,hR.le,fun r hr=>⟨fun h=>⟨by omega,h▸hR⟩,fun h=>rD _ _ _ _ (dU s) hR h.2⟩,fun w T=>?_⟩;have A:=fun w T=>aAn N c s R (by rw[eb];exact yU c) (by omega) (by simp;omega) (by rw[eb];exact mG _ (fun c hc=>by unfold cO;rw[lM _ c hc];rfl) (by omega)) hR (by omega) (by rw[eb];omega) (.inl (by omega)) w T
  have es:sgn false+R=R:=vX R;rw[es]at A
  by_cases hI:R=aJ
  ·have e:tI R=.iface 158 (.int .i64 1):=if_pos hI;rw[e]at A
   exact(aEQ _ hsz R w T A).mono fun _ _ ⟨⟨t,p,h⟩,h2⟩=>⟨⟨_,h⟩,h2⟩
  ·have e:tI R=.nilIface:=if_neg hI;rw[e]at A
   exact(aBD _ _ w T A).mono fun _ _ h=>⟨⟨_,h.1⟩,h.2⟩
theorem aOx (R r:Nat)(h:R≤aJ)(hr:r<aJ)(h1:1≤r):(FloatKind.f64.format.order R r==some .eq)=decide (R=r):=by
 rw[Bool.eq_iff_iff,decide_eq_true_eq];by_cases hI:R=aJ
 ·constructor
  ·intro h2;subst hI;exfalso;obtain⟨c2,k2⟩:=kO false r hr;rw[vX]at c2 k2
   have ci:cl aJ=1:=by kernel_rfl
   rw[aBa,c2,ci]at h2
   have:=h2.2;unfold jA at this;simp at this
  ·intro h2;omega
 ·have h2:=aHT false false R r (by omega) hr;rw[vX,vX]at h2
  rw[h2];constructor
  ·rintro(⟨a,b⟩|⟨_,a⟩)
   ·omega
   ·exact a
  ·intro a;exact .inr ⟨rfl,a⟩
end Go.Proofs.YtcfgbdhpcboikaaGreatDoor
