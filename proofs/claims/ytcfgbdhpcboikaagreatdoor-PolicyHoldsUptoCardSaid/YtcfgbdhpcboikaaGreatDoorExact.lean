/-
internal/strconv.atof64exact: the exact ways.
-/
import Derived.Test.YtcfgbdhpcboikaaGreatDoorNum
import Derived.Handy
namespace Go.Proofs.YtcfgbdhpcboikaaGreatDoor
open Go.Lib (hid)
set_option maxHeartbeats 4000000
set_option maxRecDepth 100000
open Go.RowKit
def cP (neg:Bool)(m:Nat):Nat:=if neg then Op.negFloat .f64 (floatOfInt .f64 m)else floatOfInt .f64 m
theorem iQ (m:Nat)(hm:m<4503599627370496):((m:Int) / 4503599627370496 !=0)=false:=by
 have:(m:Int) / 4503599627370496=0:=by omega
 rw[this];rfl
theorem aFO (m:Nat)(hm:4503599627370496≤m):((m:Int) / 4503599627370496 !=0)=true:=by
 have:¬(m:Int) / 4503599627370496=0:=by omega
 simp[this]
theorem gF (b:Nat):Op.unary .neg (.float .f64 b)=pure (.float .f64 (Op.negFloat .f64 b)):=by unfold Op.unary;rfl
theorem aBW (m:Nat):cP false m=floatOfInt .f64 m:=by
 unfold cP;rw[if_neg (by decide)]
theorem aBV (m:Nat):cP true m=Op.negFloat .f64 (floatOfInt .f64 m):=by
 unfold cP;rw[if_pos rfl]
theorem jF (neg:Bool)(m:Nat):∃f0 f:Nat,cP neg m=f∧floatOfInt .f64 m=f0∧((neg=false∧f=f0)∨(neg=true∧Op.negFloat .f64 f0=f)):=by
 cases neg
 ·refine⟨_,_,aBW m,rfl,.inl ⟨rfl,rfl⟩⟩
 ·refine⟨_,_,aBV m,rfl,.inr ⟨rfl,rfl⟩⟩
theorem aIV (m:Nat)(neg:Bool)(w:World)(T:aA w)(hm:m<4503599627370496) :
  Calls Tryz.prog 244 #[.int .u64 m,.int .i64 0,.bool neg] w fun e w'=>e=.returned (.tuple #[.float .f64 (cP neg m),.bool true])∧w=w':=by
 have h9:=T.info0;have hs:=iQ m hm;have un:=gF;obtain⟨f0,f,hf,h0,⟨rfl,rfl⟩|⟨rfl,h1⟩⟩:=jF neg m
 ·rw[hf];clear hf T;go_enter Tryz.func244,Tryz.ntmps244
  go_wp2
  go_ret2;exact⟨rfl,rfl⟩
 ·rw[hf];clear hf T;go_enter Tryz.func244,Tryz.ntmps244
  go_wp2
  go_ret2;exact⟨rfl,rfl⟩
def nC (w:World)(e:Ending)(w':World):Prop:=∃f,e=.returned (.tuple #[.float .f64 f,.bool false])∧w=w'
theorem aFC (m:Nat)(p:Int)(neg:Bool)(w:World)(T:aA w)(hm:4503599627370496≤m) :
  Calls Tryz.prog 244 #[.int .u64 m,.int .i64 p,.bool neg] w (nC w):=by
 have h9:=T.info0;have hs:=aFO m hm;go_enter Tryz.func244,Tryz.ntmps244
 go_wp2
 go_ret2;exact⟨_,rfl,rfl⟩
theorem aIU (m:Nat)(p:Int)(neg:Bool)(w:World)(T:aA w)(hm:m<4503599627370496)(hp:p < -22∨37<p) :
  Calls Tryz.prog 244 #[.int .u64 m,.int .i64 p,.bool neg] w (nC w):=by
 have h9:=T.info0;have hs:=iQ m hm;have un:=gF;have h1:(p==0)=false:=by simp;omega
 rcases hp with hp|hp
 all_goals
  cases neg;all_goals
   go_enter Tryz.func244,Tryz.ntmps244
   go_wp2
   go_ret2;exact⟨_,rfl,rfl⟩
theorem aIW (m p:Nat)(neg:Bool)(r:Nat)(w:World)(T:aA w)(hm:m<4503599627370496)(p1:1≤p)(p2:p≤22)
  (g1:(FloatKind.f64.format.order (cP neg m) 4831355200913801216==some .gt)=false) (g2:(FloatKind.f64.format.order (cP neg m) 14054727237768577024==some .lt)=false)
  (hr:floatBits .mul .f64 (cP neg m) (gB.getD p 0)=some r) :
  Calls Tryz.prog 244 #[.int .u64 m,.int .i64 p,.bool neg] w fun e w'=>e=.returned (.tuple #[.float .f64 r,.bool true])∧w=w':=by
 have h9:=T.info0;obtain⟨b,o,h12,hc⟩:=T.f10;have hcp:=hc p (by omega);have hs:=iQ m hm;have un:=gF;have hm2:∀w,(binOp .mul 25 (.float .f64 (cP neg m)) (.float .f64 (gB.getD p 0))).run Tryz.prog w=.ok (.float .f64 r) w:=fun w=>run_float_arith w .mul 24 .f64 _ _ _ hr
 have hp:((p:Int)==0)=false:=by simp;omega
 clear hc hr hm T;generalize gB.getD p 0=z at hcp hm2;obtain⟨f0,f,hf,h0,⟨rfl,rfl⟩|⟨rfl,h1⟩⟩:=jF neg m
 ·rw[hf]at g1 g2 hm2
  clear hf;go_enter Tryz.func244,Tryz.ntmps244
  go_wp2
  go_ret2;exact⟨rfl,rfl⟩
 ·rw[hf]at g1 g2 hm2
  clear hf;go_enter Tryz.func244,Tryz.ntmps244
  go_wp2
  go_ret2;exact⟨rfl,rfl⟩
theorem aBc (m p:Nat)(neg:Bool)(w:World)(T:aA w)(hm:m<4503599627370496)(p1:1≤p)(p2:p≤22)
  (g:(FloatKind.f64.format.order (cP neg m) 4831355200913801216==some .gt)=true∨((FloatKind.f64.format.order (cP neg m) 4831355200913801216==some .gt)=false∧(FloatKind.f64.format.order (cP neg m) 14054727237768577024==some .lt)=true)) :
  Calls Tryz.prog 244 #[.int .u64 m,.int .i64 p,.bool neg] w (nC w):=by
 have h9:=T.info0;have hs:=iQ m hm;have un:=gF;have hp:((p:Int)==0)=false:=by simp;omega
 clear hm T;obtain⟨f0,f,hf,h0,⟨rfl,rfl⟩|⟨rfl,h1⟩⟩:=jF neg m;all_goals
  rw[hf]at g
  clear hf;rcases g with g1|⟨g1,g2⟩
  all_goals
   go_enter Tryz.func244,Tryz.ntmps244
   go_wp2
   go_ret2;exact⟨_,rfl,rfl⟩
theorem aIT (m p:Nat)(neg:Bool)(r:Nat)(w:World)(T:aA w)(hm:m<4503599627370496)(p1:1≤p)(p2:p≤22)
  (hr:floatBits .quo .f64 (cP neg m) (gB.getD p 0)=some r) :
  Calls Tryz.prog 244 #[.int .u64 m,.int .i64 (-(p:Int)),.bool neg] w fun e w'=>e=.returned (.tuple #[.float .f64 r,.bool true])∧w=w':=by
 have h9:=T.info0;obtain⟨b,o,h12,hc⟩:=T.f10;have hcp:=hc p (by omega);have hs:=iQ m hm;have un:=gF;have hm2:∀w,(binOp .quo 25 (.float .f64 (cP neg m)) (.float .f64 (gB.getD p 0))).run Tryz.prog w=.ok (.float .f64 r) w:=fun w=>run_float_arith w .quo 24 .f64 _ _ _ hr
 have hp:(-(p:Int)==0)=false:=by simp;omega
 clear hc hr hm T;generalize gB.getD p 0=z at hcp hm2;obtain⟨f0,f,hf,h0,⟨rfl,rfl⟩|⟨rfl,h1⟩⟩:=jF neg m;all_goals
  rw[hf]at hm2
  clear hf;go_enter Tryz.func244,Tryz.ntmps244
  go_wp2
  go_ret2;exact⟨rfl,rfl⟩
theorem aHh (m p q:Nat)(neg:Bool)(r1 r:Nat)(w:World)(T:aA w)(hm:m<4503599627370496)(p1:22<p)(p2:p≤37)(hq:q+22=p)
  (hr1:floatBits .mul .f64 (cP neg m) (gB.getD q 0)=some r1)
  (g1:(FloatKind.f64.format.order r1 4831355200913801216==some .gt)=false) (g2:(FloatKind.f64.format.order r1 14054727237768577024==some .lt)=false)
  (hr:floatBits .mul .f64 r1 (gB.getD 22 0)=some r) :
  Calls Tryz.prog 244 #[.int .u64 m,.int .i64 p,.bool neg] w fun e w'=>e=.returned (.tuple #[.float .f64 r,.bool true])∧w=w':=by
 have h9:=T.info0;obtain⟨b,o,h12,hc⟩:=T.f10;have hcq:=hc q (by omega);have hc22:=hc 22 (by omega);have hs:=iQ m hm;have un:=gF;have hm1:∀w,(binOp .mul 25 (.float .f64 (cP neg m)) (.float .f64 (gB.getD q 0))).run Tryz.prog w=.ok (.float .f64 r1) w:=fun w=>run_float_arith w .mul 24 .f64 _ _ _ hr1
 have hm2:∀w,(binOp .mul 25 (.float .f64 r1) (.float .f64 (gB.getD 22 0))).run Tryz.prog w=.ok (.float .f64 r) w:=fun w=>run_float_arith w .mul 24 .f64 _ _ _ hr
 have hp:((p:Int)==0)=false:=by simp;omega
 clear hc hr hr1 hm T;generalize gB.getD q 0=z at hcq hm1;generalize gB.getD 22 0=z2 at hc22 hm2;subst hq;obtain⟨f0,f,hf,h0,⟨rfl,rfl⟩|⟨rfl,h1⟩⟩:=jF neg m;all_goals
  rw[hf]at hm1
  clear hf;go_enter Tryz.func244,Tryz.ntmps244
  go_wp2
  go_ret2;exact⟨rfl,rfl⟩
theorem tJ (m p q:Nat)(neg:Bool)(r1:Nat)(w:World)(T:aA w)(hm:m<4503599627370496)(p1:22<p)(p2:p≤37)(hq:q+22=p)
  (hr1:floatBits .mul .f64 (cP neg m) (gB.getD q 0)=some r1)
  (g:(FloatKind.f64.format.order r1 4831355200913801216==some .gt)=true∨((FloatKind.f64.format.order r1 4831355200913801216==some .gt)=false∧(FloatKind.f64.format.order r1 14054727237768577024==some .lt)=true)) :
  Calls Tryz.prog 244 #[.int .u64 m,.int .i64 p,.bool neg] w (nC w):=by
 have h9:=T.info0;obtain⟨b,o,h12,hc⟩:=T.f10;have hcq:=hc q (by omega);have hs:=iQ m hm;have un:=gF;have hm1:∀w,(binOp .mul 25 (.float .f64 (cP neg m)) (.float .f64 (gB.getD q 0))).run Tryz.prog w=.ok (.float .f64 r1) w:=fun w=>run_float_arith w .mul 24 .f64 _ _ _ hr1
 have hp:((p:Int)==0)=false:=by simp;omega
 clear hc hr1 hm T;generalize gB.getD q 0=z at hcq hm1;subst hq;obtain⟨f0,f,hf,h0,⟨rfl,rfl⟩|⟨rfl,h1⟩⟩:=jF neg m;all_goals
  rw[hf]at hm1
  clear hf;rcases g with g1|⟨g1,g2⟩
  all_goals
   go_enter Tryz.func244,Tryz.ntmps244
   go_wp2
   go_ret2;exact⟨_,rfl,rfl⟩
open Go.RowKit
theorem gS {α : Type}{P:List α → Prop}(h0:P [])(h1:∀l a,P l→P (l++[a]))(l:List α):P l:=by
 rw[←List.reverse_reverse l];generalize l.reverse=r;induction r with
 | nil=>exact h0
 | cons a r ih=>rw[List.reverse_cons];exact h1 _ _ ih
structure RS where
 mant:Nat
 nd:Nat
 ndM:Nat
 dp:Int
 dot:Bool
 dig:Bool
 trunc:Bool
deriving DecidableEq
def rs0:RS:=⟨0,0,0,0,false,false,false⟩
def dC (r:RS)(c:UInt8):RS :=
 if c=46 then { r with dot:=true,dp:=r.nd }
 else if c=48∧r.nd=0 then { r with dig:=true,dp:=r.dp-1 }
 else if r.ndM<19 then { r with dig:=true,nd:=r.nd+1,mant:=r.mant*10+(c.toNat-48),ndM:=r.ndM+1 }
 else { r with dig:=true,nd:=r.nd+1,trunc:=r.trunc||c !=48 }
def aL (l:List UInt8):RS:=l.foldl dC rs0
theorem cY (l:List UInt8)(c:UInt8):aL (l++[c])=dC (aL l) c:=by simp[aL]
def cO (c:UInt8):Bool:=aE c||c==46
structure RB (r:RS) (k:Nat):Prop where
 nd:r.nd≤k
 ndM:r.ndM=min r.nd 19
 mant:r.mant<10^r.ndM
 lo:-(k:Int)≤r.dp
 hi:r.dp≤k
theorem dV (c:UInt8)(h:aE c=true):48≤c.toNat∧c.toNat≤57:=by simpa [aE]using h
theorem aOh {r:RS}{k:Nat}{c:UInt8}(h:RB r k)(hc:cO c=true):RB (dC r c) (k+1):=by
 obtain⟨h1,h2,h3,h4,h5⟩:=h;unfold dC;split
 ·exact⟨by show r.nd≤_;omega,h2,h3,by show _≤((r.nd:Nat):Int);omega,by show((r.nd:Nat):Int)≤_;omega⟩
 ·rename_i h46;have hd:aE c=true:=by simpa [cO,h46]using hc
  have hb:=dV c hd;split
  ·exact⟨by show r.nd≤_;omega,h2,h3,by show _≤r.dp-1;omega,by show r.dp-1≤_;omega⟩
  ·split
   ·refine⟨by show r.nd+1≤_;omega,by show r.ndM+1=min (r.nd+1) 19;omega,?_,by show _≤r.dp;omega,by show r.dp≤_;omega⟩;show r.mant*10+(c.toNat-48)<10^(r.ndM+1);rw[Nat.pow_succ];omega
   ·exact⟨by show r.nd+1≤_;omega,by show r.ndM=min (r.nd+1) 19;omega,h3,by show _≤r.dp;omega,by show r.dp≤_;omega⟩
theorem uK (l:List UInt8)(h:∀c∈l,cO c=true):RB (aL l) l.length:=by
 induction l using gS with
 | h0=>exact⟨Nat.le_refl _,rfl,by show 0<1;omega,Int.le_refl _,Int.le_refl _⟩
 | h1 l c ih =>
  rw[cY,List.length_append];exact aOh (ih (fun x hx=>h x (by simp[hx]))) (h c (by simp))
theorem aMU (n:Nat)(h:n≤19):10^n≤10000000000000000000:=Nat.le_trans (Nat.pow_le_pow_right (by omega) h) (by decide)
theorem aMT (n:Nat)(h:n≤18):10^n≤1000000000000000000:=Nat.le_trans (Nat.pow_le_pow_right (by omega) h) (by decide)
def eD (e:Nat)(c:UInt8):Nat:=if e<10000 then e*10+(c.toNat-48)else e
def bR (l:List UInt8):Nat:=l.foldl eD 0
theorem iI (l:List UInt8)(c:UInt8):bR (l++[c])=eD (bR l) c:=by simp[bR]
theorem aLk (l:List UInt8)(h:∀c∈l,aE c=true):bR l≤100000:=by
 induction l using gS with
 | h0=>show 0≤_;omega
 | h1 l c ih =>
  have h1:=ih (fun x hx=>h x (by simp[hx]));have h2:=dV c (h c (by simp));rw[iI];unfold eD;split<;>omega
def aK (s:ByteArray)(p j:Nat):List UInt8:=(s.data.toList.drop p).take (j-p)
theorem gG (s:ByteArray)(p:Nat):aK s p p=[]:=by simp[aK]
theorem iM (s:ByteArray)(p j:Nat)(hp:p≤j)(hj:j<s.size):aK s p (j+1)=aK s p j++[s[j]]:=by
 unfold aK;rw[Nat.succ_sub hp,List.take_succ_eq_append_getElem (by rw[List.length_drop,←aS];omega)];congr 2;rw[List.getElem_drop];have e:p+(j-p)=j:=by omega
 simp only[e];rfl
theorem kV (s:ByteArray)(p j:Nat)(hp:p≤j)(hj:j≤s.size):(aK s p j).length=j-p:=by
 unfold aK;rw[List.length_take,List.length_drop,←aS];omega
open Go.RowKit
theorem aNV (c:UInt8)(h:cO c=true∨c=101∨c=69):(bits .or .u8 (c.toNat:Int) 32==120)=false:=by
 have all:∀n:Fin 256,(cO (UInt8.ofNat n.val)=true∨UInt8.ofNat n.val=101∨UInt8.ofNat n.val=69)→(bits .or .u8 ((UInt8.ofNat n.val).toNat:Int) 32==120)=false:=by decide +kernel
 have:=all ⟨c.toNat,c.toNat_lt⟩;simp only[UInt8.ofNat_toNat]at this;exact this h
theorem aMR (c:UInt8)(h:c=101∨c=69):(bits .or .u8 (c.toNat:Int) 32==101)=true:=by
 rcases h with rfl|rfl<;>decide +kernel
theorem aAA (c:Int)(w:World):Calls Tryz.prog 251 #[.int .u8 c] w fun e w'=>e=.returned (.int .u8 (bits .or .u8 c 32))∧w=w' :=
 (Tryz.internal_strconv_lower c w).mono fun _ _ ⟨h1,h2⟩=>⟨h1,h2.symm⟩
structure nD (s:ByteArray) (p0 q:Nat):Prop where
 lt:p0<q
 le:q≤s.size
 ch:∀j (h:j<s.size),p0≤j→j<q→cO s[j]=true
 dots:∀j (h:j<s.size),p0≤j→j<q→s[j]=46→(aL (aK s p0 j)).dot=false
 dig:(aL (aK s p0 q)).dig=true
 stop:∀(h:q<s.size),s[q]=101∨s[q]=69
def wP (s:ByteArray)(neg:Bool)(p0:Nat):Prop :=
 ∃h:0<s.size,(neg=false∧p0=0∧((s[0].toNat:Int)==43)=false∧((s[0].toNat:Int)==45)=false)∨(neg=true∧p0=1∧((s[0].toNat:Int)==43)=false∧((s[0].toNat:Int)==45)=true)
def aGd (s:ByteArray)(p0 q:Nat)(mant trunc i us dot dig nd ndM dp:Value):Prop :=
 ∃(j:Nat) (r:RS),p0≤j∧j≤q∧aL (aK s p0 j)=r∧mant=.int .u64 r.mant∧trunc=.bool r.trunc∧i=.int .i64 j∧us=.bool false∧dot=.bool r.dot∧dig=.bool r.dig∧nd=.int .i64 r.nd∧ndM=.int .i64 r.ndM∧dp=.int .i64 r.dp
def aM3 (s:ByteArray)(p0 q:Nat)(mant trunc i us dot dig nd ndM dp:Value):Prop :=
 ∃(r:RS),aL (aK s p0 q)=r∧mant=.int .u64 r.mant∧trunc=.bool r.trunc∧i=.int .i64 q∧us=.bool false∧dot=.bool r.dot∧dig=.bool r.dig∧nd=.int .i64 r.nd∧ndM=.int .i64 r.ndM∧dp=.int .i64 r.dp
def aAY (s:ByteArray)(q:Nat)(ev:Int):Prop :=
 (q=s.size∧ev=0)∨∃(h:q+1<s.size) (t:Nat) (es:Int),((t=q+1∧es=1∧aE s[q+1]=true)∨(t=q+2∧es=1∧s[q+1]=43)∨(t=q+2∧es=-1∧s[q+1]=45)) ∧
  t<s.size∧(∀j (h:j<s.size),t≤j→aE s[j]=true)∧ev=(bR (aK s t s.size):Nat)*es
def RS.place (r:RS):Int:=if r.dot=true then r.dp else r.nd
def RS.expo (r:RS)(ev:Int):Int:=if r.mant=0 then 0 else r.place+ev-r.ndM
theorem aEN (s:ByteArray)(t j:Nat)(ht:t≤j)(hj:j≤s.size)(h:∀j (h:j<s.size),t≤j→aE s[j]=true):∀c∈aK s t j,aE c=true:=by
 intro c hc;obtain⟨i,hi,rfl⟩:=List.getElem_of_mem hc;rw[kV s t j ht hj]at hi
 have:(aK s t j)[i]'(by rw[kV s t j ht hj];exact hi)=s[t+i]'(by omega):=by
  unfold aK;rw[List.getElem_take,List.getElem_drop];rfl
 rw[this];exact h (t+i) (by omega) (by omega)
theorem mV (s:ByteArray)(t j:Nat)(ht:t≤j)(hj:j≤s.size)(h:∀j (h:j<s.size),t≤j→aE s[j]=true):bR (aK s t j)≤100000 :=
 aLk _ (aEN s t j ht hj h)
theorem vQ (s:ByteArray)(p0 q:Nat)(N:nD s p0 q)(j:Nat)(hp:p0≤j)(hj:j≤q):∀c∈aK s p0 j,cO c=true:=by
 intro c hc;have hle:=N.le;obtain⟨i,hi,rfl⟩:=List.getElem_of_mem hc;rw[kV s p0 j hp (by omega)]at hi
 have:(aK s p0 j)[i]'(by rw[kV s p0 j hp (by omega)];exact hi)=s[p0+i]'(by omega):=by
  unfold aK;rw[List.getElem_take,List.getElem_drop];rfl
 rw[this];exact N.ch (p0+i) (by omega) (by omega) (by omega)
theorem aBF (s:ByteArray)(p0 q:Nat)(N:nD s p0 q)(j:Nat)(hp:p0≤j)(hj:j≤q):RB (aL (aK s p0 j)) (j-p0):=by
 have:=uK (aK s p0 j) (vQ s p0 q N j hp hj);rwa[kV s p0 j hp (Nat.le_trans hj N.le)]at this
open Go.RowKit
theorem aJR (s p:ByteArray)(w:World)(h:0<s.size)(hs:s.size≤40)(hp:0<p.size)(hp2:p.size≤40)(h1:s[0].toNat≤57)(hq:97≤p[0].toNat) :
  Calls Tryz.prog 269 #[.string s,.string p] w fun e w'=>e=.returned (.int .i64 0)∧w=w':=by
 have h2:¬ 65≤s[0].toNat:=by omega
 have h3:((s[0].toNat:Int) !=(p[0].toNat:Int))=true:=by simp;omega
 by_cases hle:p.size≤s.size
 all_goals
  go_enter Tryz.func269,Tryz.ntmps269
  go_wp2
  refine wp_loop_rounds 1 ?_;rw[rounds_succ];go_wp2
  go_ret;exact⟨rfl,rfl⟩
theorem qC (s:ByteArray)(w:World)(h:0<s.size)(hs:s.size≤40)(h1:s[0].toNat≤57)(h2:((s[0].toNat:Int)==43)=false)(h3:((s[0].toNat:Int)==45)=false) :
  Calls Tryz.prog 233 #[.string s] w fun e w'=>e=.returned (.tuple #[.float .f64 0,.int .i64 0,.bool false])∧w=w':=by
 have f1:((s[0].toNat:Int)==105)=false:=by simp;omega
 have f2:((s[0].toNat:Int)==73)=false:=by simp;omega
 have f3:((s[0].toNat:Int)==110)=false:=by simp;omega
 have f4:((s[0].toNat:Int)==78)=false:=by simp;omega
 have f0:((s.size:Int)==0)=false:=beq_eq_false_iff_ne.2 (by omega);go_enter Tryz.func233,Tryz.ntmps233
 go_wp2
 go_ret3;exact⟨rfl,rfl⟩
theorem wI (s:ByteArray)(w:World)(h:1<s.size)(hs:s.size≤40)(h2:((s[0].toNat:Int)==43)=false)(h3:((s[0].toNat:Int)==45)=true)(h1:s[1].toNat≤57) :
  Calls Tryz.prog 233 #[.string s] w fun e w'=>e=.returned (.tuple #[.float .f64 0,.int .i64 0,.bool false])∧w=w':=by
 have f0:((s.size:Int)==0)=false:=beq_eq_false_iff_ne.2 (by omega);obtain⟨s2,e2,z2,c2'⟩:=fR s 1 (by omega);have c2:∀w,(Instr.slice 9 (.string s) (some (.int .i64 1)) none none).run Tryz.prog w=.ok (.string s2) w:=c2';clear c2';have k2:0<s2.size:=by omega
 have k3:s2.size≤40:=by omega
 have g1:s2[0].toNat≤57:=by
  have:s2[0]=s[1]:=by
   have a1:=List.getElem_of_eq e2 (i:=0) (by rw[←aS];exact k2);rw[List.getElem_drop]at a1
   exact a1
  rw[this];exact h1
 have PR:=fun w=>aJR s2 ({ data:=#[105,110,102,105,110,105,116,121] }:ByteArray) w k2 k3 (Nat.le_of_ble_eq_true rfl) (Nat.le_of_ble_eq_true rfl) g1 (Nat.le_of_ble_eq_true rfl)
 have HPR:=hid PR;clear PR e2 z2;go_enter Tryz.func233,Tryz.ntmps233
 go_wp2_with (go_at_call 269;refine(HPR.out _).mono ?_;rintro e w' ⟨rfl,rfl⟩)
 go_ret3;exact⟨rfl,rfl⟩
open Go.RowKit
theorem cU (w:World):Calls Tryz.prog 242 #[.bool true] w fun e w'=>e=.returned (.int .u64 1)∧w=w':=by
 go_enter Tryz.func242,Tryz.ntmps242
 go_wp2
 go_ret;exact⟨rfl,rfl⟩
theorem cI (w:World):Calls Tryz.prog 242 #[.bool false] w fun e w'=>e=.returned (.int .u64 0)∧w=w':=by
 go_enter Tryz.func242,Tryz.ntmps242
 go_wp2
 go_ret;exact⟨rfl,rfl⟩
theorem aB8 (w:World):Calls Tryz.prog 266 #[.bool true] w fun e w'=>e=.returned (.int .i64 1)∧w=w':=by
 go_enter Tryz.func266,Tryz.ntmps266
 go_wp2
 go_ret;exact⟨rfl,rfl⟩
theorem aA6 (w:World):Calls Tryz.prog 266 #[.bool false] w fun e w'=>e=.returned (.int .i64 0)∧w=w':=by
 go_enter Tryz.func266,Tryz.ntmps266
 go_wp2
 go_ret;exact⟨rfl,rfl⟩
theorem aB9 (w:World):Calls Tryz.prog 295 #[.bool true] w fun e w'=>e=.returned (.int .u64 1)∧w=w':=by
 go_enter Tryz.func295,Tryz.ntmps295
 go_wp2
 go_ret;exact⟨rfl,rfl⟩
theorem aA7 (w:World):Calls Tryz.prog 295 #[.bool false] w fun e w'=>e=.returned (.int .u64 0)∧w=w':=by
 go_enter Tryz.func295,Tryz.ntmps295
 go_wp2
 go_ret;exact⟨rfl,rfl⟩
theorem aG1 (s:ByteArray)(m:Nat)(x:Int)(neg:Bool)(r:Nat)(w:World)(T:aA w)(_hs:s.size≤40)(hm:m≠0)(x1:-345≤x)(x2:x≤310)
  (SP:∀w,Calls Tryz.prog 233 #[.string s] w fun e w'=>e=.returned (.tuple #[.float .f64 0,.int .i64 0,.bool false])∧w=w')
  (RD:∀w,Calls Tryz.prog 234 #[.string s] w fun e w'=>e=.returned (.tuple #[.int .u64 m,.int .i64 x,.bool neg,.bool false,.bool false,.int .i64 s.size,.bool true])∧w=w')
  (EX:∀w,aA w→Calls Tryz.prog 244 #[.int .u64 m,.int .i64 x,.bool neg] w fun e w'=>e=.returned (.tuple #[.float .f64 r,.bool true])∧w=w') :
  Calls Tryz.prog 205 #[.string s] w fun e w'=>e=.returned (.tuple #[.float .f64 r,.int .i64 s.size,.nilIface])∧w=w':=by
 have h3:=T.opt;have hm0:((m:Int)==0)=false:=beq_eq_false_iff_ne.2 (by omega);have HSP:=hid SP;have HRD:=hid RD;have HEX:=hid EX;have HT:=hid T;clear SP RD EX T;cases neg;all_goals
  go_enter Tryz.func205,Tryz.ntmps205
  go_wp2_with (first
   | (go_at_call 233;refine(HSP.out _).mono ?_;rintro e w' ⟨rfl,rfl⟩)
   | (go_at_call 234;refine(HRD.out _).mono ?_;rintro e w' ⟨rfl,rfl⟩)
   | (go_at_call 242;((with_reducible refine(cU _).mono ?_);rintro e w' ⟨rfl,rfl⟩))
   | (go_at_call 242;((with_reducible refine(cI _).mono ?_);rintro e w' ⟨rfl,rfl⟩))
   | (go_at_call 244;refine(HEX.out _ HT.out).mono ?_;rintro e w' ⟨rfl,rfl⟩))
  go_ret3;exact⟨rfl,rfl⟩
open Go.RowKit
theorem aPt (n:Int)(w:World):(callFunc 169 #[.int .u64 n]).run Tryz.prog w=.ok (.value (.float .f64 n.toNat)) w:=by
 rw[run_callFunc_extern Tryz.func169 (by kernel_rfl) (by kernel_rfl) (by kernel_rfl) (e:=Extern.MathFloatBits.float64frombits) (by kernel_rfl)];rfl
theorem lN (n:Int)(w:World):(callFunc 243 #[.int .u64 n]).run Tryz.prog w=.ok (.value (.float .f64 n.toNat)) w:=by
 rw[run_callFunc_extern Tryz.func243 (by kernel_rfl) (by kernel_rfl) (by kernel_rfl) (e:=Extern.MathFloatBits.float64frombits) (by kernel_rfl)];rfl
theorem aPu (r:Nat)(w:World):(callFunc 170 #[.float .f64 r]).run Tryz.prog w=.ok (.value (.int .u64 r)) w:=by
 rw[run_callFunc_extern Tryz.func170 (by kernel_rfl) (by kernel_rfl) (by kernel_rfl) (e:=Extern.MathFloatBits.float64bits) (by kernel_rfl)];rfl
theorem aD7 (r:Nat)(w:World):(callFunc 254 #[.float .f64 r]).run Tryz.prog w=.ok (.value (.int .u64 r)) w:=by
 rw[run_callFunc_extern Tryz.func254 (by kernel_rfl) (by kernel_rfl) (by kernel_rfl) (e:=Extern.MathFloatBits.float64bits) (by kernel_rfl)];rfl
def tG (r:Nat):Nat:=(bits .andNot .u64 r 9223372036854775808).toNat
theorem tY (r:Nat)(w:World):Calls Tryz.prog 121 #[.float .f64 r] w fun e w'=>e=.returned (.float .f64 (tG r))∧w=w':=by
 have d1:=aPt;have d2:=aPu;go_enter Tryz.func121,Tryz.ntmps121
 go_wp2
 go_ret;exact⟨rfl,rfl⟩
def lW (r:Nat):Bool:=FloatKind.f64.format.order (tG r) 9218868437227405311==some .gt
theorem aJh (r:Nat)(w:World):Calls Tryz.prog 67 #[.float .f64 r,.int .i64 0] w fun e w'=>e=.returned (.bool (lW r))∧w=w':=by
 go_enter Tryz.func67,Tryz.ntmps67
 go_wp2_with (go_at_call 121;refine(tY _ _).mono ?_;rintro e w' ⟨rfl,rfl⟩)
 go_ret;exact⟨rfl,rfl⟩
theorem gL (r:Nat)(b:Bool)(w:World)(h:lW r=b):Calls Tryz.prog 67 #[.float .f64 r,.int .i64 0] w fun e w'=>e=.returned (.bool b)∧w=w':=by
 subst h;exact aJh r w
theorem aJS (s:ByteArray)(r:Nat)(w:World)
  (A:∀w',w=w'→Calls Tryz.prog 205 #[.string s] w' fun e w2=>e=.returned (.tuple #[.float .f64 r,.int .i64 s.size,.nilIface])∧w'=w2) :
  Calls Tryz.prog 164 #[.string s,.int .i64 64] w fun e w'=>e=.returned (.tuple #[.float .f64 r,.int .i64 s.size,.nilIface])∧w=w':=by
 have HA:=hid A;clear A;go_enter Tryz.func164,Tryz.ntmps164
 go_wp2_with (go_at_call 205;refine(HA.out _ rfl).mono ?_;rintro e w' ⟨rfl,rfl⟩)
 go_ret3;exact⟨rfl,rfl⟩
theorem aOe (s:ByteArray)(r:Nat)(w:World)
  (A:∀w',w=w'→Calls Tryz.prog 205 #[.string s] w' fun e w2=>e=.returned (.tuple #[.float .f64 r,.int .i64 s.size,.nilIface])∧w'=w2) :
  Calls Tryz.prog 119 #[.string s,.int .i64 64] w fun e w'=>e=.returned (.tuple #[.float .f64 r,.nilIface])∧w=w':=by
 have HA:=hid A;clear A;go_enter Tryz.func119,Tryz.ntmps119
 go_wp2_with (go_at_call 164;refine(aJS s r _ HA.out).mono ?_;rintro e w' ⟨rfl,rfl⟩)
 go_ret2;exact⟨rfl,rfl⟩
theorem aOd (s:ByteArray)(r:Nat)(w:World)
  (A:∀w',w=w'→Calls Tryz.prog 205 #[.string s] w' fun e w2=>e=.returned (.tuple #[.float .f64 r,.int .i64 s.size,.nilIface])∧w'=w2) :
  Calls Tryz.prog 66 #[.string s,.int .i64 64] w fun e w'=>e=.returned (.tuple #[.float .f64 r,.nilIface])∧w=w':=by
 have HA:=hid A;clear A;go_enter Tryz.func66,Tryz.ntmps66
 go_wp2_with (go_at_call 119;refine(aOe s r _ HA.out).mono ?_;rintro e w' ⟨rfl,rfl⟩)
 go_ret2;exact⟨rfl,rfl⟩
theorem aL2 (s:ByteArray)(r:Nat)(w:World)(hs:s.size≤maxLen)(hn:bX s.data.toList=true)(hi:lW r=false)
  (A:∀w',w=w'→Calls Tryz.prog 205 #[.string s] w' fun e w2=>e=.returned (.tuple #[.float .f64 r,.int .i64 s.size,.nilIface])∧w'=w2) :
  Calls Tryz.prog 21 #[.string s] w fun e w'=>e=.returned (.tuple #[.float .f64 r,.bool true])∧w=w':=by
 have NB:=fun w=>pC s w hs
 rw[hn]at NB
 have HA:=hid A;have HNB:=hid NB;have HI:=hid hi;clear A NB hn hi hs;go_enter Tryz.func21,Tryz.ntmps21
 go_wp2_with (first
  | (go_at_call 65;refine(HNB.out _).mono ?_;rintro e w' ⟨rfl,rfl⟩)
  | (go_at_call 66;refine(aOd s r _ HA.out).mono ?_;rintro e w' ⟨rfl,rfl⟩)
  | (go_at_call 67;refine(gL r false _ HI.out).mono ?_;rintro e w' ⟨rfl,rfl⟩))
 go_ret2;exact⟨rfl,rfl⟩
open Go.RowKit
theorem aAC (x y hi mid:Nat)(w:World)(hx:x<18446744073709551616)(hy:y<18446744073709551616)(h1:x*y / 18446744073709551616=hi)(h2:x*y%18446744073709551616=mid) :
  Calls Tryz.prog 202 #[.int .u64 x,.int .u64 y] w fun e w'=>e=.returned (.tuple #[.int .u64 hi,.int .u64 mid])∧w=w':=by
 refine(Tryz.bits_Mul64 x y hx hy w).mono ?_;rintro e w' ⟨rfl,rfl⟩;rw[h1,h2];exact⟨rfl,rfl⟩
theorem aMJ (s:Nat)(h:s<64):bits .and .i64 (s:Int) 63=s:=by
 have all:∀n:Fin 64,bits .and .i64 ((n.val:Nat):Int) 63=((n.val:Nat):Int):=by decide +kernel
 exact all ⟨s,h⟩
theorem aIc (x h l s hi mid:Nat)(w:World)(b o:Nat)(c0:w.cell? ⟨b,o,none⟩=some (.int .u64 h))(_c1:w.cell? ⟨b,o+1,none⟩=some (.int .u64 l))(c2:w.cell? ⟨b,o+2,none⟩=some (.int .i64 s))
  (hx:x<18446744073709551616) (hh:h<18446744073709551616) (hs:s<64) (h1:x*h / 18446744073709551616=hi) (h2:x*h%18446744073709551616=mid)
  (hc:(IntKind.u64.wrap ((hi:Int) / 2^s*2^s) !=(hi:Int))=true) :
  Calls Tryz.prog 274 #[.int .u64 x,.pointer (some ⟨b,o,none⟩)] w fun e w'=>e=.returned (.int .u64 (bits .or .u64 ((hi:Int) / 2^s) 1))∧w=w':=by
 have M1:=fun w=>aAC x h hi mid w hx hh h1 h2
 have a63:=aMJ s hs;have HM1:=hid M1;clear M1 h1 h2 hx hh;go_enter Tryz.func274,Tryz.ntmps274
 go_wp2_with (go_at_call 202;((with_reducible refine(HM1.out _).mono ?_);rintro e w' ⟨rfl,rfl⟩))
 go_ret;exact⟨rfl,rfl⟩
theorem aGb (x h l s hi mid mid2 lo2:Nat)(w:World)(b o:Nat)(c0:w.cell? ⟨b,o,none⟩=some (.int .u64 h))(c1:w.cell? ⟨b,o+1,none⟩=some (.int .u64 l))(c2:w.cell? ⟨b,o+2,none⟩=some (.int .i64 s))
  (hx:x<18446744073709551616) (hh:h<18446744073709551616) (hl:l<18446744073709551616) (hs:s<64) (h1:x*h / 18446744073709551616=hi) (h2:x*h%18446744073709551616=mid) (h3:x*l / 18446744073709551616=mid2) (h4:x*l%18446744073709551616=lo2)
  (hc:(IntKind.u64.wrap ((hi:Int) / 2^s*2^s) !=(hi:Int))=false) (q:Bool) (hq:decide (mid<mid2)=q) (z:Int) (hz:IntKind.u64.wrap (if q then (hi:Int)-1 else (hi:Int))=z) (r:Bool) (hr:decide (1<IntKind.u64.wrap ((mid:Int)-mid2))=r) :
  Calls Tryz.prog 274 #[.int .u64 x,.pointer (some ⟨b,o,none⟩)] w fun e w'=>e=.returned (.int .u64 (bits .or .u64 (z / 2^s) (if r then 1 else 0)))∧∃n,w'=w.drewN n:=by
 have M1:=fun w=>aAC x h hi mid w hx hh h1 h2
 have M2:=fun w=>aAC x l mid2 lo2 w hx hl h3 h4
 have a63:=aMJ s hs;have HM1:=hid M1;have HM2:=hid M2;clear M1 M2 h1 h2 h3 h4 hx hh hl;cases q;all_goals
  simp only[if_true,if_false,Bool.false_eq_true]at hz;go_enter Tryz.func274,Tryz.ntmps274
  go_wp2_with (first
   | (go_at_call 202;((with_reducible refine(HM1.out _).mono ?_);rintro e w' ⟨rfl,rfl⟩))
   | (go_at_call 202;((with_reducible refine(HM2.out _).mono ?_);rintro e w' ⟨rfl,rfl⟩))
   | (go_at_call 242;((with_reducible refine(cU _).mono ?_);rintro e w' ⟨rfl,rfl⟩))
   | (go_at_call 242;((with_reducible refine(cI _).mono ?_);rintro e w' ⟨rfl,rfl⟩)))
  cases r;all_goals
   go_quiet ((first|(go_at_call 242;exact Calls.quiet_of_same ((cU _).mono fun _ _ h=>⟨h.1,h.2.symm⟩))|(go_at_call 242;exact Calls.quiet_of_same ((cI _).mono fun _ _ h=>⟨h.1,h.2.symm⟩))))
   go_wp2
   go_ret;exact⟨rfl,_,rfl⟩
def cF (x h l s:Nat):Nat :=
 let hi:=x*h / 18446744073709551616
 let mid:=x*h%18446744073709551616
 let mid2:=x*l / 18446744073709551616
 if hi / 2^s*2^s≠hi then hi / 2^s ||| 1
 else (if mid<mid2 then (hi+18446744073709551615)%18446744073709551616 else hi) / 2^s ||| (if 1<(mid+18446744073709551616-mid2)%18446744073709551616 then 1 else 0)
theorem cW (z:Int):IntKind.u64.wrap z=z%18446744073709551616:=by
 have h1:IntKind.u64.signed=false:=rfl;have h2:IntKind.u64.bits=64:=rfl;unfold IntKind.wrap;simp only[h1,h2,Bool.false_and,Bool.false_eq_true,if_false];rfl
theorem aAS (n:Nat)(h:n<18446744073709551616):IntKind.u64.wrap (n:Int)=n:=by rw[cW];omega
theorem pT (a b:Nat)(ha:a<18446744073709551616)(hb:b<18446744073709551616):bits .or .u64 (a:Int) (b:Int)=((a ||| b:Nat):Int):=u64_or_nat a b ha hb
theorem sR (x y:Nat)(hx:x<18446744073709551616)(hy:y<18446744073709551616):x*y / 18446744073709551616<18446744073709551616:=by
 rw[Nat.div_lt_iff_lt_mul (by omega)];exact Nat.mul_lt_mul'' hx hy
theorem nY (a s:Nat)(ha:a<18446744073709551616):a / 2^s<18446744073709551616:=Nat.lt_of_le_of_lt (Nat.div_le_self _ _) ha
theorem cZ (x h l s:Nat)(w:World)(b o:Nat)(c0:w.cell? ⟨b,o,none⟩=some (.int .u64 h))(c1:w.cell? ⟨b,o+1,none⟩=some (.int .u64 l))(c2:w.cell? ⟨b,o+2,none⟩=some (.int .i64 s))
  (hx:x<18446744073709551616) (hh:h<18446744073709551616) (hl:l<18446744073709551616) (hs:s<64) :
  Calls Tryz.prog 274 #[.int .u64 x,.pointer (some ⟨b,o,none⟩)] w fun e w'=>e=.returned (.int .u64 (cF x h l s:Nat))∧∃n,w'=w.drewN n:=by
 obtain⟨hi,h1⟩:∃hi,x*h / 18446744073709551616=hi:=⟨_,rfl⟩
 obtain⟨mid,h2⟩:∃mid,x*h%18446744073709551616=mid:=⟨_,rfl⟩
 obtain⟨mid2,h3⟩:∃mid2,x*l / 18446744073709551616=mid2:=⟨_,rfl⟩
 obtain⟨lo2,h4⟩:∃lo2,x*l%18446744073709551616=lo2:=⟨_,rfl⟩
 have b1:hi<18446744073709551616:=by rw[←h1];exact sR x h hx hh
 have b2:mid<18446744073709551616:=by rw[←h2];exact Nat.mod_lt _ (by omega)
 have b3:mid2<18446744073709551616:=by rw[←h3];exact sR x l hx hl
 have d1:hi / 2^s<18446744073709551616:=nY hi s b1;have hp:((2:Int)^s)=((2^s:Nat):Int):=by simp
 have hdiv:(hi:Int) / 2^s=((hi / 2^s:Nat):Int):=by rw[hp,Int.natCast_ediv]
 have hmul:hi / 2^s*2^s≤hi:=Nat.div_mul_le_self _ _;have hw:IntKind.u64.wrap ((hi:Int) / 2^s*2^s)=((hi / 2^s*2^s:Nat):Int):=by
  rw[hdiv,hp,←Int.natCast_mul];exact aAS _ (by omega)
 by_cases hc:hi / 2^s*2^s≠hi
 ·refine(aIc x h l s hi mid w b o c0 c1 c2 hx hh hs h1 h2 (by rw[hw,bne_iff_ne];omega)).mono ?_;rintro e w' ⟨rfl,rfl⟩;refine⟨?_,0,rfl⟩;have:cF x h l s=hi / 2^s ||| 1:=by
   unfold cF;simp only[h1];rw[if_pos hc]
  rw[this,hdiv];have:=pT (hi / 2^s) 1 d1 (by omega);rw[←this];rfl
 ·have hw2:IntKind.u64.wrap ((mid:Int)-mid2)=(((mid+18446744073709551616-mid2)%18446744073709551616:Nat):Int):=by
   rw[cW];omega
  have hz:IntKind.u64.wrap (if decide (mid<mid2)=true then (hi:Int)-1 else (hi:Int))=(((if mid<mid2 then (hi+18446744073709551615)%18446744073709551616 else hi):Nat):Int):=by
   by_cases hq:mid<mid2
   ·simp only[hq,decide_true,if_true];rw[cW];omega
   ·simp only[hq,decide_false,if_false,Bool.false_eq_true];exact aAS _ b1
  refine(aGb x h l s hi mid mid2 lo2 w b o c0 c1 c2 hx hh hl hs h1 h2 h3 h4 (by rw[hw];exact bne_eq_false_iff_eq.2 (by omega)) _ rfl _ hz _ rfl).mono ?_;rintro e w' ⟨rfl,hn⟩;refine⟨?_,hn⟩;have e1:cF x h l s=(if mid<mid2 then (hi+18446744073709551615)%18446744073709551616 else hi) / 2^s ||| (if 1<(mid+18446744073709551616-mid2)%18446744073709551616 then 1 else 0):=by
   unfold cF;simp only[h1,h2,h3];rw[if_neg hc]
  obtain⟨H,hH⟩:∃H,H=(if mid<mid2 then (hi+18446744073709551615)%18446744073709551616 else hi):=⟨_,rfl⟩
  rw[←hH]at e1 ⊢
  have bH:H<18446744073709551616:=by rw[hH];split<;>omega
  rw[e1,hw2];have hd2:(H:Int) / 2^s=((H / 2^s:Nat):Int):=by rw[hp,Int.natCast_ediv]
  rw[hd2];by_cases hr:1<(mid+18446744073709551616-mid2)%18446744073709551616
  ·rw[if_pos hr,if_pos (decide_eq_true (by omega))];have:=pT (H / 2^s) 1 (nY H s bH) (by omega);rw[←this];rfl
  ·rw[if_neg hr,if_neg (by rw[decide_eq_true_eq];omega)];have:=pT (H / 2^s) 0 (nY H s bH) (by omega);rw[←this];rfl
open Go.RowKit
theorem nI {a b:Int}(h:a=b):Ending.returned (.int .u64 a)=.returned (.int .u64 b):=by rw[h]
theorem mX (x:Int)(w:World)(h0:-3000≤x)(h1:x≤3000):Calls Tryz.prog 272 #[.int .i64 x] w fun e w'=>e=.returned (.int .i64 (x*108853 / 32768))∧w=w':=by
 go_enter Tryz.func272,Tryz.ntmps272
 go_wp2
 go_ret;exact⟨rfl,rfl⟩
theorem sP (x:Int)(w:World)(h0:-3000≤x)(h1:x≤3000):Calls Tryz.prog 260 #[.int .i64 x] w fun e w'=>e=.returned (.int .i64 (x*78913 / 262144))∧w=w':=by
 go_enter Tryz.func260,Tryz.ntmps260
 go_wp2
 go_ret;exact⟨rfl,rfl⟩
theorem aHZ (x:Int)(w:World)(h0:-3000≤x)(h1:x≤3000):Calls Tryz.prog 282 #[.int .i64 x] w fun e w'=>e=.returned (.int .i64 ((x*631305-261663) / 2097152))∧w=w':=by
 go_enter Tryz.func282,Tryz.ntmps282
 go_wp2
 go_ret;exact⟨rfl,rfl⟩
theorem aJB (u:Nat)(d:Int)(w:World)(_hu:u<18446744073709551616):Calls Tryz.prog 283 #[.int .u64 u,.int .i64 d] w fun e w'=>e=.returned (.int .u64 ((((u:Int)+d)%18446744073709551616).toNat:Nat))∧w=w':=by
 go_enter Tryz.func283,Tryz.ntmps283
 go_wp2
 go_ret;refine⟨nI ?_,rfl⟩;rw[cW,cW];omega
theorem aK9 (u:Nat)(w:World)(_hu:u<18446744073709551616):Calls Tryz.prog 284 #[.int .u64 u] w fun e w'=>e=.returned (.int .u64 ((u+3)%18446744073709551616 / 4:Nat))∧w=w':=by
 go_enter Tryz.func284,Tryz.ntmps284
 go_wp2
 go_ret;refine⟨nI ?_,rfl⟩;rw[cW];omega
theorem aI5 (u:Nat)(w:World)(hu:u<18446744073709551616):Calls Tryz.prog 285 #[.int .u64 u] w fun e w'=>e=.returned (.int .u64 (u / 4:Nat))∧w=w':=by
 go_enter Tryz.func285,Tryz.ntmps285
 go_wp2
 go_ret;refine⟨nI ?_,rfl⟩;omega
theorem uZ (n:Nat)(h:n<18446744073709551616):bits .and .u64 (n:Int) 1=((n%2:Nat):Int):=by
 have:=and_one_u64 (n:Int) (by omega) (by omega);rw[this];omega
theorem aJ7 (u:Nat)(w:World)(hu:u<18446744073709551616):Calls Tryz.prog 277 #[.int .u64 u] w fun e w'=>e=.returned (.int .u64 ((u+1+u / 4%2)%18446744073709551616 / 4:Nat))∧w=w':=by
 have ha:=uZ (u / 4) (by omega);have e4:((u / 4:Nat):Int)=(u:Int) / 4:=by omega
 rw[e4]at ha
 have HA:=hid ha;clear ha e4;go_enter Tryz.func277,Tryz.ntmps277
 go_wp2
 go_ret;refine⟨nI ?_,rfl⟩;rw[HA.out,cW,cW];omega
theorem gN (e lp s:Int)(i:Nat)(w:World)(g:Nat)(v0 v1 v2:Value)(fz:Nat × Nat)(hg:w.heap[g]?=some (.cells #[v0,v1,v2] 265 fz))(hf:fz=(0,0))(hi:i<696)(_hne:13≠g)
  (T:aA w) (he:-3000≤e) (he2:e≤3000) (hl:-3000≤lp) (hl2:lp≤3000) (hs:-(e+lp+3)=s) :
  Calls Tryz.prog 273 #[.pointer (some ⟨g,0,none⟩),.int .i64 e,.int .i64 ((i:Int)-348),.int .i64 lp] w
   fun e w'=>e=.returned (.tuple #[])∧w'.heap[g]?=some (.cells #[.int .u64 (aH i),.int .u64 (aR i),.int .i64 s] 265 (0,0))∧aD (· = g) w w':=by
 subst hf;obtain⟨t0,t1⟩:=T.p10 i hi;rw[Nat.mul_comm]at t0 t1
 have c0:=cell_of_row w g 0 _ _ _ hg;have c1:=cell_of_row w g 1 _ _ _ hg;have c2:=cell_of_row w g 2 _ _ _ hg;have z0:=frozen_of_row w g 0 _ _ hg;have z1:=frozen_of_row w g 1 _ _ hg;have z2:=frozen_of_row w g 2 _ _ hg;generalize aH i=H at *
 generalize aR i=L at *
 clear T;have HG:=hid hg;clear hg;simp at c0 c1 c2;go_enter Tryz.func273,Tryz.ntmps273
 go_wp2
 go_end0
 refine⟨rfl,?_,(((aD.refl (· = g) w).setCell ⟨g,0,none⟩ _ (fun _=>rfl)).setCell ⟨g,1,none⟩ _ (fun _=>rfl)).setCell ⟨g,2,none⟩ _ (fun _=>rfl)⟩;rw[heap_setCell_same _ _ _ _ _ _ (heap_setCell_same _ _ _ _ _ _ (heap_setCell_same _ _ _ _ _ _ HG.out))];simp
end Go.Proofs.YtcfgbdhpcboikaaGreatDoor
