/-
policy.link and refs.Escape: what they answer.
-/
import Derived.Test.YtcfgbdhpcboikaaGreatDoorLinkW
import Derived.Test.YtcfgbdhpcboikaaGreatDoorAtofC
import Derived.Test.YtcfgbdhpcboikaaGreatDoorDecV
namespace Go.Proofs.YtcfgbdhpcboikaaGreatDoor
open Go.Lib (hid)
set_option maxHeartbeats 4000000
set_option maxRecDepth 100000
open Go.RowKit
theorem kH {n:Nat}:n≤n:=Nat.le_refl n
theorem rZ {a w v:World}(h:Go.RowKit.Hid (Go.RowKit.Below a.heap.size a w))(b:Go.RowKit.Below w.heap.size w v):Go.RowKit.Hid (Go.RowKit.Below a.heap.size a v):=hid (h.out.trans (b.mono h.out.size))
def dT (zs:List ByteArray)(l:List UInt8):Bool:=match fP l with
 | none=>true
 | some w=>Lib.containsS zs ⟨w.toArray⟩
def pN (w:World)(g off:Nat)(zs:List ByteArray):Prop:=∀j,j<zs.length→w.cell? ⟨g,off+j,none⟩=some (.string (zs.getD j ByteArray.empty))
theorem pN.below {w w':World}{g off B:Nat}{zs:List ByteArray}(h:pN w g off zs)(hb:Below B w w')(hg:g<B):pN w' g off zs:=by
 intro j hj;rw[hb.cell (p:=⟨g,off+j,none⟩) hg];exact h j hj
theorem xO (l:List UInt8):(cM l).length≤3*l.length:=Nat.le_trans (aLO l).length_le (tB l)
theorem aCU (s:ByteArray)(hs:s.size≤1000000000)(g off n c:Nat)(zs:List ByteArray)(hn:zs.length=n)(hn9:n≤1000)(w:World)(T:aA w)(hz:Hid (pN w g off zs))(hg:g<w.heap.size)(b:Bool)(hb:Hid (dT zs (cM s.data.toList)=b)) :
  Calls Tryz.prog 143 #[.string s,.slice (some ⟨g,off,none⟩) n c] w fun e w'=>e=.returned (.tuple #[.string ⟨(cM s.data.toList).toArray⟩,.bool b])∧Below w.heap.size w w':=by
 have HT:=hid T;clear T;have hl:=xO s.data.toList;have hl2:s.data.toList.length=s.size:=rfl;have hsz:(⟨(cM s.data.toList).toArray⟩:ByteArray).size<4294967281:=by rw[jP];omega
 have HSZ:=hid hsz;clear hsz hl hl2;obtain⟨L,hL⟩:∃L,cM s.data.toList=L:=⟨_,rfl⟩
 have K:=fun w T=>aEt s hs w T
 rw[hL]at K HSZ
 have HK:=hid K;have HB:=hid (show dT zs L=b by rw[←hL];exact hb.out);rw[hL];clear K hL hb;go_enter Tryz.func143,Tryz.ntmps143
 go_wp2_with fail
 refine(HK.out w HT.out).mono ?_;rintro e W1 ⟨rfl,B1⟩;have HB1:=hid B1;have HT1:=hid (HT.out.below HB1.out kH);clear B1;have S:=aBR ⟨L.toArray⟩ HSZ.out W1 HT1.out;have hb:=HB.out;unfold dT at hb;cases hsc:fP L with
 | none =>
  rw[show iF (⟨L.toArray⟩:ByteArray).data.toList=.tuple #[.string ⟨#[]⟩,.bool false]from gQ hsc]at S
  have HS:=hid S;rw[hsc]at hb
  subst hb;clear S hsc;go_wp2_with fail
  refine HS.out.mono ?_;rintro e W2 ⟨rfl,B2⟩;have HB2:=rZ HB1 B2;clear B2;go_wp2
  go_ret2;exact⟨rfl,HB2.out⟩
 | some x =>
  rw[show iF (⟨L.toArray⟩:ByteArray).data.toList=.tuple #[.string ⟨x.toArray⟩,.bool true]from lD hsc]at S
  have HS:=hid S;rw[hsc]at hb
  have HBX:Hid (Lib.containsS zs ⟨x.toArray⟩=b):=hb;clear S hsc hb;go_wp2_with fail
  refine HS.out.mono ?_;rintro e W2 ⟨rfl,B2⟩;have HB2:=rZ HB1 B2;clear B2;have hz2:Hid (pN W2 g off zs):=hz.out.below HB2.out hg;have C:=Tryz.slices_Contains_string g off n c zs ⟨x.toArray⟩ W2 (by omega) (by omega) hz2.out;rw[List.take_of_length_le (by omega),HBX.out]at C
  have HC:=hid C;clear C;go_wp2_with fail
  refine HC.out.mono ?_;rintro e W3 ⟨rfl,rfl⟩;go_wp2
  all_goals
   go_ret2;exact⟨rfl,HB2.out⟩
theorem aEZ (old new:List UInt8)(h:1≤old.length):∀(k:Nat) (s:List UInt8),(Lib.replaceK old new k s).length≤s.length+k*new.length:=by
 intro k;induction k with
 | zero=>intro s;simp[Lib.replaceK]
 | succ k ih =>
  intro s;rw[Nat.succ_mul];by_cases hi:Lib.index s old=-1
  ·unfold Lib.replaceK;rw[if_pos (by rw[hi];rfl)];omega
  ·have hge:=Lib.index_ge s old;obtain⟨i,hi'⟩:∃i:Nat,Lib.index s old=i:=⟨(Lib.index s old).toNat,by omega⟩
   rw[Lib.replaceK_hit old new k s i hi'];have:=ih (s.drop (i+old.length));have hr:=Lib.index_room s old (by omega);rw[List.length_append,List.length_append,List.length_take];rw[List.length_drop]at this
   omega
theorem aCx (s old new:ByteArray)(h:1≤old.size):(Lib.replaceAll s.data.toList old.data.toList new.data.toList).length≤s.size*(1+new.size):=by
 unfold Lib.replaceAll Lib.replace;have h1:=Lib.countB_le old h s.size s kH;have e1:s.size=s.data.toList.length:=rfl;have e2:new.size=new.data.toList.length:=rfl;split
 ·rw[e1,Nat.mul_add];omega
 ·have hn:Lib.replaceNum s.data.toList old.data.toList (-1)=Lib.count s.data.toList old.data.toList:=by
   unfold Lib.replaceNum;rw[if_pos (Or.inl (by omega))]
  rw[hn];have h2:=aEZ old.data.toList new.data.toList h (Lib.count s.data.toList old.data.toList) s.data.toList;have h3:Lib.count s.data.toList old.data.toList≤s.size:=h1;have h4:Lib.count s.data.toList old.data.toList*new.data.toList.length≤s.size*new.data.toList.length:=Nat.mul_le_mul_right _ h3;rw[Nat.mul_add,e2];omega
def nU:ByteArray:=⟨#[38,97,109,112,59]⟩
def bNb:ByteArray:=⟨#[38,110,98,115,112,59]⟩
def bLt:ByteArray:=⟨#[38,108,116,59]⟩
def bGt:ByteArray:=⟨#[38,103,116,59]⟩
def bQ:ByteArray:=⟨#[38,113,117,111,116,59]⟩
def dL (s old new:ByteArray):ByteArray:=⟨(Lib.replaceAll s.data.toList old.data.toList new.data.toList).toArray⟩
theorem vS (s old new:ByteArray)(h:1≤old.size):(dL s old new).size≤s.size*(1+new.size):=aCx s old new h
theorem uL (s old new:ByteArray)(w:World)(T:aA w)(hs:s.size<4294967281)(h1:1≤old.size)(h2:new.size≤10) :
  Calls Tryz.prog 80 #[.string s,.string old,.string new] w fun e w'=>e=.returned (.string (dL s old new))∧Below w.heap.size w w':=by
 obtain⟨m,hm⟩:=T.most;refine Tryz.strings_ReplaceAll s old new m w hs hm h1 ?_;have h3:=Lib.countB_le old h1 s.size s kH;have h4:Lib.countB s old*new.size≤s.size*10:=Nat.mul_le_mul h3 h2;omega
def gZ (s:ByteArray):ByteArray:=dL (dL (dL (dL (dL s ⟨#[38]⟩ nU) ⟨#[194,160]⟩ bNb) ⟨#[60]⟩ bLt) ⟨#[62]⟩ bGt) ⟨#[34]⟩ bQ
theorem aGo (s:ByteArray)(hs:s.size≤4000000)(w:World)(T:aA w):Calls Tryz.prog 84 #[.string s,.bool true] w fun e w'=>e=.returned (.string (gZ s))∧Below w.heap.size w w':=by
 have a1:=vS s ⟨#[38]⟩ nU (by decide);have a2:=vS (dL s ⟨#[38]⟩ nU) ⟨#[194,160]⟩ bNb (by decide);have a3:=vS (dL (dL s ⟨#[38]⟩ nU) ⟨#[194,160]⟩ bNb) ⟨#[60]⟩ bLt (by decide);have a4:=vS (dL (dL (dL s ⟨#[38]⟩ nU) ⟨#[194,160]⟩ bNb) ⟨#[60]⟩ bLt) ⟨#[62]⟩ bGt (by decide);have e1:nU.size=5:=rfl;have e2:bNb.size=6:=rfl;have e3:bLt.size=4:=rfl;have e4:bGt.size=4:=rfl;rw[e1]at a1
 rw[e2]at a2
 rw[e3]at a3
 rw[e4]at a4
 have HT:=hid T;have R1:=hid (fun w T=>uL s ⟨#[38]⟩ nU w T (by omega) (by decide) (by decide));have R2:=hid (fun w T=>uL (dL s ⟨#[38]⟩ nU) ⟨#[194,160]⟩ bNb w T (by omega) (by decide) (by decide));have R3:=hid (fun w T=>uL (dL (dL s ⟨#[38]⟩ nU) ⟨#[194,160]⟩ bNb) ⟨#[60]⟩ bLt w T (by omega) (by decide) (by decide));have R4:=hid (fun w T=>uL (dL (dL (dL s ⟨#[38]⟩ nU) ⟨#[194,160]⟩ bNb) ⟨#[60]⟩ bLt) ⟨#[62]⟩ bGt w T (by omega) (by decide) (by decide));have R5:=hid (fun w T=>uL (dL (dL (dL (dL s ⟨#[38]⟩ nU) ⟨#[194,160]⟩ bNb) ⟨#[60]⟩ bLt) ⟨#[62]⟩ bGt) ⟨#[34]⟩ bQ w T (by omega) (by decide) (by decide));have hE:gZ s=dL (dL (dL (dL (dL s ⟨#[38]⟩ nU) ⟨#[194,160]⟩ bNb) ⟨#[60]⟩ bLt) ⟨#[62]⟩ bGt) ⟨#[34]⟩ bQ:=rfl;rw[hE];clear a1 a2 a3 a4 e1 e2 e3 e4 T hE;generalize dL s ⟨#[38]⟩ nU=s1 at *
 generalize dL s1 ⟨#[194,160]⟩ bNb=s2 at *
 generalize dL s2 ⟨#[60]⟩ bLt=s3 at *
 generalize dL s3 ⟨#[62]⟩ bGt=s4 at *
 generalize dL s4 ⟨#[34]⟩ bQ=s5 at *
 unfold nU at R1;unfold bNb at R2;unfold bLt at R3;unfold bGt at R4;unfold bQ at R5;go_enter Tryz.func84,Tryz.ntmps84
 go_wp2_with fail
 refine(R1.out w HT.out).mono ?_;rintro e W1 ⟨rfl,B1⟩;have HB1:=hid B1;have HT1:=hid (HT.out.below HB1.out kH);clear B1;go_wp2_with fail
 refine(R2.out W1 HT1.out).mono ?_;rintro e W2 ⟨rfl,B2⟩;have HB2:=rZ HB1 B2;have HT2:=hid (HT.out.below HB2.out kH);clear B2;go_wp2_with fail
 refine(R3.out W2 HT2.out).mono ?_;rintro e W3 ⟨rfl,B3⟩;have HB3:=rZ HB2 B3;have HT3:=hid (HT.out.below HB3.out kH);clear B3;go_wp2_with fail
 refine(R4.out W3 HT3.out).mono ?_;rintro e W4 ⟨rfl,B4⟩;have HB4:=rZ HB3 B4;have HT4:=hid (HT.out.below HB4.out kH);clear B4;go_wp2_with fail
 refine(R5.out W4 HT4.out).mono ?_;rintro e W5 ⟨rfl,B5⟩;have HB5:=rZ HB4 B5;clear B5;go_wp2
 go_ret;exact⟨rfl,HB5.out⟩
open Go.RowKit
def bZ (e n v:ByteArray)(t:ByteArray)(ok:Bool):Prop:=∀w,aA w→Calls Tryz.prog 83 #[.string e,.string n,.string v] w fun x w'=>x=.returned (.tuple #[.string t,.bool ok])∧Below w.heap.size w w'
theorem aKH (e n v:ByteArray)(k:Int)(hk:Hid (aP e k))(h:k<2∨k=14)(w:World) :
  Calls Tryz.prog 37 #[.string e,.string n,.string v] w fun x w'=>x=.returned (.tuple #[.string ⟨#[]⟩,.bool false])∧Below w.heap.size w w':=by
 rcases h with h|h
 ·have l1:decide (k<2)=true:=by simpa using h
  clear h;go_enter Tryz.func37,Tryz.ntmps37
  go_wp2_with fail
  refine(hk.out _).mono ?_;rintro x w' ⟨rfl,rfl⟩;go_wp2
  go_ret2;exact⟨rfl,Below.refl _ _⟩
 ·subst h;go_enter Tryz.func37,Tryz.ntmps37
  go_wp2_with fail
  refine(hk.out _).mono ?_;rintro x w' ⟨rfl,rfl⟩;go_wp2
  go_ret2;exact⟨rfl,Below.refl _ _⟩
theorem aFq (e n v t:ByteArray)(k:Int)(hk:Hid (aP e k))(h2:¬k<2)(h14:(k==14)=false)(hF:Hid (bZ e n v t false))(w:World)(T:aA w) :
  Calls Tryz.prog 37 #[.string e,.string n,.string v] w fun x w'=>x=.returned (.tuple #[.string ⟨#[]⟩,.bool false])∧Below w.heap.size w w':=by
 have l1:decide (k<2)=false:=by simpa using h2
 have HT:=hid T;clear h2 T;go_enter Tryz.func37,Tryz.ntmps37
 go_wp2_with fail
 refine(hk.out _).mono ?_;rintro x w' ⟨rfl,rfl⟩;go_wp2_with fail
 refine(hF.out _ HT.out).mono ?_;rintro x W1 ⟨rfl,B1⟩;have HB1:=hid B1;clear B1;go_wp2
 go_ret2;exact⟨rfl,HB1.out⟩
theorem aIe (e n v t:ByteArray)(k:Int)(hk:Hid (aP e k))(h2:¬k<2)(h14:(k==14)=false)(hF:Hid (bZ e n v t true))(ht:t.size≤4000000)(hE:Hid (120<(gZ t).size))(w:World)(T:aA w) :
  Calls Tryz.prog 37 #[.string e,.string n,.string v] w fun x w'=>x=.returned (.tuple #[.string ⟨#[]⟩,.bool false])∧Below w.heap.size w w':=by
 have l1:decide (k<2)=false:=by simpa using h2
 have HT:=hid T;have hx:120<(gZ t).size:=hE.out;have E:=aGo t ht;generalize gZ t=u at hx E;have HEA:=hid E;clear h2 T E;go_enter Tryz.func37,Tryz.ntmps37
 go_wp2_with fail
 refine(hk.out _).mono ?_;rintro x w' ⟨rfl,rfl⟩;go_wp2_with fail
 refine(hF.out _ HT.out).mono ?_;rintro x W1 ⟨rfl,B1⟩;have HB1:=hid B1;have HT1:=hid (HT.out.below HB1.out kH);clear B1;go_wp2_with fail
 refine(HEA.out W1 HT1.out).mono ?_;rintro x W2 ⟨rfl,B2⟩;have HB2:=rZ HB1 B2;clear B2;have l2:decide ((120:Int)<(u.size:Int))=true:=by simp;omega
 go_wp2
 go_ret2;exact⟨rfl,HB2.out⟩
theorem aDi (e n v t:ByteArray)(k:Int)(hk:Hid (aP e k))(h2:¬k<2)(h14:(k==14)=false)(hF:Hid (bZ e n v t true))(ht:t.size≤4000000)(hE:Hid ((gZ t).size≤120))(w:World)(T:aA w) :
  Calls Tryz.prog 37 #[.string e,.string n,.string v] w fun x w'=>x=.returned (.tuple #[.string t,.bool true])∧Below w.heap.size w w':=by
 have l1:decide (k<2)=false:=by simpa using h2
 have HT:=hid T;have hx:(gZ t).size≤120:=hE.out;have E:=aGo t ht;generalize gZ t=u at hx E;have HEA:=hid E;clear h2 T E;go_enter Tryz.func37,Tryz.ntmps37
 go_wp2_with fail
 refine(hk.out _).mono ?_;rintro x w' ⟨rfl,rfl⟩;go_wp2_with fail
 refine(hF.out _ HT.out).mono ?_;rintro x W1 ⟨rfl,B1⟩;have HB1:=hid B1;have HT1:=hid (HT.out.below HB1.out kH);clear B1;go_wp2_with fail
 refine(HEA.out W1 HT1.out).mono ?_;rintro x W2 ⟨rfl,B2⟩;have HB2:=rZ HB1 B2;clear B2;have l2:decide ((120:Int)<(u.size:Int))=false:=by simp;omega
 go_wp2
 go_ret2;exact⟨rfl,HB2.out⟩
def dY:ByteArray:=⟨#[116,105,116,108,101]⟩
def kK:ByteArray:=⟨#[104,114,101,102]⟩
def sA:ByteArray:=⟨#[97]⟩
theorem aHm (e v:ByteArray)(hv:v.size≤1000000000):bZ e dY v ⟨(cT v.data.toList).toArray⟩ true:=by
 intro w T;have HX:=hid (wA v hv w T);clear T;unfold dY;go_enter Tryz.func83,Tryz.ntmps83
 go_wp2_with fail
 refine HX.out.mono ?_;rintro x W1 ⟨rfl,B1⟩;have HB1:=hid B1;clear B1;go_wp2
 go_ret2;exact⟨rfl,HB1.out⟩
open Go.RowKit
theorem aQz:(⟨#[97]⟩:ByteArray)++⟨#[32]⟩=⟨#[97,32]⟩:=by decide
theorem aIC:(⟨#[97,32]⟩:ByteArray)++⟨#[104,114,101,102]⟩=⟨#[97,32,104,114,101,102]⟩:=by decide
def mR:List ByteArray:=[⟨#[104,116,116,112]⟩,⟨#[104,116,116,112,115]⟩,⟨#[109,97,105,108,116,111]⟩]
theorem qL (v:ByteArray)(b:Bool)(hb:Hid (dT mR (cM v.data.toList)=b))(hv:v.size≤1000000000):bZ sA kK v ⟨(cM v.data.toList).toArray⟩ b:=by
 intro w T;have HT:=hid T;clear T;unfold sA kK;have c1:=aQz;have c2:=aIC;go_enter Tryz.func83,Tryz.ntmps83
 go_wp2_with fail
 have hB:Below w.heap.size w (w.alloc (.cells #[Value.string ⟨#[104,116,116,112]⟩,Value.string ⟨#[104,116,116,112,115]⟩,Value.string ⟨#[109,97,105,108,116,111]⟩] 9)):=(Below.refl _ w).alloc kH _;have hS:pN (w.alloc (.cells #[Value.string ⟨#[104,116,116,112]⟩,Value.string ⟨#[104,116,116,112,115]⟩,Value.string ⟨#[109,97,105,108,116,111]⟩] 9)) w.heap.size 0 mR:=by
  intro j hj;rw[Nat.zero_add,cell_of_row _ w.heap.size j _ 9 (0,0) (heap_alloc_new w _)];have:∀j<3,(#[Value.string ⟨#[104,116,116,112]⟩,Value.string ⟨#[104,116,116,112,115]⟩,Value.string ⟨#[109,97,105,108,116,111]⟩]:Array Value)[j]?=some (Value.string (mR.getD j ByteArray.empty)):=by
   intro j hj;match j,hj with
   | 0,_=>rfl
   | 1,_=>rfl
   | 2,_=>rfl
  exact this j hj
 refine(aCU v hv w.heap.size 0 3 3 mR rfl (by omega) _ (HT.out.below hB kH) hS (by simp) b hb).mono ?_;rintro x W1 ⟨rfl,B1⟩;have HB1:=hid (hB.trans (B1.mono (by simp)));clear B1 hB hS;go_wp2
 go_ret2;exact⟨rfl,HB1.out⟩
def v1:ByteArray:=⟨#[72,84,84,80,58,47,47,97]⟩
def v2:ByteArray:=⟨#[32,74,97,118,97,9,83,99,114,105,112,116,58,120]⟩
theorem aNT:cM v1.data.toList=v1.data.toList:=by decide +kernel
theorem aQX:dT mR (cM v1.data.toList)=true:=by decide +kernel
theorem aPA:(gZ v1).size≤120:=by decide +kernel
theorem aNU:cM v2.data.toList=[74,97,118,97,83,99,114,105,112,116,58,120]:=by decide +kernel
theorem aQY:dT mR (cM v2.data.toList)=false:=by decide +kernel
theorem aKh:fP [74,97,118,97,83,99,114,105,112,116,58,120]=some [106,97,118,97,115,99,114,105,112,116]:=by decide +kernel
theorem aGx:aP sA 4:=fun w=>kS sA w
theorem aME (w:World)(T:aA w):Calls Tryz.prog 37 #[.string sA,.string kK,.string v1] w fun x w'=>x=.returned (.tuple #[.string v1,.bool true])∧Below w.heap.size w w':=by
 have F:=qL v1 true (hid aQX) (by decide);rw[aNT]at F
 exact aDi sA kK v1 v1 4 (hid aGx) (by omega) rfl (hid F) (by decide) (hid aPA) w T
theorem aMF (w:World)(T:aA w):Calls Tryz.prog 37 #[.string sA,.string kK,.string v2] w fun x w'=>x=.returned (.tuple #[.string ⟨#[]⟩,.bool false])∧Below w.heap.size w w':=by
 have F:=qL v2 false (hid aQY) (by decide);exact aFq sA kK v2 _ 4 (hid aGx) (by omega) rfl (hid F) w T
theorem aLP (w:World)(T:aA w):Calls Tryz.prog 34 #[.string v2] w fun x w'=>x=.returned (.string ⟨#[74,97,118,97,83,99,114,105,112,116,58,120]⟩)∧Below w.heap.size w w':=by
 have L:=aEt v2 (by decide) w T;rw[aNU]at L
 exact L
theorem aHW (w:World)(T:aA w):Calls Tryz.prog 30 #[.string ⟨#[74,97,118,97,83,99,114,105,112,116,58,120]⟩] w fun x w'=>x=.returned (.tuple #[.string ⟨#[106,97,118,97,115,99,114,105,112,116]⟩,.bool true])∧Below w.heap.size w w':=by
 have S:=aBR ⟨#[74,97,118,97,83,99,114,105,112,116,58,120]⟩ (by decide) w T;rw[show iF (⟨#[74,97,118,97,83,99,114,105,112,116,58,120]⟩:ByteArray).data.toList=.tuple #[.string ⟨#[106,97,118,97,115,99,114,105,112,116]⟩,.bool true]from lD aKh]at S
 exact S
open Go.RowKit
def pF:ByteArray:=⟨#[108,97,110,103]⟩
def vV:ByteArray:=⟨#[100,105,114]⟩
def yJ:ByteArray:=⟨#[115,114,99]⟩
def eR:ByteArray:=⟨#[105,109,103]⟩
def yF:ByteArray:=⟨#[97,108,116]⟩
def lR:ByteArray:=⟨#[104,101,105,103,104,116]⟩
def oI:ByteArray:=⟨#[119,105,100,116,104]⟩
def sOl:ByteArray:=⟨#[111,108]⟩
def oH:ByteArray:=⟨#[115,116,97,114,116]⟩
def sTd:ByteArray:=⟨#[116,100]⟩
def sTh:ByteArray:=⟨#[116,104]⟩
def gO:ByteArray:=⟨#[99,111,108,115,112,97,110]⟩
def gP:ByteArray:=⟨#[114,111,119,115,112,97,110]⟩
def dE:ByteArray:=⟨#[109,101,116,101,114]⟩
def fK:ByteArray:=⟨#[112,114,111,103,114,101,115,115]⟩
def rT:ByteArray:=⟨#[109,97,120]⟩
def lC:ByteArray:=⟨#[118,97,108,117,101]⟩
def vW:ByteArray:=⟨#[104,105,103,104]⟩
def aAK:ByteArray:=⟨#[108,111,119]⟩
def aAL:ByteArray:=⟨#[109,105,110]⟩
def sX:ByteArray:=⟨#[97,117,116,111]⟩
def yG:ByteArray:=⟨#[108,116,114]⟩
def yH:ByteArray:=⟨#[114,116,108]⟩
def aQ3:ByteArray:=⟨#[104,116,116,112]⟩
def aQa:ByteArray:=⟨#[104,116,116,112,115]⟩
inductive FK where
 | text|lang|dir|linkA|linkI|whole (lo hi:Nat)|fix|none
deriving DecidableEq
def fN (e n:ByteArray):Bool:=(decide (e=dE)&&(decide (n=rT)||decide (n=lC)||decide (n=vW)||decide (n=aAK)||decide (n=aAL)))||(decide (e=fK)&&(decide (n=rT)||decide (n=lC)))
def aY (e n:ByteArray):FK :=
 if n=dY then .text else if n=pF then .lang else if n=vV then .dir
 else if e=sA∧n=kK then .linkA
 else if e=eR∧n=yJ then .linkI
 else if e=eR∧n=yF then .text
 else if e=eR∧(n=lR∨n=oI)then .whole 0 9999
 else if e=sOl∧n=oH then .whole 0 999999
 else if (e=sTd∨e=sTh)∧(n=gO∨n=gP)then .whole 1 1000
 else if fN e n=true then .fix
 else .none
def uD (c:UInt8):Bool:=(decide (97≤c.toNat)&&decide (c.toNat≤122))||(decide (65≤c.toNat)&&decide (c.toNat≤90))
def pB (c:UInt8)(i:Nat):Bool:=uD c||(decide (0<i)&&(decide (c.toNat=45)||(decide (48≤c.toNat)&&decide (c.toNat≤57))))
def zI (l:List UInt8):Prop:=∀j (h:j<l.length),pB l[j] j=true
def mM (v:ByteArray):Prop:=zI v.data.toList∧1≤v.size∧v.size≤16
def aCg (v:ByteArray):Prop:=v=sX∨v=yG∨v=yH
def aQm (lo hi:Nat)(v:ByteArray):Prop:=∃x,eJ v lo hi x true
def dB (v:ByteArray):ByteArray:=⟨(bK v.data.toList).toArray⟩
def tT:List ByteArray:=[aQ3,aQa]
structure aGV (v t:ByteArray):Prop where
 sz:t.size≤25
 num:bX t.data.toList=true
 yes:∀w,aA w→Calls Tryz.prog 20 #[.string v] w fun e w'=>e=.returned (.tuple #[.string t,.bool true])∧Below w.heap.size w w'
 again:∀w,aA w→Calls Tryz.prog 20 #[.string t] w fun e w'=>e=.returned (.tuple #[.string t,.bool true])∧Below w.heap.size w w'
def aGW (v:ByteArray):Prop:=∀w,aA w→Calls Tryz.prog 20 #[.string v] w fun e w'=>e=.returned (.tuple #[.string ⟨#[]⟩,.bool false])∧Below w.heap.size w w'
def uU (k:FK)(v:ByteArray):Option ByteArray→Prop
 | some t=>match k with
  | .text=>t=gE v
  | .lang=>mM v∧t=v
  | .dir=>aCg (dB v)∧t=dB v
  | .linkA=>dT mR (cM v.data.toList)=true∧t=lP v
  | .linkI=>dT tT (cM v.data.toList)=true∧t=lP v
  | .whole lo hi=>aQm lo hi v∧t=v
  | .fix=>aGV v t
  | .none=>False
 | none=>match k with
  | .text=>False
  | .lang=>¬mM v
  | .dir=>¬aCg (dB v)
  | .linkA=>dT mR (cM v.data.toList)=false
  | .linkI=>dT tT (cM v.data.toList)=false
  | .whole lo hi=>∃x,eJ v lo hi x false
  | .fix=>aGW v
  | .none=>True
def mC (e n v:ByteArray)(o:Option ByteArray):Prop :=
 match o with
 | some t=>¬(aW e.data.toList<2∨aW e.data.toList=14)∧uU (aY e n) v (some t)∧(gZ t).size≤120
 | none=>(aW e.data.toList<2∨aW e.data.toList=14)∨uU (aY e n) v none∨∃t,uU (aY e n) v (some t)∧120<(gZ t).size
open Go.RowKit
def tV (l:List UInt8)(k:Nat):Prop:=k≤l.length∧∀j (h:j<l.length),j<k→pB l[j] j=true
theorem tV.step {l:List UInt8}{k:Nat}(h:tV l k)(hk:k<l.length)(hb:pB l[k] k=true):tV l (k+1) :=
 ⟨hk,fun j hj hlt=>by
  rcases Nat.lt_or_ge j k with h1|h1
  ·exact h.2 j hj h1
  ·obtain rfl:j=k:=by omega
   exact hb⟩
theorem aLM {l:List UInt8}{k:Nat}(hk:k<l.length)(hb:pB l[k] k=false):¬zI l:=fun h=>by
 have:=h k hk;rw[hb]at this
 cases this
theorem aEs (c:UInt8)(d k:Nat)(h:c.toNat=d):pB c k=(((decide (97≤d)&&decide (d≤122))||(decide (65≤d)&&decide (d≤90)))||(decide (0<k)&&(decide (d=45)||(decide (48≤d)&&decide (d≤57))))):=by
 unfold pB uD;rw[h]
structure aAk (v:ByteArray) (k d:Nat):Prop where
 yes:(((decide (97≤d)&&decide (d≤122))||(decide (65≤d)&&decide (d≤90)))||(decide (0<k)&&(decide (d=45)||(decide (48≤d)&&decide (d≤57)))))=true→tV v.data.toList (k+1)
 no:(((decide (97≤d)&&decide (d≤122))||(decide (65≤d)&&decide (d≤90)))||(decide (0<k)&&(decide (d=45)||(decide (48≤d)&&decide (d≤57)))))=false→¬mM v
theorem aAk.of (v:ByteArray)(k d:Nat)(hk:k<v.data.toList.length)(h:tV v.data.toList k)(hd:v.data.toList[k].toNat=d):aAk v k d :=
 ⟨fun hy=>by rw[←aEs _ d k hd]at hy;exact h.step hk hy,fun hn hp=>by rw[←aEs _ d k hd]at hn;exact aLM hk hn hp.1⟩
theorem aLL (v:ByteArray)(hv:v.size≤140737488355328)(b:Bool)(hb:Hid (b=true↔mM v))(w:World):Calls Tryz.prog 142 #[.string v] w fun e w'=>e=.returned (.bool b)∧Below w.heap.size w w':=by
 obtain⟨cap,W,hrun,hbel,hby,hcap,hsz⟩:=qI v w;have HB:=hid hbel;have HY:Hid (bP W w.heap.size 0 v.data.toList):=hby;have HNO:Hid (¬mM v→b=false):=fun h=>by
  cases b with
  | false=>rfl
  | true=>exact absurd (hb.out.1 rfl) h
 clear hbel hby hcap hsz;go_enter Tryz.func142,Tryz.ntmps142
 go_wp2
 clear hrun;go_loop [2,9] (fun r i=>r=.bool false∧∃k:Nat,i=.int .i64 k∧Hid (tV v.data.toList k)) (fun _ i=>v.size-(intOf i).toNat)
 case atStart=>exact⟨rfl,0,rfl,hid ⟨Nat.zero_le _,fun j hj h0=>absurd h0 (by omega)⟩⟩
 case round =>
  obtain⟨rfl,k,rfl,hR⟩:=hrel;rcases Nat.lt_or_ge k v.size with hlt|hge
  ·have hcell:=HY.out k hlt;obtain⟨d,hd⟩:∃d,(v.data.toList[k]'hlt).toNat=d:=⟨_,rfl⟩
   have HS:=hid (aAk.of v k d hlt hR.out hd);have hd8:d<256:=by rw[←hd];exact(v.data.toList[k]'hlt).toNat_lt
   rw[hd,Nat.zero_add]at hcell
   clear hd;have hcases:(97≤d∧d≤122)∨(65≤d∧d≤90)∨d=45∨(48≤d∧d≤57)∨(d<45∨(45<d∧d<48)∨(57<d∧d<65)∨(90<d∧d<97)∨122<d):=by omega
   rcases hcases with⟨h,h2⟩|⟨h,h2⟩|rfl|⟨h,h2⟩|h
   ·have HF:=hid (HS.out.yes (by simp;omega));have l1:decide ((d:Int)≤122)=true:=by simp;omega
    go_wp2
    go_round
    case rel=>exact⟨rfl,k+1,by go_num,HF⟩
    case measure=>simp[intOf];omega
   ·have HF:=hid (HS.out.yes (by simp;omega));have l1:decide ((d:Int)≤90)=true:=by simp;omega
    go_wp2
    go_round
    case rel=>exact⟨rfl,k+1,by go_num,HF⟩
    case measure=>simp[intOf];omega
   ·rcases Nat.eq_zero_or_pos k with hk0|hk0
    ·subst hk0;have HF:=hid (HNO.out (HS.out.no (by simp)));go_wp2
     go_ret;exact⟨by rw[HF.out];rfl,HB.out⟩
    ·have HF:=hid (HS.out.yes (by simp;omega));have tk:((k:Int)==0)=false:=by rw[beq_eq_false_iff_ne];omega
     go_wp2
     go_round
     case rel=>exact⟨rfl,k+1,by go_num,HF⟩
     case measure=>simp[intOf];omega
   ·have t45:((d:Int)==45)=false:=by rw[beq_eq_false_iff_ne];omega
    have t45':((d:Int) !=45)=true:=by rw[bne_iff_ne];omega
    have l1:decide ((d:Int)≤57)=true:=by simp;omega
    rcases Nat.eq_zero_or_pos k with hk0|hk0
    ·subst hk0;have HF:=hid (HNO.out (HS.out.no (by simp;omega)));go_wp2
     go_ret;exact⟨by rw[HF.out];rfl,HB.out⟩
    ·have HF:=hid (HS.out.yes (by simp;omega));have tk:((k:Int)==0)=false:=by rw[beq_eq_false_iff_ne];omega
     go_wp2
     go_round
     case rel=>exact⟨rfl,k+1,by go_num,HF⟩
     case measure=>simp[intOf];omega
   ·have t45:((d:Int)==45)=false:=by rw[beq_eq_false_iff_ne];omega
    have t45':((d:Int) !=45)=true:=by rw[bne_iff_ne];omega
    have HF:=hid (HNO.out (HS.out.no (by simp;omega)));rcases Nat.eq_zero_or_pos k with hk0|hk0
    ·subst hk0;rcases h with h|⟨h,h2⟩|⟨h,h2⟩|⟨h,h2⟩|h
     all_goals
      try have l1:decide ((d:Int)≤122)=false:=by simp;omega
      try have l2:decide ((d:Int)≤90)=false:=by simp;omega
      try have l3:decide ((d:Int)≤57)=false:=by simp;omega
      go_wp2
      go_ret;exact⟨by rw[HF.out];rfl,HB.out⟩
    ·have tk:((k:Int)==0)=false:=by rw[beq_eq_false_iff_ne];omega
     rcases h with h|⟨h,h2⟩|⟨h,h2⟩|⟨h,h2⟩|h
     all_goals
      try have l1:decide ((d:Int)≤122)=false:=by simp;omega
      try have l2:decide ((d:Int)≤90)=false:=by simp;omega
      try have l3:decide ((d:Int)≤57)=false:=by simp;omega
      go_wp2
      go_ret;exact⟨by rw[HF.out];rfl,HB.out⟩
  ·have hall:zI v.data.toList:=fun j hj=>hR.out.2 j hj (by have:v.data.toList.length=v.size:=rfl;omega)
   have HX:Hid (1≤v.size∧v.size≤16→b=true):=fun h=>hb.out.2 ⟨hall,h.1,h.2⟩
   have HN:Hid (¬(1≤v.size∧v.size≤16)→b=false):=fun h=>HNO.out fun hp=>h hp.2
   clear hall;rcases Nat.lt_or_ge v.size 1 with h1|h1
   ·have HF:=hid (HN.out (by omega));go_wp2
    go_ret;exact⟨by rw[HF.out];rfl,HB.out⟩
   ·rcases Nat.lt_or_ge 16 v.size with h2|h2
    ·have HF:=hid (HN.out (by omega));have l16:decide ((v.size:Int)≤16)=false:=by simp;omega
     go_wp2
     go_ret;exact⟨by rw[HF.out];rfl,HB.out⟩
    ·have HF:=hid (HX.out ⟨h1,h2⟩);have l16:decide ((v.size:Int)≤16)=true:=by simp;omega
     go_wp2
     go_ret;exact⟨by rw[HF.out];rfl,HB.out⟩
open Go.RowKit
theorem aDU (s:ByteArray)(hn:bX s.data.toList=true):aGU s:=by
 obtain⟨neg,p0,q,ev,hs,hsg,N,hE,SP⟩:=aHu s hn;have hlt:=N.lt;have hle:=N.le;have hch:=vQ s p0 q N q (Nat.le_of_lt hlt) kH;have hpl:=kV s p0 q (Nat.le_of_lt hlt) hle;have RD:wO s (aL (aK s p0 q)).mant ((aL (aK s p0 q)).expo ev) neg (aL (aK s p0 q)).trunc:=fun w=>aAH s neg p0 q w hs hsg N ev hE
 have rb:=aBF s p0 q N q (Nat.le_of_lt hlt) kH;have so:=aFf neg (aK s p0 q) (by omega) hch;have few:=aC5 (aK s p0 q) hch;have SF:∀w B,aC w B aCc→Calls Tryz.prog 240 #[.pointer (some ⟨B,0,none⟩),.string s] w fun e w'=>e=.returned (.bool true)∧aC w' B (aE5 neg (aK s p0 q) ev)∧aD (· = B) w w' :=
  fun w B h=>aOy B s neg p0 q w h hs hsg N ev hE
 have hm:=rb.mant;have h19:=aMU (aL (aK s p0 q)).ndM (by have:=rb.ndM;omega);refine aKX s _ _ neg _ hs SP RD (by omega) (aE5 neg (aK s p0 q) ev) ⟨so.len,?_,so.dig,so.head⟩ so.neg ?_ SF
 ·have:=so.le;show(iX neg (aK s p0 q)).nd≤800;omega
 ·intro hm0 ht;have h20:20≤(aL (aK s p0 q)).nd:=by
   refine Nat.le_of_not_lt fun h=>?_
   rw[few (by omega)]at ht
   cases ht
  refine⟨?_,?_⟩
  ·show 1≤(iX neg (aK s p0 q)).nd;have:=so.nd;omega
  ·unfold RS.expo;rw[if_neg hm0];have:=rb.ndM;show(aL (aK s p0 q)).place+ev-_+19=(aL (aK s p0 q)).place+ev;omega
open Go.RowKit
theorem aGr (w0:World)(T0:aA w0)(v:ByteArray)(hv:v.size≤maxLen):(∃t,aGV v t)∨aGW v:=by
 rcases aJJ aDU v hv with⟨neg,b,hb,hp⟩|h
 ·obtain⟨t,ht⟩:=aGH neg b hb;refine .inl ⟨t,ht.sz,?_,fun w T=>aHi v _ t w T hp ht.pr,ht.fx⟩;cases hn:bX t.data.toList with
  | true=>rfl
  | false =>
   have h1:=fun w (_:aA w)=>aAG t w (by have:=ht.sz;unfold maxLen;omega) hn
   have h2:=aBe t w0 T0 (fun w T=>dK (h1 w T));have h3:=ht.fx w0 T0;have:=sE (by kernel_rfl) h3 h2;simp at this
 ·exact .inr fun w T=>aBe v w T h
open Go.RowKit
def aQn:List ByteArray:=[sX,yG,yH]
structure aAW (sm:ByteArray) (B k:Nat) (w wx:World):Prop where
 le:k≤3
 no1:1≤k→sm≠sX
 no2:2≤k→sm≠yG
 no3:3≤k→sm≠yH
 str:pN wx B 0 aQn
 bel:Below B w wx
 lt:B<wx.heap.size
structure aO0 (sm t:ByteArray) (b:Bool):Prop where
 yes:aCg sm→sm=t∧true=b
 no:¬aCg sm→t=⟨#[]⟩∧b=false
theorem qZ {sm c:ByteArray}(l:List UInt8)(h:sm≠c)(hl:c.data.toList=l):(sm.toList==l)=false:=by
 rw[beq_eq_false_iff_ne,toList_data,←hl];exact fun e=>h (fI e)
theorem pQ {sm c:ByteArray}(h:sm≠c):¬sm.toList=c.toList:=fun e=>h (fI (by rw[toList_data,toList_data]at e;exact e))
theorem aEg (e v t:ByteArray)(b:Bool)(hv:v.size≤140737488355328)(hE:Hid (aO0 (dB v) t b)):bZ e vV v t b:=by
 intro w T;have S:=fun W=>aC8 v hv W
 rw[show(⟨(bK v.data.toList).toArray⟩:ByteArray)=dB v from rfl]at S
 generalize dB v=sm at *
 have HS:=hid S;clear S T;unfold vV;go_enter Tryz.func83,Tryz.ntmps83
 go_upto_region 8 with fail
 have H0:Hid (aAW sm w.heap.size 0 w (w.alloc (.cells #[Value.string ⟨#[97,117,116,111]⟩,Value.string ⟨#[108,116,114]⟩,Value.string ⟨#[114,116,108]⟩] 9))):=by
  refine⟨by omega,by omega,by omega,by omega,?_,(Below.refl _ w).alloc kH _,by simp⟩;intro j hj;rw[Nat.zero_add,cell_of_row _ w.heap.size j _ 9 (0,0) (heap_alloc_new w _)];have:∀j<3,(#[Value.string ⟨#[97,117,116,111]⟩,Value.string ⟨#[108,116,114]⟩,Value.string ⟨#[114,116,108]⟩]:Array Value)[j]?=some (Value.string (aQn.getD j ByteArray.empty)):=by
   intro j hj;match j,hj with
   | 0,_=>rfl
   | 1,_=>rfl
   | 2,_=>rfl
  exact this j hj
 go_loopw [6,7,24] (fun r6 r7 i wx=>r6=.string ⟨#[]⟩∧r7=.bool false∧∃k:Nat,i=.int .i64 k∧Hid (aAW sm w.heap.size k w wx)) (fun _ _ i _=>3-(intOf i).toNat)
 case atStart=>exact⟨rfl,rfl,0,rfl,H0⟩
 case round =>
  obtain⟨rfl,rfl,k,rfl,hD⟩:=hrel;have hk:=hD.out.le;have hcases:k=0∨k=1∨k=2∨k=3:=by omega
  rcases hcases with rfl|rfl|rfl|rfl
  ·have hcell:wr.cell? ⟨w.heap.size,0,none⟩=some (.string ⟨#[97,117,116,111]⟩):=hD.out.str 0 (by decide);by_cases hs:sm=sX
   ·obtain⟨rfl,rfl⟩:=hE.out.yes (.inl hs);subst hs;unfold sX at *
    go_wp2_with fail
    refine(HS.out _).mono ?_;rintro x w1 ⟨rfl,B1⟩;have HB:=hid (hD.out.bel.trans (B1.mono (Nat.le_of_lt hD.out.lt)));clear B1;go_wp2
    go_ret2;exact⟨rfl,HB.out⟩
   ·have hn:=qZ [97,117,116,111] hs rfl;have HH:=hid hs;clear hs;go_wp2_with fail
    refine(HS.out _).mono ?_;rintro x w1 ⟨rfl,B1⟩;have HN:Hid (aAW sm w.heap.size 1 w w1):=⟨by omega,fun _=>HH.out,by omega,by omega,hD.out.str.below B1 hD.out.lt,hD.out.bel.trans (B1.mono (Nat.le_of_lt hD.out.lt)),Nat.lt_of_lt_of_le hD.out.lt B1.size⟩
    clear B1;go_wp2
    go_roundw
    case rel=>exact⟨rfl,rfl,1,by go_num,HN⟩
    case measure=>simp[intOf]
  ·have hcell:wr.cell? ⟨w.heap.size,1,none⟩=some (.string ⟨#[108,116,114]⟩):=hD.out.str 1 (by decide);by_cases hs:sm=yG
   ·obtain⟨rfl,rfl⟩:=hE.out.yes (.inr (.inl hs));subst hs;unfold yG at *
    go_wp2_with fail
    refine(HS.out _).mono ?_;rintro x w1 ⟨rfl,B1⟩;have HB:=hid (hD.out.bel.trans (B1.mono (Nat.le_of_lt hD.out.lt)));clear B1;go_wp2
    go_ret2;exact⟨rfl,HB.out⟩
   ·have hn:=qZ [108,116,114] hs rfl;have HH:=hid hs;clear hs;go_wp2_with fail
    refine(HS.out _).mono ?_;rintro x w1 ⟨rfl,B1⟩;have HN:Hid (aAW sm w.heap.size 2 w w1):=⟨by omega,fun _=>hD.out.no1 (by omega),fun _=>HH.out,by omega,hD.out.str.below B1 hD.out.lt,hD.out.bel.trans (B1.mono (Nat.le_of_lt hD.out.lt)),Nat.lt_of_lt_of_le hD.out.lt B1.size⟩
    clear B1;go_wp2
    go_roundw
    case rel=>exact⟨rfl,rfl,2,by go_num,HN⟩
    case measure=>simp[intOf]
  ·have hcell:wr.cell? ⟨w.heap.size,2,none⟩=some (.string ⟨#[114,116,108]⟩):=hD.out.str 2 (by decide);by_cases hs:sm=yH
   ·obtain⟨rfl,rfl⟩:=hE.out.yes (.inr (.inr hs));subst hs;unfold yH at *
    go_wp2_with fail
    refine(HS.out _).mono ?_;rintro x w1 ⟨rfl,B1⟩;have HB:=hid (hD.out.bel.trans (B1.mono (Nat.le_of_lt hD.out.lt)));clear B1;go_wp2
    go_ret2;exact⟨rfl,HB.out⟩
   ·have hn:=qZ [114,116,108] hs rfl;have HH:=hid hs;clear hs;go_wp2_with fail
    refine(HS.out _).mono ?_;rintro x w1 ⟨rfl,B1⟩;have HN:Hid (aAW sm w.heap.size 3 w w1):=⟨by omega,fun _=>hD.out.no1 (by omega),fun _=>hD.out.no2 (by omega),fun _=>HH.out,hD.out.str.below B1 hD.out.lt,hD.out.bel.trans (B1.mono (Nat.le_of_lt hD.out.lt)),Nat.lt_of_lt_of_le hD.out.lt B1.size⟩
    clear B1;go_wp2
    go_roundw
    case rel=>exact⟨rfl,rfl,3,by go_num,HN⟩
    case measure=>simp[intOf]
  ·obtain⟨rfl,rfl⟩:=hE.out.no (fun hp=>by
    rcases hp with h|h|h
    ·exact hD.out.no1 (by omega) h
    ·exact hD.out.no2 (by omega) h
    ·exact hD.out.no3 (by omega) h)
   go_wp2
   go_ret2;exact⟨rfl,hD.out.bel⟩
end Go.Proofs.YtcfgbdhpcboikaaGreatDoor
