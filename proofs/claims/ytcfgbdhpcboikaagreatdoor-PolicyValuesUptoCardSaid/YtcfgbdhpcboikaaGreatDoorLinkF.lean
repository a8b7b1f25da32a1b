/-
policy.link and refs.Escape: what they answer.
-/
import Derived.Test.YtcfgbdhpcboikaaGreatDoorSchemeX
namespace Go.Proofs.YtcfgbdhpcboikaaGreatDoor
open Go.Lib (hid)
set_option maxHeartbeats 1000000
set_option maxRecDepth 100000
open Go.RowKit
theorem lZ {n:Nat}:n≤n:=Nat.le_refl n
theorem pR {a w v:World}(h:Go.RowKit.Hid (Go.RowKit.Below a.heap.size a w))(b:Go.RowKit.Below w.heap.size w v):Go.RowKit.Hid (Go.RowKit.Below a.heap.size a v):=hid (h.out.trans (b.mono h.out.size))
def dI (zs:List ByteArray)(l:List UInt8):Bool:=match eN l with
 | none=>true
 | some w=>Lib.containsS zs ⟨w.toArray⟩
def nM (w:World)(g off:Nat)(zs:List ByteArray):Prop:=∀j,j<zs.length→w.cell? ⟨g,off+j,none⟩=some (.string (zs.getD j ByteArray.empty))
theorem nM.below {w w':World}{g off B:Nat}{zs:List ByteArray}(h:nM w g off zs)(hb:Below B w w')(hg:g<B):nM w' g off zs:=by
 intro j hj;rw[hb.cell (p:=⟨g,off+j,none⟩) hg];exact h j hj
theorem uJ (l:List UInt8):(aZ l).length≤3*l.length:=Nat.le_trans (aJU l).length_le (qI l)
theorem aBA (s:ByteArray)(hs:s.size≤1000000000)(g off n c:Nat)(zs:List ByteArray)(hn:zs.length=n)(hn9:n≤1000)(w:World)(T:aA w)(hz:Hid (nM w g off zs))(hg:g<w.heap.size)(b:Bool)(hb:Hid (dI zs (aZ s.data.toList)=b)) :
  Calls Tryz.prog 143 #[.string s,.slice (some ⟨g,off,none⟩) n c] w fun e w'=>e=.returned (.tuple #[.string ⟨(aZ s.data.toList).toArray⟩,.bool b])∧Below w.heap.size w w':=by
 have HT:=hid T;clear T;have hl:=uJ s.data.toList;have hl2:s.data.toList.length=s.size:=rfl;have hsz:(⟨(aZ s.data.toList).toArray⟩:ByteArray).size<4294967281:=by rw[iD];omega
 have HSZ:=hid hsz;clear hsz hl hl2;obtain⟨L,hL⟩:∃L,aZ s.data.toList=L:=⟨_,rfl⟩
 have K:=fun w T=>aC6 s hs w T
 rw[hL]at K HSZ
 have HK:=hid K;have HB:=hid (show dI zs L=b by rw[←hL];exact hb.out);rw[hL];clear K hL hb;go_enter Tryz.func143,Tryz.ntmps143
 go_wp2_with fail
 refine(HK.out w HT.out).mono ?_;rintro e W1 ⟨rfl,B1⟩;have HB1:=hid B1;have HT1:=hid (HT.out.below HB1.out lZ);clear B1;have S:=aAD ⟨L.toArray⟩ HSZ.out W1 HT1.out;have hb:=HB.out;unfold dI at hb;cases hsc:eN L with
 | none =>
  rw[show gC (⟨L.toArray⟩:ByteArray).data.toList=.tuple #[.string ⟨#[]⟩,.bool false]from fR hsc]at S
  have HS:=hid S;rw[hsc]at hb
  subst hb;clear S hsc;go_wp2_with fail
  refine HS.out.mono ?_;rintro e W2 ⟨rfl,B2⟩;have HB2:=pR HB1 B2;clear B2;go_wp2
  go_ret2;exact⟨rfl,HB2.out⟩
 | some x =>
  rw[show gC (⟨L.toArray⟩:ByteArray).data.toList=.tuple #[.string ⟨x.toArray⟩,.bool true]from jL hsc]at S
  have HS:=hid S;rw[hsc]at hb
  have HBX:Hid (Lib.containsS zs ⟨x.toArray⟩=b):=hb;clear S hsc hb;go_wp2_with fail
  refine HS.out.mono ?_;rintro e W2 ⟨rfl,B2⟩;have HB2:=pR HB1 B2;clear B2;have hz2:Hid (nM W2 g off zs):=hz.out.below HB2.out hg;have C:=Tryz.slices_Contains_string g off n c zs ⟨x.toArray⟩ W2 (by omega) (by omega) hz2.out;rw[List.take_of_length_le (by omega),HBX.out]at C
  have HC:=hid C;clear C;go_wp2_with fail
  refine HC.out.mono ?_;rintro e W3 ⟨rfl,rfl⟩;go_wp2
  all_goals
   go_ret2;exact⟨rfl,HB2.out⟩
theorem aDA (old new:List UInt8)(h:1≤old.length):∀(k:Nat) (s:List UInt8),(Lib.replaceK old new k s).length≤s.length+k*new.length:=by
 intro k;induction k with
 | zero=>intro s;simp[Lib.replaceK]
 | succ k ih =>
  intro s;rw[Nat.succ_mul];by_cases hi:Lib.index s old=-1
  ·unfold Lib.replaceK;rw[if_pos (by rw[hi];rfl)];omega
  ·have hge:=Lib.index_ge s old;obtain⟨i,hi'⟩:∃i:Nat,Lib.index s old=i:=⟨(Lib.index s old).toNat,by omega⟩
   rw[Lib.replaceK_hit old new k s i hi'];have:=ih (s.drop (i+old.length));have hr:=Lib.index_room s old (by omega);rw[List.length_append,List.length_append,List.length_take];rw[List.length_drop]at this
   omega
theorem aBf (s old new:ByteArray)(h:1≤old.size):(Lib.replaceAll s.data.toList old.data.toList new.data.toList).length≤s.size*(1+new.size):=by
 unfold Lib.replaceAll Lib.replace;have h1:=Lib.countB_le old h s.size s lZ;have e1:s.size=s.data.toList.length:=rfl;have e2:new.size=new.data.toList.length:=rfl;split
 ·rw[e1,Nat.mul_add];omega
 ·have hn:Lib.replaceNum s.data.toList old.data.toList (-1)=Lib.count s.data.toList old.data.toList:=by
   unfold Lib.replaceNum;rw[if_pos (Or.inl (by omega))]
  rw[hn];have h2:=aDA old.data.toList new.data.toList h (Lib.count s.data.toList old.data.toList) s.data.toList;have h3:Lib.count s.data.toList old.data.toList≤s.size:=h1;have h4:Lib.count s.data.toList old.data.toList*new.data.toList.length≤s.size*new.data.toList.length:=Nat.mul_le_mul_right _ h3;rw[Nat.mul_add,e2];omega
def lU:ByteArray:=⟨#[38,97,109,112,59]⟩
def bNb:ByteArray:=⟨#[38,110,98,115,112,59]⟩
def bLt:ByteArray:=⟨#[38,108,116,59]⟩
def bGt:ByteArray:=⟨#[38,103,116,59]⟩
def bQ:ByteArray:=⟨#[38,113,117,111,116,59]⟩
def cY (s old new:ByteArray):ByteArray:=⟨(Lib.replaceAll s.data.toList old.data.toList new.data.toList).toArray⟩
theorem tB (s old new:ByteArray)(h:1≤old.size):(cY s old new).size≤s.size*(1+new.size):=aBf s old new h
theorem rP (s old new:ByteArray)(w:World)(T:aA w)(hs:s.size<4294967281)(h1:1≤old.size)(h2:new.size≤10) :
  Calls Tryz.prog 80 #[.string s,.string old,.string new] w fun e w'=>e=.returned (.string (cY s old new))∧Below w.heap.size w w':=by
 obtain⟨m,hm⟩:=T.most;refine Tryz.strings_ReplaceAll s old new m w hs hm h1 ?_;have h3:=Lib.countB_le old h1 s.size s lZ;have h4:Lib.countB s old*new.size≤s.size*10:=Nat.mul_le_mul h3 h2;omega
def fC (s:ByteArray):ByteArray:=cY (cY (cY (cY (cY s ⟨#[38]⟩ lU) ⟨#[194,160]⟩ bNb) ⟨#[60]⟩ bLt) ⟨#[62]⟩ bGt) ⟨#[34]⟩ bQ
theorem aEV (s:ByteArray)(hs:s.size≤4000000)(w:World)(T:aA w):Calls Tryz.prog 84 #[.string s,.bool true] w fun e w'=>e=.returned (.string (fC s))∧Below w.heap.size w w':=by
 have a1:=tB s ⟨#[38]⟩ lU (by decide);have a2:=tB (cY s ⟨#[38]⟩ lU) ⟨#[194,160]⟩ bNb (by decide);have a3:=tB (cY (cY s ⟨#[38]⟩ lU) ⟨#[194,160]⟩ bNb) ⟨#[60]⟩ bLt (by decide);have a4:=tB (cY (cY (cY s ⟨#[38]⟩ lU) ⟨#[194,160]⟩ bNb) ⟨#[60]⟩ bLt) ⟨#[62]⟩ bGt (by decide);have e1:lU.size=5:=rfl;have e2:bNb.size=6:=rfl;have e3:bLt.size=4:=rfl;have e4:bGt.size=4:=rfl;rw[e1]at a1
 rw[e2]at a2
 rw[e3]at a3
 rw[e4]at a4
 have HT:=hid T;have R1:=hid (fun w T=>rP s ⟨#[38]⟩ lU w T (by omega) (by decide) (by decide));have R2:=hid (fun w T=>rP (cY s ⟨#[38]⟩ lU) ⟨#[194,160]⟩ bNb w T (by omega) (by decide) (by decide));have R3:=hid (fun w T=>rP (cY (cY s ⟨#[38]⟩ lU) ⟨#[194,160]⟩ bNb) ⟨#[60]⟩ bLt w T (by omega) (by decide) (by decide));have R4:=hid (fun w T=>rP (cY (cY (cY s ⟨#[38]⟩ lU) ⟨#[194,160]⟩ bNb) ⟨#[60]⟩ bLt) ⟨#[62]⟩ bGt w T (by omega) (by decide) (by decide));have R5:=hid (fun w T=>rP (cY (cY (cY (cY s ⟨#[38]⟩ lU) ⟨#[194,160]⟩ bNb) ⟨#[60]⟩ bLt) ⟨#[62]⟩ bGt) ⟨#[34]⟩ bQ w T (by omega) (by decide) (by decide));have hE:fC s=cY (cY (cY (cY (cY s ⟨#[38]⟩ lU) ⟨#[194,160]⟩ bNb) ⟨#[60]⟩ bLt) ⟨#[62]⟩ bGt) ⟨#[34]⟩ bQ:=rfl;rw[hE];clear a1 a2 a3 a4 e1 e2 e3 e4 T hE;generalize cY s ⟨#[38]⟩ lU=s1 at *
 generalize cY s1 ⟨#[194,160]⟩ bNb=s2 at *
 generalize cY s2 ⟨#[60]⟩ bLt=s3 at *
 generalize cY s3 ⟨#[62]⟩ bGt=s4 at *
 generalize cY s4 ⟨#[34]⟩ bQ=s5 at *
 unfold lU at R1;unfold bNb at R2;unfold bLt at R3;unfold bGt at R4;unfold bQ at R5;go_enter Tryz.func84,Tryz.ntmps84
 go_wp2_with fail
 refine(R1.out w HT.out).mono ?_;rintro e W1 ⟨rfl,B1⟩;have HB1:=hid B1;have HT1:=hid (HT.out.below HB1.out lZ);clear B1;go_wp2_with fail
 refine(R2.out W1 HT1.out).mono ?_;rintro e W2 ⟨rfl,B2⟩;have HB2:=pR HB1 B2;have HT2:=hid (HT.out.below HB2.out lZ);clear B2;go_wp2_with fail
 refine(R3.out W2 HT2.out).mono ?_;rintro e W3 ⟨rfl,B3⟩;have HB3:=pR HB2 B3;have HT3:=hid (HT.out.below HB3.out lZ);clear B3;go_wp2_with fail
 refine(R4.out W3 HT3.out).mono ?_;rintro e W4 ⟨rfl,B4⟩;have HB4:=pR HB3 B4;have HT4:=hid (HT.out.below HB4.out lZ);clear B4;go_wp2_with fail
 refine(R5.out W4 HT4.out).mono ?_;rintro e W5 ⟨rfl,B5⟩;have HB5:=pR HB4 B5;clear B5;go_wp2
 go_ret;exact⟨rfl,HB5.out⟩
open Go.RowKit
def aX (s:ByteArray)(n:Int):Prop:=∀w,Calls Tryz.prog 24 #[.string s] w fun e w'=>e=.returned (.int .i64 n)∧w=w'
theorem aE3 (s:ByteArray):aX s (cH s.data.toList:Nat):=fun w=>kY s w
theorem cT {a b:Bool}(h:a=b):Ending.returned (.bool a)=.returned (.bool b):=by rw[h]
theorem aN9 (p k:ByteArray)(K:Int)(b:Bool)(w:World)(hp:Hid (aX p 0))(hk:Hid (aX k K))(hb:Hid ((false)=b)) :
  Calls Tryz.prog 26 #[.string p,.string k] w fun e w'=>e=.returned (.bool b)∧w=w':=by
 go_enter Tryz.func26,Tryz.ntmps26
 go_wp2_with fail
 refine(hk.out _).mono ?_;rintro e w' ⟨rfl,rfl⟩;go_wp2_with fail
 refine(hp.out _).mono ?_;rintro e w' ⟨rfl,rfl⟩;go_wp2
 all_goals
  go_ret;refine⟨cT ?_,rfl⟩;first
   | (rw[←hb.out];done)
   | (rw[←hb.out,Bool.eq_iff_iff];simp;done)
   | (rw[←hb.out,Bool.eq_iff_iff];simp;omega)
   | (rw[←hb.out];simp_all;done)
theorem aOa (p k:ByteArray)(K:Int)(b:Bool)(w:World)(hp:Hid (aX p 1))(hk:Hid (aX k K))(hb:Hid ((false)=b)) :
  Calls Tryz.prog 26 #[.string p,.string k] w fun e w'=>e=.returned (.bool b)∧w=w':=by
 go_enter Tryz.func26,Tryz.ntmps26
 go_wp2_with fail
 refine(hk.out _).mono ?_;rintro e w' ⟨rfl,rfl⟩;go_wp2_with fail
 refine(hp.out _).mono ?_;rintro e w' ⟨rfl,rfl⟩;go_wp2
 all_goals
  go_ret;refine⟨cT ?_,rfl⟩;first
   | (rw[←hb.out];done)
   | (rw[←hb.out,Bool.eq_iff_iff];simp;done)
   | (rw[←hb.out,Bool.eq_iff_iff];simp;omega)
   | (rw[←hb.out];simp_all;done)
theorem aOb (p k:ByteArray)(K:Int)(b:Bool)(w:World)(hp:Hid (aX p 2))(hk:Hid (aX k K))(hb:Hid ((decide (2≤K)&&decide (K≤7)||decide (K=9))=b)) :
  Calls Tryz.prog 26 #[.string p,.string k] w fun e w'=>e=.returned (.bool b)∧w=w':=by
 go_enter Tryz.func26,Tryz.ntmps26
 go_wp2_with fail
 refine(hk.out _).mono ?_;rintro e w' ⟨rfl,rfl⟩;go_wp2_with fail
 refine(hp.out _).mono ?_;rintro e w' ⟨rfl,rfl⟩;go_wp2
 all_goals
  go_ret;refine⟨cT ?_,rfl⟩;first
   | (rw[←hb.out];done)
   | (rw[←hb.out,Bool.eq_iff_iff];simp;done)
   | (rw[←hb.out,Bool.eq_iff_iff];simp;omega)
   | (rw[←hb.out];simp_all;done)
theorem aOc (p k:ByteArray)(K:Int)(b:Bool)(w:World)(hp:Hid (aX p 3))(hk:Hid (aX k K))(hb:Hid ((decide (K=4)||decide (K=5))=b)) :
  Calls Tryz.prog 26 #[.string p,.string k] w fun e w'=>e=.returned (.bool b)∧w=w':=by
 go_enter Tryz.func26,Tryz.ntmps26
 go_wp2_with fail
 refine(hk.out _).mono ?_;rintro e w' ⟨rfl,rfl⟩;go_wp2_with fail
 refine(hp.out _).mono ?_;rintro e w' ⟨rfl,rfl⟩;go_wp2
 all_goals
  go_ret;refine⟨cT ?_,rfl⟩;first
   | (rw[←hb.out];done)
   | (rw[←hb.out,Bool.eq_iff_iff];simp;done)
   | (rw[←hb.out,Bool.eq_iff_iff];simp;omega)
   | (rw[←hb.out];simp_all;done)
theorem aOd (p k:ByteArray)(K:Int)(b:Bool)(w:World)(hp:Hid (aX p 4))(hk:Hid (aX k K))(hb:Hid ((decide (K=4)&&!(k.toList==p.toList)||decide (K=5))=b)) :
  Calls Tryz.prog 26 #[.string p,.string k] w fun e w'=>e=.returned (.bool b)∧w=w':=by
 go_enter Tryz.func26,Tryz.ntmps26
 go_wp2_with fail
 refine(hk.out _).mono ?_;rintro e w' ⟨rfl,rfl⟩;go_wp2_with fail
 refine(hp.out _).mono ?_;rintro e w' ⟨rfl,rfl⟩;go_wp2
 all_goals
  go_ret;refine⟨cT ?_,rfl⟩;first
   | (rw[←hb.out];done)
   | (rw[←hb.out,Bool.eq_iff_iff];simp;done)
   | (rw[←hb.out,Bool.eq_iff_iff];simp;omega)
   | (rw[←hb.out];simp_all;done)
theorem aOe (p k:ByteArray)(K:Int)(b:Bool)(w:World)(hp:Hid (aX p 5))(hk:Hid (aX k K))(hb:Hid ((false)=b)) :
  Calls Tryz.prog 26 #[.string p,.string k] w fun e w'=>e=.returned (.bool b)∧w=w':=by
 go_enter Tryz.func26,Tryz.ntmps26
 go_wp2_with fail
 refine(hk.out _).mono ?_;rintro e w' ⟨rfl,rfl⟩;go_wp2_with fail
 refine(hp.out _).mono ?_;rintro e w' ⟨rfl,rfl⟩;go_wp2
 all_goals
  go_ret;refine⟨cT ?_,rfl⟩;first
   | (rw[←hb.out];done)
   | (rw[←hb.out,Bool.eq_iff_iff];simp;done)
   | (rw[←hb.out,Bool.eq_iff_iff];simp;omega)
   | (rw[←hb.out];simp_all;done)
theorem aOf (p k:ByteArray)(K:Int)(b:Bool)(w:World)(hp:Hid (aX p 6))(hk:Hid (aX k K))(hb:Hid ((false)=b)) :
  Calls Tryz.prog 26 #[.string p,.string k] w fun e w'=>e=.returned (.bool b)∧w=w':=by
 go_enter Tryz.func26,Tryz.ntmps26
 go_wp2_with fail
 refine(hk.out _).mono ?_;rintro e w' ⟨rfl,rfl⟩;go_wp2_with fail
 refine(hp.out _).mono ?_;rintro e w' ⟨rfl,rfl⟩;go_wp2
 all_goals
  go_ret;refine⟨cT ?_,rfl⟩;first
   | (rw[←hb.out];done)
   | (rw[←hb.out,Bool.eq_iff_iff];simp;done)
   | (rw[←hb.out,Bool.eq_iff_iff];simp;omega)
   | (rw[←hb.out];simp_all;done)
theorem aOg (p k:ByteArray)(K:Int)(b:Bool)(w:World)(hp:Hid (aX p 7))(hk:Hid (aX k K))(hb:Hid ((decide (K=8))=b)) :
  Calls Tryz.prog 26 #[.string p,.string k] w fun e w'=>e=.returned (.bool b)∧w=w':=by
 go_enter Tryz.func26,Tryz.ntmps26
 go_wp2_with fail
 refine(hk.out _).mono ?_;rintro e w' ⟨rfl,rfl⟩;go_wp2_with fail
 refine(hp.out _).mono ?_;rintro e w' ⟨rfl,rfl⟩;go_wp2
 all_goals
  go_ret;refine⟨cT ?_,rfl⟩;first
   | (rw[←hb.out];done)
   | (rw[←hb.out,Bool.eq_iff_iff];simp;done)
   | (rw[←hb.out,Bool.eq_iff_iff];simp;omega)
   | (rw[←hb.out];simp_all;done)
theorem aOh (p k:ByteArray)(K:Int)(b:Bool)(w:World)(hp:Hid (aX p 8))(hk:Hid (aX k K))(hb:Hid ((decide (2≤K)&&decide (K≤7)||decide (K=9))=b)) :
  Calls Tryz.prog 26 #[.string p,.string k] w fun e w'=>e=.returned (.bool b)∧w=w':=by
 go_enter Tryz.func26,Tryz.ntmps26
 go_wp2_with fail
 refine(hk.out _).mono ?_;rintro e w' ⟨rfl,rfl⟩;go_wp2_with fail
 refine(hp.out _).mono ?_;rintro e w' ⟨rfl,rfl⟩;go_wp2
 all_goals
  go_ret;refine⟨cT ?_,rfl⟩;first
   | (rw[←hb.out];done)
   | (rw[←hb.out,Bool.eq_iff_iff];simp;done)
   | (rw[←hb.out,Bool.eq_iff_iff];simp;omega)
   | (rw[←hb.out];simp_all;done)
theorem aOi (p k:ByteArray)(K:Int)(b:Bool)(w:World)(hp:Hid (aX p 9))(hk:Hid (aX k K))(hb:Hid ((decide (K=10)||decide (K=11))=b)) :
  Calls Tryz.prog 26 #[.string p,.string k] w fun e w'=>e=.returned (.bool b)∧w=w':=by
 go_enter Tryz.func26,Tryz.ntmps26
 go_wp2_with fail
 refine(hk.out _).mono ?_;rintro e w' ⟨rfl,rfl⟩;go_wp2_with fail
 refine(hp.out _).mono ?_;rintro e w' ⟨rfl,rfl⟩;go_wp2
 all_goals
  go_ret;refine⟨cT ?_,rfl⟩;first
   | (rw[←hb.out];done)
   | (rw[←hb.out,Bool.eq_iff_iff];simp;done)
   | (rw[←hb.out,Bool.eq_iff_iff];simp;omega)
   | (rw[←hb.out];simp_all;done)
theorem aNn (p k:ByteArray)(K:Int)(b:Bool)(w:World)(hp:Hid (aX p 10))(hk:Hid (aX k K))(hb:Hid ((decide (K=4)||decide (K=5))=b)) :
  Calls Tryz.prog 26 #[.string p,.string k] w fun e w'=>e=.returned (.bool b)∧w=w':=by
 go_enter Tryz.func26,Tryz.ntmps26
 go_wp2_with fail
 refine(hk.out _).mono ?_;rintro e w' ⟨rfl,rfl⟩;go_wp2_with fail
 refine(hp.out _).mono ?_;rintro e w' ⟨rfl,rfl⟩;go_wp2
 all_goals
  go_ret;refine⟨cT ?_,rfl⟩;first
   | (rw[←hb.out];done)
   | (rw[←hb.out,Bool.eq_iff_iff];simp;done)
   | (rw[←hb.out,Bool.eq_iff_iff];simp;omega)
   | (rw[←hb.out];simp_all;done)
theorem aNo (p k:ByteArray)(K:Int)(b:Bool)(w:World)(hp:Hid (aX p 11))(hk:Hid (aX k K))(hb:Hid ((decide (K=12))=b)) :
  Calls Tryz.prog 26 #[.string p,.string k] w fun e w'=>e=.returned (.bool b)∧w=w':=by
 go_enter Tryz.func26,Tryz.ntmps26
 go_wp2_with fail
 refine(hk.out _).mono ?_;rintro e w' ⟨rfl,rfl⟩;go_wp2_with fail
 refine(hp.out _).mono ?_;rintro e w' ⟨rfl,rfl⟩;go_wp2
 all_goals
  go_ret;refine⟨cT ?_,rfl⟩;first
   | (rw[←hb.out];done)
   | (rw[←hb.out,Bool.eq_iff_iff];simp;done)
   | (rw[←hb.out,Bool.eq_iff_iff];simp;omega)
   | (rw[←hb.out];simp_all;done)
theorem aNp (p k:ByteArray)(K:Int)(b:Bool)(w:World)(hp:Hid (aX p 12))(hk:Hid (aX k K))(hb:Hid ((decide (K=13))=b)) :
  Calls Tryz.prog 26 #[.string p,.string k] w fun e w'=>e=.returned (.bool b)∧w=w':=by
 go_enter Tryz.func26,Tryz.ntmps26
 go_wp2_with fail
 refine(hk.out _).mono ?_;rintro e w' ⟨rfl,rfl⟩;go_wp2_with fail
 refine(hp.out _).mono ?_;rintro e w' ⟨rfl,rfl⟩;go_wp2
 all_goals
  go_ret;refine⟨cT ?_,rfl⟩;first
   | (rw[←hb.out];done)
   | (rw[←hb.out,Bool.eq_iff_iff];simp;done)
   | (rw[←hb.out,Bool.eq_iff_iff];simp;omega)
   | (rw[←hb.out];simp_all;done)
theorem aNq (p k:ByteArray)(K:Int)(b:Bool)(w:World)(hp:Hid (aX p 13))(hk:Hid (aX k K))(hb:Hid ((decide (2≤K)&&decide (K≤7)||decide (K=9))=b)) :
  Calls Tryz.prog 26 #[.string p,.string k] w fun e w'=>e=.returned (.bool b)∧w=w':=by
 go_enter Tryz.func26,Tryz.ntmps26
 go_wp2_with fail
 refine(hk.out _).mono ?_;rintro e w' ⟨rfl,rfl⟩;go_wp2_with fail
 refine(hp.out _).mono ?_;rintro e w' ⟨rfl,rfl⟩;go_wp2
 all_goals
  go_ret;refine⟨cT ?_,rfl⟩;first
   | (rw[←hb.out];done)
   | (rw[←hb.out,Bool.eq_iff_iff];simp;done)
   | (rw[←hb.out,Bool.eq_iff_iff];simp;omega)
   | (rw[←hb.out];simp_all;done)
theorem aNr (p k:ByteArray)(K:Int)(b:Bool)(w:World)(hp:Hid (aX p 14))(hk:Hid (aX k K))(hb:Hid ((decide (2≤K)&&decide (K≤7)||decide (K=9))=b)) :
  Calls Tryz.prog 26 #[.string p,.string k] w fun e w'=>e=.returned (.bool b)∧w=w':=by
 go_enter Tryz.func26,Tryz.ntmps26
 go_wp2_with fail
 refine(hk.out _).mono ?_;rintro e w' ⟨rfl,rfl⟩;go_wp2_with fail
 refine(hp.out _).mono ?_;rintro e w' ⟨rfl,rfl⟩;go_wp2
 all_goals
  go_ret;refine⟨cT ?_,rfl⟩;first
   | (rw[←hb.out];done)
   | (rw[←hb.out,Bool.eq_iff_iff];simp;done)
   | (rw[←hb.out,Bool.eq_iff_iff];simp;omega)
   | (rw[←hb.out];simp_all;done)
theorem vS (p k:ByteArray)(w:World):Calls Tryz.prog 26 #[.string p,.string k] w fun e w'=>e=.returned (.bool (aBa p.data.toList k.data.toList))∧w=w':=by
 have hp:=aE3 p;have hk:=aE3 k;have hs:(k.toList==p.toList)=(k.data.toList==p.data.toList):=by rw[toList_data,toList_data]
 have lp:=aJP p.data.toList;unfold aBa;rw[←hs];generalize cH k.data.toList=K at hk;generalize cH p.data.toList=P at hp lp;have key:∀(n:Nat) (f:Bool),P=n→f=iP n K (k.toList==p.toList)→(∀b,Hid (aX p n)→Hid (aX k (K:Nat))→Hid (f=b)→Calls Tryz.prog 26 #[.string p,.string k] w fun e w'=>e=.returned (.bool b)∧w=w')→Calls Tryz.prog 26 #[.string p,.string k] w fun e w'=>e=.returned (.bool (iP P K (k.toList==p.toList)))∧w=w':=by
  intro n f hn hf h;subst hn;exact h _ (hid hp) (hid hk) (hid hf)
 have hP:P=0∨P=1∨P=2∨P=3∨P=4∨P=5∨P=6∨P=7∨P=8∨P=9∨P=10∨P=11∨P=12∨P=13∨P=14:=by omega
 rcases hP with h|h|h|h|h|h|h|h|h|h|h|h|h|h|h
 ·exact key 0 _ h (by simp only[iP];rw[Bool.eq_iff_iff];simp;try omega) fun b a1 a2 a3=>aN9 p k _ b w a1 a2 a3
 ·exact key 1 _ h (by simp only[iP];rw[Bool.eq_iff_iff];simp;try omega) fun b a1 a2 a3=>aOa p k _ b w a1 a2 a3
 ·exact key 2 _ h (by simp only[iP];rw[Bool.eq_iff_iff];simp;try omega) fun b a1 a2 a3=>aOb p k _ b w a1 a2 a3
 ·exact key 3 _ h (by simp only[iP];rw[Bool.eq_iff_iff];simp;try omega) fun b a1 a2 a3=>aOc p k _ b w a1 a2 a3
 ·exact key 4 _ h (by simp only[iP];rw[Bool.eq_iff_iff];simp;rw[show((K:Nat):Int)=4↔K=4 by omega,show((K:Nat):Int)=5↔K=5 by omega]) fun b a1 a2 a3=>aOd p k _ b w a1 a2 a3
 ·exact key 5 _ h (by simp only[iP];rw[Bool.eq_iff_iff];simp;try omega) fun b a1 a2 a3=>aOe p k _ b w a1 a2 a3
 ·exact key 6 _ h (by simp only[iP];rw[Bool.eq_iff_iff];simp;try omega) fun b a1 a2 a3=>aOf p k _ b w a1 a2 a3
 ·exact key 7 _ h (by simp only[iP];rw[Bool.eq_iff_iff];simp;try omega) fun b a1 a2 a3=>aOg p k _ b w a1 a2 a3
 ·exact key 8 _ h (by simp only[iP];rw[Bool.eq_iff_iff];simp;try omega) fun b a1 a2 a3=>aOh p k _ b w a1 a2 a3
 ·exact key 9 _ h (by simp only[iP];rw[Bool.eq_iff_iff];simp;try omega) fun b a1 a2 a3=>aOi p k _ b w a1 a2 a3
 ·exact key 10 _ h (by simp only[iP];rw[Bool.eq_iff_iff];simp;try omega) fun b a1 a2 a3=>aNn p k _ b w a1 a2 a3
 ·exact key 11 _ h (by simp only[iP];rw[Bool.eq_iff_iff];simp;try omega) fun b a1 a2 a3=>aNo p k _ b w a1 a2 a3
 ·exact key 12 _ h (by simp only[iP];rw[Bool.eq_iff_iff];simp;try omega) fun b a1 a2 a3=>aNp p k _ b w a1 a2 a3
 ·exact key 13 _ h (by simp only[iP];rw[Bool.eq_iff_iff];simp;try omega) fun b a1 a2 a3=>aNq p k _ b w a1 a2 a3
 ·exact key 14 _ h (by simp only[iP];rw[Bool.eq_iff_iff];simp;try omega) fun b a1 a2 a3=>aNr p k _ b w a1 a2 a3
open Go.RowKit
def bS (e n v:ByteArray)(t:ByteArray)(ok:Bool):Prop:=∀w,aA w→Calls Tryz.prog 83 #[.string e,.string n,.string v] w fun x w'=>x=.returned (.tuple #[.string t,.bool ok])∧Below w.heap.size w w'
theorem aIS (e n v:ByteArray)(k:Int)(hk:Hid (aX e k))(h:k<2∨k=14)(w:World) :
  Calls Tryz.prog 37 #[.string e,.string n,.string v] w fun x w'=>x=.returned (.tuple #[.string ⟨#[]⟩,.bool false])∧Below w.heap.size w w':=by
 rcases h with h|h
 ·have l1:decide (k<2)=true:=by simpa using h
  clear h;go_enter Tryz.func37,Tryz.ntmps37
  go_wp2_with fail
  refine(hk.out _).mono ?_;rintro x w' ⟨rfl,rfl⟩;go_wp2
  go_ret2;exact⟨rfl,Below.refl _ _⟩
 ·subst h;go_enter Tryz.func37,Tryz.ntmps37
  go_wp2_with fail
  refine(hk.out _).mono ?_;rintro x w' ⟨rfl,rfl⟩;go_wp2
  go_ret2;exact⟨rfl,Below.refl _ _⟩
theorem aDX (e n v t:ByteArray)(k:Int)(hk:Hid (aX e k))(h2:¬k<2)(h14:(k==14)=false)(hF:Hid (bS e n v t false))(w:World)(T:aA w) :
  Calls Tryz.prog 37 #[.string e,.string n,.string v] w fun x w'=>x=.returned (.tuple #[.string ⟨#[]⟩,.bool false])∧Below w.heap.size w w':=by
 have l1:decide (k<2)=false:=by simpa using h2
 have HT:=hid T;clear h2 T;go_enter Tryz.func37,Tryz.ntmps37
 go_wp2_with fail
 refine(hk.out _).mono ?_;rintro x w' ⟨rfl,rfl⟩;go_wp2_with fail
 refine(hF.out _ HT.out).mono ?_;rintro x W1 ⟨rfl,B1⟩;have HB1:=hid B1;clear B1;go_wp2
 go_ret2;exact⟨rfl,HB1.out⟩
theorem aGA (e n v t:ByteArray)(k:Int)(hk:Hid (aX e k))(h2:¬k<2)(h14:(k==14)=false)(hF:Hid (bS e n v t true))(ht:t.size≤4000000)(hE:Hid (120<(fC t).size))(w:World)(T:aA w) :
  Calls Tryz.prog 37 #[.string e,.string n,.string v] w fun x w'=>x=.returned (.tuple #[.string ⟨#[]⟩,.bool false])∧Below w.heap.size w w':=by
 have l1:decide (k<2)=false:=by simpa using h2
 have HT:=hid T;have hx:120<(fC t).size:=hE.out;have E:=aEV t ht;generalize fC t=u at hx E;have HEA:=hid E;clear h2 T E;go_enter Tryz.func37,Tryz.ntmps37
 go_wp2_with fail
 refine(hk.out _).mono ?_;rintro x w' ⟨rfl,rfl⟩;go_wp2_with fail
 refine(hF.out _ HT.out).mono ?_;rintro x W1 ⟨rfl,B1⟩;have HB1:=hid B1;have HT1:=hid (HT.out.below HB1.out lZ);clear B1;go_wp2_with fail
 refine(HEA.out W1 HT1.out).mono ?_;rintro x W2 ⟨rfl,B2⟩;have HB2:=pR HB1 B2;clear B2;have l2:decide ((120:Int)<(u.size:Int))=true:=by simp;omega
 go_wp2
 go_ret2;exact⟨rfl,HB2.out⟩
theorem aBX (e n v t:ByteArray)(k:Int)(hk:Hid (aX e k))(h2:¬k<2)(h14:(k==14)=false)(hF:Hid (bS e n v t true))(ht:t.size≤4000000)(hE:Hid ((fC t).size≤120))(w:World)(T:aA w) :
  Calls Tryz.prog 37 #[.string e,.string n,.string v] w fun x w'=>x=.returned (.tuple #[.string t,.bool true])∧Below w.heap.size w w':=by
 have l1:decide (k<2)=false:=by simpa using h2
 have HT:=hid T;have hx:(fC t).size≤120:=hE.out;have E:=aEV t ht;generalize fC t=u at hx E;have HEA:=hid E;clear h2 T E;go_enter Tryz.func37,Tryz.ntmps37
 go_wp2_with fail
 refine(hk.out _).mono ?_;rintro x w' ⟨rfl,rfl⟩;go_wp2_with fail
 refine(hF.out _ HT.out).mono ?_;rintro x W1 ⟨rfl,B1⟩;have HB1:=hid B1;have HT1:=hid (HT.out.below HB1.out lZ);clear B1;go_wp2_with fail
 refine(HEA.out W1 HT1.out).mono ?_;rintro x W2 ⟨rfl,B2⟩;have HB2:=pR HB1 B2;clear B2;have l2:decide ((120:Int)<(u.size:Int))=false:=by simp;omega
 go_wp2
 go_ret2;exact⟨rfl,HB2.out⟩
def jJ:ByteArray:=⟨#[116,105,116,108,101]⟩
def iQ:ByteArray:=⟨#[104,114,101,102]⟩
def sA:ByteArray:=⟨#[97]⟩
theorem aFP (e v:ByteArray)(hv:v.size≤1000000000):bS e jJ v ⟨(bT v.data.toList).toArray⟩ true:=by
 intro w T;have HX:=hid (yN v hv w T);clear T;unfold jJ;go_enter Tryz.func83,Tryz.ntmps83
 go_wp2_with fail
 refine HX.out.mono ?_;rintro x W1 ⟨rfl,B1⟩;have HB1:=hid B1;clear B1;go_wp2
 go_ret2;exact⟨rfl,HB1.out⟩
open Go.RowKit
theorem aN5:(⟨#[97]⟩:ByteArray)++⟨#[32]⟩=⟨#[97,32]⟩:=by decide
theorem aGZ:(⟨#[97,32]⟩:ByteArray)++⟨#[104,114,101,102]⟩=⟨#[97,32,104,114,101,102]⟩:=by decide
def kU:List ByteArray:=[⟨#[104,116,116,112]⟩,⟨#[104,116,116,112,115]⟩,⟨#[109,97,105,108,116,111]⟩]
theorem oF (v:ByteArray)(b:Bool)(hb:Hid (dI kU (aZ v.data.toList)=b))(hv:v.size≤1000000000):bS sA iQ v ⟨(aZ v.data.toList).toArray⟩ b:=by
 intro w T;have HT:=hid T;clear T;unfold sA iQ;have c1:=aN5;have c2:=aGZ;go_enter Tryz.func83,Tryz.ntmps83
 go_wp2_with fail
 have hB:Below w.heap.size w (w.alloc (.cells #[Value.string ⟨#[104,116,116,112]⟩,Value.string ⟨#[104,116,116,112,115]⟩,Value.string ⟨#[109,97,105,108,116,111]⟩] 9)):=(Below.refl _ w).alloc lZ _;have hS:nM (w.alloc (.cells #[Value.string ⟨#[104,116,116,112]⟩,Value.string ⟨#[104,116,116,112,115]⟩,Value.string ⟨#[109,97,105,108,116,111]⟩] 9)) w.heap.size 0 kU:=by
  intro j hj;rw[Nat.zero_add,cell_of_row _ w.heap.size j _ 9 (0,0) (heap_alloc_new w _)];have:∀j<3,(#[Value.string ⟨#[104,116,116,112]⟩,Value.string ⟨#[104,116,116,112,115]⟩,Value.string ⟨#[109,97,105,108,116,111]⟩]:Array Value)[j]?=some (Value.string (kU.getD j ByteArray.empty)):=by
   intro j hj;match j,hj with
   | 0,_=>rfl
   | 1,_=>rfl
   | 2,_=>rfl
  exact this j hj
 refine(aBA v hv w.heap.size 0 3 3 kU rfl (by omega) _ (HT.out.below hB lZ) hS (by simp) b hb).mono ?_;rintro x W1 ⟨rfl,B1⟩;have HB1:=hid (hB.trans (B1.mono (by simp)));clear B1 hB hS;go_wp2
 go_ret2;exact⟨rfl,HB1.out⟩
def v1:ByteArray:=⟨#[72,84,84,80,58,47,47,97]⟩
def v2:ByteArray:=⟨#[32,74,97,118,97,9,83,99,114,105,112,116,58,120]⟩
theorem aLI:aZ v1.data.toList=v1.data.toList:=by decide +kernel
theorem aOj:dI kU (aZ v1.data.toList)=true:=by decide +kernel
theorem aNd:(fC v1).size≤120:=by decide +kernel
theorem aLJ:aZ v2.data.toList=[74,97,118,97,83,99,114,105,112,116,58,120]:=by decide +kernel
theorem aOk:dI kU (aZ v2.data.toList)=false:=by decide +kernel
theorem aIv:eN [74,97,118,97,83,99,114,105,112,116,58,120]=some [106,97,118,97,115,99,114,105,112,116]:=by decide +kernel
theorem aE4:aX sA 4:=fun w=>kY sA w
theorem aKz (w:World)(T:aA w):Calls Tryz.prog 37 #[.string sA,.string iQ,.string v1] w fun x w'=>x=.returned (.tuple #[.string v1,.bool true])∧Below w.heap.size w w':=by
 have F:=oF v1 true (hid aOj) (by decide);rw[aLI]at F
 exact aBX sA iQ v1 v1 4 (hid aE4) (by omega) rfl (hid F) (by decide) (hid aNd) w T
theorem aKA (w:World)(T:aA w):Calls Tryz.prog 37 #[.string sA,.string iQ,.string v2] w fun x w'=>x=.returned (.tuple #[.string ⟨#[]⟩,.bool false])∧Below w.heap.size w w':=by
 have F:=oF v2 false (hid aOk) (by decide);exact aDX sA iQ v2 _ 4 (hid aE4) (by omega) rfl (hid F) w T
theorem aJV (w:World)(T:aA w):Calls Tryz.prog 34 #[.string v2] w fun x w'=>x=.returned (.string ⟨#[74,97,118,97,83,99,114,105,112,116,58,120]⟩)∧Below w.heap.size w w':=by
 have L:=aC6 v2 (by decide) w T;rw[aLJ]at L
 exact L
theorem aGj (w:World)(T:aA w):Calls Tryz.prog 30 #[.string ⟨#[74,97,118,97,83,99,114,105,112,116,58,120]⟩] w fun x w'=>x=.returned (.tuple #[.string ⟨#[106,97,118,97,115,99,114,105,112,116]⟩,.bool true])∧Below w.heap.size w w':=by
 have S:=aAD ⟨#[74,97,118,97,83,99,114,105,112,116,58,120]⟩ (by decide) w T;rw[show gC (⟨#[74,97,118,97,83,99,114,105,112,116,58,120]⟩:ByteArray).data.toList=.tuple #[.string ⟨#[106,97,118,97,115,99,114,105,112,116]⟩,.bool true]from jL aIv]at S
 exact S
end Go.Proofs.YtcfgbdhpcboikaaGreatDoor
