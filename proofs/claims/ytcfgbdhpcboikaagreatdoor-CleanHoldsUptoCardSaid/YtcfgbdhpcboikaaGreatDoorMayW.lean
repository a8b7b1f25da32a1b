/-
policy.May and Takes: what they answer, as plain functions of the names (printed by wip/gen/mayw.py).
-/
import Derived.Test.YtcfgbdhpcboikaaGreatDoorLookX
namespace Go.Proofs.YtcfgbdhpcboikaaGreatDoor
open Go.Lib (hid)
set_option maxHeartbeats 2000000
set_option maxRecDepth 100000
open Go.RowKit
theorem jG {n:Nat}:n≤n:=Nat.le_refl n
theorem mB {a w v:World}(h:Hid (Below a.heap.size a w))(b:Below w.heap.size w v):Hid (Below a.heap.size a v):=hid (h.out.trans (b.mono h.out.size))
def aZ (s:ByteArray)(n:Int):Prop:=∀w,Calls Tryz.prog 24 #[.string s] w fun e w'=>e=.returned (.int .i64 n)∧w=w'
theorem aBD (s:ByteArray):aZ s (bO s.data.toList:Nat):=fun w=>nR s w
theorem dU {a b:Bool}(h:a=b):Ending.returned (.bool a)=.returned (.bool b):=by rw[h]
theorem aOD (p k:ByteArray)(K:Int)(b:Bool)(w:World)(hp:Hid (aZ p 0))(hk:Hid (aZ k K))(hb:Hid ((false)=b)) :
  Calls Tryz.prog 26 #[.string p,.string k] w fun e w'=>e=.returned (.bool b)∧w=w':=by
 go_enter Tryz.func26,Tryz.ntmps26
 go_wp2_with fail
 refine(hk.out _).mono ?_;rintro e w' ⟨rfl,rfl⟩;go_wp2_with fail
 refine(hp.out _).mono ?_;rintro e w' ⟨rfl,rfl⟩;go_wp2
 all_goals
  go_ret;refine⟨dU ?_,rfl⟩;first
   | (rw[←hb.out];done)
   | (rw[←hb.out,Bool.eq_iff_iff];simp;done)
   | (rw[←hb.out,Bool.eq_iff_iff];simp;omega)
   | (rw[←hb.out];simp_all;done)
theorem aOJ (p k:ByteArray)(K:Int)(b:Bool)(w:World)(hp:Hid (aZ p 1))(hk:Hid (aZ k K))(hb:Hid ((false)=b)) :
  Calls Tryz.prog 26 #[.string p,.string k] w fun e w'=>e=.returned (.bool b)∧w=w':=by
 go_enter Tryz.func26,Tryz.ntmps26
 go_wp2_with fail
 refine(hk.out _).mono ?_;rintro e w' ⟨rfl,rfl⟩;go_wp2_with fail
 refine(hp.out _).mono ?_;rintro e w' ⟨rfl,rfl⟩;go_wp2
 all_goals
  go_ret;refine⟨dU ?_,rfl⟩;first
   | (rw[←hb.out];done)
   | (rw[←hb.out,Bool.eq_iff_iff];simp;done)
   | (rw[←hb.out,Bool.eq_iff_iff];simp;omega)
   | (rw[←hb.out];simp_all;done)
theorem aOz (p k:ByteArray)(K:Int)(b:Bool)(w:World)(hp:Hid (aZ p 2))(hk:Hid (aZ k K))(hb:Hid ((decide (2≤K)&&decide (K≤7)||decide (K=9))=b)) :
  Calls Tryz.prog 26 #[.string p,.string k] w fun e w'=>e=.returned (.bool b)∧w=w':=by
 go_enter Tryz.func26,Tryz.ntmps26
 go_wp2_with fail
 refine(hk.out _).mono ?_;rintro e w' ⟨rfl,rfl⟩;go_wp2_with fail
 refine(hp.out _).mono ?_;rintro e w' ⟨rfl,rfl⟩;go_wp2
 all_goals
  go_ret;refine⟨dU ?_,rfl⟩;first
   | (rw[←hb.out];done)
   | (rw[←hb.out,Bool.eq_iff_iff];simp;done)
   | (rw[←hb.out,Bool.eq_iff_iff];simp;omega)
   | (rw[←hb.out];simp_all;done)
theorem aOs (p k:ByteArray)(K:Int)(b:Bool)(w:World)(hp:Hid (aZ p 3))(hk:Hid (aZ k K))(hb:Hid ((decide (K=4)||decide (K=5))=b)) :
  Calls Tryz.prog 26 #[.string p,.string k] w fun e w'=>e=.returned (.bool b)∧w=w':=by
 go_enter Tryz.func26,Tryz.ntmps26
 go_wp2_with fail
 refine(hk.out _).mono ?_;rintro e w' ⟨rfl,rfl⟩;go_wp2_with fail
 refine(hp.out _).mono ?_;rintro e w' ⟨rfl,rfl⟩;go_wp2
 all_goals
  go_ret;refine⟨dU ?_,rfl⟩;first
   | (rw[←hb.out];done)
   | (rw[←hb.out,Bool.eq_iff_iff];simp;done)
   | (rw[←hb.out,Bool.eq_iff_iff];simp;omega)
   | (rw[←hb.out];simp_all;done)
theorem aOB (p k:ByteArray)(K:Int)(b:Bool)(w:World)(hp:Hid (aZ p 4))(hk:Hid (aZ k K))(hb:Hid ((decide (K=4)&&!(k.toList==p.toList)||decide (K=5))=b)) :
  Calls Tryz.prog 26 #[.string p,.string k] w fun e w'=>e=.returned (.bool b)∧w=w':=by
 go_enter Tryz.func26,Tryz.ntmps26
 go_wp2_with fail
 refine(hk.out _).mono ?_;rintro e w' ⟨rfl,rfl⟩;go_wp2_with fail
 refine(hp.out _).mono ?_;rintro e w' ⟨rfl,rfl⟩;go_wp2
 all_goals
  go_ret;refine⟨dU ?_,rfl⟩;first
   | (rw[←hb.out];done)
   | (rw[←hb.out,Bool.eq_iff_iff];simp;done)
   | (rw[←hb.out,Bool.eq_iff_iff];simp;omega)
   | (rw[←hb.out];simp_all;done)
theorem aOC (p k:ByteArray)(K:Int)(b:Bool)(w:World)(hp:Hid (aZ p 5))(hk:Hid (aZ k K))(hb:Hid ((false)=b)) :
  Calls Tryz.prog 26 #[.string p,.string k] w fun e w'=>e=.returned (.bool b)∧w=w':=by
 go_enter Tryz.func26,Tryz.ntmps26
 go_wp2_with fail
 refine(hk.out _).mono ?_;rintro e w' ⟨rfl,rfl⟩;go_wp2_with fail
 refine(hp.out _).mono ?_;rintro e w' ⟨rfl,rfl⟩;go_wp2
 all_goals
  go_ret;refine⟨dU ?_,rfl⟩;first
   | (rw[←hb.out];done)
   | (rw[←hb.out,Bool.eq_iff_iff];simp;done)
   | (rw[←hb.out,Bool.eq_iff_iff];simp;omega)
   | (rw[←hb.out];simp_all;done)
theorem aOp (p k:ByteArray)(K:Int)(b:Bool)(w:World)(hp:Hid (aZ p 6))(hk:Hid (aZ k K))(hb:Hid ((false)=b)) :
  Calls Tryz.prog 26 #[.string p,.string k] w fun e w'=>e=.returned (.bool b)∧w=w':=by
 go_enter Tryz.func26,Tryz.ntmps26
 go_wp2_with fail
 refine(hk.out _).mono ?_;rintro e w' ⟨rfl,rfl⟩;go_wp2_with fail
 refine(hp.out _).mono ?_;rintro e w' ⟨rfl,rfl⟩;go_wp2
 all_goals
  go_ret;refine⟨dU ?_,rfl⟩;first
   | (rw[←hb.out];done)
   | (rw[←hb.out,Bool.eq_iff_iff];simp;done)
   | (rw[←hb.out,Bool.eq_iff_iff];simp;omega)
   | (rw[←hb.out];simp_all;done)
theorem aOM (p k:ByteArray)(K:Int)(b:Bool)(w:World)(hp:Hid (aZ p 7))(hk:Hid (aZ k K))(hb:Hid ((decide (K=8))=b)) :
  Calls Tryz.prog 26 #[.string p,.string k] w fun e w'=>e=.returned (.bool b)∧w=w':=by
 go_enter Tryz.func26,Tryz.ntmps26
 go_wp2_with fail
 refine(hk.out _).mono ?_;rintro e w' ⟨rfl,rfl⟩;go_wp2_with fail
 refine(hp.out _).mono ?_;rintro e w' ⟨rfl,rfl⟩;go_wp2
 all_goals
  go_ret;refine⟨dU ?_,rfl⟩;first
   | (rw[←hb.out];done)
   | (rw[←hb.out,Bool.eq_iff_iff];simp;done)
   | (rw[←hb.out,Bool.eq_iff_iff];simp;omega)
   | (rw[←hb.out];simp_all;done)
theorem aOF (p k:ByteArray)(K:Int)(b:Bool)(w:World)(hp:Hid (aZ p 8))(hk:Hid (aZ k K))(hb:Hid ((decide (2≤K)&&decide (K≤7)||decide (K=9))=b)) :
  Calls Tryz.prog 26 #[.string p,.string k] w fun e w'=>e=.returned (.bool b)∧w=w':=by
 go_enter Tryz.func26,Tryz.ntmps26
 go_wp2_with fail
 refine(hk.out _).mono ?_;rintro e w' ⟨rfl,rfl⟩;go_wp2_with fail
 refine(hp.out _).mono ?_;rintro e w' ⟨rfl,rfl⟩;go_wp2
 all_goals
  go_ret;refine⟨dU ?_,rfl⟩;first
   | (rw[←hb.out];done)
   | (rw[←hb.out,Bool.eq_iff_iff];simp;done)
   | (rw[←hb.out,Bool.eq_iff_iff];simp;omega)
   | (rw[←hb.out];simp_all;done)
theorem aOu (p k:ByteArray)(K:Int)(b:Bool)(w:World)(hp:Hid (aZ p 9))(hk:Hid (aZ k K))(hb:Hid ((decide (K=10)||decide (K=11))=b)) :
  Calls Tryz.prog 26 #[.string p,.string k] w fun e w'=>e=.returned (.bool b)∧w=w':=by
 go_enter Tryz.func26,Tryz.ntmps26
 go_wp2_with fail
 refine(hk.out _).mono ?_;rintro e w' ⟨rfl,rfl⟩;go_wp2_with fail
 refine(hp.out _).mono ?_;rintro e w' ⟨rfl,rfl⟩;go_wp2
 all_goals
  go_ret;refine⟨dU ?_,rfl⟩;first
   | (rw[←hb.out];done)
   | (rw[←hb.out,Bool.eq_iff_iff];simp;done)
   | (rw[←hb.out,Bool.eq_iff_iff];simp;omega)
   | (rw[←hb.out];simp_all;done)
theorem aNP (p k:ByteArray)(K:Int)(b:Bool)(w:World)(hp:Hid (aZ p 10))(hk:Hid (aZ k K))(hb:Hid ((decide (K=4)||decide (K=5))=b)) :
  Calls Tryz.prog 26 #[.string p,.string k] w fun e w'=>e=.returned (.bool b)∧w=w':=by
 go_enter Tryz.func26,Tryz.ntmps26
 go_wp2_with fail
 refine(hk.out _).mono ?_;rintro e w' ⟨rfl,rfl⟩;go_wp2_with fail
 refine(hp.out _).mono ?_;rintro e w' ⟨rfl,rfl⟩;go_wp2
 all_goals
  go_ret;refine⟨dU ?_,rfl⟩;first
   | (rw[←hb.out];done)
   | (rw[←hb.out,Bool.eq_iff_iff];simp;done)
   | (rw[←hb.out,Bool.eq_iff_iff];simp;omega)
   | (rw[←hb.out];simp_all;done)
theorem aNt (p k:ByteArray)(K:Int)(b:Bool)(w:World)(hp:Hid (aZ p 11))(hk:Hid (aZ k K))(hb:Hid ((decide (K=12))=b)) :
  Calls Tryz.prog 26 #[.string p,.string k] w fun e w'=>e=.returned (.bool b)∧w=w':=by
 go_enter Tryz.func26,Tryz.ntmps26
 go_wp2_with fail
 refine(hk.out _).mono ?_;rintro e w' ⟨rfl,rfl⟩;go_wp2_with fail
 refine(hp.out _).mono ?_;rintro e w' ⟨rfl,rfl⟩;go_wp2
 all_goals
  go_ret;refine⟨dU ?_,rfl⟩;first
   | (rw[←hb.out];done)
   | (rw[←hb.out,Bool.eq_iff_iff];simp;done)
   | (rw[←hb.out,Bool.eq_iff_iff];simp;omega)
   | (rw[←hb.out];simp_all;done)
theorem aNz (p k:ByteArray)(K:Int)(b:Bool)(w:World)(hp:Hid (aZ p 12))(hk:Hid (aZ k K))(hb:Hid ((decide (K=13))=b)) :
  Calls Tryz.prog 26 #[.string p,.string k] w fun e w'=>e=.returned (.bool b)∧w=w':=by
 go_enter Tryz.func26,Tryz.ntmps26
 go_wp2_with fail
 refine(hk.out _).mono ?_;rintro e w' ⟨rfl,rfl⟩;go_wp2_with fail
 refine(hp.out _).mono ?_;rintro e w' ⟨rfl,rfl⟩;go_wp2
 all_goals
  go_ret;refine⟨dU ?_,rfl⟩;first
   | (rw[←hb.out];done)
   | (rw[←hb.out,Bool.eq_iff_iff];simp;done)
   | (rw[←hb.out,Bool.eq_iff_iff];simp;omega)
   | (rw[←hb.out];simp_all;done)
theorem aNY (p k:ByteArray)(K:Int)(b:Bool)(w:World)(hp:Hid (aZ p 13))(hk:Hid (aZ k K))(hb:Hid ((decide (2≤K)&&decide (K≤7)||decide (K=9))=b)) :
  Calls Tryz.prog 26 #[.string p,.string k] w fun e w'=>e=.returned (.bool b)∧w=w':=by
 go_enter Tryz.func26,Tryz.ntmps26
 go_wp2_with fail
 refine(hk.out _).mono ?_;rintro e w' ⟨rfl,rfl⟩;go_wp2_with fail
 refine(hp.out _).mono ?_;rintro e w' ⟨rfl,rfl⟩;go_wp2
 all_goals
  go_ret;refine⟨dU ?_,rfl⟩;first
   | (rw[←hb.out];done)
   | (rw[←hb.out,Bool.eq_iff_iff];simp;done)
   | (rw[←hb.out,Bool.eq_iff_iff];simp;omega)
   | (rw[←hb.out];simp_all;done)
theorem aOj (p k:ByteArray)(K:Int)(b:Bool)(w:World)(hp:Hid (aZ p 14))(hk:Hid (aZ k K))(hb:Hid ((decide (2≤K)&&decide (K≤7)||decide (K=9))=b)) :
  Calls Tryz.prog 26 #[.string p,.string k] w fun e w'=>e=.returned (.bool b)∧w=w':=by
 go_enter Tryz.func26,Tryz.ntmps26
 go_wp2_with fail
 refine(hk.out _).mono ?_;rintro e w' ⟨rfl,rfl⟩;go_wp2_with fail
 refine(hp.out _).mono ?_;rintro e w' ⟨rfl,rfl⟩;go_wp2
 all_goals
  go_ret;refine⟨dU ?_,rfl⟩;first
   | (rw[←hb.out];done)
   | (rw[←hb.out,Bool.eq_iff_iff];simp;done)
   | (rw[←hb.out,Bool.eq_iff_iff];simp;omega)
   | (rw[←hb.out];simp_all;done)
theorem aFu (p k:ByteArray)(w:World):Calls Tryz.prog 26 #[.string p,.string k] w fun e w'=>e=.returned (.bool (rW p.data.toList k.data.toList))∧w=w':=by
 have hp:=aBD p;have hk:=aBD k;have hs:(k.toList==p.toList)=(k.data.toList==p.data.toList):=by rw[toList_data,toList_data]
 have lp:=nP p.data.toList;unfold rW;rw[←hs];generalize bO k.data.toList=K at hk;generalize bO p.data.toList=P at hp lp;have key:∀(n:Nat) (f:Bool),P=n→f=iV n K (k.toList==p.toList)→(∀b,Hid (aZ p n)→Hid (aZ k (K:Nat))→Hid (f=b)→Calls Tryz.prog 26 #[.string p,.string k] w fun e w'=>e=.returned (.bool b)∧w=w')→Calls Tryz.prog 26 #[.string p,.string k] w fun e w'=>e=.returned (.bool (iV P K (k.toList==p.toList)))∧w=w':=by
  intro n f hn hf h;subst hn;exact h _ (hid hp) (hid hk) (hid hf)
 have hP:P=0∨P=1∨P=2∨P=3∨P=4∨P=5∨P=6∨P=7∨P=8∨P=9∨P=10∨P=11∨P=12∨P=13∨P=14:=by omega
 rcases hP with h|h|h|h|h|h|h|h|h|h|h|h|h|h|h
 ·exact key 0 _ h (by simp only[iV];rw[Bool.eq_iff_iff];simp;try omega) fun b a1 a2 a3=>aOD p k _ b w a1 a2 a3
 ·exact key 1 _ h (by simp only[iV];rw[Bool.eq_iff_iff];simp;try omega) fun b a1 a2 a3=>aOJ p k _ b w a1 a2 a3
 ·exact key 2 _ h (by simp only[iV];rw[Bool.eq_iff_iff];simp;try omega) fun b a1 a2 a3=>aOz p k _ b w a1 a2 a3
 ·exact key 3 _ h (by simp only[iV];rw[Bool.eq_iff_iff];simp;try omega) fun b a1 a2 a3=>aOs p k _ b w a1 a2 a3
 ·exact key 4 _ h (by simp only[iV];rw[Bool.eq_iff_iff];simp;rw[show((K:Nat):Int)=4↔K=4 by omega,show((K:Nat):Int)=5↔K=5 by omega]) fun b a1 a2 a3=>aOB p k _ b w a1 a2 a3
 ·exact key 5 _ h (by simp only[iV];rw[Bool.eq_iff_iff];simp;try omega) fun b a1 a2 a3=>aOC p k _ b w a1 a2 a3
 ·exact key 6 _ h (by simp only[iV];rw[Bool.eq_iff_iff];simp;try omega) fun b a1 a2 a3=>aOp p k _ b w a1 a2 a3
 ·exact key 7 _ h (by simp only[iV];rw[Bool.eq_iff_iff];simp;try omega) fun b a1 a2 a3=>aOM p k _ b w a1 a2 a3
 ·exact key 8 _ h (by simp only[iV];rw[Bool.eq_iff_iff];simp;try omega) fun b a1 a2 a3=>aOF p k _ b w a1 a2 a3
 ·exact key 9 _ h (by simp only[iV];rw[Bool.eq_iff_iff];simp;try omega) fun b a1 a2 a3=>aOu p k _ b w a1 a2 a3
 ·exact key 10 _ h (by simp only[iV];rw[Bool.eq_iff_iff];simp;try omega) fun b a1 a2 a3=>aNP p k _ b w a1 a2 a3
 ·exact key 11 _ h (by simp only[iV];rw[Bool.eq_iff_iff];simp;try omega) fun b a1 a2 a3=>aNt p k _ b w a1 a2 a3
 ·exact key 12 _ h (by simp only[iV];rw[Bool.eq_iff_iff];simp;try omega) fun b a1 a2 a3=>aNz p k _ b w a1 a2 a3
 ·exact key 13 _ h (by simp only[iV];rw[Bool.eq_iff_iff];simp;try omega) fun b a1 a2 a3=>aNY p k _ b w a1 a2 a3
 ·exact key 14 _ h (by simp only[iV];rw[Bool.eq_iff_iff];simp;try omega) fun b a1 a2 a3=>aOj p k _ b w a1 a2 a3
theorem aMz (p:ByteArray)(w:World)(hp:Hid (aZ p 0)) :
  Calls Tryz.prog 28 #[.string p] w fun e w'=>e=.returned (.bool false)∧w=w':=by
 go_enter Tryz.func28,Tryz.ntmps28
 go_wp2_with fail
 refine(hp.out _).mono ?_;rintro e w' ⟨rfl,rfl⟩;go_wp2
 go_ret;exact⟨rfl,rfl⟩
theorem aNa (p:ByteArray)(w:World)(hp:Hid (aZ p 1)) :
  Calls Tryz.prog 28 #[.string p] w fun e w'=>e=.returned (.bool false)∧w=w':=by
 go_enter Tryz.func28,Tryz.ntmps28
 go_wp2_with fail
 refine(hp.out _).mono ?_;rintro e w' ⟨rfl,rfl⟩;go_wp2
 go_ret;exact⟨rfl,rfl⟩
theorem aMt (p:ByteArray)(w:World)(hp:Hid (aZ p 2)) :
  Calls Tryz.prog 28 #[.string p] w fun e w'=>e=.returned (.bool true)∧w=w':=by
 go_enter Tryz.func28,Tryz.ntmps28
 go_wp2_with fail
 refine(hp.out _).mono ?_;rintro e w' ⟨rfl,rfl⟩;go_wp2
 go_ret;exact⟨rfl,rfl⟩
theorem aMj (p:ByteArray)(w:World)(hp:Hid (aZ p 3)) :
  Calls Tryz.prog 28 #[.string p] w fun e w'=>e=.returned (.bool true)∧w=w':=by
 go_enter Tryz.func28,Tryz.ntmps28
 go_wp2_with fail
 refine(hp.out _).mono ?_;rintro e w' ⟨rfl,rfl⟩;go_wp2
 go_ret;exact⟨rfl,rfl⟩
theorem aMH (p:ByteArray)(w:World)(hp:Hid (aZ p 4)) :
  Calls Tryz.prog 28 #[.string p] w fun e w'=>e=.returned (.bool true)∧w=w':=by
 go_enter Tryz.func28,Tryz.ntmps28
 go_wp2_with fail
 refine(hp.out _).mono ?_;rintro e w' ⟨rfl,rfl⟩;go_wp2
 go_ret;exact⟨rfl,rfl⟩
theorem aMG (p:ByteArray)(w:World)(hp:Hid (aZ p 5)) :
  Calls Tryz.prog 28 #[.string p] w fun e w'=>e=.returned (.bool false)∧w=w':=by
 go_enter Tryz.func28,Tryz.ntmps28
 go_wp2_with fail
 refine(hp.out _).mono ?_;rintro e w' ⟨rfl,rfl⟩;go_wp2
 go_ret;exact⟨rfl,rfl⟩
theorem aLV (p:ByteArray)(w:World)(hp:Hid (aZ p 6)) :
  Calls Tryz.prog 28 #[.string p] w fun e w'=>e=.returned (.bool false)∧w=w':=by
 go_enter Tryz.func28,Tryz.ntmps28
 go_wp2_with fail
 refine(hp.out _).mono ?_;rintro e w' ⟨rfl,rfl⟩;go_wp2
 go_ret;exact⟨rfl,rfl⟩
theorem aMJ (p:ByteArray)(w:World)(hp:Hid (aZ p 7)) :
  Calls Tryz.prog 28 #[.string p] w fun e w'=>e=.returned (.bool false)∧w=w':=by
 go_enter Tryz.func28,Tryz.ntmps28
 go_wp2_with fail
 refine(hp.out _).mono ?_;rintro e w' ⟨rfl,rfl⟩;go_wp2
 go_ret;exact⟨rfl,rfl⟩
theorem aMu (p:ByteArray)(w:World)(hp:Hid (aZ p 8)) :
  Calls Tryz.prog 28 #[.string p] w fun e w'=>e=.returned (.bool true)∧w=w':=by
 go_enter Tryz.func28,Tryz.ntmps28
 go_wp2_with fail
 refine(hp.out _).mono ?_;rintro e w' ⟨rfl,rfl⟩;go_wp2
 go_ret;exact⟨rfl,rfl⟩
theorem aM0 (p:ByteArray)(w:World)(hp:Hid (aZ p 9)) :
  Calls Tryz.prog 28 #[.string p] w fun e w'=>e=.returned (.bool false)∧w=w':=by
 go_enter Tryz.func28,Tryz.ntmps28
 go_wp2_with fail
 refine(hp.out _).mono ?_;rintro e w' ⟨rfl,rfl⟩;go_wp2
 go_ret;exact⟨rfl,rfl⟩
theorem aLb (p:ByteArray)(w:World)(hp:Hid (aZ p 10)) :
  Calls Tryz.prog 28 #[.string p] w fun e w'=>e=.returned (.bool true)∧w=w':=by
 go_enter Tryz.func28,Tryz.ntmps28
 go_wp2_with fail
 refine(hp.out _).mono ?_;rintro e w' ⟨rfl,rfl⟩;go_wp2
 go_ret;exact⟨rfl,rfl⟩
theorem aLe (p:ByteArray)(w:World)(hp:Hid (aZ p 11)) :
  Calls Tryz.prog 28 #[.string p] w fun e w'=>e=.returned (.bool false)∧w=w':=by
 go_enter Tryz.func28,Tryz.ntmps28
 go_wp2_with fail
 refine(hp.out _).mono ?_;rintro e w' ⟨rfl,rfl⟩;go_wp2
 go_ret;exact⟨rfl,rfl⟩
theorem aKP (p:ByteArray)(w:World)(hp:Hid (aZ p 12)) :
  Calls Tryz.prog 28 #[.string p] w fun e w'=>e=.returned (.bool false)∧w=w':=by
 go_enter Tryz.func28,Tryz.ntmps28
 go_wp2_with fail
 refine(hp.out _).mono ?_;rintro e w' ⟨rfl,rfl⟩;go_wp2
 go_ret;exact⟨rfl,rfl⟩
theorem aK1 (p:ByteArray)(w:World)(hp:Hid (aZ p 13)) :
  Calls Tryz.prog 28 #[.string p] w fun e w'=>e=.returned (.bool true)∧w=w':=by
 go_enter Tryz.func28,Tryz.ntmps28
 go_wp2_with fail
 refine(hp.out _).mono ?_;rintro e w' ⟨rfl,rfl⟩;go_wp2
 go_ret;exact⟨rfl,rfl⟩
theorem aJl (p:ByteArray)(w:World)(hp:Hid (aZ p 14)) :
  Calls Tryz.prog 28 #[.string p] w fun e w'=>e=.returned (.bool true)∧w=w':=by
 go_enter Tryz.func28,Tryz.ntmps28
 go_wp2_with fail
 refine(hp.out _).mono ?_;rintro e w' ⟨rfl,rfl⟩;go_wp2
 go_ret;exact⟨rfl,rfl⟩
theorem aBT (p:ByteArray)(w:World):Calls Tryz.prog 28 #[.string p] w fun e w'=>e=.returned (.bool (jI p.data.toList))∧w=w':=by
 have hp:=aBD p;have lp:=nP p.data.toList;unfold jI;generalize bO p.data.toList=P at hp lp;have hP:P=0∨P=1∨P=2∨P=3∨P=4∨P=5∨P=6∨P=7∨P=8∨P=9∨P=10∨P=11∨P=12∨P=13∨P=14:=by omega
 rcases hP with rfl|rfl|rfl|rfl|rfl|rfl|rfl|rfl|rfl|rfl|rfl|rfl|rfl|rfl|rfl
 ·exact aMz p w (hid hp)
 ·exact aNa p w (hid hp)
 ·exact aMt p w (hid hp)
 ·exact aMj p w (hid hp)
 ·exact aMH p w (hid hp)
 ·exact aMG p w (hid hp)
 ·exact aLV p w (hid hp)
 ·exact aMJ p w (hid hp)
 ·exact aMu p w (hid hp)
 ·exact aM0 p w (hid hp)
 ·exact aLb p w (hid hp)
 ·exact aLe p w (hid hp)
 ·exact aKP p w (hid hp)
 ·exact aK1 p w (hid hp)
 ·exact aJl p w (hid hp)
open Go.RowKit
theorem pU (l:List UInt8):(⟨l.toArray⟩:ByteArray).size=l.length:=rfl
theorem pE (l:List UInt8):(cV l).length≤3*l.length:=Nat.le_trans (aK8 l) (aBa l.length l jG)
theorem aJv (s:ByteArray)(hs:s.size≤1000000000)(w:World)(T:aC w):Calls Tryz.prog 34 #[.string s] w fun e w'=>e=.returned (.string ⟨(dI s.data.toList).toArray⟩)∧Below w.heap.size w w':=by
 have HT:=hid T;clear T;have htl:=pE s.data.toList;have hsl:s.data.toList.length=s.size:=rfl;have h1:(⟨(cV s.data.toList).toArray⟩:ByteArray).size<4294967281:=by rw[pU];omega
 have h2:((cV s.data.toList).filter (fun b=>b !=9)).length≤(cV s.data.toList).length:=List.length_filter_le ..;have h3:(((cV s.data.toList).filter (fun b=>b !=9)).filter (fun b=>b !=10)).length≤((cV s.data.toList).filter (fun b=>b !=9)).length:=List.length_filter_le ..;have H1:=hid h1;have H2:=hid h2;have H3:=hid h3;have HL:=hid htl;have HSL:=hid hsl;clear h1 h2 h3 htl hsl;go_enter Tryz.func34,Tryz.ntmps34
 go_wp2_with fail
 refine(nZ s hs w HT.out).mono ?_;rintro e W1 ⟨rfl,B1⟩;have HB1:=hid B1;have HT1:=hid (HT.out.below HB1.out jG);clear B1;go_wp2_with fail
 obtain⟨m,hm⟩:=HT1.out.most;refine(Tryz.strings_ReplaceAll ⟨(cV s.data.toList).toArray⟩ ⟨#[9]⟩ ⟨#[]⟩ m _ H1.out hm (by decide) ?_).mono ?_
 ·have e:(⟨#[]⟩:ByteArray).size=0:=rfl;rw[e,Nat.mul_zero];have:=H1.out;omega
 have e1:Lib.replaceAll (⟨(cV s.data.toList).toArray⟩:ByteArray).data.toList (⟨#[9]⟩:ByteArray).data.toList (⟨#[]⟩:ByteArray).data.toList=(cV s.data.toList).filter (fun b=>b !=9):=tC 9 _;rw[e1];rintro e W2 ⟨rfl,B2⟩;have HB2:=mB HB1 B2;have HT2:=hid (HT.out.below HB2.out jG);clear B2 e1 hm;go_wp2_with fail
 obtain⟨m2,hm2⟩:=HT2.out.most;have h4:(⟨((cV s.data.toList).filter (fun b=>b !=9)).toArray⟩:ByteArray).size<4294967281:=by
  rw[pU];have:=H2.out;have:=HL.out;have:=HSL.out;omega
 refine(Tryz.strings_ReplaceAll ⟨((cV s.data.toList).filter (fun b=>b !=9)).toArray⟩ ⟨#[10]⟩ ⟨#[]⟩ m2 _ h4 hm2 (by decide) ?_).mono ?_
 ·have e:(⟨#[]⟩:ByteArray).size=0:=rfl;rw[e,Nat.mul_zero];omega
 have e2:Lib.replaceAll (⟨((cV s.data.toList).filter (fun b=>b !=9)).toArray⟩:ByteArray).data.toList (⟨#[10]⟩:ByteArray).data.toList (⟨#[]⟩:ByteArray).data.toList=lA s.data.toList:=tC 10 _;rw[e2];rintro e W3 ⟨rfl,B3⟩;have HB3:=mB HB2 B3;clear B3 e2 hm2 h4;go_wp2_with fail
 have h5:(⟨(lA s.data.toList).toArray⟩:ByteArray).size≤9223372036854775807:=by
  rw[pU];have:=H2.out;have:=H3.out;have:=HL.out;have:=HSL.out;unfold lA;omega
 refine(Tryz.strings_Trim_one ⟨(lA s.data.toList).toArray⟩ 32 (by decide) _ h5).mono ?_;clear h5;rintro e W4 ⟨rfl,hW4⟩;have HB4:Hid (Below w.heap.size w W4):=by
  rcases hW4 with rfl|rfl
  ·exact HB3.out
  ·exact HB3.out.drew
 clear hW4;go_wp2
 go_ret;exact⟨rfl,HB4.out⟩
def mX (w:World)(B:Nat)(L:List UInt8):Prop :=
 ∃cur:Array Value,w.heap[B]?=some (.cells cur 5 (cur.size,cur.size+1))∧L.length≤cur.size∧∀j (h:j<L.length),cur[j]?=some (.int .u8 (L[j].toNat:Nat))
theorem mX.bytes {w:World}{B:Nat}{L:List UInt8}(h:mX w B L):cU w B 0 L:=by
 obtain⟨cur,h1,h2,h3⟩:=h;intro j hj;rw[Nat.zero_add,cell_of_row w B j cur 5 _ h1];exact h3 j hj
theorem mX.free {w:World}{B:Nat}{L:List UInt8}(h:mX w B L){j:Nat}(hj:j<L.length):w.frozen? ⟨B,j,none⟩=false:=by
 obtain⟨cur,h1,h2,h3⟩:=h;simp only[World.frozen?,h1,Bool.and_eq_false_iff,decide_eq_false_iff_not];left;omega
theorem mX.lt {w:World}{B:Nat}{L:List UInt8}(h:mX w B L):B<w.heap.size:=by
 obtain⟨cur,h1,_⟩:=h;exact(Array.getElem?_eq_some_iff.1 h1).1
theorem mX.set {w:World}{B:Nat}{L:List UInt8}(h:mX w B L)(j:Nat)(hj:j<L.length)(c:UInt8)(v:Value)(hv:v=.int .u8 (c.toNat:Nat)):mX (w.setCell ⟨B,j,none⟩ v) B (L.set j c):=by
 obtain⟨cur,h1,h2,h3⟩:=h;subst hv;rw[setCell_eq_setRow w B j cur 5 _ _ h1];refine⟨cur.setIfInBounds j (.int .u8 (c.toNat:Nat)),?_,by simpa using h2,?_⟩
 ·have:=setRow_heap w B cur (cur.setIfInBounds j (.int .u8 (c.toNat:Nat))) 5 _ h1;simpa using this
 ·intro i hi;have hi':i<L.length:=by simpa using hi
  by_cases e:j=i
  ·subst e;rw[Array.getElem?_setIfInBounds_self_of_lt (by omega)];simp
  ·rw[Array.getElem?_setIfInBounds_ne e,h3 i hi'];simp[e]
theorem aDh (s:ByteArray)(w:World):∃cap W,(convert 9 35 (.string s)).run Tryz.prog w=.ok (.slice (some ⟨w.heap.size,0,none⟩) s.size cap) W∧Below w.heap.size w W∧mX W w.heap.size s.data.toList∧s.size≤cap:=by
 obtain⟨cap,W,h1,h2,h3,h4,h5⟩:=tU s w;refine⟨cap,W,h1,h2,?_,h4⟩;have e:=Lib.run_convert_string_bytes (P:=Tryz.prog) w 9 35 5 s Tryz.underlying9 Tryz.underlying35 Tryz.underlying5;rw[h1]at e
 cases e;refine⟨_,Lib.bytesWorld_at_new w 5 s,?_,?_⟩
 ·unfold Lib.bytesCells;simp
 ·intro j hj;have hj':j<s.data.size:=hj;unfold Lib.bytesCells;rw[Array.getElem?_append_left (by simpa using hj')];rw[Array.getElem?_map,Array.getElem?_eq_getElem hj'];simp
open Go.RowKit
def sI (L:List UInt8)(B k:Nat)(w wx:World):Prop:=k≤L.length∧mX wx B (dC (L.take k)++L.drop k)∧Below B w wx
theorem aBY (L:List UInt8)(k:Nat)(h:k≤L.length):(dC (L.take k)++L.drop k).length=L.length:=by
 unfold dC;simp;omega
theorem aDu (L:List UInt8)(k:Nat)(h:k<L.length):(dC (L.take k)++L.drop k)[k]'(by rw[aBY L k (by omega)];exact h)=L[k]:=by
 have hl:(dC (L.take k)).length=k:=by unfold dC;simp;omega
 rw[List.getElem_append_right (by omega)];simp[hl]
theorem aAq (L:List UInt8)(k:Nat)(h:k<L.length):(dC (L.take k)++L.drop k).set k (fG L[k])=dC (L.take (k+1))++L.drop (k+1):=by
 have hl:(dC (L.take k)).length=k:=by unfold dC;simp;omega
 rw[List.set_append_right _ _ (by omega),hl,Nat.sub_self,List.drop_eq_getElem_cons h,List.set_cons_zero,List.take_succ_eq_append_getElem h];unfold dC;rw[List.map_append,List.map_cons,List.map_nil,List.append_assoc,List.singleton_append]
theorem aF4 (L:List UInt8)(k:Nat)(h:k<L.length)(hs:fG L[k]=L[k]):dC (L.take k)++L.drop k=dC (L.take (k+1))++L.drop (k+1):=by
 rw[←aAq L k h,hs];have:=aDu L k h;conv=>rhs;rw[←this]
 rw[List.set_getElem_self]
theorem aGc (L:List UInt8)(B k:Nat)(w wx:World)(h:sI L B k w wx)(hk:k<L.length):∃c:UInt8,wx.cell? ⟨B,k,none⟩=some (.int .u8 (c.toNat:Nat))∧wx.frozen? ⟨B,k,none⟩=false ∧
  (fG c=c→sI L B (k+1) w wx)∧(∀v,v=.int .u8 ((fG c).toNat:Nat)→sI L B (k+1) w (wx.setCell ⟨B,k,none⟩ v)):=by
 obtain⟨h1,h2,h3⟩:=h;have hl:=aBY L k h1;refine⟨L[k],?_,h2.free (by omega),fun e=>⟨hk,by rw[←aF4 L k hk e];exact h2,h3⟩,fun v hv=>⟨hk,?_,h3.setCell (p:=⟨B,k,none⟩) jG _⟩⟩
 ·have:=h2.bytes k (by omega);rw[aDu L k hk,Nat.zero_add]at this
  exact this
 ·rw[←aAq L k hk];exact h2.set k (by omega) _ v hv
theorem aCw (s:ByteArray)(hs:s.size≤140737488355328)(w:World):Calls Tryz.prog 72 #[.string s] w fun e w'=>e=.returned (.string ⟨(dC s.data.toList).toArray⟩)∧Below w.heap.size w w':=by
 obtain⟨cap,W,hrun,hb,hrow,hcap⟩:=aDh s w;have H0:Hid (sI s.data.toList w.heap.size 0 w W):=⟨Nat.zero_le _,hrow,hb⟩
 have HC:=hid hcap;clear hb hrow hcap;go_enter Tryz.func72,Tryz.ntmps72
 go_wp2
 go_loopw [10] (fun i wx=>∃k:Nat,i=.int .i64 k∧Hid (sI s.data.toList w.heap.size k w wx)) (fun i _=>s.size-(intOf i).toNat)
 case atStart=>exact⟨0,rfl,H0⟩
 case round =>
  obtain⟨k,rfl,hR⟩:=hrel;rcases Nat.lt_or_ge k s.size with hlt|hge
  ·obtain⟨c,hcell,hfree,h1,h2⟩:=aGc _ _ _ _ _ hR.out hlt;have H1:=hid h1;have H2:=hid h2;have hb8:=c.toNat_lt;have HN:=hid (aF5 c);clear h1 h2;by_cases hc:65≤c.toNat∧c.toNat≤90
   ·have hc1:65≤c.toNat:=hc.1;have hc2:c.toNat≤90:=hc.2;have l1:decide (65≤(c.toNat:Int))=true:=by simp;omega
    have l2:decide ((c.toNat:Int)≤90)=true:=by simp;omega
    have HE:Hid ((fG c).toNat=c.toNat+32):=by
     show _=_;rw[HN.out,if_pos hc]
    clear hc;go_wp2
    refine⟨⟨k+1,by congr 1,H2.out _ (by rw[HE.out];congr 1)⟩,?_⟩;simp[intOf];omega
   ·have HE:Hid (fG c=c):=by
     show _=_;apply UInt8.toNat_inj.1;rw[HN.out,if_neg hc]
    rcases Nat.lt_or_ge c.toNat 65 with hc1|hc1
    ·have l1:decide (65≤(c.toNat:Int))=false:=by simp;omega
     clear hc;go_wp2
     refine⟨⟨k+1,by congr 1,H1.out HE.out⟩,?_⟩;simp[intOf];omega
    ·have l1:decide (65≤(c.toNat:Int))=true:=by simp;omega
     have l2:decide ((c.toNat:Int)≤90)=false:=by simp;omega
     clear hc;go_wp2
     refine⟨⟨k+1,by congr 1,H1.out HE.out⟩,?_⟩;simp[intOf];omega
  ·have hR2:=hR.out.2.1;have hk:k=s.data.toList.length:=Nat.le_antisymm hR.out.1 hge;rw[hk,List.take_length,List.drop_length,List.append_nil]at hR2
   have hlen:(dC s.data.toList).length=s.size:=by unfold dC;simp
   have hcv:(convert 35 9 (.slice (some ⟨w.heap.size,0,none⟩) s.size cap)).run Tryz.prog wr=.ok (.string ⟨(dC s.data.toList).toArray⟩) wr:=by
    rw[←hlen];refine run_convert_bytes_back wr 35 9 5 _ cap _ Tryz.underlying35 Tryz.underlying5 Tryz.underlying9 ?_;intro j hj;have hadd:(⟨w.heap.size,0,none⟩:Addr).add j=⟨w.heap.size,0+j,none⟩:=by unfold Addr.add;split<;>simp_all
    rw[hadd];exact hR2.bytes j hj
   clear hR2 hlen hk;go_wp2
   go_ret;exact⟨rfl,hR.out.2.2⟩
open Go.RowKit
def oA (l:List UInt8):Value:=match lJ l with
 | some w=>.tuple #[.string ⟨w.toArray⟩,.bool true]
 | none=>.tuple #[.string ⟨#[]⟩,.bool false]
theorem vH {l w:List UInt8}(h:lJ l=some w):oA l=.tuple #[.string ⟨w.toArray⟩,.bool true]:=by unfold oA;rw[h]
theorem nI {l:List UInt8}(h:lJ l=none):oA l=.tuple #[.string ⟨#[]⟩,.bool false]:=by unfold oA;rw[h]
theorem aH8 (s:ByteArray)(hs:s.size<4294967281)(h:(58:UInt8)∉s.data.toList)(w:World)(T:aC w):Calls Tryz.prog 30 #[.string s] w fun e w'=>e=.returned (.tuple #[.string ⟨#[]⟩,.bool false])∧Below w.heap.size w w':=by
 obtain⟨m,hm⟩:=T.most;have C:=Tryz.strings_Cut s ⟨#[58]⟩ m w hs hm;have hc:Lib.cut s.data.toList (⟨#[58]⟩:ByteArray).data.toList=(s.data.toList,[],false):=aDp _ 58 h;rw[hc]at C
 dsimp only at C
 have HC:=hid C;clear C hm T hc h;go_enter Tryz.func30,Tryz.ntmps30
 go_wp2_with fail
 refine HC.out.mono ?_;rintro e W1 ⟨rfl,hW⟩;have HB1:Hid (Below w.heap.size w W1):=by obtain⟨n,rfl⟩:=hW;exact below_drewNm w n
 clear hW;go_wp2
 go_ret2;exact⟨rfl,HB1.out⟩
theorem aEE (s:ByteArray)(q:List UInt8)(hs:s.size<4294967281)(h:s.data.toList=58 :: q)(w:World)(T:aC w):Calls Tryz.prog 30 #[.string s] w fun e w'=>e=.returned (.tuple #[.string ⟨#[]⟩,.bool false])∧Below w.heap.size w w':=by
 obtain⟨m,hm⟩:=T.most;have C:=Tryz.strings_Cut s ⟨#[58]⟩ m w hs hm;have hc:Lib.cut s.data.toList (⟨#[58]⟩:ByteArray).data.toList=([],q,true):=by rw[h];exact aBc [] q 58 (by simp)
 rw[hc]at C
 dsimp only at C
 have HC:=hid C;clear C hm T hc h;go_enter Tryz.func30,Tryz.ntmps30
 go_wp2_with fail
 refine HC.out.mono ?_;rintro e W1 ⟨rfl,hW⟩;have HB1:Hid (Below w.heap.size w W1):=by obtain⟨n,rfl⟩:=hW;exact below_drewNm w n
 clear hW;go_wp2
 go_ret2;exact⟨rfl,HB1.out⟩
def sT (p:List UInt8)(k:Nat):Prop:=k≤p.length∧∀j (h:j<p.length),j<k→aW (fG p[j]) j=true
theorem sT.step {p:List UInt8}{k:Nat}(h:sT p k)(hk:k<p.length)(hb:aW (fG p[k]) k=true):sT p (k+1) :=
 ⟨hk,fun j hj hlt=>by
  rcases Nat.lt_or_ge j k with h1|h1
  ·exact h.2 j hj h1
  ·obtain rfl:j=k:=by omega
   exact hb⟩
theorem sT.all {p:List UInt8}{k:Nat}(h:sT p k)(hk:p.length≤k):gC 0 p=true:=by
 rw[uW];intro j c hc;have hj:j<p.length:=(List.getElem?_eq_some_iff.1 hc).1;rw[List.getElem?_eq_getElem hj]at hc
 cases hc;rw[Nat.zero_add];exact h.2 j hj (by omega)
theorem cI {p:List UInt8}{k:Nat}(hk:k<p.length)(hb:aW (fG p[k]) k=false):¬gC 0 p=true:=by
 intro h;rw[uW]at h
 have:=h k p[k] (List.getElem?_eq_getElem hk);rw[Nat.zero_add,hb]at this
 cases this
def aOQ (p:List UInt8)(e:Ending):Prop:=¬gC 0 p=true∧e=.returned (.tuple #[.string ⟨#[]⟩,.bool false])
def aOy (p:List UInt8)(e:Ending):Prop:=gC 0 p=true∧e=.returned (.tuple #[.string ⟨(dC p).toArray⟩,.bool true])
def aON (p:List UInt8)(w:World)(e:Ending)(w':World):Prop:=(aOy p e∨aOQ p e)∧Below w.heap.size w w'
theorem aEw (s:ByteArray)(p q:List UInt8)(hs:s.size<4294967281)(h:s.data.toList=p++58 :: q)(h58:(58:UInt8)∉p)(hp:p≠[])(w:World)(T:aC w):Calls Tryz.prog 30 #[.string s] w (aON p w):=by
 obtain⟨m,hm⟩:=T.most;have C:=Tryz.strings_Cut s ⟨#[58]⟩ m w hs hm;have hc:Lib.cut s.data.toList (⟨#[58]⟩:ByteArray).data.toList=(p,q,true):=by rw[h];exact aBc p q 58 h58
 rw[hc]at C
 dsimp only at C
 have hps:p.length≤s.size:=by
  have e:s.size=s.data.toList.length:=rfl;rw[e,h,List.length_append];omega
 obtain⟨wd,hwd⟩:∃wd:ByteArray,wd=⟨p.toArray⟩:=⟨_,rfl⟩
 have hwl:wd.data.toList=p:=by rw[hwd]
 have hwn:¬wd.toList=[]:=by rw[toList_data,hwl];exact hp
 have hwe:wd.toList.isEmpty=false:=by rw[toList_data,hwl,List.isEmpty_eq_false_iff];exact hp
 rw[←hwd]at C
 have S:=fun W=>aCw wd (by rw[hwd];show p.length≤_;omega) W
 rw[hwl]at S
 obtain⟨sm,hsm⟩:∃sm:ByteArray,sm=⟨(dC p).toArray⟩:=⟨_,rfl⟩
 rw[←hsm]at S
 have hsmz:sm.size=p.length:=by rw[hsm];show(dC p).length=_;unfold dC;simp
 have hsml:sm.data.toList=dC p:=by rw[hsm]
 have HC:=hid C;have HS:=hid S;have HSZ:=hid hsmz;have HSL:=hid hsml;have HSM:=hid hsm;have HPS:=hid hps;clear C S hm T hc h hp hwl hwd hsmz hsml hps h58 hsm;go_enter Tryz.func30,Tryz.ntmps30
 go_wp2_with fail
 refine HC.out.mono ?_;rintro e W1 ⟨rfl,hW⟩;have HB1:Hid (Below w.heap.size w W1):=by obtain⟨n,rfl⟩:=hW;exact below_drewNm w n
 clear hW;go_wp2_with fail
 refine(HS.out W1).mono ?_;rintro e W2 ⟨rfl,B2⟩;have HB2:=mB HB1 B2;clear B2 hwn hwe;obtain⟨cap,W3,hrun,hb3,hrow,hcap⟩:=aDh sm W2;have HB3:=mB HB2 hb3;have HROW:=hid (hrow.bytes);have HCAP:=hid hcap;have hszb:sm.size≤140737488355328:=by have:=HSZ.out;have:=HPS.out;omega
 clear hb3 hrow hcap;go_wp2
 clear hrun;generalize W2.heap.size=B at HROW;go_loop [2,3,27] (fun a b i=>a=.string ⟨#[]⟩∧b=.bool false∧∃k:Nat,i=.int .i64 k∧Hid (sT p k)) (fun _ _ i=>sm.size-(intOf i).toNat)
 case atStart=>exact⟨rfl,rfl,0,rfl,Nat.zero_le _,fun j _ h=>absurd h (by omega)⟩
 case round =>
  obtain⟨rfl,rfl,k,rfl,hR⟩:=hrel;rcases Nat.lt_or_ge k sm.size with hlt|hge
  ·have hkp:k<p.length:=by rw[←HSZ.out];exact hlt
   have hcell:=HROW.out k (by show k<sm.size;exact hlt);have hget:sm.data.toList[k]'(by show k<sm.size;exact hlt)=fG p[k]:=by
    have:=HSL.out;simp only[this];unfold dC;simp
   rw[hget,Nat.zero_add]at hcell
   obtain⟨c,hc⟩:∃c,fG p[k]=c:=⟨_,rfl⟩
   rw[hc]at hcell
   have HCC:Hid (fG p[k]=c):=hc;have HKP:=hid hkp;clear hget hc;have hb8:=c.toNat_lt;have hst:∀b,aW c k=b→aW (fG (p[k]'HKP.out)) k=b:=fun b hb=>by rw[HCC.out,hb]
   have HST:=hid hst;clear hst;by_cases hk0:k=0
   ·have hk1:((k:Int)==0)=true:=by simp;omega
    have hcls:(0≤c.toNat∧c.toNat≤42)∨(43≤c.toNat∧c.toNat≤43)∨(44≤c.toNat∧c.toNat≤44)∨(45≤c.toNat∧c.toNat≤45)∨(46≤c.toNat∧c.toNat≤46)∨(47≤c.toNat∧c.toNat≤47)∨(48≤c.toNat∧c.toNat≤57)∨(58≤c.toNat∧c.toNat≤96)∨(97≤c.toNat∧c.toNat≤122)∨(123≤c.toNat∧c.toNat≤255):=by omega
    rcases hcls with hcls|hcls|hcls|hcls|hcls|hcls|hcls|hcls|hcls|hcls
    ·obtain⟨c1,c2⟩:=hcls;have t0:decide (97≤(c.toNat:Int))=false:=by simp;omega
     have t1:decide ((c.toNat:Int)≤122)=true:=by simp;omega
     have t2:decide (48≤(c.toNat:Int))=false:=by simp;omega
     have t3:decide ((c.toNat:Int)≤57)=true:=by simp;omega
     have t4:((c.toNat:Int)==43)=false:=by simp;omega
     have t5:((c.toNat:Int)==45)=false:=by simp;omega
     have t6:((c.toNat:Int)==46)=false:=by simp;omega
     have HE:Hid (aW c k=false):=by show _=_;unfold aW;simp;omega
     clear c1 c2 hk0;go_wp2
     go_ret2;exact⟨.inr ⟨cI HKP.out (HST.out _ HE.out),rfl⟩,HB3.out⟩
    ·obtain⟨c1,c2⟩:=hcls;have t0:decide (97≤(c.toNat:Int))=false:=by simp;omega
     have t1:decide ((c.toNat:Int)≤122)=true:=by simp;omega
     have t2:decide (48≤(c.toNat:Int))=false:=by simp;omega
     have t3:decide ((c.toNat:Int)≤57)=true:=by simp;omega
     have t4:((c.toNat:Int)==43)=true:=by simp;omega
     have t5:((c.toNat:Int)==45)=false:=by simp;omega
     have t6:((c.toNat:Int)==46)=false:=by simp;omega
     have HE:Hid (aW c k=false):=by show _=_;unfold aW;simp;omega
     clear c1 c2 hk0;go_wp2
     go_ret2;exact⟨.inr ⟨cI HKP.out (HST.out _ HE.out),rfl⟩,HB3.out⟩
    ·obtain⟨c1,c2⟩:=hcls;have t0:decide (97≤(c.toNat:Int))=false:=by simp;omega
     have t1:decide ((c.toNat:Int)≤122)=true:=by simp;omega
     have t2:decide (48≤(c.toNat:Int))=false:=by simp;omega
     have t3:decide ((c.toNat:Int)≤57)=true:=by simp;omega
     have t4:((c.toNat:Int)==43)=false:=by simp;omega
     have t5:((c.toNat:Int)==45)=false:=by simp;omega
     have t6:((c.toNat:Int)==46)=false:=by simp;omega
     have HE:Hid (aW c k=false):=by show _=_;unfold aW;simp;omega
     clear c1 c2 hk0;go_wp2
     go_ret2;exact⟨.inr ⟨cI HKP.out (HST.out _ HE.out),rfl⟩,HB3.out⟩
    ·obtain⟨c1,c2⟩:=hcls;have t0:decide (97≤(c.toNat:Int))=false:=by simp;omega
     have t1:decide ((c.toNat:Int)≤122)=true:=by simp;omega
     have t2:decide (48≤(c.toNat:Int))=false:=by simp;omega
     have t3:decide ((c.toNat:Int)≤57)=true:=by simp;omega
     have t4:((c.toNat:Int)==43)=false:=by simp;omega
     have t5:((c.toNat:Int)==45)=true:=by simp;omega
     have t6:((c.toNat:Int)==46)=false:=by simp;omega
     have HE:Hid (aW c k=false):=by show _=_;unfold aW;simp;omega
     clear c1 c2 hk0;go_wp2
     go_ret2;exact⟨.inr ⟨cI HKP.out (HST.out _ HE.out),rfl⟩,HB3.out⟩
    ·obtain⟨c1,c2⟩:=hcls;have t0:decide (97≤(c.toNat:Int))=false:=by simp;omega
     have t1:decide ((c.toNat:Int)≤122)=true:=by simp;omega
     have t2:decide (48≤(c.toNat:Int))=false:=by simp;omega
     have t3:decide ((c.toNat:Int)≤57)=true:=by simp;omega
     have t4:((c.toNat:Int)==43)=false:=by simp;omega
     have t5:((c.toNat:Int)==45)=false:=by simp;omega
     have t6:((c.toNat:Int)==46)=true:=by simp;omega
     have HE:Hid (aW c k=false):=by show _=_;unfold aW;simp;omega
     clear c1 c2 hk0;go_wp2
     go_ret2;exact⟨.inr ⟨cI HKP.out (HST.out _ HE.out),rfl⟩,HB3.out⟩
    ·obtain⟨c1,c2⟩:=hcls;have t0:decide (97≤(c.toNat:Int))=false:=by simp;omega
     have t1:decide ((c.toNat:Int)≤122)=true:=by simp;omega
     have t2:decide (48≤(c.toNat:Int))=false:=by simp;omega
     have t3:decide ((c.toNat:Int)≤57)=true:=by simp;omega
     have t4:((c.toNat:Int)==43)=false:=by simp;omega
     have t5:((c.toNat:Int)==45)=false:=by simp;omega
     have t6:((c.toNat:Int)==46)=false:=by simp;omega
     have HE:Hid (aW c k=false):=by show _=_;unfold aW;simp;omega
     clear c1 c2 hk0;go_wp2
     go_ret2;exact⟨.inr ⟨cI HKP.out (HST.out _ HE.out),rfl⟩,HB3.out⟩
    ·obtain⟨c1,c2⟩:=hcls;have t0:decide (97≤(c.toNat:Int))=false:=by simp;omega
     have t1:decide ((c.toNat:Int)≤122)=true:=by simp;omega
     have t2:decide (48≤(c.toNat:Int))=true:=by simp;omega
     have t3:decide ((c.toNat:Int)≤57)=true:=by simp;omega
     have t4:((c.toNat:Int)==43)=false:=by simp;omega
     have t5:((c.toNat:Int)==45)=false:=by simp;omega
     have t6:((c.toNat:Int)==46)=false:=by simp;omega
     have HE:Hid (aW c k=false):=by show _=_;unfold aW;simp;omega
     clear c1 c2 hk0;go_wp2
     go_ret2;exact⟨.inr ⟨cI HKP.out (HST.out _ HE.out),rfl⟩,HB3.out⟩
    ·obtain⟨c1,c2⟩:=hcls;have t0:decide (97≤(c.toNat:Int))=false:=by simp;omega
     have t1:decide ((c.toNat:Int)≤122)=true:=by simp;omega
     have t2:decide (48≤(c.toNat:Int))=true:=by simp;omega
     have t3:decide ((c.toNat:Int)≤57)=false:=by simp;omega
     have t4:((c.toNat:Int)==43)=false:=by simp;omega
     have t5:((c.toNat:Int)==45)=false:=by simp;omega
     have t6:((c.toNat:Int)==46)=false:=by simp;omega
     have HE:Hid (aW c k=false):=by show _=_;unfold aW;simp;omega
     clear c1 c2 hk0;go_wp2
     go_ret2;exact⟨.inr ⟨cI HKP.out (HST.out _ HE.out),rfl⟩,HB3.out⟩
    ·obtain⟨c1,c2⟩:=hcls;have t0:decide (97≤(c.toNat:Int))=true:=by simp;omega
     have t1:decide ((c.toNat:Int)≤122)=true:=by simp;omega
     have t2:decide (48≤(c.toNat:Int))=true:=by simp;omega
     have t3:decide ((c.toNat:Int)≤57)=false:=by simp;omega
     have t4:((c.toNat:Int)==43)=false:=by simp;omega
     have t5:((c.toNat:Int)==45)=false:=by simp;omega
     have t6:((c.toNat:Int)==46)=false:=by simp;omega
     have HE:Hid (aW c k=true):=by show _=_;unfold aW;simp;omega
     clear c1 c2 hk0;go_wp2
     go_round
     case rel=>exact⟨rfl,rfl,k+1,by go_num,hR.out.step HKP.out (HST.out _ HE.out)⟩
     case measure=>simp[intOf];omega
    ·obtain⟨c1,c2⟩:=hcls;have t0:decide (97≤(c.toNat:Int))=true:=by simp;omega
     have t1:decide ((c.toNat:Int)≤122)=false:=by simp;omega
     have t2:decide (48≤(c.toNat:Int))=true:=by simp;omega
     have t3:decide ((c.toNat:Int)≤57)=false:=by simp;omega
     have t4:((c.toNat:Int)==43)=false:=by simp;omega
     have t5:((c.toNat:Int)==45)=false:=by simp;omega
     have t6:((c.toNat:Int)==46)=false:=by simp;omega
     have HE:Hid (aW c k=false):=by show _=_;unfold aW;simp;omega
     clear c1 c2 hk0;go_wp2
     go_ret2;exact⟨.inr ⟨cI HKP.out (HST.out _ HE.out),rfl⟩,HB3.out⟩
   ·have hk1:((k:Int)==0)=false:=by simp;omega
    have hcls:(0≤c.toNat∧c.toNat≤42)∨(43≤c.toNat∧c.toNat≤43)∨(44≤c.toNat∧c.toNat≤44)∨(45≤c.toNat∧c.toNat≤45)∨(46≤c.toNat∧c.toNat≤46)∨(47≤c.toNat∧c.toNat≤47)∨(48≤c.toNat∧c.toNat≤57)∨(58≤c.toNat∧c.toNat≤96)∨(97≤c.toNat∧c.toNat≤122)∨(123≤c.toNat∧c.toNat≤255):=by omega
    rcases hcls with hcls|hcls|hcls|hcls|hcls|hcls|hcls|hcls|hcls|hcls
    ·obtain⟨c1,c2⟩:=hcls;have t0:decide (97≤(c.toNat:Int))=false:=by simp;omega
     have t1:decide ((c.toNat:Int)≤122)=true:=by simp;omega
     have t2:decide (48≤(c.toNat:Int))=false:=by simp;omega
     have t3:decide ((c.toNat:Int)≤57)=true:=by simp;omega
     have t4:((c.toNat:Int)==43)=false:=by simp;omega
     have t5:((c.toNat:Int)==45)=false:=by simp;omega
     have t6:((c.toNat:Int)==46)=false:=by simp;omega
     have HE:Hid (aW c k=false):=by show _=_;unfold aW;simp;omega
     clear c1 c2 hk0;go_wp2
     go_ret2;exact⟨.inr ⟨cI HKP.out (HST.out _ HE.out),rfl⟩,HB3.out⟩
    ·obtain⟨c1,c2⟩:=hcls;have t0:decide (97≤(c.toNat:Int))=false:=by simp;omega
     have t1:decide ((c.toNat:Int)≤122)=true:=by simp;omega
     have t2:decide (48≤(c.toNat:Int))=false:=by simp;omega
     have t3:decide ((c.toNat:Int)≤57)=true:=by simp;omega
     have t4:((c.toNat:Int)==43)=true:=by simp;omega
     have t5:((c.toNat:Int)==45)=false:=by simp;omega
     have t6:((c.toNat:Int)==46)=false:=by simp;omega
     have HE:Hid (aW c k=true):=by show _=_;unfold aW;simp;omega
     clear c1 c2 hk0;go_wp2
     go_round
     case rel=>exact⟨rfl,rfl,k+1,by go_num,hR.out.step HKP.out (HST.out _ HE.out)⟩
     case measure=>simp[intOf];omega
    ·obtain⟨c1,c2⟩:=hcls;have t0:decide (97≤(c.toNat:Int))=false:=by simp;omega
     have t1:decide ((c.toNat:Int)≤122)=true:=by simp;omega
     have t2:decide (48≤(c.toNat:Int))=false:=by simp;omega
     have t3:decide ((c.toNat:Int)≤57)=true:=by simp;omega
     have t4:((c.toNat:Int)==43)=false:=by simp;omega
     have t5:((c.toNat:Int)==45)=false:=by simp;omega
     have t6:((c.toNat:Int)==46)=false:=by simp;omega
     have HE:Hid (aW c k=false):=by show _=_;unfold aW;simp;omega
     clear c1 c2 hk0;go_wp2
     go_ret2;exact⟨.inr ⟨cI HKP.out (HST.out _ HE.out),rfl⟩,HB3.out⟩
    ·obtain⟨c1,c2⟩:=hcls;have t0:decide (97≤(c.toNat:Int))=false:=by simp;omega
     have t1:decide ((c.toNat:Int)≤122)=true:=by simp;omega
     have t2:decide (48≤(c.toNat:Int))=false:=by simp;omega
     have t3:decide ((c.toNat:Int)≤57)=true:=by simp;omega
     have t4:((c.toNat:Int)==43)=false:=by simp;omega
     have t5:((c.toNat:Int)==45)=true:=by simp;omega
     have t6:((c.toNat:Int)==46)=false:=by simp;omega
     have HE:Hid (aW c k=true):=by show _=_;unfold aW;simp;omega
     clear c1 c2 hk0;go_wp2
     go_round
     case rel=>exact⟨rfl,rfl,k+1,by go_num,hR.out.step HKP.out (HST.out _ HE.out)⟩
     case measure=>simp[intOf];omega
    ·obtain⟨c1,c2⟩:=hcls;have t0:decide (97≤(c.toNat:Int))=false:=by simp;omega
     have t1:decide ((c.toNat:Int)≤122)=true:=by simp;omega
     have t2:decide (48≤(c.toNat:Int))=false:=by simp;omega
     have t3:decide ((c.toNat:Int)≤57)=true:=by simp;omega
     have t4:((c.toNat:Int)==43)=false:=by simp;omega
     have t5:((c.toNat:Int)==45)=false:=by simp;omega
     have t6:((c.toNat:Int)==46)=true:=by simp;omega
     have HE:Hid (aW c k=true):=by show _=_;unfold aW;simp;omega
     clear c1 c2 hk0;go_wp2
     go_round
     case rel=>exact⟨rfl,rfl,k+1,by go_num,hR.out.step HKP.out (HST.out _ HE.out)⟩
     case measure=>simp[intOf];omega
    ·obtain⟨c1,c2⟩:=hcls;have t0:decide (97≤(c.toNat:Int))=false:=by simp;omega
     have t1:decide ((c.toNat:Int)≤122)=true:=by simp;omega
     have t2:decide (48≤(c.toNat:Int))=false:=by simp;omega
     have t3:decide ((c.toNat:Int)≤57)=true:=by simp;omega
     have t4:((c.toNat:Int)==43)=false:=by simp;omega
     have t5:((c.toNat:Int)==45)=false:=by simp;omega
     have t6:((c.toNat:Int)==46)=false:=by simp;omega
     have HE:Hid (aW c k=false):=by show _=_;unfold aW;simp;omega
     clear c1 c2 hk0;go_wp2
     go_ret2;exact⟨.inr ⟨cI HKP.out (HST.out _ HE.out),rfl⟩,HB3.out⟩
    ·obtain⟨c1,c2⟩:=hcls;have t0:decide (97≤(c.toNat:Int))=false:=by simp;omega
     have t1:decide ((c.toNat:Int)≤122)=true:=by simp;omega
     have t2:decide (48≤(c.toNat:Int))=true:=by simp;omega
     have t3:decide ((c.toNat:Int)≤57)=true:=by simp;omega
     have t4:((c.toNat:Int)==43)=false:=by simp;omega
     have t5:((c.toNat:Int)==45)=false:=by simp;omega
     have t6:((c.toNat:Int)==46)=false:=by simp;omega
     have HE:Hid (aW c k=true):=by show _=_;unfold aW;simp;omega
     clear c1 c2 hk0;go_wp2
     go_round
     case rel=>exact⟨rfl,rfl,k+1,by go_num,hR.out.step HKP.out (HST.out _ HE.out)⟩
     case measure=>simp[intOf];omega
    ·obtain⟨c1,c2⟩:=hcls;have t0:decide (97≤(c.toNat:Int))=false:=by simp;omega
     have t1:decide ((c.toNat:Int)≤122)=true:=by simp;omega
     have t2:decide (48≤(c.toNat:Int))=true:=by simp;omega
     have t3:decide ((c.toNat:Int)≤57)=false:=by simp;omega
     have t4:((c.toNat:Int)==43)=false:=by simp;omega
     have t5:((c.toNat:Int)==45)=false:=by simp;omega
     have t6:((c.toNat:Int)==46)=false:=by simp;omega
     have HE:Hid (aW c k=false):=by show _=_;unfold aW;simp;omega
     clear c1 c2 hk0;go_wp2
     go_ret2;exact⟨.inr ⟨cI HKP.out (HST.out _ HE.out),rfl⟩,HB3.out⟩
    ·obtain⟨c1,c2⟩:=hcls;have t0:decide (97≤(c.toNat:Int))=true:=by simp;omega
     have t1:decide ((c.toNat:Int)≤122)=true:=by simp;omega
     have t2:decide (48≤(c.toNat:Int))=true:=by simp;omega
     have t3:decide ((c.toNat:Int)≤57)=false:=by simp;omega
     have t4:((c.toNat:Int)==43)=false:=by simp;omega
     have t5:((c.toNat:Int)==45)=false:=by simp;omega
     have t6:((c.toNat:Int)==46)=false:=by simp;omega
     have HE:Hid (aW c k=true):=by show _=_;unfold aW;simp;omega
     clear c1 c2 hk0;go_wp2
     go_round
     case rel=>exact⟨rfl,rfl,k+1,by go_num,hR.out.step HKP.out (HST.out _ HE.out)⟩
     case measure=>simp[intOf];omega
    ·obtain⟨c1,c2⟩:=hcls;have t0:decide (97≤(c.toNat:Int))=true:=by simp;omega
     have t1:decide ((c.toNat:Int)≤122)=false:=by simp;omega
     have t2:decide (48≤(c.toNat:Int))=true:=by simp;omega
     have t3:decide ((c.toNat:Int)≤57)=false:=by simp;omega
     have t4:((c.toNat:Int)==43)=false:=by simp;omega
     have t5:((c.toNat:Int)==45)=false:=by simp;omega
     have t6:((c.toNat:Int)==46)=false:=by simp;omega
     have HE:Hid (aW c k=false):=by show _=_;unfold aW;simp;omega
     clear c1 c2 hk0;go_wp2
     go_ret2;exact⟨.inr ⟨cI HKP.out (HST.out _ HE.out),rfl⟩,HB3.out⟩
  ·have HG:=hid (hR.out.all (by rw[←HSZ.out];exact hge));go_wp2
   go_ret2;exact⟨.inl ⟨HG.out,by rw[HSM.out];rfl⟩,HB3.out⟩
theorem aFW (s:ByteArray)(hs:s.size<4294967281)(w:World)(T:aC w):Calls Tryz.prog 30 #[.string s] w fun e w'=>e=.returned (oA s.data.toList)∧Below w.heap.size w w':=by
 by_cases h:(58:UInt8)∈s.data.toList
 ·obtain⟨p,q,e,hp⟩:=aDH h;by_cases h0:p=[]
  ·subst h0;rw[nI (by rw[e,sB [] q hp,if_neg (by simp)])];exact aEE s q hs e w T
  ·refine(aEw s p q hs e hp h0 w T).mono ?_;rintro x w' ⟨hx|hx,hb⟩
   ·refine⟨?_,hb⟩;rw[hx.2,vH (by rw[e,sB p q hp,if_pos ⟨h0,hx.1⟩])]
   ·refine⟨?_,hb⟩;rw[hx.2,nI (by rw[e,sB p q hp,if_neg (fun h=>hx.1 h.2)])]
 ·rw[nI (aD3 _ h)];exact aH8 s hs h w T
open Go.RowKit
def kE (zs:List ByteArray)(l:List UInt8):Bool:=match lJ l with
 | none=>true
 | some w=>Lib.containsS zs ⟨w.toArray⟩
def pG (w:World)(g off:Nat)(zs:List ByteArray):Prop:=∀j,j<zs.length→w.cell? ⟨g,off+j,none⟩=some (.string (zs.getD j ByteArray.empty))
theorem pG.below {w w':World}{g off B:Nat}{zs:List ByteArray}(h:pG w g off zs)(hb:Below B w w')(hg:g<B):pG w' g off zs:=by
 intro j hj;rw[hb.cell (p:=⟨g,off+j,none⟩) hg];exact h j hj
theorem aCs (l:List UInt8):(dI l).length≤3*l.length:=Nat.le_trans (aKg l).length_le (pE l)
theorem aB5 (s:ByteArray)(hs:s.size≤1000000000)(g off n c:Nat)(zs:List ByteArray)(hn:zs.length=n)(hn9:n≤1000)(w:World)(T:aC w)(hz:Hid (pG w g off zs))(hg:g<w.heap.size)(b:Bool)(hb:Hid (kE zs (dI s.data.toList)=b)) :
  Calls Tryz.prog 143 #[.string s,.slice (some ⟨g,off,none⟩) n c] w fun e w'=>e=.returned (.tuple #[.string ⟨(dI s.data.toList).toArray⟩,.bool b])∧Below w.heap.size w w':=by
 have HT:=hid T;clear T;have hl:=aCs s.data.toList;have hl2:s.data.toList.length=s.size:=rfl;have hsz:(⟨(dI s.data.toList).toArray⟩:ByteArray).size<4294967281:=by rw[pU];omega
 have HSZ:=hid hsz;clear hsz hl hl2;obtain⟨L,hL⟩:∃L,dI s.data.toList=L:=⟨_,rfl⟩
 have K:=fun w T=>aJv s hs w T
 rw[hL]at K HSZ
 have HK:=hid K;have HB:=hid (show kE zs L=b by rw[←hL];exact hb.out);rw[hL];clear K hL hb;go_enter Tryz.func143,Tryz.ntmps143
 go_wp2_with fail
 refine(HK.out w HT.out).mono ?_;rintro e W1 ⟨rfl,B1⟩;have HB1:=hid B1;have HT1:=hid (HT.out.below HB1.out jG);clear B1;have S:=aFW ⟨L.toArray⟩ HSZ.out W1 HT1.out;have hb:=HB.out;unfold kE at hb;cases hsc:lJ L with
 | none =>
  rw[show oA (⟨L.toArray⟩:ByteArray).data.toList=.tuple #[.string ⟨#[]⟩,.bool false]from nI hsc]at S
  have HS:=hid S;rw[hsc]at hb
  subst hb;clear S hsc;go_wp2_with fail
  refine HS.out.mono ?_;rintro e W2 ⟨rfl,B2⟩;have HB2:=mB HB1 B2;clear B2;go_wp2
  go_ret2;exact⟨rfl,HB2.out⟩
 | some x =>
  rw[show oA (⟨L.toArray⟩:ByteArray).data.toList=.tuple #[.string ⟨x.toArray⟩,.bool true]from vH hsc]at S
  have HS:=hid S;rw[hsc]at hb
  have HBX:Hid (Lib.containsS zs ⟨x.toArray⟩=b):=hb;clear S hsc hb;go_wp2_with fail
  refine HS.out.mono ?_;rintro e W2 ⟨rfl,B2⟩;have HB2:=mB HB1 B2;clear B2;have hz2:Hid (pG W2 g off zs):=hz.out.below HB2.out hg;have C:=Tryz.slices_Contains_string g off n c zs ⟨x.toArray⟩ W2 (by omega) (by omega) hz2.out;rw[List.take_of_length_le (by omega),HBX.out]at C
  have HC:=hid C;clear C;go_wp2_with fail
  refine HC.out.mono ?_;rintro e W3 ⟨rfl,rfl⟩;go_wp2
  all_goals
   go_ret2;exact⟨rfl,HB2.out⟩
theorem aDK (old new:List UInt8)(h:1≤old.length):∀(k:Nat) (s:List UInt8),(Lib.replaceK old new k s).length≤s.length+k*new.length:=by
 intro k;induction k with
 | zero=>intro s;simp[Lib.replaceK]
 | succ k ih =>
  intro s;rw[Nat.succ_mul];by_cases hi:Lib.index s old=-1
  ·unfold Lib.replaceK;rw[if_pos (by rw[hi];rfl)];omega
  ·have hge:=Lib.index_ge s old;obtain⟨i,hi'⟩:∃i:Nat,Lib.index s old=i:=⟨(Lib.index s old).toNat,by omega⟩
   rw[Lib.replaceK_hit old new k s i hi'];have:=ih (s.drop (i+old.length));have hr:=Lib.index_room s old (by omega);rw[List.length_append,List.length_append,List.length_take];rw[List.length_drop]at this
   omega
theorem aBd (s old new:ByteArray)(h:1≤old.size):(Lib.replaceAll s.data.toList old.data.toList new.data.toList).length≤s.size*(1+new.size):=by
 unfold Lib.replaceAll Lib.replace;have h1:=Lib.countB_le old h s.size s jG;have e1:s.size=s.data.toList.length:=rfl;have e2:new.size=new.data.toList.length:=rfl;split
 ·rw[e1,Nat.mul_add];omega
 ·have hn:Lib.replaceNum s.data.toList old.data.toList (-1)=Lib.count s.data.toList old.data.toList:=by
   unfold Lib.replaceNum;rw[if_pos (Or.inl (by omega))]
  rw[hn];have h2:=aDK old.data.toList new.data.toList h (Lib.count s.data.toList old.data.toList) s.data.toList;have h3:Lib.count s.data.toList old.data.toList≤s.size:=h1;have h4:Lib.count s.data.toList old.data.toList*new.data.toList.length≤s.size*new.data.toList.length:=Nat.mul_le_mul_right _ h3;rw[Nat.mul_add,e2];omega
def nH:ByteArray:=⟨#[38,97,109,112,59]⟩
def bNb:ByteArray:=⟨#[38,110,98,115,112,59]⟩
def bLt:ByteArray:=⟨#[38,108,116,59]⟩
def bGt:ByteArray:=⟨#[38,103,116,59]⟩
def bQ:ByteArray:=⟨#[38,113,117,111,116,59]⟩
def dY (s old new:ByteArray):ByteArray:=⟨(Lib.replaceAll s.data.toList old.data.toList new.data.toList).toArray⟩
theorem uH (s old new:ByteArray)(h:1≤old.size):(dY s old new).size≤s.size*(1+new.size):=aBd s old new h
theorem sM (s old new:ByteArray)(w:World)(T:aC w)(hs:s.size<4294967281)(h1:1≤old.size)(h2:new.size≤10) :
  Calls Tryz.prog 80 #[.string s,.string old,.string new] w fun e w'=>e=.returned (.string (dY s old new))∧Below w.heap.size w w':=by
 obtain⟨m,hm⟩:=T.most;refine Tryz.strings_ReplaceAll s old new m w hs hm h1 ?_;have h3:=Lib.countB_le old h1 s.size s jG;have h4:Lib.countB s old*new.size≤s.size*10:=Nat.mul_le_mul h3 h2;omega
def oF (s:ByteArray):ByteArray:=dY (dY (dY (dY (dY s ⟨#[38]⟩ nH) ⟨#[194,160]⟩ bNb) ⟨#[60]⟩ bLt) ⟨#[62]⟩ bGt) ⟨#[34]⟩ bQ
theorem aFj (s:ByteArray)(hs:s.size≤4000000)(w:World)(T:aC w):Calls Tryz.prog 84 #[.string s,.bool true] w fun e w'=>e=.returned (.string (oF s))∧Below w.heap.size w w':=by
 have a1:=uH s ⟨#[38]⟩ nH (by decide);have a2:=uH (dY s ⟨#[38]⟩ nH) ⟨#[194,160]⟩ bNb (by decide);have a3:=uH (dY (dY s ⟨#[38]⟩ nH) ⟨#[194,160]⟩ bNb) ⟨#[60]⟩ bLt (by decide);have a4:=uH (dY (dY (dY s ⟨#[38]⟩ nH) ⟨#[194,160]⟩ bNb) ⟨#[60]⟩ bLt) ⟨#[62]⟩ bGt (by decide);have e1:nH.size=5:=rfl;have e2:bNb.size=6:=rfl;have e3:bLt.size=4:=rfl;have e4:bGt.size=4:=rfl;rw[e1]at a1
 rw[e2]at a2
 rw[e3]at a3
 rw[e4]at a4
 have HT:=hid T;have R1:=hid (fun w T=>sM s ⟨#[38]⟩ nH w T (by omega) (by decide) (by decide));have R2:=hid (fun w T=>sM (dY s ⟨#[38]⟩ nH) ⟨#[194,160]⟩ bNb w T (by omega) (by decide) (by decide));have R3:=hid (fun w T=>sM (dY (dY s ⟨#[38]⟩ nH) ⟨#[194,160]⟩ bNb) ⟨#[60]⟩ bLt w T (by omega) (by decide) (by decide));have R4:=hid (fun w T=>sM (dY (dY (dY s ⟨#[38]⟩ nH) ⟨#[194,160]⟩ bNb) ⟨#[60]⟩ bLt) ⟨#[62]⟩ bGt w T (by omega) (by decide) (by decide));have R5:=hid (fun w T=>sM (dY (dY (dY (dY s ⟨#[38]⟩ nH) ⟨#[194,160]⟩ bNb) ⟨#[60]⟩ bLt) ⟨#[62]⟩ bGt) ⟨#[34]⟩ bQ w T (by omega) (by decide) (by decide));have hE:oF s=dY (dY (dY (dY (dY s ⟨#[38]⟩ nH) ⟨#[194,160]⟩ bNb) ⟨#[60]⟩ bLt) ⟨#[62]⟩ bGt) ⟨#[34]⟩ bQ:=rfl;rw[hE];clear a1 a2 a3 a4 e1 e2 e3 e4 T hE;generalize dY s ⟨#[38]⟩ nH=s1 at *
 generalize dY s1 ⟨#[194,160]⟩ bNb=s2 at *
 generalize dY s2 ⟨#[60]⟩ bLt=s3 at *
 generalize dY s3 ⟨#[62]⟩ bGt=s4 at *
 generalize dY s4 ⟨#[34]⟩ bQ=s5 at *
 unfold nH at R1;unfold bNb at R2;unfold bLt at R3;unfold bGt at R4;unfold bQ at R5;go_enter Tryz.func84,Tryz.ntmps84
 go_wp2_with fail
 refine(R1.out w HT.out).mono ?_;rintro e W1 ⟨rfl,B1⟩;have HB1:=hid B1;have HT1:=hid (HT.out.below HB1.out jG);clear B1;go_wp2_with fail
 refine(R2.out W1 HT1.out).mono ?_;rintro e W2 ⟨rfl,B2⟩;have HB2:=mB HB1 B2;have HT2:=hid (HT.out.below HB2.out jG);clear B2;go_wp2_with fail
 refine(R3.out W2 HT2.out).mono ?_;rintro e W3 ⟨rfl,B3⟩;have HB3:=mB HB2 B3;have HT3:=hid (HT.out.below HB3.out jG);clear B3;go_wp2_with fail
 refine(R4.out W3 HT3.out).mono ?_;rintro e W4 ⟨rfl,B4⟩;have HB4:=mB HB3 B4;have HT4:=hid (HT.out.below HB4.out jG);clear B4;go_wp2_with fail
 refine(R5.out W4 HT4.out).mono ?_;rintro e W5 ⟨rfl,B5⟩;have HB5:=mB HB4 B5;clear B5;go_wp2
 go_ret;exact⟨rfl,HB5.out⟩
open Go.RowKit
def cM (e n v:ByteArray)(t:ByteArray)(ok:Bool):Prop:=∀w,aC w→Calls Tryz.prog 83 #[.string e,.string n,.string v] w fun x w'=>x=.returned (.tuple #[.string t,.bool ok])∧Below w.heap.size w w'
theorem aG5 (e n v:ByteArray)(k:Int)(hk:Hid (aZ e k))(h:k<2∨k=14)(w:World) :
  Calls Tryz.prog 37 #[.string e,.string n,.string v] w fun x w'=>x=.returned (.tuple #[.string ⟨#[]⟩,.bool false])∧Below w.heap.size w w':=by
 rcases h with h|h
 ·have l1:decide (k<2)=true:=by simpa using h
  clear h;go_enter Tryz.func37,Tryz.ntmps37
  go_wp2_with fail
  refine(hk.out _).mono ?_;rintro x w' ⟨rfl,rfl⟩;go_wp2
  go_ret2;exact⟨rfl,Below.refl _ _⟩
 ·subst h;go_enter Tryz.func37,Tryz.ntmps37
  go_wp2_with fail
  refine(hk.out _).mono ?_;rintro x w' ⟨rfl,rfl⟩;go_wp2
  go_ret2;exact⟨rfl,Below.refl _ _⟩
theorem aKa (e n v t:ByteArray)(k:Int)(hk:Hid (aZ e k))(h2:¬k<2)(h14:(k==14)=false)(hF:Hid (cM e n v t false))(w:World)(T:aC w) :
  Calls Tryz.prog 37 #[.string e,.string n,.string v] w fun x w'=>x=.returned (.tuple #[.string ⟨#[]⟩,.bool false])∧Below w.heap.size w w':=by
 have l1:decide (k<2)=false:=by simpa using h2
 have HT:=hid T;clear h2 T;go_enter Tryz.func37,Tryz.ntmps37
 go_wp2_with fail
 refine(hk.out _).mono ?_;rintro x w' ⟨rfl,rfl⟩;go_wp2_with fail
 refine(hF.out _ HT.out).mono ?_;rintro x W1 ⟨rfl,B1⟩;have HB1:=hid B1;clear B1;go_wp2
 go_ret2;exact⟨rfl,HB1.out⟩
theorem aFH (e n v t:ByteArray)(k:Int)(hk:Hid (aZ e k))(h2:¬k<2)(h14:(k==14)=false)(hF:Hid (cM e n v t true))(ht:t.size≤4000000)(hE:Hid (120<(oF t).size))(w:World)(T:aC w) :
  Calls Tryz.prog 37 #[.string e,.string n,.string v] w fun x w'=>x=.returned (.tuple #[.string ⟨#[]⟩,.bool false])∧Below w.heap.size w w':=by
 have l1:decide (k<2)=false:=by simpa using h2
 have HT:=hid T;have hx:120<(oF t).size:=hE.out;have E:=aFj t ht;generalize oF t=u at hx E;have HEA:=hid E;clear h2 T E;go_enter Tryz.func37,Tryz.ntmps37
 go_wp2_with fail
 refine(hk.out _).mono ?_;rintro x w' ⟨rfl,rfl⟩;go_wp2_with fail
 refine(hF.out _ HT.out).mono ?_;rintro x W1 ⟨rfl,B1⟩;have HB1:=hid B1;have HT1:=hid (HT.out.below HB1.out jG);clear B1;go_wp2_with fail
 refine(HEA.out W1 HT1.out).mono ?_;rintro x W2 ⟨rfl,B2⟩;have HB2:=mB HB1 B2;clear B2;have l2:decide ((120:Int)<(u.size:Int))=true:=by simp;omega
 go_wp2
 go_ret2;exact⟨rfl,HB2.out⟩
theorem aIK (e n v t:ByteArray)(k:Int)(hk:Hid (aZ e k))(h2:¬k<2)(h14:(k==14)=false)(hF:Hid (cM e n v t true))(ht:t.size≤4000000)(hE:Hid ((oF t).size≤120))(w:World)(T:aC w) :
  Calls Tryz.prog 37 #[.string e,.string n,.string v] w fun x w'=>x=.returned (.tuple #[.string t,.bool true])∧Below w.heap.size w w':=by
 have l1:decide (k<2)=false:=by simpa using h2
 have HT:=hid T;have hx:(oF t).size≤120:=hE.out;have E:=aFj t ht;generalize oF t=u at hx E;have HEA:=hid E;clear h2 T E;go_enter Tryz.func37,Tryz.ntmps37
 go_wp2_with fail
 refine(hk.out _).mono ?_;rintro x w' ⟨rfl,rfl⟩;go_wp2_with fail
 refine(hF.out _ HT.out).mono ?_;rintro x W1 ⟨rfl,B1⟩;have HB1:=hid B1;have HT1:=hid (HT.out.below HB1.out jG);clear B1;go_wp2_with fail
 refine(HEA.out W1 HT1.out).mono ?_;rintro x W2 ⟨rfl,B2⟩;have HB2:=mB HB1 B2;clear B2;have l2:decide ((120:Int)<(u.size:Int))=false:=by simp;omega
 go_wp2
 go_ret2;exact⟨rfl,HB2.out⟩
def bB:ByteArray:=⟨#[116,105,116,108,101]⟩
def aA5:ByteArray:=⟨#[104,114,101,102]⟩
def sA:ByteArray:=⟨#[97]⟩
theorem aGe (e v:ByteArray)(hv:v.size≤1000000000):cM e bB v ⟨(cV v.data.toList).toArray⟩ true:=by
 intro w T;have HX:=hid (nZ v hv w T);clear T;unfold bB;go_enter Tryz.func83,Tryz.ntmps83
 go_wp2_with fail
 refine HX.out.mono ?_;rintro x W1 ⟨rfl,B1⟩;have HB1:=hid B1;clear B1;go_wp2
 go_ret2;exact⟨rfl,HB1.out⟩
open Go.RowKit
theorem aOt:(⟨#[97]⟩:ByteArray)++⟨#[32]⟩=⟨#[97,32]⟩:=by decide
theorem aHD:(⟨#[97,32]⟩:ByteArray)++⟨#[104,114,101,102]⟩=⟨#[97,32,104,114,101,102]⟩:=by decide
def uT:List ByteArray:=[⟨#[104,116,116,112]⟩,⟨#[104,116,116,112,115]⟩,⟨#[109,97,105,108,116,111]⟩]
theorem zZ (v:ByteArray)(b:Bool)(hb:Hid (kE uT (dI v.data.toList)=b))(hv:v.size≤1000000000):cM sA aA5 v ⟨(dI v.data.toList).toArray⟩ b:=by
 intro w T;have HT:=hid T;clear T;unfold sA aA5;have c1:=aOt;have c2:=aHD;go_enter Tryz.func83,Tryz.ntmps83
 go_wp2_with fail
 have hB:Below w.heap.size w (w.alloc (.cells #[Value.string ⟨#[104,116,116,112]⟩,Value.string ⟨#[104,116,116,112,115]⟩,Value.string ⟨#[109,97,105,108,116,111]⟩] 9)):=(Below.refl _ w).alloc jG _;have hS:pG (w.alloc (.cells #[Value.string ⟨#[104,116,116,112]⟩,Value.string ⟨#[104,116,116,112,115]⟩,Value.string ⟨#[109,97,105,108,116,111]⟩] 9)) w.heap.size 0 uT:=by
  intro j hj;rw[Nat.zero_add,cell_of_row _ w.heap.size j _ 9 (0,0) (heap_alloc_new w _)];have:∀j<3,(#[Value.string ⟨#[104,116,116,112]⟩,Value.string ⟨#[104,116,116,112,115]⟩,Value.string ⟨#[109,97,105,108,116,111]⟩]:Array Value)[j]?=some (Value.string (uT.getD j ByteArray.empty)):=by
   intro j hj;match j,hj with
   | 0,_=>rfl
   | 1,_=>rfl
   | 2,_=>rfl
  exact this j hj
 refine(aB5 v hv w.heap.size 0 3 3 uT rfl (by omega) _ (HT.out.below hB jG) hS (by simp) b hb).mono ?_;rintro x W1 ⟨rfl,B1⟩;have HB1:=hid (hB.trans (B1.mono (by simp)));clear B1 hB hS;go_wp2
 go_ret2;exact⟨rfl,HB1.out⟩
def v1:ByteArray:=⟨#[72,84,84,80,58,47,47,97]⟩
def v2:ByteArray:=⟨#[32,74,97,118,97,9,83,99,114,105,112,116,58,120]⟩
end Go.Proofs.YtcfgbdhpcboikaaGreatDoor
