/-
  policy.May and Takes: what they answer, as plain functions of the names (printed by wip/gen/mayw.py).
-/
import Derived.Test.YtcfgbdhpcboikaaGreatDoorKinds
import Derived.Lib.Hide
namespace Go.Proofs.YtcfgbdhpcboikaaGreatDoor
set_option maxHeartbeats 1000000
set_option maxRecDepth 100000
open Go.RowKit
def KindAt (s:ByteArray)(n:Int):Prop:=∀ w,Calls Tryz.prog 24 #[.string s] w fun e w'=>e=.returned (.int .i64 n)∧w=w'
theorem kind_at (s:ByteArray):KindAt s (kindL s.data.toList:Nat):=fun w=>kind_any s w
theorem retM_bool {a b:Bool}(h:a=b):Ending.returned (.bool a)=.returned (.bool b):=by rw[h]
theorem may_0 (p k:ByteArray)(K:Int)(b:Bool)(w:World)(hp:Hid (KindAt p 0))(hk:Hid (KindAt k K))(hb:Hid ((false)=b)) :
  Calls Tryz.prog 26 #[.string p,.string k] w fun e w'=>e=.returned (.bool b)∧w=w':=by
 go_enter Tryz.func26,Tryz.ntmps26
 go_wp2_with fail
 refine(hk.out _).mono ?_
 rintro e w' ⟨rfl,rfl⟩
 go_wp2_with fail
 refine(hp.out _).mono ?_
 rintro e w' ⟨rfl,rfl⟩
 go_wp2
 all_goals
  go_ret
  refine⟨retM_bool ?_,rfl⟩
  first
   | (rw[← hb.out];done)
   | (rw[← hb.out,Bool.eq_iff_iff];simp;done)
   | (rw[← hb.out,Bool.eq_iff_iff];simp;omega)
   | (rw[← hb.out];simp_all;done)
theorem may_1 (p k:ByteArray)(K:Int)(b:Bool)(w:World)(hp:Hid (KindAt p 1))(hk:Hid (KindAt k K))(hb:Hid ((false)=b)) :
  Calls Tryz.prog 26 #[.string p,.string k] w fun e w'=>e=.returned (.bool b)∧w=w':=by
 go_enter Tryz.func26,Tryz.ntmps26
 go_wp2_with fail
 refine(hk.out _).mono ?_
 rintro e w' ⟨rfl,rfl⟩
 go_wp2_with fail
 refine(hp.out _).mono ?_
 rintro e w' ⟨rfl,rfl⟩
 go_wp2
 all_goals
  go_ret
  refine⟨retM_bool ?_,rfl⟩
  first
   | (rw[← hb.out];done)
   | (rw[← hb.out,Bool.eq_iff_iff];simp;done)
   | (rw[← hb.out,Bool.eq_iff_iff];simp;omega)
   | (rw[← hb.out];simp_all;done)
theorem may_2 (p k:ByteArray)(K:Int)(b:Bool)(w:World)(hp:Hid (KindAt p 2))(hk:Hid (KindAt k K))(hb:Hid ((decide (2≤K)&&decide (K≤7)||decide (K=9))=b)) :
  Calls Tryz.prog 26 #[.string p,.string k] w fun e w'=>e=.returned (.bool b)∧w=w':=by
 go_enter Tryz.func26,Tryz.ntmps26
 go_wp2_with fail
 refine(hk.out _).mono ?_
 rintro e w' ⟨rfl,rfl⟩
 go_wp2_with fail
 refine(hp.out _).mono ?_
 rintro e w' ⟨rfl,rfl⟩
 go_wp2
 all_goals
  go_ret
  refine⟨retM_bool ?_,rfl⟩
  first
   | (rw[← hb.out];done)
   | (rw[← hb.out,Bool.eq_iff_iff];simp;done)
   | (rw[← hb.out,Bool.eq_iff_iff];simp;omega)
   | (rw[← hb.out];simp_all;done)
theorem may_3 (p k:ByteArray)(K:Int)(b:Bool)(w:World)(hp:Hid (KindAt p 3))(hk:Hid (KindAt k K))(hb:Hid ((decide (K=4)||decide (K=5))=b)) :
  Calls Tryz.prog 26 #[.string p,.string k] w fun e w'=>e=.returned (.bool b)∧w=w':=by
 go_enter Tryz.func26,Tryz.ntmps26
 go_wp2_with fail
 refine(hk.out _).mono ?_
 rintro e w' ⟨rfl,rfl⟩
 go_wp2_with fail
 refine(hp.out _).mono ?_
 rintro e w' ⟨rfl,rfl⟩
 go_wp2
 all_goals
  go_ret
  refine⟨retM_bool ?_,rfl⟩
  first
   | (rw[← hb.out];done)
   | (rw[← hb.out,Bool.eq_iff_iff];simp;done)
   | (rw[← hb.out,Bool.eq_iff_iff];simp;omega)
   | (rw[← hb.out];simp_all;done)
theorem may_4 (p k:ByteArray)(K:Int)(b:Bool)(w:World)(hp:Hid (KindAt p 4))(hk:Hid (KindAt k K))(hb:Hid ((decide (K=4)&&!(k.toList==p.toList)||decide (K=5))=b)) :
  Calls Tryz.prog 26 #[.string p,.string k] w fun e w'=>e=.returned (.bool b)∧w=w':=by
 go_enter Tryz.func26,Tryz.ntmps26
 go_wp2_with fail
 refine(hk.out _).mono ?_
 rintro e w' ⟨rfl,rfl⟩
 go_wp2_with fail
 refine(hp.out _).mono ?_
 rintro e w' ⟨rfl,rfl⟩
 go_wp2
 all_goals
  go_ret
  refine⟨retM_bool ?_,rfl⟩
  first
   | (rw[← hb.out];done)
   | (rw[← hb.out,Bool.eq_iff_iff];simp;done)
   | (rw[← hb.out,Bool.eq_iff_iff];simp;omega)
   | (rw[← hb.out];simp_all;done)
theorem may_5 (p k:ByteArray)(K:Int)(b:Bool)(w:World)(hp:Hid (KindAt p 5))(hk:Hid (KindAt k K))(hb:Hid ((false)=b)) :
  Calls Tryz.prog 26 #[.string p,.string k] w fun e w'=>e=.returned (.bool b)∧w=w':=by
 go_enter Tryz.func26,Tryz.ntmps26
 go_wp2_with fail
 refine(hk.out _).mono ?_
 rintro e w' ⟨rfl,rfl⟩
 go_wp2_with fail
 refine(hp.out _).mono ?_
 rintro e w' ⟨rfl,rfl⟩
 go_wp2
 all_goals
  go_ret
  refine⟨retM_bool ?_,rfl⟩
  first
   | (rw[← hb.out];done)
   | (rw[← hb.out,Bool.eq_iff_iff];simp;done)
   | (rw[← hb.out,Bool.eq_iff_iff];simp;omega)
   | (rw[← hb.out];simp_all;done)
theorem may_6 (p k:ByteArray)(K:Int)(b:Bool)(w:World)(hp:Hid (KindAt p 6))(hk:Hid (KindAt k K))(hb:Hid ((false)=b)) :
  Calls Tryz.prog 26 #[.string p,.string k] w fun e w'=>e=.returned (.bool b)∧w=w':=by
 go_enter Tryz.func26,Tryz.ntmps26
 go_wp2_with fail
 refine(hk.out _).mono ?_
 rintro e w' ⟨rfl,rfl⟩
 go_wp2_with fail
 refine(hp.out _).mono ?_
 rintro e w' ⟨rfl,rfl⟩
 go_wp2
 all_goals
  go_ret
  refine⟨retM_bool ?_,rfl⟩
  first
   | (rw[← hb.out];done)
   | (rw[← hb.out,Bool.eq_iff_iff];simp;done)
   | (rw[← hb.out,Bool.eq_iff_iff];simp;omega)
   | (rw[← hb.out];simp_all;done)
theorem may_7 (p k:ByteArray)(K:Int)(b:Bool)(w:World)(hp:Hid (KindAt p 7))(hk:Hid (KindAt k K))(hb:Hid ((decide (K=8))=b)) :
  Calls Tryz.prog 26 #[.string p,.string k] w fun e w'=>e=.returned (.bool b)∧w=w':=by
 go_enter Tryz.func26,Tryz.ntmps26
 go_wp2_with fail
 refine(hk.out _).mono ?_
 rintro e w' ⟨rfl,rfl⟩
 go_wp2_with fail
 refine(hp.out _).mono ?_
 rintro e w' ⟨rfl,rfl⟩
 go_wp2
 all_goals
  go_ret
  refine⟨retM_bool ?_,rfl⟩
  first
   | (rw[← hb.out];done)
   | (rw[← hb.out,Bool.eq_iff_iff];simp;done)
   | (rw[← hb.out,Bool.eq_iff_iff];simp;omega)
   | (rw[← hb.out];simp_all;done)
theorem may_8 (p k:ByteArray)(K:Int)(b:Bool)(w:World)(hp:Hid (KindAt p 8))(hk:Hid (KindAt k K))(hb:Hid ((decide (2≤K)&&decide (K≤7)||decide (K=9))=b)) :
  Calls Tryz.prog 26 #[.string p,.string k] w fun e w'=>e=.returned (.bool b)∧w=w':=by
 go_enter Tryz.func26,Tryz.ntmps26
 go_wp2_with fail
 refine(hk.out _).mono ?_
 rintro e w' ⟨rfl,rfl⟩
 go_wp2_with fail
 refine(hp.out _).mono ?_
 rintro e w' ⟨rfl,rfl⟩
 go_wp2
 all_goals
  go_ret
  refine⟨retM_bool ?_,rfl⟩
  first
   | (rw[← hb.out];done)
   | (rw[← hb.out,Bool.eq_iff_iff];simp;done)
   | (rw[← hb.out,Bool.eq_iff_iff];simp;omega)
   | (rw[← hb.out];simp_all;done)
theorem may_9 (p k:ByteArray)(K:Int)(b:Bool)(w:World)(hp:Hid (KindAt p 9))(hk:Hid (KindAt k K))(hb:Hid ((decide (K=10)||decide (K=11))=b)) :
  Calls Tryz.prog 26 #[.string p,.string k] w fun e w'=>e=.returned (.bool b)∧w=w':=by
 go_enter Tryz.func26,Tryz.ntmps26
 go_wp2_with fail
 refine(hk.out _).mono ?_
 rintro e w' ⟨rfl,rfl⟩
 go_wp2_with fail
 refine(hp.out _).mono ?_
 rintro e w' ⟨rfl,rfl⟩
 go_wp2
 all_goals
  go_ret
  refine⟨retM_bool ?_,rfl⟩
  first
   | (rw[← hb.out];done)
   | (rw[← hb.out,Bool.eq_iff_iff];simp;done)
   | (rw[← hb.out,Bool.eq_iff_iff];simp;omega)
   | (rw[← hb.out];simp_all;done)
theorem may_10 (p k:ByteArray)(K:Int)(b:Bool)(w:World)(hp:Hid (KindAt p 10))(hk:Hid (KindAt k K))(hb:Hid ((decide (K=4)||decide (K=5))=b)) :
  Calls Tryz.prog 26 #[.string p,.string k] w fun e w'=>e=.returned (.bool b)∧w=w':=by
 go_enter Tryz.func26,Tryz.ntmps26
 go_wp2_with fail
 refine(hk.out _).mono ?_
 rintro e w' ⟨rfl,rfl⟩
 go_wp2_with fail
 refine(hp.out _).mono ?_
 rintro e w' ⟨rfl,rfl⟩
 go_wp2
 all_goals
  go_ret
  refine⟨retM_bool ?_,rfl⟩
  first
   | (rw[← hb.out];done)
   | (rw[← hb.out,Bool.eq_iff_iff];simp;done)
   | (rw[← hb.out,Bool.eq_iff_iff];simp;omega)
   | (rw[← hb.out];simp_all;done)
theorem may_11 (p k:ByteArray)(K:Int)(b:Bool)(w:World)(hp:Hid (KindAt p 11))(hk:Hid (KindAt k K))(hb:Hid ((decide (K=12))=b)) :
  Calls Tryz.prog 26 #[.string p,.string k] w fun e w'=>e=.returned (.bool b)∧w=w':=by
 go_enter Tryz.func26,Tryz.ntmps26
 go_wp2_with fail
 refine(hk.out _).mono ?_
 rintro e w' ⟨rfl,rfl⟩
 go_wp2_with fail
 refine(hp.out _).mono ?_
 rintro e w' ⟨rfl,rfl⟩
 go_wp2
 all_goals
  go_ret
  refine⟨retM_bool ?_,rfl⟩
  first
   | (rw[← hb.out];done)
   | (rw[← hb.out,Bool.eq_iff_iff];simp;done)
   | (rw[← hb.out,Bool.eq_iff_iff];simp;omega)
   | (rw[← hb.out];simp_all;done)
theorem may_12 (p k:ByteArray)(K:Int)(b:Bool)(w:World)(hp:Hid (KindAt p 12))(hk:Hid (KindAt k K))(hb:Hid ((decide (K=13))=b)) :
  Calls Tryz.prog 26 #[.string p,.string k] w fun e w'=>e=.returned (.bool b)∧w=w':=by
 go_enter Tryz.func26,Tryz.ntmps26
 go_wp2_with fail
 refine(hk.out _).mono ?_
 rintro e w' ⟨rfl,rfl⟩
 go_wp2_with fail
 refine(hp.out _).mono ?_
 rintro e w' ⟨rfl,rfl⟩
 go_wp2
 all_goals
  go_ret
  refine⟨retM_bool ?_,rfl⟩
  first
   | (rw[← hb.out];done)
   | (rw[← hb.out,Bool.eq_iff_iff];simp;done)
   | (rw[← hb.out,Bool.eq_iff_iff];simp;omega)
   | (rw[← hb.out];simp_all;done)
theorem may_13 (p k:ByteArray)(K:Int)(b:Bool)(w:World)(hp:Hid (KindAt p 13))(hk:Hid (KindAt k K))(hb:Hid ((decide (2≤K)&&decide (K≤7)||decide (K=9))=b)) :
  Calls Tryz.prog 26 #[.string p,.string k] w fun e w'=>e=.returned (.bool b)∧w=w':=by
 go_enter Tryz.func26,Tryz.ntmps26
 go_wp2_with fail
 refine(hk.out _).mono ?_
 rintro e w' ⟨rfl,rfl⟩
 go_wp2_with fail
 refine(hp.out _).mono ?_
 rintro e w' ⟨rfl,rfl⟩
 go_wp2
 all_goals
  go_ret
  refine⟨retM_bool ?_,rfl⟩
  first
   | (rw[← hb.out];done)
   | (rw[← hb.out,Bool.eq_iff_iff];simp;done)
   | (rw[← hb.out,Bool.eq_iff_iff];simp;omega)
   | (rw[← hb.out];simp_all;done)
theorem may_14 (p k:ByteArray)(K:Int)(b:Bool)(w:World)(hp:Hid (KindAt p 14))(hk:Hid (KindAt k K))(hb:Hid ((decide (2≤K)&&decide (K≤7)||decide (K=9))=b)) :
  Calls Tryz.prog 26 #[.string p,.string k] w fun e w'=>e=.returned (.bool b)∧w=w':=by
 go_enter Tryz.func26,Tryz.ntmps26
 go_wp2_with fail
 refine(hk.out _).mono ?_
 rintro e w' ⟨rfl,rfl⟩
 go_wp2_with fail
 refine(hp.out _).mono ?_
 rintro e w' ⟨rfl,rfl⟩
 go_wp2
 all_goals
  go_ret
  refine⟨retM_bool ?_,rfl⟩
  first
   | (rw[← hb.out];done)
   | (rw[← hb.out,Bool.eq_iff_iff];simp;done)
   | (rw[← hb.out,Bool.eq_iff_iff];simp;omega)
   | (rw[← hb.out];simp_all;done)
theorem may_any (p k:ByteArray)(w:World):Calls Tryz.prog 26 #[.string p,.string k] w fun e w'=>e=.returned (.bool (mayL p.data.toList k.data.toList))∧w=w':=by
 have hp:=kind_at p
 have hk:=kind_at k
 have hs:(k.toList==p.toList)=(k.data.toList==p.data.toList):=by rw[toList_data,toList_data]
 have lp:=kindL_le p.data.toList
 unfold mayL
 rw[← hs]
 generalize kindL k.data.toList=K at hk
 generalize kindL p.data.toList=P at hp lp
 have key:∀ (n:Nat) (f:Bool),P=n→f=mayN n K (k.toList==p.toList)→(∀ b,Hid (KindAt p n)→Hid (KindAt k (K:Nat))→Hid (f=b)→Calls Tryz.prog 26 #[.string p,.string k] w fun e w'=>e=.returned (.bool b)∧w=w')→Calls Tryz.prog 26 #[.string p,.string k] w fun e w'=>e=.returned (.bool (mayN P K (k.toList==p.toList)))∧w=w':=by
  intro n f hn hf h
  subst hn
  exact h _ (Lib.hid hp) (Lib.hid hk) (Lib.hid hf)
 have hP:P=0∨P=1∨P=2∨P=3∨P=4∨P=5∨P=6∨P=7∨P=8∨P=9∨P=10∨P=11∨P=12∨P=13∨P=14:=by omega
 rcases hP with h|h|h|h|h|h|h|h|h|h|h|h|h|h|h
 ·exact key 0 _ h (by simp only[mayN];rw[Bool.eq_iff_iff];simp;try omega) fun b a1 a2 a3=>may_0 p k _ b w a1 a2 a3
 ·exact key 1 _ h (by simp only[mayN];rw[Bool.eq_iff_iff];simp;try omega) fun b a1 a2 a3=>may_1 p k _ b w a1 a2 a3
 ·exact key 2 _ h (by simp only[mayN];rw[Bool.eq_iff_iff];simp;try omega) fun b a1 a2 a3=>may_2 p k _ b w a1 a2 a3
 ·exact key 3 _ h (by simp only[mayN];rw[Bool.eq_iff_iff];simp;try omega) fun b a1 a2 a3=>may_3 p k _ b w a1 a2 a3
 ·exact key 4 _ h (by simp only[mayN];rw[Bool.eq_iff_iff];simp;rw[show((K:Nat):Int)=4↔K=4 by omega,show((K:Nat):Int)=5↔K=5 by omega]) fun b a1 a2 a3=>may_4 p k _ b w a1 a2 a3
 ·exact key 5 _ h (by simp only[mayN];rw[Bool.eq_iff_iff];simp;try omega) fun b a1 a2 a3=>may_5 p k _ b w a1 a2 a3
 ·exact key 6 _ h (by simp only[mayN];rw[Bool.eq_iff_iff];simp;try omega) fun b a1 a2 a3=>may_6 p k _ b w a1 a2 a3
 ·exact key 7 _ h (by simp only[mayN];rw[Bool.eq_iff_iff];simp;try omega) fun b a1 a2 a3=>may_7 p k _ b w a1 a2 a3
 ·exact key 8 _ h (by simp only[mayN];rw[Bool.eq_iff_iff];simp;try omega) fun b a1 a2 a3=>may_8 p k _ b w a1 a2 a3
 ·exact key 9 _ h (by simp only[mayN];rw[Bool.eq_iff_iff];simp;try omega) fun b a1 a2 a3=>may_9 p k _ b w a1 a2 a3
 ·exact key 10 _ h (by simp only[mayN];rw[Bool.eq_iff_iff];simp;try omega) fun b a1 a2 a3=>may_10 p k _ b w a1 a2 a3
 ·exact key 11 _ h (by simp only[mayN];rw[Bool.eq_iff_iff];simp;try omega) fun b a1 a2 a3=>may_11 p k _ b w a1 a2 a3
 ·exact key 12 _ h (by simp only[mayN];rw[Bool.eq_iff_iff];simp;try omega) fun b a1 a2 a3=>may_12 p k _ b w a1 a2 a3
 ·exact key 13 _ h (by simp only[mayN];rw[Bool.eq_iff_iff];simp;try omega) fun b a1 a2 a3=>may_13 p k _ b w a1 a2 a3
 ·exact key 14 _ h (by simp only[mayN];rw[Bool.eq_iff_iff];simp;try omega) fun b a1 a2 a3=>may_14 p k _ b w a1 a2 a3
theorem takes_0 (p:ByteArray)(w:World)(hp:Hid (KindAt p 0)) :
  Calls Tryz.prog 28 #[.string p] w fun e w'=>e=.returned (.bool false)∧w=w':=by
 go_enter Tryz.func28,Tryz.ntmps28
 go_wp2_with fail
 refine(hp.out _).mono ?_
 rintro e w' ⟨rfl,rfl⟩
 go_wp2
 go_ret
 exact⟨rfl,rfl⟩
theorem takes_1 (p:ByteArray)(w:World)(hp:Hid (KindAt p 1)) :
  Calls Tryz.prog 28 #[.string p] w fun e w'=>e=.returned (.bool false)∧w=w':=by
 go_enter Tryz.func28,Tryz.ntmps28
 go_wp2_with fail
 refine(hp.out _).mono ?_
 rintro e w' ⟨rfl,rfl⟩
 go_wp2
 go_ret
 exact⟨rfl,rfl⟩
theorem takes_2 (p:ByteArray)(w:World)(hp:Hid (KindAt p 2)) :
  Calls Tryz.prog 28 #[.string p] w fun e w'=>e=.returned (.bool true)∧w=w':=by
 go_enter Tryz.func28,Tryz.ntmps28
 go_wp2_with fail
 refine(hp.out _).mono ?_
 rintro e w' ⟨rfl,rfl⟩
 go_wp2
 go_ret
 exact⟨rfl,rfl⟩
theorem takes_3 (p:ByteArray)(w:World)(hp:Hid (KindAt p 3)) :
  Calls Tryz.prog 28 #[.string p] w fun e w'=>e=.returned (.bool true)∧w=w':=by
 go_enter Tryz.func28,Tryz.ntmps28
 go_wp2_with fail
 refine(hp.out _).mono ?_
 rintro e w' ⟨rfl,rfl⟩
 go_wp2
 go_ret
 exact⟨rfl,rfl⟩
theorem takes_4 (p:ByteArray)(w:World)(hp:Hid (KindAt p 4)) :
  Calls Tryz.prog 28 #[.string p] w fun e w'=>e=.returned (.bool true)∧w=w':=by
 go_enter Tryz.func28,Tryz.ntmps28
 go_wp2_with fail
 refine(hp.out _).mono ?_
 rintro e w' ⟨rfl,rfl⟩
 go_wp2
 go_ret
 exact⟨rfl,rfl⟩
theorem takes_5 (p:ByteArray)(w:World)(hp:Hid (KindAt p 5)) :
  Calls Tryz.prog 28 #[.string p] w fun e w'=>e=.returned (.bool false)∧w=w':=by
 go_enter Tryz.func28,Tryz.ntmps28
 go_wp2_with fail
 refine(hp.out _).mono ?_
 rintro e w' ⟨rfl,rfl⟩
 go_wp2
 go_ret
 exact⟨rfl,rfl⟩
theorem takes_6 (p:ByteArray)(w:World)(hp:Hid (KindAt p 6)) :
  Calls Tryz.prog 28 #[.string p] w fun e w'=>e=.returned (.bool false)∧w=w':=by
 go_enter Tryz.func28,Tryz.ntmps28
 go_wp2_with fail
 refine(hp.out _).mono ?_
 rintro e w' ⟨rfl,rfl⟩
 go_wp2
 go_ret
 exact⟨rfl,rfl⟩
theorem takes_7 (p:ByteArray)(w:World)(hp:Hid (KindAt p 7)) :
  Calls Tryz.prog 28 #[.string p] w fun e w'=>e=.returned (.bool false)∧w=w':=by
 go_enter Tryz.func28,Tryz.ntmps28
 go_wp2_with fail
 refine(hp.out _).mono ?_
 rintro e w' ⟨rfl,rfl⟩
 go_wp2
 go_ret
 exact⟨rfl,rfl⟩
theorem takes_8 (p:ByteArray)(w:World)(hp:Hid (KindAt p 8)) :
  Calls Tryz.prog 28 #[.string p] w fun e w'=>e=.returned (.bool true)∧w=w':=by
 go_enter Tryz.func28,Tryz.ntmps28
 go_wp2_with fail
 refine(hp.out _).mono ?_
 rintro e w' ⟨rfl,rfl⟩
 go_wp2
 go_ret
 exact⟨rfl,rfl⟩
theorem takes_9 (p:ByteArray)(w:World)(hp:Hid (KindAt p 9)) :
  Calls Tryz.prog 28 #[.string p] w fun e w'=>e=.returned (.bool false)∧w=w':=by
 go_enter Tryz.func28,Tryz.ntmps28
 go_wp2_with fail
 refine(hp.out _).mono ?_
 rintro e w' ⟨rfl,rfl⟩
 go_wp2
 go_ret
 exact⟨rfl,rfl⟩
theorem takes_10 (p:ByteArray)(w:World)(hp:Hid (KindAt p 10)) :
  Calls Tryz.prog 28 #[.string p] w fun e w'=>e=.returned (.bool true)∧w=w':=by
 go_enter Tryz.func28,Tryz.ntmps28
 go_wp2_with fail
 refine(hp.out _).mono ?_
 rintro e w' ⟨rfl,rfl⟩
 go_wp2
 go_ret
 exact⟨rfl,rfl⟩
theorem takes_11 (p:ByteArray)(w:World)(hp:Hid (KindAt p 11)) :
  Calls Tryz.prog 28 #[.string p] w fun e w'=>e=.returned (.bool false)∧w=w':=by
 go_enter Tryz.func28,Tryz.ntmps28
 go_wp2_with fail
 refine(hp.out _).mono ?_
 rintro e w' ⟨rfl,rfl⟩
 go_wp2
 go_ret
 exact⟨rfl,rfl⟩
theorem takes_12 (p:ByteArray)(w:World)(hp:Hid (KindAt p 12)) :
  Calls Tryz.prog 28 #[.string p] w fun e w'=>e=.returned (.bool false)∧w=w':=by
 go_enter Tryz.func28,Tryz.ntmps28
 go_wp2_with fail
 refine(hp.out _).mono ?_
 rintro e w' ⟨rfl,rfl⟩
 go_wp2
 go_ret
 exact⟨rfl,rfl⟩
theorem takes_13 (p:ByteArray)(w:World)(hp:Hid (KindAt p 13)) :
  Calls Tryz.prog 28 #[.string p] w fun e w'=>e=.returned (.bool true)∧w=w':=by
 go_enter Tryz.func28,Tryz.ntmps28
 go_wp2_with fail
 refine(hp.out _).mono ?_
 rintro e w' ⟨rfl,rfl⟩
 go_wp2
 go_ret
 exact⟨rfl,rfl⟩
theorem takes_14 (p:ByteArray)(w:World)(hp:Hid (KindAt p 14)) :
  Calls Tryz.prog 28 #[.string p] w fun e w'=>e=.returned (.bool true)∧w=w':=by
 go_enter Tryz.func28,Tryz.ntmps28
 go_wp2_with fail
 refine(hp.out _).mono ?_
 rintro e w' ⟨rfl,rfl⟩
 go_wp2
 go_ret
 exact⟨rfl,rfl⟩
theorem takes_any (p:ByteArray)(w:World):Calls Tryz.prog 28 #[.string p] w fun e w'=>e=.returned (.bool (takesL p.data.toList))∧w=w':=by
 have hp:=kind_at p
 have lp:=kindL_le p.data.toList
 unfold takesL
 generalize kindL p.data.toList=P at hp lp
 have hP:P=0∨P=1∨P=2∨P=3∨P=4∨P=5∨P=6∨P=7∨P=8∨P=9∨P=10∨P=11∨P=12∨P=13∨P=14:=by omega
 rcases hP with rfl|rfl|rfl|rfl|rfl|rfl|rfl|rfl|rfl|rfl|rfl|rfl|rfl|rfl|rfl
 ·exact takes_0 p w (Lib.hid hp)
 ·exact takes_1 p w (Lib.hid hp)
 ·exact takes_2 p w (Lib.hid hp)
 ·exact takes_3 p w (Lib.hid hp)
 ·exact takes_4 p w (Lib.hid hp)
 ·exact takes_5 p w (Lib.hid hp)
 ·exact takes_6 p w (Lib.hid hp)
 ·exact takes_7 p w (Lib.hid hp)
 ·exact takes_8 p w (Lib.hid hp)
 ·exact takes_9 p w (Lib.hid hp)
 ·exact takes_10 p w (Lib.hid hp)
 ·exact takes_11 p w (Lib.hid hp)
 ·exact takes_12 p w (Lib.hid hp)
 ·exact takes_13 p w (Lib.hid hp)
 ·exact takes_14 p w (Lib.hid hp)
end Go.Proofs.YtcfgbdhpcboikaaGreatDoor
