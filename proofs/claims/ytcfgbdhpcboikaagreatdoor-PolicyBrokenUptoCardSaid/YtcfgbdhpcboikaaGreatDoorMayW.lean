/-
  policy.May and Takes: what they answer, as plain functions of the names (printed by wip/gen/mayw.py).
  What has its form has it once for all: Text of Text, Link of Link. No program in sight.
  policy.link and refs.Escape: what they answer.
  policy.Value: what it answers, by what form answers; form at a title and at a's href.
  policy.form at a's href.
  policy.Text and Link as functions of byte arrays.
-/
import Derived.Test.YtcfgbdhpcboikaaGreatDoorKinds
import Derived.Lib.Hide
import Derived.Test.YtcfgbdhpcboikaaGreatDoorTextLaw
import Derived.Test.YtcfgbdhpcboikaaGreatDoorLinkW
import Derived.Lib.ReplaceLaws
namespace Go.Proofs.YtcfgbdhpcboikaaGreatDoor
set_option maxHeartbeats 1000000
set_option maxRecDepth 100000
open Go.RowKit
def KindAt (s:ByteArray)(n:Int):Prop:=∀ w,Calls Tryz.prog 24 #[.string s] w fun e w'=>e=.returned (.int .i64 n)∧w=w'
theorem kind_at (s:ByteArray):KindAt s (kindL s.data.toList:Nat):=fun w=>kind_any s w
theorem retM_bool {a b:Bool}(h:a=b):Ending.returned (.bool a)=.returned (.bool b):=by rw[h]
theorem may_0 (p k:ByteArray)(K:Int)(b:Bool)(w:World)(hp:Hid (KindAt p 0))(hk:Hid (KindAt k K))(hb:Hid ((false)=b)) :
  Calls Tryz.prog 26 #[.string p,.string k] w fun e w'=>e=.returned (.bool b)∧w=w':=by
 go_enter Tryz.func26,Tryz.ntmps26
 go_wp2_with fail
 refine(hk.out _).mono ?_
 rintro e w' ⟨rfl,rfl⟩
 go_wp2_with fail
 refine(hp.out _).mono ?_
 rintro e w' ⟨rfl,rfl⟩
 go_wp2
 all_goals
  go_ret
  refine⟨retM_bool ?_,rfl⟩
  first
   | (rw[← hb.out];done)
   | (rw[← hb.out,Bool.eq_iff_iff];simp;done)
   | (rw[← hb.out,Bool.eq_iff_iff];simp;omega)
   | (rw[← hb.out];simp_all;done)
theorem may_1 (p k:ByteArray)(K:Int)(b:Bool)(w:World)(hp:Hid (KindAt p 1))(hk:Hid (KindAt k K))(hb:Hid ((false)=b)) :
  Calls Tryz.prog 26 #[.string p,.string k] w fun e w'=>e=.returned (.bool b)∧w=w':=by
 go_enter Tryz.func26,Tryz.ntmps26
 go_wp2_with fail
 refine(hk.out _).mono ?_
 rintro e w' ⟨rfl,rfl⟩
 go_wp2_with fail
 refine(hp.out _).mono ?_
 rintro e w' ⟨rfl,rfl⟩
 go_wp2
 all_goals
  go_ret
  refine⟨retM_bool ?_,rfl⟩
  first
   | (rw[← hb.out];done)
   | (rw[← hb.out,Bool.eq_iff_iff];simp;done)
   | (rw[← hb.out,Bool.eq_iff_iff];simp;omega)
   | (rw[← hb.out];simp_all;done)
theorem may_2 (p k:ByteArray)(K:Int)(b:Bool)(w:World)(hp:Hid (KindAt p 2))(hk:Hid (KindAt k K))(hb:Hid ((decide (2≤K)&&decide (K≤7)||decide (K=9))=b)) :
  Calls Tryz.prog 26 #[.string p,.string k] w fun e w'=>e=.returned (.bool b)∧w=w':=by
 go_enter Tryz.func26,Tryz.ntmps26
 go_wp2_with fail
 refine(hk.out _).mono ?_
 rintro e w' ⟨rfl,rfl⟩
 go_wp2_with fail
 refine(hp.out _).mono ?_
 rintro e w' ⟨rfl,rfl⟩
 go_wp2
 all_goals
  go_ret
  refine⟨retM_bool ?_,rfl⟩
  first
   | (rw[← hb.out];done)
   | (rw[← hb.out,Bool.eq_iff_iff];simp;done)
   | (rw[← hb.out,Bool.eq_iff_iff];simp;omega)
   | (rw[← hb.out];simp_all;done)
theorem may_3 (p k:ByteArray)(K:Int)(b:Bool)(w:World)(hp:Hid (KindAt p 3))(hk:Hid (KindAt k K))(hb:Hid ((decide (K=4)||decide (K=5))=b)) :
  Calls Tryz.prog 26 #[.string p,.string k] w fun e w'=>e=.returned (.bool b)∧w=w':=by
 go_enter Tryz.func26,Tryz.ntmps26
 go_wp2_with fail
 refine(hk.out _).mono ?_
 rintro e w' ⟨rfl,rfl⟩
 go_wp2_with fail
 refine(hp.out _).mono ?_
 rintro e w' ⟨rfl,rfl⟩
 go_wp2
 all_goals
  go_ret
  refine⟨retM_bool ?_,rfl⟩
  first
   | (rw[← hb.out];done)
   | (rw[← hb.out,Bool.eq_iff_iff];simp;done)
   | (rw[← hb.out,Bool.eq_iff_iff];simp;omega)
   | (rw[← hb.out];simp_all;done)
theorem may_4 (p k:ByteArray)(K:Int)(b:Bool)(w:World)(hp:Hid (KindAt p 4))(hk:Hid (KindAt k K))(hb:Hid ((decide (K=4)&&!(k.toList==p.toList)||decide (K=5))=b)) :
  Calls Tryz.prog 26 #[.string p,.string k] w fun e w'=>e=.returned (.bool b)∧w=w':=by
 go_enter Tryz.func26,Tryz.ntmps26
 go_wp2_with fail
 refine(hk.out _).mono ?_
 rintro e w' ⟨rfl,rfl⟩
 go_wp2_with fail
 refine(hp.out _).mono ?_
 rintro e w' ⟨rfl,rfl⟩
 go_wp2
 all_goals
  go_ret
  refine⟨retM_bool ?_,rfl⟩
  first
   | (rw[← hb.out];done)
   | (rw[← hb.out,Bool.eq_iff_iff];simp;done)
   | (rw[← hb.out,Bool.eq_iff_iff];simp;omega)
   | (rw[← hb.out];simp_all;done)
theorem may_5 (p k:ByteArray)(K:Int)(b:Bool)(w:World)(hp:Hid (KindAt p 5))(hk:Hid (KindAt k K))(hb:Hid ((false)=b)) :
  Calls Tryz.prog 26 #[.string p,.string k] w fun e w'=>e=.returned (.bool b)∧w=w':=by
 go_enter Tryz.func26,Tryz.ntmps26
 go_wp2_with fail
 refine(hk.out _).mono ?_
 rintro e w' ⟨rfl,rfl⟩
 go_wp2_with fail
 refine(hp.out _).mono ?_
 rintro e w' ⟨rfl,rfl⟩
 go_wp2
 all_goals
  go_ret
  refine⟨retM_bool ?_,rfl⟩
  first
   | (rw[← hb.out];done)
   | (rw[← hb.out,Bool.eq_iff_iff];simp;done)
   | (rw[← hb.out,Bool.eq_iff_iff];simp;omega)
   | (rw[← hb.out];simp_all;done)
theorem may_6 (p k:ByteArray)(K:Int)(b:Bool)(w:World)(hp:Hid (KindAt p 6))(hk:Hid (KindAt k K))(hb:Hid ((false)=b)) :
  Calls Tryz.prog 26 #[.string p,.string k] w fun e w'=>e=.returned (.bool b)∧w=w':=by
 go_enter Tryz.func26,Tryz.ntmps26
 go_wp2_with fail
 refine(hk.out _).mono ?_
 rintro e w' ⟨rfl,rfl⟩
 go_wp2_with fail
 refine(hp.out _).mono ?_
 rintro e w' ⟨rfl,rfl⟩
 go_wp2
 all_goals
  go_ret
  refine⟨retM_bool ?_,rfl⟩
  first
   | (rw[← hb.out];done)
   | (rw[← hb.out,Bool.eq_iff_iff];simp;done)
   | (rw[← hb.out,Bool.eq_iff_iff];simp;omega)
   | (rw[← hb.out];simp_all;done)
theorem may_7 (p k:ByteArray)(K:Int)(b:Bool)(w:World)(hp:Hid (KindAt p 7))(hk:Hid (KindAt k K))(hb:Hid ((decide (K=8))=b)) :
  Calls Tryz.prog 26 #[.string p,.string k] w fun e w'=>e=.returned (.bool b)∧w=w':=by
 go_enter Tryz.func26,Tryz.ntmps26
 go_wp2_with fail
 refine(hk.out _).mono ?_
 rintro e w' ⟨rfl,rfl⟩
 go_wp2_with fail
 refine(hp.out _).mono ?_
 rintro e w' ⟨rfl,rfl⟩
 go_wp2
 all_goals
  go_ret
  refine⟨retM_bool ?_,rfl⟩
  first
   | (rw[← hb.out];done)
   | (rw[← hb.out,Bool.eq_iff_iff];simp;done)
   | (rw[← hb.out,Bool.eq_iff_iff];simp;omega)
   | (rw[← hb.out];simp_all;done)
theorem may_8 (p k:ByteArray)(K:Int)(b:Bool)(w:World)(hp:Hid (KindAt p 8))(hk:Hid (KindAt k K))(hb:Hid ((decide (2≤K)&&decide (K≤7)||decide (K=9))=b)) :
  Calls Tryz.prog 26 #[.string p,.string k] w fun e w'=>e=.returned (.bool b)∧w=w':=by
 go_enter Tryz.func26,Tryz.ntmps26
 go_wp2_with fail
 refine(hk.out _).mono ?_
 rintro e w' ⟨rfl,rfl⟩
 go_wp2_with fail
 refine(hp.out _).mono ?_
 rintro e w' ⟨rfl,rfl⟩
 go_wp2
 all_goals
  go_ret
  refine⟨retM_bool ?_,rfl⟩
  first
   | (rw[← hb.out];done)
   | (rw[← hb.out,Bool.eq_iff_iff];simp;done)
   | (rw[← hb.out,Bool.eq_iff_iff];simp;omega)
   | (rw[← hb.out];simp_all;done)
theorem may_9 (p k:ByteArray)(K:Int)(b:Bool)(w:World)(hp:Hid (KindAt p 9))(hk:Hid (KindAt k K))(hb:Hid ((decide (K=10)||decide (K=11))=b)) :
  Calls Tryz.prog 26 #[.string p,.string k] w fun e w'=>e=.returned (.bool b)∧w=w':=by
 go_enter Tryz.func26,Tryz.ntmps26
 go_wp2_with fail
 refine(hk.out _).mono ?_
 rintro e w' ⟨rfl,rfl⟩
 go_wp2_with fail
 refine(hp.out _).mono ?_
 rintro e w' ⟨rfl,rfl⟩
 go_wp2
 all_goals
  go_ret
  refine⟨retM_bool ?_,rfl⟩
  first
   | (rw[← hb.out];done)
   | (rw[← hb.out,Bool.eq_iff_iff];simp;done)
   | (rw[← hb.out,Bool.eq_iff_iff];simp;omega)
   | (rw[← hb.out];simp_all;done)
theorem may_10 (p k:ByteArray)(K:Int)(b:Bool)(w:World)(hp:Hid (KindAt p 10))(hk:Hid (KindAt k K))(hb:Hid ((decide (K=4)||decide (K=5))=b)) :
  Calls Tryz.prog 26 #[.string p,.string k] w fun e w'=>e=.returned (.bool b)∧w=w':=by
 go_enter Tryz.func26,Tryz.ntmps26
 go_wp2_with fail
 refine(hk.out _).mono ?_
 rintro e w' ⟨rfl,rfl⟩
 go_wp2_with fail
 refine(hp.out _).mono ?_
 rintro e w' ⟨rfl,rfl⟩
 go_wp2
 all_goals
  go_ret
  refine⟨retM_bool ?_,rfl⟩
  first
   | (rw[← hb.out];done)
   | (rw[← hb.out,Bool.eq_iff_iff];simp;done)
   | (rw[← hb.out,Bool.eq_iff_iff];simp;omega)
   | (rw[← hb.out];simp_all;done)
theorem may_11 (p k:ByteArray)(K:Int)(b:Bool)(w:World)(hp:Hid (KindAt p 11))(hk:Hid (KindAt k K))(hb:Hid ((decide (K=12))=b)) :
  Calls Tryz.prog 26 #[.string p,.string k] w fun e w'=>e=.returned (.bool b)∧w=w':=by
 go_enter Tryz.func26,Tryz.ntmps26
 go_wp2_with fail
 refine(hk.out _).mono ?_
 rintro e w' ⟨rfl,rfl⟩
 go_wp2_with fail
 refine(hp.out _).mono ?_
 rintro e w' ⟨rfl,rfl⟩
 go_wp2
 all_goals
  go_ret
  refine⟨retM_bool ?_,rfl⟩
  first
   | (rw[← hb.out];done)
   | (rw[← hb.out,Bool.eq_iff_iff];simp;done)
   | (rw[← hb.out,Bool.eq_iff_iff];simp;omega)
   | (rw[← hb.out];simp_all;done)
theorem may_12 (p k:ByteArray)(K:Int)(b:Bool)(w:World)(hp:Hid (KindAt p 12))(hk:Hid (KindAt k K))(hb:Hid ((decide (K=13))=b)) :
  Calls Tryz.prog 26 #[.string p,.string k] w fun e w'=>e=.returned (.bool b)∧w=w':=by
 go_enter Tryz.func26,Tryz.ntmps26
 go_wp2_with fail
 refine(hk.out _).mono ?_
 rintro e w' ⟨rfl,rfl⟩
 go_wp2_with fail
 refine(hp.out _).mono ?_
 rintro e w' ⟨rfl,rfl⟩
 go_wp2
 all_goals
  go_ret
  refine⟨retM_bool ?_,rfl⟩
  first
   | (rw[← hb.out];done)
   | (rw[← hb.out,Bool.eq_iff_iff];simp;done)
   | (rw[← hb.out,Bool.eq_iff_iff];simp;omega)
   | (rw[← hb.out];simp_all;done)
theorem may_13 (p k:ByteArray)(K:Int)(b:Bool)(w:World)(hp:Hid (KindAt p 13))(hk:Hid (KindAt k K))(hb:Hid ((decide (2≤K)&&decide (K≤7)||decide (K=9))=b)) :
  Calls Tryz.prog 26 #[.string p,.string k] w fun e w'=>e=.returned (.bool b)∧w=w':=by
 go_enter Tryz.func26,Tryz.ntmps26
 go_wp2_with fail
 refine(hk.out _).mono ?_
 rintro e w' ⟨rfl,rfl⟩
 go_wp2_with fail
 refine(hp.out _).mono ?_
 rintro e w' ⟨rfl,rfl⟩
 go_wp2
 all_goals
  go_ret
  refine⟨retM_bool ?_,rfl⟩
  first
   | (rw[← hb.out];done)
   | (rw[← hb.out,Bool.eq_iff_iff];simp;done)
   | (rw[← hb.out,Bool.eq_iff_iff];simp;omega)
   | (rw[← hb.out];simp_all;done)
theorem may_14 (p k:ByteArray)(K:Int)(b:Bool)(w:World)(hp:Hid (KindAt p 14))(hk:Hid (KindAt k K))(hb:Hid ((decide (2≤K)&&decide (K≤7)||decide (K=9))=b)) :
  Calls Tryz.prog 26 #[.string p,.string k] w fun e w'=>e=.returned (.bool b)∧w=w':=by
 go_enter Tryz.func26,Tryz.ntmps26
 go_wp2_with fail
 refine(hk.out _).mono ?_
 rintro e w' ⟨rfl,rfl⟩
 go_wp2_with fail
 refine(hp.out _).mono ?_
 rintro e w' ⟨rfl,rfl⟩
 go_wp2
 all_goals
  go_ret
  refine⟨retM_bool ?_,rfl⟩
  first
   | (rw[← hb.out];done)
   | (rw[← hb.out,Bool.eq_iff_iff];simp;done)
   | (rw[← hb.out,Bool.eq_iff_iff];simp;omega)
   | (rw[← hb.out];simp_all;done)
theorem may_any (p k:ByteArray)(w:World):Calls Tryz.prog 26 #[.string p,.string k] w fun e w'=>e=.returned (.bool (mayL p.data.toList k.data.toList))∧w=w':=by
 have hp:=kind_at p
 have hk:=kind_at k
 have hs:(k.toList==p.toList)=(k.data.toList==p.data.toList):=by rw[toList_data,toList_data]
 have lp:=kindL_le p.data.toList
 unfold mayL
 rw[← hs]
 generalize kindL k.data.toList=K at hk
 generalize kindL p.data.toList=P at hp lp
 have key:∀ (n:Nat) (f:Bool),P=n→f=mayN n K (k.toList==p.toList)→(∀ b,Hid (KindAt p n)→Hid (KindAt k (K:Nat))→Hid (f=b)→Calls Tryz.prog 26 #[.string p,.string k] w fun e w'=>e=.returned (.bool b)∧w=w')→Calls Tryz.prog 26 #[.string p,.string k] w fun e w'=>e=.returned (.bool (mayN P K (k.toList==p.toList)))∧w=w':=by
  intro n f hn hf h
  subst hn
  exact h _ (Lib.hid hp) (Lib.hid hk) (Lib.hid hf)
 have hP:P=0∨P=1∨P=2∨P=3∨P=4∨P=5∨P=6∨P=7∨P=8∨P=9∨P=10∨P=11∨P=12∨P=13∨P=14:=by omega
 rcases hP with h|h|h|h|h|h|h|h|h|h|h|h|h|h|h
 ·exact key 0 _ h (by simp only[mayN];rw[Bool.eq_iff_iff];simp;try omega) fun b a1 a2 a3=>may_0 p k _ b w a1 a2 a3
 ·exact key 1 _ h (by simp only[mayN];rw[Bool.eq_iff_iff];simp;try omega) fun b a1 a2 a3=>may_1 p k _ b w a1 a2 a3
 ·exact key 2 _ h (by simp only[mayN];rw[Bool.eq_iff_iff];simp;try omega) fun b a1 a2 a3=>may_2 p k _ b w a1 a2 a3
 ·exact key 3 _ h (by simp only[mayN];rw[Bool.eq_iff_iff];simp;try omega) fun b a1 a2 a3=>may_3 p k _ b w a1 a2 a3
 ·exact key 4 _ h (by simp only[mayN];rw[Bool.eq_iff_iff];simp;rw[show((K:Nat):Int)=4↔K=4 by omega,show((K:Nat):Int)=5↔K=5 by omega]) fun b a1 a2 a3=>may_4 p k _ b w a1 a2 a3
 ·exact key 5 _ h (by simp only[mayN];rw[Bool.eq_iff_iff];simp;try omega) fun b a1 a2 a3=>may_5 p k _ b w a1 a2 a3
 ·exact key 6 _ h (by simp only[mayN];rw[Bool.eq_iff_iff];simp;try omega) fun b a1 a2 a3=>may_6 p k _ b w a1 a2 a3
 ·exact key 7 _ h (by simp only[mayN];rw[Bool.eq_iff_iff];simp;try omega) fun b a1 a2 a3=>may_7 p k _ b w a1 a2 a3
 ·exact key 8 _ h (by simp only[mayN];rw[Bool.eq_iff_iff];simp;try omega) fun b a1 a2 a3=>may_8 p k _ b w a1 a2 a3
 ·exact key 9 _ h (by simp only[mayN];rw[Bool.eq_iff_iff];simp;try omega) fun b a1 a2 a3=>may_9 p k _ b w a1 a2 a3
 ·exact key 10 _ h (by simp only[mayN];rw[Bool.eq_iff_iff];simp;try omega) fun b a1 a2 a3=>may_10 p k _ b w a1 a2 a3
 ·exact key 11 _ h (by simp only[mayN];rw[Bool.eq_iff_iff];simp;try omega) fun b a1 a2 a3=>may_11 p k _ b w a1 a2 a3
 ·exact key 12 _ h (by simp only[mayN];rw[Bool.eq_iff_iff];simp;try omega) fun b a1 a2 a3=>may_12 p k _ b w a1 a2 a3
 ·exact key 13 _ h (by simp only[mayN];rw[Bool.eq_iff_iff];simp;try omega) fun b a1 a2 a3=>may_13 p k _ b w a1 a2 a3
 ·exact key 14 _ h (by simp only[mayN];rw[Bool.eq_iff_iff];simp;try omega) fun b a1 a2 a3=>may_14 p k _ b w a1 a2 a3
theorem takes_0 (p:ByteArray)(w:World)(hp:Hid (KindAt p 0)) :
  Calls Tryz.prog 28 #[.string p] w fun e w'=>e=.returned (.bool false)∧w=w':=by
 go_enter Tryz.func28,Tryz.ntmps28
 go_wp2_with fail
 refine(hp.out _).mono ?_
 rintro e w' ⟨rfl,rfl⟩
 go_wp2
 go_ret
 exact⟨rfl,rfl⟩
theorem takes_1 (p:ByteArray)(w:World)(hp:Hid (KindAt p 1)) :
  Calls Tryz.prog 28 #[.string p] w fun e w'=>e=.returned (.bool false)∧w=w':=by
 go_enter Tryz.func28,Tryz.ntmps28
 go_wp2_with fail
 refine(hp.out _).mono ?_
 rintro e w' ⟨rfl,rfl⟩
 go_wp2
 go_ret
 exact⟨rfl,rfl⟩
theorem takes_2 (p:ByteArray)(w:World)(hp:Hid (KindAt p 2)) :
  Calls Tryz.prog 28 #[.string p] w fun e w'=>e=.returned (.bool true)∧w=w':=by
 go_enter Tryz.func28,Tryz.ntmps28
 go_wp2_with fail
 refine(hp.out _).mono ?_
 rintro e w' ⟨rfl,rfl⟩
 go_wp2
 go_ret
 exact⟨rfl,rfl⟩
theorem takes_3 (p:ByteArray)(w:World)(hp:Hid (KindAt p 3)) :
  Calls Tryz.prog 28 #[.string p] w fun e w'=>e=.returned (.bool true)∧w=w':=by
 go_enter Tryz.func28,Tryz.ntmps28
 go_wp2_with fail
 refine(hp.out _).mono ?_
 rintro e w' ⟨rfl,rfl⟩
 go_wp2
 go_ret
 exact⟨rfl,rfl⟩
theorem takes_4 (p:ByteArray)(w:World)(hp:Hid (KindAt p 4)) :
  Calls Tryz.prog 28 #[.string p] w fun e w'=>e=.returned (.bool true)∧w=w':=by
 go_enter Tryz.func28,Tryz.ntmps28
 go_wp2_with fail
 refine(hp.out _).mono ?_
 rintro e w' ⟨rfl,rfl⟩
 go_wp2
 go_ret
 exact⟨rfl,rfl⟩
theorem takes_5 (p:ByteArray)(w:World)(hp:Hid (KindAt p 5)) :
  Calls Tryz.prog 28 #[.string p] w fun e w'=>e=.returned (.bool false)∧w=w':=by
 go_enter Tryz.func28,Tryz.ntmps28
 go_wp2_with fail
 refine(hp.out _).mono ?_
 rintro e w' ⟨rfl,rfl⟩
 go_wp2
 go_ret
 exact⟨rfl,rfl⟩
theorem takes_6 (p:ByteArray)(w:World)(hp:Hid (KindAt p 6)) :
  Calls Tryz.prog 28 #[.string p] w fun e w'=>e=.returned (.bool false)∧w=w':=by
 go_enter Tryz.func28,Tryz.ntmps28
 go_wp2_with fail
 refine(hp.out _).mono ?_
 rintro e w' ⟨rfl,rfl⟩
 go_wp2
 go_ret
 exact⟨rfl,rfl⟩
theorem takes_7 (p:ByteArray)(w:World)(hp:Hid (KindAt p 7)) :
  Calls Tryz.prog 28 #[.string p] w fun e w'=>e=.returned (.bool false)∧w=w':=by
 go_enter Tryz.func28,Tryz.ntmps28
 go_wp2_with fail
 refine(hp.out _).mono ?_
 rintro e w' ⟨rfl,rfl⟩
 go_wp2
 go_ret
 exact⟨rfl,rfl⟩
theorem takes_8 (p:ByteArray)(w:World)(hp:Hid (KindAt p 8)) :
  Calls Tryz.prog 28 #[.string p] w fun e w'=>e=.returned (.bool true)∧w=w':=by
 go_enter Tryz.func28,Tryz.ntmps28
 go_wp2_with fail
 refine(hp.out _).mono ?_
 rintro e w' ⟨rfl,rfl⟩
 go_wp2
 go_ret
 exact⟨rfl,rfl⟩
theorem takes_9 (p:ByteArray)(w:World)(hp:Hid (KindAt p 9)) :
  Calls Tryz.prog 28 #[.string p] w fun e w'=>e=.returned (.bool false)∧w=w':=by
 go_enter Tryz.func28,Tryz.ntmps28
 go_wp2_with fail
 refine(hp.out _).mono ?_
 rintro e w' ⟨rfl,rfl⟩
 go_wp2
 go_ret
 exact⟨rfl,rfl⟩
theorem takes_10 (p:ByteArray)(w:World)(hp:Hid (KindAt p 10)) :
  Calls Tryz.prog 28 #[.string p] w fun e w'=>e=.returned (.bool true)∧w=w':=by
 go_enter Tryz.func28,Tryz.ntmps28
 go_wp2_with fail
 refine(hp.out _).mono ?_
 rintro e w' ⟨rfl,rfl⟩
 go_wp2
 go_ret
 exact⟨rfl,rfl⟩
theorem takes_11 (p:ByteArray)(w:World)(hp:Hid (KindAt p 11)) :
  Calls Tryz.prog 28 #[.string p] w fun e w'=>e=.returned (.bool false)∧w=w':=by
 go_enter Tryz.func28,Tryz.ntmps28
 go_wp2_with fail
 refine(hp.out _).mono ?_
 rintro e w' ⟨rfl,rfl⟩
 go_wp2
 go_ret
 exact⟨rfl,rfl⟩
theorem takes_12 (p:ByteArray)(w:World)(hp:Hid (KindAt p 12)) :
  Calls Tryz.prog 28 #[.string p] w fun e w'=>e=.returned (.bool false)∧w=w':=by
 go_enter Tryz.func28,Tryz.ntmps28
 go_wp2_with fail
 refine(hp.out _).mono ?_
 rintro e w' ⟨rfl,rfl⟩
 go_wp2
 go_ret
 exact⟨rfl,rfl⟩
theorem takes_13 (p:ByteArray)(w:World)(hp:Hid (KindAt p 13)) :
  Calls Tryz.prog 28 #[.string p] w fun e w'=>e=.returned (.bool true)∧w=w':=by
 go_enter Tryz.func28,Tryz.ntmps28
 go_wp2_with fail
 refine(hp.out _).mono ?_
 rintro e w' ⟨rfl,rfl⟩
 go_wp2
 go_ret
 exact⟨rfl,rfl⟩
theorem takes_14 (p:ByteArray)(w:World)(hp:Hid (KindAt p 14)) :
  Calls Tryz.prog 28 #[.string p] w fun e w'=>e=.returned (.bool true)∧w=w':=by
 go_enter Tryz.func28,Tryz.ntmps28
 go_wp2_with fail
 refine(hp.out _).mono ?_
 rintro e w' ⟨rfl,rfl⟩
 go_wp2
 go_ret
 exact⟨rfl,rfl⟩
theorem takes_any (p:ByteArray)(w:World):Calls Tryz.prog 28 #[.string p] w fun e w'=>e=.returned (.bool (takesL p.data.toList))∧w=w':=by
 have hp:=kind_at p
 have lp:=kindL_le p.data.toList
 unfold takesL
 generalize kindL p.data.toList=P at hp lp
 have hP:P=0∨P=1∨P=2∨P=3∨P=4∨P=5∨P=6∨P=7∨P=8∨P=9∨P=10∨P=11∨P=12∨P=13∨P=14:=by omega
 rcases hP with rfl|rfl|rfl|rfl|rfl|rfl|rfl|rfl|rfl|rfl|rfl|rfl|rfl|rfl|rfl
 ·exact takes_0 p w (Lib.hid hp)
 ·exact takes_1 p w (Lib.hid hp)
 ·exact takes_2 p w (Lib.hid hp)
 ·exact takes_3 p w (Lib.hid hp)
 ·exact takes_4 p w (Lib.hid hp)
 ·exact takes_5 p w (Lib.hid hp)
 ·exact takes_6 p w (Lib.hid hp)
 ·exact takes_7 p w (Lib.hid hp)
 ·exact takes_8 p w (Lib.hid hp)
 ·exact takes_9 p w (Lib.hid hp)
 ·exact takes_10 p w (Lib.hid hp)
 ·exact takes_11 p w (Lib.hid hp)
 ·exact takes_12 p w (Lib.hid hp)
 ·exact takes_13 p w (Lib.hid hp)
 ·exact takes_14 p w (Lib.hid hp)
open PU8
theorem trimB_sub (l:List UInt8)(c:UInt8):(Lib.trimB l c).Sublist l:=by
 unfold Lib.trimB Lib.trimLeftB Lib.trimRightB
 refine(List.dropWhile_sublist _).trans ?_
 have:=(List.dropWhile_sublist (fun x=>x==c) (l:=l.reverse)).reverse
 rwa[List.reverse_reverse] at this
theorem link_sub (l:List UInt8):(linkL l).Sublist (textL l):=by
 unfold linkL
 refine(trimB_sub _ _).trans ?_
 unfold bareL
 exact(List.filter_sublist).trans List.filter_sublist
open Go.RowKit
def linkOk (zs:List ByteArray)(l:List UInt8):Bool:=match schemeL l with
 | none=>true
 | some w=>Lib.containsS zs ⟨w.toArray⟩
def StrsAt (w:World)(g off:Nat)(zs:List ByteArray):Prop:=∀ j,j<zs.length→w.cell? ⟨g,off+j,none⟩=some (.string (zs.getD j ByteArray.empty))
theorem StrsAt.below {w w':World}{g off B:Nat}{zs:List ByteArray}(h:StrsAt w g off zs)(hb:Below B w w')(hg:g<B):StrsAt w' g off zs:=by
 intro j hj
 rw[hb.cell (p:=⟨g,off+j,none⟩) hg]
 exact h j hj
theorem link_size (l:List UInt8):(linkL l).length≤3*l.length:=Nat.le_trans (link_sub l).length_le (text_size l)
theorem linkf_any (s:ByteArray)(hs:s.size≤1000000000)(g off n c:Nat)(zs:List ByteArray)(hn:zs.length=n)(hn9:n≤1000)(w:World)(T:Tabs w)(hz:Hid (StrsAt w g off zs))(hg:g<w.heap.size)(b:Bool)(hb:Hid (linkOk zs (linkL s.data.toList)=b)) :
  Calls Tryz.prog 143 #[.string s,.slice (some ⟨g,off,none⟩) n c] w fun e w'=>e=.returned (.tuple #[.string ⟨(linkL s.data.toList).toArray⟩,.bool b])∧Below w.heap.size w w':=by
 have HT:=Lib.hid T
 clear T
 have hl:=link_size s.data.toList
 have hl2:s.data.toList.length=s.size:=rfl
 have hsz:(⟨(linkL s.data.toList).toArray⟩:ByteArray).size<4294967281:=by rw[bytes_size];omega
 have HSZ:=Lib.hid hsz
 clear hsz hl hl2
 obtain⟨L,hL⟩:∃ L,linkL s.data.toList=L:=⟨_,rfl⟩
 have K:=fun w T=>link_any s hs w T
 rw[hL] at K HSZ
 have HK:=Lib.hid K
 have HB:=Lib.hid (show linkOk zs L=b by rw[← hL];exact hb.out)
 rw[hL]
 clear K hL hb
 go_enter Tryz.func143,Tryz.ntmps143
 go_wp2_with fail
 refine(HK.out w HT.out).mono ?_
 rintro e W1 ⟨rfl,B1⟩
 have HB1:=Lib.hid B1
 have HT1:=Lib.hid (HT.out.below HB1.out (Nat.le_refl _))
 clear B1
 have S:=scheme_any ⟨L.toArray⟩ HSZ.out W1 HT1.out
 have hb:=HB.out
 unfold linkOk at hb
 cases hsc:schemeL L with
 | none =>
  rw[show schemeV (⟨L.toArray⟩:ByteArray).data.toList=.tuple #[.string ⟨#[]⟩,.bool false] from schemeV_none hsc] at S
  have HS:=Lib.hid S
  rw[hsc] at hb
  subst hb
  clear S hsc
  go_wp2_with fail
  refine HS.out.mono ?_
  rintro e W2 ⟨rfl,B2⟩
  have HB2:=Lib.hid (HB1.out.trans (B2.mono HB1.out.size))
  clear B2
  go_wp2
  go_ret2
  exact⟨rfl,HB2.out⟩
 | some x =>
  rw[show schemeV (⟨L.toArray⟩:ByteArray).data.toList=.tuple #[.string ⟨x.toArray⟩,.bool true] from schemeV_some hsc] at S
  have HS:=Lib.hid S
  rw[hsc] at hb
  have HBX:Hid (Lib.containsS zs ⟨x.toArray⟩=b):=hb
  clear S hsc hb
  go_wp2_with fail
  refine HS.out.mono ?_
  rintro e W2 ⟨rfl,B2⟩
  have HB2:=Lib.hid (HB1.out.trans (B2.mono HB1.out.size))
  clear B2
  have hz2:Hid (StrsAt W2 g off zs):=hz.out.below HB2.out hg
  have C:=Tryz.slices_Contains_string g off n c zs ⟨x.toArray⟩ W2 (by omega) (by omega) hz2.out
  rw[List.take_of_length_le (by omega),HBX.out] at C
  have HC:=Lib.hid C
  clear C
  go_wp2_with fail
  refine HC.out.mono ?_
  rintro e W3 ⟨rfl,rfl⟩
  go_wp2
  all_goals
   go_ret2
   exact⟨rfl,HB2.out⟩
theorem replaceK_len (old new:List UInt8)(h:1≤old.length):∀ (k:Nat)(s:List UInt8),(Lib.replaceK old new k s).length≤s.length+k*new.length:=by
 intro k
 induction k with
 | zero=>intro s;simp[Lib.replaceK]
 | succ k ih =>
  intro s
  rw[Nat.succ_mul]
  by_cases hi:Lib.index s old=-1
  ·unfold Lib.replaceK
   rw[if_pos (by rw[hi];rfl)]
   omega
  ·have hge:=Lib.index_ge s old
   obtain⟨i,hi'⟩:∃ i:Nat,Lib.index s old=i:=⟨(Lib.index s old).toNat,by omega⟩
   rw[Lib.replaceK_hit old new k s i hi']
   have:=ih (s.drop (i+old.length))
   have hr:=Lib.index_room s old (by omega)
   rw[List.length_append,List.length_append,List.length_take]
   rw[List.length_drop] at this
   omega
theorem replaceAll_len (s old new:ByteArray)(h:1≤old.size):(Lib.replaceAll s.data.toList old.data.toList new.data.toList).length≤s.size*(1+new.size):=by
 unfold Lib.replaceAll Lib.replace
 have h1:=Lib.countB_le old h s.size s (Nat.le_refl _)
 have e1:s.size=s.data.toList.length:=rfl
 have e2:new.size=new.data.toList.length:=rfl
 split
 ·rw[e1,Nat.mul_add];omega
 ·have hn:Lib.replaceNum s.data.toList old.data.toList (-1)=Lib.count s.data.toList old.data.toList:=by
   unfold Lib.replaceNum;rw[if_pos (Or.inl (by omega))]
  rw[hn]
  have h2:=replaceK_len old.data.toList new.data.toList h (Lib.count s.data.toList old.data.toList) s.data.toList
  have h3:Lib.count s.data.toList old.data.toList≤s.size:=h1
  have h4:Lib.count s.data.toList old.data.toList*new.data.toList.length≤s.size*new.data.toList.length:=Nat.mul_le_mul_right _ h3
  rw[Nat.mul_add,e2]
  omega
def bAmp:ByteArray:=⟨#[38,97,109,112,59]⟩
def bNb:ByteArray:=⟨#[38,110,98,115,112,59]⟩
def bLt:ByteArray:=⟨#[38,108,116,59]⟩
def bGt:ByteArray:=⟨#[38,103,116,59]⟩
def bQ:ByteArray:=⟨#[38,113,117,111,116,59]⟩
def repB (s old new:ByteArray):ByteArray:=⟨(Lib.replaceAll s.data.toList old.data.toList new.data.toList).toArray⟩
theorem repB_len (s old new:ByteArray)(h:1≤old.size):(repB s old new).size≤s.size*(1+new.size):=replaceAll_len s old new h
theorem rep_any (s old new:ByteArray)(w:World)(T:Tabs w)(hs:s.size<4294967281)(h1:1≤old.size)(h2:new.size≤10) :
  Calls Tryz.prog 80 #[.string s,.string old,.string new] w fun e w'=>e=.returned (.string (repB s old new))∧Below w.heap.size w w':=by
 obtain⟨m,hm⟩:=T.most
 refine Tryz.strings_ReplaceAll s old new m w hs hm h1 ?_
 have h3:=Lib.countB_le old h1 s.size s (Nat.le_refl _)
 have h4:Lib.countB s old*new.size≤s.size*10:=Nat.mul_le_mul h3 h2
 omega
def escB (s:ByteArray):ByteArray:=repB (repB (repB (repB (repB s ⟨#[38]⟩ bAmp) ⟨#[194,160]⟩ bNb) ⟨#[60]⟩ bLt) ⟨#[62]⟩ bGt) ⟨#[34]⟩ bQ
theorem esc_any (s:ByteArray)(hs:s.size≤4000000)(w:World)(T:Tabs w):Calls Tryz.prog 84 #[.string s,.bool true] w fun e w'=>e=.returned (.string (escB s))∧Below w.heap.size w w':=by
 have a1:=repB_len s ⟨#[38]⟩ bAmp (by decide)
 have a2:=repB_len (repB s ⟨#[38]⟩ bAmp) ⟨#[194,160]⟩ bNb (by decide)
 have a3:=repB_len (repB (repB s ⟨#[38]⟩ bAmp) ⟨#[194,160]⟩ bNb) ⟨#[60]⟩ bLt (by decide)
 have a4:=repB_len (repB (repB (repB s ⟨#[38]⟩ bAmp) ⟨#[194,160]⟩ bNb) ⟨#[60]⟩ bLt) ⟨#[62]⟩ bGt (by decide)
 have e1:bAmp.size=5:=rfl
 have e2:bNb.size=6:=rfl
 have e3:bLt.size=4:=rfl
 have e4:bGt.size=4:=rfl
 rw[e1] at a1
 rw[e2] at a2
 rw[e3] at a3
 rw[e4] at a4
 have HT:=Lib.hid T
 have R1:=Lib.hid (fun w T=>rep_any s ⟨#[38]⟩ bAmp w T (by omega) (by decide) (by decide))
 have R2:=Lib.hid (fun w T=>rep_any (repB s ⟨#[38]⟩ bAmp) ⟨#[194,160]⟩ bNb w T (by omega) (by decide) (by decide))
 have R3:=Lib.hid (fun w T=>rep_any (repB (repB s ⟨#[38]⟩ bAmp) ⟨#[194,160]⟩ bNb) ⟨#[60]⟩ bLt w T (by omega) (by decide) (by decide))
 have R4:=Lib.hid (fun w T=>rep_any (repB (repB (repB s ⟨#[38]⟩ bAmp) ⟨#[194,160]⟩ bNb) ⟨#[60]⟩ bLt) ⟨#[62]⟩ bGt w T (by omega) (by decide) (by decide))
 have R5:=Lib.hid (fun w T=>rep_any (repB (repB (repB (repB s ⟨#[38]⟩ bAmp) ⟨#[194,160]⟩ bNb) ⟨#[60]⟩ bLt) ⟨#[62]⟩ bGt) ⟨#[34]⟩ bQ w T (by omega) (by decide) (by decide))
 have hE:escB s=repB (repB (repB (repB (repB s ⟨#[38]⟩ bAmp) ⟨#[194,160]⟩ bNb) ⟨#[60]⟩ bLt) ⟨#[62]⟩ bGt) ⟨#[34]⟩ bQ:=rfl
 rw[hE]
 clear a1 a2 a3 a4 e1 e2 e3 e4 T hE
 generalize repB s ⟨#[38]⟩ bAmp=s1 at *
 generalize repB s1 ⟨#[194,160]⟩ bNb=s2 at *
 generalize repB s2 ⟨#[60]⟩ bLt=s3 at *
 generalize repB s3 ⟨#[62]⟩ bGt=s4 at *
 generalize repB s4 ⟨#[34]⟩ bQ=s5 at *
 unfold bAmp at R1
 unfold bNb at R2
 unfold bLt at R3
 unfold bGt at R4
 unfold bQ at R5
 go_enter Tryz.func84,Tryz.ntmps84
 go_wp2_with fail
 refine(R1.out w HT.out).mono ?_
 rintro e W1 ⟨rfl,B1⟩
 have HB1:=Lib.hid B1
 have HT1:=Lib.hid (HT.out.below HB1.out (Nat.le_refl _))
 clear B1
 go_wp2_with fail
 refine(R2.out W1 HT1.out).mono ?_
 rintro e W2 ⟨rfl,B2⟩
 have HB2:=Lib.hid (HB1.out.trans (B2.mono HB1.out.size))
 have HT2:=Lib.hid (HT.out.below HB2.out (Nat.le_refl _))
 clear B2
 go_wp2_with fail
 refine(R3.out W2 HT2.out).mono ?_
 rintro e W3 ⟨rfl,B3⟩
 have HB3:=Lib.hid (HB2.out.trans (B3.mono HB2.out.size))
 have HT3:=Lib.hid (HT.out.below HB3.out (Nat.le_refl _))
 clear B3
 go_wp2_with fail
 refine(R4.out W3 HT3.out).mono ?_
 rintro e W4 ⟨rfl,B4⟩
 have HB4:=Lib.hid (HB3.out.trans (B4.mono HB3.out.size))
 have HT4:=Lib.hid (HT.out.below HB4.out (Nat.le_refl _))
 clear B4
 go_wp2_with fail
 refine(R5.out W4 HT4.out).mono ?_
 rintro e W5 ⟨rfl,B5⟩
 have HB5:=Lib.hid (HB4.out.trans (B5.mono HB4.out.size))
 clear B5
 go_wp2
 go_ret
 exact⟨rfl,HB5.out⟩
open Go.RowKit
def FormAt (e n v:ByteArray)(t:ByteArray)(ok:Bool):Prop:=∀ w,Tabs w→Calls Tryz.prog 83 #[.string e,.string n,.string v] w fun x w'=>x=.returned (.tuple #[.string t,.bool ok])∧Below w.heap.size w w'
theorem value_out (e n v:ByteArray)(k:Int)(hk:Hid (KindAt e k))(h:k<2∨k=14)(w:World) :
  Calls Tryz.prog 37 #[.string e,.string n,.string v] w fun x w'=>x=.returned (.tuple #[.string ⟨#[]⟩,.bool false])∧Below w.heap.size w w':=by
 rcases h with h|h
 ·have l1:decide (k<2)=true:=by simpa using h
  clear h
  go_enter Tryz.func37,Tryz.ntmps37
  go_wp2_with fail
  refine(hk.out _).mono ?_
  rintro x w' ⟨rfl,rfl⟩
  go_wp2
  go_ret2
  exact⟨rfl,Below.refl _ _⟩
 ·subst h
  go_enter Tryz.func37,Tryz.ntmps37
  go_wp2_with fail
  refine(hk.out _).mono ?_
  rintro x w' ⟨rfl,rfl⟩
  go_wp2
  go_ret2
  exact⟨rfl,Below.refl _ _⟩
theorem value_no (e n v t:ByteArray)(k:Int)(hk:Hid (KindAt e k))(h2:¬ k<2)(h14:(k==14)=false)(hF:Hid (FormAt e n v t false))(w:World)(T:Tabs w) :
  Calls Tryz.prog 37 #[.string e,.string n,.string v] w fun x w'=>x=.returned (.tuple #[.string ⟨#[]⟩,.bool false])∧Below w.heap.size w w':=by
 have l1:decide (k<2)=false:=by simpa using h2
 have HT:=Lib.hid T
 clear h2 T
 go_enter Tryz.func37,Tryz.ntmps37
 go_wp2_with fail
 refine(hk.out _).mono ?_
 rintro x w' ⟨rfl,rfl⟩
 go_wp2_with fail
 refine(hF.out _ HT.out).mono ?_
 rintro x W1 ⟨rfl,B1⟩
 have HB1:=Lib.hid B1
 clear B1
 go_wp2
 go_ret2
 exact⟨rfl,HB1.out⟩
theorem value_long (e n v t:ByteArray)(k:Int)(hk:Hid (KindAt e k))(h2:¬ k<2)(h14:(k==14)=false)(hF:Hid (FormAt e n v t true))(ht:t.size≤4000000)(hE:Hid (120<(escB t).size))(w:World)(T:Tabs w) :
  Calls Tryz.prog 37 #[.string e,.string n,.string v] w fun x w'=>x=.returned (.tuple #[.string ⟨#[]⟩,.bool false])∧Below w.heap.size w w':=by
 have l1:decide (k<2)=false:=by simpa using h2
 have HT:=Lib.hid T
 have hx:120<(escB t).size:=hE.out
 have E:=esc_any t ht
 generalize escB t=u at hx E
 have HEA:=Lib.hid E
 clear h2 T E
 go_enter Tryz.func37,Tryz.ntmps37
 go_wp2_with fail
 refine(hk.out _).mono ?_
 rintro x w' ⟨rfl,rfl⟩
 go_wp2_with fail
 refine(hF.out _ HT.out).mono ?_
 rintro x W1 ⟨rfl,B1⟩
 have HB1:=Lib.hid B1
 have HT1:=Lib.hid (HT.out.below HB1.out (Nat.le_refl _))
 clear B1
 go_wp2_with fail
 refine(HEA.out W1 HT1.out).mono ?_
 rintro x W2 ⟨rfl,B2⟩
 have HB2:=Lib.hid (HB1.out.trans (B2.mono HB1.out.size))
 clear B2
 have l2:decide ((120:Int)<(u.size:Int))=true:=by simp;omega
 go_wp2
 go_ret2
 exact⟨rfl,HB2.out⟩
theorem value_yes (e n v t:ByteArray)(k:Int)(hk:Hid (KindAt e k))(h2:¬ k<2)(h14:(k==14)=false)(hF:Hid (FormAt e n v t true))(ht:t.size≤4000000)(hE:Hid ((escB t).size≤120))(w:World)(T:Tabs w) :
  Calls Tryz.prog 37 #[.string e,.string n,.string v] w fun x w'=>x=.returned (.tuple #[.string t,.bool true])∧Below w.heap.size w w':=by
 have l1:decide (k<2)=false:=by simpa using h2
 have HT:=Lib.hid T
 have hx:(escB t).size≤120:=hE.out
 have E:=esc_any t ht
 generalize escB t=u at hx E
 have HEA:=Lib.hid E
 clear h2 T E
 go_enter Tryz.func37,Tryz.ntmps37
 go_wp2_with fail
 refine(hk.out _).mono ?_
 rintro x w' ⟨rfl,rfl⟩
 go_wp2_with fail
 refine(hF.out _ HT.out).mono ?_
 rintro x W1 ⟨rfl,B1⟩
 have HB1:=Lib.hid B1
 have HT1:=Lib.hid (HT.out.below HB1.out (Nat.le_refl _))
 clear B1
 go_wp2_with fail
 refine(HEA.out W1 HT1.out).mono ?_
 rintro x W2 ⟨rfl,B2⟩
 have HB2:=Lib.hid (HB1.out.trans (B2.mono HB1.out.size))
 clear B2
 have l2:decide ((120:Int)<(u.size:Int))=false:=by simp;omega
 go_wp2
 go_ret2
 exact⟨rfl,HB2.out⟩
def sTitle:ByteArray:=⟨#[116,105,116,108,101]⟩
def sHref:ByteArray:=⟨#[104,114,101,102]⟩
def sA:ByteArray:=⟨#[97]⟩
theorem form_title (e v:ByteArray)(hv:v.size≤1000000000):FormAt e sTitle v ⟨(textL v.data.toList).toArray⟩ true:=by
 intro w T
 have HX:=Lib.hid (text_any v hv w T)
 clear T
 unfold sTitle
 go_enter Tryz.func83,Tryz.ntmps83
 go_wp2_with fail
 refine HX.out.mono ?_
 rintro x W1 ⟨rfl,B1⟩
 have HB1:=Lib.hid B1
 clear B1
 go_wp2
 go_ret2
 exact⟨rfl,HB1.out⟩
open Go.RowKit
theorem cat_a:(⟨#[97]⟩:ByteArray)++⟨#[32]⟩=⟨#[97,32]⟩:=by decide
theorem cat_ahref:(⟨#[97,32]⟩:ByteArray)++⟨#[104,114,101,102]⟩=⟨#[97,32,104,114,101,102]⟩:=by decide
def zHref:List ByteArray:=[⟨#[104,116,116,112]⟩,⟨#[104,116,116,112,115]⟩,⟨#[109,97,105,108,116,111]⟩]
theorem form_ahref (v:ByteArray)(b:Bool)(hb:Hid (linkOk zHref (linkL v.data.toList)=b))(hv:v.size≤1000000000):FormAt sA sHref v ⟨(linkL v.data.toList).toArray⟩ b:=by
 intro w T
 have HT:=Lib.hid T
 clear T
 unfold sA sHref
 have c1:=cat_a
 have c2:=cat_ahref
 go_enter Tryz.func83,Tryz.ntmps83
 go_wp2_with fail
 have hB:Below w.heap.size w (w.alloc (.cells #[Value.string ⟨#[104,116,116,112]⟩,Value.string ⟨#[104,116,116,112,115]⟩,Value.string ⟨#[109,97,105,108,116,111]⟩] 9)):=(Below.refl _ w).alloc (Nat.le_refl _) _
 have hS:StrsAt (w.alloc (.cells #[Value.string ⟨#[104,116,116,112]⟩,Value.string ⟨#[104,116,116,112,115]⟩,Value.string ⟨#[109,97,105,108,116,111]⟩] 9)) w.heap.size 0 zHref:=by
  intro j hj
  rw[Nat.zero_add,cell_of_row _ w.heap.size j _ 9 (0,0) (heap_alloc_new w _)]
  have:∀ j<3,(#[Value.string ⟨#[104,116,116,112]⟩,Value.string ⟨#[104,116,116,112,115]⟩,Value.string ⟨#[109,97,105,108,116,111]⟩]:Array Value)[j]?=some (Value.string (zHref.getD j ByteArray.empty)):=by
   intro j hj
   match j,hj with
   | 0,_=>rfl
   | 1,_=>rfl
   | 2,_=>rfl
  exact this j hj
 refine(linkf_any v hv w.heap.size 0 3 3 zHref rfl (by omega) _ (HT.out.below hB (Nat.le_refl _)) hS (by simp) b hb).mono ?_
 rintro x W1 ⟨rfl,B1⟩
 have HB1:=Lib.hid (hB.trans (B1.mono (by simp)))
 clear B1 hB hS
 go_wp2
 go_ret2
 exact⟨rfl,HB1.out⟩
def v1:ByteArray:=⟨#[72,84,84,80,58,47,47,97]⟩
def v2:ByteArray:=⟨#[32,74,97,118,97,9,83,99,114,105,112,116,58,120]⟩
theorem link_v1:linkL v1.data.toList=v1.data.toList:=by decide +kernel
theorem ok_v1:linkOk zHref (linkL v1.data.toList)=true:=by decide +kernel
theorem esc_v1:(escB v1).size≤120:=by decide +kernel
theorem link_v2:linkL v2.data.toList=[74,97,118,97,83,99,114,105,112,116,58,120]:=by decide +kernel
theorem ok_v2:linkOk zHref (linkL v2.data.toList)=false:=by decide +kernel
theorem scheme_v2:schemeL [74,97,118,97,83,99,114,105,112,116,58,120]=some [106,97,118,97,115,99,114,105,112,116]:=by decide +kernel
theorem kind_sA:KindAt sA 4:=fun w=>kind_any sA w
theorem value_v1 (w:World)(T:Tabs w):Calls Tryz.prog 37 #[.string sA,.string sHref,.string v1] w fun x w'=>x=.returned (.tuple #[.string v1,.bool true])∧Below w.heap.size w w':=by
 have F:=form_ahref v1 true (Lib.hid ok_v1) (by decide)
 rw[link_v1] at F
 exact value_yes sA sHref v1 v1 4 (Lib.hid kind_sA) (by omega) rfl (Lib.hid F) (by decide) (Lib.hid esc_v1) w T
theorem value_v2 (w:World)(T:Tabs w):Calls Tryz.prog 37 #[.string sA,.string sHref,.string v2] w fun x w'=>x=.returned (.tuple #[.string ⟨#[]⟩,.bool false])∧Below w.heap.size w w':=by
 have F:=form_ahref v2 false (Lib.hid ok_v2) (by decide)
 exact value_no sA sHref v2 _ 4 (Lib.hid kind_sA) (by omega) rfl (Lib.hid F) w T
theorem links_v2 (w:World)(T:Tabs w):Calls Tryz.prog 34 #[.string v2] w fun x w'=>x=.returned (.string ⟨#[74,97,118,97,83,99,114,105,112,116,58,120]⟩)∧Below w.heap.size w w':=by
 have L:=link_any v2 (by decide) w T
 rw[link_v2] at L
 exact L
theorem schemes_v2 (w:World)(T:Tabs w):Calls Tryz.prog 30 #[.string ⟨#[74,97,118,97,83,99,114,105,112,116,58,120]⟩] w fun x w'=>x=.returned (.tuple #[.string ⟨#[106,97,118,97,115,99,114,105,112,116]⟩,.bool true])∧Below w.heap.size w w':=by
 have S:=scheme_any ⟨#[74,97,118,97,83,99,114,105,112,116,58,120]⟩ (by decide) w T
 rw[show schemeV (⟨#[74,97,118,97,83,99,114,105,112,116,58,120]⟩:ByteArray).data.toList=.tuple #[.string ⟨#[106,97,118,97,115,99,114,105,112,116]⟩,.bool true] from schemeV_some scheme_v2] at S
 exact S
open Go.RowKit
def textB (v:ByteArray):ByteArray:=⟨(textL v.data.toList).toArray⟩
def linkB (v:ByteArray):ByteArray:=⟨(linkL v.data.toList).toArray⟩
theorem ba_ext {a b:ByteArray}(h:a.data.toList=b.data.toList):a=b:=by
 cases a;cases b
 simpa using h
end Go.Proofs.YtcfgbdhpcboikaaGreatDoor
