/-
policy.May and Takes: what they answer, as plain functions of the names (printed by wip/gen/mayw.py).
-/
import Derived.Test.YtcfgbdhpcboikaaGreatDoorSchemeX
namespace Go.Proofs.YtcfgbdhpcboikaaGreatDoor
set_option maxHeartbeats 1000000
set_option maxRecDepth 100000
open Go.RowKit
theorem oJ {n:Nat}:n<=n:=ah n
theorem tE {a w v:H}(h:G (Go.RowKit.Below a.heap.size a w))(b:Go.RowKit.Below w.heap.size w v):G (Go.RowKit.Below a.heap.size a v):=Z (h.o.trans (b.mono h.o.size))
def aT (s:I)(n:Int):Prop:=∀w,Y 24 #[.string s] w fun e w'=>e=.returned (.int .i64 n)/\w=w'
theorem aCV (s:I):aT s (aN s.data.toList:Nat):=fun w=>sN s w
theorem dL {a b:Bool}(h:a=b):Ending.returned (.bool a)=.returned (.bool b):=by rw[h]
theorem aRt (p k:I)(K:Int)(b:Bool)(w:H)(d:G (aT p 0))(c:G (aT k K))(a:G ((false)=b)) :
  Y 26 #[.string p,.string k] w fun e w'=>e=.returned (.bool b)/\w=w':=by
 go_enter Tryz.func26,Tryz.ntmps26
 go_wp2_with fail
 refine(c.o _).mono ?_;rintro e w' ⟨rfl,rfl⟩;go_wp2_with fail
 refine(d.o _).mono ?_;rintro e w' ⟨rfl,rfl⟩;go_wp2
 all_goals
  go_ret;refine⟨dL ?_,rfl⟩;first
   | (rw[<-a.o];done)
   | (rw[<-a.o,ay];simp;done)
   | (rw[<-a.o,ay];simp;omega)
   | (rw[<-a.o];simp_all;done)
theorem aRu (p k:I)(K:Int)(b:Bool)(w:H)(d:G (aT p 1))(c:G (aT k K))(a:G ((false)=b)) :
  Y 26 #[.string p,.string k] w fun e w'=>e=.returned (.bool b)/\w=w':=by
 go_enter Tryz.func26,Tryz.ntmps26
 go_wp2_with fail
 refine(c.o _).mono ?_;rintro e w' ⟨rfl,rfl⟩;go_wp2_with fail
 refine(d.o _).mono ?_;rintro e w' ⟨rfl,rfl⟩;go_wp2
 all_goals
  go_ret;refine⟨dL ?_,rfl⟩;first
   | (rw[<-a.o];done)
   | (rw[<-a.o,ay];simp;done)
   | (rw[<-a.o,ay];simp;omega)
   | (rw[<-a.o];simp_all;done)
theorem aRv (p k:I)(K:Int)(b:Bool)(w:H)(d:G (aT p 2))(c:G (aT k K))(a:G ((decide (2<=K)&&decide (K<=7)||decide (K=9))=b)) :
  Y 26 #[.string p,.string k] w fun e w'=>e=.returned (.bool b)/\w=w':=by
 go_enter Tryz.func26,Tryz.ntmps26
 go_wp2_with fail
 refine(c.o _).mono ?_;rintro e w' ⟨rfl,rfl⟩;go_wp2_with fail
 refine(d.o _).mono ?_;rintro e w' ⟨rfl,rfl⟩;go_wp2
 all_goals
  go_ret;refine⟨dL ?_,rfl⟩;first
   | (rw[<-a.o];done)
   | (rw[<-a.o,ay];simp;done)
   | (rw[<-a.o,ay];simp;omega)
   | (rw[<-a.o];simp_all;done)
theorem aRw (p k:I)(K:Int)(b:Bool)(w:H)(d:G (aT p 3))(c:G (aT k K))(a:G ((decide (K=4)||decide (K=5))=b)) :
  Y 26 #[.string p,.string k] w fun e w'=>e=.returned (.bool b)/\w=w':=by
 go_enter Tryz.func26,Tryz.ntmps26
 go_wp2_with fail
 refine(c.o _).mono ?_;rintro e w' ⟨rfl,rfl⟩;go_wp2_with fail
 refine(d.o _).mono ?_;rintro e w' ⟨rfl,rfl⟩;go_wp2
 all_goals
  go_ret;refine⟨dL ?_,rfl⟩;first
   | (rw[<-a.o];done)
   | (rw[<-a.o,ay];simp;done)
   | (rw[<-a.o,ay];simp;omega)
   | (rw[<-a.o];simp_all;done)
theorem aRx (p k:I)(K:Int)(b:Bool)(w:H)(d:G (aT p 4))(c:G (aT k K))(a:G ((decide (K=4)&&!(k.toList==p.toList)||decide (K=5))=b)) :
  Y 26 #[.string p,.string k] w fun e w'=>e=.returned (.bool b)/\w=w':=by
 go_enter Tryz.func26,Tryz.ntmps26
 go_wp2_with fail
 refine(c.o _).mono ?_;rintro e w' ⟨rfl,rfl⟩;go_wp2_with fail
 refine(d.o _).mono ?_;rintro e w' ⟨rfl,rfl⟩;go_wp2
 all_goals
  go_ret;refine⟨dL ?_,rfl⟩;first
   | (rw[<-a.o];done)
   | (rw[<-a.o,ay];simp;done)
   | (rw[<-a.o,ay];simp;omega)
   | (rw[<-a.o];simp_all;done)
theorem aRy (p k:I)(K:Int)(b:Bool)(w:H)(d:G (aT p 5))(c:G (aT k K))(a:G ((false)=b)) :
  Y 26 #[.string p,.string k] w fun e w'=>e=.returned (.bool b)/\w=w':=by
 go_enter Tryz.func26,Tryz.ntmps26
 go_wp2_with fail
 refine(c.o _).mono ?_;rintro e w' ⟨rfl,rfl⟩;go_wp2_with fail
 refine(d.o _).mono ?_;rintro e w' ⟨rfl,rfl⟩;go_wp2
 all_goals
  go_ret;refine⟨dL ?_,rfl⟩;first
   | (rw[<-a.o];done)
   | (rw[<-a.o,ay];simp;done)
   | (rw[<-a.o,ay];simp;omega)
   | (rw[<-a.o];simp_all;done)
theorem aRz (p k:I)(K:Int)(b:Bool)(w:H)(d:G (aT p 6))(c:G (aT k K))(a:G ((false)=b)) :
  Y 26 #[.string p,.string k] w fun e w'=>e=.returned (.bool b)/\w=w':=by
 go_enter Tryz.func26,Tryz.ntmps26
 go_wp2_with fail
 refine(c.o _).mono ?_;rintro e w' ⟨rfl,rfl⟩;go_wp2_with fail
 refine(d.o _).mono ?_;rintro e w' ⟨rfl,rfl⟩;go_wp2
 all_goals
  go_ret;refine⟨dL ?_,rfl⟩;first
   | (rw[<-a.o];done)
   | (rw[<-a.o,ay];simp;done)
   | (rw[<-a.o,ay];simp;omega)
   | (rw[<-a.o];simp_all;done)
theorem aRA (p k:I)(K:Int)(b:Bool)(w:H)(d:G (aT p 7))(c:G (aT k K))(a:G ((decide (K=8))=b)) :
  Y 26 #[.string p,.string k] w fun e w'=>e=.returned (.bool b)/\w=w':=by
 go_enter Tryz.func26,Tryz.ntmps26
 go_wp2_with fail
 refine(c.o _).mono ?_;rintro e w' ⟨rfl,rfl⟩;go_wp2_with fail
 refine(d.o _).mono ?_;rintro e w' ⟨rfl,rfl⟩;go_wp2
 all_goals
  go_ret;refine⟨dL ?_,rfl⟩;first
   | (rw[<-a.o];done)
   | (rw[<-a.o,ay];simp;done)
   | (rw[<-a.o,ay];simp;omega)
   | (rw[<-a.o];simp_all;done)
theorem aRB (p k:I)(K:Int)(b:Bool)(w:H)(d:G (aT p 8))(c:G (aT k K))(a:G ((decide (2<=K)&&decide (K<=7)||decide (K=9))=b)) :
  Y 26 #[.string p,.string k] w fun e w'=>e=.returned (.bool b)/\w=w':=by
 go_enter Tryz.func26,Tryz.ntmps26
 go_wp2_with fail
 refine(c.o _).mono ?_;rintro e w' ⟨rfl,rfl⟩;go_wp2_with fail
 refine(d.o _).mono ?_;rintro e w' ⟨rfl,rfl⟩;go_wp2
 all_goals
  go_ret;refine⟨dL ?_,rfl⟩;first
   | (rw[<-a.o];done)
   | (rw[<-a.o,ay];simp;done)
   | (rw[<-a.o,ay];simp;omega)
   | (rw[<-a.o];simp_all;done)
theorem aRC (p k:I)(K:Int)(b:Bool)(w:H)(d:G (aT p 9))(c:G (aT k K))(a:G ((decide (K=10)||decide (K=11))=b)) :
  Y 26 #[.string p,.string k] w fun e w'=>e=.returned (.bool b)/\w=w':=by
 go_enter Tryz.func26,Tryz.ntmps26
 go_wp2_with fail
 refine(c.o _).mono ?_;rintro e w' ⟨rfl,rfl⟩;go_wp2_with fail
 refine(d.o _).mono ?_;rintro e w' ⟨rfl,rfl⟩;go_wp2
 all_goals
  go_ret;refine⟨dL ?_,rfl⟩;first
   | (rw[<-a.o];done)
   | (rw[<-a.o,ay];simp;done)
   | (rw[<-a.o,ay];simp;omega)
   | (rw[<-a.o];simp_all;done)
theorem aQs (p k:I)(K:Int)(b:Bool)(w:H)(d:G (aT p 10))(c:G (aT k K))(a:G ((decide (K=4)||decide (K=5))=b)) :
  Y 26 #[.string p,.string k] w fun e w'=>e=.returned (.bool b)/\w=w':=by
 go_enter Tryz.func26,Tryz.ntmps26
 go_wp2_with fail
 refine(c.o _).mono ?_;rintro e w' ⟨rfl,rfl⟩;go_wp2_with fail
 refine(d.o _).mono ?_;rintro e w' ⟨rfl,rfl⟩;go_wp2
 all_goals
  go_ret;refine⟨dL ?_,rfl⟩;first
   | (rw[<-a.o];done)
   | (rw[<-a.o,ay];simp;done)
   | (rw[<-a.o,ay];simp;omega)
   | (rw[<-a.o];simp_all;done)
theorem aQt (p k:I)(K:Int)(b:Bool)(w:H)(d:G (aT p 11))(c:G (aT k K))(a:G ((decide (K=12))=b)) :
  Y 26 #[.string p,.string k] w fun e w'=>e=.returned (.bool b)/\w=w':=by
 go_enter Tryz.func26,Tryz.ntmps26
 go_wp2_with fail
 refine(c.o _).mono ?_;rintro e w' ⟨rfl,rfl⟩;go_wp2_with fail
 refine(d.o _).mono ?_;rintro e w' ⟨rfl,rfl⟩;go_wp2
 all_goals
  go_ret;refine⟨dL ?_,rfl⟩;first
   | (rw[<-a.o];done)
   | (rw[<-a.o,ay];simp;done)
   | (rw[<-a.o,ay];simp;omega)
   | (rw[<-a.o];simp_all;done)
theorem aQu (p k:I)(K:Int)(b:Bool)(w:H)(d:G (aT p 12))(c:G (aT k K))(a:G ((decide (K=13))=b)) :
  Y 26 #[.string p,.string k] w fun e w'=>e=.returned (.bool b)/\w=w':=by
 go_enter Tryz.func26,Tryz.ntmps26
 go_wp2_with fail
 refine(c.o _).mono ?_;rintro e w' ⟨rfl,rfl⟩;go_wp2_with fail
 refine(d.o _).mono ?_;rintro e w' ⟨rfl,rfl⟩;go_wp2
 all_goals
  go_ret;refine⟨dL ?_,rfl⟩;first
   | (rw[<-a.o];done)
   | (rw[<-a.o,ay];simp;done)
   | (rw[<-a.o,ay];simp;omega)
   | (rw[<-a.o];simp_all;done)
theorem aQv (p k:I)(K:Int)(b:Bool)(w:H)(d:G (aT p 13))(c:G (aT k K))(a:G ((decide (2<=K)&&decide (K<=7)||decide (K=9))=b)) :
  Y 26 #[.string p,.string k] w fun e w'=>e=.returned (.bool b)/\w=w':=by
 go_enter Tryz.func26,Tryz.ntmps26
 go_wp2_with fail
 refine(c.o _).mono ?_;rintro e w' ⟨rfl,rfl⟩;go_wp2_with fail
 refine(d.o _).mono ?_;rintro e w' ⟨rfl,rfl⟩;go_wp2
 all_goals
  go_ret;refine⟨dL ?_,rfl⟩;first
   | (rw[<-a.o];done)
   | (rw[<-a.o,ay];simp;done)
   | (rw[<-a.o,ay];simp;omega)
   | (rw[<-a.o];simp_all;done)
theorem aQw (p k:I)(K:Int)(b:Bool)(w:H)(d:G (aT p 14))(c:G (aT k K))(a:G ((decide (2<=K)&&decide (K<=7)||decide (K=9))=b)) :
  Y 26 #[.string p,.string k] w fun e w'=>e=.returned (.bool b)/\w=w':=by
 go_enter Tryz.func26,Tryz.ntmps26
 go_wp2_with fail
 refine(c.o _).mono ?_;rintro e w' ⟨rfl,rfl⟩;go_wp2_with fail
 refine(d.o _).mono ?_;rintro e w' ⟨rfl,rfl⟩;go_wp2
 all_goals
  go_ret;refine⟨dL ?_,rfl⟩;first
   | (rw[<-a.o];done)
   | (rw[<-a.o,ay];simp;done)
   | (rw[<-a.o,ay];simp;omega)
   | (rw[<-a.o];simp_all;done)
theorem aOu (p k:I)(w:H):Y 26 #[.string p,.string k] w fun e w'=>e=.returned (.bool (wF p.data.toList k.data.toList))/\w=w':=by
 have j:=aCV p;have i:=aCV k;have q:(k.toList==p.toList)=(k.data.toList==p.data.toList):=by{rw[toList_data,toList_data]};have r:=lD p.data.toList;unfold wF;rw[<-q];generalize aN k.data.toList=K at i;generalize aN p.data.toList=P at j r;have g:∀(n:Nat) (f:Bool),P=n->f=jX n K (k.toList==p.toList)->(∀b,G (aT p n)->G (aT k (K:Nat))->G (f=b)->Y 26 #[.string p,.string k] w fun e w'=>e=.returned (.bool b)/\w=w')->Y 26 #[.string p,.string k] w fun e w'=>e=.returned (.bool (jX P K (k.toList==p.toList)))/\w=w':=by{intro n f o m h;subst o;exact h _ (Z j) (Z i) (Z m)};have l:P=0\/P=1\/P=2\/P=3\/P=4\/P=5\/P=6\/P=7\/P=8\/P=9\/P=10\/P=11\/P=12\/P=13\/P=14:=by{omega};rcases l with h|h|h|h|h|h|h|h|h|h|h|h|h|h|h;{exact g 0 _ h (by simp only[jX];rw[ay];simp;try omega) fun b a c d=>aRt p k _ b w a c d};{exact g 1 _ h (by simp only[jX];rw[ay];simp;try omega) fun b a c d=>aRu p k _ b w a c d};{exact g 2 _ h (by simp only[jX];rw[ay];simp;try omega) fun b a c d=>aRv p k _ b w a c d};{exact g 3 _ h (by simp only[jX];rw[ay];simp;try omega) fun b a c d=>aRw p k _ b w a c d};{exact g 4 _ h (by simp only[jX];rw[ay];simp;rw[show((K:Nat):Int)=4↔K=4 by omega,show((K:Nat):Int)=5↔K=5 by omega]) fun b a c d=>aRx p k _ b w a c d};{exact g 5 _ h (by simp only[jX];rw[ay];simp;try omega) fun b a c d=>aRy p k _ b w a c d};{exact g 6 _ h (by simp only[jX];rw[ay];simp;try omega) fun b a c d=>aRz p k _ b w a c d};{exact g 7 _ h (by simp only[jX];rw[ay];simp;try omega) fun b a c d=>aRA p k _ b w a c d};{exact g 8 _ h (by simp only[jX];rw[ay];simp;try omega) fun b a c d=>aRB p k _ b w a c d};{exact g 9 _ h (by simp only[jX];rw[ay];simp;try omega) fun b a c d=>aRC p k _ b w a c d};{exact g 10 _ h (by simp only[jX];rw[ay];simp;try omega) fun b a c d=>aQs p k _ b w a c d};{exact g 11 _ h (by simp only[jX];rw[ay];simp;try omega) fun b a c d=>aQt p k _ b w a c d};{exact g 12 _ h (by simp only[jX];rw[ay];simp;try omega) fun b a c d=>aQu p k _ b w a c d};{exact g 13 _ h (by simp only[jX];rw[ay];simp;try omega) fun b a c d=>aQv p k _ b w a c d};{exact g 14 _ h (by simp only[jX];rw[ay];simp;try omega) fun b a c d=>aQw p k _ b w a c d}
theorem aPf (p:I)(w:H)(a:G (aT p 0)) :
  Y 28 #[.string p] w fun e w'=>e=.returned (.bool false)/\w=w':=by
 go_enter Tryz.func28,Tryz.ntmps28
 go_wp2_with fail
 refine(a.o _).mono ?_;rintro e w' ⟨rfl,rfl⟩;go_wp2
 go_ret;exact⟨rfl,rfl⟩
theorem aPg (p:I)(w:H)(a:G (aT p 1)) :
  Y 28 #[.string p] w fun e w'=>e=.returned (.bool false)/\w=w':=by
 go_enter Tryz.func28,Tryz.ntmps28
 go_wp2_with fail
 refine(a.o _).mono ?_;rintro e w' ⟨rfl,rfl⟩;go_wp2
 go_ret;exact⟨rfl,rfl⟩
theorem aPh (p:I)(w:H)(a:G (aT p 2)) :
  Y 28 #[.string p] w fun e w'=>e=.returned (.bool true)/\w=w':=by
 go_enter Tryz.func28,Tryz.ntmps28
 go_wp2_with fail
 refine(a.o _).mono ?_;rintro e w' ⟨rfl,rfl⟩;go_wp2
 go_ret;exact⟨rfl,rfl⟩
theorem aPi (p:I)(w:H)(a:G (aT p 3)) :
  Y 28 #[.string p] w fun e w'=>e=.returned (.bool true)/\w=w':=by
 go_enter Tryz.func28,Tryz.ntmps28
 go_wp2_with fail
 refine(a.o _).mono ?_;rintro e w' ⟨rfl,rfl⟩;go_wp2
 go_ret;exact⟨rfl,rfl⟩
theorem aPj (p:I)(w:H)(a:G (aT p 4)) :
  Y 28 #[.string p] w fun e w'=>e=.returned (.bool true)/\w=w':=by
 go_enter Tryz.func28,Tryz.ntmps28
 go_wp2_with fail
 refine(a.o _).mono ?_;rintro e w' ⟨rfl,rfl⟩;go_wp2
 go_ret;exact⟨rfl,rfl⟩
theorem aPk (p:I)(w:H)(a:G (aT p 5)) :
  Y 28 #[.string p] w fun e w'=>e=.returned (.bool false)/\w=w':=by
 go_enter Tryz.func28,Tryz.ntmps28
 go_wp2_with fail
 refine(a.o _).mono ?_;rintro e w' ⟨rfl,rfl⟩;go_wp2
 go_ret;exact⟨rfl,rfl⟩
theorem aPl (p:I)(w:H)(a:G (aT p 6)) :
  Y 28 #[.string p] w fun e w'=>e=.returned (.bool false)/\w=w':=by
 go_enter Tryz.func28,Tryz.ntmps28
 go_wp2_with fail
 refine(a.o _).mono ?_;rintro e w' ⟨rfl,rfl⟩;go_wp2
 go_ret;exact⟨rfl,rfl⟩
theorem aPm (p:I)(w:H)(a:G (aT p 7)) :
  Y 28 #[.string p] w fun e w'=>e=.returned (.bool false)/\w=w':=by
 go_enter Tryz.func28,Tryz.ntmps28
 go_wp2_with fail
 refine(a.o _).mono ?_;rintro e w' ⟨rfl,rfl⟩;go_wp2
 go_ret;exact⟨rfl,rfl⟩
theorem aPn (p:I)(w:H)(a:G (aT p 8)) :
  Y 28 #[.string p] w fun e w'=>e=.returned (.bool true)/\w=w':=by
 go_enter Tryz.func28,Tryz.ntmps28
 go_wp2_with fail
 refine(a.o _).mono ?_;rintro e w' ⟨rfl,rfl⟩;go_wp2
 go_ret;exact⟨rfl,rfl⟩
theorem aPo (p:I)(w:H)(a:G (aT p 9)) :
  Y 28 #[.string p] w fun e w'=>e=.returned (.bool false)/\w=w':=by
 go_enter Tryz.func28,Tryz.ntmps28
 go_wp2_with fail
 refine(a.o _).mono ?_;rintro e w' ⟨rfl,rfl⟩;go_wp2
 go_ret;exact⟨rfl,rfl⟩
theorem aM3 (p:I)(w:H)(a:G (aT p 10)) :
  Y 28 #[.string p] w fun e w'=>e=.returned (.bool true)/\w=w':=by
 go_enter Tryz.func28,Tryz.ntmps28
 go_wp2_with fail
 refine(a.o _).mono ?_;rintro e w' ⟨rfl,rfl⟩;go_wp2
 go_ret;exact⟨rfl,rfl⟩
theorem aM4 (p:I)(w:H)(a:G (aT p 11)) :
  Y 28 #[.string p] w fun e w'=>e=.returned (.bool false)/\w=w':=by
 go_enter Tryz.func28,Tryz.ntmps28
 go_wp2_with fail
 refine(a.o _).mono ?_;rintro e w' ⟨rfl,rfl⟩;go_wp2
 go_ret;exact⟨rfl,rfl⟩
theorem aM5 (p:I)(w:H)(a:G (aT p 12)) :
  Y 28 #[.string p] w fun e w'=>e=.returned (.bool false)/\w=w':=by
 go_enter Tryz.func28,Tryz.ntmps28
 go_wp2_with fail
 refine(a.o _).mono ?_;rintro e w' ⟨rfl,rfl⟩;go_wp2
 go_ret;exact⟨rfl,rfl⟩
theorem aM6 (p:I)(w:H)(a:G (aT p 13)) :
  Y 28 #[.string p] w fun e w'=>e=.returned (.bool true)/\w=w':=by
 go_enter Tryz.func28,Tryz.ntmps28
 go_wp2_with fail
 refine(a.o _).mono ?_;rintro e w' ⟨rfl,rfl⟩;go_wp2
 go_ret;exact⟨rfl,rfl⟩
theorem aM7 (p:I)(w:H)(a:G (aT p 14)) :
  Y 28 #[.string p] w fun e w'=>e=.returned (.bool true)/\w=w':=by
 go_enter Tryz.func28,Tryz.ntmps28
 go_wp2_with fail
 refine(a.o _).mono ?_;rintro e w' ⟨rfl,rfl⟩;go_wp2
 go_ret;exact⟨rfl,rfl⟩
theorem aKT (p:I)(w:H):Y 28 #[.string p] w fun e w'=>e=.returned (.bool (mX p.data.toList))/\w=w':=by
 have a:=aCV p;have c:=lD p.data.toList;unfold mX;generalize aN p.data.toList=P at a c;have b:P=0\/P=1\/P=2\/P=3\/P=4\/P=5\/P=6\/P=7\/P=8\/P=9\/P=10\/P=11\/P=12\/P=13\/P=14:=by{omega};rcases b with rfl|rfl|rfl|rfl|rfl|rfl|rfl|rfl|rfl|rfl|rfl|rfl|rfl|rfl|rfl;{exact aPf p w (Z a)};{exact aPg p w (Z a)};{exact aPh p w (Z a)};{exact aPi p w (Z a)};{exact aPj p w (Z a)};{exact aPk p w (Z a)};{exact aPl p w (Z a)};{exact aPm p w (Z a)};{exact aPn p w (Z a)};{exact aPo p w (Z a)};{exact aM3 p w (Z a)};{exact aM4 p w (Z a)};{exact aM5 p w (Z a)};{exact aM6 p w (Z a)};{exact aM7 p w (Z a)}
open Go.RowKit
def eY (zs:List I)(l:U):Bool:=match gL l with
 | none=>true
 | some w=>Lib.containsS zs ⟨w.toArray⟩
def qD (w:H)(g off:Nat)(zs:List I):Prop:=∀j,j<zs.length->w.cell? ⟨g,off+j,none⟩=some (.string (zs.getD j ByteArray.empty))
theorem qD.below {w w':H}{g a B:Nat}{zs:List I}(h:qD w g a zs)(b:Below B w w')(c:g<B):qD w' g a zs:=by
 intro j d;rw[b.cell (p:=⟨g,a+j,none⟩) c];exact h j d
theorem yJ (l:U):(bN l).length<=3*l.length:=bg (aMf l).length_le (nV l)
theorem aDr (s:I)(F:s.size<=1000000000)(g i n c:Nat)(zs:List I)(P:zs.length=n)(Q:n<=1000)(w:H)(T:aA w)(J:G (qD w g i zs))(B:g<w.heap.size)(b:Bool)(a:G (eY zs (bN s.data.toList)=b)) :
  Y 143 #[.string s,.slice (some ⟨g,i,none⟩) n c] w (O (.tuple #[.string ⟨(bN s.data.toList).toArray⟩,.bool b]) w):=by
 have q:=Z T;clear T;have D:=yJ s.data.toList;have E:s.data.toList.length=s.size:=rfl;have r:(⟨(bN s.data.toList).toArray⟩:I).size<4294967281:=by{rw[jU];omega};have p:=Z r;clear r D E;obtain⟨L,h⟩:∃L,bN s.data.toList=L:=⟨_,rfl⟩;have K:=fun w T=>aMe s F w T;rw[h]at K p;have y:=Z K;have t:=Z (show eY zs L=b by rw[<-h];exact a.o);rw[h];clear K h a;go_enter Tryz.func143,Tryz.ntmps143;go_wp2_with fail
 refine(y.o w q.o).mono ?_;rintro e A ⟨rfl,m⟩;have j:=Z m;have z:=Z (q.o.below j.o oJ);clear m;have S:=aIm ⟨L.toArray⟩ p.o A z.o;have a:=t.o;unfold eY at a;cases hsc:gL L with
 | none =>
  rw[show jI (⟨L.toArray⟩:I).data.toList=.tuple #[.string ⟨#[]⟩,.bool false]from gV hsc]at S
  have k:=Z S;rw[hsc]at a
  subst a;clear S hsc;go_wp2_with fail
  refine k.o.mono ?_;rintro e l ⟨rfl,d⟩;have f:=tE j d;clear d;go_wp2
  go_ret2;exact⟨rfl,f.o⟩
 | some x =>
  rw[show jI (⟨L.toArray⟩:I).data.toList=.tuple #[.string ⟨x.toArray⟩,.bool true]from oV hsc]at S
  have k:=Z S;rw[hsc]at a
  have u:G (Lib.containsS zs ⟨x.toArray⟩=b):=a;clear S hsc a;go_wp2_with fail
  refine k.o.mono ?_;rintro e l ⟨rfl,d⟩;have f:=tE j d;clear d;have M:G (qD l g i zs):=J.o.below f.o B;have C:=Tryz.slices_Contains_string g i n c zs ⟨x.toArray⟩ l (by omega) (by omega) M.o;rw[fi (by omega),u.o]at C
  have v:=Z C;clear C;go_wp2_with fail
  refine v.o.mono ?_;rintro e N ⟨rfl,rfl⟩;go_wp2
  all_goals
   go_ret2;exact⟨rfl,f.o⟩
theorem aFJ (a b:U)(h:1<=a.length):∀(k:Nat) (s:U),(Lib.replaceK a b k s).length<=s.length+k*b.length:=by
 intro k;induction k with|zero=>{intro s;simp[Lib.replaceK]}|succ k ih=>{intro s;rw[l6];by_cases hi:Lib.index s a=-1;{unfold Lib.replaceK;rw[af (by rw[hi];rfl)];omega};{have d:=rr s a;obtain⟨i,c⟩:∃i:Nat,Lib.index s a=i:=⟨(Lib.index s a).toNat,by omega⟩;rw[jw a b k s i c];have:=ih (s.drop (i+a.length));have hr:=Lib.index_room s a (by omega);rw[ax,ax,bu];rw[bm]at this;omega}}
theorem aC2 (s a b:I)(h:1<=a.size):(Lib.replaceAll s.data.toList a.data.toList b.data.toList).length<=s.size*(1+b.size):=by
 unfold Lib.replaceAll Lib.replace;have e:=Lib.countB_le a h s.size s oJ;have c:s.size=s.data.toList.length:=rfl;have d:b.size=b.data.toList.length:=rfl;split;{rw[c,fv];omega};{have g:Lib.replaceNum s.data.toList a.data.toList (-1)=Lib.count s.data.toList a.data.toList:=by{unfold Lib.replaceNum;rw[af (Or.inl (by omega))]};rw[g];have i:=aFJ a.data.toList b.data.toList h (Lib.count s.data.toList a.data.toList) s.data.toList;have f:Lib.count s.data.toList a.data.toList<=s.size:=e;have j:Lib.count s.data.toList a.data.toList*b.data.toList.length<=s.size*b.data.toList.length:=ap _ f;rw[fv,d];omega}
def oF:I:=⟨#[38,97,109,112,59]⟩
def bNb:I:=⟨#[38,110,98,115,112,59]⟩
def bLt:I:=⟨#[38,108,116,59]⟩
def bGt:I:=⟨#[38,103,116,59]⟩
def bQ:I:=⟨#[38,113,117,111,116,59]⟩
def dP (s old new:I):I:=⟨(Lib.replaceAll s.data.toList old.data.toList new.data.toList).toArray⟩
theorem wL (s b a:I)(h:1<=b.size):(dP s b a).size<=s.size*(1+a.size):=aC2 s b a h
theorem vD (s a b:I)(w:H)(T:aA w)(g:s.size<4294967281)(c:1<=a.size)(d:b.size<=10) :
  Y 80 #[.string s,.string a,.string b] w (O (.string (dP s a b)) w):=by
 obtain⟨m,f⟩:=T.most;refine Tryz.strings_ReplaceAll s a b m w g f c ?_;have e:=Lib.countB_le a c s.size s oJ;have h:Lib.countB s a*b.size<=s.size*10:=gv e d;omega
def gP (s:I):I:=dP (dP (dP (dP (dP s ⟨#[38]⟩ oF) ⟨#[194,160]⟩ bNb) ⟨#[60]⟩ bLt) ⟨#[62]⟩ bGt) ⟨#[34]⟩ bQ
theorem aG1 (s:I)(N:s.size<=4000000)(w:H)(T:aA w):Y 84 #[.string s,.bool true] w (O (.string (gP s)) w):=by
 have r:=wL s ⟨#[38]⟩ oF (by decide);have t:=wL (dP s ⟨#[38]⟩ oF) ⟨#[194,160]⟩ bNb (by decide);have u:=wL (dP (dP s ⟨#[38]⟩ oF) ⟨#[194,160]⟩ bNb) ⟨#[60]⟩ bLt (by decide);have v:=wL (dP (dP (dP s ⟨#[38]⟩ oF) ⟨#[194,160]⟩ bNb) ⟨#[60]⟩ bLt) ⟨#[62]⟩ bGt (by decide);have x:oF.size=5:=rfl;have y:bNb.size=6:=rfl;have e3:bLt.size=4:=rfl;have e4:bGt.size=4:=rfl;rw[x]at r;rw[y]at t;rw[e3]at u;rw[e4]at v;have a:=Z T;have l:=Z (fun w T=>vD s ⟨#[38]⟩ oF w T (by omega) (by decide) (by decide));have m:=Z (fun w T=>vD (dP s ⟨#[38]⟩ oF) ⟨#[194,160]⟩ bNb w T (by omega) (by decide) (by decide));have n:=Z (fun w T=>vD (dP (dP s ⟨#[38]⟩ oF) ⟨#[194,160]⟩ bNb) ⟨#[60]⟩ bLt w T (by omega) (by decide) (by decide));have p:=Z (fun w T=>vD (dP (dP (dP s ⟨#[38]⟩ oF) ⟨#[194,160]⟩ bNb) ⟨#[60]⟩ bLt) ⟨#[62]⟩ bGt w T (by omega) (by decide) (by decide));have q:=Z (fun w T=>vD (dP (dP (dP (dP s ⟨#[38]⟩ oF) ⟨#[194,160]⟩ bNb) ⟨#[60]⟩ bLt) ⟨#[62]⟩ bGt) ⟨#[34]⟩ bQ w T (by omega) (by decide) (by decide));have z:gP s=dP (dP (dP (dP (dP s ⟨#[38]⟩ oF) ⟨#[194,160]⟩ bNb) ⟨#[60]⟩ bLt) ⟨#[62]⟩ bGt) ⟨#[34]⟩ bQ:=rfl;rw[z];clear r t u v x y e3 e4 T z;generalize dP s ⟨#[38]⟩ oF=s1 at *;generalize dP s1 ⟨#[194,160]⟩ bNb=s2 at *;generalize dP s2 ⟨#[60]⟩ bLt=s3 at *;generalize dP s3 ⟨#[62]⟩ bGt=s4 at *;generalize dP s4 ⟨#[34]⟩ bQ=s5 at *;unfold oF at l;unfold bNb at m;unfold bLt at n;unfold bGt at p;unfold bQ at q;go_enter Tryz.func84,Tryz.ntmps84;go_wp2_with fail;refine(l.o w a.o).mono ?_;rintro e F ⟨rfl,b⟩;have h:=Z b;have B:=Z (a.o.below h.o oJ);clear b;go_wp2_with fail;refine(m.o F B.o).mono ?_;rintro e J ⟨rfl,c⟩;have i:=tE h c;have C:=Z (a.o.below i.o oJ);clear c;go_wp2_with fail;refine(n.o J C.o).mono ?_;rintro e K ⟨rfl,d⟩;have j:=tE i d;have D:=Z (a.o.below j.o oJ);clear d;go_wp2_with fail;refine(p.o K D.o).mono ?_;rintro e L ⟨rfl,f⟩;have k:=tE j f;have E:=Z (a.o.below k.o oJ);clear f;go_wp2_with fail;refine(q.o L E.o).mono ?_;rintro e M ⟨rfl,g⟩;have A:=tE k g;clear g;go_wp2;go_ret;exact⟨rfl,A.o⟩
open Go.RowKit
def cI (e n v:I)(t:I)(ok:Bool):Prop:=∀w,aA w->Y 83 #[.string e,.string n,.string v] w (O (.tuple #[.string t,.bool ok]) w)
theorem aK8 (e n v:I)(k:Int)(a:G (aT e k))(h:k<2\/k=14)(w:H) :
  Y 37 #[.string e,.string n,.string v] w (O (.tuple #[.string ⟨#[]⟩,.bool false]) w):=by
 rcases h with h|h;{have b:decide (k<2)=true:=by{simpa using h};clear h;go_enter Tryz.func37,Tryz.ntmps37;go_wp2_with fail;refine(a.o _).mono ?_;rintro x w' ⟨rfl,rfl⟩;go_wp2;go_ret2;exact⟨rfl,am _ _⟩};{subst h;go_enter Tryz.func37,Tryz.ntmps37;go_wp2_with fail;refine(a.o _).mono ?_;rintro x w' ⟨rfl,rfl⟩;go_wp2;go_ret2;exact⟨rfl,am _ _⟩}
theorem aNd (e n v t:I)(k:Int)(g:G (aT e k))(b:¬k<2)(i:(k==14)=false)(f:G (cI e n v t false))(w:H)(T:aA w) :
  Y 37 #[.string e,.string n,.string v] w (O (.tuple #[.string ⟨#[]⟩,.bool false]) w):=by
 have j:decide (k<2)=false:=by{simpa using b};have d:=Z T;clear b T;go_enter Tryz.func37,Tryz.ntmps37;go_wp2_with fail;refine(g.o _).mono ?_;rintro x w' ⟨rfl,rfl⟩;go_wp2_with fail;refine(f.o _ d.o).mono ?_;rintro x h ⟨rfl,a⟩;have c:=Z a;clear a;go_wp2;go_ret2;exact⟨rfl,c.o⟩
theorem aIJ (e n v t:I)(k:Int)(p:G (aT e k))(f:¬k<2)(s:(k==14)=false)(m:G (cI e n v t true))(q:t.size<=4000000)(l:G (120<(gP t).size))(w:H)(T:aA w) :
  Y 37 #[.string e,.string n,.string v] w (O (.tuple #[.string ⟨#[]⟩,.bool false]) w):=by
 have y:decide (k<2)=false:=by{simpa using f};have d:=Z T;have hx:120<(gP t).size:=l.o;have E:=aG1 t q;generalize gP t=u at hx E;have h:=Z E;clear f T E;go_enter Tryz.func37,Tryz.ntmps37;go_wp2_with fail;refine(p.o _).mono ?_;rintro x w' ⟨rfl,rfl⟩;go_wp2_with fail;refine(m.o _ d.o).mono ?_;rintro x j ⟨rfl,a⟩;have c:=Z a;have i:=Z (d.o.below c.o oJ);clear a;go_wp2_with fail;refine(h.o j i.o).mono ?_;rintro x r ⟨rfl,b⟩;have g:=tE c b;clear b;have z:decide ((120:Int)<(u.size:Int))=true:=by{simp;omega};go_wp2;go_ret2;exact⟨rfl,g.o⟩
theorem aK9 (e n v t:I)(k:Int)(p:G (aT e k))(f:¬k<2)(s:(k==14)=false)(m:G (cI e n v t true))(q:t.size<=4000000)(l:G ((gP t).size<=120))(w:H)(T:aA w) :
  Y 37 #[.string e,.string n,.string v] w (O (.tuple #[.string t,.bool true]) w):=by
 have y:decide (k<2)=false:=by{simpa using f};have d:=Z T;have hx:(gP t).size<=120:=l.o;have E:=aG1 t q;generalize gP t=u at hx E;have h:=Z E;clear f T E;go_enter Tryz.func37,Tryz.ntmps37;go_wp2_with fail;refine(p.o _).mono ?_;rintro x w' ⟨rfl,rfl⟩;go_wp2_with fail;refine(m.o _ d.o).mono ?_;rintro x j ⟨rfl,a⟩;have c:=Z a;have i:=Z (d.o.below c.o oJ);clear a;go_wp2_with fail;refine(h.o j i.o).mono ?_;rintro x r ⟨rfl,b⟩;have g:=tE c b;clear b;have z:decide ((120:Int)<(u.size:Int))=false:=by{simp;omega};go_wp2;go_ret2;exact⟨rfl,g.o⟩
def lQ:I:=⟨#[116,105,116,108,101]⟩
def tV:I:=⟨#[104,114,101,102]⟩
def sA:I:=⟨#[97]⟩
theorem aHT (e v:I)(d:v.size<=1000000000):cI e lQ v ⟨(bS v.data.toList).toArray⟩ true:=by
 intro w T;have c:=Z (wS v d w T);clear T;unfold lQ;go_enter Tryz.func83,Tryz.ntmps83;go_wp2_with fail;refine c.o.mono ?_;rintro x f ⟨rfl,a⟩;have b:=Z a;clear a;go_wp2;go_ret2;exact⟨rfl,b.o⟩
open Go.RowKit
theorem aRd:(⟨#[97]⟩:I)++⟨#[32]⟩=⟨#[97,32]⟩:=by decide
theorem aI8:(⟨#[97,32]⟩:I)++⟨#[104,114,101,102]⟩=⟨#[97,32,104,114,101,102]⟩:=by decide
def pZ:List I:=[⟨#[104,116,116,112]⟩,⟨#[104,116,116,112,115]⟩,⟨#[109,97,105,108,116,111]⟩]
theorem aBP (v:I)(b:Bool)(h:G (eY pZ (bN v.data.toList)=b))(i:v.size<=1000000000):cI sA tV v ⟨(bN v.data.toList).toArray⟩ b:=by
 intro w T;have g:=Z T;clear T;unfold sA tV;have l:=aRd;have m:=aI8;go_enter Tryz.func83,Tryz.ntmps83;go_wp2_with fail
 have a:Below w.heap.size w (w.alloc (.cells #[Value.string ⟨#[104,116,116,112]⟩,Value.string ⟨#[104,116,116,112,115]⟩,Value.string ⟨#[109,97,105,108,116,111]⟩] 9)):=(am _ w).alloc oJ _;have e:qD (w.alloc (.cells #[Value.string ⟨#[104,116,116,112]⟩,Value.string ⟨#[104,116,116,112,115]⟩,Value.string ⟨#[109,97,105,108,116,111]⟩] 9)) w.heap.size 0 pZ:=by
  intro j c;rw[bw,au _ w.heap.size j _ 9 (0,0) (cc w _)];have:∀j<3,(#[Value.string ⟨#[104,116,116,112]⟩,Value.string ⟨#[104,116,116,112,115]⟩,Value.string ⟨#[109,97,105,108,116,111]⟩]:Array Value)[j]?=some (Value.string (pZ.getD j ByteArray.empty)):=by
   intro j c;match j,c with
   | 0,_=>rfl
   | 1,_=>rfl
   | 2,_=>rfl
  exact this j c
 refine(aDr v i w.heap.size 0 3 3 pZ rfl (by omega) _ (g.o.below a oJ) e (by simp) b h).mono ?_;rintro x k ⟨rfl,d⟩;have f:=Z (a.trans (d.mono (by simp)));clear d a e;go_wp2;go_ret2;exact⟨rfl,f.o⟩
def v1:I:=⟨#[72,84,84,80,58,47,47,97]⟩
def v2:I:=⟨#[32,74,97,118,97,9,83,99,114,105,112,116,58,120]⟩
