/-
real.digits and real.numeral over lists of bytes: which texts are numerals.
-/
import Derived.Test.YtcfgbdhpcboikaaGreatDoorChecked
import Derived.WalkLawsBesides
import Derived.WalkSpells
import Derived.Test.YtcfgbdhpcboikaaGreatDoorShelf
namespace Go.Proofs.YtcfgbdhpcboikaaGreatDoor
open Go.Lib (hid)
set_option maxHeartbeats 1500000
set_option maxRecDepth 100000
open Go.RowKit
def aD (c:UInt8):Bool:=decide (48≤c.toNat)&&decide (c.toNat≤57)
def digs (l:List UInt8):Nat:=(l.takeWhile aD).length
theorem gT (l:List UInt8):digs l≤l.length:=by
 unfold digs;induction l with
 | nil=>simp
 | cons c l ih=>rw[List.takeWhile_cons];split<;>simp<;>omega
theorem uB:∀(l:List UInt8) (k:Nat) (h:k<l.length),k≤digs l→aD l[k]=true→k+1≤digs l
 | [],k,h,_,_=>by simp at h
 | c :: l,0,_,_,hd=>by
  have:aD c=true:=hd;simp[digs,this]
 | c :: l,k+1,h,hk,hd=>by
  unfold digs at hk ⊢;rw[List.takeWhile_cons]at hk ⊢
  split at hk
  ·rename_i hc;rw[if_pos hc];have:=uB l k (by simpa using h) (by simpa [digs]using hk) (by simpa using hd);simp only[List.length_cons];unfold digs at this;omega
  ·simp at hk
theorem pT:∀(l:List UInt8) (k:Nat),k≤digs l→(∀h:k<l.length,aD l[k]=false)→digs l=k
 | [],k,hk,_=>by simp[digs]at hk ⊢;omega
 | c :: l,0,_,hd=>by
  have:aD c=false:=hd (by simp);simp[digs,this]
 | c :: l,k+1,hk,hd=>by
  unfold digs at hk ⊢;rw[List.takeWhile_cons]at hk ⊢
  split at hk
  ·rename_i hc;rw[if_pos hc];have:=pT l k (by simpa [digs]using hk) (fun h=>hd (by simpa using h));simp only[List.length_cons];unfold digs at this;omega
  ·simp at hk
theorem aBg {a b:Nat}(h:b=a):Ending.returned (.int .i64 (a:Int))=.returned (.int .i64 (b:Int)):=by rw[h]
theorem sG (s:ByteArray)(k:Nat)(h:k<s.size):s.data.toList[k]'(by simpa using h)=s[k]:=rfl
theorem aFH (s:ByteArray)(w:World)(hs:s.size≤maxLen) :
  Calls Tryz.prog 112 #[.string s] w fun e w'=>e=.returned (.int .i64 (digs s.data.toList:Nat))∧w=w':=by
 unfold maxLen at hs;go_enter Tryz.func112,Tryz.ntmps112
 go_wp2
 go_loop [3] (fun i=>∃k:Nat,k≤s.size∧k≤digs s.data.toList∧i=.int .i64 k) (fun i=>s.size-(intOf i).toNat)
 case atStart=>exact⟨0,Nat.zero_le _,Nat.zero_le _,rfl⟩
 case round =>
  obtain⟨k,hk,hkd,rfl⟩:=hrel;have HD:=hid hkd;clear hkd;by_cases hlt:k<s.size
  ·by_cases h1:48≤s[k].toNat
   ·by_cases h2:s[k].toNat≤57
    ·go_wp2
     go_round
     case rel=>exact⟨k+1,by omega,uB _ k (by simpa using hlt) HD.out (by rw[sG s k hlt];simp[aD,h1,h2]),by go_num⟩
     case measure=>simp[intOf];omega
    ·go_wp2
     go_ret;exact⟨aBg (pT _ k HD.out (fun h=>by rw[sG s k hlt];simp[aD,h2])),rfl⟩
   ·go_wp2
    go_ret;exact⟨aBg (pT _ k HD.out (fun h=>by rw[sG s k hlt];simp[aD,h1])),rfl⟩
  ·go_wp2
   go_ret;exact⟨aBg (pT _ k HD.out (fun h=>absurd h (by simpa using hlt))),rfl⟩
open Go.RowKit
theorem eR (s:ByteArray)(n:Nat)(h:n≤s.size) :
  ∃s2:ByteArray,s2.data.toList=s.data.toList.drop n∧s2.size=s.size-n∧∀w,(Instr.slice 9 (.string s) (some (.int .i64 n)) none none).run Tryz.prog w=.ok (.string s2) w:=by
 refine⟨s.extract n s.size,?_,?_,fun w=>?_⟩
 ·rw[Lib.extract_data];exact List.take_of_length_le (by rw[List.length_drop];exact Nat.le_refl _)
 ·simp
 ·rw[run_slice_string_from_if (P:=Tryz.prog) w 9 s .i64 n Tryz.underlying9,if_pos (by omega)];simp
theorem nO (s:ByteArray)(n:Nat)(h:n≤s.size) :
  ∃s2:ByteArray,s2.data.toList=s.data.toList.take n∧s2.size=n∧∀w,(Instr.slice 9 (.string s) none (some (.int .i64 n)) none).run Tryz.prog w=.ok (.string s2) w:=by
 refine⟨s.extract 0 n,?_,?_,fun w=>?_⟩
 ·rw[Lib.extract_data];simp
 ·simp;omega
 ·rw[run_slice_string_to_if (P:=Tryz.prog) w 9 s .i64 n Tryz.underlying9,if_pos (by omega)];simp
theorem aP (s:ByteArray):s.size=s.data.toList.length:=rfl
theorem oE (s:ByteArray)(h:s.size=0):s.data.toList=[]:=List.eq_nil_of_length_eq_zero h
theorem aGu (l:List UInt8):Lib.trimPrefix l [45]=if l.head?=some 45 then l.drop 1 else l:=by
 unfold Lib.trimPrefix Lib.hasPrefix;cases l with
 | nil=>rfl
 | cons c l =>
  by_cases h:c=45
  ·subst h;simp
  ·simp[h];intro hh;exact absurd hh.symm h
theorem aLB (l:List UInt8):Lib.hasPrefix l [46]=decide (l.head?=some 46):=by
 unfold Lib.hasPrefix;cases l with
 | nil=>rfl
 | cons c l =>
  by_cases h:c=46
  ·subst h;simp
  ·have h':¬(46:UInt8)=c:=fun e=>h e.symm
   simp[h,List.isPrefixOf,h']
open Go.RowKit
def mC (l:List UInt8):Bool :=
 let l5:=if l.head?=some 43∨l.head?=some 45 then l.drop 1 else l
 !l5.isEmpty&&digs l5==l5.length
def iF (n:Nat)(l:List UInt8):Bool :=
 if n=0 then false else if l=[]then true else if l.head?=some 101∨l.head?=some 69 then mC (l.drop 1)else false
def pE (l:List UInt8):Bool :=
 if (l.drop (digs l)).head?=some 46 then
  (if digs ((l.drop (digs l)).drop 1)=0 then false else iF (digs l+digs ((l.drop (digs l)).drop 1)) ((l.drop (digs l)).drop (1+digs ((l.drop (digs l)).drop 1))))
 else iF (digs l) (l.drop (digs l))
def bR (l:List UInt8):Bool:=if 40<l.length then false else pE (if l.head?=some 45 then l.drop 1 else l)
theorem gX (s:ByteArray)(n:Nat)(w:World)(hs:s.size≤maxLen)(hn:digs s.data.toList=n) :
  Calls Tryz.prog 112 #[.string s] w fun e w'=>e=.returned (.int .i64 n)∧w=w':=by
 subst hn;exact aFH s w hs
theorem aMA (s s1:ByteArray)(w:World)(h:s1.data.toList=if s.data.toList.head?=some 45 then s.data.toList.drop 1 else s.data.toList) :
  Calls Tryz.prog 117 #[.string s,.string { data:=#[45] }] w fun e w'=>e=.returned (.string s1)∧w=w':=by
 refine(Tryz.strings_TrimPrefix _ _ _).mono ?_;rintro e w' ⟨rfl,rfl⟩;refine⟨?_,rfl⟩;have:Lib.trimPrefix s.data.toList [45]=s1.data.toList:=by rw[aGu,h]
 simp only[this]
theorem aHc (s:ByteArray)(b:Bool)(w:World)(h:decide (s.data.toList.head?=some 46)=b) :
  Calls Tryz.prog 118 #[.string s,.string { data:=#[46] }] w fun e w'=>e=.returned (.bool b)∧w=w':=by
 refine(Tryz.strings_HasPrefix _ _ _).mono ?_;rintro e w' ⟨rfl,rfl⟩;have:Lib.hasPrefix s.data.toList [46]=b:=by rw[aLB,h]
 exact⟨by simp only[this],rfl⟩
theorem uE (s:ByteArray)(h:0<s.size):s.data.toList.head?=some s[0]:=by
 rw[List.head?_eq_getElem?,List.getElem?_eq_getElem (by simpa using h)];rfl
theorem gU (s:ByteArray)(h:s.size=0):s.toList.isEmpty=true:=by rw[Lib.toList_data,oE s h];rfl
theorem cV (s:ByteArray)(h:0<s.size):s.toList.isEmpty=false:=by
 rw[Lib.toList_data,List.isEmpty_eq_false_iff];intro e;rw[aP,e]at h
 exact absurd h (by simp)
theorem aDk (s:ByteArray)(w:World)(hs:s.size≤maxLen)(h:40<s.size) :
  Calls Tryz.prog 65 #[.string s] w fun e w'=>e=.returned (.bool (bR s.data.toList))∧w=w':=by
 have hv:bR s.data.toList=false:=by unfold bR;rw[if_pos (by rw[←aP];exact h)]
 rw[hv];clear hv;unfold maxLen at hs;go_enter Tryz.func65,Tryz.ntmps65
 go_wp2
 go_ret;exact⟨rfl,rfl⟩
theorem aJ1 (s3:ByteArray)(m:Nat)(hs3:s3.size≤40)(hm:m≤40) :
  (m=0∧iF m s3.data.toList=false)∨(0<m∧s3.size=0∧iF m s3.data.toList=true) ∨
  (0<m∧0<s3.size∧∃c:UInt8,s3.data.toList.head?=some c∧c≠101∧c≠69∧iF m s3.data.toList=false) ∨
  (0<m∧0<s3.size∧∃c:UInt8,s3.data.toList.head?=some c∧(c=101∨c=69)∧iF m s3.data.toList=mC (s3.data.toList.drop 1)):=by
 by_cases h0:m=0
 ·exact .inl ⟨h0,by simp[iF,h0]⟩
 ·by_cases h1:s3.size=0
  ·exact .inr (.inl ⟨by omega,h1,by simp[iF,h0,oE s3 h1]⟩)
  ·have hh:=uE s3 (by omega);have hne:s3.data.toList≠[]:=by intro e;rw[e]at hh;simp at hh
   by_cases hc:s3[0]'(by omega)=101∨s3[0]'(by omega)=69
   ·exact .inr (.inr (.inr ⟨by omega,by omega,_,hh,hc,by simp[iF,h0,hne,hh,hc]⟩))
   ·have hc':=not_or.1 hc;exact .inr (.inr (.inl ⟨by omega,by omega,_,hh,hc'.1,hc'.2,by simp[iF,h0,hne,hh,hc'.1,hc'.2]⟩))
open Go.RowKit
theorem uF (s:ByteArray)(c:UInt8)(h:s.data.toList.head?=some c):∃h:0<s.size,s[0]=c:=by
 have h0:0<s.size:=by
  rw[aP];cases hl:s.data.toList with
  | nil=>rw[hl]at h;simp at h
  | cons a l=>simp
 refine⟨h0,?_⟩;rw[uE s h0]at h
 exact Option.some.inj h
inductive rW (s4:ByteArray):Bool→Prop
 | none (h:s4.size=0):rW s4 false
 | bare (h:0<s4.size) (h1:((s4[0].toNat:Int)==43)=false) (h2:((s4[0].toNat:Int)==45)=false) (d:Nat) (hd:digs s4.data.toList=d):rW s4 (decide ((d:Int)=s4.size))
 | plus (h:0<s4.size) (h1:((s4[0].toNat:Int)==43)=true) (s5:ByteArray) (h5:s5.size≤s4.size) (c5:∀w,(Instr.slice 9 (.string s4) (some (.int .i64 1)) none none).run Tryz.prog w=.ok (.string s5) w)
   (h0:s5.size=0):rW s4 false
 | plusd (h:0<s4.size) (h1:((s4[0].toNat:Int)==43)=true) (s5:ByteArray) (h5:s5.size≤s4.size) (c5:∀w,(Instr.slice 9 (.string s4) (some (.int .i64 1)) none none).run Tryz.prog w=.ok (.string s5) w)
   (h0:0<s5.size) (d:Nat) (hd:digs s5.data.toList=d):rW s4 (decide ((d:Int)=s5.size))
 | minus (h:0<s4.size) (h1:((s4[0].toNat:Int)==43)=false) (h2:((s4[0].toNat:Int)==45)=true) (s5:ByteArray) (h5:s5.size≤s4.size) (c5:∀w,(Instr.slice 9 (.string s4) (some (.int .i64 1)) none none).run Tryz.prog w=.ok (.string s5) w)
   (h0:s5.size=0):rW s4 false
 | minusd (h:0<s4.size) (h1:((s4[0].toNat:Int)==43)=false) (h2:((s4[0].toNat:Int)==45)=true) (s5:ByteArray) (h5:s5.size≤s4.size) (c5:∀w,(Instr.slice 9 (.string s4) (some (.int .i64 1)) none none).run Tryz.prog w=.ok (.string s5) w)
   (h0:0<s5.size) (d:Nat) (hd:digs s5.data.toList=d):rW s4 (decide ((d:Int)=s5.size))
theorem aAk (s4:ByteArray):rW s4 (mC s4.data.toList):=by
 by_cases h:s4.size=0
 ·have:mC s4.data.toList=false:=by rw[oE s4 h];rfl
  rw[this];exact .none h
 ·have h0:0<s4.size:=by omega
  have hh:=uE s4 h0;by_cases h1:s4[0].toNat=43∨s4[0].toNat=45
  ·obtain⟨s5,e5,z5,c5⟩:=eR s4 1 h0;have hs:s4[0]=43∨s4[0]=45:=by
    rcases h1 with h1|h1
    ·exact .inl (UInt8.toNat_inj.1 h1)
    ·exact .inr (UInt8.toNat_inj.1 h1)
   have hv:mC s4.data.toList=(!s5.data.toList.isEmpty&&digs s5.data.toList==s5.data.toList.length):=by
    unfold mC;simp only[hh,Option.some.injEq];rw[if_pos hs,e5]
   rw[hv];by_cases h5:s5.size=0
   ·rw[oE s5 h5];rcases h1 with h1|h1
    ·exact .plus h0 (by simp[h1]) s5 (by omega) c5 h5
    ·exact .minus h0 (by simp[h1]) (by simp[h1]) s5 (by omega) c5 h5
   ·have hne:s5.data.toList.isEmpty=false:=by rw[←Lib.toList_data];exact cV s5 (by omega)
    have hb:(!s5.data.toList.isEmpty&&digs s5.data.toList==s5.data.toList.length)=decide (((digs s5.data.toList:Nat):Int)=s5.size):=by
     rw[hne,aP,Bool.eq_iff_iff];simp;omega
    rw[hb];rcases h1 with h1|h1
    ·exact .plusd h0 (by simp[h1]) s5 (by omega) c5 (by omega) _ rfl
    ·exact .minusd h0 (by simp[h1]) (by simp[h1]) s5 (by omega) c5 (by omega) _ rfl
  ·have h1':=not_or.1 h1;have hs:¬(s4[0]=43∨s4[0]=45):=by
    rintro(e|e)<;>rw[e]at h1'<;>simp at h1'
   have hv:mC s4.data.toList=(!s4.data.toList.isEmpty&&digs s4.data.toList==s4.data.toList.length):=by
    unfold mC;simp only[hh,Option.some.injEq];rw[if_neg hs]
   have hne:s4.data.toList.isEmpty=false:=by rw[←Lib.toList_data];exact cV s4 h0
   have hb:(!s4.data.toList.isEmpty&&digs s4.data.toList==s4.data.toList.length)=decide (((digs s4.data.toList:Nat):Int)=s4.size):=by
    rw[hne,aP,Bool.eq_iff_iff];simp;omega
   rw[hv,hb];exact .bare h0 (by simp;omega) (by simp;omega) _ rfl
inductive tT (s3:ByteArray) (m:Nat):Bool→Prop
 | zero (h:m=0):tT s3 m false
 | done (h:0<m) (h1:s3.size=0):tT s3 m true
 | other (h:0<m) (h1:0<s3.size) (h2:((s3[0].toNat:Int) !=101)=true) (h3:((s3[0].toNat:Int) !=69)=true):tT s3 m false
 | small (h:0<m) (h1:0<s3.size) (h2:((s3[0].toNat:Int) !=101)=false) (s4:ByteArray) (z4:s4.size≤s3.size) (c4:∀w,(Instr.slice 9 (.string s3) (some (.int .i64 1)) none none).run Tryz.prog w=.ok (.string s4) w) (v:Bool) (hv:rW s4 v):tT s3 m v
 | large (h:0<m) (h1:0<s3.size) (h2:((s3[0].toNat:Int) !=101)=true) (h3:((s3[0].toNat:Int) !=69)=false) (s4:ByteArray) (z4:s4.size≤s3.size) (c4:∀w,(Instr.slice 9 (.string s3) (some (.int .i64 1)) none none).run Tryz.prog w=.ok (.string s4) w) (v:Bool) (hv:rW s4 v):tT s3 m v
theorem aAj (s3:ByteArray)(m:Nat)(hs3:s3.size≤40)(hm:m≤40):tT s3 m (iF m s3.data.toList):=by
 rcases aJ1 s3 m hs3 hm with⟨h,hv⟩|⟨h,h1,hv⟩|⟨h,h1,c,hc,h2,h3,hv⟩|⟨h,h1,c,hc,h2,hv⟩
 ·rw[hv];exact .zero h
 ·rw[hv];exact .done h h1
 ·rw[hv];obtain⟨_,rfl⟩:=uF s3 c hc;exact .other h h1 (by have:=fun e=>h2 (UInt8.toNat_inj.1 e);simp at this ⊢;omega) (by have:=fun e=>h3 (UInt8.toNat_inj.1 e);simp at this ⊢;omega)
 ·rw[hv];obtain⟨_,rfl⟩:=uF s3 c hc;obtain⟨s4,e4,z4,c4⟩:=eR s3 1 h1;rw[←e4];rcases h2 with h2|h2
  ·exact .small h h1 (by rw[h2];rfl) s4 (by omega) c4 _ (aAk s4)
  ·exact .large h h1 (by rw[h2];rfl) (by rw[h2];rfl) s4 (by omega) c4 _ (aAk s4)
open Go.RowKit
theorem pN:∀(l:List UInt8) (k:Nat) (h:k<l.length),k<digs l→aD l[k]=true
 | [],k,h,_=>by simp at h
 | c :: l,k,h,hk=>by
  unfold digs at hk;rw[List.takeWhile_cons]at hk
  by_cases hc:aD c=true
  ·rw[if_pos hc]at hk
   cases k with
   | zero=>exact hc
   | succ k=>exact pN l k (by simpa using h) (by unfold digs;simpa using hk)
  ·rw[if_neg hc]at hk;simp at hk
theorem aBt:∀(l:List UInt8) (h:digs l<l.length),aD l[digs l]=false
 | [],h=>by simp at h
 | c :: l,h=>by
  by_cases hc:aD c=true
  ·have e:digs (c :: l)=digs l+1:=by unfold digs;rw[List.takeWhile_cons,if_pos hc];rfl
   have:=aBt l (by rw[e]at h;simpa using h);simp only[e,List.getElem_cons_succ];exact this
  ·have e:digs (c :: l)=0:=by unfold digs;rw[List.takeWhile_cons,if_neg hc];rfl
   simp only[e,List.getElem_cons_zero];simpa using hc
theorem oD (c:UInt8)(h:aD c=true):48≤c.toNat∧c.toNat≤57:=by simpa [aD]using h
theorem vF (l:List UInt8):∀k,k≤digs l→∃m,Lib.decFrom 0 (l.take k)=some m∧m<10^k
 | 0,_=>⟨0,by simp[Lib.decFrom],by decide⟩
 | k+1,hk=>by
  obtain⟨m,h1,h2⟩:=vF l k (by omega);have hl:k<l.length:=by have:=gT l;omega
  have hd:=oD _ (pN l k hl (by omega));refine⟨m*10+(l[k].toNat-48),Lib.decFrom_take l k 0 m l[k] _ h1 (List.getElem?_eq_getElem hl) (by unfold Lib.digitVal;rw[if_pos hd]),?_⟩;rw[Nat.pow_succ];omega
theorem aIT (s:ByteArray)(j m:Nat)(hj:j<s.size)(hd:j<digs s.data.toList)(h:Lib.decFrom 0 (s.data.toList.take j)=some m) :
  Lib.decFrom 0 (s.data.toList.take (j+1))=some (10*m+(s[j].toNat-48)):=by
 have hl:j<s.data.toList.length:=by simpa using hj
 have:=Lib.decFrom_take s.data.toList j 0 m s[j] (s[j].toNat-48) h (List.getElem?_eq_getElem hl) (by unfold Lib.digitVal;exact if_pos (oD _ (pN _ j hl hd)));rw[this,Nat.mul_comm]
theorem aGE (s:ByteArray)(j m:Nat)(hj:j≤digs s.data.toList)(h9:j≤8)(h:Lib.decFrom 0 (s.data.toList.take j)=some m):m≤99999999:=by
 obtain⟨m',h1,h2⟩:=vF s.data.toList j hj;rw[h]at h1
 cases h1;have:10^j≤10^8:=Nat.pow_le_pow_right (by omega) h9;omega
def oZ (v lo hi:Int):Value:=if v<lo∨hi<v then .tuple #[.int .i64 0,.bool false]else .tuple #[.int .i64 v,.bool true]
theorem uP (s:ByteArray)(lo hi:Int)(w:World)(h:s.size=0∨9<s.size) :
  Calls Tryz.prog 94 #[.string s,.int .i64 lo,.int .i64 hi] w fun e w'=>e=.returned (.tuple #[.int .i64 0,.bool false])∧w=w':=by
 go_enter Tryz.func94,Tryz.ntmps94
 rcases h with h|h
 ·as_aux_lemma =>
   go_wp2
   go_ret2;exact⟨rfl,rfl⟩
 ·have h':¬s.size=0:=by omega
  as_aux_lemma =>
   go_wp2
   go_ret2;exact⟨rfl,rfl⟩
theorem aAs (s:ByteArray)(lo hi:Int)(w:World)(h1:1<s.size)(h9:s.size≤9)(h0:s[0].toNat=48) :
  Calls Tryz.prog 94 #[.string s,.int .i64 lo,.int .i64 hi] w fun e w'=>e=.returned (.tuple #[.int .i64 0,.bool false])∧w=w':=by
 have h':¬s.size=0:=by omega
 have e0:((s[0].toNat:Int)==48)=true:=by simp[h0]
 go_enter Tryz.func94,Tryz.ntmps94
 go_wp2
 go_ret2;exact⟨rfl,rfl⟩
def AtW (s:ByteArray)(a b:Value)(j m:Nat):Prop :=
 a=.int .i64 (m:Nat)∧b=.int .i64 (j:Nat)∧j≤digs s.data.toList∧Lib.decFrom 0 (s.data.toList.take j)=some m
theorem aAr (s:ByteArray)(lo hi:Int)(w:World)(h1:1≤s.size)(h9:s.size≤9)(h0:s.size=1∨∃h:0<s.size,((s[0].toNat:Int)==48)=false) :
  Calls Tryz.prog 94 #[.string s,.int .i64 lo,.int .i64 hi] w fun e w'=>e=.returned (if digs s.data.toList=s.size then oZ (Lib.decFrom 0 s.data.toList).get! lo hi else .tuple #[.int .i64 0,.bool false])∧w=w':=by
 have h':¬s.size=0:=by omega
 have i1:((s.size:Int)==0)=false:=beq_eq_false_iff_ne.2 (by omega);have i2:decide (9<(s.size:Int))=false:=decide_eq_false (by omega);have hle:digs s.data.toList≤s.size:=by have:=gT s.data.toList;simpa using this
 have HLE:=hid hle;clear hle;obtain⟨V,hV⟩:∃V,V=(if digs s.data.toList=s.size then oZ (Lib.decFrom 0 s.data.toList).get! lo hi else .tuple #[.int .i64 0,.bool false]):=⟨_,rfl⟩
 rw[←hV];have HVV:=hid hV;clear hV;have H0:=hid h0;clear h0;go_enter Tryz.func94,Tryz.ntmps94
 go_upto_region 2 with fail
 go_cut [27] (fun t wx=>t=.bool false∧wx=w)
 case first =>
  rcases H0.out with h|⟨h,e⟩
  ·have i3:decide (1<(s.size:Int))=false:=decide_eq_false (by omega);as_aux_lemma =>
    go_wp2_with fail
    all_goals go_meet
    all_goals exact⟨rfl,rfl⟩
  ·as_aux_lemma =>
    go_wp2_with fail
    all_goals go_meet
    all_goals exact⟨rfl,rfl⟩
 case rest =>
  obtain⟨rfl,rfl⟩:=hcut;go_wp2_with fail
  go_loopg [8,9] (s.size) (fun g a b wx=>∃j m,AtW s a b j m∧g=s.size-j∧wx=wc)
  case atStart=>exact⟨0,0,⟨rfl,rfl,Nat.zero_le _,by simp[Lib.decFrom]⟩,by omega,rfl⟩
  case round =>
   obtain⟨j,m,⟨rfl,rfl,hj,hm⟩,hg,rfl⟩:=hrel;have hj9:j≤s.size:=by have:=HLE.out;omega
   have HM:=hid hm;have HG:=hid hg;clear hm hg;by_cases hjs:j<s.size
   ·by_cases hjd:j<digs s.data.toList
    ·obtain⟨d1,d2⟩:=oD s[j] (pN s.data.toList j (by simpa using hjs) hjd);have hm8:=aGE s j m hj (by omega) HM.out;have hs2:=aIT s j m hjs hjd HM.out;have HS2:=hid hs2;have HJD:=hid hjd;clear hs2 hj hjd;as_aux_lemma =>
      go_wp2_with fail
      go_roundg (s.size-(j+1))
      case measure=>have:=HG.out;omega
      case rel=>exact⟨j+1,_,⟨by rw[Int.natCast_add,Int.natCast_mul,Int.ofNat_sub d1];rfl,by go_num,by have:=HJD.out;omega,HS2.out⟩,rfl,rfl⟩
    ·have ej:digs s.data.toList=j:=by omega
     have hnd:=aBt s.data.toList (by rw[ej];simpa using hjs);have ne:¬digs s.data.toList=s.size:=by omega
     simp only[ej]at hnd;have hnd':aD s[j]=false:=hnd;have hlt:s[j].toNat<256:=s[j].toNat_lt;have hb:s[j].toNat<48∨57<s[j].toNat:=by
      unfold aD at hnd';simp at hnd';omega
     have NE:=hid ne;clear ej hnd hnd' ne hj;rcases hb with hb|hb
     ·as_aux_lemma =>
       go_wp2_with fail
       go_ret2;exact⟨by rw[HVV.out,if_neg NE.out];rfl,rfl⟩
     ·as_aux_lemma =>
       go_wp2_with fail
       go_ret2;exact⟨by rw[HVV.out,if_neg NE.out];rfl,rfl⟩
   ·have ej:digs s.data.toList=s.size:=by have:=HLE.out;omega
    have e:j=s.size:=by omega
    subst e;have hv:Lib.decFrom 0 s.data.toList=some m:=by
     have:=HM.out;rwa[List.take_of_length_le (by simp)]at this
    have EJ:=hid ej;have HV:=hid hv;clear ej hv hj hjs;by_cases c1:(m:Int)<lo
    ·as_aux_lemma =>
      go_wp2_with fail
      all_goals go_ret2
      all_goals exact⟨by rw[HVV.out,if_pos EJ.out,HV.out];unfold oZ;rw[if_pos (.inl c1)];rfl,rfl⟩
    ·by_cases c2:hi<(m:Int)
     ·as_aux_lemma =>
       go_wp2_with fail
       all_goals go_ret2
       all_goals exact⟨by rw[HVV.out,if_pos EJ.out,HV.out];unfold oZ;rw[if_pos (.inr c2)];rfl,rfl⟩
     ·as_aux_lemma =>
       go_wp2_with fail
       all_goals go_ret2
       all_goals exact⟨by rw[HVV.out,if_pos EJ.out,HV.out];unfold oZ;rw[if_neg (by simp[c1,c2])];rfl,rfl⟩
end Go.Proofs.YtcfgbdhpcboikaaGreatDoor
