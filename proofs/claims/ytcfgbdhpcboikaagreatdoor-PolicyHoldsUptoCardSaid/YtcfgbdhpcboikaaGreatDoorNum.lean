/-
real.digits and real.numeral over lists of bytes: which texts are numerals.
-/
import Derived.Test.YtcfgbdhpcboikaaGreatDoorChecked
import Derived.Test.YtcfgbdhpcboikaaGreatDoorRefUC
namespace Go.Proofs.YtcfgbdhpcboikaaGreatDoor
open Go.Lib (hid)
set_option maxHeartbeats 16000000
set_option maxRecDepth 100000
open Go.RowKit
theorem zK {n:Nat}:n≤n:=Nat.le_refl n
def aE (c:UInt8):Bool:=decide (48≤c.toNat)&&decide (c.toNat≤57)
def digs (l:List UInt8):Nat:=(l.takeWhile aE).length
theorem jC (l:List UInt8):digs l≤l.length:=by
 unfold digs;induction l with
 | nil=>simp
 | cons c l ih=>rw[List.takeWhile_cons];split<;>simp<;>omega
theorem wW:∀(l:List UInt8) (k:Nat) (h:k<l.length),k≤digs l→aE l[k]=true→k+1≤digs l
 | [],k,h,_,_=>by simp at h
 | c :: l,0,_,_,hd=>by
  have:aE c=true:=hd;simp[digs,this]
 | c :: l,k+1,h,hk,hd=>by
  unfold digs at hk ⊢;rw[List.takeWhile_cons]at hk ⊢
  split at hk
  ·rename_i hc;rw[if_pos hc];have:=wW l k (by simpa using h) (by simpa [digs]using hk) (by simpa using hd);simp only[List.length_cons];unfold digs at this;omega
  ·simp at hk
theorem sG:∀(l:List UInt8) (k:Nat),k≤digs l→(∀h:k<l.length,aE l[k]=false)→digs l=k
 | [],k,hk,_=>by simp[digs]at hk ⊢;omega
 | c :: l,0,_,hd=>by
  have:aE c=false:=hd (by simp);simp[digs,this]
 | c :: l,k+1,hk,hd=>by
  unfold digs at hk ⊢;rw[List.takeWhile_cons]at hk ⊢
  split at hk
  ·rename_i hc;rw[if_pos hc];have:=sG l k (by simpa [digs]using hk) (fun h=>hd (by simpa using h));simp only[List.length_cons];unfold digs at this;omega
  ·simp at hk
theorem aCy {a b:Nat}(h:b=a):Ending.returned (.int .i64 (a:Int))=.returned (.int .i64 (b:Int)):=by rw[h]
theorem vB (s:ByteArray)(k:Nat)(h:k<s.size):s.data.toList[k]'(by simpa using h)=s[k]:=rfl
theorem aHf (s:ByteArray)(w:World)(hs:s.size≤maxLen) :
  Calls Tryz.prog 112 #[.string s] w fun e w'=>e=.returned (.int .i64 (digs s.data.toList:Nat))∧w=w':=by
 unfold maxLen at hs;go_enter Tryz.func112,Tryz.ntmps112
 go_wp2
 go_loop [3] (fun i=>∃k:Nat,k≤s.size∧k≤digs s.data.toList∧i=.int .i64 k) (fun i=>s.size-(intOf i).toNat)
 case atStart=>exact⟨0,Nat.zero_le _,Nat.zero_le _,rfl⟩
 case round =>
  obtain⟨k,hk,hkd,rfl⟩:=hrel;have HD:=hid hkd;clear hkd;by_cases hlt:k<s.size
  ·by_cases h1:48≤s[k].toNat
   ·by_cases h2:s[k].toNat≤57
    ·go_wp2
     go_round
     case rel=>exact⟨k+1,by omega,wW _ k (by simpa using hlt) HD.out (by rw[vB s k hlt];simp[aE,h1,h2]),by go_num⟩
     case measure=>simp[intOf];omega
    ·go_wp2
     go_ret;exact⟨aCy (sG _ k HD.out (fun h=>by rw[vB s k hlt];simp[aE,h2])),rfl⟩
   ·go_wp2
    go_ret;exact⟨aCy (sG _ k HD.out (fun h=>by rw[vB s k hlt];simp[aE,h1])),rfl⟩
  ·go_wp2
   go_ret;exact⟨aCy (sG _ k HD.out (fun h=>absurd h (by simpa using hlt))),rfl⟩
open Go.RowKit
theorem fR (s:ByteArray)(n:Nat)(h:n≤s.size) :
  ∃s2:ByteArray,s2.data.toList=s.data.toList.drop n∧s2.size=s.size-n∧∀w,(Instr.slice 9 (.string s) (some (.int .i64 n)) none none).run Tryz.prog w=.ok (.string s2) w:=by
 refine⟨s.extract n s.size,?_,?_,fun w=>?_⟩
 ·rw[Lib.extract_data];exact List.take_of_length_le (by rw[List.length_drop];exact Nat.le_refl _)
 ·simp
 ·rw[run_slice_string_from_if (P:=Tryz.prog) w 9 s .i64 n Tryz.underlying9,if_pos (by omega)];simp
theorem pP (s:ByteArray)(n:Nat)(h:n≤s.size) :
  ∃s2:ByteArray,s2.data.toList=s.data.toList.take n∧s2.size=n∧∀w,(Instr.slice 9 (.string s) none (some (.int .i64 n)) none).run Tryz.prog w=.ok (.string s2) w:=by
 refine⟨s.extract 0 n,?_,?_,fun w=>?_⟩
 ·rw[Lib.extract_data];simp
 ·simp;omega
 ·rw[run_slice_string_to_if (P:=Tryz.prog) w 9 s .i64 n Tryz.underlying9,if_pos (by omega)];simp
theorem aS (s:ByteArray):s.size=s.data.toList.length:=rfl
theorem qK (s:ByteArray)(h:s.size=0):s.data.toList=[]:=List.eq_nil_of_length_eq_zero h
theorem aH7 (l:List UInt8):Lib.trimPrefix l [45]=if l.head?=some 45 then l.drop 1 else l:=by
 unfold Lib.trimPrefix Lib.hasPrefix;cases l with
 | nil=>rfl
 | cons c l =>
  by_cases h:c=45
  ·subst h;simp
  ·simp[h];intro hh;exact absurd hh.symm h
theorem aNK (l:List UInt8):Lib.hasPrefix l [46]=decide (l.head?=some 46):=by
 unfold Lib.hasPrefix;cases l with
 | nil=>rfl
 | cons c l =>
  by_cases h:c=46
  ·subst h;simp
  ·have h':¬(46:UInt8)=c:=fun e=>h e.symm
   simp[h,List.isPrefixOf,h']
open Go.RowKit
def oC (l:List UInt8):Bool :=
 let l5:=if l.head?=some 43∨l.head?=some 45 then l.drop 1 else l
 !l5.isEmpty&&digs l5==l5.length
def jS (n:Nat)(l:List UInt8):Bool :=
 if n=0 then false else if l=[]then true else if l.head?=some 101∨l.head?=some 69 then oC (l.drop 1)else false
def rO (l:List UInt8):Bool :=
 if (l.drop (digs l)).head?=some 46 then
  (if digs ((l.drop (digs l)).drop 1)=0 then false else jS (digs l+digs ((l.drop (digs l)).drop 1)) ((l.drop (digs l)).drop (1+digs ((l.drop (digs l)).drop 1))))
 else jS (digs l) (l.drop (digs l))
def bX (l:List UInt8):Bool:=if 40<l.length then false else rO (if l.head?=some 45 then l.drop 1 else l)
theorem jI (s:ByteArray)(n:Nat)(w:World)(hs:s.size≤maxLen)(hn:digs s.data.toList=n) :
  Calls Tryz.prog 112 #[.string s] w fun e w'=>e=.returned (.int .i64 n)∧w=w':=by
 subst hn;exact aHf s w hs
theorem aOV (s s1:ByteArray)(w:World)(h:s1.data.toList=if s.data.toList.head?=some 45 then s.data.toList.drop 1 else s.data.toList) :
  Calls Tryz.prog 117 #[.string s,.string { data:=#[45] }] w fun e w'=>e=.returned (.string s1)∧w=w':=by
 refine(Tryz.strings_TrimPrefix _ _ _).mono ?_;rintro e w' ⟨rfl,rfl⟩;refine⟨?_,rfl⟩;have:Lib.trimPrefix s.data.toList [45]=s1.data.toList:=by rw[aH7,h]
 simp only[this]
theorem aIO (s:ByteArray)(b:Bool)(w:World)(h:decide (s.data.toList.head?=some 46)=b) :
  Calls Tryz.prog 118 #[.string s,.string { data:=#[46] }] w fun e w'=>e=.returned (.bool b)∧w=w':=by
 refine(Tryz.strings_HasPrefix _ _ _).mono ?_;rintro e w' ⟨rfl,rfl⟩;have:Lib.hasPrefix s.data.toList [46]=b:=by rw[aNK,h]
 exact⟨by simp only[this],rfl⟩
theorem wZ (s:ByteArray)(h:0<s.size):s.data.toList.head?=some s[0]:=by
 rw[List.head?_eq_getElem?,List.getElem?_eq_getElem (by simpa using h)];rfl
theorem jD (s:ByteArray)(h:s.size=0):s.toList.isEmpty=true:=by rw[Lib.toList_data,qK s h];rfl
theorem dG (s:ByteArray)(h:0<s.size):s.toList.isEmpty=false:=by
 rw[Lib.toList_data,List.isEmpty_eq_false_iff];intro e;rw[aS,e]at h
 exact absurd h (by simp)
theorem aEI (s:ByteArray)(w:World)(hs:s.size≤maxLen)(h:40<s.size) :
  Calls Tryz.prog 65 #[.string s] w fun e w'=>e=.returned (.bool (bX s.data.toList))∧w=w':=by
 have hv:bX s.data.toList=false:=by unfold bX;rw[if_pos (by rw[←aS];exact h)]
 rw[hv];clear hv;unfold maxLen at hs;go_enter Tryz.func65,Tryz.ntmps65
 go_wp2
 go_ret;exact⟨rfl,rfl⟩
theorem aLW (s3:ByteArray)(m:Nat)(hs3:s3.size≤40)(hm:m≤40) :
  (m=0∧jS m s3.data.toList=false)∨(0<m∧s3.size=0∧jS m s3.data.toList=true) ∨
  (0<m∧0<s3.size∧∃c:UInt8,s3.data.toList.head?=some c∧c≠101∧c≠69∧jS m s3.data.toList=false) ∨
  (0<m∧0<s3.size∧∃c:UInt8,s3.data.toList.head?=some c∧(c=101∨c=69)∧jS m s3.data.toList=oC (s3.data.toList.drop 1)):=by
 by_cases h0:m=0
 ·exact .inl ⟨h0,by simp[jS,h0]⟩
 ·by_cases h1:s3.size=0
  ·exact .inr (.inl ⟨by omega,h1,by simp[jS,h0,qK s3 h1]⟩)
  ·have hh:=wZ s3 (by omega);have hne:s3.data.toList≠[]:=by intro e;rw[e]at hh;simp at hh
   by_cases hc:s3[0]'(by omega)=101∨s3[0]'(by omega)=69
   ·exact .inr (.inr (.inr ⟨by omega,by omega,_,hh,hc,by simp[jS,h0,hne,hh,hc]⟩))
   ·have hc':=not_or.1 hc;exact .inr (.inr (.inl ⟨by omega,by omega,_,hh,hc'.1,hc'.2,by simp[jS,h0,hne,hh,hc'.1,hc'.2]⟩))
open Go.RowKit
theorem xE (s:ByteArray)(c:UInt8)(h:s.data.toList.head?=some c):∃h:0<s.size,s[0]=c:=by
 have h0:0<s.size:=by
  rw[aS];cases hl:s.data.toList with
  | nil=>rw[hl]at h;simp at h
  | cons a l=>simp
 refine⟨h0,?_⟩;rw[wZ s h0]at h
 exact Option.some.inj h
inductive uV (s4:ByteArray):Bool→Prop
 | none (h:s4.size=0):uV s4 false
 | bare (h:0<s4.size) (h1:((s4[0].toNat:Int)==43)=false) (h2:((s4[0].toNat:Int)==45)=false) (d:Nat) (hd:digs s4.data.toList=d):uV s4 (decide ((d:Int)=s4.size))
 | plus (h:0<s4.size) (h1:((s4[0].toNat:Int)==43)=true) (s5:ByteArray) (h5:s5.size≤s4.size) (c5:∀w,(Instr.slice 9 (.string s4) (some (.int .i64 1)) none none).run Tryz.prog w=.ok (.string s5) w)
   (h0:s5.size=0):uV s4 false
 | plusd (h:0<s4.size) (h1:((s4[0].toNat:Int)==43)=true) (s5:ByteArray) (h5:s5.size≤s4.size) (c5:∀w,(Instr.slice 9 (.string s4) (some (.int .i64 1)) none none).run Tryz.prog w=.ok (.string s5) w)
   (h0:0<s5.size) (d:Nat) (hd:digs s5.data.toList=d):uV s4 (decide ((d:Int)=s5.size))
 | minus (h:0<s4.size) (h1:((s4[0].toNat:Int)==43)=false) (h2:((s4[0].toNat:Int)==45)=true) (s5:ByteArray) (h5:s5.size≤s4.size) (c5:∀w,(Instr.slice 9 (.string s4) (some (.int .i64 1)) none none).run Tryz.prog w=.ok (.string s5) w)
   (h0:s5.size=0):uV s4 false
 | minusd (h:0<s4.size) (h1:((s4[0].toNat:Int)==43)=false) (h2:((s4[0].toNat:Int)==45)=true) (s5:ByteArray) (h5:s5.size≤s4.size) (c5:∀w,(Instr.slice 9 (.string s4) (some (.int .i64 1)) none none).run Tryz.prog w=.ok (.string s5) w)
   (h0:0<s5.size) (d:Nat) (hd:digs s5.data.toList=d):uV s4 (decide ((d:Int)=s5.size))
theorem aBz (s4:ByteArray):uV s4 (oC s4.data.toList):=by
 by_cases h:s4.size=0
 ·have:oC s4.data.toList=false:=by rw[qK s4 h];rfl
  rw[this];exact .none h
 ·have h0:0<s4.size:=by omega
  have hh:=wZ s4 h0;by_cases h1:s4[0].toNat=43∨s4[0].toNat=45
  ·obtain⟨s5,e5,z5,c5⟩:=fR s4 1 h0;have hs:s4[0]=43∨s4[0]=45:=by
    rcases h1 with h1|h1
    ·exact .inl (UInt8.toNat_inj.1 h1)
    ·exact .inr (UInt8.toNat_inj.1 h1)
   have hv:oC s4.data.toList=(!s5.data.toList.isEmpty&&digs s5.data.toList==s5.data.toList.length):=by
    unfold oC;simp only[hh,Option.some.injEq];rw[if_pos hs,e5]
   rw[hv];by_cases h5:s5.size=0
   ·rw[qK s5 h5];rcases h1 with h1|h1
    ·exact .plus h0 (by simp[h1]) s5 (by omega) c5 h5
    ·exact .minus h0 (by simp[h1]) (by simp[h1]) s5 (by omega) c5 h5
   ·have hne:s5.data.toList.isEmpty=false:=by rw[←Lib.toList_data];exact dG s5 (by omega)
    have hb:(!s5.data.toList.isEmpty&&digs s5.data.toList==s5.data.toList.length)=decide (((digs s5.data.toList:Nat):Int)=s5.size):=by
     rw[hne,aS,Bool.eq_iff_iff];simp;omega
    rw[hb];rcases h1 with h1|h1
    ·exact .plusd h0 (by simp[h1]) s5 (by omega) c5 (by omega) _ rfl
    ·exact .minusd h0 (by simp[h1]) (by simp[h1]) s5 (by omega) c5 (by omega) _ rfl
  ·have h1':=not_or.1 h1;have hs:¬(s4[0]=43∨s4[0]=45):=by
    rintro(e|e)<;>rw[e]at h1'<;>simp at h1'
   have hv:oC s4.data.toList=(!s4.data.toList.isEmpty&&digs s4.data.toList==s4.data.toList.length):=by
    unfold oC;simp only[hh,Option.some.injEq];rw[if_neg hs]
   have hne:s4.data.toList.isEmpty=false:=by rw[←Lib.toList_data];exact dG s4 h0
   have hb:(!s4.data.toList.isEmpty&&digs s4.data.toList==s4.data.toList.length)=decide (((digs s4.data.toList:Nat):Int)=s4.size):=by
    rw[hne,aS,Bool.eq_iff_iff];simp;omega
   rw[hv,hb];exact .bare h0 (by simp;omega) (by simp;omega) _ rfl
inductive wM (s3:ByteArray) (m:Nat):Bool→Prop
 | zero (h:m=0):wM s3 m false
 | done (h:0<m) (h1:s3.size=0):wM s3 m true
 | other (h:0<m) (h1:0<s3.size) (h2:((s3[0].toNat:Int) !=101)=true) (h3:((s3[0].toNat:Int) !=69)=true):wM s3 m false
 | small (h:0<m) (h1:0<s3.size) (h2:((s3[0].toNat:Int) !=101)=false) (s4:ByteArray) (z4:s4.size≤s3.size) (c4:∀w,(Instr.slice 9 (.string s3) (some (.int .i64 1)) none none).run Tryz.prog w=.ok (.string s4) w) (v:Bool) (hv:uV s4 v):wM s3 m v
 | large (h:0<m) (h1:0<s3.size) (h2:((s3[0].toNat:Int) !=101)=true) (h3:((s3[0].toNat:Int) !=69)=false) (s4:ByteArray) (z4:s4.size≤s3.size) (c4:∀w,(Instr.slice 9 (.string s3) (some (.int .i64 1)) none none).run Tryz.prog w=.ok (.string s4) w) (v:Bool) (hv:uV s4 v):wM s3 m v
theorem aBy (s3:ByteArray)(m:Nat)(hs3:s3.size≤40)(hm:m≤40):wM s3 m (jS m s3.data.toList):=by
 rcases aLW s3 m hs3 hm with⟨h,hv⟩|⟨h,h1,hv⟩|⟨h,h1,c,hc,h2,h3,hv⟩|⟨h,h1,c,hc,h2,hv⟩
 ·rw[hv];exact .zero h
 ·rw[hv];exact .done h h1
 ·rw[hv];obtain⟨_,rfl⟩:=xE s3 c hc;exact .other h h1 (by have:=fun e=>h2 (UInt8.toNat_inj.1 e);simp at this ⊢;omega) (by have:=fun e=>h3 (UInt8.toNat_inj.1 e);simp at this ⊢;omega)
 ·rw[hv];obtain⟨_,rfl⟩:=xE s3 c hc;obtain⟨s4,e4,z4,c4⟩:=fR s3 1 h1;rw[←e4];rcases h2 with h2|h2
  ·exact .small h h1 (by rw[h2];rfl) s4 (by omega) c4 _ (aBz s4)
  ·exact .large h h1 (by rw[h2];rfl) (by rw[h2];rfl) s4 (by omega) c4 _ (aBz s4)
open Go.RowKit
theorem aEH (s s1 s2:ByteArray)(n:Nat)(v:Bool)(w:World)(h40:s.size≤40)(hz1:s1.size≤40)(hz2:s2.size≤s1.size)
  (TR:∀w,Calls Tryz.prog 117 #[.string s,.string { data:=#[45] }] w fun e w'=>e=.returned (.string s1)∧w=w')
  (D1:∀w,Calls Tryz.prog 112 #[.string s1] w fun e w'=>e=.returned (.int .i64 n)∧w=w')
  (c2:∀w,(Instr.slice 9 (.string s1) (some (.int .i64 n)) none none).run Tryz.prog w=.ok (.string s2) w)
  (DOT:∀w,Calls Tryz.prog 118 #[.string s2,.string { data:=#[46] }] w fun e w'=>e=.returned (.bool false)∧w=w')
  (_hns:n≤s1.size) (hv:wM s2 n v) :
  Calls Tryz.prog 65 #[.string s] w fun e w'=>e=.returned (.bool v)∧w=w':=by
 have HTR:=hid TR;have HD1:=hid D1;have HDOT:=hid DOT;clear TR D1 DOT;cases hv
 case' zero h=>have h':(((n:Int))==0)=true:=by simp;omega
 case' done h h1=>have e1:=jD s2 h1;clear h1
 case' other h h1 h2 h3=>have e1:=dG s2 h1
 case' small h h1 h2 s4 z4 c4 hv=>have e1:=dG s2 h1
 case' large h h1 h2 h3 s4 z4 c4 hv=>have e1:=dG s2 h1
 all_goals try have h':(((n:Int))==0)=false:=by simp;omega
 all_goals try clear h
 all_goals try rcases hv with h4|⟨h4,g1,g2,d,hd⟩|⟨h4,g1,s5,h5,c5,g0⟩|⟨h4,g1,s5,h5,c5,g0,d,hd⟩|⟨h4,g1,g2,s5,h5,c5,g0⟩|⟨h4,g1,g2,s5,h5,c5,g0,d,hd⟩
 all_goals try have e2:=dG s4 h4
 all_goals try have e2:=jD s4 h4
 all_goals try have e3:=dG s5 g0
 all_goals try have e3:=jD s5 g0
 all_goals try have HD3:=hid (fun w=>jI s4 d w (by unfold maxLen;omega) hd)
 all_goals try have HD3:=hid (fun w=>jI s5 d w (by unfold maxLen;omega) hd)
 all_goals try clear hd
 all_goals
  go_enter Tryz.func65,Tryz.ntmps65
  go_wp2_with (first
   | (go_at_call 117;refine(HTR.out _).mono ?_;rintro e w' ⟨rfl,rfl⟩)
   | (go_at_call 118;refine(HDOT.out _).mono ?_;rintro e w' ⟨rfl,rfl⟩)
   | (go_at_call 112;((with_reducible refine(HD1.out _).mono ?_);rintro e w' ⟨rfl,rfl⟩))
   | (go_at_call 112;((with_reducible refine(HD3.out _).mono ?_);rintro e w' ⟨rfl,rfl⟩)))
  go_ret;exact⟨rfl,rfl⟩
theorem aFR (s s1 s2 s2' s3:ByteArray)(n k:Nat)(v:Bool)(w:World)(h40:s.size≤40)(hz1:s1.size≤40)(_hz2:s2.size≤s1.size)(hz3:s3.size≤s1.size)
  (TR:∀w,Calls Tryz.prog 117 #[.string s,.string { data:=#[45] }] w fun e w'=>e=.returned (.string s1)∧w=w')
  (D1:∀w,Calls Tryz.prog 112 #[.string s1] w fun e w'=>e=.returned (.int .i64 n)∧w=w')
  (c2:∀w,(Instr.slice 9 (.string s1) (some (.int .i64 n)) none none).run Tryz.prog w=.ok (.string s2) w)
  (DOT:∀w,Calls Tryz.prog 118 #[.string s2,.string { data:=#[46] }] w fun e w'=>e=.returned (.bool true)∧w=w')
  (c2':∀w,(Instr.slice 9 (.string s2) (some (.int .i64 1)) none none).run Tryz.prog w=.ok (.string s2') w)
  (D2:∀w,Calls Tryz.prog 112 #[.string s2'] w fun e w'=>e=.returned (.int .i64 k)∧w=w')
  (hk0:((k:Int)==0)=false)
  (c3:∀w,(Instr.slice 9 (.string s2) (some (.int .i64 (1+(k:Int)))) none none).run Tryz.prog w=.ok (.string s3) w)
  (_hns:n≤s1.size) (hks:n+k≤s1.size) (hv:wM s3 (n+k) v) :
  Calls Tryz.prog 65 #[.string s] w fun e w'=>e=.returned (.bool v)∧w=w':=by
 have HTR:=hid TR;have HD1:=hid D1;have HD2:=hid D2;have HDOT:=hid DOT;clear TR D1 DOT D2;cases hv
 case' zero h=>have h':(((n:Int)+(k:Int))==0)=true:=by simp;omega
 case' done h h1=>have e1:=jD s3 h1;clear h1
 case' other h h1 h2 h3=>have e1:=dG s3 h1
 case' small h h1 h2 s4 z4 c4 hv=>have e1:=dG s3 h1
 case' large h h1 h2 h3 s4 z4 c4 hv=>have e1:=dG s3 h1
 all_goals try have h':(((n:Int)+(k:Int))==0)=false:=by simp;omega
 all_goals try clear h
 all_goals try rcases hv with h4|⟨h4,g1,g2,d,hd⟩|⟨h4,g1,s5,h5,c5,g0⟩|⟨h4,g1,s5,h5,c5,g0,d,hd⟩|⟨h4,g1,g2,s5,h5,c5,g0⟩|⟨h4,g1,g2,s5,h5,c5,g0,d,hd⟩
 all_goals try have e2:=dG s4 h4
 all_goals try have e2:=jD s4 h4
 all_goals try have e3:=dG s5 g0
 all_goals try have e3:=jD s5 g0
 all_goals try have HD3:=hid (fun w=>jI s4 d w (by unfold maxLen;omega) hd)
 all_goals try have HD3:=hid (fun w=>jI s5 d w (by unfold maxLen;omega) hd)
 all_goals try clear hd
 all_goals
  go_enter Tryz.func65,Tryz.ntmps65
  go_wp2_with (first
   | (go_at_call 117;refine(HTR.out _).mono ?_;rintro e w' ⟨rfl,rfl⟩)
   | (go_at_call 118;refine(HDOT.out _).mono ?_;rintro e w' ⟨rfl,rfl⟩)
   | (go_at_call 112;((with_reducible refine(HD1.out _).mono ?_);rintro e w' ⟨rfl,rfl⟩))
   | (go_at_call 112;((with_reducible refine(HD2.out _).mono ?_);rintro e w' ⟨rfl,rfl⟩))
   | (go_at_call 112;((with_reducible refine(HD3.out _).mono ?_);rintro e w' ⟨rfl,rfl⟩)))
  go_ret;exact⟨rfl,rfl⟩
theorem aDr (s s1 s2 s2':ByteArray)(n:Nat)(w:World)(h40:s.size≤40)(_hz1:s1.size≤40)
  (TR:∀w,Calls Tryz.prog 117 #[.string s,.string { data:=#[45] }] w fun e w'=>e=.returned (.string s1)∧w=w')
  (D1:∀w,Calls Tryz.prog 112 #[.string s1] w fun e w'=>e=.returned (.int .i64 n)∧w=w')
  (c2:∀w,(Instr.slice 9 (.string s1) (some (.int .i64 n)) none none).run Tryz.prog w=.ok (.string s2) w)
  (DOT:∀w,Calls Tryz.prog 118 #[.string s2,.string { data:=#[46] }] w fun e w'=>e=.returned (.bool true)∧w=w')
  (c2':∀w,(Instr.slice 9 (.string s2) (some (.int .i64 1)) none none).run Tryz.prog w=.ok (.string s2') w)
  (D2:∀w,Calls Tryz.prog 112 #[.string s2'] w fun e w'=>e=.returned (.int .i64 (0:Nat))∧w=w') :
  Calls Tryz.prog 65 #[.string s] w fun e w'=>e=.returned (.bool false)∧w=w':=by
 have HTR:=hid TR;have HD1:=hid D1;have HD2:=hid D2;have HDOT:=hid DOT;clear TR D1 DOT D2;go_enter Tryz.func65,Tryz.ntmps65
 go_wp2_with (first
  | (go_at_call 117;refine(HTR.out _).mono ?_;rintro e w' ⟨rfl,rfl⟩)
  | (go_at_call 118;refine(HDOT.out _).mono ?_;rintro e w' ⟨rfl,rfl⟩)
  | (go_at_call 112;((with_reducible refine(HD1.out _).mono ?_);rintro e w' ⟨rfl,rfl⟩))
  | (go_at_call 112;((with_reducible refine(HD2.out _).mono ?_);rintro e w' ⟨rfl,rfl⟩)))
 go_ret;exact⟨rfl,rfl⟩
theorem pC (s:ByteArray)(w:World)(hs:s.size≤maxLen) :
  Calls Tryz.prog 65 #[.string s] w fun e w'=>e=.returned (.bool (bX s.data.toList))∧w=w':=by
 by_cases h40:40<s.size
 ·exact aEI s w hs h40
 ·obtain⟨s1,hs1⟩:∃s1:ByteArray,s1.data.toList=if s.data.toList.head?=some 45 then s.data.toList.drop 1 else s.data.toList:=⟨⟨(if s.data.toList.head?=some 45 then s.data.toList.drop 1 else s.data.toList).toArray⟩,rfl⟩
  have hz1:s1.size≤40:=by
   rw[aS,hs1];rw[aS]at h40
   split
   ·rw[List.length_drop];omega
   ·omega
  have hv:bX s.data.toList=rO s1.data.toList:=by
   unfold bX;rw[if_neg (by rw[←aS];omega),hs1]
  rw[hv];have TR:=fun w=>aOV s s1 w hs1
  obtain⟨n,hn⟩:∃n,n=digs s1.data.toList:=⟨_,rfl⟩
  have hns:n≤s1.size:=by rw[hn,aS];exact jC _
  have D1:=fun w=>jI s1 n w (by unfold maxLen;omega) hn.symm
  obtain⟨s2,h2,hz2,c2⟩:=fR s1 n hns;by_cases hd:s2.data.toList.head?=some 46
  ·obtain⟨l2,_⟩:=xE s2 46 hd;have DOT:=fun w=>aIO s2 true w (by simp[hd])
   obtain⟨s2',h2',hz2',c2'⟩:=fR s2 1 l2;obtain⟨k,hk⟩:∃k,k=digs s2'.data.toList:=⟨_,rfl⟩
   have hks:k≤s2'.size:=by rw[hk,aS];exact jC _
   have D2:=fun w=>jI s2' k w (by unfold maxLen;omega) hk.symm
   obtain⟨s3,h3,hz3,c3⟩:=fR s2 (1+k) (by omega);have hv:rO s1.data.toList=if k=0 then false else jS (n+k) s3.data.toList:=by
    unfold rO;rw[←hn,←h2,if_pos hd,←h2',←hk,←h3]
   rw[hv];by_cases hk0:k=0
   ·rw[if_pos hk0];rw[hk0]at D2
    exact aDr s s1 s2 s2' n w (by omega) hz1 TR D1 c2 DOT c2' D2
   ·rw[if_neg hk0];have e:((1+k:Nat):Int)=1+(k:Int):=by omega
    rw[e]at c3
    exact aFR s s1 s2 s2' s3 n k _ w (by omega) hz1 (by omega) (by omega) TR D1 c2 DOT c2' D2 (by simp;omega) c3 hns (by omega) (aBy s3 (n+k) (by omega) (by omega))
  ·have DOT:=fun w=>aIO s2 false w (by simp[hd])
   have hv:rO s1.data.toList=jS n s2.data.toList:=by
    unfold rO;rw[←hn,←h2,if_neg hd]
   rw[hv];exact aEH s s1 s2 n _ w (by omega) hz1 (by omega) TR D1 c2 DOT hns (aBy s2 n (by omega) (by omega))
open Go.RowKit
def aH (i:Nat):Nat:=(Pinned.pow10Rows.getD i (0,0)).1
def aR (i:Nat):Nat:=(Pinned.pow10Rows.getD i (0,0)).2
def gB:List Nat:=[4607182418800017408,4621819117588971520,4636737291354636288,4652007308841189376,4666723172467343360,4681608360884174848,4696837146684686336,4711630319722168320,4726483295884279808,4741671816366391296,4756540486875873280,4771362005757984768,4786511204640096256,4801453603149578240,4816244402031689728,4831355200913801216,4846369599423283200,4861130398305394688,4876203697187506176,4891288408196988160,4906019910204099648,4921056587992461136,4936209963552724370]
def aBE:List Int:=[1,3,6,9,13,16,19,23,26]
structure aA (w:World):Prop where
 opt:w.cell? ⟨7,0,none⟩=some (.bool true)
 most:∃m,w.cell? ⟨1,0,none⟩=some (.int .i64 m)
 syn:∃t v,w.cell? ⟨2,0,none⟩=some (.iface t v)
 rng:∃t v,w.cell? ⟨3,0,none⟩=some (.iface t v)
 info0:w.cell? ⟨8,0,none⟩=some (.int .u64 52)
 info1:w.cell? ⟨8,1,none⟩=some (.int .u64 11)
 info2:w.cell? ⟨8,2,none⟩=some (.int .i64 (-1023))
 f10:∃b o,w.cell? ⟨12,0,none⟩=some (.slice (some ⟨b,o,none⟩) 23 23)∧∀i,i<23→w.cell? ⟨b,o+i,none⟩=some (.float .f64 (gB.getD i 0))
 p2:∃b o,w.cell? ⟨11,0,none⟩=some (.slice (some ⟨b,o,none⟩) 9 9)∧∀i,i<9→w.cell? ⟨b,o+i,none⟩=some (.int .i64 (aBE.getD i 0))
 p10:∀i,i<696→w.cell? ⟨13,2*i,none⟩=some (.int .u64 (aH i))∧w.cell? ⟨13,2*i+1,none⟩=some (.int .u64 (aR i))
 cheats:∃b o,w.cell? ⟨14,0,none⟩=some (.slice (some ⟨b,o,none⟩) 61 61)∧∀i,i<61→w.cell? ⟨b,o+2*i,none⟩=some (.int .i64 (Pinned.cheatRows.getD i (0,[])).1)∧w.cell? ⟨b,o+(2*i+1),none⟩=some (.string ⟨(Pinned.cheatRows.getD i (0,[])).2.toArray⟩)
 u10:Lib.TabIs Tryz.prog w "internal/strconv.uint64pow10" .u64 Lib.pow10Tab
 u8:Lib.Utf8Tabs 4 5 w
theorem aA.keep {w w':World}(h:aA w)(hc:∀a v,w.cell? a=some v→w'.cell? a=some v)(h8:Lib.Utf8Tabs 4 5 w')(hv:∀cs,w.var? Tryz.prog "internal/strconv.uint64pow10" = some cs→w'.var? Tryz.prog "internal/strconv.uint64pow10" = some cs):aA w':=by
 obtain⟨m,hm⟩:=h.most;obtain⟨t1,v1,h1⟩:=h.syn;obtain⟨t2,v2,h2⟩:=h.rng;obtain⟨b,o,h3,h3'⟩:=h.f10;obtain⟨b4,o4,h4,h4'⟩:=h.p2;obtain⟨b5,o5,h5,h5'⟩:=h.cheats;exact⟨hc _ _ h.opt,⟨m,hc _ _ hm⟩,⟨t1,v1,hc _ _ h1⟩,⟨t2,v2,hc _ _ h2⟩,hc _ _ h.info0,hc _ _ h.info1,hc _ _ h.info2,
  ⟨b,o,hc _ _ h3,fun i hi=>hc _ _ (h3' i hi)⟩,⟨b4,o4,hc _ _ h4,fun i hi=>hc _ _ (h4' i hi)⟩,fun i hi=>⟨hc _ _ (h.p10 i hi).1,hc _ _ (h.p10 i hi).2⟩,
  ⟨b5,o5,hc _ _ h5,fun i hi=>⟨hc _ _ (h5' i hi).1,hc _ _ (h5' i hi).2⟩⟩,hv _ h.u10,h8⟩
theorem aHo:Tryz.prog.globalNamed "internal/strconv.uint64pow10" = some 9:=by kernel_rfl
theorem aA.below {B:Nat}{w w':World}(h:aA w)(hb:Below B w w')(hB:w.heap.size≤B):aA w':=by
 have hc:∀a v,w.cell? a=some v→w'.cell? a=some v:=fun a v hv=>by
  have:=World.block_lt_of_cell? w _ hv;rw[hb.cell (by omega),hv]
 refine h.keep hc (Utf8Tabs_below h.u8 ⟨hb.os,hb.tape,hb.output,hb.size,fun k hk=>hb.block k (Nat.lt_of_lt_of_le hk hB)⟩) ?_;intro cs hv;have h7:9<w.heap.size:=by
  obtain⟨b,o,h5,_⟩:=h.cheats;have:=World.block_lt_of_cell? w _ h5;simp at this;omega
 unfold World.var? at hv ⊢;simp only[aHo,Option.bind_some]at hv ⊢;rw[hb.block 9 (by omega)];exact hv
theorem aA.drewN {w:World}(h:aA w)(n:Nat):aA (w.drewN n):=h.below (B:=w.heap.size) ⟨rfl,rfl,rfl,Nat.le_refl _,fun _ _=>rfl⟩ zK
theorem aA.size {w:World}(h:aA w):15≤w.heap.size:=by
 obtain⟨b,o,h5,_⟩:=h.cheats;have:=World.block_lt_of_cell? w _ h5;simp at this;omega
open Go.RowKit
theorem qI (s:ByteArray)(w:World):∃cap W,(convert 9 35 (.string s)).run Tryz.prog w=.ok (.slice (some ⟨w.heap.size,0,none⟩) s.size cap) W∧Below w.heap.size w W∧bP W w.heap.size 0 s.data.toList∧s.size≤cap∧w.heap.size<W.heap.size:=by
 refine⟨_,_,Lib.run_convert_string_bytes w 9 35 5 s Tryz.underlying9 Tryz.underlying35 Tryz.underlying5,?_,?_,grownCap_ge w s.size 0 5,?_⟩
 ·refine⟨?_,?_,?_,by rw[Lib.bytesWorld_size];omega,fun k hk=>Lib.bytesWorld_at_old w 5 s k hk⟩;all_goals
   unfold Lib.bytesWorld World.freeze;split<;>rfl
 ·intro j hj;have hj':j<s.size:=hj;rw[Nat.zero_add,Lib.bytesWorld_cell w 5 s j hj'];simp[List.getD_eq_getElem?_getD,List.getElem?_eq_getElem hj]
 ·rw[Lib.bytesWorld_size];omega
theorem aOo {a b:Int}(h:a=b):Ending.returned (.int .i32 a)=.returned (.int .i32 b):=by rw[h]
theorem aKu (x:Nat)(w:World)(_hx:x≤1114111)(v:Int)(hv:Hid (kL x=v)):Calls Tryz.prog 76 #[.int .i32 x] w fun e w'=>e=.returned (.int .i32 v)∧w=w':=by
 go_enter Tryz.func76,Tryz.ntmps76
 go_wp2
 all_goals
  go_ret;refine⟨?_,rfl⟩;apply aOo;rw[←hv.out];unfold kL;first
   | (rw[if_pos (by omega)];done)
   | (rw[if_neg (by omega)];done)
   | (rw[if_neg (by omega)];omega)
theorem aF7 (w:World):MapGrows Tryz.prog 76 #[] kL w:=by
 intro W x hx _;have:=aKu x W hx _ (hid rfl);exact this.mono fun e w' ⟨he,hw⟩=>⟨he,hw▸Below.refl _ _⟩
theorem wA (s:ByteArray)(hs:s.size≤1000000000)(w:World)(T:aA w):Calls Tryz.prog 32 #[.string s] w fun e w'=>e=.returned (.string ⟨(cT s.data.toList).toArray⟩)∧Below w.heap.size w w':=by
 have HT:=hid T;clear T;obtain⟨cap,W,hrun,hb,hby,hcap,hsz⟩:=qI s w;have HB:=hid hb;have HY:Hid (bP W w.heap.size 0 s.data.toList):=hby;have HC:=hid (show s.data.toList.length≤cap from hcap);have HS:=hid (show w.heap.size<W.heap.size from hsz);clear hb hby hcap hsz;go_enter Tryz.func32,Tryz.ntmps32
 go_wp2_with fail
 refine(aHd w.heap.size 0 cap s.data.toList (show s.size≤1000000000 from hs) HC.out W HY HS.out).mono ?_;rintro e W2 ⟨rfl,B2⟩;have HB2:=hid (HB.out.trans (B2.mono HB.out.size));have HT2:=hid (HT.out.below HB2.out zK);clear B2;have hlen:((⟨(lV s.data.toList).toArray⟩:ByteArray)).size<35184372088832:=by
  have h1:=aCd s.data.toList.length s.data.toList zK;have h2:s.data.toList.length=s.size:=rfl;have h3:((⟨(lV s.data.toList).toArray⟩:ByteArray)).size=(lV s.data.toList).length:=rfl;omega
 have HL:=hid hlen;clear hlen;go_wp2_with fail
 refine(Tryz.strings_Map_grows 76 #[] (fun _ _=>by kernel_rfl) kL _ W2 HL.out (aF7 W2) aF8 HT2.out.u8).mono ?_;rintro e W3 ⟨rfl,B3⟩;have HB3:=hid (HB2.out.trans (B3.mono HB2.out.size));clear B3;go_wp2
 go_ret;refine⟨?_,HB3.out⟩;have:Lib.mapD kL (⟨(lV s.data.toList).toArray⟩:ByteArray).data.toList=cT s.data.toList:=aNX s.data.toList;rw[←this];rfl
open Go.RowKit
theorem rW:∀(l:List UInt8) (k:Nat) (h:k<l.length),k<digs l→aE l[k]=true
 | [],k,h,_=>by simp at h
 | c :: l,k,h,hk=>by
  unfold digs at hk;rw[List.takeWhile_cons]at hk
  by_cases hc:aE c=true
  ·rw[if_pos hc]at hk
   cases k with
   | zero=>exact hc
   | succ k=>exact rW l k (by simpa using h) (by unfold digs;simpa using hk)
  ·rw[if_neg hc]at hk;simp at hk
theorem aCL:∀(l:List UInt8) (h:digs l<l.length),aE l[digs l]=false
 | [],h=>by simp at h
 | c :: l,h=>by
  by_cases hc:aE c=true
  ·have e:digs (c :: l)=digs l+1:=by unfold digs;rw[List.takeWhile_cons,if_pos hc];rfl
   have:=aCL l (by rw[e]at h;simpa using h);simp only[e,List.getElem_cons_succ];exact this
  ·have e:digs (c :: l)=0:=by unfold digs;rw[List.takeWhile_cons,if_neg hc];rfl
   simp only[e,List.getElem_cons_zero];simpa using hc
theorem qJ (c:UInt8)(h:aE c=true):48≤c.toNat∧c.toNat≤57:=by simpa [aE]using h
theorem yW (l:List UInt8):∀k,k≤digs l→∃m,Lib.decFrom 0 (l.take k)=some m∧m<10^k
 | 0,_=>⟨0,by simp[Lib.decFrom],by decide⟩
 | k+1,hk=>by
  obtain⟨m,h1,h2⟩:=yW l k (by omega);have hl:k<l.length:=by have:=jC l;omega
  have hd:=qJ _ (rW l k hl (by omega));refine⟨m*10+(l[k].toNat-48),Lib.decFrom_take l k 0 m l[k] _ h1 (List.getElem?_eq_getElem hl) (by unfold Lib.digitVal;rw[if_pos hd]),?_⟩;rw[Nat.pow_succ];omega
theorem aKI (s:ByteArray)(j m:Nat)(hj:j<s.size)(hd:j<digs s.data.toList)(h:Lib.decFrom 0 (s.data.toList.take j)=some m) :
  Lib.decFrom 0 (s.data.toList.take (j+1))=some (10*m+(s[j].toNat-48)):=by
 have hl:j<s.data.toList.length:=by simpa using hj
 have:=Lib.decFrom_take s.data.toList j 0 m s[j] (s[j].toNat-48) h (List.getElem?_eq_getElem hl) (by unfold Lib.digitVal;exact if_pos (qJ _ (rW _ j hl hd)));rw[this,Nat.mul_comm]
theorem aIg (s:ByteArray)(j m:Nat)(hj:j≤digs s.data.toList)(h9:j≤8)(h:Lib.decFrom 0 (s.data.toList.take j)=some m):m≤99999999:=by
 obtain⟨m',h1,h2⟩:=yW s.data.toList j hj;rw[h]at h1
 cases h1;have:10^j≤10^8:=Nat.pow_le_pow_right (by omega) h9;omega
def rI (v lo hi:Int):Value:=if v<lo∨hi<v then .tuple #[.int .i64 0,.bool false]else .tuple #[.int .i64 v,.bool true]
theorem xY (s:ByteArray)(lo hi:Int)(w:World)(h:s.size=0∨9<s.size) :
  Calls Tryz.prog 94 #[.string s,.int .i64 lo,.int .i64 hi] w fun e w'=>e=.returned (.tuple #[.int .i64 0,.bool false])∧w=w':=by
 go_enter Tryz.func94,Tryz.ntmps94
 rcases h with h|h
 ·as_aux_lemma =>
   go_wp2
   go_ret2;exact⟨rfl,rfl⟩
 ·have h':¬s.size=0:=by omega
  as_aux_lemma =>
   go_wp2
   go_ret2;exact⟨rfl,rfl⟩
theorem aBH (s:ByteArray)(lo hi:Int)(w:World)(h1:1<s.size)(h9:s.size≤9)(h0:s[0].toNat=48) :
  Calls Tryz.prog 94 #[.string s,.int .i64 lo,.int .i64 hi] w fun e w'=>e=.returned (.tuple #[.int .i64 0,.bool false])∧w=w':=by
 have h':¬s.size=0:=by omega
 have e0:((s[0].toNat:Int)==48)=true:=by simp[h0]
 go_enter Tryz.func94,Tryz.ntmps94
 go_wp2
 go_ret2;exact⟨rfl,rfl⟩
def AtW (s:ByteArray)(a b:Value)(j m:Nat):Prop :=
 a=.int .i64 (m:Nat)∧b=.int .i64 (j:Nat)∧j≤digs s.data.toList∧Lib.decFrom 0 (s.data.toList.take j)=some m
theorem aBG (s:ByteArray)(lo hi:Int)(w:World)(h1:1≤s.size)(h9:s.size≤9)(h0:s.size=1∨∃h:0<s.size,((s[0].toNat:Int)==48)=false) :
  Calls Tryz.prog 94 #[.string s,.int .i64 lo,.int .i64 hi] w fun e w'=>e=.returned (if digs s.data.toList=s.size then rI (Lib.decFrom 0 s.data.toList).get! lo hi else .tuple #[.int .i64 0,.bool false])∧w=w':=by
 have h':¬s.size=0:=by omega
 have i1:((s.size:Int)==0)=false:=beq_eq_false_iff_ne.2 (by omega);have i2:decide (9<(s.size:Int))=false:=decide_eq_false (by omega);have hle:digs s.data.toList≤s.size:=by have:=jC s.data.toList;simpa using this
 have HLE:=hid hle;clear hle;obtain⟨V,hV⟩:∃V,V=(if digs s.data.toList=s.size then rI (Lib.decFrom 0 s.data.toList).get! lo hi else .tuple #[.int .i64 0,.bool false]):=⟨_,rfl⟩
 rw[←hV];have HVV:=hid hV;clear hV;have H0:=hid h0;clear h0;go_enter Tryz.func94,Tryz.ntmps94
 go_upto_region 2 with fail
 go_cut [27] (fun t wx=>t=.bool false∧wx=w)
 case first =>
  rcases H0.out with h|⟨h,e⟩
  ·have i3:decide (1<(s.size:Int))=false:=decide_eq_false (by omega);as_aux_lemma =>
    go_wp2_with fail
    all_goals go_meet
    all_goals exact⟨rfl,rfl⟩
  ·as_aux_lemma =>
    go_wp2_with fail
    all_goals go_meet
    all_goals exact⟨rfl,rfl⟩
 case rest =>
  obtain⟨rfl,rfl⟩:=hcut;go_wp2_with fail
  go_loopg [8,9] (s.size) (fun g a b wx=>∃j m,AtW s a b j m∧g=s.size-j∧wx=wc)
  case atStart=>exact⟨0,0,⟨rfl,rfl,Nat.zero_le _,by simp[Lib.decFrom]⟩,by omega,rfl⟩
  case round =>
   obtain⟨j,m,⟨rfl,rfl,hj,hm⟩,hg,rfl⟩:=hrel;have hj9:j≤s.size:=by have:=HLE.out;omega
   have HM:=hid hm;have HG:=hid hg;clear hm hg;by_cases hjs:j<s.size
   ·by_cases hjd:j<digs s.data.toList
    ·obtain⟨d1,d2⟩:=qJ s[j] (rW s.data.toList j (by simpa using hjs) hjd);have hm8:=aIg s j m hj (by omega) HM.out;have hs2:=aKI s j m hjs hjd HM.out;have HS2:=hid hs2;have HJD:=hid hjd;clear hs2 hj hjd;as_aux_lemma =>
      go_wp2_with fail
      go_roundg (s.size-(j+1))
      case measure=>have:=HG.out;omega
      case rel=>exact⟨j+1,_,⟨by rw[Int.natCast_add,Int.natCast_mul,Int.ofNat_sub d1];rfl,by go_num,by have:=HJD.out;omega,HS2.out⟩,rfl,rfl⟩
    ·have ej:digs s.data.toList=j:=by omega
     have hnd:=aCL s.data.toList (by rw[ej];simpa using hjs);have ne:¬digs s.data.toList=s.size:=by omega
     simp only[ej]at hnd;have hnd':aE s[j]=false:=hnd;have hlt:s[j].toNat<256:=s[j].toNat_lt;have hb:s[j].toNat<48∨57<s[j].toNat:=by
      unfold aE at hnd';simp at hnd';omega
     have NE:=hid ne;clear ej hnd hnd' ne hj;rcases hb with hb|hb
     ·as_aux_lemma =>
       go_wp2_with fail
       go_ret2;exact⟨by rw[HVV.out,if_neg NE.out];rfl,rfl⟩
     ·as_aux_lemma =>
       go_wp2_with fail
       go_ret2;exact⟨by rw[HVV.out,if_neg NE.out];rfl,rfl⟩
   ·have ej:digs s.data.toList=s.size:=by have:=HLE.out;omega
    have e:j=s.size:=by omega
    subst e;have hv:Lib.decFrom 0 s.data.toList=some m:=by
     have:=HM.out;rwa[List.take_of_length_le (by simp)]at this
    have EJ:=hid ej;have HV:=hid hv;clear ej hv hj hjs;by_cases c1:(m:Int)<lo
    ·as_aux_lemma =>
      go_wp2_with fail
      all_goals go_ret2
      all_goals exact⟨by rw[HVV.out,if_pos EJ.out,HV.out];unfold rI;rw[if_pos (.inl c1)];rfl,rfl⟩
    ·by_cases c2:hi<(m:Int)
     ·as_aux_lemma =>
       go_wp2_with fail
       all_goals go_ret2
       all_goals exact⟨by rw[HVV.out,if_pos EJ.out,HV.out];unfold rI;rw[if_pos (.inr c2)];rfl,rfl⟩
     ·as_aux_lemma =>
       go_wp2_with fail
       all_goals go_ret2
       all_goals exact⟨by rw[HVV.out,if_pos EJ.out,HV.out];unfold rI;rw[if_neg (by simp[c1,c2])];rfl,rfl⟩
open Go.RowKit PU8
structure mA (rs:List Nat) (k:Nat) (ks:List Nat):Prop where
 le:k≤rs.length
 len:ks.length≤k
 out:ks=(rs.take k).filter fO
theorem mA.start (rs:List Nat):mA rs 0 []:=⟨Nat.zero_le _,Nat.le_refl _,rfl⟩
theorem mA.yes {rs:List Nat}{k:Nat}{ks:List Nat}(h:mA rs k ks)(hk:k<rs.length)(hr:fO rs[k]=true):mA rs (k+1) (ks++[rs[k]]):=by
 refine⟨hk,?_,?_⟩
 ·have:=h.len;simp;omega
 ·rw[List.take_succ_eq_append_getElem hk,List.filter_append,←h.out];simp[hr]
theorem mA.no {rs:List Nat}{k:Nat}{ks:List Nat}(h:mA rs k ks)(hk:k<rs.length)(hr:fO rs[k]=false):mA rs (k+1) ks:=by
 refine⟨hk,?_,?_⟩
 ·have:=h.len;omega
 ·rw[List.take_succ_eq_append_getElem hk,List.filter_append,←h.out];simp[hr]
theorem aKd (L:List UInt8):(fJ L).length≤L.length:=by
 have h:∀(n:Nat) (l:List UInt8),l.length≤n→(fJ l).length≤l.length:=by
  intro n;induction n with
  | zero=>intro l hl;rw[List.eq_nil_of_length_eq_zero (by omega:l.length=0)];exact Nat.le_refl _
  | succ n ih =>
   intro l hl;by_cases hne:l=[]
   ·subst hne;exact Nat.le_refl _
   ·rw[qQ l hne,List.length_cons];have h1:=pU l hne;have h2:=ih (l.drop (pieceU (aO l)).1) (by rw[List.length_drop];omega);rw[List.length_drop]at h2
    have:1≤l.length:=by rcases l with _|⟨_,_⟩;exact absurd rfl hne;simp
    omega
 exact h L.length L zK
theorem yB (s:ByteArray)(hs:s.size≤1000000000)(w:World):Calls Tryz.prog 33 #[.string s] w fun e w'=>e=.returned (.string ⟨(cT s.data.toList).toArray⟩)∧Below w.heap.size w w':=by
 obtain⟨i0,hi,hz0,hz1,hz2⟩:=info_parts Tryz.info21;obtain⟨cap,W,hrun,hb,hby,hcap,hsz⟩:=qI s w;have hsl:s.data.toList.length=s.size:=rfl;have hrl:=aKd s.data.toList;have hrv:=yD s.data.toList.length s.data.toList zK;have C:=aHP w.heap.size 0 cap s.data.toList W (hid hby) hsz (by omega);rw[hsl]at C hrl
 have hT:cT s.data.toList=((fJ s.data.toList).filter fO).flatMap cK:=rfl;unfold aCE at C;rw[hT];generalize fJ s.data.toList=rs at C hrl hrv;have HB:=hid hb;have HC:=hid C;have HV:=hid hrv;clear hb hby hcap hsz C hrv hsl hT;go_enter Tryz.func33,Tryz.ntmps33
 go_wp2_with fail
 refine HC.out.mono ?_;rintro e W1 ⟨v,rfl,hO1⟩;have HB1:=hid (HB.out.trans (hO1.bel.mono HB.out.size));have HV1:=hid hO1.vec;clear hO1;obtain⟨a,c,rfl,_⟩:=HV1.out;go_wp2
 go_loopw [4,5] (fun o i wx=>∃(k:Nat) (ks:List Nat),i=.int .i64 k∧Hid (mA rs k ks)∧Hid (aT W1.heap.size 21 1 o ks.length (ks.map oG) W1 wx)) (fun _ i _=>rs.length-(intOf i).toNat)
 case atStart=>exact⟨0,[],rfl,hid (mA.start rs),hid (aT.nil W1 21 1)⟩
 case round =>
  obtain⟨k,ks,rfl,hK,hO⟩:=hrel;have hk:=hK.out.le;have hkl:=hK.out.len;rcases Nat.lt_or_ge k rs.length with hlt|hge
  ·obtain⟨g,off,c',hva,hcell⟩:=(HV1.out.below hO.out.bel zK).get k (by simpa using hlt);simp only[Value.slice.injEq,true_and]at hva;obtain⟨rfl,rfl⟩:=hva;rw[List.getElem_map]at hcell
   have hle:=(HV.out rs[k] (List.getElem_mem hlt)).2;have HY:=hid (hK.out.yes hlt);have HN:=hid (hK.out.no hlt);generalize rs[k]=r at *
   unfold oG at hcell;have hcases:r<9∨r=9∨r=10∨(10<r∧r<32)∨(32≤r∧r<127)∨(127≤r∧r≤159)∨159<r:=by omega
   rcases hcases with h|rfl|rfl|⟨h,h2⟩|⟨h,h2⟩|⟨h,h2⟩|h
   ·have HF:=hid (HN.out (by unfold fO;simp;omega));have t1:((r:Int)==9)=false:=by rw[beq_eq_false_iff_ne];omega
    have t2:((r:Int)==10)=false:=by rw[beq_eq_false_iff_ne];omega
    go_wp2
    go_roundw
    case rel=>exact⟨k+1,ks,by go_num,HF,hO⟩
    case measure=>simp[intOf];omega
   ·have HF:=hid (HY.out rfl);go_wp2_with (at_builtin;refine bY (by rfl) _ _ 85 (by rfl) 21 i0 (.int .i32 0) 1 4 Tryz.underlying85 hi hz0 hz1 hz2 rfl (by decide) _ _ _ rfl hO.out #[.int .i32 (9:Nat)] rfl rfl rfl rfl (by omega) (by omega) ?_)
    intro v' w' hO' _;go_wp2
    go_roundw
    case rel=>exact⟨k+1,ks++[9],by go_num,HF,hid (hO'.out.cast (by simp) (by simp[oG]))⟩
    case measure=>simp[intOf];omega
   ·have HF:=hid (HY.out rfl);go_wp2_with (at_builtin;refine bY (by rfl) _ _ 85 (by rfl) 21 i0 (.int .i32 0) 1 4 Tryz.underlying85 hi hz0 hz1 hz2 rfl (by decide) _ _ _ rfl hO.out #[.int .i32 (10:Nat)] rfl rfl rfl rfl (by omega) (by omega) ?_)
    intro v' w' hO' _;go_wp2
    go_roundw
    case rel=>exact⟨k+1,ks++[10],by go_num,HF,hid (hO'.out.cast (by simp) (by simp[oG]))⟩
    case measure=>simp[intOf];omega
   ·have HF:=hid (HN.out (by unfold fO;simp;omega));have t1:((r:Int)==9)=false:=by rw[beq_eq_false_iff_ne];omega
    have t2:((r:Int)==10)=false:=by rw[beq_eq_false_iff_ne];omega
    go_wp2
    go_roundw
    case rel=>exact⟨k+1,ks,by go_num,HF,hO⟩
    case measure=>simp[intOf];omega
   ·have HF:=hid (HY.out (by unfold fO;simp;omega));have t1:((r:Int)==9)=false:=by rw[beq_eq_false_iff_ne];omega
    have t2:((r:Int)==10)=false:=by rw[beq_eq_false_iff_ne];omega
    go_wp2_with (at_builtin;refine bY (by rfl) _ _ 85 (by rfl) 21 i0 (.int .i32 0) 1 4 Tryz.underlying85 hi hz0 hz1 hz2 rfl (by decide) _ _ _ rfl hO.out #[.int .i32 r] rfl rfl rfl rfl (by omega) (by omega) ?_)
    intro v' w' hO' _;go_wp2
    go_roundw
    case rel=>exact⟨k+1,ks++[r],by go_num,HF,hid (hO'.out.cast (by simp) (by simp[oG]))⟩
    case measure=>simp[intOf];omega
   ·have HF:=hid (HN.out (by unfold fO;simp;omega));have t1:((r:Int)==9)=false:=by rw[beq_eq_false_iff_ne];omega
    have t2:((r:Int)==10)=false:=by rw[beq_eq_false_iff_ne];omega
    go_wp2
    go_roundw
    case rel=>exact⟨k+1,ks,by go_num,HF,hO⟩
    case measure=>simp[intOf];omega
   ·have HF:=hid (HY.out (by unfold fO;simp;omega));have t1:((r:Int)==9)=false:=by rw[beq_eq_false_iff_ne];omega
    have t2:((r:Int)==10)=false:=by rw[beq_eq_false_iff_ne];omega
    go_wp2_with (at_builtin;refine bY (by rfl) _ _ 85 (by rfl) 21 i0 (.int .i32 0) 1 4 Tryz.underlying85 hi hz0 hz1 hz2 rfl (by decide) _ _ _ rfl hO.out #[.int .i32 r] rfl rfl rfl rfl (by omega) (by omega) ?_)
    intro v' w' hO' _;go_wp2
    go_roundw
    case rel=>exact⟨k+1,ks++[r],by go_num,HF,hid (hO'.out.cast (by simp) (by simp[oG]))⟩
    case measure=>simp[intOf];omega
  ·have hX:ks=rs.filter fO:=by
    have:=hK.out.out;rw[show k=rs.length by omega,List.take_length]at this
    exact this
   have hkv:∀r∈ks,Val r:=fun r hr=>by rw[hX]at hr;exact HV.out r (List.mem_filter.1 hr).1
   have HX:=hid hX;have HKV:=hid hkv;have HW:=hid hO.out.vec;have HB2:=hid (HB1.out.trans (hO.out.bel.mono HB1.out.size));clear hX hkv;go_wp2_with fail
   refine(aFY ks HKV (by omega) _ wr HW).mono ?_;rintro e W2 ⟨rfl,B2⟩;have HB3:=hid (HB2.out.trans (B2.mono HB2.out.size));clear B2;go_wp2
   go_ret;refine⟨?_,HB3.out⟩;rw[HX.out];rfl
end Go.Proofs.YtcfgbdhpcboikaaGreatDoor
