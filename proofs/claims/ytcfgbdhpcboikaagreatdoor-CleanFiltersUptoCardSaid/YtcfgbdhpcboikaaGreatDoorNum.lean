/-
real.digits and real.numeral over lists of bytes: which texts are numerals.
-/
import Derived.Test.YtcfgbdhpcboikaaGreatDoorAa
import Derived.Test.YtcfgbdhpcboikaaGreatDoorChecked
import Derived.WalkLawsBesides
import Derived.WalkSpells
import Derived.Test.YtcfgbdhpcboikaaGreatDoorShelf
namespace Go.Proofs.YtcfgbdhpcboikaaGreatDoor
set_option maxHeartbeats 1500000
set_option maxRecDepth 100000
open Go.RowKit
def aE (c:UInt8):Bool:=decide (48<=c.toNat)&&decide (c.toNat<=57)
def digs (l:U):Nat:=(l.takeWhile aE).length
theorem jG (l:U):digs l<=l.length:=by
 unfold digs;induction l with|nil=>simp|cons c l ih=>{rw[k8];split<;>simp<;>omega}
theorem xZ:∀(l:U) (k:Nat) (h:k<l.length),k<=digs l->aE l[k]=true->k+1<=digs l
 | [],k,h,_,_=>by simp at h
 | c :: l,0,_,_,hd=>by
  have:aE c=true:=hd;simp[digs,this]
 | c :: l,k+1,h,hk,hd=>by
  unfold digs at hk ⊢;rw[k8]at hk ⊢
  split at hk
  ·rename_i a;rw[af a];have:=xZ l k (by simpa using h) (by simpa [digs]using hk) (by simpa using hd);simp only[bv];unfold digs at this;omega
  ·simp at hk
theorem tH:∀(l:U) (k:Nat),k<=digs l->(∀h:k<l.length,aE l[k]=false)->digs l=k
 | [],k,hk,_=>by simp[digs]at hk ⊢;omega
 | c :: l,0,_,hd=>by
  have:aE c=false:=hd (by simp);simp[digs,this]
 | c :: l,k+1,hk,hd=>by
  unfold digs at hk ⊢;rw[k8]at hk ⊢
  split at hk
  ·rename_i a;rw[af a];have:=tH l k (by simpa [digs]using hk) (fun h=>hd (by simpa using h));simp only[bv];unfold digs at this;omega
  ·simp at hk
theorem aC3 {a b:Nat}(h:b=a):Ending.returned (.int .i64 (a:Int))=.returned (.int .i64 (b:Int)):=by rw[h]
theorem vU (s:I)(k:Nat)(h:k<s.size):s.data.toList[k]'(by simpa using h)=s[k]:=rfl
theorem aHJ (s:I)(w:H)(g:s.size<=maxLen) :
  Y 112 #[.string s] w fun e w'=>e=.returned (.int .i64 (digs s.data.toList:Nat))/\w=w':=by
 unfold maxLen at g;go_enter Tryz.func112,Tryz.ntmps112
 go_wp2
 go_loop [3] (fun i=>∃k:Nat,k<=s.size/\k<=digs s.data.toList/\i=.int .i64 k) (fun i=>s.size-(intOf i).toNat)
 case atStart=>exact⟨0,bb _,bb _,rfl⟩
 case round =>
  obtain⟨k,j,f,rfl⟩:=hrel;have b:=Z f;clear f;by_cases a:k<s.size
  ·by_cases c:48<=s[k].toNat
   ·by_cases d:s[k].toNat<=57
    ·go_wp2
     go_round
     case rel=>exact⟨k+1,by omega,xZ _ k (by simpa using a) b.o (by rw[vU s k a];simp[aE,c,d]),by go_num⟩
     case measure=>simp[intOf];omega
    ·go_wp2
     go_ret;exact⟨aC3 (tH _ k b.o (fun h=>by rw[vU s k a];simp[aE,d])),rfl⟩
   ·go_wp2
    go_ret;exact⟨aC3 (tH _ k b.o (fun h=>by rw[vU s k a];simp[aE,c])),rfl⟩
  ·go_wp2
   go_ret;exact⟨aC3 (tH _ k b.o (fun h=>absurd h (by simpa using a))),rfl⟩
open Go.RowKit
theorem fT (s:I)(n:Nat)(h:n<=s.size) :
  ∃a:I,a.data.toList=s.data.toList.drop n/\a.size=s.size-n/\∀w,(Instr.slice 9 (.string s) (some (.int .i64 n)) none none).run Tryz.prog w=.ok (.string a) w:=by
 refine⟨s.extract n s.size,?_,?_,fun w=>?_⟩;{rw[sd];exact fi (by rw[bm];exact ah _)};{simp};{rw[run_slice_string_from_if (P:=Tryz.prog) w 9 s .i64 n Tryz.underlying9,af (by omega)];simp}
theorem qF (s:I)(n:Nat)(h:n<=s.size) :
  ∃a:I,a.data.toList=s.data.toList.take n/\a.size=n/\∀w,(Instr.slice 9 (.string s) none (some (.int .i64 n)) none).run Tryz.prog w=.ok (.string a) w:=by
 refine⟨s.extract 0 n,?_,?_,fun w=>?_⟩;{rw[sd];simp};{simp;omega};{rw[run_slice_string_to_if (P:=Tryz.prog) w 9 s .i64 n Tryz.underlying9,af (by omega)];simp}
theorem aS (s:I):s.size=s.data.toList.length:=rfl
theorem rA (s:I)(h:s.size=0):s.data.toList=[]:=fj h
theorem aID (l:U):Lib.trimPrefix l [45]=if l.head?=some 45 then l.drop 1 else l:=by
 unfold Lib.trimPrefix Lib.hasPrefix;cases l with|nil=>rfl|cons c l=>{by_cases h:c=45;{subst h;simp};{simp[h];intro a;exact absurd a.symm h}}
theorem aOi (l:U):Lib.hasPrefix l [46]=decide (l.head?=some 46):=by
 unfold Lib.hasPrefix;cases l with|nil=>rfl|cons c l=>{by_cases h:c=46;{subst h;simp};{have a:¬(46:UInt8)=c:=fun e=>h e.symm;simp[h,List.isPrefixOf,a]}}
open Go.RowKit
def oM (l:U):Bool :=
 let l5:=if l.head?=some 43\/l.head?=some 45 then l.drop 1 else l
 !l5.isEmpty&&digs l5==l5.length
def jY (n:Nat)(l:U):Bool :=
 if n=0 then false else if l=[]then true else if l.head?=some 101\/l.head?=some 69 then oM (l.drop 1)else false
def sP (l:U):Bool :=
 if (l.drop (digs l)).head?=some 46 then
  (if digs ((l.drop (digs l)).drop 1)=0 then false else jY (digs l+digs ((l.drop (digs l)).drop 1)) ((l.drop (digs l)).drop (1+digs ((l.drop (digs l)).drop 1))))
 else jY (digs l) (l.drop (digs l))
def cH (l:U):Bool:=if 40<l.length then false else sP (if l.head?=some 45 then l.drop 1 else l)
theorem jN (s:I)(n:Nat)(w:H)(b:s.size<=maxLen)(a:digs s.data.toList=n) :
  Y 112 #[.string s] w fun e w'=>e=.returned (.int .i64 n)/\w=w':=by
 subst a;exact aHJ s w b
theorem aPs (s s1:I)(w:H)(h:s1.data.toList=if s.data.toList.head?=some 45 then s.data.toList.drop 1 else s.data.toList) :
  Y 117 #[.string s,.string { data:=#[45] }] w fun e w'=>e=.returned (.string s1)/\w=w':=by
 refine(Tryz.strings_TrimPrefix _ _ _).mono ?_;rintro e w' ⟨rfl,rfl⟩;refine⟨?_,rfl⟩;have:Lib.trimPrefix s.data.toList [45]=s1.data.toList:=by rw[aID,h]
 simp only[this]
theorem aJk (s:I)(b:Bool)(w:H)(h:decide (s.data.toList.head?=some 46)=b) :
  Y 118 #[.string s,.string { data:=#[46] }] w fun e w'=>e=.returned (.bool b)/\w=w':=by
 refine(Tryz.strings_HasPrefix _ _ _).mono ?_;rintro e w' ⟨rfl,rfl⟩;have:Lib.hasPrefix s.data.toList [46]=b:=by rw[aOi,h]
 exact⟨by simp only[this],rfl⟩
theorem yD (s:I)(h:0<s.size):s.data.toList.head?=some s[0]:=by
 rw[ri,bc (by simpa using h)];rfl
theorem jH (s:I)(h:s.size=0):s.toList.isEmpty=true:=by rw[qc,rA s h];rfl
theorem dN (s:I)(h:0<s.size):s.toList.isEmpty=false:=by
 rw[qc,su];intro e;rw[aS,e]at h;exact absurd h (by simp)
theorem aFt (s:I)(w:H)(b:s.size<=maxLen)(h:40<s.size) :
  Y 65 #[.string s] w fun e w'=>e=.returned (.bool (cH s.data.toList))/\w=w':=by
 have a:cH s.data.toList=false:=by unfold cH;rw[af (by rw[<-aS];exact h)]
 rw[a];clear a;unfold maxLen at b;go_enter Tryz.func65,Tryz.ntmps65
 go_wp2
 go_ret;exact⟨rfl,rfl⟩
theorem aMp (a:I)(m:Nat)(h:a.size<=40)(g:m<=40) :
  (m=0/\jY m a.data.toList=false)\/(0<m/\a.size=0/\jY m a.data.toList=true) \/
  (0<m/\0<a.size/\∃c:UInt8,a.data.toList.head?=some c/\c≠101/\c≠69/\jY m a.data.toList=false) \/
  (0<m/\0<a.size/\∃c:UInt8,a.data.toList.head?=some c/\(c=101\/c=69)/\jY m a.data.toList=oM (a.data.toList.drop 1)):=by
 by_cases h0:m=0;{exact .inl ⟨h0,by simp[jY,h0]⟩};{by_cases f:a.size=0;{exact .inr (.inl ⟨by omega,f,by simp[jY,h0,rA a f]⟩)};{have hh:=yD a (by omega);have hne:a.data.toList≠[]:=by{intro e;rw[e]at hh;simp at hh};by_cases d:a[0]'(by omega)=101\/a[0]'(by omega)=69;{exact .inr (.inr (.inr ⟨by omega,by omega,_,hh,d,by simp[jY,h0,hne,hh,d]⟩))};{have b:=gx.1 d;exact .inr (.inr (.inl ⟨by omega,by omega,_,hh,b.1,b.2,by simp[jY,h0,hne,hh,b.1,b.2]⟩))}}}
open Go.RowKit
theorem yF (s:I)(c:UInt8)(h:s.data.toList.head?=some c):∃h:0<s.size,s[0]=c:=by
 have b:0<s.size:=by{rw[aS];cases hl:s.data.toList with|nil=>{rw[hl]at h;simp at h}|cons a l=>simp};refine⟨b,?_⟩;rw[yD s b]at h;exact cy h
inductive vO (s4:I):Bool->Prop
 | none (h:s4.size=0):vO s4 false
 | bare (h:0<s4.size) (h1:((s4[0].toNat:Int)==43)=false) (h2:((s4[0].toNat:Int)==45)=false) (d:Nat) (hd:digs s4.data.toList=d):vO s4 (decide ((d:Int)=s4.size))
 | plus (h:0<s4.size) (h1:((s4[0].toNat:Int)==43)=true) (s5:I) (h5:s5.size<=s4.size) (c5:∀w,(Instr.slice 9 (.string s4) (some (.int .i64 1)) none none).run Tryz.prog w=.ok (.string s5) w)
   (h0:s5.size=0):vO s4 false
 | plusd (h:0<s4.size) (h1:((s4[0].toNat:Int)==43)=true) (s5:I) (h5:s5.size<=s4.size) (c5:∀w,(Instr.slice 9 (.string s4) (some (.int .i64 1)) none none).run Tryz.prog w=.ok (.string s5) w)
   (h0:0<s5.size) (d:Nat) (hd:digs s5.data.toList=d):vO s4 (decide ((d:Int)=s5.size))
 | minus (h:0<s4.size) (h1:((s4[0].toNat:Int)==43)=false) (h2:((s4[0].toNat:Int)==45)=true) (s5:I) (h5:s5.size<=s4.size) (c5:∀w,(Instr.slice 9 (.string s4) (some (.int .i64 1)) none none).run Tryz.prog w=.ok (.string s5) w)
   (h0:s5.size=0):vO s4 false
 | minusd (h:0<s4.size) (h1:((s4[0].toNat:Int)==43)=false) (h2:((s4[0].toNat:Int)==45)=true) (s5:I) (h5:s5.size<=s4.size) (c5:∀w,(Instr.slice 9 (.string s4) (some (.int .i64 1)) none none).run Tryz.prog w=.ok (.string s5) w)
   (h0:0<s5.size) (d:Nat) (hd:digs s5.data.toList=d):vO s4 (decide ((d:Int)=s5.size))
theorem aB7 (a:I):vO a (oM a.data.toList):=by
 by_cases h:a.size=0;{have:oM a.data.toList=false:=by{rw[rA a h];rfl};rw[this];exact .none h};{have d:0<a.size:=by{omega};have n:=yD a d;by_cases b:a[0].toNat=43\/a[0].toNat=45;{obtain⟨c,e5,z5,f⟩:=fT a 1 d;have k:a[0]=43\/a[0]=45:=by{rcases b with b|b;{exact .inl (de.1 b)};{exact .inr (de.1 b)}};have l:oM a.data.toList=(!c.data.toList.isEmpty&&digs c.data.toList==c.data.toList.length):=by{unfold oM;simp only[n,d6];rw[af k,e5]};rw[l];by_cases g:c.size=0;{rw[rA c g];rcases b with b|b;{exact .plus d (by simp[b]) c (by omega) f g};{exact .minus d (by simp[b]) (by simp[b]) c (by omega) f g}};{have j:c.data.toList.isEmpty=false:=by{rw[<-qc];exact dN c (by omega)};have i:(!c.data.toList.isEmpty&&digs c.data.toList==c.data.toList.length)=decide (((digs c.data.toList:Nat):Int)=c.size):=by{rw[j,aS,ay];simp;omega};rw[i];rcases b with b|b;{exact .plusd d (by simp[b]) c (by omega) f (by omega) _ rfl};{exact .minusd d (by simp[b]) (by simp[b]) c (by omega) f (by omega) _ rfl}}};{have m:=gx.1 b;have k:¬(a[0]=43\/a[0]=45):=by{rintro(e|e)<;>rw[e]at m<;>simp at m};have l:oM a.data.toList=(!a.data.toList.isEmpty&&digs a.data.toList==a.data.toList.length):=by{unfold oM;simp only[n,d6];rw[ae k]};have j:a.data.toList.isEmpty=false:=by{rw[<-qc];exact dN a d};have i:(!a.data.toList.isEmpty&&digs a.data.toList==a.data.toList.length)=decide (((digs a.data.toList:Nat):Int)=a.size):=by{rw[j,aS,ay];simp;omega};rw[l,i];exact .bare d (by simp;omega) (by simp;omega) _ rfl}}
inductive xN (s3:I) (m:Nat):Bool->Prop
 | zero (h:m=0):xN s3 m false
 | done (h:0<m) (h1:s3.size=0):xN s3 m true
 | other (h:0<m) (h1:0<s3.size) (h2:((s3[0].toNat:Int) !=101)=true) (h3:((s3[0].toNat:Int) !=69)=true):xN s3 m false
 | small (h:0<m) (h1:0<s3.size) (h2:((s3[0].toNat:Int) !=101)=false) (s4:I) (z4:s4.size<=s3.size) (c4:∀w,(Instr.slice 9 (.string s3) (some (.int .i64 1)) none none).run Tryz.prog w=.ok (.string s4) w) (v:Bool) (hv:vO s4 v):xN s3 m v
 | large (h:0<m) (h1:0<s3.size) (h2:((s3[0].toNat:Int) !=101)=true) (h3:((s3[0].toNat:Int) !=69)=false) (s4:I) (z4:s4.size<=s3.size) (c4:∀w,(Instr.slice 9 (.string s3) (some (.int .i64 1)) none none).run Tryz.prog w=.ok (.string s4) w) (v:Bool) (hv:vO s4 v):xN s3 m v
theorem aB6 (f:I)(m:Nat)(n:f.size<=40)(l:m<=40):xN f m (jY m f.data.toList):=by
 rcases aMp f m n l with⟨h,d⟩|⟨h,b,d⟩|⟨h,b,c,i,a,k,d⟩|⟨h,b,c,i,a,d⟩;{rw[d];exact .zero h};{rw[d];exact .done h b};{rw[d];obtain⟨_,rfl⟩:=yF f c i;exact .other h b (by have:=fun e=>a (de.1 e);simp at this ⊢;omega) (by have:=fun e=>k (de.1 e);simp at this ⊢;omega)};{rw[d];obtain⟨_,rfl⟩:=yF f c i;obtain⟨g,e4,z4,j⟩:=fT f 1 b;rw[<-e4];rcases a with a|a;{exact .small h b (by rw[a];rfl) g (by omega) j _ (aB7 g)};{exact .large h b (by rw[a];rfl) (by rw[a];rfl) g (by omega) j _ (aB7 g)}}
open Go.RowKit
theorem tA:∀(l:U) (k:Nat) (h:k<l.length),k<digs l->aE l[k]=true
 | [],k,h,_=>by simp at h
 | c :: l,k,h,hk=>by
  unfold digs at hk;rw[k8]at hk
  by_cases a:aE c=true
  ·rw[af a]at hk
   cases k with
   | zero=>exact a
   | succ k=>exact tA l k (by simpa using h) (by unfold digs;simpa using hk)
  ·rw[ae a]at hk;simp at hk
theorem aDk:∀(l:U) (h:digs l<l.length),aE l[digs l]=false
 | [],h=>by simp at h
 | c :: l,h=>by
  by_cases a:aE c=true
  ·have e:digs (c :: l)=digs l+1:=by unfold digs;rw[k8,af a];rfl
   have:=aDk l (by rw[e]at h;simpa using h);simp only[e,s7];exact this
  ·have e:digs (c :: l)=0:=by unfold digs;rw[k8,ae a];rfl
   simp only[e,ve];simpa using a
theorem qY (c:UInt8)(h:aE c=true):48<=c.toNat/\c.toNat<=57:=by simpa [aE]using h
theorem zS (l:U):∀k,k<=digs l->∃m,Lib.decFrom 0 (l.take k)=some m/\m<10^k
 | 0,_=>⟨0,by simp[Lib.decFrom],by decide⟩
 | k+1,hk=>by
  obtain⟨m,b,c⟩:=zS l k (by omega);have a:k<l.length:=by have:=jG l;omega
  have hd:=qY _ (tA l k a (by omega));refine⟨m*10+(l[k].toNat-48),Lib.decFrom_take l k 0 m l[k] _ b (bc a) (by unfold Lib.digitVal;rw[af hd]),?_⟩;rw[bz];omega
theorem aLa (s:I)(j m:Nat)(b:j<s.size)(hd:j<digs s.data.toList)(h:Lib.decFrom 0 (s.data.toList.take j)=some m) :
  Lib.decFrom 0 (s.data.toList.take (j+1))=some (10*m+(s[j].toNat-48)):=by
 have a:j<s.data.toList.length:=by{simpa using b};have:=Lib.decFrom_take s.data.toList j 0 m s[j] (s[j].toNat-48) h (bc a) (by unfold Lib.digitVal;exact af (qY _ (tA _ j a hd)));rw[this,bn]
theorem aIL (s:I)(j m:Nat)(c:j<=digs s.data.toList)(b:j<=8)(h:Lib.decFrom 0 (s.data.toList.take j)=some m):m<=99999999:=by
 obtain⟨e,a,d⟩:=zS s.data.toList j c;rw[h]at a;cases a;have:10^j<=10^8:=b8 (by omega) b;omega
def sF (v lo hi:Int):Value:=if v<lo\/hi<v then .tuple #[.int .i64 0,.bool false]else .tuple #[.int .i64 v,.bool true]
theorem yU (s:I)(lo hi:Int)(w:H)(h:s.size=0\/9<s.size) :
  Y 94 #[.string s,.int .i64 lo,.int .i64 hi] w fun e w'=>e=.returned (.tuple #[.int .i64 0,.bool false])/\w=w':=by
 go_enter Tryz.func94,Tryz.ntmps94
 rcases h with h|h
 ·as_aux_lemma =>
   go_wp2
   go_ret2;exact⟨rfl,rfl⟩
 ·have a:¬s.size=0:=by omega
  as_aux_lemma =>
   go_wp2
   go_ret2;exact⟨rfl,rfl⟩
theorem aCf (s:I)(lo hi:Int)(w:H)(d:1<s.size)(f:s.size<=9)(a:s[0].toNat=48) :
  Y 94 #[.string s,.int .i64 lo,.int .i64 hi] w fun e w'=>e=.returned (.tuple #[.int .i64 0,.bool false])/\w=w':=by
 have c:¬s.size=0:=by omega
 have b:((s[0].toNat:Int)==48)=true:=by simp[a]
 go_enter Tryz.func94,Tryz.ntmps94
 go_wp2
 go_ret2;exact⟨rfl,rfl⟩
def AtW (s:I)(a b:Value)(j m:Nat):Prop :=
 a=.int .i64 (m:Nat)/\b=.int .i64 (j:Nat)/\j<=digs s.data.toList/\Lib.decFrom 0 (s.data.toList.take j)=some m
theorem aCe (s:I)(lo hi:Int)(w:H)(S:1<=s.size)(T:s.size<=9)(B:s.size=1\/∃h:0<s.size,((s[0].toNat:Int)==48)=false) :
  Y 94 #[.string s,.int .i64 lo,.int .i64 hi] w fun e w'=>e=.returned (if digs s.data.toList=s.size then sF (Lib.decFrom 0 s.data.toList).get! lo hi else .tuple #[.int .i64 0,.bool false])/\w=w':=by
 have R:¬s.size=0:=by omega
 have i1:((s.size:Int)==0)=false:=ai.2 (by omega);have i2:decide (9<(s.size:Int))=false:=bo (by omega);have D:digs s.data.toList<=s.size:=by have:=jG s.data.toList;simpa using this
 have x:=Z D;clear D;obtain⟨V,q⟩:=ex ((if digs s.data.toList=s.size then sF (Lib.decFrom 0 s.data.toList).get! lo hi else .tuple #[.int .i64 0,.bool false]))
 rw[<-q];have d:=Z q;clear q;have K:=Z B;clear B;go_enter Tryz.func94,Tryz.ntmps94
 go_upto_region 2 with fail
 go_cut [27] (fun t wx=>t=.bool false/\wx=w)
 case first =>
  rcases K.o with h|⟨h,e⟩
  ·have i3:decide (1<(s.size:Int))=false:=bo (by omega);as_aux_lemma =>
    go_wp2_with fail
    all_goals go_meet
    all_goals exact⟨rfl,rfl⟩
  ·as_aux_lemma =>
    go_wp2_with fail
    all_goals go_meet
    all_goals exact⟨rfl,rfl⟩
 case rest =>
  obtain⟨rfl,rfl⟩:=hcut;go_wp2_with fail
  go_loopg [8,9] (s.size) (fun g a b wx=>∃j m,AtW s a b j m/\g=s.size-j/\wx=wc)
  case atStart=>exact⟨0,0,⟨rfl,rfl,bb _,by simp[Lib.decFrom]⟩,by omega,rfl⟩
  case round =>
   obtain⟨j,m,⟨rfl,rfl,f,E⟩,C,rfl⟩:=hrel;have W:j<=s.size:=by have:=x.o;omega
   have n:=Z E;have L:=Z C;clear E C;by_cases k:j<s.size
   ·by_cases i:j<digs s.data.toList
    ·obtain⟨P,Q⟩:=qY s[j] (tA s.data.toList j (by simpa using k) i);have aa:=aIL s j m f (by omega) n.o;have F:=aLa s j m k i n.o;have N:=Z F;have M:=Z i;clear F f i;as_aux_lemma =>
      go_wp2_with fail
      go_roundg (s.size-(j+1))
      case measure=>have:=L.o;omega
      case rel=>exact⟨j+1,_,⟨by rw[sx,pd,Int.ofNat_sub P];rfl,by go_num,by have:=M.o;omega,N.o⟩,rfl,rfl⟩
    ·have c:digs s.data.toList=j:=by omega
     have u:=aDk s.data.toList (by rw[c];simpa using k);have ne:¬digs s.data.toList=s.size:=by omega
     simp only[c]at u;have v:aE s[j]=false:=u;have X:s[j].toNat<256:=s[j].toNat_lt;have r:s[j].toNat<48\/57<s[j].toNat:=by
      unfold aE at v;simp at v;omega
     have y:=Z ne;clear c u v ne f;rcases r with r|r
     ·as_aux_lemma =>
       go_wp2_with fail
       go_ret2;exact⟨by rw[d.o,ae y.o];rfl,rfl⟩
     ·as_aux_lemma =>
       go_wp2_with fail
       go_ret2;exact⟨by rw[d.o,ae y.o];rfl,rfl⟩
   ·have c:digs s.data.toList=s.size:=by have:=x.o;omega
    have e:j=s.size:=by omega
    subst e;have J:Lib.decFrom 0 s.data.toList=some m:=by
     have:=n.o;rwa[fi (by simp)]at this
    have l:=Z c;have p:=Z J;clear c J f k;by_cases z:(m:Int)<lo
    ·as_aux_lemma =>
      go_wp2_with fail
      all_goals go_ret2
      all_goals exact⟨by rw[d.o,af l.o,p.o];unfold sF;rw[af (.inl z)];rfl,rfl⟩
    ·by_cases A:hi<(m:Int)
     ·as_aux_lemma =>
       go_wp2_with fail
       all_goals go_ret2
       all_goals exact⟨by rw[d.o,af l.o,p.o];unfold sF;rw[af (.inr A)];rfl,rfl⟩
     ·as_aux_lemma =>
       go_wp2_with fail
       all_goals go_ret2
       all_goals exact⟨by rw[d.o,af l.o,p.o];unfold sF;rw[ae (by simp[z,A])];rfl,rfl⟩
