/-
policy.Value, of every element, attribute and value: what it answers.
-/
import Derived.Test.YtcfgbdhpcboikaaGreatDoorFormL
namespace Go.Proofs.YtcfgbdhpcboikaaGreatDoor
open Go.Lib (hid)
set_option maxHeartbeats 4000000
set_option maxRecDepth 100000
open Go.RowKit
theorem fW {n:Nat}:n≤n:=Nat.le_refl n
theorem aH2 (a b x y:List UInt8)(c:UInt8)(h:a++c :: b=x++c :: y)(hx:c∉x)(hy:c∉y):a=x∧b=y:=by
 rcases List.append_eq_append_iff.1 h with⟨l,h1,h2⟩|⟨l,h1,h2⟩
 ·cases l with
  | nil =>
   simp only[List.nil_append,List.cons.injEq,true_and]at h2;exact⟨by rw[h1,List.append_nil],h2⟩
  | cons d l =>
   simp only[List.cons_append,List.cons.injEq]at h2;exact absurd (by rw[h1,h2.1];simp) hx
 ·cases l with
  | nil =>
   simp only[List.nil_append,List.cons.injEq,true_and]at h2;exact⟨by rw[h1,List.append_nil],h2.symm⟩
  | cons d l =>
   simp only[List.cons_append,List.cons.injEq]at h2;exact absurd (by rw[h2.2];simp) hy
theorem aGY:yY=aBh.map (fun p=>p.1++32 :: p.2):=by decide
theorem aI7:∀p∈aBh,(32:UInt8)∉p.1∧(32:UInt8)∉p.2∧kZ ⟨p.1.toArray⟩ ⟨p.2.toArray⟩≠.none:=by decide +kernel
theorem aJe {e n:ByteArray}(h:kZ e n=.none)(l:List UInt8)(hl:yY.contains l=true):((e++⟨#[32]⟩++n).toList==(⟨l.toArray⟩:ByteArray).toList)=false:=by
 rw[beq_eq_false_iff_ne,toList_data,toList_data];intro he;rw[aGY]at hl
 have hl2:l∈aBh.map (fun p=>p.1++32 :: p.2):=by
  rw[List.contains_iff_mem]at hl
  exact hl
 obtain⟨p,hp,e1⟩:=List.mem_map.1 hl2;obtain⟨p1,p2,p3⟩:=aI7 p hp;have he2:e.data.toList++32 :: n.data.toList=p.1++32 :: p.2:=by
  have e3:(e++⟨#[32]⟩++n).data.toList=e.data.toList++32 :: n.data.toList:=by simp
  rw[←e3,he,←e1]
 obtain⟨h1,h2⟩:=aH2 _ _ _ _ _ he2 p1 p2;refine p3 ?_;rw[←h1,←h2];exact h
theorem aF2 (v:ByteArray):(cL v).size≤3*v.size:=oR v.data.toList
theorem aFC (v:ByteArray):(qY v).size≤3*v.size:=aBX v.data.toList
theorem aGJ {v:ByteArray}(h:yQ v):v.size≤4:=by rcases h with rfl|rfl|rfl<;>decide
theorem yW {e n:ByteArray}(h:kZ e n=.none):n≠aX∧n≠uG∧n≠aBx:=by
 unfold kZ at h;refine⟨fun c=>?_,fun c=>?_,fun c=>?_⟩
 ·rw[if_pos c]at h;cases h
 ·by_cases d:n=aX
  ·rw[if_pos d]at h;cases h
  ·rw[if_neg d,if_pos c]at h;cases h
 ·by_cases d:n=aX
  ·rw[if_pos d]at h;cases h
  ·by_cases d2:n=uG
   ·rw[if_neg d,if_pos d2]at h;cases h
   ·rw[if_neg d,if_neg d2,if_pos c]at h;cases h
theorem aEr {e n:ByteArray}(h:wZ e n=true):(e=jH∧(n=vZ∨n=oP∨n=aCW∨n=aFP∨n=aFR))∨(e=mI∧(n=vZ∨n=oP)):=by
 unfold wZ at h;simp only[Bool.or_eq_true,Bool.and_eq_true,decide_eq_true_eq]at h;rcases h with⟨h1,h2⟩|⟨h1,h2⟩
 ·refine .inl ⟨h1,?_⟩;rcases h2 with(((h|h)|h)|h)|h
  ·exact .inl h
  ·exact .inr (.inl h)
  ·exact .inr (.inr (.inl h))
  ·exact .inr (.inr (.inr (.inl h)))
  ·exact .inr (.inr (.inr (.inr h)))
 ·exact .inr ⟨h1,h2⟩
theorem aDm {e n v t:ByteArray}{b:Bool}(h:wZ e n=true)(H:∀w,aB w→Calls Tryz.prog 20 #[.string v] w fun e w'=>e=.returned (.tuple #[.string t,.bool b])∧Below w.heap.size w w'):cK e n v t b:=by
 rcases aEr h with⟨rfl,h|h|h|h|h⟩|⟨rfl,h|h⟩<;>subst h
 ·exact aCs v t b H
 ·exact aAr v t b H
 ·exact aBj v t b H
 ·exact aCr v t b H
 ·exact aCt v t b H
 ·exact yZ v t b H
 ·exact vG v t b H
theorem aEY {e n v:ByteArray}{x:Int}{b:Bool}(h:(e=sTd∨e=sTh)∧(n=kO∨n=kP))(H:eY v 1 1000 x b):cK e n v v b:=by
 rcases h with⟨rfl|rfl,rfl|rfl⟩
 ·exact aBk v x b H
 ·exact aBl v x b H
 ·exact aBm v x b H
 ·exact aBn v x b H
theorem aEW {e n v:ByteArray}{x:Int}{b:Bool}(h:e=jR∧(n=qC∨n=sY))(H:eY v 0 9999 x b):cK e n v v b:=by
 rcases h with⟨rfl,rfl|rfl⟩
 ·exact aBi v x b H
 ·exact aCq v x b H
theorem aEX {e n v:ByteArray}{x:Int}{b:Bool}(h:e=sOl∧n=sX)(H:eY v 0 999999 x b):cK e n v v b:=by
 rcases h with⟨rfl,rfl⟩
 exact aDn v x b H
theorem aBU (e n v t:ByteArray)(hs:v.size≤1048576)(h:qT (kZ e n) v (some t)):cK e n v t true∧t.size≤4000000:=by
 have ht:=aF2 v;have hl:=aFC v;unfold kZ at h;by_cases c0:n=aX
 ·rw[if_pos c0]at h
  subst c0;have h':t=cL v:=h;subst h';exact⟨aFy e v (by omega),by omega⟩
 rw[if_neg c0]at h
 by_cases c1:n=uG
 ·rw[if_pos c1]at h
  subst c1;obtain⟨hp,rfl⟩:=h;exact⟨aBT e t (by omega) true (hid ⟨fun _=>hp,fun _=>rfl⟩),by omega⟩
 rw[if_neg c1]at h
 by_cases c2:n=aBx
 ·rw[if_pos c2]at h
  subst c2;obtain⟨hp,rfl⟩:=h;exact⟨aDl e v _ true (by omega) (hid ⟨fun _=>⟨rfl,rfl⟩,fun hn=>absurd hp hn⟩),by have:=aGJ hp;omega⟩
 rw[if_neg c2]at h
 by_cases c3:e=sA∧n=aAN
 ·rw[if_pos c3]at h
  obtain⟨rfl,rfl⟩:=c3;obtain⟨hp,rfl⟩:=h;exact⟨aAq v true (hid hp) (by omega),by omega⟩
 rw[if_neg c3]at h
 by_cases c4:e=jR∧n=aDX
 ·rw[if_pos c4]at h
  obtain⟨rfl,rfl⟩:=c4;obtain⟨hp,rfl⟩:=h;exact⟨xV v true (hid hp) (by omega),by omega⟩
 rw[if_neg c4]at h
 by_cases c9:e=jR∧n=aDU
 ·rw[if_pos c9]at h
  obtain⟨rfl,rfl⟩:=c9;have h':t=cL v:=h;subst h';exact⟨aEo v (by omega),by omega⟩
 rw[if_neg c9]at h
 by_cases c5:e=jR∧(n=qC∨n=sY)
 ·rw[if_pos c5]at h
  obtain⟨⟨x,hx⟩,rfl⟩:=h;exact⟨aEW c5 hx,by omega⟩
 rw[if_neg c5]at h
 by_cases c6:e=sOl∧n=sX
 ·rw[if_pos c6]at h
  obtain⟨⟨x,hx⟩,rfl⟩:=h;exact⟨aEX c6 hx,by omega⟩
 rw[if_neg c6]at h
 by_cases c7:(e=sTd∨e=sTh)∧(n=kO∨n=kP)
 ·rw[if_pos c7]at h
  obtain⟨⟨x,hx⟩,rfl⟩:=h;exact⟨aEY c7 hx,by omega⟩
 rw[if_neg c7]at h
 by_cases c8:wZ e n=true
 ·rw[if_pos c8]at h
  exact⟨aDm c8 h.yes,by have:=h.sz;omega⟩
 rw[if_neg c8]at h
 exact h.elim
theorem aKV (e n v:ByteArray)(he:e.size≤1000000000)(hn:n.size≤1000000000)(hs:v.size≤1048576)(h:qT (kZ e n) v none):∃t,cK e n v t false:=by
 by_cases hk:kZ e n=.none
 ·obtain⟨k1,k2,k3⟩:=yW hk;exact⟨_,aGZ e n v he hn _ (hid rfl) (pZ _ k1 rfl) (pZ _ k2 rfl) (pZ _ k3 rfl) (hid (aJe hk))⟩
 unfold kZ at h hk;by_cases c0:n=aX
 ·rw[if_pos c0]at h
  exact h.elim
 rw[if_neg c0]at h hk
 by_cases c1:n=uG
 ·rw[if_pos c1]at h
  subst c1;exact⟨v,aBT e v (by omega) false (hid (Iff.intro (fun hh=>by cases hh) (fun hh=>absurd hh h)))⟩
 rw[if_neg c1]at h hk
 by_cases c2:n=aBx
 ·rw[if_pos c2]at h
  subst c2;exact⟨⟨#[]⟩,aDl e v _ false (by omega) (hid ⟨fun hh=>absurd hh h,fun _=>⟨rfl,rfl⟩⟩)⟩
 rw[if_neg c2]at h hk
 by_cases c3:e=sA∧n=aAN
 ·rw[if_pos c3]at h
  obtain⟨rfl,rfl⟩:=c3;exact⟨_,aAq v false (hid h) (by omega)⟩
 rw[if_neg c3]at h hk
 by_cases c4:e=jR∧n=aDX
 ·rw[if_pos c4]at h
  obtain⟨rfl,rfl⟩:=c4;exact⟨_,xV v false (hid h) (by omega)⟩
 rw[if_neg c4]at h hk
 by_cases c9:e=jR∧n=aDU
 ·rw[if_pos c9]at h
  exact h.elim
 rw[if_neg c9]at h hk
 by_cases c5:e=jR∧(n=qC∨n=sY)
 ·rw[if_pos c5]at h
  obtain⟨x,hx⟩:=h;exact⟨_,aEW c5 hx⟩
 rw[if_neg c5]at h hk
 by_cases c6:e=sOl∧n=sX
 ·rw[if_pos c6]at h
  obtain⟨x,hx⟩:=h;exact⟨_,aEX c6 hx⟩
 rw[if_neg c6]at h hk
 by_cases c7:(e=sTd∨e=sTh)∧(n=kO∨n=kP)
 ·rw[if_pos c7]at h
  obtain⟨x,hx⟩:=h;exact⟨_,aEY c7 hx⟩
 rw[if_neg c7]at h hk
 by_cases c8:wZ e n=true
 ·rw[if_pos c8]at h
  exact⟨_,aDm c8 h⟩
 rw[if_neg c8]at hk
 exact absurd rfl hk
def tA:Option ByteArray→Value
 | some t=>.tuple #[.string t,.bool true]
 | none=>.tuple #[.string ⟨#[]⟩,.bool false]
theorem aGc {a b:Option ByteArray}(h:tA a=tA b):a=b:=by
 cases a<;>cases b<;>simp[tA]at h ⊢
 exact h
theorem wI (e n v:ByteArray)(o:Option ByteArray)(he:e.size≤1000000000)(hn:n.size≤1000000000)(hs:v.size≤1048576)(h:jZ e n v o)(w:World)(T:aB w) :
  Calls Tryz.prog 37 #[.string e,.string n,.string v] w fun x w'=>x=.returned (tA o)∧Below w.heap.size w w':=by
 have HK:Hid (aV e (bR e.data.toList:Nat)):=fun w=>nI e w
 cases o with
 | some t =>
  obtain⟨h1,h2,h3⟩:=h;obtain⟨f1,f2⟩:=aBU e n v t hs h2;exact aIo e n v t _ HK (by omega) (by rw[beq_eq_false_iff_ne];omega) (hid f1) f2 (hid h3) w T
 | none =>
  by_cases hk:bR e.data.toList<2∨bR e.data.toList=14
  ·exact aIn e n v _ HK (by omega) w
  ·rcases h with h|h|⟨t,h,h3⟩
   ·exact absurd h hk
   ·obtain⟨t,f1⟩:=aKV e n v he hn hs h;exact aJZ e n v t _ HK (by omega) (by rw[beq_eq_false_iff_ne];omega) (hid f1) w T
   ·obtain⟨f1,f2⟩:=aBU e n v t hs h;exact aGd e n v t _ HK (by omega) (by rw[beq_eq_false_iff_ne];omega) (hid f1) f2 (hid h3) w T
theorem aI6 (w0:World)(T0:aB w0)(k:FK)(v:ByteArray)(hs:v.size≤1048576):∃o,qT k v o:=by
 cases k with
 | text=>exact⟨some _,rfl⟩
 | lang =>
  by_cases h:tU v
  ·exact⟨some v,h,rfl⟩
  ·exact⟨none,h⟩
 | dir =>
  by_cases h:yQ (mJ v)
  ·exact⟨some _,h,rfl⟩
  ·exact⟨none,h⟩
 | linkA =>
  cases h:kF uN (dG v.data.toList)with
  | true=>exact⟨some _,h,rfl⟩
  | false=>exact⟨none,h⟩
 | linkI =>
  cases h:kF zR (dG v.data.toList)with
  | true=>exact⟨some _,h,rfl⟩
  | false=>exact⟨none,h⟩
 | whole lo hi =>
  obtain⟨x,b,hx⟩:=aJ0 v lo hi (by unfold maxLen;omega);cases b with
  | true=>exact⟨some v,⟨x,hx⟩,rfl⟩
  | false=>exact⟨none,x,hx⟩
 | fix =>
  rcases aKU w0 T0 v (by unfold maxLen;omega)with⟨t,h⟩|h
  ·exact⟨some t,h⟩
  ·exact⟨none,h⟩
 | none=>exact⟨none,trivial⟩
theorem aIl (w0:World)(T0:aB w0)(e n v:ByteArray)(hs:v.size≤1048576):∃o,jZ e n v o:=by
 by_cases hk:bR e.data.toList<2∨bR e.data.toList=14
 ·exact⟨none,.inl hk⟩
 ·obtain⟨o,ho⟩:=aI6 w0 T0 (kZ e n) v hs;cases o with
  | none=>exact⟨none,.inr (.inl ho)⟩
  | some t =>
   rcases Nat.lt_or_ge 120 (nF t).size with h|h
   ·exact⟨none,.inr (.inr ⟨t,ho,h⟩)⟩
   ·exact⟨some t,hk,ho,h⟩
theorem aIm (w0:World)(T0:aB w0){e n v:ByteArray}{o o':Option ByteArray}(he:e.size≤1000000000)(hn:n.size≤1000000000)(hs:v.size≤1048576)(h:jZ e n v o)(h':jZ e n v o'):o=o' :=
 aGc (aBH (by kernel_rfl) (wI e n v o he hn hs h w0 T0) (wI e n v o' he hn hs h' w0 T0))
theorem aEA (old new:List UInt8)(h:old.length≤new.length)(h1:1≤old.length):∀(k:Nat) (s:List UInt8),s.length≤(Lib.replaceK old new k s).length:=by
 intro k;induction k with
 | zero=>intro s;simp[Lib.replaceK]
 | succ k ih =>
  intro s;by_cases hi:Lib.index s old=-1
  ·unfold Lib.replaceK;rw[if_pos (by rw[hi];rfl)];exact Nat.le_refl _
  ·have hge:=Lib.index_ge s old;obtain⟨i,hi'⟩:∃i:Nat,Lib.index s old=i:=⟨(Lib.index s old).toNat,by omega⟩
   rw[Lib.replaceK_hit old new k s i hi'];have:=ih (s.drop (i+old.length));have hr:=Lib.index_room s old (by omega);rw[List.length_append,List.length_append,List.length_take];rw[List.length_drop]at this
   omega
theorem sN (s old new:ByteArray)(h:old.size≤new.size)(h1:1≤old.size):s.size≤(dW s old new).size:=by
 show s.data.toList.length≤(Lib.replaceAll s.data.toList old.data.toList new.data.toList).length;unfold Lib.replaceAll Lib.replace;split
 ·exact Nat.le_refl _
 ·exact aEA _ _ h h1 _ _
theorem aMd (t:ByteArray):t.size≤(nF t).size:=by
 unfold nF;refine Nat.le_trans ?_ (sN _ _ _ (by decide) (by decide));refine Nat.le_trans ?_ (sN _ _ _ (by decide) (by decide));refine Nat.le_trans ?_ (sN _ _ _ (by decide) (by decide));refine Nat.le_trans ?_ (sN _ _ _ (by decide) (by decide));exact sN _ _ _ (by decide) (by decide)
theorem aGe {e n v t:ByteArray}(h:jZ e n v (some t)):t.size≤120:=Nat.le_trans (aMd t) h.2.2
open Go.RowKit
structure lU (V:ByteArray→ByteArray→Option ByteArray) (l:List AT) (k:Nat) (sn:List ByteArray) (done:List AT):Prop where
 le:k≤l.length
 sl:sn.length≤k
 dl:done.length≤k
 out:dS V [] l=done++dS V sn (l.drop k)
theorem lU.start (V:ByteArray→ByteArray→Option ByteArray)(l:List AT):lU V l 0 [] []:=⟨Nat.zero_le _,Nat.le_refl _,Nat.le_refl _,rfl⟩
theorem lU.old {V:ByteArray→ByteArray→Option ByteArray}{l:List AT}{k:Nat}{sn:List ByteArray}{done:List AT}(h:lU V l k sn done)(hk:k<l.length)(hm:(l[k]).1∈sn):lU V l (k+1) sn done:=by
 have h1:=h.sl;have h2:=h.dl;refine⟨hk,by omega,by omega,?_⟩;rw[h.out,List.drop_eq_getElem_cons hk];conv=>lhs;rhs;unfold dS
 rw[if_pos ((Lib.containsS_iff _ _).2 hm)]
theorem lU.yes {V:ByteArray→ByteArray→Option ByteArray}{l:List AT}{k:Nat}{sn:List ByteArray}{done:List AT}{t:ByteArray}(h:lU V l k sn done)(hk:k<l.length)(hm:(l[k]).1∉sn)(hv:V (l[k]).1 (l[k]).2=some t):lU V l (k+1) (sn++[(l[k]).1]) (done++[((l[k]).1,t)]):=by
 have h1:=h.sl;have h2:=h.dl;refine⟨hk,by simp;omega,by simp;omega,?_⟩;rw[h.out,List.drop_eq_getElem_cons hk];conv=>lhs;rhs;unfold dS
 rw[if_neg (fun h=>hm ((Lib.containsS_iff _ _).1 h)),hv,List.append_assoc]
theorem lU.no {V:ByteArray→ByteArray→Option ByteArray}{l:List AT}{k:Nat}{sn:List ByteArray}{done:List AT}(h:lU V l k sn done)(hk:k<l.length)(hm:(l[k]).1∉sn)(hv:V (l[k]).1 (l[k]).2=none):lU V l (k+1) (sn++[(l[k]).1]) done:=by
 have h1:=h.sl;have h2:=h.dl;refine⟨hk,by simp;omega,by omega,?_⟩;rw[h.out,List.drop_eq_getElem_cons hk];conv=>lhs;rhs;unfold dS
 rw[if_neg (fun h=>hm ((Lib.containsS_iff _ _).1 h)),hv,List.nil_append]
theorem lU.done {V:ByteArray→ByteArray→Option ByteArray}{l:List AT}{k:Nat}{sn:List ByteArray}{done:List AT}(h:lU V l k sn done)(hk:l.length≤k):dS V [] l=done:=by
 rw[h.out,List.drop_eq_nil_of_le hk];unfold dS;rw[List.append_nil]
def aBE (V:ByteArray→ByteArray→Option ByteArray)(l:List AT)(w:World)(e:Ending)(w':World):Prop :=
 ∃v r,e=.returned v∧jW V l r∧bC w.heap.size 39 2 v r.length (fG r) w w'
theorem aAE (e:ByteArray)(he:e.size≤1000000000)(V:ByteArray→ByteArray→Option ByteArray)(hV:Hid (∀n v,n.size≤1048576→v.size≤1048576→jZ e n v (V n v)))(l:List AT)(hl:l.length≤1048576)(hs:Hid (∀x∈l,x.1.size≤1048576∧x.2.size≤1048576))(av:Value)(w:World)(T:aB w)(hA:Hid (dZ w av l)) :
  Calls Tryz.prog 38 #[.string e,av] w (aBE V l w):=by
 have HT:=hid T;clear T;obtain⟨i9,hi9,hz9,hs9,hb9⟩:=info_parts Tryz.info9;obtain⟨i39,hi39,hz39,hs39,hb39⟩:=info_parts Tryz.info39;obtain⟨a,c,rfl,_⟩:=hA.out;go_enter Tryz.func38,Tryz.ntmps38
 go_wp2
 go_loopw [5,6,13] (fun o n i wx=>∃(k:Nat) (sn:List ByteArray) (done:List AT),i=.int .i64 k∧Hid (lU V l k sn done)∧Hid (bC w.heap.size 39 2 o done.length (fG done) w wx)∧Hid (bC w.heap.size 9 1 n sn.length (sn.map pA) w wx)∧Hid (mM n o)) (fun _ _ i _=>l.length-(intOf i).toNat)
 case atStart=>exact⟨0,[],[],rfl,hid (lU.start V l),hid (bC.nil w 39 2),hid (bC.nil w 9 1),hid (mM.nil _)⟩
 case round =>
  obtain⟨k,sn,done,rfl,hK,hO,hN,hP⟩:=hrel;have hk:=hK.out.le;have hsl:=hK.out.sl;have hdl:=hK.out.dl;rcases Nat.lt_or_ge k l.length with hlt|hge
  ·obtain⟨g,off,c',hva,c1,c2⟩:=(hA.out.below hO.out.bel fW).get k hlt;simp only[Value.slice.injEq,true_and]at hva;obtain⟨rfl,rfl⟩:=hva;have HOLD:=hid (hK.out.old hlt);have HYES:=hid (fun t=>hK.out.yes (t:=t) hlt);have HNO:=hid (hK.out.no hlt);have HSZ:=hid (hs.out l[k] (List.getElem_mem hlt));generalize l[k]=q at *
   obtain⟨qn,qv⟩:=q;simp only at c1 c2;obtain⟨W1,hW1⟩:∃W1,W1=wr.alloc (.cells #[.string qn,.string qv] 39):=⟨_,rfl⟩
   have hB1:Below wr.heap.size wr W1:=by rw[hW1];exact(Below.refl _ wr).alloc fW _
   have HO1:=hid (hO.out.keep hB1);have HN1:=hid (hN.out.keep hB1);have b1:W1.cell? ⟨wr.heap.size,0,none⟩=some (.string qn):=by rw[hW1,cell_of_row _ _ 0 _ 39 (0,0) (heap_alloc_new wr _)];rfl
   have b2:W1.cell? ⟨wr.heap.size,1,none⟩=some (.string qv):=by rw[hW1,cell_of_row _ _ 1 _ 39 (0,0) (heap_alloc_new wr _)];rfl
   have hlt1:wr.heap.size<W1.heap.size:=by rw[hW1];simp
   have HW1:=hid hW1;clear hW1;by_cases hm:qn∈sn
   ·have C:=mT _ sn qn W1 (by omega) HN1.out.vec true ((Lib.containsS_iff _ _).2 hm);have HC:=hid C;have HF:=hid (HOLD.out hm);clear C hm;go_wp2_with fail
    rw[←HW1.out];refine HC.out.mono ?_;rintro x w' ⟨rfl,rfl⟩;go_wp2
    go_roundw
    case rel=>exact⟨k+1,sn,done,by go_num,HF,HO1,HN1,hP⟩
    case measure=>simp[intOf];omega
   ·have C:=mT _ sn qn W1 (by omega) HN1.out.vec false (by cases h:Lib.containsS sn qn with|false=>rfl|true=>exact absurd ((Lib.containsS_iff _ _).1 h) hm);have HC:=hid C;have HM:=hid hm;have HVR:=hid (hV.out qn qv HSZ.out.1 HSZ.out.2);clear C hm;go_wp2_with fail
    rw[←HW1.out];refine HC.out.mono ?_;rintro x w' ⟨rfl,rfl⟩;go_wp2_with (at_builtin;refine fU (by rfl) _ _ 55 (by rfl) 9 i9 (.string ⟨#[]⟩) 1 16 Tryz.underlying55 hi9 hz9 hs9 hb9 rfl (by decide) _ _ _ rfl HN1.out #[.string qn] rfl rfl rfl rfl (by omega) (by omega) ?_)
    intro vn' W2 hN2 hG;have HO2:=hid (hG.out.other (HO1.out.alloc _) hP.out HN1.out.lo);have HP2:=hid (hG.out.apart (HO1.out.alloc _) hP.out);have hlo:=hN.out.hi;have d1:W2.cell? ⟨wr.heap.size,0,none⟩=some (.string qn):=hG.out.cell (mP b1) (fun e=>absurd (hlo _ e) (Nat.lt_irrefl _));have d2:W2.cell? ⟨wr.heap.size,1,none⟩=some (.string qv):=hG.out.cell (mP b2) (fun e=>absurd (hlo _ e) (Nat.lt_irrefl _));have hlt2:wr.heap.size<W2.heap.size:=World.block_lt_of_cell? _ _ d1;have HT2:=hid (HT.out.below HO2.out.bel fW);clear hlo b1 b2 hlt1 hB1;go_wp2_with fail
    refine(wI e qn qv _ he (by have:=HSZ.out.1;omega) HSZ.out.2 HVR.out W2 HT2.out).mono ?_;rintro x W3 ⟨rfl,B3⟩;have HO3:=hid (HO2.out.keep B3);have HN3:=hid (hN2.out.keep B3);have f1:W3.cell? ⟨wr.heap.size,0,none⟩=some (.string qn):=by rw[B3.cell (p:=⟨wr.heap.size,0,none⟩) hlt2];exact d1
    clear d1 d2 B3;cases hv:V qn qv with
    | none =>
     have HF:=hid (HNO.out HM.out hv);unfold tA;clear hv;go_wp2
     go_roundw
     case rel=>exact⟨k+1,sn++[qn],done,by go_num,HF,HO3,hid (HN3.out.cast (by simp) (by simp[pA])),HP2⟩
     case measure=>simp[intOf];omega
    | some t =>
     have HF:=hid (HYES.out t HM.out hv);unfold tA;clear hv;go_wp2_with (at_builtin;refine fU (by rfl) _ _ 33 (by rfl) 39 i39 (.agg #[.string ⟨#[]⟩,.string ⟨#[]⟩]) 2 32 Tryz.underlying33 hi39 hz39 hs39 hb39 rfl (by decide) _ _ _ rfl HO3.out #[.string qn,.string t] rfl rfl rfl rfl (by omega) (by omega) ?_)
     intro vo' W4 hO4 hG4;have HN4:=hid (hG4.out.other (HN3.out.alloc _) HP2.out.symm HO3.out.lo);have HP4:=hid ((hG4.out.apart (HN3.out.alloc _) HP2.out.symm).symm);go_wp2
     go_roundw
     case rel=>exact⟨k+1,sn++[qn],done++[(qn,t)],by go_num,HF,hid (hO4.out.cast (by simp) (by rw[aGW];rfl)),hid (HN4.out.cast (by simp) (by simp[pA])),HP4⟩
     case measure=>simp[intOf];omega
  ·have HD:=hid (hK.out.done hge);have S:=aJM _ done w wr _ hO.out (by omega);have HS:=hid S;clear S;go_wp2_with fail
   refine HS.out.mono ?_;rintro x W2 ⟨rfl,r,h1,h2,h3⟩;have HR:Hid (jW V l r):=⟨by rw[HD.out];exact h1,by
    have h4:=aHP (d:=r.toArray) (by simpa using h2) (by
     have h5:=xO V l [];rw[HD.out]at h5
     exact(h1.pairwise_iff (fun {x y} hxy e=>hxy e.symm)).2 h5)
    simpa using h4⟩
   have HO5:=hid h3;clear h1 h2 h3;go_wp2
   go_ret;exact⟨_,r,rfl,HR.out,HO5.out⟩
structure aJ4 (e:ByteArray) (V:ByteArray→ByteArray→Option ByteArray):Prop where
 val:∀n v,n.size≤1048576→v.size≤1048576→jZ e n v (V n v)
 big:∀n v t,V n v=some t→n.size≤1048576∧v.size≤1048576
 again:∀n v t,V n v=some t→V n t=some t
theorem aNg (w0:World)(T0:aB w0)(e:ByteArray)(he:e.size≤1000000000):∃V,aJ4 e V:=by
 have h:∀x:AT,∃o:Option ByteArray,(x.1.size≤1048576∧x.2.size≤1048576→jZ e x.1 x.2 o)∧(¬(x.1.size≤1048576∧x.2.size≤1048576)→o=none):=by
  intro x;by_cases hx:x.1.size≤1048576∧x.2.size≤1048576
  ·obtain⟨o,ho⟩:=aIl w0 T0 e x.1 x.2 hx.2;exact⟨o,fun _=>ho,fun hn=>absurd hx hn⟩
  ·exact⟨none,fun hy=>absurd hy hx,fun _=>rfl⟩
 obtain⟨f,hf⟩:=Classical.axiomOfChoice h;have hb:∀n v t,f (n,v)=some t→n.size≤1048576∧v.size≤1048576:=fun n v t ht=>by
  by_cases hx:n.size≤1048576∧v.size≤1048576
  ·exact hx
  ·rw[(hf (n,v)).2 hx]at ht;cases ht
 refine⟨fun n v=>f (n,v),fun n v h1 h2=>(hf (n,v)).1 ⟨h1,h2⟩,hb,fun n v t ht=>?_⟩;obtain⟨h1,h2⟩:=hb n v t ht;have r1:=(hf (n,v)).1 ⟨h1,h2⟩;simp only[ht]at r1;have hsz:=aGe r1;have r2:=aEM r1;have r3:=(hf (n,t)).1 ⟨h1,by show t.size≤1048576;omega⟩;exact aIm w0 T0 he (show n.size≤1000000000 by omega) (show t.size≤1048576 by omega) r3 r2
open Go.RowKit
def pI (kd sp:Int)(tx:ByteArray):Bool:=decide (kd=1)&&(decide (sp=0)&&tx.data.toList.isEmpty)
theorem yL {t:ByteArray}(h:t.data.toList.isEmpty=true):t=⟨#[]⟩:=gU (by simpa using h)
theorem aC6 {t:ByteArray}(h:t.data.toList.isEmpty=false):¬t.toList=[]:=by rw[toList_data];intro e;rw[e]at h;cases h
theorem aA1 {t:ByteArray}(h:t.data.toList.isEmpty=false):t.toList.isEmpty=false:=by rw[toList_data];exact h
theorem yR (kd sp:Int)(nm tx:ByteArray)(av kv:Value)(w:World)(b:Bool)(hb:Hid (pI kd sp tx=b)) :
  Calls Tryz.prog 149 #[.agg #[.int .i64 kd,.int .i64 sp,.string nm,av,.string tx,kv]] w (bA b w):=by
 by_cases h1:kd=1
 ·subst h1;by_cases h2:sp=0
  ·subst h2;cases h3:tx.data.toList.isEmpty with
   | true =>
    obtain rfl:=yL h3;have HB:Hid (b=true):=by show _=_;rw[←hb.out];rfl
    clear hb h3;go_enter Tryz.func149,Tryz.ntmps149
    go_wp2
    go_ret;exact⟨by rw[HB.out];rfl,(Below.refl _ w).alloc fW _⟩
   | false =>
    have k1:=aC6 h3;have k2:=aA1 h3;have HB:Hid (b=false):=by show _=_;rw[←hb.out];unfold pI;rw[h3];rfl
    clear hb h3;go_enter Tryz.func149,Tryz.ntmps149
    go_wp2
    go_ret;exact⟨by rw[HB.out];rfl,(Below.refl _ w).alloc fW _⟩
  ·have k1:(sp==0)=false:=by rw[beq_eq_false_iff_ne];exact h2
   have HB:Hid (b=false):=by show _=_;rw[←hb.out];unfold pI;rw[decide_eq_false h2];rfl
   clear hb h2;go_enter Tryz.func149,Tryz.ntmps149
   go_wp2
   go_ret;exact⟨by rw[HB.out];rfl,(Below.refl _ w).alloc fW _⟩
 ·have k1:(kd==1)=false:=by rw[beq_eq_false_iff_ne];exact h1
  have HB:Hid (b=false):=by show _=_;rw[←hb.out];unfold pI;rw[decide_eq_false h1];rfl
  clear hb h1;go_enter Tryz.func149,Tryz.ntmps149
  go_wp2
  go_ret;exact⟨by rw[HB.out];rfl,(Below.refl _ w).alloc fW _⟩
def aAF (kd sp:Int)(nm tx:ByteArray)(na:Nat)(name:ByteArray):Bool:=pI kd sp tx&&(decide (nm=name)&&decide (na=0))
theorem rC (kd sp:Int)(nm tx:ByteArray)(a:Option Addr)(na c:Nat)(kv:Value)(name:ByteArray)(w:World)(b:Bool)(hb:Hid (aAF kd sp nm tx na name=b)) :
  Calls Tryz.prog 90 #[.agg #[.int .i64 kd,.int .i64 sp,.string nm,.slice a na c,.string tx,kv],.string name] w (bA b w):=by
 have hE:=fun W=>yR kd sp nm tx (.slice a na c) kv W (pI kd sp tx) (hid rfl)
 have hb2:=hb.out;unfold aAF at hb2;generalize pI kd sp tx=q at hE hb2;have HE:=hid hE;have HB2:=hid hb2;clear hE hb hb2;go_enter Tryz.func90,Tryz.ntmps90
 go_wp2_with fail
 refine(HE.out _).mono ?_;unfold bA;rintro e W1 ⟨rfl,B1⟩;have hB:=(Below.refl w.heap.size w).alloc fW (.cells #[.int .i64 kd,.int .i64 sp,.string nm,.slice a na c,.string tx,kv] 45);have x2:W1.cell? ⟨w.heap.size,2,none⟩=some (.string nm):=by rw[B1.cell (p:=⟨w.heap.size,2,none⟩) (by simp),cell_of_row _ w.heap.size 2 _ 45 (0,0) (heap_alloc_new w _)];rfl
 have x3:W1.cell? ⟨w.heap.size,3,none⟩=some (.slice a na c):=by rw[B1.cell (p:=⟨w.heap.size,3,none⟩) (by simp),cell_of_row _ w.heap.size 3 _ 45 (0,0) (heap_alloc_new w _)];rfl
 have HB1:=hid (hB.trans (B1.mono (by simp)));clear B1 hB;cases q with
 | false =>
  have HF:Hid (b=false):=by show _=_;rw[←HB2.out];rfl
  go_wp2
  go_ret;exact⟨by rw[HF.out];rfl,HB1.out⟩
 | true =>
  by_cases h1:nm=name
  ·subst h1;have e1:(nm.toList==nm.toList)=true:=by simp
   have HF:Hid (b=decide (na=0)):=by show _=_;rw[←HB2.out];simp
   by_cases h2:na=0
   ·subst h2;go_wp2
    go_ret;exact⟨by rw[HF.out];rfl,HB1.out⟩
   ·have e2:((na:Int)==0)=false:=by rw[beq_eq_false_iff_ne];omega
    go_wp2
    go_ret;exact⟨by rw[HF.out,decide_eq_false h2];rfl,HB1.out⟩
  ·have e1:(nm.toList==name.toList)=false:=by rw[beq_eq_false_iff_ne];exact qI h1
   have HF:Hid (b=false):=by show _=_;rw[←HB2.out,decide_eq_false h1];rfl
   clear h1;go_wp2
   go_ret;exact⟨by rw[HF.out];rfl,HB1.out⟩
def aAX (kd sp:Int)(nm tx:ByteArray)(na nk:Nat):Bool:=decide (kd=2)&&(decide (sp=0)&&(nm.data.toList.isEmpty&&(decide (na=0)&&(decide (nk=0)&&(!tx.data.toList.isEmpty&&decide (cL tx=tx))))))
theorem nL (kd sp:Int)(nm tx:ByteArray)(a:Option Addr)(na c:Nat)(a':Option Addr)(nk c':Nat)(w:World)
  (h:(kd==2)=false∨(kd=2∧(sp==0)=false)∨(kd=2∧sp=0∧(nm.toList.isEmpty=false∧¬nm.toList=[]))∨(kd=2∧sp=0∧nm=⟨#[]⟩∧((na:Int)==0)=false)∨(kd=2∧sp=0∧nm=⟨#[]⟩∧na=0∧((nk:Int)==0)=false)∨(kd=2∧sp=0∧nm=⟨#[]⟩∧na=0∧nk=0∧tx=⟨#[]⟩)) :
  Calls Tryz.prog 151 #[.agg #[.int .i64 kd,.int .i64 sp,.string nm,.slice a na c,.string tx,.slice a' nk c']] w (bA false w):=by
 go_enter Tryz.func151,Tryz.ntmps151
 rcases h with h|⟨rfl,h⟩|⟨rfl,rfl,h,h'⟩|⟨rfl,rfl,rfl,h⟩|⟨rfl,rfl,rfl,rfl,h⟩|⟨rfl,rfl,rfl,rfl,rfl,rfl⟩
 all_goals
  go_wp2
  go_quiet (fail)
  go_wp2
  go_ret;exact⟨rfl,((Below.refl _ w).alloc fW _).trans ((below_drewNm _ nq).mono (by simp))⟩
theorem aHK (tx:ByteArray)(hz:tx.size≤1000000000)(_k1:¬tx.toList=[])(k2:tx.toList.isEmpty=false)(a:Option Addr)(c:Nat)(a':Option Addr)(c':Nat)(w:World)(T:aB w)(b:Bool)(hb:Hid (decide (cL tx=tx)=b)) :
  Calls Tryz.prog 151 #[.agg #[.int .i64 2,.int .i64 0,.string ⟨#[]⟩,.slice a 0 c,.string tx,.slice a' 0 c']] w (bA b w):=by
 have HT:=hid T;have X:=fun W TW=>nR tx hz W TW
 have ht:(⟨(cT tx.data.toList).toArray⟩:ByteArray)=cL tx:=rfl;rw[ht]at X
 have hcmp:((cL tx).toList==tx.toList)=b:=by
  rw[←hb.out];by_cases h:cL tx=tx
  ·rw[h];simp
  ·rw[decide_eq_false h,beq_eq_false_iff_ne];exact qI h
 have HX:=hid X;generalize cL tx=y at *
 clear T X ht hb;go_enter Tryz.func151,Tryz.ntmps151
 go_wp2_with fail
 obtain⟨W0,hW0⟩:∃W0,W0=w.alloc (.cells #[.int .i64 2,.int .i64 0,.string ⟨#[]⟩,.slice a 0 c,.string tx,.slice a' 0 c'] 45):=⟨_,rfl⟩
 have hB0:Below w.heap.size w W0:=by rw[hW0];exact(Below.refl _ w).alloc fW _
 have hP:=aP w (.int .i64 2) (.int .i64 0) (.string ⟨#[]⟩) (.slice a 0 c) (.string tx) (.slice a' 0 c');rw[←hW0]at hP
 try rw[←hW0]
 have HP:=hid hP;have HB0:=hid hB0;clear hP hB0 hW0;obtain⟨S,hS⟩:∃S:World→Prop,∀u,S u↔Below W0.heap.size W0 u:=⟨_,fun _=>Iff.rfl⟩
 have g0:∀s:WIn S,s.w.cell? ⟨w.heap.size,0,none⟩=some (.int .i64 2):=fun s=>(HP.out.below ((hS _).1 s.h) fW).x0
 have g1:∀s:WIn S,s.w.cell? ⟨w.heap.size,1,none⟩=some (.int .i64 0):=fun s=>(HP.out.below ((hS _).1 s.h) fW).x1
 have g2:∀s:WIn S,s.w.cell? ⟨w.heap.size,2,none⟩=some (.string ⟨#[]⟩):=fun s=>(HP.out.below ((hS _).1 s.h) fW).x2
 have g3:∀s:WIn S,s.w.cell? ⟨w.heap.size,3,none⟩=some (.slice a 0 c):=fun s=>(HP.out.below ((hS _).1 s.h) fW).x3
 have g4:∀s:WIn S,s.w.cell? ⟨w.heap.size,4,none⟩=some (.string tx):=fun s=>(HP.out.below ((hS _).1 s.h) fW).x4
 have g5:∀s:WIn S,s.w.cell? ⟨w.heap.size,5,none⟩=some (.slice a' 0 c'):=fun s=>(HP.out.below ((hS _).1 s.h) fW).x5
 haveI:Nonempty (WIn S):=⟨⟨W0,(hS _).2 (Below.refl _ _)⟩⟩
 have HS:=hid hS;clear hS;refine eK 38 [([0,1,2,3,4,5,6,7,8,9,10,11,12,13,14,15,16,17,18,19,20,21,22,23,24,25,26,27,28,29,30,31,32,34,35],33)] [36,37] S (by kernel_rfl) (by kernel_rfl) ((HS.out _).2 (below_drewNm W0 1)) ?_;refine aZ (fun K' hK'=>?_);simp only[pick,pickZ,pickS,pickG];repeat (go_big_quiet_step (fail))
 refine wpQuiet_nil (hK' _ (fun Q1 hQ1=>?_));clear hK' K';simp only[pick,pickZ,pickS,pickG];go_wp2_with fail
 have hBw:Below w.heap.size w (W0.drewN 1):=HB0.out.trans ((below_drewNm W0 1).mono HB0.out.size);refine(HX.out _ (HT.out.below hBw fW)).mono ?_;rintro e W1 ⟨rfl,B1⟩;have hB01:Below W0.heap.size W0 W1:=(below_drewNm W0 1).trans (B1.mono (below_drewNm W0 1).size);have HB1:=hid (hBw.trans (B1.mono hBw.size));have HB01:=hid hB01;clear B1 hB01 hBw;go_wp2_with fail
 refine hQ1 _ _ ((HS.out _).2 HB01.out) (fE (fun K' hK'=>?_));clear hQ1 Q1;simp only[pick,pickZ,pickS,pickG];repeat (go_big_quiet_step (fail))
 refine wpQuiet_nil (hK' _ (fun Q4 hQ4=>?_));clear hK' K';simp only[List.drop_succ_cons,List.drop_zero];clear g0 g1 g2 g3 g4 g5;go_wp2
 go_ret;exact⟨rfl,HB1.out⟩
theorem aB2 (kd sp:Int)(nm tx:ByteArray)(hz:tx.size≤1000000000)(a:Option Addr)(na c:Nat)(a':Option Addr)(nk c':Nat)(w:World)(T:aB w)(b:Bool)(hb:Hid (aAX kd sp nm tx na nk=b)) :
  Calls Tryz.prog 151 #[.agg #[.int .i64 kd,.int .i64 sp,.string nm,.slice a na c,.string tx,.slice a' nk c']] w (bA b w):=by
 have hb':=hb.out;unfold aAX at hb';by_cases h1:kd=2
 ·by_cases h2:sp=0
  ·cases h3:nm.data.toList.isEmpty with
   | false =>
    obtain rfl:false=b:=by rw[←hb',decide_eq_true h1,decide_eq_true h2,h3];rfl
    exact nL kd sp nm tx a na c a' nk c' w (.inr (.inr (.inl ⟨h1,h2,aA1 h3,aC6 h3⟩)))
   | true =>
    have hnm:=yL h3;by_cases h4:na=0
    ·by_cases h5:nk=0
     ·cases h6:tx.data.toList.isEmpty with
      | true =>
       obtain rfl:false=b:=by rw[←hb',h6];simp
       exact nL kd sp nm tx a na c a' nk c' w (.inr (.inr (.inr (.inr (.inr ⟨h1,h2,hnm,h4,h5,yL h6⟩)))))
      | false =>
       subst h1 h2 hnm h4 h5;refine aHK tx hz (aC6 h6) (aA1 h6) a c a' c' w T b ?_;show _=_;rw[←hb',h6];simp
     ·obtain rfl:false=b:=by rw[←hb',decide_eq_false h5];simp
      exact nL kd sp nm tx a na c a' nk c' w (.inr (.inr (.inr (.inr (.inl ⟨h1,h2,hnm,h4,by rw[beq_eq_false_iff_ne];omega⟩)))))
    ·obtain rfl:false=b:=by rw[←hb',decide_eq_false h4];simp
     exact nL kd sp nm tx a na c a' nk c' w (.inr (.inr (.inr (.inl ⟨h1,h2,hnm,by rw[beq_eq_false_iff_ne];omega⟩))))
  ·obtain rfl:false=b:=by rw[←hb',decide_eq_false h2];simp
   exact nL kd sp nm tx a na c a' nk c' w (.inr (.inl ⟨h1,by rw[beq_eq_false_iff_ne];exact h2⟩))
 ·obtain rfl:false=b:=by rw[←hb',decide_eq_false h1];rfl
  exact nL kd sp nm tx a na c a' nk c' w (.inl (by rw[beq_eq_false_iff_ne];exact h1))
theorem aBN (va vb:Value)(l m:List AT)(hl:l.length≤1000000000)(hm:m.length≤1000000000)(w:World)(hA:Hid (dZ w va l))(hB:Hid (dZ w vb m))(b:Bool)(hb:Hid (decide (l=m)=b)) :
  Calls Tryz.prog 150 #[va,vb] w (bA b w):=by
 obtain⟨aa,ca,rfl,_⟩:=hA.out;obtain⟨ab,cb,rfl,_⟩:=hB.out;by_cases hlen:l.length=m.length
 ·have e0:((l.length:Int) !=(m.length:Int))=false:=by simp;omega
  have HLEN:=hid hlen;clear hlen;go_enter Tryz.func150,Tryz.ntmps150
  go_wp2
  go_loopw [4,13] (fun r i wx=>r=.bool false∧∃k:Nat,i=.int .i64 k∧Hid (k≤l.length∧l.take k=m.take k∧Below w.heap.size w wx)) (fun _ i _=>l.length-(intOf i).toNat)
  case atStart=>exact⟨rfl,0,rfl,hid ⟨Nat.zero_le _,by simp,Below.refl _ _⟩⟩
  case round =>
   obtain⟨rfl,k,rfl,hK⟩:=hrel;have hk:=hK.out.1;rcases Nat.lt_or_ge k l.length with hlt|hge
   ·have hlt2:k<m.length:=by have:=HLEN.out;omega
    obtain⟨g1,o1,c1,hv1,a1,a2⟩:=(hA.out.below hK.out.2.2 fW).get k hlt;obtain⟨g2,o2,c2,hv2,b1,b2⟩:=(hB.out.below hK.out.2.2 fW).get k hlt2;simp only[Value.slice.injEq,true_and]at hv1 hv2;obtain⟨rfl,rfl⟩:=hv1;obtain⟨rfl,rfl⟩:=hv2;have HNE:Hid (l[k]≠m[k]→b=false):=fun h=>by
     rw[←hb.out,decide_eq_false (fun e=>h (by subst e;rfl))]
    have HEQ:Hid (l[k]=m[k]→l.take (k+1)=m.take (k+1)):=fun h=>by
     rw[List.take_succ_eq_append_getElem hlt,List.take_succ_eq_append_getElem hlt2,hK.out.2.1,h]
    generalize l[k]=q at *
    generalize m[k]=u at *
    obtain⟨qn,qv⟩:=q;obtain⟨un,uv⟩:=u;simp only at a1 a2 b1 b2;by_cases h1:qn=un
    ·subst h1;have e1:(qn.toList==qn.toList)=true:=by simp
     by_cases h2:qv=uv
     ·subst h2;have e2:(qv.toList==qv.toList)=true:=by simp
      have HT:=hid (HEQ.out rfl);go_wp2_with fail
      go_quiet (fail)
      go_wp2
      refine⟨⟨rfl,k+1,by congr 1,hid ⟨hlt,HT.out,⟨hK.out.2.2.os,hK.out.2.2.tape,hK.out.2.2.output,hK.out.2.2.size,hK.out.2.2.block⟩⟩⟩,?_⟩;simp[intOf];omega
     ·have e2:(qv.toList==uv.toList)=false:=by rw[beq_eq_false_iff_ne];exact qI h2
      have HF:=hid (HNE.out (fun e=>h2 (by injection e)));clear h2;go_wp2_with fail
      go_quiet (fail)
      go_wp2
      go_ret;exact⟨by rw[HF.out];rfl,⟨hK.out.2.2.os,hK.out.2.2.tape,hK.out.2.2.output,hK.out.2.2.size,hK.out.2.2.block⟩⟩
    ·have e1:(qn.toList==un.toList)=false:=by rw[beq_eq_false_iff_ne];exact qI h1
     have HF:=hid (HNE.out (fun e=>h1 (by injection e)));clear h1;go_wp2_with fail
     go_quiet (fail)
     go_wp2
     go_ret;exact⟨by rw[HF.out];rfl,⟨hK.out.2.2.os,hK.out.2.2.tape,hK.out.2.2.output,hK.out.2.2.size,hK.out.2.2.block⟩⟩
   ·have HF:Hid (b=true):=by
     show _=_;rw[←hb.out];have h:=hK.out.2.1;rw[List.take_of_length_le hge,List.take_of_length_le (by have:=HLEN.out;omega)]at h
     rw[h];simp
    go_wp2
    go_ret;exact⟨by rw[HF.out];rfl,hK.out.2.2⟩
 ·have e0:((l.length:Int) !=(m.length:Int))=true:=by rw[bne_iff_ne];omega
  have HF:Hid (b=false):=by
   show _=_;rw[←hb.out,decide_eq_false (fun e=>hlen (by rw[e]))]
  go_enter Tryz.func150,Tryz.ntmps150
  go_wp2
  go_ret;exact⟨by rw[HF.out];rfl,Below.refl _ _⟩
