/-
  policy.Text and Link as functions of byte arrays.
  What is let through of nodes (clean.Filter), as a plain function, and what the laws say of it. No program in sight.
  policy.form as a plain function: which form a value has, by its element and its attribute.
  policy.language: what it answers.
  atof64 at every numeral.
  real.Fix, of every text: its one text, or none.
  policy.form at dir.
  The law's shown, plainly: what comes out of the two examples.
-/
import Derived.Test.YtcfgbdhpcboikaaGreatDoorTextLawB
import Derived.Test.YtcfgbdhpcboikaaGreatDoorBase
import Derived.Test.YtcfgbdhpcboikaaGreatDoorKinds
import Derived.Test.YtcfgbdhpcboikaaGreatDoorAttrL
import Derived.Test.YtcfgbdhpcboikaaGreatDoorAtofB
import Derived.Test.YtcfgbdhpcboikaaGreatDoorCmp
import Derived.Test.YtcfgbdhpcboikaaGreatDoorDecV
namespace Go.Proofs.YtcfgbdhpcboikaaGreatDoor
set_option maxHeartbeats 4000000
set_option maxRecDepth 100000
open Go.RowKit
def textB (v:ByteArray):ByteArray:=⟨(textL v.data.toList).toArray⟩
def linkB (v:ByteArray):ByteArray:=⟨(linkL v.data.toList).toArray⟩
theorem ba_ext {a b:ByteArray}(h:a.data.toList=b.data.toList):a=b:=by
 cases a;cases b
 simpa using h
theorem textB_data (v:ByteArray):(textB v).data.toList=textL v.data.toList:=rfl
theorem linkB_data (v:ByteArray):(linkB v).data.toList=linkL v.data.toList:=rfl
theorem textB_idem (v:ByteArray):textB (textB v)=textB v:=ba_ext (by rw[textB_data,textB_data,text_text])
theorem linkB_idem (v:ByteArray):linkB (linkB v)=linkB v:=ba_ext (by rw[linkB_data,linkB_data,link_link])
open Go.RowKit
abbrev AFam:=ByteArray→List AT→List AT
def txtN (t:ByteArray):Nd:=.mk 2 0 ⟨#[]⟩ [] t []
def Nd.more (n:Nd)(t:ByteArray):Nd:=.mk n.kind n.space n.name n.attrs (n.text++t) n.kids
def addText (out:List Nd)(t:ByteArray):List Nd :=
 match out.getLast? with
 | none=>out++[txtN t]
 | some x=>if x.kind=2 then out.dropLast++[x.more t] else out++[txtN t]
def textS (pn:ByteArray)(out:List Nd)(s:ByteArray):List Nd :=
 if textB s=⟨#[]⟩∨takesL pn.data.toList=false then out else addText out (textB s)
def mayS (pn:ByteArray)(ph:List ByteArray)(out:List Nd)(nm:ByteArray):Bool :=
 mayL pn.data.toList nm.data.toList&&(if kindL nm.data.toList=4 then !Lib.containsS ph nm else if kindL nm.data.toList=10 then decide (out=[]) else true)
def phOf (nm:ByteArray)(ph:List ByteArray):List ByteArray:=if kindL nm.data.toList=4 then ph++[nm] else ph
def isVoid (nm:ByteArray):Prop:=kindL nm.data.toList=5∨kindL nm.data.toList=6
instance (nm:ByteArray):Decidable (isVoid nm):=by unfold isVoid;exact inferInstance
mutual
def sieveN (A:AFam):ByteArray→List ByteArray→List Nd→Nd→List Nd
 | pn,ph,out,.mk kd sp nm at' tx ks =>
  if kd=2 then textS pn out tx
  else if kd≠1∨sp≠0∨kindL nm.data.toList=1 then out
  else if mayS pn ph out nm=true then out++[.mk 1 0 nm (A nm at') ⟨#[]⟩ (if isVoid nm then [] else sieveK A nm (phOf nm ph) [] ks)]
  else sieveK A pn ph out ks
def sieveK (A:AFam):ByteArray→List ByteArray→List Nd→List Nd→List Nd
 | _,_,out,[]=>out
 | pn,ph,out,n :: ns=>sieveK A pn ph (sieveN A pn ph out n) ns
end
def filterN (A:AFam)(pn:ByteArray)(ph:List ByteArray)(l:List Nd):List Nd:=if isVoid pn then [] else sieveK A pn (phOf pn ph) [] l
theorem sieveN_eq (A:AFam)(pn:ByteArray)(ph:List ByteArray)(out:List Nd)(n:Nd):sieveN A pn ph out n =
  if n.kind=2 then textS pn out n.text
  else if n.kind≠1∨n.space≠0∨kindL n.name.data.toList=1 then out
  else if mayS pn ph out n.name=true then out++[.mk 1 0 n.name (A n.name n.attrs) ⟨#[]⟩ (filterN A n.name ph n.kids)]
  else sieveK A pn ph out n.kids:=by
 cases n
 conv=>lhs;unfold sieveN
 rfl
theorem sieveK_nil (A:AFam)(pn:ByteArray)(ph:List ByteArray)(out:List Nd):sieveK A pn ph out []=out:=by unfold sieveK;rfl
theorem sieveK_cons (A:AFam)(pn:ByteArray)(ph:List ByteArray)(out:List Nd)(n:Nd)(ns:List Nd):sieveK A pn ph out (n :: ns)=sieveK A pn ph (sieveN A pn ph out n) ns:=by
 conv=>lhs;unfold sieveK
theorem sieveK_append (A:AFam)(pn:ByteArray)(ph:List ByteArray):∀ (a b out:List Nd),sieveK A pn ph out (a++b)=sieveK A pn ph (sieveK A pn ph out a) b:=by
 intro a
 induction a with
 | nil=>intro b out;rw[List.nil_append,sieveK_nil]
 | cons n a ih=>intro b out;rw[List.cons_append,sieveK_cons,sieveK_cons,ih]
theorem addText_last (out:List Nd)(x:Nd)(t:ByteArray):addText (out++[x]) t=if x.kind=2 then out++[x.more t] else out++[x]++[txtN t]:=by
 unfold addText
 rw[List.getLast?_append]
 simp
theorem addText_front (P:List Nd)(z:Nd)(hz:z.kind≠2)(out:List Nd)(t:ByteArray):addText (P++[z]++out) t=P++[z]++addText out t:=by
 cases ho:out.getLast? with
 | none =>
  have:out=[]:=by cases out with|nil=>rfl|cons y ys=>simp at ho
  subst this
  rw[List.append_nil,addText_last,if_neg hz]
  rfl
 | some x =>
  obtain⟨ys,rfl⟩:∃ ys,out=ys++[x]:=List.getLast?_eq_some_iff.1 ho
  rw[← List.append_assoc,addText_last,addText_last]
  split<;>simp
theorem sieve_front (A:AFam)(P:List Nd)(z:Nd)(hz:z.kind≠2) :
  (∀ (n:Nd) (pn:ByteArray) (ph:List ByteArray) (out:List Nd),(∀ nm:ByteArray,mayL pn.data.toList nm.data.toList=true→kindL nm.data.toList≠10)→sieveN A pn ph (P++[z]++out) n=P++[z]++sieveN A pn ph out n) ∧
  (∀ (l:List Nd) (pn:ByteArray) (ph:List ByteArray) (out:List Nd),(∀ nm:ByteArray,mayL pn.data.toList nm.data.toList=true→kindL nm.data.toList≠10)→sieveK A pn ph (P++[z]++out) l=P++[z]++sieveK A pn ph out l):=by
 refine nd_ind (P:=fun n=>∀ (pn:ByteArray) (ph:List ByteArray) (out:List Nd),(∀ nm:ByteArray,mayL pn.data.toList nm.data.toList=true→kindL nm.data.toList≠10)→sieveN A pn ph (P++[z]++out) n=P++[z]++sieveN A pn ph out n)
  (Q:=fun l=>∀ (pn:ByteArray) (ph:List ByteArray) (out:List Nd),(∀ nm:ByteArray,mayL pn.data.toList nm.data.toList=true→kindL nm.data.toList≠10)→sieveK A pn ph (P++[z]++out) l=P++[z]++sieveK A pn ph out l) ?_ ?_ ?_
 ·intro n ih pn ph out hm
  rw[sieveN_eq,sieveN_eq]
  have hmay:mayS pn ph (P++[z]++out) n.name=mayS pn ph out n.name:=by
   unfold mayS
   cases h:mayL pn.data.toList n.name.data.toList with
   | false=>rfl
   | true=>rw[if_neg (hm _ h),if_neg (hm _ h)]
  rw[hmay]
  split
  ·unfold textS
   split
   ·rfl
   ·exact addText_front P z hz out _
  ·split
   ·rfl
   ·split
    ·rw[List.append_assoc]
    ·exact ih pn ph out hm
 ·intro pn ph out _
  rw[sieveK_nil,sieveK_nil]
 ·intro n ns h1 h2 pn ph out hm
  rw[sieveK_cons,sieveK_cons,h1 pn ph out hm,h2 pn ph _ hm]
def sBr:ByteArray:=⟨#[98,114]⟩
def elN (nm:ByteArray)(ks:List Nd):Nd:=.mk 1 0 nm [] ⟨#[]⟩ ks
theorem br_no_title:∀ p<15,mayN p 5 false=true→∀ k<15,∀ b:Bool,mayN p k b=true→k≠10:=by decide +kernel
theorem br_kind:kindL sBr.data.toList=5:=by decide +kernel
theorem br_same (pn:List UInt8)(h:mayL pn sBr.data.toList=true):mayN (kindL pn) 5 false=true:=by
 unfold mayL at h
 rw[br_kind] at h
 cases hb:sBr.data.toList==pn with
 | false=>rw[hb] at h;exact h
 | true =>
  have e:sBr.data.toList=pn:=by simpa using hb
  rw[← e,br_kind] at h
  exact absurd h (by cases (sBr.data.toList==sBr.data.toList)<;>decide)
theorem br_may {pn:ByteArray}(h:mayL pn.data.toList sBr.data.toList=true)(nm:ByteArray)(hn:mayL pn.data.toList nm.data.toList=true):kindL nm.data.toList≠10 :=
 br_no_title _ (by have:=kindL_le pn.data.toList;omega) (br_same _ h) _ (by have:=kindL_le nm.data.toList;omega) _ hn
theorem br_void (pn:ByteArray)(h:mayL pn.data.toList sBr.data.toList=true):¬ isVoid pn:=by
 have h1:=br_same _ h
 rintro(e|e)<;>(rw[e] at h1;exact absurd h1 (by decide))
theorem filter_parts (A:AFam)(hA:A sBr []=[])(pn:ByteArray)(ph:List ByteArray)(a b:List Nd)(h:mayL pn.data.toList sBr.data.toList=true) :
  filterN A pn ph (a++[elN sBr []]++b)=filterN A pn ph a++[elN sBr []]++filterN A pn ph b:=by
 unfold filterN
 rw[if_neg (br_void pn h),if_neg (br_void pn h),if_neg (br_void pn h),sieveK_append,sieveK_append,sieveK_cons,sieveK_nil]
 have e:∀ out,sieveN A pn (phOf pn ph) out (elN sBr [])=out++[elN sBr []]++[]:=by
  intro out
  rw[sieveN_eq]
  have hk:kindL (elN sBr []).name.data.toList=5:=br_kind
  have hm:mayS pn (phOf pn ph) out (elN sBr []).name=true:=by
   unfold mayS
   rw[if_neg (by rw[hk];decide),if_neg (by rw[hk];decide)]
   show(mayL pn.data.toList sBr.data.toList&&true)=true
   rw[h];rfl
  rw[if_neg (by decide),if_neg (by rw[hk];decide),if_pos hm,List.append_nil]
  have hf:filterN A (elN sBr []).name (phOf pn ph) (elN sBr []).kids=[]:=by unfold filterN;rw[if_pos (show isVoid _ from Or.inl hk)]
  rw[hf]
  show _++[Nd.mk 1 0 sBr (A sBr []) ⟨#[]⟩ []]=_
  rw[hA]
  rfl
 rw[e,(sieve_front A _ (elN sBr []) (by decide)).2 b pn _ [] (fun nm hn=>br_may h nm hn)]
def wrapL (f:Nat→ByteArray):Nat→List Nd→List Nd
 | 0,l=>l
 | i+1,l=>[elN (f i) (wrapL f i l)]
theorem may_zero:∀ p<15,∀ b:Bool,mayN p 0 b=false:=by decide +kernel
theorem filter_wrap (A:AFam)(f:Nat→ByteArray)(hf:∀ i,kindL (f i).data.toList=0)(pn:ByteArray)(ph:List ByteArray)(l:List Nd):∀ i,filterN A pn ph (wrapL f i l)=filterN A pn ph l:=by
 have key:∀ i out,sieveK A pn (phOf pn ph) out (wrapL f i l)=sieveK A pn (phOf pn ph) out l:=by
  intro i
  induction i with
  | zero=>intro out;rfl
  | succ i ih =>
   intro out
   show sieveK A pn (phOf pn ph) out [elN (f i) (wrapL f i l)]=_
   rw[sieveK_cons,sieveK_nil,sieveN_eq]
   have hk:kindL (elN (f i) (wrapL f i l)).name.data.toList=0:=hf i
   have hm:mayS pn (phOf pn ph) out (elN (f i) (wrapL f i l)).name=false:=by
    unfold mayS mayL
    rw[hk,may_zero _ (by have:=kindL_le pn.data.toList;omega)]
    rfl
   rw[if_neg (by show ¬ (1:Int)=2;decide),if_neg (by rw[hk];rintro(h|h|h);exact h rfl;exact h rfl;cases h),if_neg (by rw[hm];decide)]
   exact ih out
 intro i
 unfold filterN
 rw[key]
theorem filter_gone (A:AFam)(pn:ByteArray)(ph:List ByteArray)(x y:Nd)(hx:x.kind=1∧kindL x.name.data.toList=1)(hy:y.kind=1∧y.space≠0):filterN A pn ph [x,y]=[]:=by
 unfold filterN
 split
 ·rfl
 ·rw[sieveK_cons,sieveK_cons,sieveK_nil,sieveN_eq A pn _ [] x,if_neg (by rw[hx.1];decide),if_pos (.inr (.inr hx.2)),sieveN_eq,if_neg (by rw[hy.1];decide),if_pos (.inr (.inl hy.2))]
mutual
def textsN (f:List UInt8→List UInt8):Nd→List UInt8
 | .mk kd _ _ _ tx ks=>(if kd=2 then f tx.data.toList else [])++textsK f ks
def textsK (f:List UInt8→List UInt8):List Nd→List UInt8
 | []=>[]
 | n :: ns=>textsN f n++textsK f ns
end
theorem textsN_eq (f:List UInt8→List UInt8)(n:Nd):textsN f n=(if n.kind=2 then f n.text.data.toList else [])++textsK f n.kids:=by
 cases n
 conv=>lhs;unfold textsN
 rfl
theorem textsK_nil (f:List UInt8→List UInt8):textsK f []=[]:=by unfold textsK;rfl
theorem textsK_cons (f:List UInt8→List UInt8)(n:Nd)(ns:List Nd):textsK f (n :: ns)=textsN f n++textsK f ns:=by conv=>lhs;unfold textsK
theorem textsK_append (f:List UInt8→List UInt8):∀ a b:List Nd,textsK f (a++b)=textsK f a++textsK f b:=by
 intro a
 induction a with
 | nil=>intro b;rw[List.nil_append,textsK_nil,List.nil_append]
 | cons n a ih=>intro b;rw[List.cons_append,textsK_cons,textsK_cons,ih,List.append_assoc]
def Leafy (l:List Nd):Prop:=∀ x∈l,x.kind=2→x.kids=[]
theorem Leafy.add {out:List Nd}(h:Leafy out)(t:ByteArray):Leafy (addText out t):=by
 unfold addText
 have htx:(txtN t).kind=2→(txtN t).kids=[]:=fun _=>rfl
 split
 ·intro x hx
  rcases List.mem_append.1 hx with hx|hx
  ·exact h x hx
  ·rw[List.mem_singleton.1 hx];exact htx
 ·rename_i y hy
  split
  ·intro x hx
   rcases List.mem_append.1 hx with hx|hx
   ·exact h x (List.dropLast_subset _ hx)
   ·rw[List.mem_singleton.1 hx]
    exact h y (List.mem_of_getLast? hy)
  ·intro x hx
   rcases List.mem_append.1 hx with hx|hx
   ·exact h x hx
   ·rw[List.mem_singleton.1 hx];exact htx
theorem texts_add {out:List Nd}(h:Leafy out)(t:ByteArray):textsK id (addText out t)=textsK id out++t.data.toList:=by
 have htx:textsK id [txtN t]=t.data.toList:=by
  rw[textsK_cons,textsK_nil,textsN_eq,if_pos (show(txtN t).kind=2 from rfl)]
  show id t.data.toList++textsK id []++[]=_
  rw[textsK_nil];simp
 unfold addText
 split
 ·rw[textsK_append,htx]
 ·rename_i y hy
  obtain⟨ys,rfl⟩:∃ ys,out=ys++[y]:=List.getLast?_eq_some_iff.1 hy
  split
  ·rename_i hk
   have hkid:=h y (by simp) hk
   rw[List.dropLast_concat,textsK_append,textsK_append,textsK_cons,textsK_cons,textsK_nil,textsN_eq,textsN_eq,if_pos hk,if_pos (show(y.more t).kind=2 from hk)]
   show textsK id ys++(id (y.text++t).data.toList++textsK id y.kids++[])=_
   rw[hkid,textsK_nil]
   simp
  ·rw[textsK_append,htx]
theorem sieve_texts (A:AFam) :
  (∀ (n:Nd) (pn:ByteArray) (ph:List ByteArray) (out:List Nd),Leafy out→Leafy (sieveN A pn ph out n)∧(textsK id (sieveN A pn ph out n)).Sublist (textsK id out++textsN textL n)) ∧
  (∀ (l:List Nd) (pn:ByteArray) (ph:List ByteArray) (out:List Nd),Leafy out→Leafy (sieveK A pn ph out l)∧(textsK id (sieveK A pn ph out l)).Sublist (textsK id out++textsK textL l)):=by
 refine nd_ind (P:=fun n=>∀ (pn:ByteArray) (ph:List ByteArray) (out:List Nd),Leafy out→Leafy (sieveN A pn ph out n)∧(textsK id (sieveN A pn ph out n)).Sublist (textsK id out++textsN textL n))
  (Q:=fun l=>∀ (pn:ByteArray) (ph:List ByteArray) (out:List Nd),Leafy out→Leafy (sieveK A pn ph out l)∧(textsK id (sieveK A pn ph out l)).Sublist (textsK id out++textsK textL l)) ?_ ?_ ?_
 ·intro n ih pn ph out hl
  rw[sieveN_eq,textsN_eq]
  split
  ·rename_i hk
   try rw[if_pos hk]
   unfold textS
   split
   ·exact⟨hl,List.sublist_append_left _ _⟩
   ·refine⟨hl.add _,?_⟩
    rw[texts_add hl,← List.append_assoc]
    exact List.sublist_append_left _ _
  ·rename_i hk
   try rw[if_neg hk]
   rw[List.nil_append]
   split
   ·exact⟨hl,List.sublist_append_left _ _⟩
   ·split
    ·refine⟨fun x hx=>?_,?_⟩
     ·rcases List.mem_append.1 hx with hx|hx
      ·exact hl x hx
      ·rw[List.mem_singleton.1 hx]
       intro e
       exact absurd e (by show ¬ (1:Int)=2;decide)
     ·rw[textsK_append,textsK_cons,textsK_nil,textsN_eq,if_neg (by show ¬ (1:Int)=2;decide),List.nil_append,List.append_nil]
      refine List.Sublist.append_left ?_ _
      show(textsK id (filterN A n.name ph n.kids)).Sublist _
      unfold filterN
      split
      ·rw[textsK_nil];exact List.nil_sublist _
      ·have:=(ih n.name (phOf n.name ph) [] (fun x hx=>by simp at hx)).2
       rw[textsK_nil,List.nil_append] at this
       exact this
    ·exact ih pn ph out hl
 ·intro pn ph out hl
  rw[sieveK_nil,textsK_nil,List.append_nil]
  exact⟨hl,List.Sublist.refl _⟩
 ·intro n ns h1 h2 pn ph out hl
  rw[sieveK_cons,textsK_cons]
  obtain⟨l1,s1⟩:=h1 pn ph out hl
  obtain⟨l2,s2⟩:=h2 pn ph _ l1
  refine⟨l2,s2.trans ?_⟩
  rw[← List.append_assoc]
  exact s1.append_right _
theorem filter_texts (A:AFam)(pn:ByteArray)(ph:List ByteArray)(l:List Nd):(textsK id (filterN A pn ph l)).Sublist (textsK textL l):=by
 unfold filterN
 split
 ·rw[textsK_nil];exact List.nil_sublist _
 ·have:=((sieve_texts A).2 l pn (phOf pn ph) [] (fun x hx=>by simp at hx)).2
  rw[textsK_nil,List.nil_append] at this
  exact this
open Go.RowKit
def sLang:ByteArray:=⟨#[108,97,110,103]⟩
def sDir:ByteArray:=⟨#[100,105,114]⟩
def sSrc:ByteArray:=⟨#[115,114,99]⟩
def sImg:ByteArray:=⟨#[105,109,103]⟩
def sAlt:ByteArray:=⟨#[97,108,116]⟩
def sHeight:ByteArray:=⟨#[104,101,105,103,104,116]⟩
def sWidth:ByteArray:=⟨#[119,105,100,116,104]⟩
def sOl:ByteArray:=⟨#[111,108]⟩
def sStart:ByteArray:=⟨#[115,116,97,114,116]⟩
def sTd:ByteArray:=⟨#[116,100]⟩
def sTh:ByteArray:=⟨#[116,104]⟩
def sColspan:ByteArray:=⟨#[99,111,108,115,112,97,110]⟩
def sRowspan:ByteArray:=⟨#[114,111,119,115,112,97,110]⟩
def sMeter:ByteArray:=⟨#[109,101,116,101,114]⟩
def sProgress:ByteArray:=⟨#[112,114,111,103,114,101,115,115]⟩
def sMax:ByteArray:=⟨#[109,97,120]⟩
def sValue:ByteArray:=⟨#[118,97,108,117,101]⟩
def sHigh:ByteArray:=⟨#[104,105,103,104]⟩
def sLow:ByteArray:=⟨#[108,111,119]⟩
def sMin:ByteArray:=⟨#[109,105,110]⟩
def sAuto:ByteArray:=⟨#[97,117,116,111]⟩
def sLtr:ByteArray:=⟨#[108,116,114]⟩
def sRtl:ByteArray:=⟨#[114,116,108]⟩
def sHttp:ByteArray:=⟨#[104,116,116,112]⟩
def sHttps:ByteArray:=⟨#[104,116,116,112,115]⟩
inductive FK where
 | text|lang|dir|linkA|linkI|whole (lo hi:Nat)|fix|none
deriving DecidableEq
def isFix (e n:ByteArray):Bool:=(decide (e=sMeter)&&(decide (n=sMax)||decide (n=sValue)||decide (n=sHigh)||decide (n=sLow)||decide (n=sMin)))||(decide (e=sProgress)&&(decide (n=sMax)||decide (n=sValue)))
def fkind (e n:ByteArray):FK :=
 if n=sTitle then .text else if n=sLang then .lang else if n=sDir then .dir
 else if e=sA∧n=sHref then .linkA
 else if e=sImg∧n=sSrc then .linkI
 else if e=sImg∧n=sAlt then .text
 else if e=sImg∧(n=sHeight∨n=sWidth) then .whole 0 9999
 else if e=sOl∧n=sStart then .whole 0 999999
 else if (e=sTd∨e=sTh)∧(n=sColspan∨n=sRowspan) then .whole 1 1000
 else if isFix e n=true then .fix
 else .none
def letterB (c:UInt8):Bool:=(decide (97≤c.toNat)&&decide (c.toNat≤122))||(decide (65≤c.toNat)&&decide (c.toNat≤90))
def langB (c:UInt8)(i:Nat):Bool:=letterB c||(decide (0<i)&&(decide (c.toNat=45)||(decide (48≤c.toNat)&&decide (c.toNat≤57))))
def langAll (l:List UInt8):Prop:=∀ j (h:j<l.length),langB l[j] j=true
def langP (v:ByteArray):Prop:=langAll v.data.toList∧1≤v.size∧v.size≤16
def dirP (v:ByteArray):Prop:=v=sAuto∨v=sLtr∨v=sRtl
def wholeP (lo hi:Nat)(v:ByteArray):Prop:=∃ x,WholeRet v lo hi x true
def smallBA (v:ByteArray):ByteArray:=⟨(smallL v.data.toList).toArray⟩
def zSrc:List ByteArray:=[sHttp,sHttps]
structure FixAt (v t:ByteArray):Prop where
 sz:t.size≤25
 num:numB t.data.toList=true
 yes:∀ w,Tabs w→Calls Tryz.prog 20 #[.string v] w fun e w'=>e=.returned (.tuple #[.string t,.bool true])∧Below w.heap.size w w'
 again:∀ w,Tabs w→Calls Tryz.prog 20 #[.string t] w fun e w'=>e=.returned (.tuple #[.string t,.bool true])∧Below w.heap.size w w'
def FixNo (v:ByteArray):Prop:=∀ w,Tabs w→Calls Tryz.prog 20 #[.string v] w fun e w'=>e=.returned (.tuple #[.string ⟨#[]⟩,.bool false])∧Below w.heap.size w w'
def FormR (k:FK)(v:ByteArray):Option ByteArray→Prop
 | some t=>match k with
  | .text=>t=textB v
  | .lang=>langP v∧t=v
  | .dir=>dirP (smallBA v)∧t=smallBA v
  | .linkA=>linkOk zHref (linkL v.data.toList)=true∧t=linkB v
  | .linkI=>linkOk zSrc (linkL v.data.toList)=true∧t=linkB v
  | .whole lo hi=>wholeP lo hi v∧t=v
  | .fix=>FixAt v t
  | .none=>False
 | none=>match k with
  | .text=>False
  | .lang=>¬ langP v
  | .dir=>¬ dirP (smallBA v)
  | .linkA=>linkOk zHref (linkL v.data.toList)=false
  | .linkI=>linkOk zSrc (linkL v.data.toList)=false
  | .whole lo hi=>∃ x,WholeRet v lo hi x false
  | .fix=>FixNo v
  | .none=>True
def ValueR (e n v:ByteArray)(o:Option ByteArray):Prop :=
 match o with
 | some t=>¬ (kindL e.data.toList<2∨kindL e.data.toList=14)∧FormR (fkind e n) v (some t)∧(escB t).size≤120
 | none=>(kindL e.data.toList<2∨kindL e.data.toList=14)∨FormR (fkind e n) v none∨∃ t,FormR (fkind e n) v (some t)∧120<(escB t).size
theorem dir_small {v:ByteArray}(h:dirP v):smallBA v=v:=by
 rcases h with rfl|rfl|rfl<;>exact ba_ext (by decide)
theorem form_again {k:FK}{v t:ByteArray}(h:FormR k v (some t)):FormR k t (some t):=by
 cases k with
 | text=>subst h;exact(textB_idem v).symm
 | lang=>obtain⟨h1,rfl⟩:=h;exact⟨h1,rfl⟩
 | dir =>
  obtain⟨h1,h2⟩:=h
  rw[← h2] at h1
  have e:=dir_small h1
  exact⟨by rw[e];exact h1,e.symm⟩
 | linkA =>
  obtain⟨h1,rfl⟩:=h
  exact⟨by rw[linkB_data,link_link];exact h1,(linkB_idem v).symm⟩
 | linkI =>
  obtain⟨h1,rfl⟩:=h
  exact⟨by rw[linkB_data,link_link];exact h1,(linkB_idem v).symm⟩
 | whole lo hi=>obtain⟨h1,rfl⟩:=h;exact⟨h1,rfl⟩
 | fix=>exact⟨h.sz,h.num,h.again,h.again⟩
 | none=>exact h
theorem value_again {e n v t:ByteArray}(h:ValueR e n v (some t)):ValueR e n t (some t):=⟨h.1,form_again h.2.1,h.2.2⟩
open Go.RowKit
def LangAt (l:List UInt8)(k:Nat):Prop:=k≤l.length∧∀ j (h:j<l.length),j<k→langB l[j] j=true
theorem LangAt.step {l:List UInt8}{k:Nat}(h:LangAt l k)(hk:k<l.length)(hb:langB l[k] k=true):LangAt l (k+1) :=
 ⟨hk,fun j hj hlt=>by
  rcases Nat.lt_or_ge j k with h1|h1
  ·exact h.2 j hj h1
  ·obtain rfl:j=k:=by omega
   exact hb⟩
theorem lang_bad {l:List UInt8}{k:Nat}(hk:k<l.length)(hb:langB l[k] k=false):¬ langAll l:=fun h=>by
 have:=h k hk
 rw[hb] at this
 cases this
theorem langB_of (c:UInt8)(d k:Nat)(h:c.toNat=d):langB c k=(((decide (97≤d)&&decide (d≤122))||(decide (65≤d)&&decide (d≤90)))||(decide (0<k)&&(decide (d=45)||(decide (48≤d)&&decide (d≤57))))):=by
 unfold langB letterB
 rw[h]
structure LangStep (v:ByteArray) (k d:Nat):Prop where
 yes:(((decide (97≤d)&&decide (d≤122))||(decide (65≤d)&&decide (d≤90)))||(decide (0<k)&&(decide (d=45)||(decide (48≤d)&&decide (d≤57)))))=true→LangAt v.data.toList (k+1)
 no:(((decide (97≤d)&&decide (d≤122))||(decide (65≤d)&&decide (d≤90)))||(decide (0<k)&&(decide (d=45)||(decide (48≤d)&&decide (d≤57)))))=false→¬ langP v
theorem LangStep.of (v:ByteArray)(k d:Nat)(hk:k<v.data.toList.length)(h:LangAt v.data.toList k)(hd:v.data.toList[k].toNat=d):LangStep v k d :=
 ⟨fun hy=>by rw[← langB_of _ d k hd] at hy;exact h.step hk hy,fun hn hp=>by rw[← langB_of _ d k hd] at hn;exact lang_bad hk hn hp.1⟩
theorem lang_any (v:ByteArray)(hv:v.size≤140737488355328)(b:Bool)(hb:Hid (b=true↔langP v))(w:World):Calls Tryz.prog 142 #[.string v] w fun e w'=>e=.returned (.bool b)∧Below w.heap.size w w':=by
 obtain⟨cap,W,hrun,hbel,hby,hcap,hsz⟩:=conv_bytes v w
 have HB:=Lib.hid hbel
 have HY:Hid (BytesAt W w.heap.size 0 v.data.toList):=hby
 have HNO:Hid (¬ langP v→b=false):=fun h=>by
  cases b with
  | false=>rfl
  | true=>exact absurd (hb.out.1 rfl) h
 clear hbel hby hcap hsz
 go_enter Tryz.func142,Tryz.ntmps142
 go_wp2
 clear hrun
 go_loop [2,9] (fun r i=>r=.bool false∧∃ k:Nat,i=.int .i64 k∧Hid (LangAt v.data.toList k)) (fun _ i=>v.size-(intOf i).toNat)
 case atStart=>exact⟨rfl,0,rfl,Lib.hid ⟨Nat.zero_le _,fun j hj h0=>absurd h0 (by omega)⟩⟩
 case round =>
  obtain⟨rfl,k,rfl,hR⟩:=hrel
  rcases Nat.lt_or_ge k v.size with hlt|hge
  ·have hcell:=HY.out k hlt
   obtain⟨d,hd⟩:∃ d,(v.data.toList[k]'hlt).toNat=d:=⟨_,rfl⟩
   have HS:=Lib.hid (LangStep.of v k d hlt hR.out hd)
   have hd8:d<256:=by rw[← hd];exact(v.data.toList[k]'hlt).toNat_lt
   rw[hd,Nat.zero_add] at hcell
   clear hd
   have hcases:(97≤d∧d≤122)∨(65≤d∧d≤90)∨d=45∨(48≤d∧d≤57)∨(d<45∨(45<d∧d<48)∨(57<d∧d<65)∨(90<d∧d<97)∨122<d):=by omega
   rcases hcases with⟨h,h2⟩|⟨h,h2⟩|rfl|⟨h,h2⟩|h
   ·have HF:=Lib.hid (HS.out.yes (by simp;omega))
    have l1:decide ((d:Int)≤122)=true:=by simp;omega
    go_wp2
    go_round
    case rel=>exact⟨rfl,k+1,by go_num,HF⟩
    case measure=>simp[intOf];omega
   ·have HF:=Lib.hid (HS.out.yes (by simp;omega))
    have l1:decide ((d:Int)≤90)=true:=by simp;omega
    go_wp2
    go_round
    case rel=>exact⟨rfl,k+1,by go_num,HF⟩
    case measure=>simp[intOf];omega
   ·rcases Nat.eq_zero_or_pos k with hk0|hk0
    ·subst hk0
     have HF:=Lib.hid (HNO.out (HS.out.no (by simp)))
     go_wp2
     go_ret
     exact⟨by rw[HF.out];rfl,HB.out⟩
    ·have HF:=Lib.hid (HS.out.yes (by simp;omega))
     have tk:((k:Int)==0)=false:=by rw[beq_eq_false_iff_ne];omega
     go_wp2
     go_round
     case rel=>exact⟨rfl,k+1,by go_num,HF⟩
     case measure=>simp[intOf];omega
   ·have t45:((d:Int)==45)=false:=by rw[beq_eq_false_iff_ne];omega
    have t45':((d:Int) !=45)=true:=by rw[bne_iff_ne];omega
    have l1:decide ((d:Int)≤57)=true:=by simp;omega
    rcases Nat.eq_zero_or_pos k with hk0|hk0
    ·subst hk0
     have HF:=Lib.hid (HNO.out (HS.out.no (by simp;omega)))
     go_wp2
     go_ret
     exact⟨by rw[HF.out];rfl,HB.out⟩
    ·have HF:=Lib.hid (HS.out.yes (by simp;omega))
     have tk:((k:Int)==0)=false:=by rw[beq_eq_false_iff_ne];omega
     go_wp2
     go_round
     case rel=>exact⟨rfl,k+1,by go_num,HF⟩
     case measure=>simp[intOf];omega
   ·have t45:((d:Int)==45)=false:=by rw[beq_eq_false_iff_ne];omega
    have t45':((d:Int) !=45)=true:=by rw[bne_iff_ne];omega
    have HF:=Lib.hid (HNO.out (HS.out.no (by simp;omega)))
    rcases Nat.eq_zero_or_pos k with hk0|hk0
    ·subst hk0
     rcases h with h|⟨h,h2⟩|⟨h,h2⟩|⟨h,h2⟩|h
     all_goals
      try have l1:decide ((d:Int)≤122)=false:=by simp;omega
      try have l2:decide ((d:Int)≤90)=false:=by simp;omega
      try have l3:decide ((d:Int)≤57)=false:=by simp;omega
      go_wp2
      go_ret
      exact⟨by rw[HF.out];rfl,HB.out⟩
    ·have tk:((k:Int)==0)=false:=by rw[beq_eq_false_iff_ne];omega
     rcases h with h|⟨h,h2⟩|⟨h,h2⟩|⟨h,h2⟩|h
     all_goals
      try have l1:decide ((d:Int)≤122)=false:=by simp;omega
      try have l2:decide ((d:Int)≤90)=false:=by simp;omega
      try have l3:decide ((d:Int)≤57)=false:=by simp;omega
      go_wp2
      go_ret
      exact⟨by rw[HF.out];rfl,HB.out⟩
  ·have hall:langAll v.data.toList:=fun j hj=>hR.out.2 j hj (by have:v.data.toList.length=v.size:=rfl;omega)
   have HX:Hid (1≤v.size∧v.size≤16→b=true):=fun h=>hb.out.2 ⟨hall,h.1,h.2⟩
   have HN:Hid (¬ (1≤v.size∧v.size≤16)→b=false):=fun h=>HNO.out fun hp=>h hp.2
   clear hall
   rcases Nat.lt_or_ge v.size 1 with h1|h1
   ·have HF:=Lib.hid (HN.out (by omega))
    go_wp2
    go_ret
    exact⟨by rw[HF.out];rfl,HB.out⟩
   ·rcases Nat.lt_or_ge 16 v.size with h2|h2
    ·have HF:=Lib.hid (HN.out (by omega))
     have l16:decide ((v.size:Int)≤16)=false:=by simp;omega
     go_wp2
     go_ret
     exact⟨by rw[HF.out];rfl,HB.out⟩
    ·have HF:=Lib.hid (HX.out ⟨h1,h2⟩)
     have l16:decide ((v.size:Int)≤16)=true:=by simp;omega
     go_wp2
     go_ret
     exact⟨by rw[HF.out];rfl,HB.out⟩
open Go.RowKit
theorem atof_all (s:ByteArray)(hn:numB s.data.toList=true):ARes s:=by
 obtain⟨neg,p0,q,ev,hs,hsg,N,hE,SP⟩:=numB_reads s hn
 have hlt:=N.lt
 have hle:=N.le
 have hch:=part_all s p0 q N q (Nat.le_of_lt hlt) (Nat.le_refl _)
 have hpl:=part_len s p0 q (Nat.le_of_lt hlt) hle
 have RD:RdAt s (rfold (part s p0 q)).mant ((rfold (part s p0 q)).expo ev) neg (rfold (part s p0 q)).trunc:=fun w=>read_any s neg p0 q w hs hsg N ev hE
 have rb:=rb_at s p0 q N q (Nat.le_of_lt hlt) (Nat.le_refl _)
 have so:=sok_fold neg (part s p0 q) (by omega) hch
 have few:=rfold_few (part s p0 q) hch
 have SF:∀ w B,DecAt w B decN→Calls Tryz.prog 240 #[.pointer (some ⟨B,0,none⟩),.string s] w fun e w'=>e=.returned (.bool true)∧DecAt w' B (setF neg (part s p0 q) ev)∧Kept (· = B) w w' :=
  fun w B h=>set_any B s neg p0 q w h hs hsg N ev hE
 have hm:=rb.mant
 have h19:=pow19 (rfold (part s p0 q)).ndM (by have:=rb.ndM;omega)
 refine atof_any s _ _ neg _ hs SP RD (by omega) (setF neg (part s p0 q) ev) ⟨so.len,?_,so.dig,so.head⟩ so.neg ?_ SF
 ·have:=so.le
  show(sfold neg (part s p0 q)).nd≤800
  omega
 ·intro hm0 ht
  have h20:20≤(rfold (part s p0 q)).nd:=by
   refine Nat.le_of_not_lt fun h=>?_
   rw[few (by omega)] at ht
   cases ht
  refine⟨?_,?_⟩
  ·show 1≤(sfold neg (part s p0 q)).nd
   have:=so.nd
   omega
  ·unfold RS.expo
   rw[if_neg hm0]
   have:=rb.ndM
   show(rfold (part s p0 q)).place+ev-_+19=(rfold (part s p0 q)).place+ev
   omega
open Go.RowKit
theorem fix_all (w0:World)(T0:Tabs w0)(v:ByteArray)(hv:v.size≤maxLen):(∃ t,FixAt v t)∨FixNo v:=by
 rcases parse_all atof_all v hv with⟨neg,b,hb,hp⟩|h
 ·obtain⟨t,ht⟩:=prn_all neg b hb
  refine .inl ⟨t,ht.sz,?_,fun w T=>fix_b v _ t w T hp ht.pr,ht.fx⟩
  cases hn:numB t.data.toList with
  | true=>rfl
  | false =>
   have h1:=fun w (_:Tabs w)=>parse_no t w (by have:=ht.sz;unfold maxLen;omega) hn
   have h2:=fix_no t w0 T0 (fun w T=>same_below (h1 w T))
   have h3:=ht.fx w0 T0
   have:=calls_det (by kernel_rfl) h3 h2
   simp at this
 ·exact .inr fun w T=>fix_no v w T h
open Go.RowKit
def zDir:List ByteArray:=[sAuto,sLtr,sRtl]
structure DirAt (sm:ByteArray) (B k:Nat) (w wx:World):Prop where
 le:k≤3
 no1:1≤k→sm≠sAuto
 no2:2≤k→sm≠sLtr
 no3:3≤k→sm≠sRtl
 str:StrsAt wx B 0 zDir
 bel:Below B w wx
 lt:B<wx.heap.size
structure DirEnd (sm t:ByteArray) (b:Bool):Prop where
 yes:dirP sm→sm=t∧true=b
 no:¬ dirP sm→t=⟨#[]⟩∧b=false
theorem dir_neL {sm c:ByteArray}(l:List UInt8)(h:sm≠c)(hl:c.data.toList=l):(sm.toList==l)=false:=by
 rw[beq_eq_false_iff_ne,toList_data,← hl]
 exact fun e=>h (ba_ext e)
theorem form_dir (e v t:ByteArray)(b:Bool)(hv:v.size≤140737488355328)(hE:Hid (DirEnd (smallBA v) t b)):FormAt e sDir v t b:=by
 intro w T
 have S:=fun W=>small_any v hv W
 rw[show(⟨(smallL v.data.toList).toArray⟩:ByteArray)=smallBA v from rfl] at S
 generalize smallBA v=sm at *
 have HS:=Lib.hid S
 clear S T
 unfold sDir
 go_enter Tryz.func83,Tryz.ntmps83
 go_upto_region 8 with fail
 have H0:Hid (DirAt sm w.heap.size 0 w (w.alloc (.cells #[Value.string ⟨#[97,117,116,111]⟩,Value.string ⟨#[108,116,114]⟩,Value.string ⟨#[114,116,108]⟩] 9))):=by
  refine⟨by omega,by omega,by omega,by omega,?_,(Below.refl _ w).alloc (Nat.le_refl _) _,by simp⟩
  intro j hj
  rw[Nat.zero_add,cell_of_row _ w.heap.size j _ 9 (0,0) (heap_alloc_new w _)]
  have:∀ j<3,(#[Value.string ⟨#[97,117,116,111]⟩,Value.string ⟨#[108,116,114]⟩,Value.string ⟨#[114,116,108]⟩]:Array Value)[j]?=some (Value.string (zDir.getD j ByteArray.empty)):=by
   intro j hj
   match j,hj with
   | 0,_=>rfl
   | 1,_=>rfl
   | 2,_=>rfl
  exact this j hj
 go_loopw [6,7,24] (fun r6 r7 i wx=>r6=.string ⟨#[]⟩∧r7=.bool false∧∃ k:Nat,i=.int .i64 k∧Hid (DirAt sm w.heap.size k w wx)) (fun _ _ i _=>3-(intOf i).toNat)
 case atStart=>exact⟨rfl,rfl,0,rfl,H0⟩
 case round =>
  obtain⟨rfl,rfl,k,rfl,hD⟩:=hrel
  have hk:=hD.out.le
  have hcases:k=0∨k=1∨k=2∨k=3:=by omega
  rcases hcases with rfl|rfl|rfl|rfl
  ·have hcell:wr.cell? ⟨w.heap.size,0,none⟩=some (.string ⟨#[97,117,116,111]⟩):=hD.out.str 0 (by decide)
   by_cases hs:sm=sAuto
   ·obtain⟨rfl,rfl⟩:=hE.out.yes (.inl hs)
    subst hs
    unfold sAuto at *
    go_wp2_with fail
    refine(HS.out _).mono ?_
    rintro x w1 ⟨rfl,B1⟩
    have HB:=Lib.hid (hD.out.bel.trans (B1.mono (Nat.le_of_lt hD.out.lt)))
    clear B1
    go_wp2
    go_ret2
    exact⟨rfl,HB.out⟩
   ·have hn:=dir_neL [97,117,116,111] hs rfl
    have HH:=Lib.hid hs
    clear hs
    go_wp2_with fail
    refine(HS.out _).mono ?_
    rintro x w1 ⟨rfl,B1⟩
    have HN:Hid (DirAt sm w.heap.size 1 w w1):=⟨by omega,fun _=>HH.out,by omega,by omega,hD.out.str.below B1 hD.out.lt,hD.out.bel.trans (B1.mono (Nat.le_of_lt hD.out.lt)),Nat.lt_of_lt_of_le hD.out.lt B1.size⟩
    clear B1
    go_wp2
    go_roundw
    case rel=>exact⟨rfl,rfl,1,by go_num,HN⟩
    case measure=>simp[intOf]
  ·have hcell:wr.cell? ⟨w.heap.size,1,none⟩=some (.string ⟨#[108,116,114]⟩):=hD.out.str 1 (by decide)
   by_cases hs:sm=sLtr
   ·obtain⟨rfl,rfl⟩:=hE.out.yes (.inr (.inl hs))
    subst hs
    unfold sLtr at *
    go_wp2_with fail
    refine(HS.out _).mono ?_
    rintro x w1 ⟨rfl,B1⟩
    have HB:=Lib.hid (hD.out.bel.trans (B1.mono (Nat.le_of_lt hD.out.lt)))
    clear B1
    go_wp2
    go_ret2
    exact⟨rfl,HB.out⟩
   ·have hn:=dir_neL [108,116,114] hs rfl
    have HH:=Lib.hid hs
    clear hs
    go_wp2_with fail
    refine(HS.out _).mono ?_
    rintro x w1 ⟨rfl,B1⟩
    have HN:Hid (DirAt sm w.heap.size 2 w w1):=⟨by omega,fun _=>hD.out.no1 (by omega),fun _=>HH.out,by omega,hD.out.str.below B1 hD.out.lt,hD.out.bel.trans (B1.mono (Nat.le_of_lt hD.out.lt)),Nat.lt_of_lt_of_le hD.out.lt B1.size⟩
    clear B1
    go_wp2
    go_roundw
    case rel=>exact⟨rfl,rfl,2,by go_num,HN⟩
    case measure=>simp[intOf]
  ·have hcell:wr.cell? ⟨w.heap.size,2,none⟩=some (.string ⟨#[114,116,108]⟩):=hD.out.str 2 (by decide)
   by_cases hs:sm=sRtl
   ·obtain⟨rfl,rfl⟩:=hE.out.yes (.inr (.inr hs))
    subst hs
    unfold sRtl at *
    go_wp2_with fail
    refine(HS.out _).mono ?_
    rintro x w1 ⟨rfl,B1⟩
    have HB:=Lib.hid (hD.out.bel.trans (B1.mono (Nat.le_of_lt hD.out.lt)))
    clear B1
    go_wp2
    go_ret2
    exact⟨rfl,HB.out⟩
   ·have hn:=dir_neL [114,116,108] hs rfl
    have HH:=Lib.hid hs
    clear hs
    go_wp2_with fail
    refine(HS.out _).mono ?_
    rintro x w1 ⟨rfl,B1⟩
    have HN:Hid (DirAt sm w.heap.size 3 w w1):=⟨by omega,fun _=>hD.out.no1 (by omega),fun _=>hD.out.no2 (by omega),fun _=>HH.out,hD.out.str.below B1 hD.out.lt,hD.out.bel.trans (B1.mono (Nat.le_of_lt hD.out.lt)),Nat.lt_of_lt_of_le hD.out.lt B1.size⟩
    clear B1
    go_wp2
    go_roundw
    case rel=>exact⟨rfl,rfl,3,by go_num,HN⟩
    case measure=>simp[intOf]
  ·obtain⟨rfl,rfl⟩:=hE.out.no (fun hp=>by
    rcases hp with h|h|h
    ·exact hD.out.no1 (by omega) h
    ·exact hD.out.no2 (by omega) h
    ·exact hD.out.no3 (by omega) h)
   go_wp2
   go_ret2
   exact⟨rfl,hD.out.bel⟩
open Go.RowKit
def sBodyS:ByteArray:=⟨#[98,111,100,121]⟩
def sDivS:ByteArray:=⟨#[100,105,118]⟩
def sFontS:ByteArray:=⟨#[102,111,110,116]⟩
def sScriptS:ByteArray:=⟨#[115,99,114,105,112,116]⟩
def sBS:ByteArray:=⟨#[98]⟩
def sIS:ByteArray:=⟨#[105]⟩
def sXS:ByteArray:=⟨#[120]⟩
def sYS:ByteArray:=⟨#[121]⟩
def sZS:ByteArray:=⟨#[122]⟩
def exOne:List Nd:=[elN sDivS [elN sFontS [txtN sXS,elN sScriptS [txtN sYS]],txtN sZS]]
def exTwo:List Nd:=[elN sBS [elN sIS [elN sBS [txtN sXS]]]]
def exOneOut:List Nd:=[elN sDivS [txtN ⟨#[120,122]⟩]]
def exTwoOut:List Nd:=[elN sBS [elN sIS [txtN sXS]]]
theorem ex_one' (A:AFam):filterN A sBodyS [] exOne=[.mk 1 0 sDivS (A sDivS []) ⟨#[]⟩ [txtN ⟨#[120,122]⟩]]:=by kernel_rfl
theorem ex_two' (A:AFam):filterN A sBodyS [] exTwo=[.mk 1 0 sBS (A sBS []) ⟨#[]⟩ [.mk 1 0 sIS (A sIS []) ⟨#[]⟩ [txtN sXS]]]:=by kernel_rfl
theorem ex_one (A:AFam)(hA:∀ e,A e []=[]):filterN A sBodyS [] exOne=exOneOut:=by
 rw[ex_one',hA];rfl
theorem ex_two (A:AFam)(hA:∀ e,A e []=[]):filterN A sBodyS [] exTwo=exTwoOut:=by
 rw[ex_two',hA,hA];rfl
end Go.Proofs.YtcfgbdhpcboikaaGreatDoor
