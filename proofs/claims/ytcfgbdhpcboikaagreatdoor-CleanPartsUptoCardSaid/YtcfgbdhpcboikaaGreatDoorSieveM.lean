/-
  What is let through holds, and what holds is let through as it is: plain laws.
  The attributes that are let through, as a family over the elements.
  What is let through is of a size that the walks bear.
  What the joined proofs of CleanTexts, CleanUnwraps and CleanParts share: how large what comes out may be.
-/
import Derived.Test.YtcfgbdhpcboikaaGreatDoorTxtB
import Derived.Test.YtcfgbdhpcboikaaGreatDoorHoldF
import Derived.Test.YtcfgbdhpcboikaaGreatDoorSieveD
import Derived.Test.YtcfgbdhpcboikaaGreatDoorSortA
import Derived.Test.YtcfgbdhpcboikaaGreatDoorSieveB
import Derived.Test.YtcfgbdhpcboikaaGreatDoorFormV
namespace Go.Proofs.YtcfgbdhpcboikaaGreatDoor
open Go.RowKit
def AOk (VV:VFam)(A:AFam):Prop:=∀ nm l,AttrsR (VV nm) l (A nm l)
def Phrasy (ph:List ByteArray):Prop:=∀ p∈ph,kindL p.data.toList=4
theorem Phrasy.nil:Phrasy []:=fun p hp=>by simp at hp
theorem Phrasy.of {ph:List ByteArray}(h:Phrasy ph)(nm:ByteArray):Phrasy (phOf nm ph):=by
  unfold phOf
  split
  · intro p hp
    rcases List.mem_append.1 hp with hp|hp
    · exact h p hp
    · rw[List.mem_singleton.1 hp];assumption
  · exact h
mutual
def depN:Nd→Nat
  | .mk _ _ _ _ _ ks=>depK ks+1
def depK:List Nd→Nat
  | []=>0
  | n :: ns=>max (depN n) (depK ns)
end
open Go.RowKit Go.Lib
theorem attrs_ex (V:ByteArray→ByteArray→Option ByteArray)(l:List AT):∃ r,AttrsR V l r:=by
  have htot:∀ a b:AT,(decide (cmpA a b≤0)||decide (cmpA b a≤0))=true:=fun a b=>by
    unfold cmpA
    rw[cb_anti a.1.data.toList b.1.data.toList]
    simp only[Bool.or_eq_true,decide_eq_true_eq]
    omega
  have htr:∀ a b c:AT,decide (cmpA a b≤0)=true→decide (cmpA b c≤0)=true→decide (cmpA a c≤0)=true:=fun a b c h1 h2=>by
    simp only[decide_eq_true_eq] at *
    unfold cmpA at *
    rcases Int.lt_or_eq_of_le h1 with h1|h1
    · rcases Int.lt_or_eq_of_le h2 with h2|h2
      · have:=cb_trans _ _ _ h1 h2;omega
      · rw[← cb_eq _ _ h2];omega
    · rw[cb_eq _ _ h1];exact h2
  have hp:=List.mergeSort_perm (attrsGo V [] l) (fun a b=>decide (cmpA a b≤0))
  have hs:=List.pairwise_mergeSort (le:=fun a b=>decide (cmpA a b≤0)) htr htot (attrsGo V [] l)
  refine⟨_,hp,?_⟩
  have hn:=(hp.pairwise_iff (fun {x y} hxy e=>hxy e.symm)).2 (attrs_nodup V l [])
  unfold Rising
  refine(hs.and hn).imp (fun {a b} h=>?_)
  have h1:cmpA a b≤0:=of_decide_eq_true h.1
  rcases Int.lt_or_eq_of_le h1 with h2|h2
  · exact h2
  · exact absurd (ba_ext (cb_eq _ _ h2)) h.2
theorem attrs_fam (w0:World)(T0:Tabs w0):∃ (VV:VFam) (A:AFam),VFok VV∧AOk VV A∧AttrsOk A∧∀ e n v t,VV e n v=some t→VV e n t=some t:=by
  have h:∀ e:ByteArray,∃ V:ByteArray→ByteArray→Option ByteArray,(e.size≤1000000000→ValFn e V)∧∀ n v t,V n v=some t→V n t=some t:=by
    intro e
    by_cases he:e.size≤1000000000
    · obtain⟨V,hV⟩:=valFn w0 T0 e he
      exact⟨V,fun _=>hV,hV.again⟩
    · exact⟨fun _ _=>none,fun h=>absurd h he,fun n v t h=>by cases h⟩
  obtain⟨VV,hVV⟩:=Classical.axiomOfChoice h
  have h2:∀ x:ByteArray × List AT,∃ r,AttrsR (VV x.1) x.2 r:=fun x=>attrs_ex _ _
  obtain⟨A,hA⟩:=Classical.axiomOfChoice h2
  refine⟨VV,fun nm l=>A (nm,l),fun e n v he hn hv=>((hVV e).1 (by omega)).val n v hn hv,fun nm l=>hA (nm,l),fun nm at' v W hnm hal hat hT hv=>?_,fun e=>(hVV e).2⟩
  have hp:=pattrs_any nm (by omega) (VV nm) (Lib.hid (((hVV nm).1 (by omega)).val)) at' hal (Lib.hid hat) v W hT (Lib.hid hv)
  refine hp.mono ?_
  rintro e W' ⟨u,r,rfl,hr,hO⟩
  have hr2:r=A (nm,at'):=attrs_unique hr (hA (nm,at'))
  subst hr2
  exact⟨u,rfl,hO⟩
open Go.RowKit
theorem smK_append2:∀ a b:List Nd,SmK (a++b)↔SmK a∧SmK b:=by
  intro a
  induction a with
  | nil=>intro b;rw[List.nil_append];exact⟨fun h=>⟨smK_nil,h⟩,fun h=>h.2⟩
  | cons x a ih=>intro b;rw[List.cons_append,smK_cons,smK_cons,ih];exact and_assoc.symm
theorem sm_txt {t:ByteArray}(h:t.size≤100000000):SmN (txtN t) :=
  (smN_iff _).2 ⟨by show(⟨#[]⟩:ByteArray).size≤_;decide,h,by simp[txtN,Nd.attrs],fun x hx=>by simp[txtN,Nd.attrs] at hx,smK_nil⟩
theorem sm_add {out:List Nd}{t:ByteArray}(h:SmK out)(hw:wtK out+t.size≤100000000):SmK (addText out t):=by
  by_cases ho:out=[]
  · subst ho
    unfold addText
    show SmK ([]++[txtN t])
    rw[smK_append2]
    exact⟨smK_nil,(smK_cons _ _).2 ⟨sm_txt (by omega),smK_nil⟩⟩
  · obtain⟨ys,x,rfl⟩:=snoc_of ho
    rw[addText_last]
    rw[smK_append2,smK_cons] at h
    obtain⟨h1,h2,_⟩:=h
    split
    · rw[smK_append2,smK_cons]
      refine⟨h1,?_,smK_nil⟩
      obtain⟨a1,_,a3,a4,a5⟩:=(smN_iff x).1 h2
      refine(smN_iff _).2 ⟨a1,?_,a3,a4,a5⟩
      show(x.text++t).size≤_
      have:=(wtK_len (ys++[x])).2 x (by simp)
      rw[ByteArray.size_append]
      omega
    · rw[smK_append2,smK_append2,smK_cons,smK_cons]
      exact⟨⟨h1,h2,smK_nil⟩,sm_txt (by omega),smK_nil⟩
theorem attrs_sm {VV:VFam}{A:AFam}(hA:AOk VV A)(hV:VFok VV){nm:ByteArray}(hnm:nm.size≤1048576){l:List AT}(hl:l.length≤1048576)(h:∀ x∈l,x.1.size≤1048576∧x.2.size≤1048576) :
    (A nm l).length≤1048576∧∀ x∈A nm l,x.1.size≤1048576∧x.2.size≤1048576:=by
  obtain⟨hp,_⟩:=hA nm l
  refine⟨?_,fun x hx=>?_⟩
  · rw[hp.length_eq]
    exact Nat.le_trans (attrs_len _ _ _) hl
  · obtain⟨v,hv,e⟩:=attrs_from _ _ _ x (hp.mem_iff.1 hx)
    obtain⟨b1,b2⟩:=h _ hv
    have hr:=hV nm x.1 v hnm b1 b2
    rw[e] at hr
    have:=value_size hr
    exact⟨b1,by omega⟩
theorem sieve_sm (VV:VFam)(A:AFam)(hA:AOk VV A)(hV:VFok VV) :
    (∀ (n:Nd) (pn:ByteArray) (ph:List ByteArray) (out:List Nd),SmN n→wtK out+4*n.tk≤100000000→SmK out→SmK (sieveN A pn ph out n)) ∧
    (∀ (l:List Nd) (pn:ByteArray) (ph:List ByteArray) (out:List Nd),SmK l→wtK out+4*tkAll l≤100000000→SmK out→SmK (sieveK A pn ph out l)):=by
  refine nd_ind (P:=fun n=>∀ (pn:ByteArray) (ph:List ByteArray) (out:List Nd),SmN n→wtK out+4*n.tk≤100000000→SmK out→SmK (sieveN A pn ph out n))
    (Q:=fun l=>∀ (pn:ByteArray) (ph:List ByteArray) (out:List Nd),SmK l→wtK out+4*tkAll l≤100000000→SmK out→SmK (sieveK A pn ph out l)) ?_ ?_ ?_
  · intro n ih pn ph out hn hw ho
    have hb:=tk_eq n
    obtain⟨a1,a2,a3,a4,a5⟩:=(smN_iff n).1 hn
    rw[sieveN_eq]
    split
    · unfold textS
      split
      · exact ho
      · have h2:=textB_le n.text
        exact sm_add ho (by omega)
    · split
      · exact ho
      · split
        · rw[smK_append2,smK_cons]
          refine⟨ho,?_,smK_nil⟩
          obtain⟨c1,c2⟩:=attrs_sm hA hV a1 a3 a4
          refine(smN_iff _).2 ⟨a1,by show(⟨#[]⟩:ByteArray).size≤_;decide,c1,c2,?_⟩
          show SmK (filterN A n.name ph n.kids)
          unfold filterN
          split
          · exact smK_nil
          · exact ih n.name _ [] a5 (by simp only[wtK];omega) smK_nil
        · exact ih pn ph out a5 (by omega) ho
  · intro pn ph out _ _ ho
    rw[sieveK_nil]
    exact ho
  · intro n ns h1 h2 pn ph out hn hw ho
    rw[smK_cons] at hn
    rw[tkAll_cons] at hw
    rw[sieveK_cons]
    have a1:=(wt_sieve A).1 n pn ph out
    exact h2 pn ph _ hn.2 (by omega) (h1 pn ph out hn.1 (by omega) ho)
theorem filter_sm {VV:VFam}{A:AFam}(hA:AOk VV A)(hV:VFok VV)(pn:ByteArray)(ph:List ByteArray){l:List Nd}(hl:SmK l)(hb:4*tkAll l≤100000000):SmK (filterN A pn ph l):=by
  unfold filterN
  split
  · exact smK_nil
  · exact(sieve_sm VV A hA hV).2 l pn _ [] hl (by simp only[wtK];omega) smK_nil
theorem filter_len (A:AFam)(pn:ByteArray)(ph:List ByteArray){l:List Nd}(hb:4*tkAll l≤100000000):(filterN A pn ph l).length≤100000000:=by
  unfold filterN
  split
  · simp
  · have h1:=(wt_sieve A).2 l pn (phOf pn ph) []
    have h2:=(wtK_len (sieveK A pn (phOf pn ph) [] l)).1
    simp only[wtK] at h1
    omega
theorem szAll_nil:szAll []=0:=by unfold szAll;rfl
theorem szAll_cons (n:Nd)(l:List Nd):szAll (n :: l)=n.sz+szAll l:=by conv=>lhs;unfold szAll
theorem szAll_app:∀ a b:List Nd,szAll (a++b)=szAll a+szAll b:=by
  intro a
  induction a with
  | nil=>intro b;rw[List.nil_append,szAll_nil];omega
  | cons x a ih=>intro b;rw[List.cons_append,szAll_cons,szAll_cons,ih];omega
theorem sz_addText (out:List Nd)(t:ByteArray):szAll (addText out t)≤szAll out+1:=by
  have hsA:=szAll_app
  have hone:∀ x:Nd,szAll [x]=x.sz:=fun x=>by
    conv=>lhs;unfold szAll
    unfold szAll
    omega
  have htx:(txtN t).sz=1:=by rw[sz_kids];show 1+szAll []=1;unfold szAll;rfl
  by_cases ho:out=[]
  · subst ho
    unfold addText
    show szAll ([]++[txtN t])≤_
    rw[hsA,hone,htx]
    exact Nat.le_refl _
  · obtain⟨ys,x,rfl⟩:=snoc_of ho
    rw[addText_last]
    split
    · rw[hsA,hsA,hone,hone]
      have:(x.more t).sz=x.sz:=by rw[sz_kids,sz_kids];rfl
      omega
    · rw[hsA,hone,htx]
      exact Nat.le_refl _
theorem sieve_sz (A:AFam) :
    (∀ (n:Nd) (pn:ByteArray) (ph:List ByteArray) (out:List Nd),szAll (sieveN A pn ph out n)≤szAll out+n.sz) ∧
    (∀ (l:List Nd) (pn:ByteArray) (ph:List ByteArray) (out:List Nd),szAll (sieveK A pn ph out l)≤szAll out+szAll l):=by
  have hsA:=szAll_app
  have hone:∀ x:Nd,szAll [x]=x.sz:=fun x=>by
    conv=>lhs;unfold szAll
    unfold szAll
    omega
  have hnil:szAll []=0:=by unfold szAll;rfl
  have hcons:∀ (x:Nd) l,szAll (x :: l)=x.sz+szAll l:=fun x l=>by conv=>lhs;unfold szAll
  refine nd_ind (P:=fun n=>∀ (pn:ByteArray) (ph:List ByteArray) (out:List Nd),szAll (sieveN A pn ph out n)≤szAll out+n.sz)
    (Q:=fun l=>∀ (pn:ByteArray) (ph:List ByteArray) (out:List Nd),szAll (sieveK A pn ph out l)≤szAll out+szAll l) ?_ ?_ ?_
  · intro n ih pn ph out
    have hn:=sz_kids n
    rw[sieveN_eq]
    split
    · unfold textS
      split
      · omega
      · have:=sz_addText out (textB n.text);omega
    · split
      · omega
      · split
        · rw[hsA,hone]
          have e:(Nd.mk 1 0 n.name (A n.name n.attrs) ⟨#[]⟩ (filterN A n.name ph n.kids)).sz=1+szAll (filterN A n.name ph n.kids):=sz_kids _
          have hf:szAll (filterN A n.name ph n.kids)≤szAll n.kids:=by
            unfold filterN
            split
            · rw[hnil];exact Nat.zero_le _
            · have:=ih n.name (phOf n.name ph) []
              omega
          omega
        · have:=ih pn ph out
          omega
  · intro pn ph out
    rw[sieveK_nil]
    omega
  · intro n ns h1 h2 pn ph out
    rw[sieveK_cons,hcons]
    have a1:=h1 pn ph out
    have a2:=h2 pn ph (sieveN A pn ph out n)
    omega
theorem filter_sz (A:AFam)(pn:ByteArray)(ph:List ByteArray)(l:List Nd):szAll (filterN A pn ph l)≤szAll l:=by
  unfold filterN
  split
  · have:szAll []=0:=by unfold szAll;rfl
    omega
  · have:=(sieve_sz A).2 l pn (phOf pn ph) []
    have h0:szAll []=0:=by unfold szAll;rfl
    omega
theorem tkAll_app:∀ a b:List Nd,tkAll (a++b)=tkAll a+tkAll b:=by
  intro a
  induction a with
  | nil => intro b; have : tkAll [] = 0 := by unfold tkAll; rfl
           rw [List.nil_append]; omega
  | cons n a ih=>intro b;rw[List.cons_append,tkAll_cons,tkAll_cons,ih];omega
theorem tkAll_one (n:Nd):tkAll [n]=n.tk:=by
  rw[tkAll_cons]
  have:tkAll []=0:=by unfold tkAll;rfl
  omega
open Go.RowKit
theorem aok_nil {VV:VFam}{A:AFam}(hA:AOk VV A)(e:ByteArray):A e []=[]:=by
  obtain⟨hp,_⟩:=hA e []
  exact List.Perm.eq_nil (show(A e []).Perm [] from hp)
theorem texts_len:(∀ n:Nd,(textsN textL n).length≤3*n.bk)∧∀ l:List Nd,(textsK textL l).length≤3*bkAll l:=by
  refine nd_ind (P:=fun n=>(textsN textL n).length≤3*n.bk) (Q:=fun l=>(textsK textL l).length≤3*bkAll l) ?_ ?_ ?_
  · intro n ih
    rw[textsN_eq,bk_eq,List.length_append]
    split
    · have h:=text_size n.text.data.toList
      have e:n.text.data.toList.length=n.text.size:=rfl
      omega
    · simp only[List.length_nil]
      omega
  · rw[textsK_nil];exact Nat.zero_le _
  · intro n ns h1 h2
    rw[textsK_cons,bkAll_cons,List.length_append]
    omega
theorem elN_sm {nm:ByteArray}{ks:List Nd}(hn:nm.size≤1048576)(h:SmK ks):SmN (elN nm ks) :=
  (smN_iff _).2 ⟨hn,by show(⟨#[]⟩:ByteArray).size≤_;decide,by simp[elN,Nd.attrs],fun x hx=>by simp[elN,Nd.attrs] at hx,h⟩
theorem elN_tk (nm:ByteArray)(ks:List Nd):(elN nm ks).tk=1+tkAll ks:=by
  rw[tk_eq]
  show 1+(⟨#[]⟩:ByteArray).size+tkAll ks=_
  simp[ByteArray.size]
end Go.Proofs.YtcfgbdhpcboikaaGreatDoor
