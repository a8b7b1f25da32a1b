/-
  Regions that draw their order, all of whose operations may come up side by side to the end (no forced tail): the schedule as a tree.
  Regions that draw their order in two phases: all of the second wait for all of the first; in the second no world need be held.
-/
import Derived.Test.YtcfgbdhpcboikaaGreatDoorSched
namespace Go.Proofs.YtcfgbdhpcboikaaGreatDoor
section
variable {P:Program} {ops:Array Oper} {md:Region.Mode} {S:World→Prop} {Q:Exit→Act→World→Prop}
theorem headE_first {n i:Nat}{oi:Oper}{v:Value}{L:Array Bool→Act→World→Prop}(hi:ops[i]?=some oi)(hsel:∀ (j:Nat) (o:Oper) cs b,ops[j]?=some o→o.op≠.select cs b)
  (hQ:∀ c a w,Q (.panic c) (a.put oi.dst v) w→Q (.panic c) a w)
  (hT:∀ t,n≤t→∀ listed,t∉Region.ready md ops listed) (hin:i<n)
  (hdone:∀ listed a w,L listed a w→∀ j∈Region.ready md ops listed,n≤j) :
  ∀ (f:Nat) (listed:Array Bool) (a:Act) (w:World),HeadInv md ops n listed →
   (∀ j oj,ops[j]?=some oj→j≠i→listed.getD j true=false→(∀ e∈oj.after,Region.binds md e=true→e.on≠i)→oi.apart ops oj=true) →
   i∈Region.ready md ops listed→YieldsIf P ops S oi v a→S w →
   headH P md ops Q S n L f (listed.setIfInBounds i true) (a.put oi.dst v) w→headH P md ops Q S n L (f+1) listed a w:=by
 intro f
 induction f with
 | zero =>
  intro listed a w inv _ hr hy hS H
  have hun:=(mem_ready.1 hr).1
  refine⟨fun h=>(by rw[h] at hr;cases hr),fun j hj=>?_⟩
  have hjn:j<n:=by
   rcases Nat.lt_or_ge j n with h|h
   ·exact h
   ·exact absurd hj (hT j h listed)
  refine⟨hjn,?_⟩
  by_cases hji:j=i
  ·subst hji;exact hy.wpOp hi hS ⟨hS,H⟩
  ·have:=hdone _ _ _ H j (ready_mono hj hji)
   omega
 | succ f ih =>
  intro listed a w inv hfree hr hy hS H
  have hun:=(mem_ready.1 hr).1
  refine⟨fun h=>(by rw[h] at hr;cases hr),fun j hj=>?_⟩
  have hjn:j<n:=by
   rcases Nat.lt_or_ge j n with h|h
   ·exact h
   ·exact absurd hj (hT j h listed)
  refine⟨hjn,?_⟩
  by_cases hji:j=i
  ·subst hji;exact hy.wpOp hi hS ⟨hS,H⟩
  ·have h1:=(H.2 j (ready_mono hj hji)).2
   obtain⟨hjun,oj,hoj,hall⟩:=mem_ready.1 hj
   have hnot:∀ e∈oj.after,Region.binds md e=true→e.on≠i:=fun e he hb heq=>by
    have h1:=hall e he hb
    rw[heq,getD_both hun] at h1
    cases h1
   have h2:=wpOp_putIf hoj (hfree j oj hoj hji hjun hnot) (fun cs b=>hsel i oi cs b hi) (fun cs b=>hsel j oj cs b hoj) hQ hy h1
   have hfree':∀ k ok,ops[k]?=some ok→k≠i→(listed.setIfInBounds j true).getD k true=false →
     (∀ e∈ok.after,Region.binds md e=true→e.on≠i)→oi.apart ops ok=true:=fun k ok hk hki hun' hno=>by
    refine hfree k ok hk hki ?_ hno
    by_cases hjk:j=k
    ·subst hjk;exact hjun
    ·rw[getD_set_ne true hjk] at hun';exact hun'
   refine wpOp_mono (fun a' w' h3=>⟨h3.2.1,ih (listed.setIfInBounds j true) a' w' (inv.set hj hjn) hfree' (ready_mono hr (Ne.symm hji)) h3.1 h3.2.1 ?_⟩) h2
   rw[Array.setIfInBounds_comm _ _ hji]
   exact h3.2.2
theorem headE_of_tree {n:Nat}{K:Act→World→Prop}(hsel:Region.noSelect ops=true)(hQ:∀ c d v (a:Act) w,Q (.panic c) (a.put d v) w→Q (.panic c) a w)
  (hT:∀ t,n≤t→∀ listed,t∉Region.ready md ops listed) :
  ∀ (t:Sch) (f:Nat) (listed:Array Bool) (a:Act) (w:World),HeadInv md ops n listed→schB md ops n t f listed=true→S w→tree P ops S K t a w →
   headH P md ops Q S n (fun listed' a' w'=>Region.seqB md ops (ops.size-n) n listed'=true∧K a' w') f listed a w:=by
 have hdone:∀ listed' (a':Act) (w':World),(Region.seqB md ops (ops.size-n) n listed'=true∧K a' w')→∀ j∈Region.ready md ops listed',n≤j:=fun listed' a' w' hL=>seqB_ready hL.1
 intro t
 induction t with
 | done =>
  intro f listed a w _ hB _ h
  simp only[schB,Bool.and_eq_true,decide_eq_true_eq] at hB
  obtain⟨rfl,hB⟩:=hB
  exact⟨hB,h⟩
 | quiet i t ih =>
  intro f listed a w inv hB hS h
  simp only[schB,Bool.and_eq_true,decide_eq_true_eq] at hB
  obtain⟨⟨⟨hf0,hin⟩,⟨⟨hr,hf⟩,hv⟩⟩,hB'⟩:=hB
  obtain⟨f,rfl⟩:∃ g,f=g+1:=⟨f-1,by omega⟩
  rw[Nat.add_sub_cancel] at hB'
  unfold tree at h
  cases ho:ops[i]? with
  | none=>simp only[ho] at h
  | some o =>
   simp only[ho] at h
   have hr':i∈Region.ready md ops listed:=by simpa using hr
   by_cases hw:Region.wanted o (yielded ops a.tmps)=true
   ·simp only[hw,if_true] at h
    obtain⟨v,h1,h2⟩:=h
    exact headE_first ho (Region.noSelect_spec hsel) (fun c a w=>hQ c _ _ a w) hT hin hdone f listed a w inv (Region.free_spec ho hf) hr' (.inl ⟨hw,h1⟩) hS
     (ih f _ _ _ (inv.set hr' hin) hB' hS h2)
   ·simp only[hw] at h
    exact headE_first ho (Region.noSelect_spec hsel) (fun c a w=>hQ c _ _ a w) hT hin hdone f listed a w inv (Region.free_spec ho hf) hr' (.inr ⟨by simpa using hw,rfl⟩) hS
     (ih f _ _ _ (inv.set hr' hin) hB' hS h)
 | loud i t ih =>
  intro f listed a w inv hB hS h
  simp only[schB,Bool.and_eq_true,decide_eq_true_eq] at hB
  obtain⟨⟨⟨hf0,hin⟩,hq⟩,hB'⟩:=hB
  obtain⟨f,rfl⟩:∃ g,f=g+1:=⟨f-1,by omega⟩
  rw[Nat.add_sub_cancel] at hB'
  have hr':i∈Region.ready md ops listed:=by rw[hq];simp
  refine⟨by rw[hq];simp,fun j hj=>?_⟩
  rw[hq] at hj
  have hji:j=i:=by simpa using hj
  subst hji
  unfold tree at h
  exact⟨hin,loud_step hS h (fun a' w' h1 h2=>ih f _ a' w' (inv.set hr' hin) hB' h1 h2)⟩
 | two i t j u iht ihu =>
  intro f listed a w inv hB hS h
  simp only[schB,Bool.and_eq_true,decide_eq_true_eq] at hB
  obtain⟨⟨⟨⟨hf0,hin⟩,hjn⟩,hq⟩,hB1,hB2⟩:=hB
  obtain⟨f,rfl⟩:∃ g,f=g+1:=⟨f-1,by omega⟩
  rw[Nat.add_sub_cancel] at hB1 hB2
  have hri:i∈Region.ready md ops listed:=by rw[hq];simp
  have hrj:j∈Region.ready md ops listed:=by rw[hq];simp
  unfold tree at h
  refine⟨by rw[hq];simp,fun k hk=>?_⟩
  rw[hq] at hk
  simp only[List.mem_cons,List.not_mem_nil,or_false] at hk
  rcases hk with rfl|rfl
  ·exact⟨hin,loud_step hS h.1 (fun a' w' h1 h2=>iht f _ a' w' (inv.set hri hin) hB1 h1 h2)⟩
  ·exact⟨hjn,loud_step hS h.2 (fun a' w' h1 h2=>ihu f _ a' w' (inv.set hrj hjn) hB2 h1 h2)⟩
 | three i t j u k v iht ihu ihv =>
  intro f listed a w inv hB hS h
  simp only[schB,Bool.and_eq_true,decide_eq_true_eq] at hB
  obtain⟨⟨⟨⟨⟨hf0,hin⟩,hjn⟩,hkn⟩,hq⟩,hB1,hB2,hB3⟩:=hB
  obtain⟨f,rfl⟩:∃ g,f=g+1:=⟨f-1,by omega⟩
  rw[Nat.add_sub_cancel] at hB1 hB2 hB3
  have hri:i∈Region.ready md ops listed:=by rw[hq];simp
  have hrj:j∈Region.ready md ops listed:=by rw[hq];simp
  have hrk:k∈Region.ready md ops listed:=by rw[hq];simp
  unfold tree at h
  refine⟨by rw[hq];simp,fun m hk=>?_⟩
  rw[hq] at hk
  simp only[List.mem_cons,List.not_mem_nil,or_false] at hk
  rcases hk with rfl|rfl|rfl
  ·exact⟨hin,loud_step hS h.1 (fun a' w' h1 h2=>iht f _ a' w' (inv.set hri hin) hB1 h1 h2)⟩
  ·exact⟨hjn,loud_step hS h.2.1 (fun a' w' h1 h2=>ihu f _ a' w' (inv.set hrj hjn) hB2 h1 h2)⟩
  ·exact⟨hkn,loud_step hS h.2.2 (fun a' w' h1 h2=>ihv f _ a' w' (inv.set hrk hkn) hB3 h1 h2)⟩
end
section
variable {P:Program} {ops:Array Oper} {md:Region.Mode} {S:World→Prop} {Q:Exit→Act→World→Prop}
def schD (md:Region.Mode)(ops:Array Oper)(n:Nat)(dn:Array Bool→Bool):Sch→Nat→Array Bool→Bool
 | .done,f,listed=>decide (f=0)&&dn listed
 | .quiet i t,f,listed=>(decide (0<f)&&decide (i<n)&&((Region.ready md ops listed).contains i&&Region.free md ops listed i&&((ops[i]?).map valueB).getD false))&&schD md ops n dn t (f-1) (listed.setIfInBounds i true)
 | .loud i t,f,listed=>(decide (0<f)&&decide (i<n)&&decide (Region.ready md ops listed=[i]))&&schD md ops n dn t (f-1) (listed.setIfInBounds i true)
 | .two i t j u,f,listed=>(decide (0<f)&&decide (i<n)&&decide (j<n)&&decide (Region.ready md ops listed=[i,j]))&&(schD md ops n dn t (f-1) (listed.setIfInBounds i true)&&schD md ops n dn u (f-1) (listed.setIfInBounds j true))
 | .three i t j u k v,f,listed=>(decide (0<f)&&decide (i<n)&&decide (j<n)&&decide (k<n)&&decide (Region.ready md ops listed=[i,j,k]))&&(schD md ops n dn t (f-1) (listed.setIfInBounds i true)&&(schD md ops n dn u (f-1) (listed.setIfInBounds j true)&&schD md ops n dn v (f-1) (listed.setIfInBounds k true)))
theorem headD_first {n i:Nat}{oi:Oper}{v:Value}{L:Array Bool→Act→World→Prop}(hi:ops[i]?=some oi)(hsel:∀ (j:Nat) (o:Oper) cs b,ops[j]?=some o→o.op≠.select cs b)
  (hQ:∀ c a w,Q (.panic c) (a.put oi.dst v) w→Q (.panic c) a w)
  (hT:∀ k,k<n→∀ listed,listed.getD k true=false→∀ t,n≤t→t∉Region.ready md ops listed) (hin:i<n)
  (hdone:∀ listed a w,L listed a w→∀ j∈Region.ready md ops listed,n≤j) :
  ∀ (f:Nat) (listed:Array Bool) (a:Act) (w:World),HeadInv md ops n listed →
   (∀ j oj,ops[j]?=some oj→j≠i→listed.getD j true=false→(∀ e∈oj.after,Region.binds md e=true→e.on≠i)→oi.apart ops oj=true) →
   i∈Region.ready md ops listed→YieldsIf P ops S oi v a→S w →
   headH P md ops Q S n L f (listed.setIfInBounds i true) (a.put oi.dst v) w→headH P md ops Q S n L (f+1) listed a w:=by
 intro f
 induction f with
 | zero =>
  intro listed a w inv _ hr hy hS H
  have hun:=(mem_ready.1 hr).1
  refine⟨fun h=>(by rw[h] at hr;cases hr),fun j hj=>?_⟩
  have hjn:j<n:=by
   rcases Nat.lt_or_ge j n with h|h
   ·exact h
   ·exact absurd hj (hT i hin listed hun j h)
  refine⟨hjn,?_⟩
  by_cases hji:j=i
  ·subst hji;exact hy.wpOp hi hS ⟨hS,H⟩
  ·have:=hdone _ _ _ H j (ready_mono hj hji)
   omega
 | succ f ih =>
  intro listed a w inv hfree hr hy hS H
  have hun:=(mem_ready.1 hr).1
  refine⟨fun h=>(by rw[h] at hr;cases hr),fun j hj=>?_⟩
  have hjn:j<n:=by
   rcases Nat.lt_or_ge j n with h|h
   ·exact h
   ·exact absurd hj (hT i hin listed hun j h)
  refine⟨hjn,?_⟩
  by_cases hji:j=i
  ·subst hji;exact hy.wpOp hi hS ⟨hS,H⟩
  ·have h1:=(H.2 j (ready_mono hj hji)).2
   obtain⟨hjun,oj,hoj,hall⟩:=mem_ready.1 hj
   have hnot:∀ e∈oj.after,Region.binds md e=true→e.on≠i:=fun e he hb heq=>by
    have h1:=hall e he hb
    rw[heq,getD_both hun] at h1
    cases h1
   have h2:=wpOp_putIf hoj (hfree j oj hoj hji hjun hnot) (fun cs b=>hsel i oi cs b hi) (fun cs b=>hsel j oj cs b hoj) hQ hy h1
   have hfree':∀ k ok,ops[k]?=some ok→k≠i→(listed.setIfInBounds j true).getD k true=false →
     (∀ e∈ok.after,Region.binds md e=true→e.on≠i)→oi.apart ops ok=true:=fun k ok hk hki hun' hno=>by
    refine hfree k ok hk hki ?_ hno
    by_cases hjk:j=k
    ·subst hjk;exact hjun
    ·rw[getD_set_ne true hjk] at hun';exact hun'
   refine wpOp_mono (fun a' w' h3=>⟨h3.2.1,ih (listed.setIfInBounds j true) a' w' (inv.set hj hjn) hfree' (ready_mono hr (Ne.symm hji)) h3.1 h3.2.1 ?_⟩) h2
   rw[Array.setIfInBounds_comm _ _ hji]
   exact h3.2.2
theorem headD_of_tree {n:Nat}{K:Act→World→Prop}(hsel:Region.noSelect ops=true)(hQ:∀ c d v (a:Act) w,Q (.panic c) (a.put d v) w→Q (.panic c) a w)
  (hT:∀ k,k<n→∀ listed,listed.getD k true=false→∀ t,n≤t→t∉Region.ready md ops listed) (dn:Array Bool→Bool) (hdn:∀ listed,dn listed=true→∀ j∈Region.ready md ops listed,n≤j) :
  ∀ (t:Sch) (f:Nat) (listed:Array Bool) (a:Act) (w:World),HeadInv md ops n listed→schD md ops n dn t f listed=true→S w→tree P ops S K t a w →
   headH P md ops Q S n (fun listed' a' w'=>dn listed'=true∧K a' w') f listed a w:=by
 have hdone:∀ listed' (a':Act) (w':World),(dn listed'=true∧K a' w')→∀ j∈Region.ready md ops listed',n≤j:=fun listed' a' w' hL=>hdn listed' hL.1
 intro t
 induction t with
 | done =>
  intro f listed a w _ hB _ h
  simp only[schD,Bool.and_eq_true,decide_eq_true_eq] at hB
  obtain⟨rfl,hB⟩:=hB
  exact⟨hB,h⟩
 | quiet i t ih =>
  intro f listed a w inv hB hS h
  simp only[schD,Bool.and_eq_true,decide_eq_true_eq] at hB
  obtain⟨⟨⟨hf0,hin⟩,⟨⟨hr,hf⟩,hv⟩⟩,hB'⟩:=hB
  obtain⟨f,rfl⟩:∃ g,f=g+1:=⟨f-1,by omega⟩
  rw[Nat.add_sub_cancel] at hB'
  unfold tree at h
  cases ho:ops[i]? with
  | none=>simp only[ho] at h
  | some o =>
   simp only[ho] at h
   have hr':i∈Region.ready md ops listed:=by simpa using hr
   by_cases hw:Region.wanted o (yielded ops a.tmps)=true
   ·simp only[hw,if_true] at h
    obtain⟨v,h1,h2⟩:=h
    exact headD_first ho (Region.noSelect_spec hsel) (fun c a w=>hQ c _ _ a w) hT hin hdone f listed a w inv (Region.free_spec ho hf) hr' (.inl ⟨hw,h1⟩) hS
     (ih f _ _ _ (inv.set hr' hin) hB' hS h2)
   ·simp only[hw] at h
    exact headD_first ho (Region.noSelect_spec hsel) (fun c a w=>hQ c _ _ a w) hT hin hdone f listed a w inv (Region.free_spec ho hf) hr' (.inr ⟨by simpa using hw,rfl⟩) hS
     (ih f _ _ _ (inv.set hr' hin) hB' hS h)
 | loud i t ih =>
  intro f listed a w inv hB hS h
  simp only[schD,Bool.and_eq_true,decide_eq_true_eq] at hB
  obtain⟨⟨⟨hf0,hin⟩,hq⟩,hB'⟩:=hB
  obtain⟨f,rfl⟩:∃ g,f=g+1:=⟨f-1,by omega⟩
  rw[Nat.add_sub_cancel] at hB'
  have hr':i∈Region.ready md ops listed:=by rw[hq];simp
  refine⟨by rw[hq];simp,fun j hj=>?_⟩
  rw[hq] at hj
  have hji:j=i:=by simpa using hj
  subst hji
  unfold tree at h
  exact⟨hin,loud_step hS h (fun a' w' h1 h2=>ih f _ a' w' (inv.set hr' hin) hB' h1 h2)⟩
 | two i t j u iht ihu =>
  intro f listed a w inv hB hS h
  simp only[schD,Bool.and_eq_true,decide_eq_true_eq] at hB
  obtain⟨⟨⟨⟨hf0,hin⟩,hjn⟩,hq⟩,hB1,hB2⟩:=hB
  obtain⟨f,rfl⟩:∃ g,f=g+1:=⟨f-1,by omega⟩
  rw[Nat.add_sub_cancel] at hB1 hB2
  have hri:i∈Region.ready md ops listed:=by rw[hq];simp
  have hrj:j∈Region.ready md ops listed:=by rw[hq];simp
  unfold tree at h
  refine⟨by rw[hq];simp,fun k hk=>?_⟩
  rw[hq] at hk
  simp only[List.mem_cons,List.not_mem_nil,or_false] at hk
  rcases hk with rfl|rfl
  ·exact⟨hin,loud_step hS h.1 (fun a' w' h1 h2=>iht f _ a' w' (inv.set hri hin) hB1 h1 h2)⟩
  ·exact⟨hjn,loud_step hS h.2 (fun a' w' h1 h2=>ihu f _ a' w' (inv.set hrj hjn) hB2 h1 h2)⟩
 | three i t j u k v iht ihu ihv =>
  intro f listed a w inv hB hS h
  simp only[schD,Bool.and_eq_true,decide_eq_true_eq] at hB
  obtain⟨⟨⟨⟨⟨hf0,hin⟩,hjn⟩,hkn⟩,hq⟩,hB1,hB2,hB3⟩:=hB
  obtain⟨f,rfl⟩:∃ g,f=g+1:=⟨f-1,by omega⟩
  rw[Nat.add_sub_cancel] at hB1 hB2 hB3
  have hri:i∈Region.ready md ops listed:=by rw[hq];simp
  have hrj:j∈Region.ready md ops listed:=by rw[hq];simp
  have hrk:k∈Region.ready md ops listed:=by rw[hq];simp
  unfold tree at h
  refine⟨by rw[hq];simp,fun m hk=>?_⟩
  rw[hq] at hk
  simp only[List.mem_cons,List.not_mem_nil,or_false] at hk
  rcases hk with rfl|rfl|rfl
  ·exact⟨hin,loud_step hS h.1 (fun a' w' h1 h2=>iht f _ a' w' (inv.set hri hin) hB1 h1 h2)⟩
  ·exact⟨hjn,loud_step hS h.2.1 (fun a' w' h1 h2=>ihu f _ a' w' (inv.set hrj hjn) hB2 h1 h2)⟩
  ·exact⟨hkn,loud_step hS h.2.2 (fun a' w' h1 h2=>ihv f _ a' w' (inv.set hrk hkn) hB3 h1 h2)⟩
def barB (md:Region.Mode)(ops:Array Oper)(n:Nat):Bool:=(List.range ops.size).all fun t=>decide (t<n)||(List.range n).all fun i=>Region.waitsFor md ops t i
def shutB (md:Region.Mode)(ops:Array Oper)(n:Nat):Bool:=(List.range n).all fun i=>((ops[i]?).map fun o=>o.after.all fun e=>!Region.binds md e||decide (e.on<n)).getD true
def firstL (n m:Nat):Array Bool:=Array.replicate n true++Array.replicate m false
theorem firstL_get (n m k:Nat):(firstL n m).getD k false=decide (k<n):=by
 unfold firstL
 by_cases h:k<n
 ·rw[decide_eq_true h]
  simp[Array.getD_eq_getD_getElem?,Array.getElem?_append,h]
 ·rw[decide_eq_false h]
  by_cases h2:k-n<m
  ·simp[Array.getD_eq_getD_getElem?,Array.getElem?_append,h,h2]
  ·simp[Array.getD_eq_getD_getElem?,Array.getElem?_append,h,h2]
theorem region_two {id:Nat}{a:Act}{w:World}{l:List Oper}(n:Nat)(sg sg2:Sg)(S:World→Prop)(hm:P.follows .mixedOrders=true)
  (hB:(sgB l sg&&(sgB l sg2&&(Region.noSelect l.toArray&&(decide (n≤l.length)&&(barB .any l.toArray n&&(shutB .any l.toArray n&&(schD .any l.toArray n (fun x=>decide (x=firstL n (l.length-n))) sg.sch n (Array.replicate l.length false) &&
   schB .any l.toArray l.length sg2.sch (l.length-n) (firstL n (l.length-n)))))))))=true)
  (hS:S (w.drewN 1)) (h:segT P l.toArray S l (fun a' w'=>segT P l.toArray (fun _=>True) l (fun a'' w''=>∀ Q',(∀ a w,Q .normal a w→Q' .normal a w)→wpList P l.toArray Q' [] a'' w'') sg2 a' w') sg a (w.drewN 1)):(Code.region id l.toArray true).wp P Q a w:=by
 simp only[Bool.and_eq_true,decide_eq_true_eq] at hB
 obtain⟨hsg,hsg2,hsel,hn,hbar,hshut,hord,hord2⟩:=hB
 have hsz:l.toArray.size=l.length:=by simp
 have hT2:∀ t,l.length≤t→∀ listed,t∉Region.ready .any l.toArray listed:=fun t ht listed hr=>by
  obtain⟨_,ot,hot,_⟩:=mem_ready.1 hr
  have h1:=(Array.getElem?_eq_some_iff.1 hot).1
  omega
 have hT:∀ k,k<n→∀ listed,listed.getD k true=false→∀ t,n≤t→t∉Region.ready .any l.toArray listed:=fun k hk listed hun t ht hr=>by
  obtain⟨_,ot,hot,hall⟩:=mem_ready.1 hr
  have htl:=(Array.getElem?_eq_some_iff.1 hot).1
  have h1:=List.all_eq_true.1 hbar t (List.mem_range.2 htl)
  simp only[Bool.or_eq_true,decide_eq_true_eq] at h1
  rcases h1 with h1|h1
  ·omega
  ·obtain⟨o',ho',e,he,hb,hon⟩:=Region.waitsFor_spec (List.all_eq_true.1 h1 k (List.mem_range.2 hk))
   have:o'=ot:=Option.some.inj (ho'.symm.trans hot)
   subst this
   have h2:=hall e he hb
   rw[hon,getD_both hun] at h2
   cases h2
 refine wp_region_noPanic ?_
 have inv0:HeadInv .any l.toArray n (Array.replicate l.toArray.size false) :=
  ⟨by simp,fun j oj _ hl=>(by rw[getD_replicate_false] at hl;cases hl),fun t _ ht=>getD_in (by simpa using ht) (getD_replicate_false _ _)⟩
 have hsz1:(firstL n (l.length-n)).size=l.length:=by unfold firstL;simp;omega
 have inv1:HeadInv .any l.toArray l.length (firstL n (l.length-n)):=by
  refine⟨by rw[hsz1,hsz],fun j oj hj hl e he hb=>?_,fun t h1 h2=>absurd h2 (by omega)⟩
  rw[firstL_get] at hl ⊢
  have hjn:=of_decide_eq_true hl
  have h1:=List.all_eq_true.1 hshut j (List.mem_range.2 hjn)
  rw[hj] at h1
  simp only[Option.map_some,Option.getD_some] at h1
  have h2:=(Array.all_eq_true_iff_forall_mem.1 h1) e he
  rw[hb] at h2
  simpa using h2
 have hready:∀ listed,decide (listed=firstL n (l.length-n))=true→∀ j∈Region.ready .any l.toArray listed,n≤j:=fun listed hl j hj=>by
  have hl:=of_decide_eq_true hl
  subst hl
  have hun:=(mem_ready.1 hj).1
  rcases Nat.lt_or_ge j n with h1|h1
  ·have h2:=firstL_get n (l.length-n) j
   rw[getD_both hun,decide_eq_true h1] at h2
   cases h2
  ·exact h1
 have H:=headD_of_tree (P:=P) (Q:=NoPanic Q) (md:=.any) (S:=S) hsel (fun c d v a w h=>h) hT (fun x=>decide (x=firstL n (l.length-n))) hready sg.sch n _ a _ inv0 (by simpa using hord) hS (tree_of_segT sg a _ hsg h)
 refine wp_region_any hm ?_
 have:=any_of_headH (Q:=NoPanic Q) (g:=l.length-n) (fun listed a' w' hL=>by
  have hl:listed=firstL n (l.length-n):=of_decide_eq_true hL.1
  subst hl
  have H2:=headE_of_tree (P:=P) (Q:=NoPanic Q) (md:=.any) (S:=fun _=>True) hsel (fun c d v a w h=>h) hT2 sg2.sch (l.length-n) _ a' w' inv1 hord2 trivial (tree_of_segT sg2 a' w' hsg2 hL.2)
  have h3:=any_of_headH (Q:=NoPanic Q) (g:=0) (fun listed a' w' hL=>by
   have h2:=hL.2 (NoPanic Q) (fun _ _ h=>h)
   have h1:=hL.1
   rw[hsz,Nat.sub_self] at h1
   exact wpAny_of_seq (md:=.any) (Q':=NoPanic Q) [] l.length listed a' w' (fun j=>by simp) h1 h2) _ _ _ _ H2
  rwa[Nat.add_zero] at h3) _ _ _ _ H
 rw[show n+(l.length-n)=l.length by omega] at this
 rw[hsz]
 exact this
end
end Go.Proofs.YtcfgbdhpcboikaaGreatDoor
