/-
Regions that draw their order, all of whose operations may come up side by side to the end (no forced tail): the schedule as a tree.
-/
import Derived.Test.YtcfgbdhpcboikaaGreatDoorTxtB
namespace Go.Proofs.YtcfgbdhpcboikaaGreatDoor
open Go.Lib (hid)
set_option maxHeartbeats 2000000
set_option maxRecDepth 100000
theorem xC {n:Nat}:n≤n:=Nat.le_refl n
section
variable {P:Program} {ops:Array Oper} {md:Region.Mode} {S:World→Prop} {Q:Exit→Act→World→Prop}
theorem xX {n i:Nat}{oi:Oper}{v:Value}{L:Array Bool→Act→World→Prop}(hi:ops[i]?=some oi)(hsel:∀(j:Nat) (o:Oper) cs b,ops[j]?=some o→o.op≠.select cs b)
  (hQ:∀c a w,Q (.panic c) (a.put oi.dst v) w→Q (.panic c) a w)
  (hT:∀t,n≤t→∀listed,t∉Region.ready md ops listed) (hin:i<n)
  (hdone:∀listed a w,L listed a w→∀j∈Region.ready md ops listed,n≤j) :
  ∀(f:Nat) (listed:Array Bool) (a:Act) (w:World),HeadInv md ops n listed →
   (∀j oj,ops[j]?=some oj→j≠i→listed.getD j true=false→(∀e∈oj.after,Region.binds md e=true→e.on≠i)→oi.apart ops oj=true) →
   i∈Region.ready md ops listed→YieldsIf P ops S oi v a→S w →
   jT P md ops Q S n L f (listed.setIfInBounds i true) (a.put oi.dst v) w→jT P md ops Q S n L (f+1) listed a w:=by
 intro f;induction f with
 | zero =>
  intro listed a w inv _ hr hy hS H;have hun:=(mem_ready.1 hr).1;refine⟨fun h=>(by rw[h]at hr;cases hr),fun j hj=>?_⟩;have hjn:j<n:=by
   rcases Nat.lt_or_ge j n with h|h
   ·exact h
   ·exact absurd hj (hT j h listed)
  refine⟨hjn,?_⟩;by_cases hji:j=i
  ·subst hji;exact hy.wpOp hi hS ⟨hS,H⟩
  ·have:=hdone _ _ _ H j (ready_mono hj hji);omega
 | succ f ih =>
  intro listed a w inv hfree hr hy hS H;have hun:=(mem_ready.1 hr).1;refine⟨fun h=>(by rw[h]at hr;cases hr),fun j hj=>?_⟩;have hjn:j<n:=by
   rcases Nat.lt_or_ge j n with h|h
   ·exact h
   ·exact absurd hj (hT j h listed)
  refine⟨hjn,?_⟩;by_cases hji:j=i
  ·subst hji;exact hy.wpOp hi hS ⟨hS,H⟩
  ·have h1:=(H.2 j (ready_mono hj hji)).2;obtain⟨hjun,oj,hoj,hall⟩:=mem_ready.1 hj;have hnot:∀e∈oj.after,Region.binds md e=true→e.on≠i:=fun e he hb heq=>by
    have h1:=hall e he hb;rw[heq,getD_both hun]at h1
    cases h1
   have h2:=wpOp_putIf hoj (hfree j oj hoj hji hjun hnot) (fun cs b=>hsel i oi cs b hi) (fun cs b=>hsel j oj cs b hoj) hQ hy h1;have hfree':∀k ok,ops[k]?=some ok→k≠i→(listed.setIfInBounds j true).getD k true=false →
     (∀e∈ok.after,Region.binds md e=true→e.on≠i)→oi.apart ops ok=true:=fun k ok hk hki hun' hno=>by
    refine hfree k ok hk hki ?_ hno;by_cases hjk:j=k
    ·subst hjk;exact hjun
    ·rw[getD_set_ne true hjk]at hun';exact hun'
   refine wpOp_mono (fun a' w' h3=>⟨h3.2.1,ih (listed.setIfInBounds j true) a' w' (inv.set hj hjn) hfree' (ready_mono hr (Ne.symm hji)) h3.1 h3.2.1 ?_⟩) h2;rw[Array.setIfInBounds_comm _ _ hji];exact h3.2.2
theorem aCv {n:Nat}{K:Act→World→Prop}(hsel:Region.noSelect ops=true)(hQ:∀c d v (a:Act) w,Q (.panic c) (a.put d v) w→Q (.panic c) a w)
  (hT:∀t,n≤t→∀listed,t∉Region.ready md ops listed) :
  ∀(t:Sch) (f:Nat) (listed:Array Bool) (a:Act) (w:World),HeadInv md ops n listed→gR md ops n t f listed=true→S w→eP P ops S K t a w →
   jT P md ops Q S n (fun listed' a' w'=>Region.seqB md ops (ops.size-n) n listed'=true∧K a' w') f listed a w:=by
 have hdone:∀listed' (a':Act) (w':World),(Region.seqB md ops (ops.size-n) n listed'=true∧K a' w')→∀j∈Region.ready md ops listed',n≤j:=fun listed' a' w' hL=>seqB_ready hL.1
 intro t;induction t with
 | done =>
  intro f listed a w _ hB _ h;simp only[gR,Bool.and_eq_true,decide_eq_true_eq]at hB;obtain⟨rfl,hB⟩:=hB;exact⟨hB,h⟩
 | quiet i t ih =>
  intro f listed a w inv hB hS h;simp only[gR,Bool.and_eq_true,decide_eq_true_eq]at hB;obtain⟨⟨⟨hf0,hin⟩,⟨⟨hr,hf⟩,hv⟩⟩,hB'⟩:=hB;obtain⟨f,rfl⟩:∃g,f=g+1:=⟨f-1,by omega⟩
  rw[Nat.add_sub_cancel]at hB'
  unfold eP at h;cases ho:ops[i]? with
  | none=>simp only[ho]at h
  | some o =>
   simp only[ho]at h;have hr':i∈Region.ready md ops listed:=by simpa using hr
   by_cases hw:Region.wanted o (yielded ops a.tmps)=true
   ·simp only[hw,if_true]at h;obtain⟨v,h1,h2⟩:=h;exact xX ho (Region.noSelect_spec hsel) (fun c a w=>hQ c _ _ a w) hT hin hdone f listed a w inv (Region.free_spec ho hf) hr' (.inl ⟨hw,h1⟩) hS
     (ih f _ _ _ (inv.set hr' hin) hB' hS h2)
   ·simp only[hw]at h;exact xX ho (Region.noSelect_spec hsel) (fun c a w=>hQ c _ _ a w) hT hin hdone f listed a w inv (Region.free_spec ho hf) hr' (.inr ⟨by simpa using hw,rfl⟩) hS
     (ih f _ _ _ (inv.set hr' hin) hB' hS h)
 | loud i t ih =>
  intro f listed a w inv hB hS h;simp only[gR,Bool.and_eq_true,decide_eq_true_eq]at hB;obtain⟨⟨⟨hf0,hin⟩,hq⟩,hB'⟩:=hB;obtain⟨f,rfl⟩:∃g,f=g+1:=⟨f-1,by omega⟩
  rw[Nat.add_sub_cancel]at hB'
  have hr':i∈Region.ready md ops listed:=by rw[hq];simp
  refine⟨by rw[hq];simp,fun j hj=>?_⟩;rw[hq]at hj
  have hji:j=i:=by simpa using hj
  subst hji;unfold eP at h;exact⟨hin,cX hS h (fun a' w' h1 h2=>ih f _ a' w' (inv.set hr' hin) hB' h1 h2)⟩
 | two i t j u iht ihu =>
  intro f listed a w inv hB hS h;simp only[gR,Bool.and_eq_true,decide_eq_true_eq]at hB;obtain⟨⟨⟨⟨hf0,hin⟩,hjn⟩,hq⟩,hB1,hB2⟩:=hB;obtain⟨f,rfl⟩:∃g,f=g+1:=⟨f-1,by omega⟩
  rw[Nat.add_sub_cancel]at hB1 hB2
  have hri:i∈Region.ready md ops listed:=by rw[hq];simp
  have hrj:j∈Region.ready md ops listed:=by rw[hq];simp
  unfold eP at h;refine⟨by rw[hq];simp,fun k hk=>?_⟩;rw[hq]at hk
  simp only[List.mem_cons,List.not_mem_nil,or_false]at hk;rcases hk with rfl|rfl
  ·exact⟨hin,cX hS h.1 (fun a' w' h1 h2=>iht f _ a' w' (inv.set hri hin) hB1 h1 h2)⟩
  ·exact⟨hjn,cX hS h.2 (fun a' w' h1 h2=>ihu f _ a' w' (inv.set hrj hjn) hB2 h1 h2)⟩
 | three i t j u k v iht ihu ihv =>
  intro f listed a w inv hB hS h;simp only[gR,Bool.and_eq_true,decide_eq_true_eq]at hB;obtain⟨⟨⟨⟨⟨hf0,hin⟩,hjn⟩,hkn⟩,hq⟩,hB1,hB2,hB3⟩:=hB;obtain⟨f,rfl⟩:∃g,f=g+1:=⟨f-1,by omega⟩
  rw[Nat.add_sub_cancel]at hB1 hB2 hB3
  have hri:i∈Region.ready md ops listed:=by rw[hq];simp
  have hrj:j∈Region.ready md ops listed:=by rw[hq];simp
  have hrk:k∈Region.ready md ops listed:=by rw[hq];simp
  unfold eP at h;refine⟨by rw[hq];simp,fun m hk=>?_⟩;rw[hq]at hk
  simp only[List.mem_cons,List.not_mem_nil,or_false]at hk;rcases hk with rfl|rfl|rfl
  ·exact⟨hin,cX hS h.1 (fun a' w' h1 h2=>iht f _ a' w' (inv.set hri hin) hB1 h1 h2)⟩
  ·exact⟨hjn,cX hS h.2.1 (fun a' w' h1 h2=>ihu f _ a' w' (inv.set hrj hjn) hB2 h1 h2)⟩
  ·exact⟨hkn,cX hS h.2.2 (fun a' w' h1 h2=>ihv f _ a' w' (inv.set hrk hkn) hB3 h1 h2)⟩
end
section
variable {P:Program} {ops:Array Oper} {md:Region.Mode} {S:World→Prop} {Q:Exit→Act→World→Prop}
def nA (md:Region.Mode)(ops:Array Oper)(n:Nat)(dn:Array Bool→Bool):Sch→Nat→Array Bool→Bool
 | .done,f,listed=>decide (f=0)&&dn listed
 | .quiet i t,f,listed=>(decide (0<f)&&decide (i<n)&&((Region.ready md ops listed).contains i&&Region.free md ops listed i&&((ops[i]?).map sZ).getD false))&&nA md ops n dn t (f-1) (listed.setIfInBounds i true)
 | .loud i t,f,listed=>(decide (0<f)&&decide (i<n)&&decide (Region.ready md ops listed=[i]))&&nA md ops n dn t (f-1) (listed.setIfInBounds i true)
 | .two i t j u,f,listed=>(decide (0<f)&&decide (i<n)&&decide (j<n)&&decide (Region.ready md ops listed=[i,j]))&&(nA md ops n dn t (f-1) (listed.setIfInBounds i true)&&nA md ops n dn u (f-1) (listed.setIfInBounds j true))
 | .three i t j u k v,f,listed=>(decide (0<f)&&decide (i<n)&&decide (j<n)&&decide (k<n)&&decide (Region.ready md ops listed=[i,j,k]))&&(nA md ops n dn t (f-1) (listed.setIfInBounds i true)&&(nA md ops n dn u (f-1) (listed.setIfInBounds j true)&&nA md ops n dn v (f-1) (listed.setIfInBounds k true)))
theorem xW {n i:Nat}{oi:Oper}{v:Value}{L:Array Bool→Act→World→Prop}(hi:ops[i]?=some oi)(hsel:∀(j:Nat) (o:Oper) cs b,ops[j]?=some o→o.op≠.select cs b)
  (hQ:∀c a w,Q (.panic c) (a.put oi.dst v) w→Q (.panic c) a w)
  (hT:∀k,k<n→∀listed,listed.getD k true=false→∀t,n≤t→t∉Region.ready md ops listed) (hin:i<n)
  (hdone:∀listed a w,L listed a w→∀j∈Region.ready md ops listed,n≤j) :
  ∀(f:Nat) (listed:Array Bool) (a:Act) (w:World),HeadInv md ops n listed →
   (∀j oj,ops[j]?=some oj→j≠i→listed.getD j true=false→(∀e∈oj.after,Region.binds md e=true→e.on≠i)→oi.apart ops oj=true) →
   i∈Region.ready md ops listed→YieldsIf P ops S oi v a→S w →
   jT P md ops Q S n L f (listed.setIfInBounds i true) (a.put oi.dst v) w→jT P md ops Q S n L (f+1) listed a w:=by
 intro f;induction f with
 | zero =>
  intro listed a w inv _ hr hy hS H;have hun:=(mem_ready.1 hr).1;refine⟨fun h=>(by rw[h]at hr;cases hr),fun j hj=>?_⟩;have hjn:j<n:=by
   rcases Nat.lt_or_ge j n with h|h
   ·exact h
   ·exact absurd hj (hT i hin listed hun j h)
  refine⟨hjn,?_⟩;by_cases hji:j=i
  ·subst hji;exact hy.wpOp hi hS ⟨hS,H⟩
  ·have:=hdone _ _ _ H j (ready_mono hj hji);omega
 | succ f ih =>
  intro listed a w inv hfree hr hy hS H;have hun:=(mem_ready.1 hr).1;refine⟨fun h=>(by rw[h]at hr;cases hr),fun j hj=>?_⟩;have hjn:j<n:=by
   rcases Nat.lt_or_ge j n with h|h
   ·exact h
   ·exact absurd hj (hT i hin listed hun j h)
  refine⟨hjn,?_⟩;by_cases hji:j=i
  ·subst hji;exact hy.wpOp hi hS ⟨hS,H⟩
  ·have h1:=(H.2 j (ready_mono hj hji)).2;obtain⟨hjun,oj,hoj,hall⟩:=mem_ready.1 hj;have hnot:∀e∈oj.after,Region.binds md e=true→e.on≠i:=fun e he hb heq=>by
    have h1:=hall e he hb;rw[heq,getD_both hun]at h1
    cases h1
   have h2:=wpOp_putIf hoj (hfree j oj hoj hji hjun hnot) (fun cs b=>hsel i oi cs b hi) (fun cs b=>hsel j oj cs b hoj) hQ hy h1;have hfree':∀k ok,ops[k]?=some ok→k≠i→(listed.setIfInBounds j true).getD k true=false →
     (∀e∈ok.after,Region.binds md e=true→e.on≠i)→oi.apart ops ok=true:=fun k ok hk hki hun' hno=>by
    refine hfree k ok hk hki ?_ hno;by_cases hjk:j=k
    ·subst hjk;exact hjun
    ·rw[getD_set_ne true hjk]at hun';exact hun'
   refine wpOp_mono (fun a' w' h3=>⟨h3.2.1,ih (listed.setIfInBounds j true) a' w' (inv.set hj hjn) hfree' (ready_mono hr (Ne.symm hji)) h3.1 h3.2.1 ?_⟩) h2;rw[Array.setIfInBounds_comm _ _ hji];exact h3.2.2
theorem aCu {n:Nat}{K:Act→World→Prop}(hsel:Region.noSelect ops=true)(hQ:∀c d v (a:Act) w,Q (.panic c) (a.put d v) w→Q (.panic c) a w)
  (hT:∀k,k<n→∀listed,listed.getD k true=false→∀t,n≤t→t∉Region.ready md ops listed) (dn:Array Bool→Bool) (hdn:∀listed,dn listed=true→∀j∈Region.ready md ops listed,n≤j) :
  ∀(t:Sch) (f:Nat) (listed:Array Bool) (a:Act) (w:World),HeadInv md ops n listed→nA md ops n dn t f listed=true→S w→eP P ops S K t a w →
   jT P md ops Q S n (fun listed' a' w'=>dn listed'=true∧K a' w') f listed a w:=by
 have hdone:∀listed' (a':Act) (w':World),(dn listed'=true∧K a' w')→∀j∈Region.ready md ops listed',n≤j:=fun listed' a' w' hL=>hdn listed' hL.1
 intro t;induction t with
 | done =>
  intro f listed a w _ hB _ h;simp only[nA,Bool.and_eq_true,decide_eq_true_eq]at hB;obtain⟨rfl,hB⟩:=hB;exact⟨hB,h⟩
 | quiet i t ih =>
  intro f listed a w inv hB hS h;simp only[nA,Bool.and_eq_true,decide_eq_true_eq]at hB;obtain⟨⟨⟨hf0,hin⟩,⟨⟨hr,hf⟩,hv⟩⟩,hB'⟩:=hB;obtain⟨f,rfl⟩:∃g,f=g+1:=⟨f-1,by omega⟩
  rw[Nat.add_sub_cancel]at hB'
  unfold eP at h;cases ho:ops[i]? with
  | none=>simp only[ho]at h
  | some o =>
   simp only[ho]at h;have hr':i∈Region.ready md ops listed:=by simpa using hr
   by_cases hw:Region.wanted o (yielded ops a.tmps)=true
   ·simp only[hw,if_true]at h;obtain⟨v,h1,h2⟩:=h;exact xW ho (Region.noSelect_spec hsel) (fun c a w=>hQ c _ _ a w) hT hin hdone f listed a w inv (Region.free_spec ho hf) hr' (.inl ⟨hw,h1⟩) hS
     (ih f _ _ _ (inv.set hr' hin) hB' hS h2)
   ·simp only[hw]at h;exact xW ho (Region.noSelect_spec hsel) (fun c a w=>hQ c _ _ a w) hT hin hdone f listed a w inv (Region.free_spec ho hf) hr' (.inr ⟨by simpa using hw,rfl⟩) hS
     (ih f _ _ _ (inv.set hr' hin) hB' hS h)
 | loud i t ih =>
  intro f listed a w inv hB hS h;simp only[nA,Bool.and_eq_true,decide_eq_true_eq]at hB;obtain⟨⟨⟨hf0,hin⟩,hq⟩,hB'⟩:=hB;obtain⟨f,rfl⟩:∃g,f=g+1:=⟨f-1,by omega⟩
  rw[Nat.add_sub_cancel]at hB'
  have hr':i∈Region.ready md ops listed:=by rw[hq];simp
  refine⟨by rw[hq];simp,fun j hj=>?_⟩;rw[hq]at hj
  have hji:j=i:=by simpa using hj
  subst hji;unfold eP at h;exact⟨hin,cX hS h (fun a' w' h1 h2=>ih f _ a' w' (inv.set hr' hin) hB' h1 h2)⟩
 | two i t j u iht ihu =>
  intro f listed a w inv hB hS h;simp only[nA,Bool.and_eq_true,decide_eq_true_eq]at hB;obtain⟨⟨⟨⟨hf0,hin⟩,hjn⟩,hq⟩,hB1,hB2⟩:=hB;obtain⟨f,rfl⟩:∃g,f=g+1:=⟨f-1,by omega⟩
  rw[Nat.add_sub_cancel]at hB1 hB2
  have hri:i∈Region.ready md ops listed:=by rw[hq];simp
  have hrj:j∈Region.ready md ops listed:=by rw[hq];simp
  unfold eP at h;refine⟨by rw[hq];simp,fun k hk=>?_⟩;rw[hq]at hk
  simp only[List.mem_cons,List.not_mem_nil,or_false]at hk;rcases hk with rfl|rfl
  ·exact⟨hin,cX hS h.1 (fun a' w' h1 h2=>iht f _ a' w' (inv.set hri hin) hB1 h1 h2)⟩
  ·exact⟨hjn,cX hS h.2 (fun a' w' h1 h2=>ihu f _ a' w' (inv.set hrj hjn) hB2 h1 h2)⟩
 | three i t j u k v iht ihu ihv =>
  intro f listed a w inv hB hS h;simp only[nA,Bool.and_eq_true,decide_eq_true_eq]at hB;obtain⟨⟨⟨⟨⟨hf0,hin⟩,hjn⟩,hkn⟩,hq⟩,hB1,hB2,hB3⟩:=hB;obtain⟨f,rfl⟩:∃g,f=g+1:=⟨f-1,by omega⟩
  rw[Nat.add_sub_cancel]at hB1 hB2 hB3
  have hri:i∈Region.ready md ops listed:=by rw[hq];simp
  have hrj:j∈Region.ready md ops listed:=by rw[hq];simp
  have hrk:k∈Region.ready md ops listed:=by rw[hq];simp
  unfold eP at h;refine⟨by rw[hq];simp,fun m hk=>?_⟩;rw[hq]at hk
  simp only[List.mem_cons,List.not_mem_nil,or_false]at hk;rcases hk with rfl|rfl|rfl
  ·exact⟨hin,cX hS h.1 (fun a' w' h1 h2=>iht f _ a' w' (inv.set hri hin) hB1 h1 h2)⟩
  ·exact⟨hjn,cX hS h.2.1 (fun a' w' h1 h2=>ihu f _ a' w' (inv.set hrj hjn) hB2 h1 h2)⟩
  ·exact⟨hkn,cX hS h.2.2 (fun a' w' h1 h2=>ihv f _ a' w' (inv.set hrk hkn) hB3 h1 h2)⟩
def aNk (md:Region.Mode)(ops:Array Oper)(n:Nat):Bool:=(List.range ops.size).all fun t=>decide (t<n)||(List.range n).all fun i=>Region.waitsFor md ops t i
def aNe (md:Region.Mode)(ops:Array Oper)(n:Nat):Bool:=(List.range n).all fun i=>((ops[i]?).map fun o=>o.after.all fun e=>!Region.binds md e||decide (e.on<n)).getD true
def lN (n m:Nat):Array Bool:=Array.replicate n true++Array.replicate m false
theorem aAi (n m k:Nat):(lN n m).getD k false=decide (k<n):=by
 unfold lN;by_cases h:k<n
 ·rw[decide_eq_true h];simp[Array.getD_eq_getD_getElem?,Array.getElem?_append,h]
 ·rw[decide_eq_false h];by_cases h2:k-n<m
  ·simp[Array.getD_eq_getD_getElem?,Array.getElem?_append,h,h2]
  ·simp[Array.getD_eq_getD_getElem?,Array.getElem?_append,h,h2]
theorem aAK {id:Nat}{a:Act}{w:World}{l:List Oper}(n:Nat)(sg sg2:Sg)(S:World→Prop)(hm:P.follows .mixedOrders=true)
  (hB:(sgB l sg&&(sgB l sg2&&(Region.noSelect l.toArray&&(decide (n≤l.length)&&(aNk .any l.toArray n&&(aNe .any l.toArray n&&(nA .any l.toArray n (fun x=>decide (x=lN n (l.length-n))) sg.sch n (Array.replicate l.length false) &&
   gR .any l.toArray l.length sg2.sch (l.length-n) (lN n (l.length-n)))))))))=true)
  (hS:S (w.drewN 1)) (h:lI P l.toArray S l (fun a' w'=>lI P l.toArray (fun _=>True) l (fun a'' w''=>∀Q',(∀a w,Q .normal a w→Q' .normal a w)→wpList P l.toArray Q' [] a'' w'') sg2 a' w') sg a (w.drewN 1)):(Code.region id l.toArray true).wp P Q a w:=by
 simp only[Bool.and_eq_true,decide_eq_true_eq]at hB;obtain⟨hsg,hsg2,hsel,hn,hbar,hshut,hord,hord2⟩:=hB;have hsz:l.toArray.size=l.length:=by simp
 have hT2:∀t,l.length≤t→∀listed,t∉Region.ready .any l.toArray listed:=fun t ht listed hr=>by
  obtain⟨_,ot,hot,_⟩:=mem_ready.1 hr;have h1:=(Array.getElem?_eq_some_iff.1 hot).1;omega
 have hT:∀k,k<n→∀listed,listed.getD k true=false→∀t,n≤t→t∉Region.ready .any l.toArray listed:=fun k hk listed hun t ht hr=>by
  obtain⟨_,ot,hot,hall⟩:=mem_ready.1 hr;have htl:=(Array.getElem?_eq_some_iff.1 hot).1;have h1:=List.all_eq_true.1 hbar t (List.mem_range.2 htl);simp only[Bool.or_eq_true,decide_eq_true_eq]at h1;rcases h1 with h1|h1
  ·omega
  ·obtain⟨o',ho',e,he,hb,hon⟩:=Region.waitsFor_spec (List.all_eq_true.1 h1 k (List.mem_range.2 hk));have:o'=ot:=Option.some.inj (ho'.symm.trans hot);subst this;have h2:=hall e he hb;rw[hon,getD_both hun]at h2
   cases h2
 refine wp_region_noPanic ?_;have inv0:HeadInv .any l.toArray n (Array.replicate l.toArray.size false) :=
  ⟨by simp,fun j oj _ hl=>(by rw[getD_replicate_false]at hl;cases hl),fun t _ ht=>getD_in (by simpa using ht) (getD_replicate_false _ _)⟩
 have hsz1:(lN n (l.length-n)).size=l.length:=by unfold lN;simp;omega
 have inv1:HeadInv .any l.toArray l.length (lN n (l.length-n)):=by
  refine⟨by rw[hsz1,hsz],fun j oj hj hl e he hb=>?_,fun t h1 h2=>absurd h2 (by omega)⟩;rw[aAi]at hl ⊢
  have hjn:=of_decide_eq_true hl;have h1:=List.all_eq_true.1 hshut j (List.mem_range.2 hjn);rw[hj]at h1
  simp only[Option.map_some,Option.getD_some]at h1;have h2:=(Array.all_eq_true_iff_forall_mem.1 h1) e he;rw[hb]at h2
  simpa using h2
 have hready:∀listed,decide (listed=lN n (l.length-n))=true→∀j∈Region.ready .any l.toArray listed,n≤j:=fun listed hl j hj=>by
  have hl:=of_decide_eq_true hl;subst hl;have hun:=(mem_ready.1 hj).1;rcases Nat.lt_or_ge j n with h1|h1
  ·have h2:=aAi n (l.length-n) j;rw[getD_both hun,decide_eq_true h1]at h2
   cases h2
  ·exact h1
 have H:=aCu (P:=P) (Q:=NoPanic Q) (md:=.any) (S:=S) hsel (fun c d v a w h=>h) hT (fun x=>decide (x=lN n (l.length-n))) hready sg.sch n _ a _ inv0 (by simpa using hord) hS (fC sg a _ hsg h);refine wp_region_any hm ?_;have:=kA (Q:=NoPanic Q) (g:=l.length-n) (fun listed a' w' hL=>by
  have hl:listed=lN n (l.length-n):=of_decide_eq_true hL.1;subst hl;have H2:=aCv (P:=P) (Q:=NoPanic Q) (md:=.any) (S:=fun _=>True) hsel (fun c d v a w h=>h) hT2 sg2.sch (l.length-n) _ a' w' inv1 hord2 trivial (fC sg2 a' w' hsg2 hL.2);have h3:=kA (Q:=NoPanic Q) (g:=0) (fun listed a' w' hL=>by
   have h2:=hL.2 (NoPanic Q) (fun _ _ h=>h);have h1:=hL.1;rw[hsz,Nat.sub_self]at h1
   exact wpAny_of_seq (md:=.any) (Q':=NoPanic Q) [] l.length listed a' w' (fun j=>by simp) h1 h2) _ _ _ _ H2
  rwa[Nat.add_zero]at h3) _ _ _ _ H
 rw[show n+(l.length-n)=l.length by omega]at this
 rw[hsz];exact this
end
open Go.RowKit
theorem aY.more {D:Nat→Prop}{w:World}{x:Nd}{c0 c1 c2 c3 c4 c5:Value}(h:aY D w x (.agg #[c0,c1,c2,c3,c4,c5]))(t:ByteArray):aY D w (x.more t) (.agg #[c0,c1,c2,c3,.string (x.text++t),c5]):=by
 cases x with
 | mk kd sp nm at' tx ks =>
  unfold aY at h;unfold Nd.more aY;obtain⟨aa,ca,a,c,e,h1,h2,h3⟩:=h;simp only[Value.agg.injEq,Array.mk.injEq,List.cons.injEq,and_true]at e;obtain⟨rfl,rfl,rfl,rfl,rfl,rfl⟩:=e;exact⟨aa,ca,a,c,rfl,h1,h2,h3⟩
theorem bU.more {D:Nat→Prop}{w:World}{xs:List Value}{ys:List Nd}{x:Nd}(h:bU D w xs (ys++[x]))(t:ByteArray):bU D w (xs.set (ys.length*6+4) (.string (x.text++t))) (ys++[x.more t]):=by
 refine⟨by rw[List.length_set,h.1];simp,fun j hj=>?_⟩;have hj':j<(ys++[x]).length:=by simpa using hj
 obtain⟨c0,c1,c2,c3,c4,c5,h0,h1,h2,h3,h4,h5,hn⟩:=h.2 j hj';have keep:∀i v,i≠ys.length*6+4→xs[i]?=some v→(xs.set (ys.length*6+4) (.string (x.text++t)))[i]?=some v:=fun i v hi hv=>by
  rw[List.getElem?_set_ne (fun e=>hi e.symm)];exact hv
 by_cases hjl:j<ys.length
 ·refine⟨c0,c1,c2,c3,c4,c5,keep _ _ (by omega) h0,keep _ _ (by omega) h1,keep _ _ (by omega) h2,keep _ _ (by omega) h3,keep _ _ (by omega) h4,keep _ _ (by omega) h5,?_⟩;rw[List.getElem_append_left hjl]at hn ⊢
  exact hn
 ·have hje:j=ys.length:=by simp at hj;omega
  subst hje;have hlt:ys.length*6+4<xs.length:=by rw[h.1];simp;omega
  refine⟨c0,c1,c2,c3,.string (x.text++t),c5,keep _ _ (by omega) h0,keep _ _ (by omega) h1,keep _ _ (by omega) h2,keep _ _ (by omega) h3,List.getElem?_set_self hlt,keep _ _ (by omega) h5,?_⟩;rw[List.getElem_append_right xC]at hn ⊢
  have hn':aY D w x (.agg #[c0,c1,c2,c3,c4,c5]):=by simpa using hn
  simpa using hn'.more t
theorem Sv.more {p:Nat}{pn:ByteArray}{pv:Value}{ph:List ByteArray}{ys:List Nd}{x:Nd}{W1 w:World}{g c n:Nat}{xs:List Value}(at':p=W1.heap.size)(phr:Phr W1 pv ph)(hn:n=(ys++[x]).length)
  (hr:w.heap[p]?=some (.cells #[.string pn,pv,.slice (some ⟨g,0,none⟩) n c] 151 (0,0))) (hO:bC p 45 6 (.slice (some ⟨g,0,none⟩) n c) n xs W1 w) (hne:g≠p)
  (hC:bU (fun k=>p<k∧(Value.slice (some ⟨g,0,none⟩) n c).ownBlock≠some k) w xs (ys++[x])) (t:ByteArray) :
  Sv p pn pv ph (ys++[x.more t]) W1 (w.setCell ⟨g,ys.length*6+4,none⟩ (.string (x.text++t))):=by
 have hl:(ys++[x.more t]).length=n:=by rw[hn];simp
 refine⟨at',⟨.slice (some ⟨g,0,none⟩) n c,_,?_,?_,fun e=>hne (Option.some.inj (show some g=some p from e)),(hC.more t).keep (fun k _ hk=>⟨heap_setCell_other w ⟨g,_,none⟩ k _ (fun e=>hk.2 (by rw[e];rfl)),hk⟩)⟩,phr⟩
 ·rw[heap_setCell_other w ⟨g,_,none⟩ p _ (Ne.symm hne)];exact hr
 ·rw[hl];exact hO.setCell _ _
theorem bC.aside {B:Nat}{e:TypeId}{size g n c:Nat}{xs:List Value}{W0 w:World}(h:bC B e size (.slice (some ⟨g,0,none⟩) n c) n xs W0 w)(q:Addr)(hq:B≤q.block)(hne:g≠q.block)(u:Value) :
  bC B e size (.slice (some ⟨g,0,none⟩) n c) n xs W0 (w.setCell q u):=by
 refine⟨⟨h.own.1,?_⟩,h.bel.setCell hq u,by rw[qP];exact h.base⟩;rcases h.own.2 with hn|⟨g',cap,cur,hv,hB,hg,rest⟩
 ·exact .inl hn
 ·refine .inr ⟨g',cap,cur,hv,hB,?_,rest⟩;simp only[Value.slice.injEq,Option.some.injEq,Addr.mk.injEq]at hv;rw[heap_setCell_other w q g' u (by rw[←hv.1.1];exact hne)];exact hg
theorem Sv.push {p:Nat}{pn:ByteArray}{pv:Value}{ph:List ByteArray}{out:List Nd}{x:Nd}{W1 W5 W6:World}{g n c:Nat}{xs:List Value}{c0 c1 c2 c3 c4 c5:Value}(at':p=W1.heap.size)(phr:Phr W1 pv ph)(hn:n=out.length+1)(hne:g≠p)
  (hr:W6.heap[p]?=some (.cells #[.string pn,pv,.slice (some ⟨g,0,none⟩) n c] 151 (0,0))) (hO:bC p 45 6 (.slice (some ⟨g,0,none⟩) n c) n (xs++[c0,c1,c2,c3,c4,c5]) W1 W6)
  (hC:bU (fun k=>p<k∧g≠k) W5 xs out) (hx:aY (fun k=>p<k∧g≠k) W5 x (.agg #[c0,c1,c2,c3,c4,c5])) (hoth:∀k,k≠g→k≠p→W6.heap[k]?=W5.heap[k]?) :
  Sv p pn pv ph (out++[x]) W1 W6:=by
 have hl:(out++[x]).length=n:=by rw[hn];simp
 refine⟨at',⟨.slice (some ⟨g,0,none⟩) n c,_,hr,by rw[hl];exact hO,fun e=>hne (Option.some.inj (show some g=some p from e)),?_⟩,phr⟩;have h:=(hC.snoc hx).keep (D':=fun k=>p<k∧g≠k) (w':=W6) (fun k _ hk=>⟨hoth k (Ne.symm hk.2) (by omega),hk⟩);exact h.keep (fun k _ hk=>⟨rfl,hk.1,fun e=>hk.2 (Option.some.inj (show some g=some k from e))⟩)
theorem rT {p:Nat}{pn:ByteArray}{pv v:Value}{W1 W5:World}{g n c:Nat}{xs zs cs:List Value}(hne:g≠p)(hz:zs.length=cs.length)(o:Nat)(ho:o=xs.length)
  (hr:W5.heap[p]?=some (.cells #[.string pn,pv,v] 151 (0,0))) (hO:bC p 45 6 (.slice (some ⟨g,0,none⟩) n c) n (xs++zs) W1 W5) :
  (∀W6,W6=(W5.setCells g o cs).setCell ⟨p,2,none⟩ (.slice (some ⟨g,0,none⟩) n c)∨W6=(W5.setCell ⟨p,2,none⟩ (.slice (some ⟨g,0,none⟩) n c)).setCells g o cs →
   W6.heap[p]?=some (.cells #[.string pn,pv,.slice (some ⟨g,0,none⟩) n c] 151 (0,0))∧bC p 45 6 (.slice (some ⟨g,0,none⟩) n c) n (xs++cs) W1 W6∧∀k,k≠g→k≠p→W6.heap[k]?=W5.heap[k]?):=by
 subst ho;have row:∀w:World,w.heap[p]?=some (.cells #[.string pn,pv,v] 151 (0,0))→(w.setCell ⟨p,2,none⟩ (.slice (some ⟨g,0,none⟩) n c)).heap[p]?=some (.cells #[.string pn,pv,.slice (some ⟨g,0,none⟩) n c] 151 (0,0)):=fun w h=>by
  rw[setCell_eq_setRow w p 2 _ 151 (0,0) _ h];exact setRow_heap w p _ _ 151 (0,0) h
 rintro W6 (rfl|rfl)
 ·have h1:=hO.setCells cs _ xs.length W5;rw[aB8 xs zs cs hz]at h1
  refine⟨row _ (by rw[bX g cs _ W5 p (Ne.symm hne)];exact hr),h1.aside ⟨p,2,none⟩ xC hne _,fun k h2 h3=>?_⟩;rw[heap_setCell_other _ ⟨p,2,none⟩ k _ h3,bX g cs _ W5 k h2]
 ·have h1:=(hO.aside ⟨p,2,none⟩ xC hne (.slice (some ⟨g,0,none⟩) n c)).setCells cs _ xs.length (W5.setCell ⟨p,2,none⟩ (.slice (some ⟨g,0,none⟩) n c));rw[aB8 xs zs cs hz]at h1
  refine⟨by rw[bX g cs _ _ p (Ne.symm hne)];exact row _ hr,h1,fun k h2 h3=>?_⟩;rw[bX g cs _ _ k h2,heap_setCell_other _ ⟨p,2,none⟩ k _ h3]
theorem dT (w:World):Below w.heap.size w (w.drewN 1):=(Below.refl _ w).drew
theorem pN (D:Nat→Prop)(w:World)(t:ByteArray):aY D w (aL t) (.agg #[.int .i64 2,.int .i64 0,.string ⟨#[]⟩,.slice none 0 0,.string t,.slice none 0 0]):=by
 unfold aL aY;exact⟨none,0,none,0,rfl,by simp,fun j h=>absurd h (by simp),by unfold aD;trivial⟩
def qM (out:List Nd):Bool:=match out.getLast? with|some x=>decide (x.kind=2)|none=>false
theorem uO (ys:List Nd)(x:Nd):qM (ys++[x])=decide (x.kind=2):=by unfold qM;rw[List.getLast?_concat]
theorem nU {out:List Nd}(h:qM out=false)(t:ByteArray):fI out t=out++[aL t]:=by
 unfold fI;unfold qM at h;cases ho:out.getLast? with
 | none=>rfl
 | some x =>
  rw[ho]at h
  show(if x.kind=2 then _ else _)=_;rw[if_neg (by simpa using h)]
theorem bU.at {D:Nat→Prop}{w:World}{xs:List Value}{ys:List Nd}{x:Nd}(h:bU D w xs (ys++[x])):xs[ys.length*6]?=some (.int .i64 x.kind)∧xs[ys.length*6+4]?=some (.string x.text):=by
 obtain⟨c0,c1,c2,c3,c4,c5,h0,h1,h2,h3,h4,h5,hn⟩:=h.2 ys.length (by simp);have hx:(ys++[x])[ys.length]'(by simp)=x:=by rw[List.getElem_append_right xC];simp
 rw[hx]at hn
 obtain⟨_,_,_,_,e0,_,_,_,e4,_⟩:=hn.node.cells;rw[e0]at h0
 rw[e4]at h4
 exact⟨h0,h4⟩
theorem xI {out:List Nd}(h:out≠[]):∃ys x,out=ys++[x]:=⟨out.dropLast,out.getLast h,(List.dropLast_concat_getLast h).symm⟩
theorem aH3 (p:Nat)(pn:ByteArray)(pv:Value)(ph:List ByteArray)(out:List Nd)(W1 w:World)(s:ByteArray)(hs:s.size≤100000000)(ho:out.length≤100000000)(hx:∀x∈out,x.text.size≤100000000)(HT:Hid (aB w))(h:Hid (Sv p pn pv ph out W1 w)) :
  Calls Tryz.prog 196 #[.pointer (some ⟨p,0,none⟩),.string s] w fun e w'=>e=.returned (.tuple #[])∧Sv p pn pv ph (pW pn out s) W1 w':=by
 have X:=nR s (by omega) w HT.out;have ht:(⟨(cT s.data.toList).toArray⟩:ByteArray)=cL s:=rfl;rw[ht]at X
 have HX:=hid X;have hts:(cL s).size≤300000000:=by
  have h1:=oR s.data.toList;have h2:(cL s).size=(cT s.data.toList).length:=rfl;have h3:s.data.toList.length=s.size:=rfl;omega
 have HTXT:=hid (show pW pn out s=if cL s=⟨#[]⟩∨lO pn.data.toList=false then out else fI out (cL s)from rfl);clear X ht;generalize cL s=t at *
 generalize pW pn out s=R at *
 go_enter Tryz.func196,Tryz.ntmps196
 go_wp2_with fail
 refine HX.out.mono ?_;rintro e W2 ⟨rfl,B2⟩;have HS2:=hid (h.out.below B2);clear B2 HX;obtain⟨v,xs,hr,hO,hne,hC⟩:=HS2.out.row;obtain⟨a,c,rfl,_,_⟩:=hO.slice;have c0:W2.cell? ⟨p,0,none⟩=some (.string pn):=by rw[cell_of_row _ _ 0 _ 151 (0,0) hr];rfl
 have c2:W2.cell? ⟨p,2,none⟩=some (.slice a out.length c):=by rw[cell_of_row _ _ 2 _ 151 (0,0) hr];rfl
 have HR:=hid hr;have HO:=hid hO;have HC:=hid hC;have HNE:=hid hne;clear hr hO hC hne;by_cases h0:t=⟨#[]⟩
 ·subst h0;have hR:R=out:=by rw[HTXT.out,if_pos (Or.inl rfl)]
  subst hR;go_wp2
  refine bodyPost_ret (v:=.tuple #[]) (by simp[results,Tryz.results196,go_sem]) rfl ⟨rfl,HS2.out⟩
 ·have k1:¬t.toList=[]:=fun e=>h0 (gU (by rw[←toList_data,e]))
  have k2:t.toList.isEmpty=false:=by cases hh:t.toList with|nil=>exact absurd hh k1|cons a b=>rfl
  have HTK:=hid (aCh pn W2);obtain⟨q,hq⟩:∃q,lO pn.data.toList=q:=⟨_,rfl⟩
  rw[hq]at HTK HTXT
  have H0:=hid h0;clear h0 hq;go_wp2_with fail
  refine HTK.out.mono ?_;rintro e w' ⟨rfl,rfl⟩;clear HTK;cases q with
  | false =>
   have hR:R=out:=by rw[HTXT.out,if_pos (Or.inr rfl)]
   subst hR;go_wp2
   refine bodyPost_ret (v:=.tuple #[]) (by simp[results,Tryz.results196,go_sem]) rfl ⟨rfl,HS2.out⟩
  | true =>
   have HRR:Hid (R=fI out t):=by show _=_;rw[HTXT.out,if_neg (by rintro(e|e);exact H0.out e;cases e)]
   clear HTXT;go_upto_region 3 with fail
   obtain⟨it,hit⟩:∃it,qM out=it:=⟨_,rfl⟩
   have HIT:=hid hit;clear hit;go_cut [35] (fun v35 wx=>v35=.bool it∧wx=W2)
   case first =>
    by_cases hnil:out=[]
    ·subst hnil;have hfalse:it=false:=HIT.out.symm;subst hfalse;go_wp2
     go_meet
     case rel=>exact⟨rfl,rfl⟩
    ·obtain⟨ys,x,hyx⟩:=xI hnil;obtain⟨g,c',hv,_,_,_⟩:=HO.out.atRow (List.length_pos_iff.2 hnil);simp only[Value.slice.injEq]at hv;obtain⟨rfl,_,rfl⟩:=hv;have hC:=HC.out;rw[hyx]at hC
     have hkc:=HO.out.cell _ _ hC.at.1;have hke:(x.kind==2)=it:=by
      have h1:=HIT.out;rw[hyx,uO]at h1
      rw[←h1];by_cases hk:x.kind=2
      ·rw[hk];rfl
      ·rw[decide_eq_false hk,beq_eq_false_iff_ne];exact hk
     have hol:out.length=ys.length+1:=by rw[hyx];simp
     have hsub:(out.length:Int)-1=(ys.length:Int):=by omega
     have hklt:ys.length<out.length:=by omega
     have hpos:0<out.length:=by omega
     clear hC hnil hyx hol;generalize out.length=ol at *
     generalize ys.length=k at *
     go_wp2
     go_meet
     case rel=>exact⟨by simp,rfl⟩
   case rest =>
    obtain⟨rfl,rfl⟩:=hcut;cases it with
    | true =>
     have hnil:out≠[]:=fun e=>by have h1:=HIT.out;rw[e]at h1;cases h1
     obtain⟨ys,x,hyx⟩:=xI hnil;obtain⟨g,c',hv,hlo,_,_⟩:=HO.out.atRow (List.length_pos_iff.2 hnil);simp only[Value.slice.injEq]at hv;obtain⟨rfl,_,rfl⟩:=hv;have hC:=HC.out;rw[hyx]at hC
     have hxk:x.kind=2:=by have h1:=HIT.out;rw[hyx,uO]at h1;exact of_decide_eq_true h1
     have hkc:=HO.out.cell _ _ hC.at.2;have hxl:ys.length*6+4+1≤xs.length:=by rw[hC.1];simp;omega
     have hfr:=(HO.out.there (ys.length*6+4) 1 hxl 0 (by omega)).2;rw[Nat.add_zero]at hfr
     have hol:out.length=ys.length+1:=by rw[hyx];simp
     have hsub:(out.length:Int)-1=(ys.length:Int):=by omega
     have hklt:ys.length<out.length:=by omega
     have hxt:=hx x (by rw[hyx];simp);have hgp:g≠p:=fun e=>HNE.out (by rw[e];rfl)
     have hfin:=Sv.more HS2.out.at' HS2.out.phr (by rw[hyx]) HR.out HO.out hgp hC t;have hRR:R=ys++[x.more t]:=by rw[HRR.out,hyx,qF,if_pos hxk]
     have HRR2:=hid hRR;have HFIN:=hid hfin;clear hC hnil hyx hol hxk hxl hgp hRR hfin hx hlo;generalize out.length=ol at *
     generalize ys.length=k at *
     go_wp2
     refine bodyPost_ret (v:=.tuple #[]) (by simp[results,Tryz.results196,go_sem]) rfl ⟨rfl,?_⟩;rw[HRR2.out];exact HFIN.out
    | false =>
     obtain⟨i45,hi45,hz45,hs45,hb45⟩:=info_parts Tryz.info45;obtain⟨ol,hol⟩:∃ol,out.length=ol:=⟨_,rfl⟩
     have hO:=HO.out;rw[hol]at hO c2 ho
     have hxl:xs.length=ol*6:=by rw[HC.out.1,hol]
     have HOLD:=hid hol;have HXL:=hid hxl;have hbd:Below wc.heap.size wc (wc.drewN 1):=dT wc;have HOd:=hid (hO.keep hbd);have hc2d:(wc.drewN 1).cell? ⟨p,2,none⟩=some (.slice a ol c):=by rw[hbd.cell (p:=⟨p,2,none⟩) (World.block_lt_of_cell? _ _ c2)];exact c2
     have HC2D:=hid hc2d;have HRD:=hid ((hbd.block p (Array.getElem?_eq_some_iff.1 HR.out).1).trans HR.out);have hlen0:out.length=ol:=hol;go_upto_region 5 with fail
     rw[hlen0];obtain⟨S,hS⟩:∃S:World→Prop,∀u,S u↔u.cell? ⟨p,2,none⟩=some (.slice a ol c):=⟨_,fun _=>Iff.rfl⟩
     have f2:∀s:WIn S,s.w.cell? ⟨p,2,none⟩=some (.slice a ol c):=fun s=>(hS _).1 s.h
     haveI:Nonempty (WIn S):=⟨⟨wc,(hS _).2 c2⟩⟩
     haveI:Nonempty (WIn fun _:World=>True):=⟨⟨wc,trivial⟩⟩
     have HSS:=hid hS;clear hS hO hol hxl hbd hc2d c2 c0 hlen0;refine aAK 9 (.two [0,1,2,3,4,6] 5 (.one [] 7 (.one [] 8 (.fin []))) 7 (.one [] 5 (.one [] 8 (.fin [])))) (.two [9,11,12] 10 (.one [] 13 (.fin [])) 13 (.one [] 10 (.fin []))) S (by kernel_rfl) (by kernel_rfl) ((HSS.out _).2 HC2D.out) ?_;refine fJ (fun K' hK'=>?_);simp only[pick,pickZ,pickS,pickG];repeat (go_big_quiet_step (fail))
     clear f2;refine wpQuiet_nil (hK' _ ?_ ?_)
     ·intro Q1 hQ1;clear hK' K';simp only[pick,pickZ,pickS,pickG];go_wp2_with fail
      refine hQ1 _ _ ((HSS.out _).2 HC2D.out) (bB (fun K' hK'=>wpQuiet_nil (hK' _ ?_)));clear hK' K' hQ1 Q1;intro Q2 hQ2;simp only[pick,pickZ,pickS,pickG];go_wp2_with fail
      refine hQ2 _ _ ((HSS.out _).2 (mP HC2D.out)) (bB (fun K' hK'=>wpQuiet_nil (hK' _ ?_)));clear hK' K' hQ2 Q2;intro Q3 hQ3;simp only[pick,pickZ,pickS,pickG];go_wp2_with (at_builtin;refine fU (by rfl) _ _ 43 (by rfl) 45 i45 _ 6 96 Tryz.underlying43 hi45 hz45 hs45 hb45 rfl (by decide) _ _ _ rfl HOd.out #[.int .i64 0,.int .i64 0,.string ⟨#[]⟩,.slice none 0 0,.string ⟨#[]⟩,.slice none 0 0] rfl rfl rfl rfl (by omega) (by omega) ?_)
      intro v5 W5 hO5 hG5;obtain⟨g5,c5,rfl,hlo5,hlt5,hob5⟩:=hO5.out.atRow (by omega);have hds:(wc.drewN 1).heap.size=wc.heap.size:=rfl;have hpw:p<(wc.drewN 1).heap.size:=(Array.getElem?_eq_some_iff.1 HRD.out).1;have hr5:W5.heap[p]?=some (.cells #[.string pn,pv,.slice a ol c] 151 (0,0)):=by
       rw[hG5.out.gr.block p (by simp;omega) (fun e=>by have h1:=HNE.out;rw[HOLD.out]at h1;exact h1 e.symm),Below.heap_alloc _ _ p hpw];have h1:=HRD.out;rw[HOLD.out]at h1
       exact h1
      have hne5:g5≠p:=by
       rcases hG5.out.loc with hl|⟨k,hk,hle⟩
       ·intro e;have h1:=HNE.out;rw[HOLD.out]at h1
        exact h1 (by rw[←hl,hob5,e])
       ·rw[hob5]at hk
        have h1:g5=k:=Option.some.inj hk;simp at hle;omega
      have hC5:bU (fun k=>p<k∧g5≠k) W5 xs out:=by
       have h0:=HC.out;rw[HOLD.out]at h0
       refine h0.keep (fun k hk hd=>⟨?_,hd.1,?_⟩)
       ·have hkw:k<(wc.drewN 1).heap.size:=hk;rw[hG5.out.gr.block k (by simp;omega) (fun e=>hd.2 e.symm),Below.heap_alloc _ _ k hkw];rfl
       ·rcases hG5.out.loc with hl|⟨q,hq,hle⟩
        ·intro e;exact hd.2 (by rw[←hl,hob5,e])
        ·rw[hob5]at hq
         have h1:g5=q:=Option.some.inj hq;have hkw:k<(wc.drewN 1).heap.size:=hk;simp at hle;omega
      have HPW:=hid (rT (zs:=[.int .i64 0,.int .i64 0,.string ⟨#[]⟩,.slice none 0 0,.string ⟨#[]⟩,.slice none 0 0]) (cs:=[.int .i64 2,.int .i64 0,.string ⟨#[]⟩,.slice none 0 0,.string t,.slice none 0 0]) hne5 rfl (ol*6) HXL.out.symm hr5 hO5.out);have HC5:=hid hC5;have HNE5:=hid hne5;have HLT5:=hid hlt5;have hc5:W5.cell? ⟨p,2,none⟩=some (.slice a ol c):=by rw[cell_of_row _ _ 2 _ 151 (0,0) hr5];rfl
      have hf5:W5.frozen? ⟨p,2,none⟩=false:=by simp[World.frozen?,hr5]
      have HR5:=hid hr5;have HTH:=hid (hO5.out.there (ol*6) 6 (by rw[List.length_append,HXL.out];simp));have HTH2:=hid ((hO5.out.aside ⟨p,2,none⟩ xC hne5 (.slice (some ⟨g5,0,none⟩) (ol+1) c5)).there (ol*6) 6 (by rw[List.length_append,HXL.out];simp));have HOL1:=hid (show ol+1=out.length+1 by rw[HOLD.out]);clear hds hpw hr5 hne5 hC5 hlo5 hlt5 hob5;go_wp2_with fail
      refine hQ3 _ _ ((HSS.out _).2 hc5) (cQ (fun K' hK'=>wpQuiet_nil (hK' _ ?_)));clear hK' K' hQ3 Q3;refine fJ (fun K' hK'=>?_);simp only[pick,pickZ,pickS,pickG];repeat (go_big_quiet_step (fail))
      refine wpQuiet_nil (hK' _ ?_ ?_)
      ·intro Q4 hQ4;clear hK' K';simp only[pick,pickZ,pickS,pickG];refine wpList_store_mid (by rfl) 45 (.tmp 58) (.tmp 54) rfl g5 (ol*6) #[.int .i64 2,.int .i64 0,.string ⟨#[]⟩,.slice none 0 0,.string t,.slice none 0 0] rfl rfl HTH.out (by rw[hi45];simp[hs45]) (by simp[Value.oneCell']) ?_;simp only[];obtain⟨W6,hW6⟩:∃W6,W6=W5.setCells g5 (ol*6) [.int .i64 2,.int .i64 0,.string ⟨#[]⟩,.slice none 0 0,.string t,.slice none 0 0]:=⟨_,rfl⟩
       rw[←hW6];have HW6:=hid (HPW.out (W6.setCell ⟨p,2,none⟩ (.slice (some ⟨g5,0,none⟩) (ol+1) c5)) (.inl (by rw[hW6])));have hr6:W6.heap[p]?=some (.cells #[.string pn,pv,.slice a ol c] 151 (0,0)):=by rw[hW6,bX g5 _ (ol*6) W5 p (Ne.symm HNE5.out)];exact HR5.out
       have hc6:W6.cell? ⟨p,2,none⟩=some (.slice a ol c):=by rw[cell_of_row _ _ 2 _ 151 (0,0) hr6];rfl
       have hf6:W6.frozen? ⟨p,2,none⟩=false:=by simp[World.frozen?,hr6]
       clear hr6 hW6 hc5 hf5;go_wp2_with fail
       refine hQ4 _ _ trivial (bB (fun K' hK'=>wpQuiet_nil (hK' _ ?_)));clear hK' K' hQ4 Q4;intro Q5 hQ5;simp only[pick,pickZ,pickS,pickG];go_wp2_with fail
       refine hQ5 _ _ trivial (cQ (fun K' hK'=>wpQuiet_nil (hK' _ (fun Q6 hQ6=>?_))));clear hK' K' hQ5 Q5;go_wp2
       refine bodyPost_end (v:=.tuple #[]) (by simp[results,Tryz.results196,go_sem]) rfl ⟨rfl,?_⟩;rw[HRR.out,nU HIT.out];exact Sv.push HS2.out.at' HS2.out.phr HOL1.out HNE5.out HW6.out.1 HW6.out.2.1 HC5.out (pN _ _ t) HW6.out.2.2
      ·intro Q4 hQ4;clear hK' K';simp only[pick,pickZ,pickS,pickG];go_wp2_with fail
       refine hQ4 _ _ trivial (bB (fun K' hK'=>wpQuiet_nil (hK' _ ?_)));clear hK' K' hQ4 Q4;intro Q5 hQ5;simp only[pick,pickZ,pickS,pickG];have hth:(W5.setCell ⟨p,2,none⟩ (.slice (some ⟨g5,0,none⟩) (ol+1) c5)).there g5 (ol*6) 6:=HTH2.out;refine wpList_store_mid (by rfl) 45 (.tmp 58) (.tmp 54) rfl g5 (ol*6) #[.int .i64 2,.int .i64 0,.string ⟨#[]⟩,.slice none 0 0,.string t,.slice none 0 0] rfl rfl hth (by rw[hi45];simp[hs45]) (by simp[Value.oneCell']) ?_;simp only[];obtain⟨W6,hW6⟩:∃W6,W6=(W5.setCell ⟨p,2,none⟩ (.slice (some ⟨g5,0,none⟩) (ol+1) c5)).setCells g5 (ol*6) [.int .i64 2,.int .i64 0,.string ⟨#[]⟩,.slice none 0 0,.string t,.slice none 0 0]:=⟨_,rfl⟩
       rw[←hW6];have HW6:=hid (HPW.out W6 (.inr hW6));clear hW6 hc5 hf5 hth;go_wp2_with fail
       refine hQ5 _ _ trivial (cQ (fun K' hK'=>wpQuiet_nil (hK' _ (fun Q6 hQ6=>?_))));clear hK' K' hQ5 Q5;go_wp2
       refine bodyPost_end (v:=.tuple #[]) (by simp[results,Tryz.results196,go_sem]) rfl ⟨rfl,?_⟩;rw[HRR.out,nU HIT.out];exact Sv.push HS2.out.at' HS2.out.phr HOL1.out HNE5.out HW6.out.1 HW6.out.2.1 HC5.out (pN _ _ t) HW6.out.2.2
     ·intro Q1 hQ1;clear hK' K';simp only[pick,pickZ,pickS,pickG];go_wp2_with fail
      refine hQ1 _ _ ((HSS.out _).2 (mP HC2D.out)) (bB (fun K' hK'=>wpQuiet_nil (hK' _ ?_)));clear hK' K' hQ1 Q1;intro Q2 hQ2;simp only[pick,pickZ,pickS,pickG];go_wp2_with fail
      refine hQ2 _ _ ((HSS.out _).2 (mP HC2D.out)) (bB (fun K' hK'=>wpQuiet_nil (hK' _ ?_)));clear hK' K' hQ2 Q2;intro Q3 hQ3;simp only[pick,pickZ,pickS,pickG];go_wp2_with (at_builtin;refine fU (by rfl) _ _ 43 (by rfl) 45 i45 _ 6 96 Tryz.underlying43 hi45 hz45 hs45 hb45 rfl (by decide) _ _ _ rfl HOd.out #[.int .i64 0,.int .i64 0,.string ⟨#[]⟩,.slice none 0 0,.string ⟨#[]⟩,.slice none 0 0] rfl rfl rfl rfl (by omega) (by omega) ?_)
      intro v5 W5 hO5 hG5;obtain⟨g5,c5,rfl,hlo5,hlt5,hob5⟩:=hO5.out.atRow (by omega);have hds:(wc.drewN 1).heap.size=wc.heap.size:=rfl;have hpw:p<(wc.drewN 1).heap.size:=(Array.getElem?_eq_some_iff.1 HRD.out).1;have hr5:W5.heap[p]?=some (.cells #[.string pn,pv,.slice a ol c] 151 (0,0)):=by
       rw[hG5.out.gr.block p (by simp;omega) (fun e=>by have h1:=HNE.out;rw[HOLD.out]at h1;exact h1 e.symm),Below.heap_alloc _ _ p hpw];have h1:=HRD.out;rw[HOLD.out]at h1
       exact h1
      have hne5:g5≠p:=by
       rcases hG5.out.loc with hl|⟨k,hk,hle⟩
       ·intro e;have h1:=HNE.out;rw[HOLD.out]at h1
        exact h1 (by rw[←hl,hob5,e])
       ·rw[hob5]at hk
        have h1:g5=k:=Option.some.inj hk;simp at hle;omega
      have hC5:bU (fun k=>p<k∧g5≠k) W5 xs out:=by
       have h0:=HC.out;rw[HOLD.out]at h0
       refine h0.keep (fun k hk hd=>⟨?_,hd.1,?_⟩)
       ·have hkw:k<(wc.drewN 1).heap.size:=hk;rw[hG5.out.gr.block k (by simp;omega) (fun e=>hd.2 e.symm),Below.heap_alloc _ _ k hkw];rfl
       ·rcases hG5.out.loc with hl|⟨q,hq,hle⟩
        ·intro e;exact hd.2 (by rw[←hl,hob5,e])
        ·rw[hob5]at hq
         have h1:g5=q:=Option.some.inj hq;have hkw:k<(wc.drewN 1).heap.size:=hk;simp at hle;omega
      have HPW:=hid (rT (zs:=[.int .i64 0,.int .i64 0,.string ⟨#[]⟩,.slice none 0 0,.string ⟨#[]⟩,.slice none 0 0]) (cs:=[.int .i64 2,.int .i64 0,.string ⟨#[]⟩,.slice none 0 0,.string t,.slice none 0 0]) hne5 rfl (ol*6) HXL.out.symm hr5 hO5.out);have HC5:=hid hC5;have HNE5:=hid hne5;have HLT5:=hid hlt5;have hc5:W5.cell? ⟨p,2,none⟩=some (.slice a ol c):=by rw[cell_of_row _ _ 2 _ 151 (0,0) hr5];rfl
      have hf5:W5.frozen? ⟨p,2,none⟩=false:=by simp[World.frozen?,hr5]
      have HR5:=hid hr5;have HTH:=hid (hO5.out.there (ol*6) 6 (by rw[List.length_append,HXL.out];simp));have HTH2:=hid ((hO5.out.aside ⟨p,2,none⟩ xC hne5 (.slice (some ⟨g5,0,none⟩) (ol+1) c5)).there (ol*6) 6 (by rw[List.length_append,HXL.out];simp));have HOL1:=hid (show ol+1=out.length+1 by rw[HOLD.out]);clear hds hpw hr5 hne5 hC5 hlo5 hlt5 hob5;go_wp2_with fail
      refine hQ3 _ _ ((HSS.out _).2 hc5) (cQ (fun K' hK'=>wpQuiet_nil (hK' _ ?_)));clear hK' K' hQ3 Q3;refine fJ (fun K' hK'=>?_);simp only[pick,pickZ,pickS,pickG];repeat (go_big_quiet_step (fail))
      refine wpQuiet_nil (hK' _ ?_ ?_)
      ·intro Q4 hQ4;clear hK' K';simp only[pick,pickZ,pickS,pickG];refine wpList_store_mid (by rfl) 45 (.tmp 58) (.tmp 54) rfl g5 (ol*6) #[.int .i64 2,.int .i64 0,.string ⟨#[]⟩,.slice none 0 0,.string t,.slice none 0 0] rfl rfl HTH.out (by rw[hi45];simp[hs45]) (by simp[Value.oneCell']) ?_;simp only[];obtain⟨W6,hW6⟩:∃W6,W6=W5.setCells g5 (ol*6) [.int .i64 2,.int .i64 0,.string ⟨#[]⟩,.slice none 0 0,.string t,.slice none 0 0]:=⟨_,rfl⟩
       rw[←hW6];have HW6:=hid (HPW.out (W6.setCell ⟨p,2,none⟩ (.slice (some ⟨g5,0,none⟩) (ol+1) c5)) (.inl (by rw[hW6])));have hr6:W6.heap[p]?=some (.cells #[.string pn,pv,.slice a ol c] 151 (0,0)):=by rw[hW6,bX g5 _ (ol*6) W5 p (Ne.symm HNE5.out)];exact HR5.out
       have hc6:W6.cell? ⟨p,2,none⟩=some (.slice a ol c):=by rw[cell_of_row _ _ 2 _ 151 (0,0) hr6];rfl
       have hf6:W6.frozen? ⟨p,2,none⟩=false:=by simp[World.frozen?,hr6]
       clear hr6 hW6 hc5 hf5;go_wp2_with fail
       refine hQ4 _ _ trivial (bB (fun K' hK'=>wpQuiet_nil (hK' _ ?_)));clear hK' K' hQ4 Q4;intro Q5 hQ5;simp only[pick,pickZ,pickS,pickG];go_wp2_with fail
       refine hQ5 _ _ trivial (cQ (fun K' hK'=>wpQuiet_nil (hK' _ (fun Q6 hQ6=>?_))));clear hK' K' hQ5 Q5;go_wp2
       refine bodyPost_end (v:=.tuple #[]) (by simp[results,Tryz.results196,go_sem]) rfl ⟨rfl,?_⟩;rw[HRR.out,nU HIT.out];exact Sv.push HS2.out.at' HS2.out.phr HOL1.out HNE5.out HW6.out.1 HW6.out.2.1 HC5.out (pN _ _ t) HW6.out.2.2
      ·intro Q4 hQ4;clear hK' K';simp only[pick,pickZ,pickS,pickG];go_wp2_with fail
       refine hQ4 _ _ trivial (bB (fun K' hK'=>wpQuiet_nil (hK' _ ?_)));clear hK' K' hQ4 Q4;intro Q5 hQ5;simp only[pick,pickZ,pickS,pickG];have hth:(W5.setCell ⟨p,2,none⟩ (.slice (some ⟨g5,0,none⟩) (ol+1) c5)).there g5 (ol*6) 6:=HTH2.out;refine wpList_store_mid (by rfl) 45 (.tmp 58) (.tmp 54) rfl g5 (ol*6) #[.int .i64 2,.int .i64 0,.string ⟨#[]⟩,.slice none 0 0,.string t,.slice none 0 0] rfl rfl hth (by rw[hi45];simp[hs45]) (by simp[Value.oneCell']) ?_;simp only[];obtain⟨W6,hW6⟩:∃W6,W6=(W5.setCell ⟨p,2,none⟩ (.slice (some ⟨g5,0,none⟩) (ol+1) c5)).setCells g5 (ol*6) [.int .i64 2,.int .i64 0,.string ⟨#[]⟩,.slice none 0 0,.string t,.slice none 0 0]:=⟨_,rfl⟩
       rw[←hW6];have HW6:=hid (HPW.out W6 (.inr hW6));clear hW6 hc5 hf5 hth;go_wp2_with fail
       refine hQ5 _ _ trivial (cQ (fun K' hK'=>wpQuiet_nil (hK' _ (fun Q6 hQ6=>?_))));clear hK' K' hQ5 Q5;go_wp2
       refine bodyPost_end (v:=.tuple #[]) (by simp[results,Tryz.results196,go_sem]) rfl ⟨rfl,?_⟩;rw[HRR.out,nU HIT.out];exact Sv.push HS2.out.at' HS2.out.phr HOL1.out HNE5.out HW6.out.1 HW6.out.2.1 HC5.out (pN _ _ t) HW6.out.2.2
