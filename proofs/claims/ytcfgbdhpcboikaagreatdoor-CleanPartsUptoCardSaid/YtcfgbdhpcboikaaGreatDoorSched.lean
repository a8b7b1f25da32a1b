/-
  A region that draws its order, walked in one order of the prover's choice: quiet operations (they yield one value in every world that meets S, and leave it alone), loud ones between them (each comes up alone, and keeps S), then a forced tail, of which S is not asked.
  Regions that draw their order where two loud operations may be ready at once: the schedule as a tree.
-/
import Derived.StillTail
import Derived.Deep.Quiet
import Derived.OrdersHeld
import Derived.Deep.RegionHeld3
namespace Go.Proofs.YtcfgbdhpcboikaaGreatDoor
open Go
def valueB (o:Oper):Bool :=
 match o.op with
 | .move _|.assign _|.pick .. | .load .. | .nilCheck _|.binOp .. | .unOp .. | .convert .. | .fieldAddr .. | .field .. | .indexAddr .. | .index .. | .slice .. | .extract .. | .lookup .. | .typeAssert .. => true
 | .call { callee:=.builtin b, .. }=>match b with|.len|.cap|.min|.max=>true|_=>false
 | _=>false
def OnlyValue (s:Sem Next):Prop:=∀ (P:Program) (w:World) (n:Next) (w':World),s.run P w=.ok n w'→∃ v,n=.value v
theorem OnlyValue.pure (v:Value):OnlyValue (Pure.pure (Next.value v)):=by
 intro P w n w' h
 simp only[Sem.run_pure,Result.ok.injEq] at h
 exact⟨v,h.1.symm⟩
theorem OnlyValue.bind {α : Type}{s:Sem α}{k:α → Sem Next}(h:∀ x,OnlyValue (k x)):OnlyValue (s >>= k):=by
 intro P w n w' hr
 rw[Sem.run_bind] at hr
 cases hs:s.run P w with
 | ok x w1=>rw[hs] at hr;exact h x P w1 n w' hr
 | halt x w1=>rw[hs] at hr;simp[Result.andThen] at hr
theorem OnlyValue.halt (x:Halt):OnlyValue (Sem.halt x):=by
 intro P w n w' h
 simp[Sem.run] at h
theorem OnlyValue.panic (e:RuntimeError):OnlyValue (runtimePanic e):=by
 unfold runtimePanic
 refine OnlyValue.bind fun p=>?_
 cases e<;>first|exact OnlyValue.halt _|exact OnlyValue.bind fun _=>OnlyValue.bind fun _=>OnlyValue.halt _
theorem OnlyValue.bind' {α : Type}{s:Sem α}{k:α → Sem Next}(h:∀ (P:Program) w x w',s.run P w=.ok x w'→OnlyValue (k x)):OnlyValue (s >>= k):=by
 intro P w n w' hr
 rw[Sem.run_bind] at hr
 cases hs:s.run P w with
 | ok x w1=>rw[hs] at hr;exact h P w x w1 hs P w1 n w' hr
 | halt x w1=>rw[hs] at hr;simp[Result.andThen] at hr
theorem valueB_spec {o:Oper}(h:valueB o=true) (ρ : Operand→Value):OnlyValue (execOp ρ o):=by
 unfold execOp
 unfold valueB at h
 cases ho:o.op<;>simp only[ho] at h<;>try (exact absurd h (by decide))
 all_goals try (exact OnlyValue.pure _)
 all_goals try (exact OnlyValue.bind fun _=>OnlyValue.pure _)
 case nilCheck x =>
  simp only[]
  split
  all_goals try (exact OnlyValue.pure _)
  all_goals try (exact OnlyValue.panic _)
  split
  all_goals try (exact OnlyValue.pure _)
  all_goals try (exact OnlyValue.panic _)
  refine OnlyValue.bind fun p=>OnlyValue.bind fun b=>?_
  split
  ·exact OnlyValue.bind fun _=>OnlyValue.pure _
  ·exact OnlyValue.pure _
 case call c =>
  obtain⟨callee,args,argTypes⟩:=c
  cases callee<;>simp only[] at h<;>try (exact absurd h (by decide))
  rename_i b
  refine OnlyValue.bind' (s:=resolve ρ { callee:=.builtin b,args,argTypes } o.type) (fun P w d w' hd=>?_)
  simp only[resolve,Sem.run_pure,Result.ok.injEq] at hd
  rw[← hd.1]
  cases b<;>simp only[] at h<;>first|exact absurd h (by decide)|exact OnlyValue.bind fun _=>OnlyValue.pure _
section
variable {P:Program} {ops:Array Oper} {md:Region.Mode} {S:World→Prop} {Q:Exit→Act→World→Prop}
def headH (P:Program)(md:Region.Mode)(ops:Array Oper)(Q:Exit→Act→World→Prop)(S:World→Prop)(n:Nat)(L:Array Bool→Act→World→Prop):Nat→Array Bool→Act→World→Prop
 | 0,listed,a,w=>L listed a w
 | f+1,listed,a,w =>
  Region.ready md ops listed≠[]∧∀ i∈Region.ready md ops listed,i<n∧wpOp P ops Q i (fun a' w'=>S w'∧headH P md ops Q S n L f (listed.setIfInBounds i true) a' w') a w
theorem any_of_headH {n g:Nat}{L:Array Bool→Act→World→Prop}(hL:∀ listed a w,L listed a w→wpAny P md ops Q g listed a w) :
  ∀ (f:Nat) (listed:Array Bool) (a:Act) (w:World),headH P md ops Q S n L f listed a w→wpAny P md ops Q (f+g) listed a w
 | 0,listed,a,w,h=>by rw[Nat.zero_add];exact hL _ _ _ h
 | f+1,listed,a,w,h=>by
  rw[show f+1+g=(f+g)+1 by omega]
  exact⟨fun h0=>absurd h0 h.1,fun i hi=>wpOp_mono (fun a' w' h'=>any_of_headH hL f _ a' w' h'.2) (h.2 i hi).2⟩
theorem headH_first {n i:Nat}{oi:Oper}{v:Value}{L:Array Bool→Act→World→Prop}(hi:ops[i]?=some oi)(hsel:∀ (j:Nat) (o:Oper) cs b,ops[j]?=some o→o.op≠.select cs b)
  (hQ:∀ c a w,Q (.panic c) (a.put oi.dst v) w→Q (.panic c) a w)
  (hs:Region.sinkB md ops n=true) (hc:Region.chainB md ops n=true) (hn:n<ops.size) (hin:i<n)
  (hdone:∀ listed a w,L listed a w→∀ j∈Region.ready md ops listed,n≤j) :
  ∀ (f:Nat) (listed:Array Bool) (a:Act) (w:World),HeadInv md ops n listed →
   (∀ j oj,ops[j]?=some oj→j≠i→listed.getD j true=false→(∀ e∈oj.after,Region.binds md e=true→e.on≠i)→oi.apart ops oj=true) →
   i∈Region.ready md ops listed→YieldsIf P ops S oi v a→S w →
   headH P md ops Q S n L f (listed.setIfInBounds i true) (a.put oi.dst v) w→headH P md ops Q S n L (f+1) listed a w:=by
 intro f
 induction f with
 | zero =>
  intro listed a w inv _ hr hy hS H
  have hun:=(mem_ready.1 hr).1
  refine⟨fun h=>(by rw[h] at hr;cases hr),fun j hj=>?_⟩
  have hjn:j<n:=by
   rcases Nat.lt_or_ge j n with h|h
   ·exact h
   ·exact absurd hj (tail_waits hs hc hn inv _ i rfl hin hun j h)
  refine⟨hjn,?_⟩
  by_cases hji:j=i
  ·subst hji;exact hy.wpOp hi hS ⟨hS,H⟩
  ·have:=hdone _ _ _ H j (ready_mono hj hji)
   omega
 | succ f ih =>
  intro listed a w inv hfree hr hy hS H
  have hun:=(mem_ready.1 hr).1
  refine⟨fun h=>(by rw[h] at hr;cases hr),fun j hj=>?_⟩
  have hjn:j<n:=by
   rcases Nat.lt_or_ge j n with h|h
   ·exact h
   ·exact absurd hj (tail_waits hs hc hn inv _ i rfl hin hun j h)
  refine⟨hjn,?_⟩
  by_cases hji:j=i
  ·subst hji;exact hy.wpOp hi hS ⟨hS,H⟩
  ·have h1:=(H.2 j (ready_mono hj hji)).2
   obtain⟨hjun,oj,hoj,hall⟩:=mem_ready.1 hj
   have hnot:∀ e∈oj.after,Region.binds md e=true→e.on≠i:=fun e he hb heq=>by
    have h1:=hall e he hb
    rw[heq,getD_both hun] at h1
    cases h1
   have h2:=wpOp_putIf hoj (hfree j oj hoj hji hjun hnot) (fun cs b=>hsel i oi cs b hi) (fun cs b=>hsel j oj cs b hoj) hQ hy h1
   have hfree':∀ k ok,ops[k]?=some ok→k≠i→(listed.setIfInBounds j true).getD k true=false →
     (∀ e∈ok.after,Region.binds md e=true→e.on≠i)→oi.apart ops ok=true:=fun k ok hk hki hun' hno=>by
    refine hfree k ok hk hki ?_ hno
    by_cases hjk:j=k
    ·subst hjk;exact hjun
    ·rw[getD_set_ne true hjk] at hun';exact hun'
   refine wpOp_mono (fun a' w' h3=>⟨h3.2.1,ih (listed.setIfInBounds j true) a' w' (inv.set hj hjn) hfree' (ready_mono hr (Ne.symm hji)) h3.1 h3.2.1 ?_⟩) h2
   rw[Array.setIfInBounds_comm _ _ hji]
   exact h3.2.2
def orderB (md:Region.Mode)(ops:Array Oper)(n:Nat):List (Bool × Nat)→Array Bool→Bool
 | [],listed=>Region.seqB md ops (ops.size-n) n listed
 | (q,i) :: r,listed =>
  decide (i<n)&&(if q then (Region.ready md ops listed).contains i&&Region.free md ops listed i&&((ops[i]?).map valueB).getD false else decide (Region.ready md ops listed=[i])) &&
   orderB md ops n r (listed.setIfInBounds i true)
def flat (P:Program)(ops:Array Oper)(S:World→Prop)(K:Act→World→Prop):List (Bool × Nat)→Act→World→Prop
 | [],a,w=>K a w
 | (q,i) :: r,a,w =>
  match ops[i]? with
  | none=>False
  | some o =>
   if Region.wanted o (yielded ops a.tmps) then
    if q then ∃ v,(∀ u,S u→(execOp a.eval o).run P u=.ok (.value v) u)∧flat P ops S K r (a.put o.dst v) w
    else o.wp P a w (fun a' w'=>S w'∧flat P ops S K r a' w') (fun _ _ _=>False)
   else flat P ops S K r (a.put o.dst undef) w
theorem wp_of_noExit {P:Program}{o:Oper}{a:Act}{w:World}{K:Act→World→Prop}{Q:Exit→Act→World→Prop}(h:o.wp P a w K (fun _ _ _=>False)):o.wp P a w K Q:=by
 unfold Oper.wp at *
 generalize (execOp a.eval o).run P w=r at *
 cases r with
 | ok n w' =>
  cases n<;>simp only[Oper.upon] at h ⊢ <;> first|exact h|skip
  exact h.mono fun e w'' he=>by
   cases e with
   | returned v=>exact he
   | panicked c=>exact he.elim
   | outgrown=>obtain⟨_,_,h⟩:=he;exact h.elim
 | halt x w'=>cases x<;>simp only[Oper.upon] at h ⊢
theorem headH_of_flat {n:Nat}{K:Act→World→Prop}(hsel:Region.noSelect ops=true)(hQ:∀ c d v (a:Act) w,Q (.panic c) (a.put d v) w→Q (.panic c) a w)
  (hs:Region.sinkB md ops n=true) (hc:Region.chainB md ops n=true) (hn:n<ops.size) :
  ∀ (l:List (Bool × Nat)) (listed:Array Bool) (a:Act) (w:World),HeadInv md ops n listed→orderB md ops n l listed=true→S w→flat P ops S K l a w →
   headH P md ops Q S n (fun listed' a' w'=>Region.seqB md ops (ops.size-n) n listed'=true∧K a' w') l.length listed a w
 | [],listed,a,w,_,hB,_,h=>⟨hB,h⟩
 | (q,i) :: r,listed,a,w,inv,hB,hS,h=>by
  simp only[orderB,Bool.and_eq_true,decide_eq_true_eq] at hB
  obtain⟨⟨hin,hq⟩,hB'⟩:=hB
  unfold flat at h
  cases ho:ops[i]? with
  | none=>simp only[ho] at h
  | some o =>
   simp only[ho] at h
   cases q with
   | true =>
    simp only[if_true,Bool.and_eq_true,ho,Option.map_some,Option.getD_some] at hq h
    obtain⟨⟨hr,hf⟩,hv⟩:=hq
    have hr':i∈Region.ready md ops listed:=by simpa using hr
    have hdone:∀ listed' (a':Act) (w':World),(Region.seqB md ops (ops.size-n) n listed'=true∧K a' w')→∀ j∈Region.ready md ops listed',n≤j:=fun listed' a' w' hL=>seqB_ready hL.1
    by_cases hw:Region.wanted o (yielded ops a.tmps)=true
    ·simp only[hw,if_true] at h
     obtain⟨v,h1,h2⟩:=h
     exact headH_first ho (Region.noSelect_spec hsel) (fun c a w=>hQ c _ _ a w) hs hc hn hin hdone r.length listed a w inv (Region.free_spec ho hf) hr' (.inl ⟨hw,h1⟩) hS
      (headH_of_flat hsel hQ hs hc hn r _ _ _ (inv.set hr' hin) hB' hS h2)
    ·simp only[hw] at h
     exact headH_first ho (Region.noSelect_spec hsel) (fun c a w=>hQ c _ _ a w) hs hc hn hin hdone r.length listed a w inv (Region.free_spec ho hf) hr' (.inr ⟨by simpa using hw,rfl⟩) hS
      (headH_of_flat hsel hQ hs hc hn r _ _ _ (inv.set hr' hin) hB' hS h)
   | false =>
    simp only[Bool.false_eq_true,if_false,decide_eq_true_eq] at hq h
    have hr':i∈Region.ready md ops listed:=by rw[hq];simp
    refine⟨by rw[hq];simp,fun j hj=>?_⟩
    rw[hq] at hj
    have hji:j=i:=by simpa using hj
    subst hji
    refine⟨hin,?_⟩
    unfold wpOp
    simp only[ho]
    by_cases hw:Region.wanted o (yielded ops a.tmps)=true
    ·simp only[hw,if_true] at h ⊢
     refine .inl (Oper.wp_mono (fun a' w' h'=>⟨h'.1,headH_of_flat hsel hQ hs hc hn r _ _ _ (inv.set hr' hin) hB' h'.1 h'.2⟩) (wp_of_noExit h))
    ·simp only[hw] at h ⊢
     exact⟨hS,headH_of_flat hsel hQ hs hc hn r _ _ _ (inv.set hr' hin) hB' hS h⟩
theorem region_flat {id:Nat}{a:Act}{w:World}{l:List Oper}(n:Nat)(order:List (Bool × Nat))(S:World→Prop)(hm:P.follows .mixedOrders=true)
  (hB:(Region.noSelect l.toArray&&Region.sinkB .any l.toArray n&&Region.chainB .any l.toArray n&&decide (n<l.length)&&decide (order.length=n)&&orderB .any l.toArray n order (Array.replicate l.length false))=true)
  (hS:S (w.drewN 1)) (h:flat P l.toArray S (fun a' w'=>∀ Q',(∀ a w,Q .normal a w→Q' .normal a w)→wpList P l.toArray Q' (l.drop n) a' w') order a (w.drewN 1)):(Code.region id l.toArray true).wp P Q a w:=by
 simp only[Bool.and_eq_true,decide_eq_true_eq] at hB
 obtain⟨⟨⟨⟨⟨hsel,hs⟩,hc⟩,hn⟩,hlen⟩,hord⟩:=hB
 refine wp_region_noPanic ?_
 have hn':n<l.toArray.size:=by simpa using hn
 have inv0:HeadInv .any l.toArray n (Array.replicate l.toArray.size false) :=
  ⟨by simp,fun j oj _ hl=>(by rw[getD_replicate_false] at hl;cases hl),fun t _ ht=>getD_in (by simpa using ht) (getD_replicate_false _ _)⟩
 have hdl:(l.drop n).length=l.toArray.size-n:=by simp
 have H:=headH_of_flat (P:=P) (Q:=NoPanic Q) (md:=.any) (S:=S) hsel (fun c d v a w h=>h) hs hc hn' order _ a _ inv0 (by simpa using hord) hS h
 refine wp_region_any hm ?_
 have:=any_of_headH (Q:=NoPanic Q) (g:=l.toArray.size-n) (fun listed a' w' hL=>by
  have h2:=hL.2 (NoPanic Q) (fun _ _ h=>h)
  have:=wpAny_of_seq (md:=.any) (Q':=NoPanic Q) (l.drop n) n listed a' w' (fun j=>by simp[List.getElem?_drop]) (by rw[hdl];exact hL.1) h2
  rwa[hdl] at this) _ _ _ _ H
 rw[hlen,show n+(l.toArray.size-n)=l.toArray.size by omega] at this
 exact this
structure WIn (S:World→Prop) where
 w:World
 h:S w
@[reducible] def InS (S:World→Prop):World→Prop:=fun u=>∃ s:WIn S,u=s.w
def pick (l:List Oper):List Nat→List Oper
 | []=>[]
 | i :: r=>(l[i]?).getD default :: pick l r
def segs (P:Program)(ops:Array Oper)(S:World→Prop)(l:List Oper)(K:Act→World→Prop):List (List Nat × Nat)→List Nat→Act→World→Prop
 | [],last,a,w=>wpQuiet P ops (InS S) (fun a'=>K a' w) (pick l last) a
 | (qs,i) :: rest,last,a,w =>
  wpQuiet P ops (InS S) (fun a'=>∀ Q':Exit→Act→World→Prop,(∀ a2 w2,S w2→segs P ops S l K rest last a2 w2→Q' .normal a2 w2)→wpList P ops Q' (pick l [i]) a' w) (pick l qs) a
theorem segs_step {l:List Oper}{K:Act→World→Prop}{qs:List Nat}{i:Nat}{rest:List (List Nat × Nat)}{last:List Nat}{a:Act}{w:World}
  (h:∀ K':Act→Prop,(∀ a',(∀ Q':Exit→Act→World→Prop,(∀ a2 w2,S w2→segs P ops S l K rest last a2 w2→Q' .normal a2 w2)→wpList P ops Q' (pick l [i]) a' w)→K' a')→wpQuiet P ops (InS S) K' (pick l qs) a) :
  segs P ops S l K ((qs,i) :: rest) last a w:=h _ (fun _ h=>h)
theorem segs_last {l:List Oper}{K:Act→World→Prop}{last:List Nat}{a:Act}{w:World}
  (h:∀ K':Act→Prop,(∀ a',K a' w→K' a')→wpQuiet P ops (InS S) K' (pick l last) a):segs P ops S l K [] last a w:=h _ (fun _ h=>h)
def orderOf:List (List Nat × Nat)→List Nat→List (Bool × Nat)
 | [],last=>last.map (true,·)
 | (qs,i) :: rest,last=>qs.map (true,·)++(false,i) :: orderOf rest last
def quietsB (l:List Oper)(is:List Nat):Bool:=is.all fun i=>((l[i]?).map valueB).getD false
theorem flat_of_quiet {l:List Oper}{K:Act→World→Prop}{Qa:Act→Prop}{rest:List (Bool × Nat)}{w:World}(hrest:∀ a',Qa a'→flat P l.toArray S K rest a' w) :
  ∀ (qs:List Nat) (a:Act),quietsB l qs=true→wpQuiet P l.toArray (InS S) Qa (pick l qs) a→flat P l.toArray S K (qs.map (true,·)++rest) a w
 | [],a,_,h=>hrest a h
 | i :: qs,a,hB,h=>by
  simp only[quietsB,List.all_cons,Bool.and_eq_true] at hB
  obtain⟨h1,h2⟩:=hB
  cases ho:l[i]? with
  | none=>simp[ho] at h1
  | some o =>
   simp only[ho,Option.map_some,Option.getD_some] at h1
   have hp:pick l (i :: qs)=o :: pick l qs:=by simp[pick,ho]
   rw[hp] at h
   unfold wpQuiet at h
   simp only[List.map_cons,List.cons_append]
   unfold flat
   simp only[List.getElem?_toArray,ho]
   by_cases hw:Region.wanted o (yielded l.toArray a.tmps)=true
   ·simp only[hw,if_true] at h ⊢
    obtain⟨v,hv,hk⟩:=h
    refine⟨v,fun u hu=>?_,flat_of_quiet hrest qs _ h2 hk⟩
    have:=hv u ⟨⟨u,hu⟩,rfl⟩
    unfold Oper.quietAt at this
    cases hr:(execOp a.eval o).run P u with
    | ok x w' =>
     obtain⟨v',rfl⟩:=valueB_spec h1 a.eval P u x w' hr
     rw[hr] at this
     simp only[Oper.quietUpon] at this
     rw[this.1,this.2]
    | halt x w'=>rw[hr] at this;simp[Oper.quietUpon] at this
   ·simp only[hw] at h ⊢
    exact flat_of_quiet hrest qs _ h2 h
def segsB (l:List Oper):List (List Nat × Nat)→List Nat→Bool
 | [],last=>quietsB l last
 | (qs,i) :: rest,last=>quietsB l qs&&(l[i]?).isSome&&segsB l rest last
theorem flat_of_segs {l:List Oper}{K:Act→World→Prop}{last:List Nat} :
  ∀ (sg:List (List Nat × Nat)) (a:Act) (w:World),segsB l sg last=true→segs P l.toArray S l K sg last a w→flat P l.toArray S K (orderOf sg last) a w
 | [],a,w,hB,h=>by
  have:=flat_of_quiet (K:=K) (rest:=[]) (w:=w) (fun a' h'=>h') last a hB h
  simpa [orderOf] using this
 | (qs,i) :: rest,a,w,hB,h=>by
  simp only[segsB,Bool.and_eq_true] at hB
  obtain⟨⟨h1,h2⟩,h3⟩:=hB
  obtain⟨o,ho⟩:=Option.isSome_iff_exists.1 h2
  refine flat_of_quiet (K:=K) (rest:=(false,i) :: orderOf rest last) (w:=w) (fun a' h'=>?_) qs a h1 h
  have hk:=h' (fun e a2 w2=>e=.normal∧S w2∧flat P l.toArray S K (orderOf rest last) a2 w2) (fun a2 w2 hs hg=>⟨rfl,hs,flat_of_segs rest a2 w2 h3 hg⟩)
  have hp:pick l [i]=[o]:=by simp[pick,ho]
  rw[hp] at hk
  unfold flat
  simp only[List.getElem?_toArray,ho]
  unfold wpList at hk
  by_cases hw:Region.wanted o (yielded l.toArray a'.tmps)=true
  ·simp only[hw,if_true,Bool.false_eq_true,if_false] at hk ⊢
   rcases hk with hk|⟨_,_,_,hx,_⟩
   ·unfold Oper.wp at *
    generalize (execOp a'.eval o).run P w=r at *
    cases r with
    | ok n w' =>
     cases n<;>simp only[Oper.upon,wpList] at hk ⊢
     case value v=>exact hk.2
     case skip=>exact hk.2
     case defer d=>exact hk.2
     case enter f args =>
      exact hk.mono fun e w'' he=>by
       cases e with
       | returned v=>exact he.2
       | panicked c=>cases he.1
       | outgrown=>obtain⟨_,_,hx,_⟩:=he;cases hx
     case row row args=>exact hk.mono fun v w'' he=>he.2
    | halt x w'=>cases x<;>simp only[Oper.upon] at hk ⊢;cases hk.1
   ·cases hx
  ·simp only[hw] at hk ⊢
   exact hk.2.2
theorem region_segs {id:Nat}{a:Act}{w:World}{l:List Oper}(n:Nat)(sg:List (List Nat × Nat))(last:List Nat)(S:World→Prop)(hm:P.follows .mixedOrders=true)
  (hB:(segsB l sg last&&(Region.noSelect l.toArray&&Region.sinkB .any l.toArray n&&Region.chainB .any l.toArray n&&decide (n<l.length)&&decide ((orderOf sg last).length=n)&&orderB .any l.toArray n (orderOf sg last) (Array.replicate l.length false)))=true)
  (hS:S (w.drewN 1)) (h:segs P l.toArray S l (fun a' w'=>∀ Q',(∀ a w,Q .normal a w→Q' .normal a w)→wpList P l.toArray Q' (l.drop n) a' w') sg last a (w.drewN 1)):(Code.region id l.toArray true).wp P Q a w:=by
 simp only[Bool.and_eq_true (a:=segsB l sg last)] at hB
 exact region_flat n (orderOf sg last) S hm hB.2 hS (flat_of_segs sg a _ hB.1 h)
end
inductive Sch
 | done
 | quiet (i:Nat) (t:Sch)
 | loud (i:Nat) (t:Sch)
 | two (i:Nat) (t:Sch) (j:Nat) (u:Sch)
 | three (i:Nat) (t:Sch) (j:Nat) (u:Sch) (k:Nat) (v:Sch)
section
variable {P:Program} {ops:Array Oper} {md:Region.Mode} {S:World→Prop} {Q:Exit→Act→World→Prop}
def schB (md:Region.Mode)(ops:Array Oper)(n:Nat):Sch→Nat→Array Bool→Bool
 | .done,f,listed=>decide (f=0)&&Region.seqB md ops (ops.size-n) n listed
 | .quiet i t,f,listed=>(decide (0<f)&&decide (i<n)&&((Region.ready md ops listed).contains i&&Region.free md ops listed i&&((ops[i]?).map valueB).getD false))&&schB md ops n t (f-1) (listed.setIfInBounds i true)
 | .loud i t,f,listed=>(decide (0<f)&&decide (i<n)&&decide (Region.ready md ops listed=[i]))&&schB md ops n t (f-1) (listed.setIfInBounds i true)
 | .two i t j u,f,listed=>(decide (0<f)&&decide (i<n)&&decide (j<n)&&decide (Region.ready md ops listed=[i,j]))&&(schB md ops n t (f-1) (listed.setIfInBounds i true)&&schB md ops n u (f-1) (listed.setIfInBounds j true))
 | .three i t j u k v,f,listed=>(decide (0<f)&&decide (i<n)&&decide (j<n)&&decide (k<n)&&decide (Region.ready md ops listed=[i,j,k]))&&(schB md ops n t (f-1) (listed.setIfInBounds i true)&&(schB md ops n u (f-1) (listed.setIfInBounds j true)&&schB md ops n v (f-1) (listed.setIfInBounds k true)))
def loudP (P:Program)(ops:Array Oper)(S:World→Prop)(i:Nat)(T:Act→World→Prop)(a:Act)(w:World):Prop :=
 match ops[i]? with
 | none=>False
 | some o=>if Region.wanted o (yielded ops a.tmps) then o.wp P a w (fun a' w'=>S w'∧T a' w') (fun _ _ _=>False) else T (a.put o.dst undef) w
def tree (P:Program)(ops:Array Oper)(S:World→Prop)(K:Act→World→Prop):Sch→Act→World→Prop
 | .done,a,w=>K a w
 | .quiet i t,a,w =>
  match ops[i]? with
  | none=>False
  | some o =>
   if Region.wanted o (yielded ops a.tmps) then ∃ v,(∀ u,S u→(execOp a.eval o).run P u=.ok (.value v) u)∧tree P ops S K t (a.put o.dst v) w
   else tree P ops S K t (a.put o.dst undef) w
 | .loud i t,a,w=>loudP P ops S i (tree P ops S K t) a w
 | .two i t j u,a,w=>loudP P ops S i (tree P ops S K t) a w∧loudP P ops S j (tree P ops S K u) a w
 | .three i t j u k v,a,w=>loudP P ops S i (tree P ops S K t) a w∧loudP P ops S j (tree P ops S K u) a w∧loudP P ops S k (tree P ops S K v) a w
theorem loud_step {n i f:Nat}{L:Array Bool→Act→World→Prop}{T:Act→World→Prop}{listed:Array Bool}{a:Act}{w:World}(hS:S w)(h:loudP P ops S i T a w)
  (hT:∀ a' w',S w'→T a' w'→headH P md ops Q S n L f (listed.setIfInBounds i true) a' w') :
  wpOp P ops Q i (fun a' w'=>S w'∧headH P md ops Q S n L f (listed.setIfInBounds i true) a' w') a w:=by
 unfold loudP at h
 cases ho:ops[i]? with
 | none=>simp only[ho] at h
 | some o =>
  simp only[ho] at h
  unfold wpOp
  simp only[ho]
  by_cases hw:Region.wanted o (yielded ops a.tmps)=true
  ·simp only[hw,if_true] at h ⊢
   exact .inl (Oper.wp_mono (fun a' w' h'=>⟨h'.1,hT a' w' h'.1 h'.2⟩) (wp_of_noExit h))
  ·simp only[hw] at h ⊢
   exact⟨hS,hT _ _ hS h⟩
theorem headH_of_tree {n:Nat}{K:Act→World→Prop}(hsel:Region.noSelect ops=true)(hQ:∀ c d v (a:Act) w,Q (.panic c) (a.put d v) w→Q (.panic c) a w)
  (hs:Region.sinkB md ops n=true) (hc:Region.chainB md ops n=true) (hn:n<ops.size) :
  ∀ (t:Sch) (f:Nat) (listed:Array Bool) (a:Act) (w:World),HeadInv md ops n listed→schB md ops n t f listed=true→S w→tree P ops S K t a w →
   headH P md ops Q S n (fun listed' a' w'=>Region.seqB md ops (ops.size-n) n listed'=true∧K a' w') f listed a w:=by
 have hdone:∀ listed' (a':Act) (w':World),(Region.seqB md ops (ops.size-n) n listed'=true∧K a' w')→∀ j∈Region.ready md ops listed',n≤j:=fun listed' a' w' hL=>seqB_ready hL.1
 intro t
 induction t with
 | done =>
  intro f listed a w _ hB _ h
  simp only[schB,Bool.and_eq_true,decide_eq_true_eq] at hB
  obtain⟨rfl,hB⟩:=hB
  exact⟨hB,h⟩
 | quiet i t ih =>
  intro f listed a w inv hB hS h
  simp only[schB,Bool.and_eq_true,decide_eq_true_eq] at hB
  obtain⟨⟨⟨hf0,hin⟩,⟨⟨hr,hf⟩,hv⟩⟩,hB'⟩:=hB
  obtain⟨f,rfl⟩:∃ g,f=g+1:=⟨f-1,by omega⟩
  rw[Nat.add_sub_cancel] at hB'
  unfold tree at h
  cases ho:ops[i]? with
  | none=>simp only[ho] at h
  | some o =>
   simp only[ho] at h
   have hr':i∈Region.ready md ops listed:=by simpa using hr
   by_cases hw:Region.wanted o (yielded ops a.tmps)=true
   ·simp only[hw,if_true] at h
    obtain⟨v,h1,h2⟩:=h
    exact headH_first ho (Region.noSelect_spec hsel) (fun c a w=>hQ c _ _ a w) hs hc hn hin hdone f listed a w inv (Region.free_spec ho hf) hr' (.inl ⟨hw,h1⟩) hS
     (ih f _ _ _ (inv.set hr' hin) hB' hS h2)
   ·simp only[hw] at h
    exact headH_first ho (Region.noSelect_spec hsel) (fun c a w=>hQ c _ _ a w) hs hc hn hin hdone f listed a w inv (Region.free_spec ho hf) hr' (.inr ⟨by simpa using hw,rfl⟩) hS
     (ih f _ _ _ (inv.set hr' hin) hB' hS h)
 | loud i t ih =>
  intro f listed a w inv hB hS h
  simp only[schB,Bool.and_eq_true,decide_eq_true_eq] at hB
  obtain⟨⟨⟨hf0,hin⟩,hq⟩,hB'⟩:=hB
  obtain⟨f,rfl⟩:∃ g,f=g+1:=⟨f-1,by omega⟩
  rw[Nat.add_sub_cancel] at hB'
  have hr':i∈Region.ready md ops listed:=by rw[hq];simp
  refine⟨by rw[hq];simp,fun j hj=>?_⟩
  rw[hq] at hj
  have hji:j=i:=by simpa using hj
  subst hji
  unfold tree at h
  exact⟨hin,loud_step hS h (fun a' w' h1 h2=>ih f _ a' w' (inv.set hr' hin) hB' h1 h2)⟩
 | two i t j u iht ihu =>
  intro f listed a w inv hB hS h
  simp only[schB,Bool.and_eq_true,decide_eq_true_eq] at hB
  obtain⟨⟨⟨⟨hf0,hin⟩,hjn⟩,hq⟩,hB1,hB2⟩:=hB
  obtain⟨f,rfl⟩:∃ g,f=g+1:=⟨f-1,by omega⟩
  rw[Nat.add_sub_cancel] at hB1 hB2
  have hri:i∈Region.ready md ops listed:=by rw[hq];simp
  have hrj:j∈Region.ready md ops listed:=by rw[hq];simp
  unfold tree at h
  refine⟨by rw[hq];simp,fun k hk=>?_⟩
  rw[hq] at hk
  simp only[List.mem_cons,List.not_mem_nil,or_false] at hk
  rcases hk with rfl|rfl
  ·exact⟨hin,loud_step hS h.1 (fun a' w' h1 h2=>iht f _ a' w' (inv.set hri hin) hB1 h1 h2)⟩
  ·exact⟨hjn,loud_step hS h.2 (fun a' w' h1 h2=>ihu f _ a' w' (inv.set hrj hjn) hB2 h1 h2)⟩
 | three i t j u k v iht ihu ihv =>
  intro f listed a w inv hB hS h
  simp only[schB,Bool.and_eq_true,decide_eq_true_eq] at hB
  obtain⟨⟨⟨⟨⟨hf0,hin⟩,hjn⟩,hkn⟩,hq⟩,hB1,hB2,hB3⟩:=hB
  obtain⟨f,rfl⟩:∃ g,f=g+1:=⟨f-1,by omega⟩
  rw[Nat.add_sub_cancel] at hB1 hB2 hB3
  have hri:i∈Region.ready md ops listed:=by rw[hq];simp
  have hrj:j∈Region.ready md ops listed:=by rw[hq];simp
  have hrk:k∈Region.ready md ops listed:=by rw[hq];simp
  unfold tree at h
  refine⟨by rw[hq];simp,fun m hk=>?_⟩
  rw[hq] at hk
  simp only[List.mem_cons,List.not_mem_nil,or_false] at hk
  rcases hk with rfl|rfl|rfl
  ·exact⟨hin,loud_step hS h.1 (fun a' w' h1 h2=>iht f _ a' w' (inv.set hri hin) hB1 h1 h2)⟩
  ·exact⟨hjn,loud_step hS h.2.1 (fun a' w' h1 h2=>ihu f _ a' w' (inv.set hrj hjn) hB2 h1 h2)⟩
  ·exact⟨hkn,loud_step hS h.2.2 (fun a' w' h1 h2=>ihv f _ a' w' (inv.set hrk hkn) hB3 h1 h2)⟩
theorem region_tree {id:Nat}{a:Act}{w:World}{l:List Oper}(n:Nat)(t:Sch)(S:World→Prop)(hm:P.follows .mixedOrders=true)
  (hB:(Region.noSelect l.toArray&&Region.sinkB .any l.toArray n&&Region.chainB .any l.toArray n&&decide (n<l.length)&&schB .any l.toArray n t n (Array.replicate l.length false))=true)
  (hS:S (w.drewN 1)) (h:tree P l.toArray S (fun a' w'=>∀ Q',(∀ a w,Q .normal a w→Q' .normal a w)→wpList P l.toArray Q' (l.drop n) a' w') t a (w.drewN 1)):(Code.region id l.toArray true).wp P Q a w:=by
 simp only[Bool.and_eq_true,decide_eq_true_eq] at hB
 obtain⟨⟨⟨⟨hsel,hs⟩,hc⟩,hn⟩,hord⟩:=hB
 refine wp_region_noPanic ?_
 have hn':n<l.toArray.size:=by simpa using hn
 have inv0:HeadInv .any l.toArray n (Array.replicate l.toArray.size false) :=
  ⟨by simp,fun j oj _ hl=>(by rw[getD_replicate_false] at hl;cases hl),fun t _ ht=>getD_in (by simpa using ht) (getD_replicate_false _ _)⟩
 have hdl:(l.drop n).length=l.toArray.size-n:=by simp
 have H:=headH_of_tree (P:=P) (Q:=NoPanic Q) (md:=.any) (S:=S) hsel (fun c d v a w h=>h) hs hc hn' t n _ a _ inv0 (by simpa using hord) hS h
 refine wp_region_any hm ?_
 have:=any_of_headH (Q:=NoPanic Q) (g:=l.toArray.size-n) (fun listed a' w' hL=>by
  have h2:=hL.2 (NoPanic Q) (fun _ _ h=>h)
  have:=wpAny_of_seq (md:=.any) (Q':=NoPanic Q) (l.drop n) n listed a' w' (fun j=>by simp[List.getElem?_drop]) (by rw[hdl];exact hL.1) h2
  rwa[hdl] at this) _ _ _ _ H
 rw[show n+(l.toArray.size-n)=l.toArray.size by omega] at this
 exact this
inductive Sg
 | fin (last:List Nat)
 | one (qs:List Nat) (i:Nat) (t:Sg)
 | two (qs:List Nat) (i:Nat) (t:Sg) (j:Nat) (u:Sg)
 | three (qs:List Nat) (i:Nat) (t:Sg) (j:Nat) (u:Sg) (k:Nat) (v:Sg)
def quietsT:List Nat→Sch→Sch
 | [],t=>t
 | i :: is,t=>.quiet i (quietsT is t)
def Sg.sch:Sg→Sch
 | .fin last=>quietsT last .done
 | .one qs i t=>quietsT qs (.loud i t.sch)
 | .two qs i t j u=>quietsT qs (.two i t.sch j u.sch)
 | .three qs i t j u k v=>quietsT qs (.three i t.sch j u.sch k v.sch)
def loudW (P:Program)(ops:Array Oper)(S:World→Prop)(l:List Oper)(i:Nat)(T:Act→World→Prop)(a:Act)(w:World):Prop :=
 ∀ Q':Exit→Act→World→Prop,(∀ a2 w2,S w2→T a2 w2→Q' .normal a2 w2)→wpList P ops Q' (pick l [i]) a w
def segT (P:Program)(ops:Array Oper)(S:World→Prop)(l:List Oper)(K:Act→World→Prop):Sg→Act→World→Prop
 | .fin last,a,w=>wpQuiet P ops (InS S) (fun a'=>K a' w) (pick l last) a
 | .one qs i t,a,w=>wpQuiet P ops (InS S) (fun a'=>loudW P ops S l i (segT P ops S l K t) a' w) (pick l qs) a
 | .two qs i t j u,a,w=>wpQuiet P ops (InS S) (fun a'=>loudW P ops S l i (segT P ops S l K t) a' w∧loudW P ops S l j (segT P ops S l K u) a' w) (pick l qs) a
 | .three qs i t j u k v,a,w=>wpQuiet P ops (InS S) (fun a'=>loudW P ops S l i (segT P ops S l K t) a' w∧loudW P ops S l j (segT P ops S l K u) a' w∧loudW P ops S l k (segT P ops S l K v) a' w) (pick l qs) a
theorem segT_fin {l:List Oper}{K:Act→World→Prop}{last:List Nat}{a:Act}{w:World}
  (h:∀ K':Act→Prop,(∀ a',K a' w→K' a')→wpQuiet P ops (InS S) K' (pick l last) a):segT P ops S l K (.fin last) a w:=h _ (fun _ h=>h)
theorem segT_one {l:List Oper}{K:Act→World→Prop}{qs:List Nat}{i:Nat}{t:Sg}{a:Act}{w:World}
  (h:∀ K':Act→Prop,(∀ a',loudW P ops S l i (segT P ops S l K t) a' w→K' a')→wpQuiet P ops (InS S) K' (pick l qs) a):segT P ops S l K (.one qs i t) a w:=h _ (fun _ h=>h)
theorem segT_two {l:List Oper}{K:Act→World→Prop}{qs:List Nat}{i j:Nat}{t u:Sg}{a:Act}{w:World}
  (h:∀ K':Act→Prop,(∀ a',loudW P ops S l i (segT P ops S l K t) a' w→loudW P ops S l j (segT P ops S l K u) a' w→K' a')→wpQuiet P ops (InS S) K' (pick l qs) a):segT P ops S l K (.two qs i t j u) a w:=h _ (fun _ h1 h2=>⟨h1,h2⟩)
theorem segT_three {l:List Oper}{K:Act→World→Prop}{qs:List Nat}{i j k:Nat}{t u v:Sg}{a:Act}{w:World}
  (h:∀ K':Act→Prop,(∀ a',loudW P ops S l i (segT P ops S l K t) a' w→loudW P ops S l j (segT P ops S l K u) a' w→loudW P ops S l k (segT P ops S l K v) a' w→K' a')→wpQuiet P ops (InS S) K' (pick l qs) a):segT P ops S l K (.three qs i t j u k v) a w:=h _ (fun _ h1 h2 h3=>⟨h1,h2,h3⟩)
def sgB (l:List Oper):Sg→Bool
 | .fin last=>quietsB l last
 | .one qs i t=>quietsB l qs&&(l[i]?).isSome&&sgB l t
 | .two qs i t j u=>quietsB l qs&&((l[i]?).isSome&&(l[j]?).isSome)&&(sgB l t&&sgB l u)
 | .three qs i t j u k v=>quietsB l qs&&((l[i]?).isSome&&((l[j]?).isSome&&(l[k]?).isSome))&&(sgB l t&&(sgB l u&&sgB l v))
theorem tree_of_quiet {l:List Oper}{K:Act→World→Prop}{Qa:Act→Prop}{t:Sch}{w:World}(hrest:∀ a',Qa a'→tree P l.toArray S K t a' w) :
  ∀ (qs:List Nat) (a:Act),quietsB l qs=true→wpQuiet P l.toArray (InS S) Qa (pick l qs) a→tree P l.toArray S K (quietsT qs t) a w
 | [],a,_,h=>hrest a h
 | i :: qs,a,hB,h=>by
  simp only[quietsB,List.all_cons,Bool.and_eq_true] at hB
  obtain⟨h1,h2⟩:=hB
  cases ho:l[i]? with
  | none=>simp[ho] at h1
  | some o =>
   simp only[ho,Option.map_some,Option.getD_some] at h1
   have hp:pick l (i :: qs)=o :: pick l qs:=by simp[pick,ho]
   rw[hp] at h
   unfold wpQuiet at h
   unfold quietsT tree
   simp only[List.getElem?_toArray,ho]
   by_cases hw:Region.wanted o (yielded l.toArray a.tmps)=true
   ·simp only[hw,if_true] at h ⊢
    obtain⟨v,hv,hk⟩:=h
    refine⟨v,fun u hu=>?_,tree_of_quiet hrest qs _ h2 hk⟩
    have:=hv u ⟨⟨u,hu⟩,rfl⟩
    unfold Oper.quietAt at this
    cases hr:(execOp a.eval o).run P u with
    | ok x w' =>
     obtain⟨v',rfl⟩:=valueB_spec h1 a.eval P u x w' hr
     rw[hr] at this
     simp only[Oper.quietUpon] at this
     rw[this.1,this.2]
    | halt x w'=>rw[hr] at this;simp[Oper.quietUpon] at this
   ·simp only[hw] at h ⊢
    exact tree_of_quiet hrest qs _ h2 h
theorem loudP_of_loudW {l:List Oper}{i:Nat}{T T':Act→World→Prop}(hi:(l[i]?).isSome=true)(hT:∀ a w,T a w→T' a w){a:Act}{w:World}(h:loudW P l.toArray S l i T a w):loudP P l.toArray S i T' a w:=by
 obtain⟨o,ho⟩:=Option.isSome_iff_exists.1 hi
 have hk:=h (fun e a2 w2=>e=.normal∧S w2∧T' a2 w2) (fun a2 w2 hs hg=>⟨rfl,hs,hT a2 w2 hg⟩)
 have hp:pick l [i]=[o]:=by simp[pick,ho]
 rw[hp] at hk
 unfold loudP
 simp only[List.getElem?_toArray,ho]
 unfold wpList at hk
 by_cases hw:Region.wanted o (yielded l.toArray a.tmps)=true
 ·simp only[hw,if_true] at hk ⊢
  rcases hk with hk|⟨_,_,_,hx,_⟩
  ·unfold Oper.wp at *
   generalize (execOp a.eval o).run P w=r at *
   cases r with
   | ok n w' =>
    cases n<;>simp only[Oper.upon,wpList] at hk ⊢
    case value v=>exact hk.2
    case skip=>exact hk.2
    case defer d=>exact hk.2
    case enter f args =>
     exact hk.mono fun e w'' he=>by
      cases e with
      | returned v=>exact he.2
      | panicked c=>cases he.1
      | outgrown=>obtain⟨_,_,hx,_⟩:=he;cases hx
    case row row args=>exact hk.mono fun v w'' he=>he.2
   | halt x w'=>cases x<;>simp only[Oper.upon] at hk ⊢;cases hk.1
  ·cases hx
 ·simp only[hw] at hk ⊢
  exact hk.2.2
theorem tree_of_segT {l:List Oper}{K:Act→World→Prop}:∀ (sg:Sg) (a:Act) (w:World),sgB l sg=true→segT P l.toArray S l K sg a w→tree P l.toArray S K sg.sch a w
 | .fin last,a,w,hB,h=>tree_of_quiet (fun a' h'=>h') last a hB h
 | .one qs i t,a,w,hB,h=>by
  simp only[sgB,Bool.and_eq_true] at hB
  refine tree_of_quiet (fun a' h'=>?_) qs a hB.1.1 h
  unfold tree
  exact loudP_of_loudW hB.1.2 (fun a w h=>tree_of_segT t a w hB.2 h) h'
 | .two qs i t j u,a,w,hB,h=>by
  simp only[sgB,Bool.and_eq_true] at hB
  refine tree_of_quiet (fun a' h'=>?_) qs a hB.1.1 h
  unfold tree
  exact⟨loudP_of_loudW hB.1.2.1 (fun a w h=>tree_of_segT t a w hB.2.1 h) h'.1,loudP_of_loudW hB.1.2.2 (fun a w h=>tree_of_segT u a w hB.2.2 h) h'.2⟩
 | .three qs i t j u k v,a,w,hB,h=>by
  simp only[sgB,Bool.and_eq_true] at hB
  refine tree_of_quiet (fun a' h'=>?_) qs a hB.1.1 h
  unfold tree
  exact⟨loudP_of_loudW hB.1.2.1 (fun a w h=>tree_of_segT t a w hB.2.1 h) h'.1,loudP_of_loudW hB.1.2.2.1 (fun a w h=>tree_of_segT u a w hB.2.2.1 h) h'.2.1,loudP_of_loudW hB.1.2.2.2 (fun a w h=>tree_of_segT v a w hB.2.2.2 h) h'.2.2⟩
theorem region_forks {id:Nat}{a:Act}{w:World}{l:List Oper}(n:Nat)(sg:Sg)(S:World→Prop)(hm:P.follows .mixedOrders=true)
  (hB:(sgB l sg&&(Region.noSelect l.toArray&&Region.sinkB .any l.toArray n&&Region.chainB .any l.toArray n&&decide (n<l.length)&&schB .any l.toArray n sg.sch n (Array.replicate l.length false)))=true)
  (hS:S (w.drewN 1)) (h:segT P l.toArray S l (fun a' w'=>∀ Q',(∀ a w,Q .normal a w→Q' .normal a w)→wpList P l.toArray Q' (l.drop n) a' w') sg a (w.drewN 1)):(Code.region id l.toArray true).wp P Q a w:=by
 simp only[Bool.and_eq_true (a:=sgB l sg)] at hB
 exact region_tree n sg.sch S hm hB.2 hS (tree_of_segT sg a _ hB.1 h)
end
end Go.Proofs.YtcfgbdhpcboikaaGreatDoor
