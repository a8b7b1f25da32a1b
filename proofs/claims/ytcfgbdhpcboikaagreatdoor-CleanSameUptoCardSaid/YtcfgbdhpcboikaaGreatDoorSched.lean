/-
A region that draws its order, walked in one order of the prover's choice: quiet operations (they yield one value in every world that meets S, and leave it alone), loud ones between them (each comes up alone, and keeps S), then a forced tail, of which S is not asked.
-/
import Derived.StillTail
import Derived.Deep.Quiet
import Derived.Deep.RegionHeld3
namespace Go.Proofs.YtcfgbdhpcboikaaGreatDoor
open Go
def sZ (o:Oper):Bool :=
 match o.op with
 | .move _|.assign _|.pick .. | .load .. | .nilCheck _|.binOp .. | .unOp .. | .convert .. | .fieldAddr .. | .field .. | .indexAddr .. | .index .. | .slice .. | .extract .. | .lookup .. | .typeAssert .. => true
 | .call { callee:=.builtin b, .. }=>match b with|.len|.cap|.min|.max=>true|_=>false
 | _=>false
def bD (s:Sem Next):Prop:=∀(P:Program) (w:World) (n:Next) (w':World),s.run P w=.ok n w'→∃v,n=.value v
theorem bD.pure (v:Value):bD (Pure.pure (Next.value v)):=by
 intro P w n w' h;simp only[Sem.run_pure,Result.ok.injEq]at h;exact⟨v,h.1.symm⟩
theorem bD.bind {α : Type}{s:Sem α}{k:α → Sem Next}(h:∀x,bD (k x)):bD (s >>= k):=by
 intro P w n w' hr;rw[Sem.run_bind]at hr
 cases hs:s.run P w with
 | ok x w1=>rw[hs]at hr;exact h x P w1 n w' hr
 | halt x w1=>rw[hs]at hr;simp[Result.andThen]at hr
theorem bD.halt (x:Halt):bD (Sem.halt x):=by
 intro P w n w' h;simp[Sem.run]at h
theorem bD.panic (e:RuntimeError):bD (runtimePanic e):=by
 unfold runtimePanic;refine bD.bind fun p=>?_
 cases e<;>first|exact bD.halt _|exact bD.bind fun _=>bD.bind fun _=>bD.halt _
theorem bD.bind' {α : Type}{s:Sem α}{k:α → Sem Next}(h:∀(P:Program) w x w',s.run P w=.ok x w'→bD (k x)):bD (s >>= k):=by
 intro P w n w' hr;rw[Sem.run_bind]at hr
 cases hs:s.run P w with
 | ok x w1=>rw[hs]at hr;exact h P w x w1 hs P w1 n w' hr
 | halt x w1=>rw[hs]at hr;simp[Result.andThen]at hr
theorem yG {o:Oper}(h:sZ o=true) (ρ : Operand→Value):bD (execOp ρ o):=by
 unfold execOp;unfold sZ at h;cases ho:o.op<;>simp only[ho]at h<;>try (exact absurd h (by decide))
 all_goals try (exact bD.pure _)
 all_goals try (exact bD.bind fun _=>bD.pure _)
 case nilCheck x =>
  simp only[];split;all_goals try (exact bD.pure _)
  all_goals try (exact bD.panic _)
  split;all_goals try (exact bD.pure _)
  all_goals try (exact bD.panic _)
  refine bD.bind fun p=>bD.bind fun b=>?_
  split
  ·exact bD.bind fun _=>bD.pure _
  ·exact bD.pure _
 case call c =>
  obtain⟨callee,args,argTypes⟩:=c;cases callee<;>simp only[]at h<;>try (exact absurd h (by decide))
  rename_i b;refine bD.bind' (s:=resolve ρ { callee:=.builtin b,args,argTypes } o.type) (fun P w d w' hd=>?_);simp only[resolve,Sem.run_pure,Result.ok.injEq]at hd;rw[←hd.1];cases b<;>simp only[]at h<;>first|exact absurd h (by decide)|exact bD.bind fun _=>bD.pure _
section
variable {P:Program} {ops:Array Oper} {md:Region.Mode} {S:World→Prop} {Q:Exit→Act→World→Prop}
def jT (P:Program)(md:Region.Mode)(ops:Array Oper)(Q:Exit→Act→World→Prop)(S:World→Prop)(n:Nat)(L:Array Bool→Act→World→Prop):Nat→Array Bool→Act→World→Prop
 | 0,listed,a,w=>L listed a w
 | f+1,listed,a,w =>
  Region.ready md ops listed≠[]∧∀i∈Region.ready md ops listed,i<n∧wpOp P ops Q i (fun a' w'=>S w'∧jT P md ops Q S n L f (listed.setIfInBounds i true) a' w') a w
theorem kA {n g:Nat}{L:Array Bool→Act→World→Prop}(hL:∀listed a w,L listed a w→wpAny P md ops Q g listed a w) :
  ∀(f:Nat) (listed:Array Bool) (a:Act) (w:World),jT P md ops Q S n L f listed a w→wpAny P md ops Q (f+g) listed a w
 | 0,listed,a,w,h=>by rw[Nat.zero_add];exact hL _ _ _ h
 | f+1,listed,a,w,h=>by
  rw[show f+1+g=(f+g)+1 by omega];exact⟨fun h0=>absurd h0 h.1,fun i hi=>wpOp_mono (fun a' w' h'=>kA hL f _ a' w' h'.2) (h.2 i hi).2⟩
theorem nX {n i:Nat}{oi:Oper}{v:Value}{L:Array Bool→Act→World→Prop}(hi:ops[i]?=some oi)(hsel:∀(j:Nat) (o:Oper) cs b,ops[j]?=some o→o.op≠.select cs b)
  (hQ:∀c a w,Q (.panic c) (a.put oi.dst v) w→Q (.panic c) a w)
  (hs:Region.sinkB md ops n=true) (hc:Region.chainB md ops n=true) (hn:n<ops.size) (hin:i<n)
  (hdone:∀listed a w,L listed a w→∀j∈Region.ready md ops listed,n≤j) :
  ∀(f:Nat) (listed:Array Bool) (a:Act) (w:World),HeadInv md ops n listed →
   (∀j oj,ops[j]?=some oj→j≠i→listed.getD j true=false→(∀e∈oj.after,Region.binds md e=true→e.on≠i)→oi.apart ops oj=true) →
   i∈Region.ready md ops listed→YieldsIf P ops S oi v a→S w →
   jT P md ops Q S n L f (listed.setIfInBounds i true) (a.put oi.dst v) w→jT P md ops Q S n L (f+1) listed a w:=by
 intro f;induction f with
 | zero =>
  intro listed a w inv _ hr hy hS H;have hun:=(mem_ready.1 hr).1;refine⟨fun h=>(by rw[h]at hr;cases hr),fun j hj=>?_⟩;have hjn:j<n:=by
   rcases Nat.lt_or_ge j n with h|h
   ·exact h
   ·exact absurd hj (tail_waits hs hc hn inv _ i rfl hin hun j h)
  refine⟨hjn,?_⟩;by_cases hji:j=i
  ·subst hji;exact hy.wpOp hi hS ⟨hS,H⟩
  ·have:=hdone _ _ _ H j (ready_mono hj hji);omega
 | succ f ih =>
  intro listed a w inv hfree hr hy hS H;have hun:=(mem_ready.1 hr).1;refine⟨fun h=>(by rw[h]at hr;cases hr),fun j hj=>?_⟩;have hjn:j<n:=by
   rcases Nat.lt_or_ge j n with h|h
   ·exact h
   ·exact absurd hj (tail_waits hs hc hn inv _ i rfl hin hun j h)
  refine⟨hjn,?_⟩;by_cases hji:j=i
  ·subst hji;exact hy.wpOp hi hS ⟨hS,H⟩
  ·have h1:=(H.2 j (ready_mono hj hji)).2;obtain⟨hjun,oj,hoj,hall⟩:=mem_ready.1 hj;have hnot:∀e∈oj.after,Region.binds md e=true→e.on≠i:=fun e he hb heq=>by
    have h1:=hall e he hb;rw[heq,getD_both hun]at h1
    cases h1
   have h2:=wpOp_putIf hoj (hfree j oj hoj hji hjun hnot) (fun cs b=>hsel i oi cs b hi) (fun cs b=>hsel j oj cs b hoj) hQ hy h1;have hfree':∀k ok,ops[k]?=some ok→k≠i→(listed.setIfInBounds j true).getD k true=false →
     (∀e∈ok.after,Region.binds md e=true→e.on≠i)→oi.apart ops ok=true:=fun k ok hk hki hun' hno=>by
    refine hfree k ok hk hki ?_ hno;by_cases hjk:j=k
    ·subst hjk;exact hjun
    ·rw[getD_set_ne true hjk]at hun';exact hun'
   refine wpOp_mono (fun a' w' h3=>⟨h3.2.1,ih (listed.setIfInBounds j true) a' w' (inv.set hj hjn) hfree' (ready_mono hr (Ne.symm hji)) h3.1 h3.2.1 ?_⟩) h2;rw[Array.setIfInBounds_comm _ _ hji];exact h3.2.2
def vT (md:Region.Mode)(ops:Array Oper)(n:Nat):List (Bool × Nat)→Array Bool→Bool
 | [],listed=>Region.seqB md ops (ops.size-n) n listed
 | (q,i) :: r,listed =>
  decide (i<n)&&(if q then (Region.ready md ops listed).contains i&&Region.free md ops listed i&&((ops[i]?).map sZ).getD false else decide (Region.ready md ops listed=[i])) &&
   vT md ops n r (listed.setIfInBounds i true)
def oX (P:Program)(ops:Array Oper)(S:World→Prop)(K:Act→World→Prop):List (Bool × Nat)→Act→World→Prop
 | [],a,w=>K a w
 | (q,i) :: r,a,w =>
  match ops[i]? with
  | none=>False
  | some o =>
   if Region.wanted o (yielded ops a.tmps)then
    if q then ∃v,(∀u,S u→(execOp a.eval o).run P u=.ok (.value v) u)∧oX P ops S K r (a.put o.dst v) w
    else o.wp P a w (fun a' w'=>S w'∧oX P ops S K r a' w') (fun _ _ _=>False)
   else oX P ops S K r (a.put o.dst undef) w
theorem wN {P:Program}{o:Oper}{a:Act}{w:World}{K:Act→World→Prop}{Q:Exit→Act→World→Prop}(h:o.wp P a w K (fun _ _ _=>False)):o.wp P a w K Q:=by
 unfold Oper.wp at *
 generalize (execOp a.eval o).run P w=r at *
 cases r with
 | ok n w' =>
  cases n<;>simp only[Oper.upon]at h ⊢ <;> first|exact h|skip
  exact h.mono fun e w'' he=>by
   cases e with
   | returned v=>exact he
   | panicked c=>exact he.elim
   | outgrown=>obtain⟨_,_,h⟩:=he;exact h.elim
 | halt x w'=>cases x<;>simp only[Oper.upon]at h ⊢
theorem jF {n:Nat}{K:Act→World→Prop}(hsel:Region.noSelect ops=true)(hQ:∀c d v (a:Act) w,Q (.panic c) (a.put d v) w→Q (.panic c) a w)
  (hs:Region.sinkB md ops n=true) (hc:Region.chainB md ops n=true) (hn:n<ops.size) :
  ∀(l:List (Bool × Nat)) (listed:Array Bool) (a:Act) (w:World),HeadInv md ops n listed→vT md ops n l listed=true→S w→oX P ops S K l a w →
   jT P md ops Q S n (fun listed' a' w'=>Region.seqB md ops (ops.size-n) n listed'=true∧K a' w') l.length listed a w
 | [],listed,a,w,_,hB,_,h=>⟨hB,h⟩
 | (q,i) :: r,listed,a,w,inv,hB,hS,h=>by
  simp only[vT,Bool.and_eq_true,decide_eq_true_eq]at hB;obtain⟨⟨hin,hq⟩,hB'⟩:=hB;unfold oX at h;cases ho:ops[i]? with
  | none=>simp only[ho]at h
  | some o =>
   simp only[ho]at h;cases q with
   | true =>
    simp only[if_true,Bool.and_eq_true,ho,Option.map_some,Option.getD_some]at hq h;obtain⟨⟨hr,hf⟩,hv⟩:=hq;have hr':i∈Region.ready md ops listed:=by simpa using hr
    have hdone:∀listed' (a':Act) (w':World),(Region.seqB md ops (ops.size-n) n listed'=true∧K a' w')→∀j∈Region.ready md ops listed',n≤j:=fun listed' a' w' hL=>seqB_ready hL.1
    by_cases hw:Region.wanted o (yielded ops a.tmps)=true
    ·simp only[hw,if_true]at h;obtain⟨v,h1,h2⟩:=h;exact nX ho (Region.noSelect_spec hsel) (fun c a w=>hQ c _ _ a w) hs hc hn hin hdone r.length listed a w inv (Region.free_spec ho hf) hr' (.inl ⟨hw,h1⟩) hS
      (jF hsel hQ hs hc hn r _ _ _ (inv.set hr' hin) hB' hS h2)
    ·simp only[hw]at h;exact nX ho (Region.noSelect_spec hsel) (fun c a w=>hQ c _ _ a w) hs hc hn hin hdone r.length listed a w inv (Region.free_spec ho hf) hr' (.inr ⟨by simpa using hw,rfl⟩) hS
      (jF hsel hQ hs hc hn r _ _ _ (inv.set hr' hin) hB' hS h)
   | false =>
    simp only[Bool.false_eq_true,if_false,decide_eq_true_eq]at hq h;have hr':i∈Region.ready md ops listed:=by rw[hq];simp
    refine⟨by rw[hq];simp,fun j hj=>?_⟩;rw[hq]at hj
    have hji:j=i:=by simpa using hj
    subst hji;refine⟨hin,?_⟩;unfold wpOp;simp only[ho];by_cases hw:Region.wanted o (yielded ops a.tmps)=true
    ·simp only[hw,if_true]at h ⊢;refine .inl (Oper.wp_mono (fun a' w' h'=>⟨h'.1,jF hsel hQ hs hc hn r _ _ _ (inv.set hr' hin) hB' h'.1 h'.2⟩) (wN h))
    ·simp only[hw]at h ⊢;exact⟨hS,jF hsel hQ hs hc hn r _ _ _ (inv.set hr' hin) hB' hS h⟩
theorem aEy {id:Nat}{a:Act}{w:World}{l:List Oper}(n:Nat)(order:List (Bool × Nat))(S:World→Prop)(hm:P.follows .mixedOrders=true)
  (hB:(Region.noSelect l.toArray&&Region.sinkB .any l.toArray n&&Region.chainB .any l.toArray n&&decide (n<l.length)&&decide (order.length=n)&&vT .any l.toArray n order (Array.replicate l.length false))=true)
  (hS:S (w.drewN 1)) (h:oX P l.toArray S (fun a' w'=>∀Q',(∀a w,Q .normal a w→Q' .normal a w)→wpList P l.toArray Q' (l.drop n) a' w') order a (w.drewN 1)):(Code.region id l.toArray true).wp P Q a w:=by
 simp only[Bool.and_eq_true,decide_eq_true_eq]at hB;obtain⟨⟨⟨⟨⟨hsel,hs⟩,hc⟩,hn⟩,hlen⟩,hord⟩:=hB;refine wp_region_noPanic ?_;have hn':n<l.toArray.size:=by simpa using hn
 have inv0:HeadInv .any l.toArray n (Array.replicate l.toArray.size false) :=
  ⟨by simp,fun j oj _ hl=>(by rw[getD_replicate_false]at hl;cases hl),fun t _ ht=>getD_in (by simpa using ht) (getD_replicate_false _ _)⟩
 have hdl:(l.drop n).length=l.toArray.size-n:=by simp
 have H:=jF (P:=P) (Q:=NoPanic Q) (md:=.any) (S:=S) hsel (fun c d v a w h=>h) hs hc hn' order _ a _ inv0 (by simpa using hord) hS h;refine wp_region_any hm ?_;have:=kA (Q:=NoPanic Q) (g:=l.toArray.size-n) (fun listed a' w' hL=>by
  have h2:=hL.2 (NoPanic Q) (fun _ _ h=>h);have:=wpAny_of_seq (md:=.any) (Q':=NoPanic Q) (l.drop n) n listed a' w' (fun j=>by simp[List.getElem?_drop]) (by rw[hdl];exact hL.1) h2;rwa[hdl]at this) _ _ _ _ H
 rw[hlen,show n+(l.toArray.size-n)=l.toArray.size by omega]at this
 exact this
structure WIn (S:World→Prop) where
 w:World
 h:S w
@[reducible] def InS (S:World→Prop):World→Prop:=fun u=>∃s:WIn S,u=s.w
theorem pickZ {α:Type}{a:α}{r:List α}:(a::r)[0]?=some a:=List.getElem?_cons_zero
theorem pickS {α:Type}{a:α}{r:List α}{i:Nat}:(a::r)[i+1]?=r[i]?:=List.getElem?_cons_succ
theorem pickG {α:Type}{a b:α}:(some a).getD b=a:=Option.getD_some
def pick (l:List Oper):List Nat→List Oper
 | []=>[]
 | i :: r=>(l[i]?).getD default :: pick l r
def aBy (P:Program)(ops:Array Oper)(S:World→Prop)(l:List Oper)(K:Act→World→Prop):List (List Nat × Nat)→List Nat→Act→World→Prop
 | [],last,a,w=>wpQuiet P ops (InS S) (fun a'=>K a' w) (pick l last) a
 | (qs,i) :: rest,last,a,w =>
  wpQuiet P ops (InS S) (fun a'=>∀Q':Exit→Act→World→Prop,(∀a2 w2,S w2→aBy P ops S l K rest last a2 w2→Q' .normal a2 w2)→wpList P ops Q' (pick l [i]) a' w) (pick l qs) a
theorem aZ {l:List Oper}{K:Act→World→Prop}{qs:List Nat}{i:Nat}{rest:List (List Nat × Nat)}{last:List Nat}{a:Act}{w:World}
  (h:∀K':Act→Prop,(∀a',(∀Q':Exit→Act→World→Prop,(∀a2 w2,S w2→aBy P ops S l K rest last a2 w2→Q' .normal a2 w2)→wpList P ops Q' (pick l [i]) a' w)→K' a')→wpQuiet P ops (InS S) K' (pick l qs) a) :
  aBy P ops S l K ((qs,i) :: rest) last a w:=h _ (fun _ h=>h)
theorem fE {l:List Oper}{K:Act→World→Prop}{last:List Nat}{a:Act}{w:World}
  (h:∀K':Act→Prop,(∀a',K a' w→K' a')→wpQuiet P ops (InS S) K' (pick l last) a):aBy P ops S l K [] last a w:=h _ (fun _ h=>h)
def mE:List (List Nat × Nat)→List Nat→List (Bool × Nat)
 | [],last=>last.map (true,·)
 | (qs,i) :: rest,last=>qs.map (true,·)++(false,i) :: mE rest last
def jL (l:List Oper)(is:List Nat):Bool:=is.all fun i=>((l[i]?).map sZ).getD false
theorem lR {l:List Oper}{K:Act→World→Prop}{Qa:Act→Prop}{rest:List (Bool × Nat)}{w:World}(hrest:∀a',Qa a'→oX P l.toArray S K rest a' w) :
  ∀(qs:List Nat) (a:Act),jL l qs=true→wpQuiet P l.toArray (InS S) Qa (pick l qs) a→oX P l.toArray S K (qs.map (true,·)++rest) a w
 | [],a,_,h=>hrest a h
 | i :: qs,a,hB,h=>by
  simp only[jL,List.all_cons,Bool.and_eq_true]at hB;obtain⟨h1,h2⟩:=hB;cases ho:l[i]? with
  | none=>simp[ho]at h1
  | some o =>
   simp only[ho,Option.map_some,Option.getD_some]at h1;have hp:pick l (i :: qs)=o :: pick l qs:=by simp[pick,ho]
   rw[hp]at h
   unfold wpQuiet at h;simp only[List.map_cons,List.cons_append];unfold oX;simp only[List.getElem?_toArray,ho];by_cases hw:Region.wanted o (yielded l.toArray a.tmps)=true
   ·simp only[hw,if_true]at h ⊢;obtain⟨v,hv,hk⟩:=h;refine⟨v,fun u hu=>?_,lR hrest qs _ h2 hk⟩;have:=hv u ⟨⟨u,hu⟩,rfl⟩;unfold Oper.quietAt at this;cases hr:(execOp a.eval o).run P u with
    | ok x w' =>
     obtain⟨v',rfl⟩:=yG h1 a.eval P u x w' hr;rw[hr]at this
     simp only[Oper.quietUpon]at this;rw[this.1,this.2]
    | halt x w'=>rw[hr]at this;simp[Oper.quietUpon]at this
   ·simp only[hw]at h ⊢;exact lR hrest qs _ h2 h
def aAO (l:List Oper):List (List Nat × Nat)→List Nat→Bool
 | [],last=>jL l last
 | (qs,i) :: rest,last=>jL l qs&&(l[i]?).isSome&&aAO l rest last
theorem vF {l:List Oper}{K:Act→World→Prop}{last:List Nat} :
  ∀(sg:List (List Nat × Nat)) (a:Act) (w:World),aAO l sg last=true→aBy P l.toArray S l K sg last a w→oX P l.toArray S K (mE sg last) a w
 | [],a,w,hB,h=>by
  have:=lR (K:=K) (rest:=[]) (w:=w) (fun a' h'=>h') last a hB h;simpa [mE]using this
 | (qs,i) :: rest,a,w,hB,h=>by
  simp only[aAO,Bool.and_eq_true]at hB;obtain⟨⟨h1,h2⟩,h3⟩:=hB;obtain⟨o,ho⟩:=Option.isSome_iff_exists.1 h2;refine lR (K:=K) (rest:=(false,i) :: mE rest last) (w:=w) (fun a' h'=>?_) qs a h1 h;have hk:=h' (fun e a2 w2=>e=.normal∧S w2∧oX P l.toArray S K (mE rest last) a2 w2) (fun a2 w2 hs hg=>⟨rfl,hs,vF rest a2 w2 h3 hg⟩);have hp:pick l [i]=[o]:=by simp[pick,ho]
  rw[hp]at hk
  unfold oX;simp only[List.getElem?_toArray,ho];unfold wpList at hk;by_cases hw:Region.wanted o (yielded l.toArray a'.tmps)=true
  ·simp only[hw,if_true,Bool.false_eq_true,if_false]at hk ⊢;rcases hk with hk|⟨_,_,_,hx,_⟩
   ·unfold Oper.wp at *
    generalize (execOp a'.eval o).run P w=r at *
    cases r with
    | ok n w' =>
     cases n<;>simp only[Oper.upon,wpList]at hk ⊢
     case value v=>exact hk.2
     case skip=>exact hk.2
     case defer d=>exact hk.2
     case enter f args =>
      exact hk.mono fun e w'' he=>by
       cases e with
       | returned v=>exact he.2
       | panicked c=>cases he.1
       | outgrown=>obtain⟨_,_,hx,_⟩:=he;cases hx
     case row row args=>exact hk.mono fun v w'' he=>he.2
    | halt x w'=>cases x<;>simp only[Oper.upon]at hk ⊢;cases hk.1
   ·cases hx
  ·simp only[hw]at hk ⊢;exact hk.2.2
theorem eK {id:Nat}{a:Act}{w:World}{l:List Oper}(n:Nat)(sg:List (List Nat × Nat))(last:List Nat)(S:World→Prop)(hm:P.follows .mixedOrders=true)
  (hB:(aAO l sg last&&(Region.noSelect l.toArray&&Region.sinkB .any l.toArray n&&Region.chainB .any l.toArray n&&decide (n<l.length)&&decide ((mE sg last).length=n)&&vT .any l.toArray n (mE sg last) (Array.replicate l.length false)))=true)
  (hS:S (w.drewN 1)) (h:aBy P l.toArray S l (fun a' w'=>∀Q',(∀a w,Q .normal a w→Q' .normal a w)→wpList P l.toArray Q' (l.drop n) a' w') sg last a (w.drewN 1)):(Code.region id l.toArray true).wp P Q a w:=by
 simp only[Bool.and_eq_true (a:=aAO l sg last)]at hB;exact aEy n (mE sg last) S hm hB.2 hS (vF sg a _ hB.1 h)
end
inductive Sch
 | done
 | quiet (i:Nat) (t:Sch)
 | loud (i:Nat) (t:Sch)
 | two (i:Nat) (t:Sch) (j:Nat) (u:Sch)
 | three (i:Nat) (t:Sch) (j:Nat) (u:Sch) (k:Nat) (v:Sch)
section
variable {P:Program} {ops:Array Oper} {md:Region.Mode} {S:World→Prop} {Q:Exit→Act→World→Prop}
def gR (md:Region.Mode)(ops:Array Oper)(n:Nat):Sch→Nat→Array Bool→Bool
 | .done,f,listed=>decide (f=0)&&Region.seqB md ops (ops.size-n) n listed
 | .quiet i t,f,listed=>(decide (0<f)&&decide (i<n)&&((Region.ready md ops listed).contains i&&Region.free md ops listed i&&((ops[i]?).map sZ).getD false))&&gR md ops n t (f-1) (listed.setIfInBounds i true)
 | .loud i t,f,listed=>(decide (0<f)&&decide (i<n)&&decide (Region.ready md ops listed=[i]))&&gR md ops n t (f-1) (listed.setIfInBounds i true)
 | .two i t j u,f,listed=>(decide (0<f)&&decide (i<n)&&decide (j<n)&&decide (Region.ready md ops listed=[i,j]))&&(gR md ops n t (f-1) (listed.setIfInBounds i true)&&gR md ops n u (f-1) (listed.setIfInBounds j true))
 | .three i t j u k v,f,listed=>(decide (0<f)&&decide (i<n)&&decide (j<n)&&decide (k<n)&&decide (Region.ready md ops listed=[i,j,k]))&&(gR md ops n t (f-1) (listed.setIfInBounds i true)&&(gR md ops n u (f-1) (listed.setIfInBounds j true)&&gR md ops n v (f-1) (listed.setIfInBounds k true)))
def nY (P:Program)(ops:Array Oper)(S:World→Prop)(i:Nat)(T:Act→World→Prop)(a:Act)(w:World):Prop :=
 match ops[i]? with
 | none=>False
 | some o=>if Region.wanted o (yielded ops a.tmps)then o.wp P a w (fun a' w'=>S w'∧T a' w') (fun _ _ _=>False)else T (a.put o.dst undef) w
def eP (P:Program)(ops:Array Oper)(S:World→Prop)(K:Act→World→Prop):Sch→Act→World→Prop
 | .done,a,w=>K a w
 | .quiet i t,a,w =>
  match ops[i]? with
  | none=>False
  | some o =>
   if Region.wanted o (yielded ops a.tmps)then ∃v,(∀u,S u→(execOp a.eval o).run P u=.ok (.value v) u)∧eP P ops S K t (a.put o.dst v) w
   else eP P ops S K t (a.put o.dst undef) w
 | .loud i t,a,w=>nY P ops S i (eP P ops S K t) a w
 | .two i t j u,a,w=>nY P ops S i (eP P ops S K t) a w∧nY P ops S j (eP P ops S K u) a w
 | .three i t j u k v,a,w=>nY P ops S i (eP P ops S K t) a w∧nY P ops S j (eP P ops S K u) a w∧nY P ops S k (eP P ops S K v) a w
theorem cX {n i f:Nat}{L:Array Bool→Act→World→Prop}{T:Act→World→Prop}{listed:Array Bool}{a:Act}{w:World}(hS:S w)(h:nY P ops S i T a w)
  (hT:∀a' w',S w'→T a' w'→jT P md ops Q S n L f (listed.setIfInBounds i true) a' w') :
  wpOp P ops Q i (fun a' w'=>S w'∧jT P md ops Q S n L f (listed.setIfInBounds i true) a' w') a w:=by
 unfold nY at h;cases ho:ops[i]? with
 | none=>simp only[ho]at h
 | some o =>
  simp only[ho]at h;unfold wpOp;simp only[ho];by_cases hw:Region.wanted o (yielded ops a.tmps)=true
  ·simp only[hw,if_true]at h ⊢;exact .inl (Oper.wp_mono (fun a' w' h'=>⟨h'.1,hT a' w' h'.1 h'.2⟩) (wN h))
  ·simp only[hw]at h ⊢;exact⟨hS,hT _ _ hS h⟩
theorem aCw {n:Nat}{K:Act→World→Prop}(hsel:Region.noSelect ops=true)(hQ:∀c d v (a:Act) w,Q (.panic c) (a.put d v) w→Q (.panic c) a w)
  (hs:Region.sinkB md ops n=true) (hc:Region.chainB md ops n=true) (hn:n<ops.size) :
  ∀(t:Sch) (f:Nat) (listed:Array Bool) (a:Act) (w:World),HeadInv md ops n listed→gR md ops n t f listed=true→S w→eP P ops S K t a w →
   jT P md ops Q S n (fun listed' a' w'=>Region.seqB md ops (ops.size-n) n listed'=true∧K a' w') f listed a w:=by
 have hdone:∀listed' (a':Act) (w':World),(Region.seqB md ops (ops.size-n) n listed'=true∧K a' w')→∀j∈Region.ready md ops listed',n≤j:=fun listed' a' w' hL=>seqB_ready hL.1
 intro t;induction t with
 | done =>
  intro f listed a w _ hB _ h;simp only[gR,Bool.and_eq_true,decide_eq_true_eq]at hB;obtain⟨rfl,hB⟩:=hB;exact⟨hB,h⟩
 | quiet i t ih =>
  intro f listed a w inv hB hS h;simp only[gR,Bool.and_eq_true,decide_eq_true_eq]at hB;obtain⟨⟨⟨hf0,hin⟩,⟨⟨hr,hf⟩,hv⟩⟩,hB'⟩:=hB;obtain⟨f,rfl⟩:∃g,f=g+1:=⟨f-1,by omega⟩
  rw[Nat.add_sub_cancel]at hB'
  unfold eP at h;cases ho:ops[i]? with
  | none=>simp only[ho]at h
  | some o =>
   simp only[ho]at h;have hr':i∈Region.ready md ops listed:=by simpa using hr
   by_cases hw:Region.wanted o (yielded ops a.tmps)=true
   ·simp only[hw,if_true]at h;obtain⟨v,h1,h2⟩:=h;exact nX ho (Region.noSelect_spec hsel) (fun c a w=>hQ c _ _ a w) hs hc hn hin hdone f listed a w inv (Region.free_spec ho hf) hr' (.inl ⟨hw,h1⟩) hS
     (ih f _ _ _ (inv.set hr' hin) hB' hS h2)
   ·simp only[hw]at h;exact nX ho (Region.noSelect_spec hsel) (fun c a w=>hQ c _ _ a w) hs hc hn hin hdone f listed a w inv (Region.free_spec ho hf) hr' (.inr ⟨by simpa using hw,rfl⟩) hS
     (ih f _ _ _ (inv.set hr' hin) hB' hS h)
 | loud i t ih =>
  intro f listed a w inv hB hS h;simp only[gR,Bool.and_eq_true,decide_eq_true_eq]at hB;obtain⟨⟨⟨hf0,hin⟩,hq⟩,hB'⟩:=hB;obtain⟨f,rfl⟩:∃g,f=g+1:=⟨f-1,by omega⟩
  rw[Nat.add_sub_cancel]at hB'
  have hr':i∈Region.ready md ops listed:=by rw[hq];simp
  refine⟨by rw[hq];simp,fun j hj=>?_⟩;rw[hq]at hj
  have hji:j=i:=by simpa using hj
  subst hji;unfold eP at h;exact⟨hin,cX hS h (fun a' w' h1 h2=>ih f _ a' w' (inv.set hr' hin) hB' h1 h2)⟩
 | two i t j u iht ihu =>
  intro f listed a w inv hB hS h;simp only[gR,Bool.and_eq_true,decide_eq_true_eq]at hB;obtain⟨⟨⟨⟨hf0,hin⟩,hjn⟩,hq⟩,hB1,hB2⟩:=hB;obtain⟨f,rfl⟩:∃g,f=g+1:=⟨f-1,by omega⟩
  rw[Nat.add_sub_cancel]at hB1 hB2
  have hri:i∈Region.ready md ops listed:=by rw[hq];simp
  have hrj:j∈Region.ready md ops listed:=by rw[hq];simp
  unfold eP at h;refine⟨by rw[hq];simp,fun k hk=>?_⟩;rw[hq]at hk
  simp only[List.mem_cons,List.not_mem_nil,or_false]at hk;rcases hk with rfl|rfl
  ·exact⟨hin,cX hS h.1 (fun a' w' h1 h2=>iht f _ a' w' (inv.set hri hin) hB1 h1 h2)⟩
  ·exact⟨hjn,cX hS h.2 (fun a' w' h1 h2=>ihu f _ a' w' (inv.set hrj hjn) hB2 h1 h2)⟩
 | three i t j u k v iht ihu ihv =>
  intro f listed a w inv hB hS h;simp only[gR,Bool.and_eq_true,decide_eq_true_eq]at hB;obtain⟨⟨⟨⟨⟨hf0,hin⟩,hjn⟩,hkn⟩,hq⟩,hB1,hB2,hB3⟩:=hB;obtain⟨f,rfl⟩:∃g,f=g+1:=⟨f-1,by omega⟩
  rw[Nat.add_sub_cancel]at hB1 hB2 hB3
  have hri:i∈Region.ready md ops listed:=by rw[hq];simp
  have hrj:j∈Region.ready md ops listed:=by rw[hq];simp
  have hrk:k∈Region.ready md ops listed:=by rw[hq];simp
  unfold eP at h;refine⟨by rw[hq];simp,fun m hk=>?_⟩;rw[hq]at hk
  simp only[List.mem_cons,List.not_mem_nil,or_false]at hk;rcases hk with rfl|rfl|rfl
  ·exact⟨hin,cX hS h.1 (fun a' w' h1 h2=>iht f _ a' w' (inv.set hri hin) hB1 h1 h2)⟩
  ·exact⟨hjn,cX hS h.2.1 (fun a' w' h1 h2=>ihu f _ a' w' (inv.set hrj hjn) hB2 h1 h2)⟩
  ·exact⟨hkn,cX hS h.2.2 (fun a' w' h1 h2=>ihv f _ a' w' (inv.set hrk hkn) hB3 h1 h2)⟩
theorem aEz {id:Nat}{a:Act}{w:World}{l:List Oper}(n:Nat)(t:Sch)(S:World→Prop)(hm:P.follows .mixedOrders=true)
  (hB:(Region.noSelect l.toArray&&Region.sinkB .any l.toArray n&&Region.chainB .any l.toArray n&&decide (n<l.length)&&gR .any l.toArray n t n (Array.replicate l.length false))=true)
  (hS:S (w.drewN 1)) (h:eP P l.toArray S (fun a' w'=>∀Q',(∀a w,Q .normal a w→Q' .normal a w)→wpList P l.toArray Q' (l.drop n) a' w') t a (w.drewN 1)):(Code.region id l.toArray true).wp P Q a w:=by
 simp only[Bool.and_eq_true,decide_eq_true_eq]at hB;obtain⟨⟨⟨⟨hsel,hs⟩,hc⟩,hn⟩,hord⟩:=hB;refine wp_region_noPanic ?_;have hn':n<l.toArray.size:=by simpa using hn
 have inv0:HeadInv .any l.toArray n (Array.replicate l.toArray.size false) :=
  ⟨by simp,fun j oj _ hl=>(by rw[getD_replicate_false]at hl;cases hl),fun t _ ht=>getD_in (by simpa using ht) (getD_replicate_false _ _)⟩
 have hdl:(l.drop n).length=l.toArray.size-n:=by simp
 have H:=aCw (P:=P) (Q:=NoPanic Q) (md:=.any) (S:=S) hsel (fun c d v a w h=>h) hs hc hn' t n _ a _ inv0 (by simpa using hord) hS h;refine wp_region_any hm ?_;have:=kA (Q:=NoPanic Q) (g:=l.toArray.size-n) (fun listed a' w' hL=>by
  have h2:=hL.2 (NoPanic Q) (fun _ _ h=>h);have:=wpAny_of_seq (md:=.any) (Q':=NoPanic Q) (l.drop n) n listed a' w' (fun j=>by simp[List.getElem?_drop]) (by rw[hdl];exact hL.1) h2;rwa[hdl]at this) _ _ _ _ H
 rw[show n+(l.toArray.size-n)=l.toArray.size by omega]at this
 exact this
inductive Sg
 | fin (last:List Nat)
 | one (qs:List Nat) (i:Nat) (t:Sg)
 | two (qs:List Nat) (i:Nat) (t:Sg) (j:Nat) (u:Sg)
 | three (qs:List Nat) (i:Nat) (t:Sg) (j:Nat) (u:Sg) (k:Nat) (v:Sg)
def nM:List Nat→Sch→Sch
 | [],t=>t
 | i :: is,t=>.quiet i (nM is t)
def Sg.sch:Sg→Sch
 | .fin last=>nM last .done
 | .one qs i t=>nM qs (.loud i t.sch)
 | .two qs i t j u=>nM qs (.two i t.sch j u.sch)
 | .three qs i t j u k v=>nM qs (.three i t.sch j u.sch k v.sch)
def nZ (P:Program)(ops:Array Oper)(S:World→Prop)(l:List Oper)(i:Nat)(T:Act→World→Prop)(a:Act)(w:World):Prop :=
 ∀Q':Exit→Act→World→Prop,(∀a2 w2,S w2→T a2 w2→Q' .normal a2 w2)→wpList P ops Q' (pick l [i]) a w
def lI (P:Program)(ops:Array Oper)(S:World→Prop)(l:List Oper)(K:Act→World→Prop):Sg→Act→World→Prop
 | .fin last,a,w=>wpQuiet P ops (InS S) (fun a'=>K a' w) (pick l last) a
 | .one qs i t,a,w=>wpQuiet P ops (InS S) (fun a'=>nZ P ops S l i (lI P ops S l K t) a' w) (pick l qs) a
 | .two qs i t j u,a,w=>wpQuiet P ops (InS S) (fun a'=>nZ P ops S l i (lI P ops S l K t) a' w∧nZ P ops S l j (lI P ops S l K u) a' w) (pick l qs) a
 | .three qs i t j u k v,a,w=>wpQuiet P ops (InS S) (fun a'=>nZ P ops S l i (lI P ops S l K t) a' w∧nZ P ops S l j (lI P ops S l K u) a' w∧nZ P ops S l k (lI P ops S l K v) a' w) (pick l qs) a
theorem cQ {l:List Oper}{K:Act→World→Prop}{last:List Nat}{a:Act}{w:World}
  (h:∀K':Act→Prop,(∀a',K a' w→K' a')→wpQuiet P ops (InS S) K' (pick l last) a):lI P ops S l K (.fin last) a w:=h _ (fun _ h=>h)
theorem bB {l:List Oper}{K:Act→World→Prop}{qs:List Nat}{i:Nat}{t:Sg}{a:Act}{w:World}
  (h:∀K':Act→Prop,(∀a',nZ P ops S l i (lI P ops S l K t) a' w→K' a')→wpQuiet P ops (InS S) K' (pick l qs) a):lI P ops S l K (.one qs i t) a w:=h _ (fun _ h=>h)
theorem fJ {l:List Oper}{K:Act→World→Prop}{qs:List Nat}{i j:Nat}{t u:Sg}{a:Act}{w:World}
  (h:∀K':Act→Prop,(∀a',nZ P ops S l i (lI P ops S l K t) a' w→nZ P ops S l j (lI P ops S l K u) a' w→K' a')→wpQuiet P ops (InS S) K' (pick l qs) a):lI P ops S l K (.two qs i t j u) a w:=h _ (fun _ h1 h2=>⟨h1,h2⟩)
def sgB (l:List Oper):Sg→Bool
 | .fin last=>jL l last
 | .one qs i t=>jL l qs&&(l[i]?).isSome&&sgB l t
 | .two qs i t j u=>jL l qs&&((l[i]?).isSome&&(l[j]?).isSome)&&(sgB l t&&sgB l u)
 | .three qs i t j u k v=>jL l qs&&((l[i]?).isSome&&((l[j]?).isSome&&(l[k]?).isSome))&&(sgB l t&&(sgB l u&&sgB l v))
theorem gT {l:List Oper}{K:Act→World→Prop}{Qa:Act→Prop}{t:Sch}{w:World}(hrest:∀a',Qa a'→eP P l.toArray S K t a' w) :
  ∀(qs:List Nat) (a:Act),jL l qs=true→wpQuiet P l.toArray (InS S) Qa (pick l qs) a→eP P l.toArray S K (nM qs t) a w
 | [],a,_,h=>hrest a h
 | i :: qs,a,hB,h=>by
  simp only[jL,List.all_cons,Bool.and_eq_true]at hB;obtain⟨h1,h2⟩:=hB;cases ho:l[i]? with
  | none=>simp[ho]at h1
  | some o =>
   simp only[ho,Option.map_some,Option.getD_some]at h1;have hp:pick l (i :: qs)=o :: pick l qs:=by simp[pick,ho]
   rw[hp]at h
   unfold wpQuiet at h;unfold nM eP;simp only[List.getElem?_toArray,ho];by_cases hw:Region.wanted o (yielded l.toArray a.tmps)=true
   ·simp only[hw,if_true]at h ⊢;obtain⟨v,hv,hk⟩:=h;refine⟨v,fun u hu=>?_,gT hrest qs _ h2 hk⟩;have:=hv u ⟨⟨u,hu⟩,rfl⟩;unfold Oper.quietAt at this;cases hr:(execOp a.eval o).run P u with
    | ok x w' =>
     obtain⟨v',rfl⟩:=yG h1 a.eval P u x w' hr;rw[hr]at this
     simp only[Oper.quietUpon]at this;rw[this.1,this.2]
    | halt x w'=>rw[hr]at this;simp[Oper.quietUpon]at this
   ·simp only[hw]at h ⊢;exact gT hrest qs _ h2 h
theorem gC {l:List Oper}{i:Nat}{T T':Act→World→Prop}(hi:(l[i]?).isSome=true)(hT:∀a w,T a w→T' a w){a:Act}{w:World}(h:nZ P l.toArray S l i T a w):nY P l.toArray S i T' a w:=by
 obtain⟨o,ho⟩:=Option.isSome_iff_exists.1 hi;have hk:=h (fun e a2 w2=>e=.normal∧S w2∧T' a2 w2) (fun a2 w2 hs hg=>⟨rfl,hs,hT a2 w2 hg⟩);have hp:pick l [i]=[o]:=by simp[pick,ho]
 rw[hp]at hk
 unfold nY;simp only[List.getElem?_toArray,ho];unfold wpList at hk;by_cases hw:Region.wanted o (yielded l.toArray a.tmps)=true
 ·simp only[hw,if_true]at hk ⊢;rcases hk with hk|⟨_,_,_,hx,_⟩
  ·unfold Oper.wp at *
   generalize (execOp a.eval o).run P w=r at *
   cases r with
   | ok n w' =>
    cases n<;>simp only[Oper.upon,wpList]at hk ⊢
    case value v=>exact hk.2
    case skip=>exact hk.2
    case defer d=>exact hk.2
    case enter f args =>
     exact hk.mono fun e w'' he=>by
      cases e with
      | returned v=>exact he.2
      | panicked c=>cases he.1
      | outgrown=>obtain⟨_,_,hx,_⟩:=he;cases hx
    case row row args=>exact hk.mono fun v w'' he=>he.2
   | halt x w'=>cases x<;>simp only[Oper.upon]at hk ⊢;cases hk.1
  ·cases hx
 ·simp only[hw]at hk ⊢;exact hk.2.2
theorem fC {l:List Oper}{K:Act→World→Prop}:∀(sg:Sg) (a:Act) (w:World),sgB l sg=true→lI P l.toArray S l K sg a w→eP P l.toArray S K sg.sch a w
 | .fin last,a,w,hB,h=>gT (fun a' h'=>h') last a hB h
 | .one qs i t,a,w,hB,h=>by
  simp only[sgB,Bool.and_eq_true]at hB;refine gT (fun a' h'=>?_) qs a hB.1.1 h;unfold eP;exact gC hB.1.2 (fun a w h=>fC t a w hB.2 h) h'
 | .two qs i t j u,a,w,hB,h=>by
  simp only[sgB,Bool.and_eq_true]at hB;refine gT (fun a' h'=>?_) qs a hB.1.1 h;unfold eP;exact⟨gC hB.1.2.1 (fun a w h=>fC t a w hB.2.1 h) h'.1,gC hB.1.2.2 (fun a w h=>fC u a w hB.2.2 h) h'.2⟩
 | .three qs i t j u k v,a,w,hB,h=>by
  simp only[sgB,Bool.and_eq_true]at hB;refine gT (fun a' h'=>?_) qs a hB.1.1 h;unfold eP;exact⟨gC hB.1.2.1 (fun a w h=>fC t a w hB.2.1 h) h'.1,gC hB.1.2.2.1 (fun a w h=>fC u a w hB.2.2.1 h) h'.2.1,gC hB.1.2.2.2 (fun a w h=>fC v a w hB.2.2.2 h) h'.2.2⟩
theorem qN {id:Nat}{a:Act}{w:World}{l:List Oper}(n:Nat)(sg:Sg)(S:World→Prop)(hm:P.follows .mixedOrders=true)
  (hB:(sgB l sg&&(Region.noSelect l.toArray&&Region.sinkB .any l.toArray n&&Region.chainB .any l.toArray n&&decide (n<l.length)&&gR .any l.toArray n sg.sch n (Array.replicate l.length false)))=true)
  (hS:S (w.drewN 1)) (h:lI P l.toArray S l (fun a' w'=>∀Q',(∀a w,Q .normal a w→Q' .normal a w)→wpList P l.toArray Q' (l.drop n) a' w') sg a (w.drewN 1)):(Code.region id l.toArray true).wp P Q a w:=by
 simp only[Bool.and_eq_true (a:=sgB l sg)]at hB;exact aEz n sg.sch S hm hB.2 hS (fC sg a _ hB.1 h)
end
