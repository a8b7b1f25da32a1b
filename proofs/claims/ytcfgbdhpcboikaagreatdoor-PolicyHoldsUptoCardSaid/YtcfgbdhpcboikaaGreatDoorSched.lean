/-
A region that draws its order, walked in one order of the prover's choice: quiet operations (they yield one value in every world that meets S, and leave it alone), loud ones between them (each comes up alone, and keeps S), then a forced tail, of which S is not asked.
-/
import Derived.Deep.RegionHeld3
import Derived.Test.YtcfgbdhpcboikaaGreatDoorSetD
import Derived.Lib.SmallJoins
namespace Go.Proofs.YtcfgbdhpcboikaaGreatDoor
open Go.Lib (hid)
set_option maxHeartbeats 1500000
set_option maxRecDepth 100000
open Go
theorem sQ {n:Nat}:n≤n:=Nat.le_refl n
def aB2 (o:Oper):Bool :=
 match o.op with
 | .move _|.assign _|.pick .. | .load .. | .nilCheck _|.binOp .. | .unOp .. | .convert .. | .fieldAddr .. | .field .. | .indexAddr .. | .index .. | .slice .. | .extract .. | .lookup .. | .typeAssert .. => true
 | .call { callee:=.builtin b, .. }=>match b with|.len|.cap|.min|.max=>true|_=>false
 | _=>false
def aV (s:Sem Next):Prop:=∀(P:Program) (w:World) (n:Next) (w':World),s.run P w=.ok n w'→∃v,n=.value v
theorem aV.pure (v:Value):aV (Pure.pure (Next.value v)):=by
 intro P w n w' h;simp only[Sem.run_pure,Result.ok.injEq]at h;exact⟨v,h.1.symm⟩
theorem aV.bind {α : Type}{s:Sem α}{k:α → Sem Next}(h:∀x,aV (k x)):aV (s >>= k):=by
 intro P w n w' hr;rw[Sem.run_bind]at hr
 cases hs:s.run P w with
 | ok x w1=>rw[hs]at hr;exact h x P w1 n w' hr
 | halt x w1=>rw[hs]at hr;simp[Result.andThen]at hr
theorem aV.halt (x:Halt):aV (Sem.halt x):=by
 intro P w n w' h;simp[Sem.run]at h
theorem aV.panic (e:RuntimeError):aV (runtimePanic e):=by
 unfold runtimePanic;refine aV.bind fun p=>?_
 cases e<;>first|exact aV.halt _|exact aV.bind fun _=>aV.bind fun _=>aV.halt _
theorem aV.bind' {α : Type}{s:Sem α}{k:α → Sem Next}(h:∀(P:Program) w x w',s.run P w=.ok x w'→aV (k x)):aV (s >>= k):=by
 intro P w n w' hr;rw[Sem.run_bind]at hr
 cases hs:s.run P w with
 | ok x w1=>rw[hs]at hr;exact h P w x w1 hs P w1 n w' hr
 | halt x w1=>rw[hs]at hr;simp[Result.andThen]at hr
theorem aGc {o:Oper}(h:aB2 o=true) (ρ : Operand→Value):aV (execOp ρ o):=by
 unfold execOp;unfold aB2 at h;cases ho:o.op<;>simp only[ho]at h<;>try (exact absurd h (by decide))
 all_goals try (exact aV.pure _)
 all_goals try (exact aV.bind fun _=>aV.pure _)
 case nilCheck x =>
  simp only[];split;all_goals try (exact aV.pure _)
  all_goals try (exact aV.panic _)
  split;all_goals try (exact aV.pure _)
  all_goals try (exact aV.panic _)
  refine aV.bind fun p=>aV.bind fun b=>?_
  split
  ·exact aV.bind fun _=>aV.pure _
  ·exact aV.pure _
 case call c =>
  obtain⟨callee,args,argTypes⟩:=c;cases callee<;>simp only[]at h<;>try (exact absurd h (by decide))
  rename_i b;refine aV.bind' (s:=resolve ρ { callee:=.builtin b,args,argTypes } o.type) (fun P w d w' hd=>?_);simp only[resolve,Sem.run_pure,Result.ok.injEq]at hd;rw[←hd.1];cases b<;>simp only[]at h<;>first|exact absurd h (by decide)|exact aV.bind fun _=>aV.pure _
section
variable {P:Program} {ops:Array Oper} {md:Region.Mode} {S:World→Prop} {Q:Exit→Act→World→Prop}
def aBi (P:Program)(md:Region.Mode)(ops:Array Oper)(Q:Exit→Act→World→Prop)(S:World→Prop)(n:Nat)(L:Array Bool→Act→World→Prop):Nat→Array Bool→Act→World→Prop
 | 0,listed,a,w=>L listed a w
 | f+1,listed,a,w =>
  Region.ready md ops listed≠[]∧∀i∈Region.ready md ops listed,i<n∧wpOp P ops Q i (fun a' w'=>S w'∧aBi P md ops Q S n L f (listed.setIfInBounds i true) a' w') a w
theorem wS {n g:Nat}{L:Array Bool→Act→World→Prop}(hL:∀listed a w,L listed a w→wpAny P md ops Q g listed a w) :
  ∀(f:Nat) (listed:Array Bool) (a:Act) (w:World),aBi P md ops Q S n L f listed a w→wpAny P md ops Q (f+g) listed a w
 | 0,listed,a,w,h=>by rw[Nat.zero_add];exact hL _ _ _ h
 | f+1,listed,a,w,h=>by
  rw[show f+1+g=(f+g)+1 by omega];exact⟨fun h0=>absurd h0 h.1,fun i hi=>wpOp_mono (fun a' w' h'=>wS hL f _ a' w' h'.2) (h.2 i hi).2⟩
theorem zZ {n i:Nat}{oi:Oper}{v:Value}{L:Array Bool→Act→World→Prop}(hi:ops[i]?=some oi)(hsel:∀(j:Nat) (o:Oper) cs b,ops[j]?=some o→o.op≠.select cs b)
  (hQ:∀c a w,Q (.panic c) (a.put oi.dst v) w→Q (.panic c) a w)
  (hs:Region.sinkB md ops n=true) (hc:Region.chainB md ops n=true) (hn:n<ops.size) (hin:i<n)
  (hdone:∀listed a w,L listed a w→∀j∈Region.ready md ops listed,n≤j) :
  ∀(f:Nat) (listed:Array Bool) (a:Act) (w:World),HeadInv md ops n listed →
   (∀j oj,ops[j]?=some oj→j≠i→listed.getD j true=false→(∀e∈oj.after,Region.binds md e=true→e.on≠i)→oi.apart ops oj=true) →
   i∈Region.ready md ops listed→YieldsIf P ops S oi v a→S w →
   aBi P md ops Q S n L f (listed.setIfInBounds i true) (a.put oi.dst v) w→aBi P md ops Q S n L (f+1) listed a w:=by
 intro f;induction f with
 | zero =>
  intro listed a w inv _ hr hy hS H;have hun:=(mem_ready.1 hr).1;refine⟨fun h=>(by rw[h]at hr;cases hr),fun j hj=>?_⟩;have hjn:j<n:=by
   rcases Nat.lt_or_ge j n with h|h
   ·exact h
   ·exact absurd hj (tail_waits hs hc hn inv _ i rfl hin hun j h)
  refine⟨hjn,?_⟩;by_cases hji:j=i
  ·subst hji;exact hy.wpOp hi hS ⟨hS,H⟩
  ·have:=hdone _ _ _ H j (ready_mono hj hji);omega
 | succ f ih =>
  intro listed a w inv hfree hr hy hS H;have hun:=(mem_ready.1 hr).1;refine⟨fun h=>(by rw[h]at hr;cases hr),fun j hj=>?_⟩;have hjn:j<n:=by
   rcases Nat.lt_or_ge j n with h|h
   ·exact h
   ·exact absurd hj (tail_waits hs hc hn inv _ i rfl hin hun j h)
  refine⟨hjn,?_⟩;by_cases hji:j=i
  ·subst hji;exact hy.wpOp hi hS ⟨hS,H⟩
  ·have h1:=(H.2 j (ready_mono hj hji)).2;obtain⟨hjun,oj,hoj,hall⟩:=mem_ready.1 hj;have hnot:∀e∈oj.after,Region.binds md e=true→e.on≠i:=fun e he hb heq=>by
    have h1:=hall e he hb;rw[heq,getD_both hun]at h1
    cases h1
   have h2:=wpOp_putIf hoj (hfree j oj hoj hji hjun hnot) (fun cs b=>hsel i oi cs b hi) (fun cs b=>hsel j oj cs b hoj) hQ hy h1;have hfree':∀k ok,ops[k]?=some ok→k≠i→(listed.setIfInBounds j true).getD k true=false →
     (∀e∈ok.after,Region.binds md e=true→e.on≠i)→oi.apart ops ok=true:=fun k ok hk hki hun' hno=>by
    refine hfree k ok hk hki ?_ hno;by_cases hjk:j=k
    ·subst hjk;exact hjun
    ·rw[getD_set_ne true hjk]at hun';exact hun'
   refine wpOp_mono (fun a' w' h3=>⟨h3.2.1,ih (listed.setIfInBounds j true) a' w' (inv.set hj hjn) hfree' (ready_mono hr (Ne.symm hji)) h3.1 h3.2.1 ?_⟩) h2;rw[Array.setIfInBounds_comm _ _ hji];exact h3.2.2
def xW (md:Region.Mode)(ops:Array Oper)(n:Nat):List (Bool × Nat)→Array Bool→Bool
 | [],listed=>Region.seqB md ops (ops.size-n) n listed
 | (q,i) :: r,listed =>
  decide (i<n)&&(if q then (Region.ready md ops listed).contains i&&Region.free md ops listed i&&((ops[i]?).map aB2).getD false else decide (Region.ready md ops listed=[i])) &&
   xW md ops n r (listed.setIfInBounds i true)
def qB (P:Program)(ops:Array Oper)(S:World→Prop)(K:Act→World→Prop):List (Bool × Nat)→Act→World→Prop
 | [],a,w=>K a w
 | (q,i) :: r,a,w =>
  match ops[i]? with
  | none=>False
  | some o =>
   if Region.wanted o (yielded ops a.tmps)then
    if q then ∃v,(∀u,S u→(execOp a.eval o).run P u=.ok (.value v) u)∧qB P ops S K r (a.put o.dst v) w
    else o.wp P a w (fun a' w'=>S w'∧qB P ops S K r a' w') (fun _ _ _=>False)
   else qB P ops S K r (a.put o.dst undef) w
theorem aFs {P:Program}{o:Oper}{a:Act}{w:World}{K:Act→World→Prop}{Q:Exit→Act→World→Prop}(h:o.wp P a w K (fun _ _ _=>False)):o.wp P a w K Q:=by
 unfold Oper.wp at *
 generalize (execOp a.eval o).run P w=r at *
 cases r with
 | ok n w' =>
  cases n<;>simp only[Oper.upon]at h ⊢ <;> first|exact h|skip
  exact h.mono fun e w'' he=>by
   cases e with
   | returned v=>exact he
   | panicked c=>exact he.elim
   | outgrown=>obtain⟨_,_,h⟩:=he;exact h.elim
 | halt x w'=>cases x<;>simp only[Oper.upon]at h ⊢
theorem jY {n:Nat}{K:Act→World→Prop}(hsel:Region.noSelect ops=true)(hQ:∀c d v (a:Act) w,Q (.panic c) (a.put d v) w→Q (.panic c) a w)
  (hs:Region.sinkB md ops n=true) (hc:Region.chainB md ops n=true) (hn:n<ops.size) :
  ∀(l:List (Bool × Nat)) (listed:Array Bool) (a:Act) (w:World),HeadInv md ops n listed→xW md ops n l listed=true→S w→qB P ops S K l a w →
   aBi P md ops Q S n (fun listed' a' w'=>Region.seqB md ops (ops.size-n) n listed'=true∧K a' w') l.length listed a w
 | [],listed,a,w,_,hB,_,h=>⟨hB,h⟩
 | (q,i) :: r,listed,a,w,inv,hB,hS,h=>by
  simp only[xW,Bool.and_eq_true,decide_eq_true_eq]at hB;obtain⟨⟨hin,hq⟩,hB'⟩:=hB;unfold qB at h;cases ho:ops[i]? with
  | none=>simp only[ho]at h
  | some o =>
   simp only[ho]at h;cases q with
   | true =>
    simp only[if_true,Bool.and_eq_true,ho,Option.map_some,Option.getD_some]at hq h;obtain⟨⟨hr,hf⟩,hv⟩:=hq;have hr':i∈Region.ready md ops listed:=by simpa using hr
    have hdone:∀listed' (a':Act) (w':World),(Region.seqB md ops (ops.size-n) n listed'=true∧K a' w')→∀j∈Region.ready md ops listed',n≤j:=fun listed' a' w' hL=>seqB_ready hL.1
    by_cases hw:Region.wanted o (yielded ops a.tmps)=true
    ·simp only[hw,if_true]at h;obtain⟨v,h1,h2⟩:=h;exact zZ ho (Region.noSelect_spec hsel) (fun c a w=>hQ c _ _ a w) hs hc hn hin hdone r.length listed a w inv (Region.free_spec ho hf) hr' (.inl ⟨hw,h1⟩) hS
      (jY hsel hQ hs hc hn r _ _ _ (inv.set hr' hin) hB' hS h2)
    ·simp only[hw]at h;exact zZ ho (Region.noSelect_spec hsel) (fun c a w=>hQ c _ _ a w) hs hc hn hin hdone r.length listed a w inv (Region.free_spec ho hf) hr' (.inr ⟨by simpa using hw,rfl⟩) hS
      (jY hsel hQ hs hc hn r _ _ _ (inv.set hr' hin) hB' hS h)
   | false =>
    simp only[Bool.false_eq_true,if_false,decide_eq_true_eq]at hq h;have hr':i∈Region.ready md ops listed:=by rw[hq];simp
    refine⟨by rw[hq];simp,fun j hj=>?_⟩;rw[hq]at hj
    have hji:j=i:=by simpa using hj
    subst hji;refine⟨hin,?_⟩;unfold wpOp;simp only[ho];by_cases hw:Region.wanted o (yielded ops a.tmps)=true
    ·simp only[hw,if_true]at h ⊢;refine .inl (Oper.wp_mono (fun a' w' h'=>⟨h'.1,jY hsel hQ hs hc hn r _ _ _ (inv.set hr' hin) hB' h'.1 h'.2⟩) (aFs h))
    ·simp only[hw]at h ⊢;exact⟨hS,jY hsel hQ hs hc hn r _ _ _ (inv.set hr' hin) hB' hS h⟩
theorem aFX {id:Nat}{a:Act}{w:World}{l:List Oper}(n:Nat)(order:List (Bool × Nat))(S:World→Prop)(hm:P.follows .mixedOrders=true)
  (hB:(Region.noSelect l.toArray&&Region.sinkB .any l.toArray n&&Region.chainB .any l.toArray n&&decide (n<l.length)&&decide (order.length=n)&&xW .any l.toArray n order (Array.replicate l.length false))=true)
  (hS:S (w.drewN 1)) (h:qB P l.toArray S (fun a' w'=>∀Q',(∀a w,Q .normal a w→Q' .normal a w)→wpList P l.toArray Q' (l.drop n) a' w') order a (w.drewN 1)):(Code.region id l.toArray true).wp P Q a w:=by
 simp only[Bool.and_eq_true,decide_eq_true_eq]at hB;obtain⟨⟨⟨⟨⟨hsel,hs⟩,hc⟩,hn⟩,hlen⟩,hord⟩:=hB;refine wp_region_noPanic ?_;have hn':n<l.toArray.size:=by simpa using hn
 have inv0:HeadInv .any l.toArray n (Array.replicate l.toArray.size false) :=
  ⟨by simp,fun j oj _ hl=>(by rw[getD_replicate_false]at hl;cases hl),fun t _ ht=>getD_in (by simpa using ht) (getD_replicate_false _ _)⟩
 have hdl:(l.drop n).length=l.toArray.size-n:=by simp
 have H:=jY (P:=P) (Q:=NoPanic Q) (md:=.any) (S:=S) hsel (fun c d v a w h=>h) hs hc hn' order _ a _ inv0 (by simpa using hord) hS h;refine wp_region_any hm ?_;have:=wS (Q:=NoPanic Q) (g:=l.toArray.size-n) (fun listed a' w' hL=>by
  have h2:=hL.2 (NoPanic Q) (fun _ _ h=>h);have:=wpAny_of_seq (md:=.any) (Q':=NoPanic Q) (l.drop n) n listed a' w' (fun j=>by simp[List.getElem?_drop]) (by rw[hdl];exact hL.1) h2;rwa[hdl]at this) _ _ _ _ H
 rw[hlen,show n+(l.toArray.size-n)=l.toArray.size by omega]at this
 exact this
structure WIn (S:World→Prop) where
 w:World
 h:S w
@[reducible] def InS (S:World→Prop):World→Prop:=fun u=>∃s:WIn S,u=s.w
theorem pickZ {α:Type}{a:α}{r:List α}:(a::r)[0]?=some a:=List.getElem?_cons_zero
theorem pickS {α:Type}{a:α}{r:List α}{i:Nat}:(a::r)[i+1]?=r[i]?:=List.getElem?_cons_succ
theorem pickG {α:Type}{a b:α}:(some a).getD b=a:=Option.getD_some
def pick (l:List Oper):List Nat→List Oper
 | []=>[]
 | i :: r=>(l[i]?).getD default :: pick l r
def aCB (P:Program)(ops:Array Oper)(S:World→Prop)(l:List Oper)(K:Act→World→Prop):List (List Nat × Nat)→List Nat→Act→World→Prop
 | [],last,a,w=>wpQuiet P ops (InS S) (fun a'=>K a' w) (pick l last) a
 | (qs,i) :: rest,last,a,w =>
  wpQuiet P ops (InS S) (fun a'=>∀Q':Exit→Act→World→Prop,(∀a2 w2,S w2→aCB P ops S l K rest last a2 w2→Q' .normal a2 w2)→wpList P ops Q' (pick l [i]) a' w) (pick l qs) a
theorem bE {l:List Oper}{K:Act→World→Prop}{qs:List Nat}{i:Nat}{rest:List (List Nat × Nat)}{last:List Nat}{a:Act}{w:World}
  (h:∀K':Act→Prop,(∀a',(∀Q':Exit→Act→World→Prop,(∀a2 w2,S w2→aCB P ops S l K rest last a2 w2→Q' .normal a2 w2)→wpList P ops Q' (pick l [i]) a' w)→K' a')→wpQuiet P ops (InS S) K' (pick l qs) a) :
  aCB P ops S l K ((qs,i) :: rest) last a w:=h _ (fun _ h=>h)
theorem dP {l:List Oper}{K:Act→World→Prop}{last:List Nat}{a:Act}{w:World}
  (h:∀K':Act→Prop,(∀a',K a' w→K' a')→wpQuiet P ops (InS S) K' (pick l last) a):aCB P ops S l K [] last a w:=h _ (fun _ h=>h)
def nF:List (List Nat × Nat)→List Nat→List (Bool × Nat)
 | [],last=>last.map (true,·)
 | (qs,i) :: rest,last=>qs.map (true,·)++(false,i) :: nF rest last
def zM (l:List Oper)(is:List Nat):Bool:=is.all fun i=>((l[i]?).map aB2).getD false
theorem mL {l:List Oper}{K:Act→World→Prop}{Qa:Act→Prop}{rest:List (Bool × Nat)}{w:World}(hrest:∀a',Qa a'→qB P l.toArray S K rest a' w) :
  ∀(qs:List Nat) (a:Act),zM l qs=true→wpQuiet P l.toArray (InS S) Qa (pick l qs) a→qB P l.toArray S K (qs.map (true,·)++rest) a w
 | [],a,_,h=>hrest a h
 | i :: qs,a,hB,h=>by
  simp only[zM,List.all_cons,Bool.and_eq_true]at hB;obtain⟨h1,h2⟩:=hB;cases ho:l[i]? with
  | none=>simp[ho]at h1
  | some o =>
   simp only[ho,Option.map_some,Option.getD_some]at h1;have hp:pick l (i :: qs)=o :: pick l qs:=by simp[pick,ho]
   rw[hp]at h
   unfold wpQuiet at h;simp only[List.map_cons,List.cons_append];unfold qB;simp only[List.getElem?_toArray,ho];by_cases hw:Region.wanted o (yielded l.toArray a.tmps)=true
   ·simp only[hw,if_true]at h ⊢;obtain⟨v,hv,hk⟩:=h;refine⟨v,fun u hu=>?_,mL hrest qs _ h2 hk⟩;have:=hv u ⟨⟨u,hu⟩,rfl⟩;unfold Oper.quietAt at this;cases hr:(execOp a.eval o).run P u with
    | ok x w' =>
     obtain⟨v',rfl⟩:=aGc h1 a.eval P u x w' hr;rw[hr]at this
     simp only[Oper.quietUpon]at this;rw[this.1,this.2]
    | halt x w'=>rw[hr]at this;simp[Oper.quietUpon]at this
   ·simp only[hw]at h ⊢;exact mL hrest qs _ h2 h
def aBS (l:List Oper):List (List Nat × Nat)→List Nat→Bool
 | [],last=>zM l last
 | (qs,i) :: rest,last=>zM l qs&&(l[i]?).isSome&&aBS l rest last
theorem wX {l:List Oper}{K:Act→World→Prop}{last:List Nat} :
  ∀(sg:List (List Nat × Nat)) (a:Act) (w:World),aBS l sg last=true→aCB P l.toArray S l K sg last a w→qB P l.toArray S K (nF sg last) a w
 | [],a,w,hB,h=>by
  have:=mL (K:=K) (rest:=[]) (w:=w) (fun a' h'=>h') last a hB h;simpa [nF]using this
 | (qs,i) :: rest,a,w,hB,h=>by
  simp only[aBS,Bool.and_eq_true]at hB;obtain⟨⟨h1,h2⟩,h3⟩:=hB;obtain⟨o,ho⟩:=Option.isSome_iff_exists.1 h2;refine mL (K:=K) (rest:=(false,i) :: nF rest last) (w:=w) (fun a' h'=>?_) qs a h1 h;have hk:=h' (fun e a2 w2=>e=.normal∧S w2∧qB P l.toArray S K (nF rest last) a2 w2) (fun a2 w2 hs hg=>⟨rfl,hs,wX rest a2 w2 h3 hg⟩);have hp:pick l [i]=[o]:=by simp[pick,ho]
  rw[hp]at hk
  unfold qB;simp only[List.getElem?_toArray,ho];unfold wpList at hk;by_cases hw:Region.wanted o (yielded l.toArray a'.tmps)=true
  ·simp only[hw,if_true,Bool.false_eq_true,if_false]at hk ⊢;rcases hk with hk|⟨_,_,_,hx,_⟩
   ·unfold Oper.wp at *
    generalize (execOp a'.eval o).run P w=r at *
    cases r with
    | ok n w' =>
     cases n<;>simp only[Oper.upon,wpList]at hk ⊢
     case value v=>exact hk.2
     case skip=>exact hk.2
     case defer d=>exact hk.2
     case enter f args =>
      exact hk.mono fun e w'' he=>by
       cases e with
       | returned v=>exact he.2
       | panicked c=>cases he.1
       | outgrown=>obtain⟨_,_,hx,_⟩:=he;cases hx
     case row row args=>exact hk.mono fun v w'' he=>he.2
    | halt x w'=>cases x<;>simp only[Oper.upon]at hk ⊢;cases hk.1
   ·cases hx
  ·simp only[hw]at hk ⊢;exact hk.2.2
theorem dI {id:Nat}{a:Act}{w:World}{l:List Oper}(n:Nat)(sg:List (List Nat × Nat))(last:List Nat)(S:World→Prop)(hm:P.follows .mixedOrders=true)
  (hB:(aBS l sg last&&(Region.noSelect l.toArray&&Region.sinkB .any l.toArray n&&Region.chainB .any l.toArray n&&decide (n<l.length)&&decide ((nF sg last).length=n)&&xW .any l.toArray n (nF sg last) (Array.replicate l.length false)))=true)
  (hS:S (w.drewN 1)) (h:aCB P l.toArray S l (fun a' w'=>∀Q',(∀a w,Q .normal a w→Q' .normal a w)→wpList P l.toArray Q' (l.drop n) a' w') sg last a (w.drewN 1)):(Code.region id l.toArray true).wp P Q a w:=by
 simp only[Bool.and_eq_true (a:=aBS l sg last)]at hB;exact aFX n (nF sg last) S hm hB.2 hS (wX sg a _ hB.1 h)
end
open Go.RowKit Go.Sort
theorem uA (E:Nat)(h:E≤2047):bits .and .i64 (E:Int) 2047=E:=by
 have:=zR E 2047 (by omega) (by omega);rw[show(2047:Nat)=2^11-1 from rfl,Nat.and_two_pow_sub_one_eq_mod]at this
 rw[Nat.mod_eq_of_lt (by omega)]at this
 exact this
theorem aDI (b:Nat)(h:b<18446744073709551616):bits .and .u64 (b:Int) 4503599627370495=((b%4503599627370496:Nat):Int):=by
 have:=u64_and_nat b 4503599627370495 h (by omega);rw[show(4503599627370495:Nat)=2^52-1 from rfl,Nat.and_two_pow_sub_one_eq_mod]at this
 exact this
theorem aPX (f:Nat)(h:f<4503599627370496):bits .or .u64 (f:Int) 4503599627370496=((4503599627370496+f:Nat):Int):=by
 have:=u64_or_nat f 4503599627370496 (by omega) (by omega);rw[show f ||| 4503599627370496=4503599627370496+f from by
  rw[Nat.or_comm];have:=Nat.two_pow_add_eq_or_of_lt (i:=52) (b:=f) (by simpa using h) 1;simpa using this.symm]at this
 exact this
def rE:Array Value:=#[Value.int .u8 0,Value.int .u8 0,Value.int .u8 0,Value.int .u8 0,Value.int .u8 0,Value.int .u8 0,Value.int .u8 0,Value.int .u8 0,Value.int .u8 0,Value.int .u8 0,Value.int .u8 0,Value.int .u8 0,Value.int .u8 0,Value.int .u8 0,Value.int .u8 0,Value.int .u8 0,Value.int .u8 0,Value.int .u8 0,Value.int .u8 0,Value.int .u8 0,Value.int .u8 0,Value.int .u8 0,Value.int .u8 0,Value.int .u8 0,Value.int .u8 0,Value.int .u8 0,Value.int .u8 0,Value.int .u8 0,Value.int .u8 0,Value.int .u8 0,Value.int .u8 0,Value.int .u8 0]
theorem aIm:rE=Array.replicate 32 (.int .u8 0):=rfl
theorem aGv (w:World)(T:TypeId):Holds (fun(b:UInt8)=>Value.int .u8 (b.toNat:Int)) (w.alloc (.cells rE T)) w.heap.size 0 (Array.replicate 32 (0:UInt8)):=fun j hj=>by
 have hj':j<32:=by simpa using hj
 refine⟨?_,World.frozen?_alloc_new _ _ _ _⟩;rw[World.cell?_alloc_new,getElem!_pos _ j hj];rw[aIm];simp[hj']
theorem Holds.below {w w':World}{B g:Nat}{d:Array UInt8}(h:Holds (fun(b:UInt8)=>Value.int .u8 (b.toNat:Int)) w g 0 d)(hb:Below B w w')(hg:g<B):Holds (fun(b:UInt8)=>Value.int .u8 (b.toNat:Int)) w' g 0 d:=fun j hj=>by
 have:=h j hj;rw[hb.cell (by exact hg),hb.frozen (by exact hg)];exact this
theorem Holds.drewN {w:World}{g:Nat}{d:Array UInt8}(h:Holds (fun(b:UInt8)=>Value.int .u8 (b.toNat:Int)) w g 0 d)(n:Nat):Holds (fun(b:UInt8)=>Value.int .u8 (b.toNat:Int)) (w.drewN n) g 0 d :=
 Holds.below (B:=g+1) h ⟨rfl,rfl,rfl,Nat.le_refl _,fun _ _=>rfl⟩ (by omega)
theorem aKo {α : Type}{P:List α → Prop}(h0:P [])(h1:∀l a,P l→P (l++[a]))(l:List α):P l:=by
 rw[←List.reverse_reverse l];generalize l.reverse=r;induction r with
 | nil=>exact h0
 | cons a r ih=>rw[List.reverse_cons];exact h1 _ _ ih
theorem aKz (l:List UInt8)(h:bN l=0):∀c∈l,c=48:=by
 induction l using aKo with
 | h0=>intro c hc;cases hc
 | h1 l c ih =>
  rw[lT]at h
  split at h
  ·rename_i h48;intro x hx;rcases List.mem_append.1 hx with h1|h1
   ·exact ih h x h1
   ·rw[List.mem_singleton.1 h1,h48]
  ·omega
theorem aLi (d:Nat)(h:1≤d):∃c∈Lib.decDigits d,c≠48:=by
 induction d using Nat.strongRecOn with
 | _ d ih =>
  rw[Lib.decDigits];split
  ·rename_i h10;refine⟨_,List.mem_singleton.2 rfl,?_⟩;intro e;have:=congrArg UInt8.toNat e;rw[UInt8.toNat_ofNat_of_lt' (by show _<256;omega)]at this
   have h48:(48:UInt8).toNat=48:=rfl;omega
  ·obtain⟨c,hc,hn⟩:=ih (d / 10) (by omega) (by omega);exact⟨c,List.mem_append_left _ hc,hn⟩
theorem wB (d:Nat)(h:1≤d):1≤bN (Lib.decDigits d):=by
 rcases Nat.lt_or_ge 0 (bN (Lib.decDigits d))with h1|h1
 ·exact h1
 ·exfalso;obtain⟨c,hc,hn⟩:=aLi d h;exact hn (aKz _ (by omega) c hc)
theorem yN (g d k:Nat)(p:Int)(N:Nat)(w:World)(hH:Holds (fun(b:UInt8)=>Value.int .u8 (b.toNat:Int)) w g 0 (Array.replicate 32 0))(hd1:1≤d)(hd:d<18446744073709551616)(hN:Lib.nDigits d=N)(p1:-2000≤p)(p2:p≤2000)(hk:bN (Lib.decDigits d)=k+1) :
  Calls Tryz.prog 259 #[.slice (some ⟨g,0,none⟩) 32 32,.int .u64 d,.int .i64 p,.int .i64 N] w
   fun e w'=>e=.returned (.tuple #[.int .i64 (N+p),.int .i64 ((k:Int)+1)])∧IsB w' (some ⟨g,0,none⟩) (Lib.decDigits d)∧aD (· = g) w w':=by
 have:=wH g d 32 p N w hH (by omega) hd1 hd hN p1 p2;rw[hk]at this
 exact this
theorem Out.first {w w3 w':World}{B:Nat}{S:Nat→Prop}{ad:Option Addr}{c:Nat}{bs:List UInt8}(hk:aD (fun _=>False) w w3)(h:Out w3 w' B S ad c bs):Out w w' B S ad c bs :=
 ⟨h.own,(hk.mono (fun _ _ h=>h.elim)).trans h.kept,fun y hy=>(h.lies y hy).imp id (fun e=>Nat.le_trans hk.size e),h.base⟩
theorem Out.later {w w3:World}{B:Nat}{S:Nat→Prop}{ad:Option Addr}{c:Nat}{bs:List UInt8}(h:Out w w B S ad c bs)(hk:aD (fun i=>w.heap.size≤i) w w3):Out w3 w3 B S ad c bs :=
 ⟨h.own.kept hk (fun y hy e=>by have:=(h.own.at y hy).2;omega),aD.refl _ _,fun y hy=>.inl ((h.lies y hy).resolve_right (by have:=(h.own.at y hy).2;omega)),Nat.le_trans h.base hk.size⟩
theorem aK3 (f:Nat)(h:f<4503599627370496):Lib.bitLen (4503599627370496+f)=53:=by
 obtain⟨h1,h2,h3⟩:=Lib.bitLenAux_bounds 64 (4503599627370496+f) (by omega) (by omega);have e1:Lib.bitLen (4503599627370496+f)=Lib.bitLenAux 64 (4503599627370496+f):=rfl;rw[e1];generalize Lib.bitLenAux 64 (4503599627370496+f)=L at *
 rcases Nat.lt_trichotomy L 53 with h4|h4|h4
 ·exfalso;have:2^L≤2^52:=Nat.pow_le_pow_right (by omega) (by omega);omega
 ·exact h4
 ·exfalso;have:2^53≤2^(L-1):=Nat.pow_le_pow_right (by omega) (by omega);omega
theorem aMQ (f:Nat)(w:World)(h:f<4503599627370496):Calls Tryz.prog 191 #[.int .u64 ((4503599627370496+f:Nat):Int)] w fun e w'=>e=.returned (.int .i64 53)∧w=w':=by
 refine(Tryz.bits_Len64 _ _ (by omega) (by omega)).mono ?_;rintro e w' ⟨rfl,rfl⟩;have:Lib.bitLen ((4503599627370496+f:Nat):Int).toNat=53:=by rw[Int.toNat_natCast];exact aK3 f h
 rw[this];exact⟨rfl,rfl⟩
theorem aFH (w:World)(B:Nat)(ad:Option Addr)(c:Nat)(S:Nat→Prop)(b E f d:Nat)(p:Int)(hO:Out w w B S ad c [])(T:aA w)
  (hb:b<9223372036854775808) (hE:b / 4503599627370496=E) (hf:b%4503599627370496=f) (E1:1≤E) (E2:E≤2046) (f1:f<4503599627370496)
  (hS:∀k,S k→k<w.heap.size)
  (SF:∀w',aA w'→Calls Tryz.prog 265 #[.int .u64 ((4503599627370496+f)*2048:Nat),.int .i64 ((E:Int)-1086)] w' fun e' w2=>e'=.returned (.tuple #[.int .u64 d,.int .i64 p])∧Below w'.heap.size w' w2)
  (hd1:1≤d) (hd:d<18446744073709551616) (p1:-900≤p) (p2:p≤900) :
  Calls Tryz.prog 228 #[.slice ad 0 c,.float .f64 b,.int .u8 101,.int .i64 (-1)] w (tU w B S (eN ((Lib.decDigits d).take (bN (Lib.decDigits d))) ((Lib.nDigits d:Int)+p-1))):=by
 have a1:=uA E (by omega);have a2:=aDI b (by omega);rw[hf]at a2
 have a3:=aPX f f1;have g1:((E:Int)==2047)=false:=beq_eq_false_iff_ne.2 (by omega);have g2:((E:Int)==0)=false:=beq_eq_false_iff_ne.2 (by omega);have g3:(b:Int) / 4503599627370496=E:=by omega
 have g4:((b:Int) / 9223372036854775808 !=0)=false:=bne_eq_false_iff_eq.2 (by omega);have L53:=fun w=>aMQ f w f1
 obtain⟨M,hM⟩:∃M,M=4503599627370496+f:=⟨_,rfl⟩
 rw[←hM]at a3 L53 SF
 have g5:((M:Int)==0)=false:=beq_eq_false_iff_ne.2 (by omega);have m2:M<9007199254740992:=by omega
 have m3:((M*2048:Nat):Int)=(M:Int)*2048:=by omega
 have m4:(E:Int)-1086=(E:Int)+-1023-11-52:=by omega
 rw[m3,m4]at SF
 have HL:=hid L53;have d85:=aD7;have HO:=hid hO;have HT:=hid T;have HSF:=hid SF;have HSS:=hid hS;clear hO T SF hE hf hS hM L53 m3 m4 f1 E1;go_enter Tryz.func228,Tryz.ntmps228
 go_wp2_with fail
 go_quiet (fail)
 go_wp2_with (go_at_call 191;((with_reducible refine(HL.out _).mono ?_);rintro e w' ⟨rfl,rfl⟩))
 obtain⟨g,hg⟩:∃g,g=w.heap.size:=⟨_,rfl⟩
 obtain⟨W,hW⟩:∃W,W=(w.drewN nq).alloc (.cells rE 251):=⟨_,rfl⟩
 have bW:Below w.heap.size w W:=by rw[hW];exact((Below.refl w.heap.size w).trans ⟨rfl,rfl,rfl,Nat.le_refl _,fun _ _=>rfl⟩:Below w.heap.size w (w.drewN nq)).alloc sQ _
 have sW:W.heap.size=g+1:=by rw[hW,hg];simp
 have hH:Holds (fun(b:UInt8)=>Value.int .u8 (b.toNat:Int)) W g 0 (Array.replicate 32 (0:UInt8)):=by rw[hW,hg];exact aGv (w.drewN nq) 251
 have TW:=HT.out.below bW sQ;have hW2:=hW;unfold rE at hW2;rw[←hW2,←hg];clear hW hW2;refine(HSF.out W TW).mono ?_;rintro e1 w2 ⟨rfl,B2⟩;have H2:Holds (fun(b:UInt8)=>Value.int .u8 (b.toNat:Int)) w2 g 0 (Array.replicate 32 (0:UInt8)):=Holds.below hH B2 (by omega);have b2:Below w.heap.size w w2:=bW.trans (B2.mono (by omega));have s2:g<w2.heap.size:=by have:=B2.size;omega
 have T2:=HT.out.below b2 sQ;have n20:=gM d hd;have n1:=Lib.nDigits_pos d;obtain⟨N,hN⟩:∃N,Lib.nDigits d=N:=⟨_,rfl⟩
 rw[hN]at n20 n1
 have ND:=fun(w:World) (h:Lib.TabIs Tryz.prog w "internal/strconv.uint64pow10" .u64 Lib.pow10Tab)=>Tryz.internal_strconv_numDigits d hd1 hd w h
 rw[hN]at ND
 have HGG:=hid hg;clear hg;have ht1:=wB d hd1;have ht2:bN (Lib.decDigits d)≤N:=by have:=iU (Lib.decDigits d);rw[Lib.decDigits_length,hN]at this;exact this
 obtain⟨k,hk⟩:∃k,bN (Lib.decDigits d)=k+1:=⟨bN (Lib.decDigits d)-1,by omega⟩
 have k20:k≤19:=by omega
 have hmx:max (k:Int) 0=k:=by omega
 have HKK:=hid hk;clear ht1 ht2 hk;have HH2:=hid H2;have HB2:=hid b2;have HT2:=hid T2;have HN:=hid hN;have HND:=hid ND;clear hH B2 H2 b2 T2 TW bW sW hN ND;go_wp2_with fail
 obtain⟨C,hC⟩:∃C:World→Prop,∀u,C u:=⟨fun _=>True,fun _=>trivial⟩
 haveI:Nonempty (WIn C):=⟨⟨w2,hC _⟩⟩
 refine dI 10 [([0,1,2,3],4),([],5)] [6,7,8,9] C (by kernel_rfl) (by kernel_rfl) (hC _) ?_;refine bE (fun K' hK'=>?_);simp only[pick,pickZ,pickS,pickG];repeat (go_big_quiet_step (fail))
 refine wpQuiet_nil (hK' _ (fun Q1 hQ1=>?_));clear hK' K';simp only[pick,pickZ,pickS,pickG];go_wp2_with fail
 refine(HND.out _ (HT2.out.drewN 1).u10).mono ?_;rintro e w3 ⟨rfl,hw3⟩;subst hw3;go_wp2_with fail
 refine hQ1 _ _ (hC _) (bE (fun K' hK'=>wpQuiet_nil (hK' _ (fun Q2 hQ2=>?_))));clear hK' K' hQ1 Q1;simp only[pick,pickZ,pickS,pickG];go_wp2_with fail
 refine(yN g d k p N (w2.drewN 1) (Holds.drewN HH2.out 1) hd1 hd HN.out (by omega) (by omega) HKK.out).mono ?_;rintro e w3 ⟨rfl,S3,K3⟩;have HS3:=hid S3;have HK3:=hid K3;clear S3 K3;go_wp2_with fail
 refine hQ2 _ _ (hC _) (dP (fun K' hK'=>?_));clear hQ2 Q2;simp only[pick,pickZ,pickS,pickG];repeat (go_big_quiet_step (fail))
 refine wpQuiet_nil (hK' _ (fun Q3 hQ3=>?_));clear hK' K';simp only[List.drop_succ_cons,List.drop_zero];go_wp2_with fail
 have K03:aD (fun i=>w.heap.size≤i) w w3:=(aD.of_below HB2.out).trans ((((aD.refl (· = g) w2).drewN 1).trans HK3.out).mono (fun i _ e=>by have:=HGG.out;omega));have K03f:aD (fun _=>False) w w3:=K03.mono (fun i hi e=>by omega);have O3:=HO.out.later K03;have S3':IsB w3 (some ⟨g,0,none⟩) ((Lib.decDigits d).take (k+1)):=HS3.out.take (k+1);have hl3:((Lib.decDigits d).take (k+1)).length=k+1:=by
  have:=HKK.out;have:=iU (Lib.decDigits d);rw[List.length_take];omega
 have hz3:g<w3.heap.size:=by have:=HK3.out.size;simp at this;omega
 refine(aI6 w3 B g k ad c S _ ((N:Int)+p) O3 S3' (fun e=>by have:=HSS.out g e;have:=HGG.out;omega) hz3 hl3 (by omega) (by omega) (by omega)).mono ?_;rintro e w4 ⟨ad4,c4,rfl,O4⟩;go_wp2
 go_ret;refine⟨ad4,c4,?_,?_⟩
 ·rw[HKK.out,HN.out];rfl
 ·rw[HKK.out,HN.out];exact Out.first K03f O4
open Go.RowKit
def aAZ (b:Nat)(pr:Int)(txt:List UInt8):Prop :=
 ∀(w:World) (B:Nat) (ad:Option Addr) (c:Nat) (S:Nat→Prop),Out w w B S ad c []→aA w→(∀k,S k→k<w.heap.size)→Calls Tryz.prog 228 #[.slice ad 0 c,.float .f64 b,.int .u8 101,.int .i64 pr] w (tU w B S txt)
def lZ (b:Nat)(txt:List UInt8):Prop:=aAZ b (-1) txt
theorem aPO:∃Z:Array Value,Z.size=24∧∀w:World,(Instr.makeSlice 35 (.int .i64 0) (.int .i64 24)).run Tryz.prog w=.ok (.slice (some ⟨w.heap.size,0,none⟩) 0 24) (w.alloc (.cells Z 5)):=by
 obtain⟨i0,hi,hz0,hz1,hz2⟩:=info_parts aEo;refine⟨madeCells (Value.int .u8 0).cells (24*i0.size),?_,fun w=>?_⟩
 ·rw[hz1,aFl 24];simp
 ·exact run_make (P:=Tryz.prog) w 35 5 i0 (.int .u8 0) Tryz.underlying35 hi hz0 .i64 .i64 0 24 (by omega) (by omega) (by rw[hz2];omega) (by omega)
theorem aLy (b:Nat)(pr:Int)(txt:List UInt8)(w:World)(T:aA w)(p1:-1≤pr)(p2:pr≤20)(hF:aAZ b pr txt) :
  Calls Tryz.prog 200 #[.float .f64 b,.int .u8 101,.int .i64 pr,.int .i64 64] w fun e w'=>e=.returned (.string ⟨txt.toArray⟩)∧Below w.heap.size w w':=by
 obtain⟨Z,hZ,hmk⟩:=aPO;obtain⟨g,hg⟩:∃g,g=w.heap.size:=⟨_,rfl⟩
 obtain⟨W,hW⟩:∃W,W=w.alloc (.cells Z 5):=⟨_,rfl⟩
 have bW:Below w.heap.size w W:=by rw[hW];exact(Below.refl _ _).alloc sQ _
 have sW:W.heap.size=g+1:=by rw[hW,hg];simp
 have O1:Out W W g (· = g) (some ⟨g,0,none⟩) 24 []:=by
  refine⟨?_,aD.refl _ _,fun y hy=>.inl (by cases hy;rfl),by omega⟩;rw[hW,hg];exact World.ownsRow_made w Z 24 sQ (by unfold maxLen;omega) (by rw[hZ])
 have TW:=T.below bW sQ;have FT:=hF W g (some ⟨g,0,none⟩) 24 (· = g) O1 TW (fun k hk=>by omega);have ks:=fun(w:World) (x:Option Addr) (bs:List UInt8) (n c:Nat)=>pX (P:=Tryz.prog) w 35 5 9 Tryz.underlying35 Tryz.underlying5 Tryz.underlying9 x bs n c
 have HKS:=hid ks;have HFT:=hid FT;have HW:=hid hW;have HG:=hid hg;clear ks FT hF T TW O1 hW hg hZ sW;have mx:max (pr+4) 24=24:=by omega
 go_enter Tryz.func200,Tryz.ntmps200
 go_wp2_with fail
 rw[←HW.out,←HG.out];refine HFT.out.mono ?_;rintro e w2 ⟨ad2,c2,rfl,O2⟩;have k2:=HKS.out w2 ad2 txt txt.length c2 rfl O2.own.isB;have HO:=hid O2;clear O2;go_wp2
 go_ret;refine⟨rfl,?_⟩;have hg':=HG.out;exact bW.trans (HO.out.kept.below (by have:=bW.size;omega) (fun k _ e=>by omega))
theorem aEj (b:Nat)(pr:Int)(txt:List UInt8)(w:World)(T:aA w)(p1:-1≤pr)(p2:pr≤20)(hF:aAZ b pr txt) :
  Calls Tryz.prog 158 #[.float .f64 b,.int .u8 101,.int .i64 pr,.int .i64 64] w fun e w'=>e=.returned (.string ⟨txt.toArray⟩)∧Below w.heap.size w w':=by
 have HF:=hid hF;have HT:=hid T;clear hF T;go_enter Tryz.func158,Tryz.ntmps158
 go_wp2_with fail
 refine(aLy b pr txt _ HT.out p1 p2 HF.out).mono ?_;rintro e w2 ⟨rfl,B2⟩;have HB:=hid B2;clear B2;go_wp2
 go_ret;exact⟨rfl,HB.out⟩
structure lG (txt D:List UInt8) (x:Int) (hd tl:List UInt8):Prop where
 cut:Lib.cut txt [101]=(hd,tl,true)
 num:Lib.atoi tl=some x
 rep:Lib.replace hd [46] [] 1=D
 len:txt.length≤1000
 tlen:tl.length≤18
 hlen:hd.length≤1000
 cnt:Lib.countB ⟨hd.toArray⟩ ⟨#[46]⟩≤1000
 lo:-1000≤x
 hi:x≤1000
theorem dZ (l:List UInt8):(⟨l.toArray⟩:ByteArray).size=l.length:=rfl
theorem aPp (txt hd tl:List UInt8)(w:World)(T:aA w)(h:Lib.cut txt [101]=(hd,tl,true))(hl:txt.length≤1000) :
  Calls Tryz.prog 71 #[.string ⟨txt.toArray⟩,.string { data:=#[101] }] w fun e w'=>e=.returned (.tuple #[.string ⟨hd.toArray⟩,.string ⟨tl.toArray⟩,.bool true])∧∃n,w'=w.drewN n:=by
 obtain⟨m,hm⟩:=T.most;have:=Tryz.strings_Cut ⟨txt.toArray⟩ { data:=#[101] } m w (by rw[dZ];omega) hm;have e:Lib.cut (⟨txt.toArray⟩:ByteArray).data.toList ({ data:=#[101] }:ByteArray).data.toList=(hd,tl,true):=h;rw[e]at this
 exact this
theorem aGj (tl:List UInt8)(x:Int)(w:World)(h:Lib.atoi tl=some x)(hl:tl.length≤18) :
  Calls Tryz.prog 113 #[.string ⟨tl.toArray⟩] w fun e w'=>e=.returned (.tuple #[.int .i64 x,.nilIface])∧Below w.heap.size w w':=by
 refine(Tryz.strconv_Atoi ⟨tl.toArray⟩ x (by rw[aS];exact hl) h w).mono ?_;rintro e w' ⟨rfl,t,rfl⟩;exact⟨rfl,Lib.bytesWorld_below w 5 t⟩
theorem aHL (hd D:List UInt8)(w:World)(T:aA w)(h:Lib.replace hd [46] [] 1=D)(hl:hd.length≤1000)(_hc:Lib.countB ⟨hd.toArray⟩ ⟨#[46]⟩≤1000) :
  Calls Tryz.prog 133 #[.string ⟨hd.toArray⟩,.string { data:=#[46] },.string { data:=#[] },.int .i64 1] w fun e w'=>e=.returned (.string ⟨D.toArray⟩)∧Below w.heap.size w w':=by
 obtain⟨m,hm⟩:=T.most;have:=Tryz.strings_Replace ⟨hd.toArray⟩ { data:=#[46] } { data:=#[] } 1 m w (by rw[dZ];omega) hm (by show 1≤1;omega) (by
  have e:({ data:=#[] }:ByteArray).size=0:=rfl;rw[dZ,e];omega)
 have e:Lib.replace (⟨hd.toArray⟩:ByteArray).data.toList ({ data:=#[46] }:ByteArray).data.toList ({ data:=#[] }:ByteArray).data.toList 1=D:=h;rw[e]at this
 exact this
theorem kW (b:Nat)(txt D hd tl:List UInt8)(x:Int)(w:World)(T:aA w)(hF:lZ b txt)(hP:lG txt D x hd tl) :
  Calls Tryz.prog 114 #[.float .f64 b] w fun e w'=>e=.returned (.tuple #[.string ⟨D.toArray⟩,.int .i64 (x+1)])∧Below w.heap.size w w':=by
 have HF:=hid hF;have HT:=hid T;have HP:=hid hP;have x1:=hP.lo;have x2:=hP.hi;clear hF T hP;go_enter Tryz.func114,Tryz.ntmps114
 go_wp2_with fail
 refine(aEj b (-1) txt _ HT.out (by decide) (by decide) HF.out).mono ?_;rintro e w2 ⟨rfl,B2⟩;have HB2:=hid B2;have HT2:=hid (HT.out.below B2 sQ);clear B2;go_wp2_with fail
 refine(aPp txt hd tl _ HT2.out HP.out.cut HP.out.len).mono ?_;rintro e w3 ⟨rfl,n,rfl⟩;go_wp2_with fail
 refine(aGj tl x _ HP.out.num HP.out.tlen).mono ?_;rintro e w3 ⟨rfl,B3⟩;have B03:Below w.heap.size w w3:=(HB2.out.trans ⟨rfl,rfl,rfl,Nat.le_refl _,fun _ _=>rfl⟩:Below w.heap.size w (w2.drewN n)).trans (B3.mono HB2.out.size);have HB3:=hid B03;have HT3:=hid (HT.out.below B03 sQ);clear B3 B03;go_wp2_with fail
 refine(aHL hd D _ HT3.out HP.out.rep HP.out.hlen HP.out.cnt).mono ?_;rintro e w4 ⟨rfl,B4⟩;have HB4:=hid (HB3.out.trans (B4.mono HB3.out.size));clear B4;go_wp2
 go_ret2;exact⟨rfl,HB4.out⟩
end Go.Proofs.YtcfgbdhpcboikaaGreatDoor
