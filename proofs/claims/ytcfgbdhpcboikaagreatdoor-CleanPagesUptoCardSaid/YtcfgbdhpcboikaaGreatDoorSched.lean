/-
A region that draws its order, walked in one order of the prover's choice: quiet operations (they yield one value in every world that meets S, and leave it alone), loud ones between them (each comes up alone, and keeps S), then a forced tail, of which S is not asked.
-/
import Derived.Test.YtcfgbdhpcboikaaGreatDoorAa
import Derived.StillTail
import Derived.Deep.Quiet
import Derived.Deep.RegionHeld3
namespace Go.Proofs.YtcfgbdhpcboikaaGreatDoor
open Go
def xF (o:Oper):Bool :=
 match o.op with
 | .move _|.assign _|.pick .. | .load .. | .nilCheck _|.binOp .. | .unOp .. | .convert .. | .fieldAddr .. | .field .. | .indexAddr .. | .index .. | .slice .. | .extract .. | .lookup .. | .typeAssert .. => true
 | .call { callee:=.builtin b, .. }=>match b with|.len|.cap|.min|.max=>true|_=>false
 | _=>false
def bD (s:Sem Next):Prop:=∀(P:Program) (w:H) (n:Next) (w':H),s.run P w=.ok n w'->∃v,n=.value v
theorem bD.pure (v:Value):bD (Pure.pure (Next.value v)):=by
 intro P w n w' h;simp only[nc,Result.ok.injEq]at h;exact⟨v,h.1.symm⟩
theorem bD.bind {α : Type}{s:Sem α}{k:α -> Sem Next}(h:∀x,bD (k x)):bD (s >>= k):=by
 intro P w n w' hr;rw[m8]at hr;cases hs:s.run P w with|ok x w1=>{rw[hs]at hr;exact h x P w1 n w' hr}|halt x w1=>{rw[hs]at hr;simp[Result.andThen]at hr}
theorem bD.halt (x:Halt):bD (Sem.halt x):=by
 intro P w n w' h;simp[Sem.run]at h
theorem bD.panic (e:RuntimeError):bD (runtimePanic e):=by
 unfold runtimePanic;refine bD.bind fun p=>?_;cases e<;>first|exact bD.halt _|exact bD.bind fun _=>bD.bind fun _=>bD.halt _
theorem bD.bind' {α : Type}{s:Sem α}{k:α -> Sem Next}(h:∀(P:Program) w x w',s.run P w=.ok x w'->bD (k x)):bD (s >>= k):=by
 intro P w n w' hr;rw[m8]at hr;cases hs:s.run P w with|ok x w1=>{rw[hs]at hr;exact h P w x w1 hs P w1 n w' hr}|halt x w1=>{rw[hs]at hr;simp[Result.andThen]at hr}
theorem aBx {o:Oper}(h:xF o=true) (ρ : Operand->Value):bD (execOp ρ o):=by
 unfold execOp;unfold xF at h;cases ho:o.op<;>simp only[ho]at h<;>try (exact absurd h (by decide))
 all_goals try (exact bD.pure _)
 all_goals try (exact bD.bind fun _=>bD.pure _)
 case nilCheck x =>simp only[];split;(all_goals try (exact bD.pure _));(all_goals try (exact bD.panic _));split;(all_goals try (exact bD.pure _));(all_goals try (exact bD.panic _));refine bD.bind fun p=>bD.bind fun b=>?_;split;{exact bD.bind fun _=>bD.pure _};{exact bD.pure _}
 case call c =>obtain⟨callee,args,argTypes⟩:=c;cases callee<;>simp only[]at h<;>(try (exact absurd h (by decide)));rename_i b;refine bD.bind' (s:=resolve ρ { callee:=.builtin b,args,argTypes } o.type) (fun P w d w' hd=>?_);simp only[resolve,nc,Result.ok.injEq]at hd;rw[<-hd.1];cases b<;>simp only[]at h<;>first|exact absurd h (by decide)|exact bD.bind fun _=>bD.pure _
section
variable {P:Program} {ops:Array Oper} {md:Region.Mode} {S:H->Prop} {Q:Exit->Act->H->Prop}
def lZ (P:Program)(md:Region.Mode)(ops:Array Oper)(Q:Exit->Act->H->Prop)(S:H->Prop)(n:Nat)(L:Array Bool->Act->H->Prop):Nat->Array Bool->Act->H->Prop
 | 0,listed,a,w=>L listed a w
 | f+1,listed,a,w =>
  Region.ready md ops listed≠[]/\∀i∈Region.ready md ops listed,i<n/\wpOp P ops Q i (fun a' w'=>S w'/\lZ P md ops Q S n L f (listed.setIfInBounds i true) a' w') a w
theorem mF {n g:Nat}{L:Array Bool->Act->H->Prop}(c:∀b a w,L b a w->wpAny P md ops Q g b a w) :
  ∀(f:Nat) (b:Array Bool) (a:Act) (w:H),lZ P md ops Q S n L f b a w->wpAny P md ops Q (f+g) b a w
 | 0,b,a,w,h=>by rw[be];exact c _ _ _ h
 | f+1,b,a,w,h=>by
  rw[show f+1+g=(f+g)+1 by omega];exact⟨fun j=>absurd j h.1,fun i hi=>qk (fun d w' e=>mF c f _ d w' e.2) (h.2 i hi).2⟩
theorem qY {n i:Nat}{m:Oper}{v:Value}{L:Array Bool->Act->H->Prop}(hi:ops[i]?=some m)(M:∀(j:Nat) (o:Oper) cs b,ops[j]?=some o->o.op≠.select cs b)
  (V:∀c a w,Q (.panic c) (a.put m.dst v) w->Q (.panic c) a w)
  (K:Region.sinkB md ops n=true) (B:Region.chainB md ops n=true) (J:n<ops.size) (D:i<n)
  (aa:∀d a w,L d a w->∀j∈Region.ready md ops d,n<=j) :
  ∀(f:Nat) (d:Array Bool) (a:Act) (w:H),HeadInv md ops n d ->
   (∀j p,ops[j]?=some p->j≠i->d.getD j true=false->(∀e∈p.after,Region.binds md e=true->e.on≠i)->m.apart ops p=true) ->
   i∈Region.ready md ops d->YieldsIf P ops S m v a->S w ->
   lZ P md ops Q S n L f (d.setIfInBounds i true) (a.put m.dst v) w->lZ P md ops Q S n L (f+1) d a w:=by
 intro f;induction f with
 | zero =>
  intro d a w z _ hr y r q;have x:=(ij.1 hr).1;refine⟨fun h=>(by rw[h]at hr;cases hr),fun j l=>?_⟩;have u:j<n:=by
   rcases ak j n with h|h
   ·exact h
   ·exact absurd l (tail_waits K B J z _ i rfl D x j h)
  refine⟨u,?_⟩;by_cases g:j=i
  ·subst g;exact y.wpOp hi r ⟨r,q⟩
  ·have:=aa _ _ _ q j (jg l g);omega
 | succ f ih =>
  intro d a w z C hr y r q;have x:=(ij.1 hr).1;refine⟨fun h=>(by rw[h]at hr;cases hr),fun j l=>?_⟩;have u:j<n:=by
   rcases ak j n with h|h
   ·exact h
   ·exact absurd l (tail_waits K B J z _ i rfl D x j h)
  refine⟨u,?_⟩;by_cases g:j=i
  ·subst g;exact y.wpOp hi r ⟨r,q⟩
  ·have s:=(q.2 j (jg l g)).2;obtain⟨F,p,A,W⟩:=ij.1 l;have an:∀e∈p.after,Region.binds md e=true->e.on≠i:=fun e he X ab=>by
    have s:=W e he X;rw[ab,oq x]at s
    cases s
   have T:=wpOp_putIf A (C j p A g F an) (fun cs b=>M i m cs b hi) (fun cs b=>M j p cs b A) V y s;have ad:∀k ok,ops[k]?=some ok->k≠i->(d.setIfInBounds j true).getD k true=false ->
     (∀e∈ok.after,Region.binds md e=true->e.on≠i)->m.apart ops ok=true:=fun k ok hk ah N al=>by
    refine C k ok hk ah ?_ al;by_cases E:j=k
    ·subst E;exact F
    ·rw[tj true E]at N;exact N
   refine qk (fun R w' t=>⟨t.2.1,ih (d.setIfInBounds j true) R w' (z.set l u) ad (jg hr (ii g)) t.1 t.2.1 ?_⟩) T;rw[tm _ _ g];exact t.2.2
def aAr (md:Region.Mode)(ops:Array Oper)(n:Nat):List (Bool × Nat)->Array Bool->Bool
 | [],listed=>Region.seqB md ops (ops.size-n) n listed
 | (q,i) :: r,listed =>
  decide (i<n)&&(if q then (Region.ready md ops listed).contains i&&Region.free md ops listed i&&((ops[i]?).map xF).getD false else decide (Region.ready md ops listed=[i])) &&
   aAr md ops n r (listed.setIfInBounds i true)
def sF (P:Program)(ops:Array Oper)(S:H->Prop)(K:Act->H->Prop):List (Bool × Nat)->Act->H->Prop
 | [],a,w=>K a w
 | (q,i) :: r,a,w =>
  match ops[i]? with
  | none=>False
  | some o =>
   if Region.wanted o (yielded ops a.tmps)then
    if q then ∃v,(∀u,S u->(execOp a.eval o).run P u=.ok (.value v) u)/\sF P ops S K r (a.put o.dst v) w
    else o.wp P a w (fun a' w'=>S w'/\sF P ops S K r a' w') (fun _ _ _=>False)
   else sF P ops S K r (a.put o.dst undef) w
theorem aAP {P:Program}{o:Oper}{a:Act}{w:H}{K:Act->H->Prop}{Q:Exit->Act->H->Prop}(h:o.wp P a w K (fun _ _ _=>False)):o.wp P a w K Q:=by
 unfold Oper.wp at *;generalize (execOp a.eval o).run P w=r at *;cases r with|ok n w'=>{cases n<;>simp only[Oper.upon]at h ⊢ <;> (first|exact h|skip);exact h.mono fun e d b=>by{cases e with|returned v=>exact b|panicked c=>exact b.elim|outgrown=>{obtain⟨_,_,h⟩:=b;exact h.elim}}}|halt x w'=>{cases x<;>simp only[Oper.upon]at h ⊢}
theorem lQ {n:Nat}{K:Act->H->Prop}(s:Region.noSelect ops=true)(g:∀c d v (a:Act) w,Q (.panic c) (a.put d v) w->Q (.panic c) a w)
  (p:Region.sinkB md ops n=true) (k:Region.chainB md ops n=true) (m:n<ops.size) :
  ∀(l:List (Bool × Nat)) (listed:Array Bool) (a:Act) (w:H),HeadInv md ops n listed->aAr md ops n l listed=true->S w->sF P ops S K l a w ->
   lZ P md ops Q S n (fun u t w'=>Region.seqB md ops (ops.size-n) n u=true/\K t w') l.length listed a w
 | [],listed,a,w,_,hB,_,h=>⟨hB,h⟩
 | (q,i) :: r,listed,a,w,inv,hB,hS,h=>by
  simp only[aAr,bt,bm]at hB;obtain⟨⟨b,hq⟩,x⟩:=hB;unfold sF at h;cases ho:ops[i]? with
  | none=>simp only[ho]at h
  | some o =>
   simp only[ho]at h;cases q with
   | true =>
    simp only[fa,bt,ho,mq,mf]at hq h;obtain⟨⟨hr,A⟩,J⟩:=hq;have e:i∈Region.ready md ops listed:=by simpa using hr
    have z:∀u (t:Act) (w':H),(Region.seqB md ops (ops.size-n) n u=true/\K t w')->∀j∈Region.ready md ops u,n<=j:=fun u t w' E=>seqB_ready E.1
    by_cases f:Region.wanted o (yielded ops a.tmps)=true
    ·simp only[f,fa]at h;obtain⟨v,C,D⟩:=h;exact qY ho (kh s) (fun c a w=>g c _ _ a w) p k m b z r.length listed a w inv (ki ho A) e (.inl ⟨f,C⟩) hS
      (lQ s g p k m r _ _ _ (inv.set e b) x hS D)
    ·simp only[f]at h;exact qY ho (kh s) (fun c a w=>g c _ _ a w) p k m b z r.length listed a w inv (ki ho A) e (.inr ⟨by simpa using f,rfl⟩) hS
      (lQ s g p k m r _ _ _ (inv.set e b) x hS h)
   | false =>
    simp only[f9,gc,bm]at hq h;have e:i∈Region.ready md ops listed:=by rw[hq];simp
    refine⟨by rw[hq];simp,fun j B=>?_⟩;rw[hq]at B
    have F:j=i:=by simpa using B
    subst F;refine⟨b,?_⟩;unfold wpOp;simp only[ho];by_cases f:Region.wanted o (yielded ops a.tmps)=true
    ·simp only[f,fa]at h ⊢;refine .inl (Oper.wp_mono (fun t w' y=>⟨y.1,lQ s g p k m r _ _ _ (inv.set e b) x y.1 y.2⟩) (aAP h))
    ·simp only[f]at h ⊢;exact⟨hS,lQ s g p k m r _ _ _ (inv.set e b) x hS h⟩
theorem aHt {C:Nat}{a:Act}{w:H}{l:List Oper}(n:Nat)(b:List (Bool × Nat))(S:H->Prop)(s:P.follows .mixedOrders=true)
  (f:(Region.noSelect l.toArray&&Region.sinkB .any l.toArray n&&Region.chainB .any l.toArray n&&decide (n<l.length)&&decide (b.length=n)&&aAr .any l.toArray n b (Array.replicate l.length false))=true)
  (q:S (w.drewN 1)) (h:sF P l.toArray S (fun e w'=>∀Q',(∀a w,Q .normal a w->Q' .normal a w)->wpList P l.toArray Q' (l.drop n) e w') b a (w.drewN 1)):(Code.region C l.toArray true).wp P Q a w:=by
 simp only[bt,bm]at f;obtain⟨⟨⟨⟨⟨A,z⟩,r⟩,u⟩,hlen⟩,y⟩:=f;refine tq ?_;have x:n<l.toArray.size:=by simpa using u
 have D:HeadInv .any l.toArray n (Array.replicate l.toArray.size false) :=
  ⟨by simp,fun j F _ m=>(by rw[mw]at m;cases m),fun t _ B=>getD_in (by simpa using B) (mw _ _)⟩
 have k:(l.drop n).length=l.toArray.size-n:=by simp
 have o:=lQ (P:=P) (Q:=NoPanic Q) (md:=.any) (S:=S) A (fun c d v a w h=>h) z r x b _ a _ D (by simpa using y) q h;refine ts s ?_;have:=mF (Q:=NoPanic Q) (g:=l.toArray.size-n) (fun E e w' i=>by
  have p:=i.2 (NoPanic Q) (fun _ _ h=>h);have:=tt (md:=.any) (Q':=NoPanic Q) (l.drop n) n E e w' (fun j=>by simp[List.getElem?_drop]) (by rw[k];exact i.1) p;rwa[k]at this) _ _ _ _ o
 rw[hlen,show n+(l.toArray.size-n)=l.toArray.size by omega]at this
 exact this
structure WIn (S:H->Prop) where
 w:H
 h:S w
@[reducible] def InS (S:H->Prop):H->Prop:=fun u=>∃s:WIn S,u=s.w
theorem pickZ {α:Type}{a:α}{r:List α}:(a::r)[0]?=some a:=nj
theorem pickS {α:Type}{a:α}{r:List α}{i:Nat}:(a::r)[i+1]?=r[i]?:=ni
theorem pickG {α:Type}{a b:α}:(some a).getD b=a:=mf
def pick (l:List Oper):List Nat->List Oper
 | []=>[]
 | i :: r=>(l[i]?).getD default :: pick l r
def aD2 (P:Program)(ops:Array Oper)(S:H->Prop)(l:List Oper)(K:Act->H->Prop):List (List Nat × Nat)->List Nat->Act->H->Prop
 | [],last,a,w=>wpQuiet P ops (InS S) (fun a'=>K a' w) (pick l last) a
 | (qs,i) :: rest,last,a,w =>
  wpQuiet P ops (InS S) (fun a'=>∀Q':Exit->Act->H->Prop,(∀a2 w2,S w2->aD2 P ops S l K rest last a2 w2->Q' .normal a2 w2)->wpList P ops Q' (pick l [i]) a' w) (pick l qs) a
theorem bT {l:List Oper}{K:Act->H->Prop}{g:List Nat}{i:Nat}{rest:List (List Nat × Nat)}{f:List Nat}{a:Act}{w:H}
  (h:∀c:Act->Prop,(∀d,(∀Q':Exit->Act->H->Prop,(∀e b,S b->aD2 P ops S l K rest f e b->Q' .normal e b)->wpList P ops Q' (pick l [i]) d w)->c d)->wpQuiet P ops (InS S) c (pick l g) a) :
  aD2 P ops S l K ((g,i) :: rest) f a w:=h _ (fun _ h=>h)
theorem iH {l:List Oper}{K:Act->H->Prop}{d:List Nat}{a:Act}{w:H}
  (h:∀b:Act->Prop,(∀c,K c w->b c)->wpQuiet P ops (InS S) b (pick l d) a):aD2 P ops S l K [] d a w:=h _ (fun _ h=>h)
def oZ:List (List Nat × Nat)->List Nat->List (Bool × Nat)
 | [],last=>last.map (true,·)
 | (qs,i) :: rest,last=>qs.map (true,·)++(false,i) :: oZ rest last
def lU (l:List Oper)(is:List Nat):Bool:=is.all fun i=>((l[i]?).map xF).getD false
theorem oI {l:List Oper}{K:Act->H->Prop}{d:Act->Prop}{rest:List (Bool × Nat)}{w:H}(c:∀e,d e->sF P l.toArray S K rest e w) :
  ∀(qs:List Nat) (a:Act),lU l qs=true->wpQuiet P l.toArray (InS S) d (pick l qs) a->sF P l.toArray S K (qs.map (true,·)++rest) a w
 | [],a,_,h=>c a h
 | i :: qs,a,hB,h=>by
  simp only[lU,List.all_cons,bt]at hB;obtain⟨b,f⟩:=hB;cases ho:l[i]? with
  | none=>simp[ho]at b
  | some o =>
   simp only[ho,mq,mf]at b;have k:pick l (i :: qs)=o :: pick l qs:=by simp[pick,ho]
   rw[k]at h
   unfold wpQuiet at h;simp only[co,dh];unfold sF;simp only[ld,ho];by_cases g:Region.wanted o (yielded l.toArray a.tmps)=true
   ·simp only[g,fa]at h ⊢;obtain⟨v,n,j⟩:=h;refine⟨v,fun u m=>?_,oI c qs _ f j⟩;have:=n u ⟨⟨u,m⟩,rfl⟩;unfold Oper.quietAt at this;cases hr:(execOp a.eval o).run P u with
    | ok x w' =>
     obtain⟨v',rfl⟩:=aBx b a.eval P u x w' hr;rw[hr]at this
     simp only[Oper.quietUpon]at this;rw[this.1,this.2]
    | halt x w'=>rw[hr]at this;simp[Oper.quietUpon]at this
   ·simp only[g]at h ⊢;exact oI c qs _ f h
def aDj (l:List Oper):List (List Nat × Nat)->List Nat->Bool
 | [],last=>lU l last
 | (qs,i) :: rest,last=>lU l qs&&(l[i]?).isSome&&aDj l rest last
theorem aAf {l:List Oper}{K:Act->H->Prop}{g:List Nat} :
  ∀(s:List (List Nat × Nat)) (a:Act) (w:H),aDj l s g=true->aD2 P l.toArray S l K s g a w->sF P l.toArray S K (oZ s g) a w
 | [],a,w,hB,h=>by
  have:=oI (K:=K) (rest:=[]) (w:=w) (fun m q=>q) g a hB h;simpa [oZ]using this
 | (qs,i) :: rest,a,w,hB,h=>by
  simp only[aDj,bt]at hB;obtain⟨⟨y,z⟩,A⟩:=hB;obtain⟨o,t⟩:=vu.1 z;refine oI (K:=K) (rest:=(false,i) :: oZ rest g) (w:=w) (fun m q=>?_) qs a y h;have b:=q (fun e p k=>e=.normal/\S k/\sF P l.toArray S K (oZ rest g) p k) (fun p k D B=>⟨rfl,D,aAf rest p k A B⟩);have C:pick l [i]=[o]:=by simp[pick,t]
  rw[C]at b
  unfold sF;simp only[ld,t];unfold wpList at b;by_cases u:Region.wanted o (yielded l.toArray m.tmps)=true
  ·simp only[u,fa,f9,gc]at b ⊢;rcases b with b|⟨_,_,_,hx,_⟩
   ·unfold Oper.wp at *
    generalize (execOp m.eval o).run P w=r at *
    cases r with
    | ok n w' =>
     cases n<;>simp only[Oper.upon,wpList]at b ⊢
     case value v=>exact b.2
     case skip=>exact b.2
     case defer d=>exact b.2
     case enter f args =>
      exact b.mono fun e E j=>by
       cases e with
       | returned v=>exact j.2
       | panicked c=>cases j.1
       | outgrown=>obtain⟨_,_,hx,_⟩:=j;cases hx
     case row row args=>exact b.mono fun v E j=>j.2
    | halt x w'=>cases x<;>simp only[Oper.upon]at b ⊢;cases b.1
   ·cases hx
  ·simp only[u]at b ⊢;exact b.2.2
theorem gF {i:Nat}{a:Act}{w:H}{l:List Oper}(n:Nat)(b:List (List Nat × Nat))(c:List Nat)(S:H->Prop)(g:P.follows .mixedOrders=true)
  (d:(aDj l b c&&(Region.noSelect l.toArray&&Region.sinkB .any l.toArray n&&Region.chainB .any l.toArray n&&decide (n<l.length)&&decide ((oZ b c).length=n)&&aAr .any l.toArray n (oZ b c) (Array.replicate l.length false)))=true)
  (f:S (w.drewN 1)) (h:aD2 P l.toArray S l (fun e w'=>∀Q',(∀a w,Q .normal a w->Q' .normal a w)->wpList P l.toArray Q' (l.drop n) e w') b c a (w.drewN 1)):(Code.region i l.toArray true).wp P Q a w:=by
 simp only[bt (a:=aDj l b c)]at d;exact aHt n (oZ b c) S g d.2 f (aAf b a _ d.1 h)
end
inductive Sch
 | done
 | quiet (i:Nat) (t:Sch)
 | loud (i:Nat) (t:Sch)
 | two (i:Nat) (t:Sch) (j:Nat) (u:Sch)
 | three (i:Nat) (t:Sch) (j:Nat) (u:Sch) (k:Nat) (v:Sch)
section
variable {P:Program} {ops:Array Oper} {md:Region.Mode} {S:H->Prop} {Q:Exit->Act->H->Prop}
def jH (md:Region.Mode)(ops:Array Oper)(n:Nat):Sch->Nat->Array Bool->Bool
 | .done,f,listed=>decide (f=0)&&Region.seqB md ops (ops.size-n) n listed
 | .quiet i t,f,listed=>(decide (0<f)&&decide (i<n)&&((Region.ready md ops listed).contains i&&Region.free md ops listed i&&((ops[i]?).map xF).getD false))&&jH md ops n t (f-1) (listed.setIfInBounds i true)
 | .loud i t,f,listed=>(decide (0<f)&&decide (i<n)&&decide (Region.ready md ops listed=[i]))&&jH md ops n t (f-1) (listed.setIfInBounds i true)
 | .two i t j u,f,listed=>(decide (0<f)&&decide (i<n)&&decide (j<n)&&decide (Region.ready md ops listed=[i,j]))&&(jH md ops n t (f-1) (listed.setIfInBounds i true)&&jH md ops n u (f-1) (listed.setIfInBounds j true))
 | .three i t j u k v,f,listed=>(decide (0<f)&&decide (i<n)&&decide (j<n)&&decide (k<n)&&decide (Region.ready md ops listed=[i,j,k]))&&(jH md ops n t (f-1) (listed.setIfInBounds i true)&&(jH md ops n u (f-1) (listed.setIfInBounds j true)&&jH md ops n v (f-1) (listed.setIfInBounds k true)))
def rA (P:Program)(ops:Array Oper)(S:H->Prop)(i:Nat)(T:Act->H->Prop)(a:Act)(w:H):Prop :=
 match ops[i]? with
 | none=>False
 | some o=>if Region.wanted o (yielded ops a.tmps)then o.wp P a w (fun a' w'=>S w'/\T a' w') (fun _ _ _=>False)else T (a.put o.dst undef) w
def fC (P:Program)(ops:Array Oper)(S:H->Prop)(K:Act->H->Prop):Sch->Act->H->Prop
 | .done,a,w=>K a w
 | .quiet i t,a,w =>
  match ops[i]? with
  | none=>False
  | some o =>
   if Region.wanted o (yielded ops a.tmps)then ∃v,(∀u,S u->(execOp a.eval o).run P u=.ok (.value v) u)/\fC P ops S K t (a.put o.dst v) w
   else fC P ops S K t (a.put o.dst undef) w
 | .loud i t,a,w=>rA P ops S i (fC P ops S K t) a w
 | .two i t j u,a,w=>rA P ops S i (fC P ops S K t) a w/\rA P ops S j (fC P ops S K u) a w
 | .three i t j u k v,a,w=>rA P ops S i (fC P ops S K t) a w/\rA P ops S j (fC P ops S K u) a w/\rA P ops S k (fC P ops S K v) a w
theorem dI {n i f:Nat}{L:Array Bool->Act->H->Prop}{T:Act->H->Prop}{j:Array Bool}{a:Act}{w:H}(d:S w)(h:rA P ops S i T a w)
  (e:∀b w',S w'->T b w'->lZ P md ops Q S n L f (j.setIfInBounds i true) b w') :
  wpOp P ops Q i (fun b w'=>S w'/\lZ P md ops Q S n L f (j.setIfInBounds i true) b w') a w:=by
 unfold rA at h;cases ho:ops[i]? with
 | none=>simp only[ho]at h
 | some o =>
  simp only[ho]at h;unfold wpOp;simp only[ho];by_cases g:Region.wanted o (yielded ops a.tmps)=true
  ·simp only[g,fa]at h ⊢;exact .inl (Oper.wp_mono (fun b w' c=>⟨c.1,e b w' c.1 c.2⟩) (aAP h))
  ·simp only[g]at h ⊢;exact⟨d,e _ _ d h⟩
theorem aEZ {n:Nat}{K:Act->H->Prop}(aa:Region.noSelect ops=true)(N:∀c d v (a:Act) w,Q (.panic c) (a.put d v) w->Q (.panic c) a w)
  (hs:Region.sinkB md ops n=true) (R:Region.chainB md ops n=true) (hn:n<ops.size) :
  ∀(t:Sch) (f:Nat) (listed:Array Bool) (a:Act) (w:H),HeadInv md ops n listed->jH md ops n t f listed=true->S w->fC P ops S K t a w ->
   lZ P md ops Q S n (fun D b w'=>Region.seqB md ops (ops.size-n) n D=true/\K b w') f listed a w:=by
 have T:∀D (b:Act) (w':H),(Region.seqB md ops (ops.size-n) n D=true/\K b w')->∀j∈Region.ready md ops D,n<=j:=fun D b w' hL=>seqB_ready hL.1
 intro t;induction t with
 | done =>
  intro f listed a w _ e _ h;simp only[jH,bt,bm]at e;obtain⟨rfl,e⟩:=e;exact⟨e,h⟩
 | quiet i t ih =>
  intro f listed a w s e q h;simp only[jH,bt,bm]at e;obtain⟨⟨⟨F,r⟩,⟨⟨hr,V⟩,hv⟩⟩,y⟩:=e;obtain⟨f,rfl⟩:∃g,f=g+1:=⟨f-1,by omega⟩
  rw[go]at y
  unfold fC at h;cases ho:ops[i]? with
  | none=>simp only[ho]at h
  | some o =>
   simp only[ho]at h;have z:i∈Region.ready md ops listed:=by simpa using hr
   by_cases E:Region.wanted o (yielded ops a.tmps)=true
   ·simp only[E,fa]at h;obtain⟨v,l,p⟩:=h;exact qY ho (kh aa) (fun c a w=>N c _ _ a w) hs R hn r T f listed a w s (ki ho V) z (.inl ⟨E,l⟩) q
     (ih f _ _ _ (s.set z r) y q p)
   ·simp only[E]at h;exact qY ho (kh aa) (fun c a w=>N c _ _ a w) hs R hn r T f listed a w s (ki ho V) z (.inr ⟨by simpa using E,rfl⟩) q
     (ih f _ _ _ (s.set z r) y q h)
 | loud i t ih =>
  intro f listed a w s e q h;simp only[jH,bt,bm]at e;obtain⟨⟨⟨F,r⟩,hq⟩,y⟩:=e;obtain⟨f,rfl⟩:∃g,f=g+1:=⟨f-1,by omega⟩
  rw[go]at y
  have z:i∈Region.ready md ops listed:=by rw[hq];simp
  refine⟨by rw[hq];simp,fun j W=>?_⟩;rw[hq]at W
  have ab:j=i:=by simpa using W
  subst ab;unfold fC at h;exact⟨r,dI q h (fun b w' l p=>ih f _ b w' (s.set z r) y l p)⟩
 | two i t j u iht ihu =>
  intro f listed a w s e q h;simp only[jH,bt,bm]at e;obtain⟨⟨⟨⟨F,r⟩,C⟩,hq⟩,A,B⟩:=e;obtain⟨f,rfl⟩:∃g,f=g+1:=⟨f-1,by omega⟩
  rw[go]at A B
  have J:i∈Region.ready md ops listed:=by rw[hq];simp
  have L:j∈Region.ready md ops listed:=by rw[hq];simp
  unfold fC at h;refine⟨by rw[hq];simp,fun k x=>?_⟩;rw[hq]at x
  simp only[ce,mz,gx]at x;rcases x with rfl|rfl
  ·exact⟨r,dI q h.1 (fun b w' l p=>iht f _ b w' (s.set J r) A l p)⟩
  ·exact⟨C,dI q h.2 (fun b w' l p=>ihu f _ b w' (s.set L C) B l p)⟩
 | three i t j u k v iht ihu ihv =>
  intro f listed a w s e q h;simp only[jH,bt,bm]at e;obtain⟨⟨⟨⟨⟨F,r⟩,C⟩,X⟩,hq⟩,A,B,M⟩:=e;obtain⟨f,rfl⟩:∃g,f=g+1:=⟨f-1,by omega⟩
  rw[go]at A B M
  have J:i∈Region.ready md ops listed:=by rw[hq];simp
  have L:j∈Region.ready md ops listed:=by rw[hq];simp
  have ad:k∈Region.ready md ops listed:=by rw[hq];simp
  unfold fC at h;refine⟨by rw[hq];simp,fun m x=>?_⟩;rw[hq]at x
  simp only[ce,mz,gx]at x;rcases x with rfl|rfl|rfl
  ·exact⟨r,dI q h.1 (fun b w' l p=>iht f _ b w' (s.set J r) A l p)⟩
  ·exact⟨C,dI q h.2.1 (fun b w' l p=>ihu f _ b w' (s.set L C) B l p)⟩
  ·exact⟨X,dI q h.2.2 (fun b w' l p=>ihv f _ b w' (s.set ad X) M l p)⟩
theorem aHu {B:Nat}{a:Act}{w:H}{l:List Oper}(n:Nat)(t:Sch)(S:H->Prop)(r:P.follows .mixedOrders=true)
  (e:(Region.noSelect l.toArray&&Region.sinkB .any l.toArray n&&Region.chainB .any l.toArray n&&decide (n<l.length)&&jH .any l.toArray n t n (Array.replicate l.length false))=true)
  (p:S (w.drewN 1)) (h:fC P l.toArray S (fun b w'=>∀Q',(∀a w,Q .normal a w->Q' .normal a w)->wpList P l.toArray Q' (l.drop n) b w') t a (w.drewN 1)):(Code.region B l.toArray true).wp P Q a w:=by
 simp only[bt,bm]at e;obtain⟨⟨⟨⟨z,y⟩,q⟩,s⟩,x⟩:=e;refine tq ?_;have u:n<l.toArray.size:=by simpa using s
 have C:HeadInv .any l.toArray n (Array.replicate l.toArray.size false) :=
  ⟨by simp,fun j E _ k=>(by rw[mw]at k;cases k),fun t _ A=>getD_in (by simpa using A) (mw _ _)⟩
 have i:(l.drop n).length=l.toArray.size-n:=by simp
 have m:=aEZ (P:=P) (Q:=NoPanic Q) (md:=.any) (S:=S) z (fun c d v a w h=>h) y q u t n _ a _ C (by simpa using x) p h;refine ts r ?_;have:=mF (Q:=NoPanic Q) (g:=l.toArray.size-n) (fun D b w' f=>by
  have o:=f.2 (NoPanic Q) (fun _ _ h=>h);have:=tt (md:=.any) (Q':=NoPanic Q) (l.drop n) n D b w' (fun j=>by simp[List.getElem?_drop]) (by rw[i];exact f.1) o;rwa[i]at this) _ _ _ _ m
 rw[show n+(l.toArray.size-n)=l.toArray.size by omega]at this
 exact this
inductive Sg
 | fin (last:List Nat)
 | one (qs:List Nat) (i:Nat) (t:Sg)
 | two (qs:List Nat) (i:Nat) (t:Sg) (j:Nat) (u:Sg)
 | three (qs:List Nat) (i:Nat) (t:Sg) (j:Nat) (u:Sg) (k:Nat) (v:Sg)
def qR:List Nat->Sch->Sch
 | [],t=>t
 | i :: is,t=>.quiet i (qR is t)
def Sg.sch:Sg->Sch
 | .fin last=>qR last .done
 | .one qs i t=>qR qs (.loud i t.sch)
 | .two qs i t j u=>qR qs (.two i t.sch j u.sch)
 | .three qs i t j u k v=>qR qs (.three i t.sch j u.sch k v.sch)
def rB (P:Program)(ops:Array Oper)(S:H->Prop)(l:List Oper)(i:Nat)(T:Act->H->Prop)(a:Act)(w:H):Prop :=
 ∀Q':Exit->Act->H->Prop,(∀a2 w2,S w2->T a2 w2->Q' .normal a2 w2)->wpList P ops Q' (pick l [i]) a w
def nU (P:Program)(ops:Array Oper)(S:H->Prop)(l:List Oper)(K:Act->H->Prop):Sg->Act->H->Prop
 | .fin last,a,w=>wpQuiet P ops (InS S) (fun a'=>K a' w) (pick l last) a
 | .one qs i t,a,w=>wpQuiet P ops (InS S) (fun a'=>rB P ops S l i (nU P ops S l K t) a' w) (pick l qs) a
 | .two qs i t j u,a,w=>wpQuiet P ops (InS S) (fun a'=>rB P ops S l i (nU P ops S l K t) a' w/\rB P ops S l j (nU P ops S l K u) a' w) (pick l qs) a
 | .three qs i t j u k v,a,w=>wpQuiet P ops (InS S) (fun a'=>rB P ops S l i (nU P ops S l K t) a' w/\rB P ops S l j (nU P ops S l K u) a' w/\rB P ops S l k (nU P ops S l K v) a' w) (pick l qs) a
theorem dL {l:List Oper}{K:Act->H->Prop}{d:List Nat}{a:Act}{w:H}
  (h:∀b:Act->Prop,(∀c,K c w->b c)->wpQuiet P ops (InS S) b (pick l d) a):nU P ops S l K (.fin d) a w:=h _ (fun _ h=>h)
theorem bP {l:List Oper}{K:Act->H->Prop}{d:List Nat}{i:Nat}{t:Sg}{a:Act}{w:H}
  (h:∀b:Act->Prop,(∀c,rB P ops S l i (nU P ops S l K t) c w->b c)->wpQuiet P ops (InS S) b (pick l d) a):nU P ops S l K (.one d i t) a w:=h _ (fun _ h=>h)
theorem gS {l:List Oper}{K:Act->H->Prop}{d:List Nat}{i j:Nat}{t u:Sg}{a:Act}{w:H}
  (h:∀c:Act->Prop,(∀b,rB P ops S l i (nU P ops S l K t) b w->rB P ops S l j (nU P ops S l K u) b w->c b)->wpQuiet P ops (InS S) c (pick l d) a):nU P ops S l K (.two d i t j u) a w:=h _ (fun _ e f=>⟨e,f⟩)
def sgB (l:List Oper):Sg->Bool
 | .fin last=>lU l last
 | .one qs i t=>lU l qs&&(l[i]?).isSome&&sgB l t
 | .two qs i t j u=>lU l qs&&((l[i]?).isSome&&(l[j]?).isSome)&&(sgB l t&&sgB l u)
 | .three qs i t j u k v=>lU l qs&&((l[i]?).isSome&&((l[j]?).isSome&&(l[k]?).isSome))&&(sgB l t&&(sgB l u&&sgB l v))
theorem jO {l:List Oper}{K:Act->H->Prop}{d:Act->Prop}{t:Sch}{w:H}(c:∀e,d e->fC P l.toArray S K t e w) :
  ∀(qs:List Nat) (a:Act),lU l qs=true->wpQuiet P l.toArray (InS S) d (pick l qs) a->fC P l.toArray S K (qR qs t) a w
 | [],a,_,h=>c a h
 | i :: qs,a,hB,h=>by
  simp only[lU,List.all_cons,bt]at hB;obtain⟨b,f⟩:=hB;cases ho:l[i]? with
  | none=>simp[ho]at b
  | some o =>
   simp only[ho,mq,mf]at b;have k:pick l (i :: qs)=o :: pick l qs:=by simp[pick,ho]
   rw[k]at h
   unfold wpQuiet at h;unfold qR fC;simp only[ld,ho];by_cases g:Region.wanted o (yielded l.toArray a.tmps)=true
   ·simp only[g,fa]at h ⊢;obtain⟨v,n,j⟩:=h;refine⟨v,fun u m=>?_,jO c qs _ f j⟩;have:=n u ⟨⟨u,m⟩,rfl⟩;unfold Oper.quietAt at this;cases hr:(execOp a.eval o).run P u with
    | ok x w' =>
     obtain⟨v',rfl⟩:=aBx b a.eval P u x w' hr;rw[hr]at this
     simp only[Oper.quietUpon]at this;rw[this.1,this.2]
    | halt x w'=>rw[hr]at this;simp[Oper.quietUpon]at this
   ·simp only[g]at h ⊢;exact jO c qs _ f h
theorem iJ {l:List Oper}{i:Nat}{T k:Act->H->Prop}(hi:(l[i]?).isSome=true)(s:∀a w,T a w->k a w){a:Act}{w:H}(h:rB P l.toArray S l i T a w):rA P l.toArray S i k a w:=by
 obtain⟨o,p⟩:=vu.1 hi;have b:=h (fun e m j=>e=.normal/\S j/\k m j) (fun m j y t=>⟨rfl,y,s m j t⟩);have u:pick l [i]=[o]:=by{simp[pick,p]};rw[u]at b;unfold rA;simp only[ld,p];unfold wpList at b;by_cases q:Region.wanted o (yielded l.toArray a.tmps)=true;{simp only[q,fa]at b ⊢;rcases b with b|⟨_,_,_,hx,_⟩;{unfold Oper.wp at *;generalize (execOp a.eval o).run P w=r at *;cases r with|ok n w'=>{cases n<;>simp only[Oper.upon,wpList]at b ⊢;(case value v=>exact b.2);(case skip=>exact b.2);(case defer d=>exact b.2);(case enter f args =>exact b.mono fun e z g=>by{cases e with|returned v=>exact g.2|panicked c=>cases g.1|outgrown=>{obtain⟨_,_,hx,_⟩:=g;cases hx}});case row row args=>exact b.mono fun v z g=>g.2}|halt x w'=>{cases x<;>simp only[Oper.upon]at b ⊢;cases b.1}};{cases hx}};{simp only[q]at b ⊢;exact b.2.2}
theorem fU {l:List Oper}{K:Act->H->Prop}:∀(d:Sg) (a:Act) (w:H),sgB l d=true->nU P l.toArray S l K d a w->fC P l.toArray S K d.sch a w
 | .fin last,a,w,hB,h=>jO (fun c b=>b) last a hB h
 | .one qs i t,a,w,hB,h=>by
  simp only[sgB,bt]at hB;refine jO (fun c b=>?_) qs a hB.1.1 h;unfold fC;exact iJ hB.1.2 (fun a w h=>fU t a w hB.2 h) b
 | .two qs i t j u,a,w,hB,h=>by
  simp only[sgB,bt]at hB;refine jO (fun c b=>?_) qs a hB.1.1 h;unfold fC;exact⟨iJ hB.1.2.1 (fun a w h=>fU t a w hB.2.1 h) b.1,iJ hB.1.2.2 (fun a w h=>fU u a w hB.2.2 h) b.2⟩
 | .three qs i t j u k v,a,w,hB,h=>by
  simp only[sgB,bt]at hB;refine jO (fun c b=>?_) qs a hB.1.1 h;unfold fC;exact⟨iJ hB.1.2.1 (fun a w h=>fU t a w hB.2.1 h) b.1,iJ hB.1.2.2.1 (fun a w h=>fU u a w hB.2.2.1 h) b.2.1,iJ hB.1.2.2.2 (fun a w h=>fU v a w hB.2.2.2 h) b.2.2⟩
theorem uK {g:Nat}{a:Act}{w:H}{l:List Oper}(n:Nat)(b:Sg)(S:H->Prop)(f:P.follows .mixedOrders=true)
  (c:(sgB l b&&(Region.noSelect l.toArray&&Region.sinkB .any l.toArray n&&Region.chainB .any l.toArray n&&decide (n<l.length)&&jH .any l.toArray n b.sch n (Array.replicate l.length false)))=true)
  (e:S (w.drewN 1)) (h:nU P l.toArray S l (fun d w'=>∀Q',(∀a w,Q .normal a w->Q' .normal a w)->wpList P l.toArray Q' (l.drop n) d w') b a (w.drewN 1)):(Code.region g l.toArray true).wp P Q a w:=by
 simp only[bt (a:=sgB l b)]at c;exact aHu n b.sch S f c.2 e (fU b a _ c.1 h)
end
