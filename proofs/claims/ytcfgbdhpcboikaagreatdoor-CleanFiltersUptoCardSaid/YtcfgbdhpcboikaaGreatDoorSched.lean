/-
A region that draws its order, walked in one order of the prover's choice: quiet operations (they yield one value in every world that meets S, and leave it alone), loud ones between them (each comes up alone, and keeps S), then a forced tail, of which S is not asked.
-/
import Derived.Deep.RegionHeld3
import Derived.Test.YtcfgbdhpcboikaaGreatDoorMayW
import Derived.Shelf.SlSortCmp.WholeK
namespace Go.Proofs.YtcfgbdhpcboikaaGreatDoor
set_option maxHeartbeats 1000000
set_option maxRecDepth 100000
open Go
theorem gD {α:Type}{a:Option α}{f g:α}(h:a=some f)(e:f=g):a=some g:=h.trans (az some e)
def vL (o:Oper):Bool :=
 match o.op with
 | .move _|.assign _|.pick .. | .load .. | .nilCheck _|.binOp .. | .unOp .. | .convert .. | .fieldAddr .. | .field .. | .indexAddr .. | .index .. | .slice .. | .extract .. | .lookup .. | .typeAssert .. => true
 | .call { callee:=.builtin b, .. }=>match b with|.len|.cap|.min|.max=>true|_=>false
 | _=>false
def aX (s:Sem Next):Prop:=∀(P:Program) (w:H) (n:Next) (w':H),s.run P w=.ok n w'->∃v,n=.value v
theorem aX.pure (v:Value):aX (Pure.pure (Next.value v)):=by
 intro P w n w' h;simp only[mv,Result.ok.injEq]at h;exact⟨v,h.1.symm⟩
theorem aX.bind {α : Type}{s:Sem α}{k:α -> Sem Next}(h:∀x,aX (k x)):aX (s >>= k):=by
 intro P w n w' hr;rw[mu]at hr;cases hs:s.run P w with|ok x w1=>{rw[hs]at hr;exact h x P w1 n w' hr}|halt x w1=>{rw[hs]at hr;simp[Result.andThen]at hr}
theorem aX.halt (x:Halt):aX (Sem.halt x):=by
 intro P w n w' h;simp[Sem.run]at h
theorem aX.panic (e:RuntimeError):aX (runtimePanic e):=by
 unfold runtimePanic;refine aX.bind fun p=>?_;cases e<;>first|exact aX.halt _|exact aX.bind fun _=>aX.bind fun _=>aX.halt _
theorem aX.bind' {α : Type}{s:Sem α}{k:α -> Sem Next}(h:∀(P:Program) w x w',s.run P w=.ok x w'->aX (k x)):aX (s >>= k):=by
 intro P w n w' hr;rw[mu]at hr;cases hs:s.run P w with|ok x w1=>{rw[hs]at hr;exact h P w x w1 hs P w1 n w' hr}|halt x w1=>{rw[hs]at hr;simp[Result.andThen]at hr}
theorem aAL {o:Oper}(h:vL o=true) (ρ : Operand->Value):aX (execOp ρ o):=by
 unfold execOp;unfold vL at h;cases ho:o.op<;>simp only[ho]at h<;>try (exact absurd h (by decide))
 all_goals try (exact aX.pure _)
 all_goals try (exact aX.bind fun _=>aX.pure _)
 case nilCheck x =>simp only[];split;(all_goals try (exact aX.pure _));(all_goals try (exact aX.panic _));split;(all_goals try (exact aX.pure _));(all_goals try (exact aX.panic _));refine aX.bind fun p=>aX.bind fun b=>?_;split;{exact aX.bind fun _=>aX.pure _};{exact aX.pure _}
 case call c =>obtain⟨callee,args,argTypes⟩:=c;cases callee<;>simp only[]at h<;>(try (exact absurd h (by decide)));rename_i b;refine aX.bind' (s:=resolve ρ { callee:=.builtin b,args,argTypes } o.type) (fun P w d w' hd=>?_);simp only[resolve,mv,Result.ok.injEq]at hd;rw[<-hd.1];cases b<;>simp only[]at h<;>first|exact absurd h (by decide)|exact aX.bind fun _=>aX.pure _
section
variable {P:Program} {ops:Array Oper} {md:Region.Mode} {S:H->Prop} {Q:Exit->Act->H->Prop}
def kR (P:Program)(md:Region.Mode)(ops:Array Oper)(Q:Exit->Act->H->Prop)(S:H->Prop)(n:Nat)(L:Array Bool->Act->H->Prop):Nat->Array Bool->Act->H->Prop
 | 0,listed,a,w=>L listed a w
 | f+1,listed,a,w =>
  Region.ready md ops listed≠[]/\∀i∈Region.ready md ops listed,i<n/\wpOp P ops Q i (fun a' w'=>S w'/\kR P md ops Q S n L f (listed.setIfInBounds i true) a' w') a w
theorem kX {n g:Nat}{L:Array Bool->Act->H->Prop}(c:∀b a w,L b a w->wpAny P md ops Q g b a w) :
  ∀(f:Nat) (b:Array Bool) (a:Act) (w:H),kR P md ops Q S n L f b a w->wpAny P md ops Q (f+g) b a w
 | 0,b,a,w,h=>by rw[bw];exact c _ _ _ h
 | f+1,b,a,w,h=>by
  rw[show f+1+g=(f+g)+1 by omega];exact⟨fun j=>absurd j h.1,fun i hi=>qe (fun d w' e=>kX c f _ d w' e.2) (h.2 i hi).2⟩
theorem pO {n i:Nat}{m:Oper}{v:Value}{L:Array Bool->Act->H->Prop}(hi:ops[i]?=some m)(M:∀(j:Nat) (o:Oper) cs b,ops[j]?=some o->o.op≠.select cs b)
  (V:∀c a w,Q (.panic c) (a.put m.dst v) w->Q (.panic c) a w)
  (K:Region.sinkB md ops n=true) (B:Region.chainB md ops n=true) (J:n<ops.size) (D:i<n)
  (aa:∀d a w,L d a w->∀j∈Region.ready md ops d,n<=j) :
  ∀(f:Nat) (d:Array Bool) (a:Act) (w:H),HeadInv md ops n d ->
   (∀j p,ops[j]?=some p->j≠i->d.getD j true=false->(∀e∈p.after,Region.binds md e=true->e.on≠i)->m.apart ops p=true) ->
   i∈Region.ready md ops d->YieldsIf P ops S m v a->S w ->
   kR P md ops Q S n L f (d.setIfInBounds i true) (a.put m.dst v) w->kR P md ops Q S n L (f+1) d a w:=by
 intro f;induction f with
 | zero =>
  intro d a w z _ hr y r q;have x:=(g8.1 hr).1;refine⟨fun h=>(by rw[h]at hr;cases hr),fun j l=>?_⟩;have u:j<n:=by
   rcases ak j n with h|h
   ·exact h
   ·exact absurd l (tail_waits K B J z _ i rfl D x j h)
  refine⟨u,?_⟩;by_cases g:j=i
  ·subst g;exact y.wpOp hi r ⟨r,q⟩
  ·have:=aa _ _ _ q j (i7 l g);omega
 | succ f ih =>
  intro d a w z C hr y r q;have x:=(g8.1 hr).1;refine⟨fun h=>(by rw[h]at hr;cases hr),fun j l=>?_⟩;have u:j<n:=by
   rcases ak j n with h|h
   ·exact h
   ·exact absurd l (tail_waits K B J z _ i rfl D x j h)
  refine⟨u,?_⟩;by_cases g:j=i
  ·subst g;exact y.wpOp hi r ⟨r,q⟩
  ·have s:=(q.2 j (i7 l g)).2;obtain⟨F,p,A,W⟩:=g8.1 l;have an:∀e∈p.after,Region.binds md e=true->e.on≠i:=fun e he X ab=>by
    have s:=W e he X;rw[ab,nu x]at s
    cases s
   have T:=wpOp_putIf A (C j p A g F an) (fun cs b=>M i m cs b hi) (fun cs b=>M j p cs b A) V y s;have ac:∀k ok,ops[k]?=some ok->k≠i->(d.setIfInBounds j true).getD k true=false ->
     (∀e∈ok.after,Region.binds md e=true->e.on≠i)->m.apart ops ok=true:=fun k ok hk ad N al=>by
    refine C k ok hk ad ?_ al;by_cases E:j=k
    ·subst E;exact F
    ·rw[tg true E]at N;exact N
   refine qe (fun R w' t=>⟨t.2.1,ih (d.setIfInBounds j true) R w' (z.set l u) ac (i7 hr (gz g)) t.1 t.2.1 ?_⟩) T;rw[th _ _ g];exact t.2.2
def yR (md:Region.Mode)(ops:Array Oper)(n:Nat):List (Bool × Nat)->Array Bool->Bool
 | [],listed=>Region.seqB md ops (ops.size-n) n listed
 | (q,i) :: r,listed =>
  decide (i<n)&&(if q then (Region.ready md ops listed).contains i&&Region.free md ops listed i&&((ops[i]?).map vL).getD false else decide (Region.ready md ops listed=[i])) &&
   yR md ops n r (listed.setIfInBounds i true)
def qO (P:Program)(ops:Array Oper)(S:H->Prop)(K:Act->H->Prop):List (Bool × Nat)->Act->H->Prop
 | [],a,w=>K a w
 | (q,i) :: r,a,w =>
  match ops[i]? with
  | none=>False
  | some o =>
   if Region.wanted o (yielded ops a.tmps)then
    if q then ∃v,(∀u,S u->(execOp a.eval o).run P u=.ok (.value v) u)/\qO P ops S K r (a.put o.dst v) w
    else o.wp P a w (fun a' w'=>S w'/\qO P ops S K r a' w') (fun _ _ _=>False)
   else qO P ops S K r (a.put o.dst undef) w
theorem zU {P:Program}{o:Oper}{a:Act}{w:H}{K:Act->H->Prop}{Q:Exit->Act->H->Prop}(h:o.wp P a w K (fun _ _ _=>False)):o.wp P a w K Q:=by
 unfold Oper.wp at *;generalize (execOp a.eval o).run P w=r at *;cases r with|ok n w'=>{cases n<;>simp only[Oper.upon]at h ⊢ <;> (first|exact h|skip);exact h.mono fun e d b=>by{cases e with|returned v=>exact b|panicked c=>exact b.elim|outgrown=>{obtain⟨_,_,h⟩:=b;exact h.elim}}}|halt x w'=>{cases x<;>simp only[Oper.upon]at h ⊢}
theorem kH {n:Nat}{K:Act->H->Prop}(s:Region.noSelect ops=true)(g:∀c d v (a:Act) w,Q (.panic c) (a.put d v) w->Q (.panic c) a w)
  (p:Region.sinkB md ops n=true) (k:Region.chainB md ops n=true) (m:n<ops.size) :
  ∀(l:List (Bool × Nat)) (listed:Array Bool) (a:Act) (w:H),HeadInv md ops n listed->yR md ops n l listed=true->S w->qO P ops S K l a w ->
   kR P md ops Q S n (fun u t w'=>Region.seqB md ops (ops.size-n) n u=true/\K t w') l.length listed a w
 | [],listed,a,w,_,hB,_,h=>⟨hB,h⟩
 | (q,i) :: r,listed,a,w,inv,hB,hS,h=>by
  simp only[yR,bp,bi]at hB;obtain⟨⟨b,hq⟩,x⟩:=hB;unfold qO at h;cases ho:ops[i]? with
  | none=>simp only[ho]at h
  | some o =>
   simp only[ho]at h;cases q with
   | true =>
    simp only[ed,bp,ho,mg,lw]at hq h;obtain⟨⟨hr,A⟩,J⟩:=hq;have e:i∈Region.ready md ops listed:=by simpa using hr
    have z:∀u (t:Act) (w':H),(Region.seqB md ops (ops.size-n) n u=true/\K t w')->∀j∈Region.ready md ops u,n<=j:=fun u t w' E=>seqB_ready E.1
    by_cases f:Region.wanted o (yielded ops a.tmps)=true
    ·simp only[f,ed]at h;obtain⟨v,C,D⟩:=h;exact pO ho (jr s) (fun c a w=>g c _ _ a w) p k m b z r.length listed a w inv (js ho A) e (.inl ⟨f,C⟩) hS
      (kH s g p k m r _ _ _ (inv.set e b) x hS D)
    ·simp only[f]at h;exact pO ho (jr s) (fun c a w=>g c _ _ a w) p k m b z r.length listed a w inv (js ho A) e (.inr ⟨by simpa using f,rfl⟩) hS
      (kH s g p k m r _ _ _ (inv.set e b) x hS h)
   | false =>
    simp only[fw,fy,bi]at hq h;have e:i∈Region.ready md ops listed:=by rw[hq];simp
    refine⟨by rw[hq];simp,fun j B=>?_⟩;rw[hq]at B
    have F:j=i:=by simpa using B
    subst F;refine⟨b,?_⟩;unfold wpOp;simp only[ho];by_cases f:Region.wanted o (yielded ops a.tmps)=true
    ·simp only[f,ed]at h ⊢;refine .inl (Oper.wp_mono (fun t w' y=>⟨y.1,kH s g p k m r _ _ _ (inv.set e b) x y.1 y.2⟩) (zU h))
    ·simp only[f]at h ⊢;exact⟨hS,kH s g p k m r _ _ _ (inv.set e b) x hS h⟩
theorem aGy {C:Nat}{a:Act}{w:H}{l:List Oper}(n:Nat)(b:List (Bool × Nat))(S:H->Prop)(s:P.follows .mixedOrders=true)
  (f:(Region.noSelect l.toArray&&Region.sinkB .any l.toArray n&&Region.chainB .any l.toArray n&&decide (n<l.length)&&decide (b.length=n)&&yR .any l.toArray n b (Array.replicate l.length false))=true)
  (q:S (w.drewN 1)) (h:qO P l.toArray S (fun e w'=>∀Q',(∀a w,Q .normal a w->Q' .normal a w)->wpList P l.toArray Q' (l.drop n) e w') b a (w.drewN 1)):(Code.region C l.toArray true).wp P Q a w:=by
 simp only[bp,bi]at f;obtain⟨⟨⟨⟨⟨A,z⟩,r⟩,u⟩,hlen⟩,y⟩:=f;refine ti ?_;have x:n<l.toArray.size:=by simpa using u
 have D:HeadInv .any l.toArray n (Array.replicate l.toArray.size false) :=
  ⟨by simp,fun j F _ m=>(by rw[mo]at m;cases m),fun t _ B=>getD_in (by simpa using B) (mo _ _)⟩
 have k:(l.drop n).length=l.toArray.size-n:=by simp
 have o:=kH (P:=P) (Q:=NoPanic Q) (md:=.any) (S:=S) A (fun c d v a w h=>h) z r x b _ a _ D (by simpa using y) q h;refine tj s ?_;have:=kX (Q:=NoPanic Q) (g:=l.toArray.size-n) (fun E e w' i=>by
  have p:=i.2 (NoPanic Q) (fun _ _ h=>h);have:=tm (md:=.any) (Q':=NoPanic Q) (l.drop n) n E e w' (fun j=>by simp[List.getElem?_drop]) (by rw[k];exact i.1) p;rwa[k]at this) _ _ _ _ o
 rw[hlen,show n+(l.toArray.size-n)=l.toArray.size by omega]at this
 exact this
structure WIn (S:H->Prop) where
 w:H
 h:S w
@[reducible] def InS (S:H->Prop):H->Prop:=fun u=>∃s:WIn S,u=s.w
theorem pickZ {α:Type}{a:α}{r:List α}:(a::r)[0]?=some a:=m7
theorem pickS {α:Type}{a:α}{r:List α}{i:Nat}:(a::r)[i+1]?=r[i]?:=m6
theorem pickG {α:Type}{a b:α}:(some a).getD b=a:=lw
def pick (l:List Oper):List Nat->List Oper
 | []=>[]
 | i :: r=>(l[i]?).getD default :: pick l r
def aC6 (P:Program)(ops:Array Oper)(S:H->Prop)(l:List Oper)(K:Act->H->Prop):List (List Nat × Nat)->List Nat->Act->H->Prop
 | [],last,a,w=>wpQuiet P ops (InS S) (fun a'=>K a' w) (pick l last) a
 | (qs,i) :: rest,last,a,w =>
  wpQuiet P ops (InS S) (fun a'=>∀Q':Exit->Act->H->Prop,(∀a2 w2,S w2->aC6 P ops S l K rest last a2 w2->Q' .normal a2 w2)->wpList P ops Q' (pick l [i]) a' w) (pick l qs) a
theorem cP {l:List Oper}{K:Act->H->Prop}{g:List Nat}{i:Nat}{rest:List (List Nat × Nat)}{f:List Nat}{a:Act}{w:H}
  (h:∀c:Act->Prop,(∀d,(∀Q':Exit->Act->H->Prop,(∀e b,S b->aC6 P ops S l K rest f e b->Q' .normal e b)->wpList P ops Q' (pick l [i]) d w)->c d)->wpQuiet P ops (InS S) c (pick l g) a) :
  aC6 P ops S l K ((g,i) :: rest) f a w:=h _ (fun _ h=>h)
theorem jP {l:List Oper}{K:Act->H->Prop}{d:List Nat}{a:Act}{w:H}
  (h:∀b:Act->Prop,(∀c,K c w->b c)->wpQuiet P ops (InS S) b (pick l d) a):aC6 P ops S l K [] d a w:=h _ (fun _ h=>h)
def nR:List (List Nat × Nat)->List Nat->List (Bool × Nat)
 | [],last=>last.map (true,·)
 | (qs,i) :: rest,last=>qs.map (true,·)++(false,i) :: nR rest last
def kM (l:List Oper)(is:List Nat):Bool:=is.all fun i=>((l[i]?).map vL).getD false
theorem mZ {l:List Oper}{K:Act->H->Prop}{d:Act->Prop}{rest:List (Bool × Nat)}{w:H}(c:∀e,d e->qO P l.toArray S K rest e w) :
  ∀(qs:List Nat) (a:Act),kM l qs=true->wpQuiet P l.toArray (InS S) d (pick l qs) a->qO P l.toArray S K (qs.map (true,·)++rest) a w
 | [],a,_,h=>c a h
 | i :: qs,a,hB,h=>by
  simp only[kM,List.all_cons,bp]at hB;obtain⟨b,f⟩:=hB;cases ho:l[i]? with
  | none=>simp[ho]at b
  | some o =>
   simp only[ho,mg,lw]at b;have k:pick l (i :: qs)=o :: pick l qs:=by simp[pick,ho]
   rw[k]at h
   unfold wpQuiet at h;simp only[cg,dw];unfold qO;simp only[kf,ho];by_cases g:Region.wanted o (yielded l.toArray a.tmps)=true
   ·simp only[g,ed]at h ⊢;obtain⟨v,n,j⟩:=h;refine⟨v,fun u m=>?_,mZ c qs _ f j⟩;have:=n u ⟨⟨u,m⟩,rfl⟩;unfold Oper.quietAt at this;cases hr:(execOp a.eval o).run P u with
    | ok x w' =>
     obtain⟨v',rfl⟩:=aAL b a.eval P u x w' hr;rw[hr]at this
     simp only[Oper.quietUpon]at this;rw[this.1,this.2]
    | halt x w'=>rw[hr]at this;simp[Oper.quietUpon]at this
   ·simp only[g]at h ⊢;exact mZ c qs _ f h
def aCo (l:List Oper):List (List Nat × Nat)->List Nat->Bool
 | [],last=>kM l last
 | (qs,i) :: rest,last=>kM l qs&&(l[i]?).isSome&&aCo l rest last
theorem yB {l:List Oper}{K:Act->H->Prop}{g:List Nat} :
  ∀(s:List (List Nat × Nat)) (a:Act) (w:H),aCo l s g=true->aC6 P l.toArray S l K s g a w->qO P l.toArray S K (nR s g) a w
 | [],a,w,hB,h=>by
  have:=mZ (K:=K) (rest:=[]) (w:=w) (fun m q=>q) g a hB h;simpa [nR]using this
 | (qs,i) :: rest,a,w,hB,h=>by
  simp only[aCo,bp]at hB;obtain⟨⟨y,z⟩,A⟩:=hB;obtain⟨o,t⟩:=vo.1 z;refine mZ (K:=K) (rest:=(false,i) :: nR rest g) (w:=w) (fun m q=>?_) qs a y h;have b:=q (fun e p k=>e=.normal/\S k/\qO P l.toArray S K (nR rest g) p k) (fun p k D B=>⟨rfl,D,yB rest p k A B⟩);have C:pick l [i]=[o]:=by simp[pick,t]
  rw[C]at b
  unfold qO;simp only[kf,t];unfold wpList at b;by_cases u:Region.wanted o (yielded l.toArray m.tmps)=true
  ·simp only[u,ed,fw,fy]at b ⊢;rcases b with b|⟨_,_,_,hx,_⟩
   ·unfold Oper.wp at *
    generalize (execOp m.eval o).run P w=r at *
    cases r with
    | ok n w' =>
     cases n<;>simp only[Oper.upon,wpList]at b ⊢
     case value v=>exact b.2
     case skip=>exact b.2
     case defer d=>exact b.2
     case enter f args =>
      exact b.mono fun e E j=>by
       cases e with
       | returned v=>exact j.2
       | panicked c=>cases j.1
       | outgrown=>obtain⟨_,_,hx,_⟩:=j;cases hx
     case row row args=>exact b.mono fun v E j=>j.2
    | halt x w'=>cases x<;>simp only[Oper.upon]at b ⊢;cases b.1
   ·cases hx
  ·simp only[u]at b ⊢;exact b.2.2
theorem iW {i:Nat}{a:Act}{w:H}{l:List Oper}(n:Nat)(b:List (List Nat × Nat))(c:List Nat)(S:H->Prop)(g:P.follows .mixedOrders=true)
  (d:(aCo l b c&&(Region.noSelect l.toArray&&Region.sinkB .any l.toArray n&&Region.chainB .any l.toArray n&&decide (n<l.length)&&decide ((nR b c).length=n)&&yR .any l.toArray n (nR b c) (Array.replicate l.length false)))=true)
  (f:S (w.drewN 1)) (h:aC6 P l.toArray S l (fun e w'=>∀Q',(∀a w,Q .normal a w->Q' .normal a w)->wpList P l.toArray Q' (l.drop n) e w') b c a (w.drewN 1)):(Code.region i l.toArray true).wp P Q a w:=by
 simp only[bp (a:=aCo l b c)]at d;exact aGy n (nR b c) S g d.2 f (yB b a _ d.1 h)
end
open Go.RowKit
open Go.RowKit
theorem aD2 (a:Value)(w:H):Y 182 #[.slice none 0 0,.int .i64 0,.int .i64 0,a] w fun e w'=>e=.returned (.tuple #[])/\w=w':=by
 go_enter Tryz.func182,Tryz.ntmps182;go_wp2;refine rv 1 ?_;rw[rx];go_wp2;go_end0;exact⟨rfl,rfl⟩
theorem aOJ (a:Value)(b:Int)(w:H):Y 146 #[.slice none 0 0,.int .i64 0,.int .i64 0,.int .i64 b,a] w fun e w'=>e=.returned (.tuple #[])/\w=w':=by
 go_enter Tryz.func146,Tryz.ntmps146;go_wp2;refine rv 1 ?_;rw[rx];go_wp2_with fail;refine(aD2 a w).mono ?_;rintro e w' ⟨rfl,rfl⟩;go_wp2;trace_state;exact io (v:=.tuple #[]) (by simp[results,Tryz.results146,go_sem]) rfl ⟨rfl,rfl⟩
theorem aMd (w:H):Y 147 #[.int .u64 0] w fun e w'=>e=.returned (.int .i64 0)/\w=w':=by
 go_enter Tryz.func147,Tryz.ntmps147;go_wp2_with fail;refine(Tryz.bits_Len64 0 w (by omega) (by omega)).mono ?_;rintro e w' ⟨rfl,a⟩;subst a;go_wp2;go_ret;exact⟨rfl,rfl⟩
theorem aMZ (a:Value)(w:H):Y 86 #[.slice none 0 0,a] w fun e w'=>e=.returned (.tuple #[])/\w=w':=by
 go_enter Tryz.func86,Tryz.ntmps86;go_wp2_with fail;refine(aMd w).mono ?_;rintro e w' ⟨rfl,rfl⟩;go_wp2_with fail;refine(aOJ a _ w).mono ?_;rintro e w' ⟨rfl,rfl⟩;go_wp2;go_end0;exact⟨rfl,rfl⟩
open Go.RowKit
theorem fE (w:H)(a b c d e c5:Value):Six (w.alloc (.cells #[a,b,c,d,e,c5] 45)) w.heap.size 0 a b c d e c5:=by
 have h:∀j,(w.alloc (.cells #[a,b,c,d,e,c5] 45)).cell? ⟨w.heap.size,j,none⟩=(#[a,b,c,d,e,c5]:Array Value)[j]?:=fun j=>au _ w.heap.size j _ 45 (0,0) (cc w _);exact⟨h 0,h 1,h 2,h 3,h 4,h 5⟩
def sB:I:=⟨#[98]⟩
theorem Tryz.info9:(Tryz.prog.info? 9).map (fun i=>(i.zero,i.size,i.bytes))=some (some (.string ⟨#[]⟩),1,16):=by kernel_rfl
open Go.RowKit
def dV (r:Bool)(w:H)(e:Ending)(w':H):Prop:=e=.returned (.bool r)/\Below w.heap.size w w'
open Go.RowKit
def Two (w:H)(g o:Nat)(c0 c1:Value):Prop:=w.cell? ⟨g,o,none⟩=some c0/\w.cell? ⟨g,o+1,none⟩=some c1
theorem Two.below {w w':H}{g o B:Nat}{a c1:Value}(h:Two w g o a c1)(b:Below B w w')(d:w.heap.size<=B):Two w' g o a c1:=by
 have c:g<B:=dj (dx w _ h.1) d;exact⟨by rw[b.cell (p:=⟨g,_,none⟩) c];exact h.1,by rw[b.cell (p:=⟨g,_,none⟩) c];exact h.2⟩
open Go.RowKit Go.Shelf Go.Lib Go.Sort
def Tryz.sortAttr_ren:Go.Shelf.Ren:=⟨fun|6=>86|15=>147|14=>146|28=>190|29=>191|20=>182|21=>183|22=>184|23=>185|24=>186|25=>187|26=>188|27=>189|46=>218|47=>219|48=>220|49=>221|50=>222|57=>250|n=>n,fun|22=>33|24=>39|25=>96|3=>3|39=>148|0=>0|53=>177|55=>163|4=>4|46=>171|45=>170|50=>68|5=>5|9=>9|66=>202|70=>206|76=>245|77=>102|n=>n,fun|n=>n⟩
theorem Tryz.sortAttr:Go.Proofs.SlLaysF0.n6 Tryz.prog Tryz.sortAttr_ren:={
 mixed:=by kernel_rfl
 f6:=⟨ "slices.SortFunc[[]colander/api.Attr,colander/api.Attr]",br (by kernel_rfl),gD Tryz.func86 (by kernel_rfl)⟩
 f14:=⟨ "slices.pdqsortCmpFunc[colander/api.Attr]",br (by kernel_rfl),gD Tryz.func146 (by kernel_rfl)⟩
 f15:=gD Tryz.func147 (by kernel_rfl)
 f20:=⟨ "slices.insertionSortCmpFunc[colander/api.Attr]",br (by kernel_rfl),gD Tryz.func182 (by kernel_rfl)⟩
 f21:=⟨ "slices.heapSortCmpFunc[colander/api.Attr]",br (by kernel_rfl),gD Tryz.func183 (by kernel_rfl)⟩
 f22:=⟨ "slices.breakPatternsCmpFunc[colander/api.Attr]",br (by kernel_rfl),gD Tryz.func184 (by kernel_rfl)⟩
 f23:=⟨ "slices.choosePivotCmpFunc[colander/api.Attr]",br (by kernel_rfl),gD Tryz.func185 (by kernel_rfl)⟩
 f24:=⟨ "slices.reverseRangeCmpFunc[colander/api.Attr]",br (by kernel_rfl),gD Tryz.func186 (by kernel_rfl)⟩
 f25:=⟨ "slices.partialInsertionSortCmpFunc[colander/api.Attr]",br (by kernel_rfl),gD Tryz.func187 (by kernel_rfl)⟩
 f26:=⟨ "slices.partitionEqualCmpFunc[colander/api.Attr]",br (by kernel_rfl),gD Tryz.func188 (by kernel_rfl)⟩
 f27:=⟨ "slices.partitionCmpFunc[colander/api.Attr]",br (by kernel_rfl),gD Tryz.func189 (by kernel_rfl)⟩
 f28:=gD Tryz.func190 (by kernel_rfl)
 f29:=gD Tryz.func191 (by kernel_rfl)
 f46:=⟨ "slices.siftDownCmpFunc[colander/api.Attr]",br (by kernel_rfl),gD Tryz.func218 (by kernel_rfl)⟩
 f47:=gD Tryz.func219 (by kernel_rfl)
 f48:=gD Tryz.func220 (by kernel_rfl)
 f49:=⟨ "slices.medianAdjacentCmpFunc[colander/api.Attr]",br (by kernel_rfl),gD Tryz.func221 (by kernel_rfl)⟩
 f50:=⟨ "slices.medianCmpFunc[colander/api.Attr]",br (by kernel_rfl),gD Tryz.func222 (by kernel_rfl)⟩
 f57:=⟨ "slices.order2CmpFunc[colander/api.Attr]",br (by kernel_rfl),gD Tryz.func250 (by kernel_rfl)⟩
 t0:=Tryz.underlying0
 a0:=Tryz.isAgg0
 z0:=Tryz.sizeOf0
 v0:=Tryz.zeroValue0
 t3:=Tryz.underlying3
 a3:=Tryz.isAgg3
 z3:=Tryz.sizeOf3
 v3:=Tryz.zeroValue3
 t4:=Tryz.underlying4
 a4:=Tryz.isAgg4
 z4:=Tryz.sizeOf4
 v4:=Tryz.zeroValue4
 t5:=Tryz.underlying5
 a5:=Tryz.isAgg5
 z5:=Tryz.sizeOf5
 v5:=Tryz.zeroValue5
 t9:=Tryz.underlying9
 a9:=Tryz.isAgg9
 z9:=Tryz.sizeOf9
 v9:=Tryz.zeroValue9
 t22:=Tryz.underlying33
 a22:=Tryz.isAgg33
 z22:=Tryz.sizeOf33
 v22:=Tryz.zeroValue33
 t25:=Tryz.underlying96
 a25:=Tryz.isAgg96
 z25:=Tryz.sizeOf96
 v25:=Tryz.zeroValue96
 t39:=Tryz.underlying148
 a39:=Tryz.isAgg148
 z39:=Tryz.sizeOf148
 v39:=Tryz.zeroValue148
 t45:=Tryz.underlying170
 a45:=Tryz.isAgg170
 z45:=Tryz.sizeOf170
 v45:=Tryz.zeroValue170
 t46:=Tryz.underlying171
 a46:=Tryz.isAgg171
 z46:=Tryz.sizeOf171
 v46:=Tryz.zeroValue171
 t50:=Tryz.underlying68
 a50:=Tryz.isAgg68
 z50:=Tryz.sizeOf68
 v50:=Tryz.zeroValue68
 t53:=Tryz.underlying177
 a53:=Tryz.isAgg177
 z53:=Tryz.sizeOf177
 v53:=Tryz.zeroValue177
 t55:=Tryz.underlying163
 a55:=Tryz.isAgg163
 z55:=Tryz.sizeOf163
 v55:=Tryz.zeroValue163
 t66:=Tryz.underlying202
 a66:=Tryz.isAgg202
 z66:=Tryz.sizeOf202
 v66:=Tryz.zeroValue202
 t70:=Tryz.underlying206
 a70:=Tryz.isAgg206
 z70:=Tryz.sizeOf206
 v70:=Tryz.zeroValue206
 t76:=Tryz.underlying245
 a76:=Tryz.isAgg245
 z76:=Tryz.sizeOf245
 v76:=Tryz.zeroValue245
 t77:=Tryz.underlying102
 a77:=Tryz.isAgg102
 z77:=Tryz.sizeOf102
 v77:=Tryz.zeroValue102 }
theorem aBN (l:List AT):(flatK jV 2 l.toArray).toList=bM l:=by
 apply List.ext_getElem;{simp[fN]};{intro i j a;have hi:i<l.length*2:=by{rw[fN]at a;exact a};have c:i / 2<l.length:=by{omega};obtain⟨f,g⟩:=sL l (i / 2) c;have e:(flatK jV 2 l.toArray).toList[i]=(jV l.toArray[i / 2]!)[i%2]! := by{rw[tn,<-ib,get_flatK _ _ _ _ (by simpa using hi)]};rw[e,ib l.toArray (i / 2) (by simpa using c)];have h:l.toArray[i / 2]'(by simpa using c)=l[i / 2]:=by{simp};rw[h];rcases o9 i with d|d;{rw[d];have b:i / 2*2=i:=by{omega};rw[b,bc a]at f;rw[cy f];rfl};{rw[d];have b:i / 2*2+1=i:=by{omega};rw[b,bc a]at g;rw[cy g];rfl}}
theorem aLN (x:AT):(jV x).length=2:=rfl
theorem aLO (x:AT):∀v∈jV x,v.oneCell'=true:=by
 intro v a;simp[jV]at a;rcases a with rfl|rfl<;>rfl
theorem Tryz.closure87 (x y:AT)(W:H):Y 87 #[.agg #[.string x.1,.string x.2],.agg #[.string y.1,.string y.2]] W fun e w'=>e=.returned (.int .i64 (gB x y))/\∃q os',w'=grow (W.drewN q) os':=by
 have a:=fun b=>Tryz.strings_Compare x.1 y.1 b;unfold gB;generalize compareBytes x.1.data.toList y.1.data.toList=r at a ⊢;go_enter Tryz.func87,Tryz.ntmps87;go_wp2_with (go_at_call 88;refine(a _).mono ?_;rintro e w' ⟨rfl,rfl⟩);go_ret;exact⟨rfl,0,_,by rw[alloc_eq_grow,alloc_eq_grow,grow_grow];rfl⟩
theorem Tryz.cmp87 (a b size:Nat)(w:H):CmpLays Tryz.prog 87 #[] jV 2 gB a b size w :=
 fun _ _ _ _ x y=>Tryz.closure87 x y _
theorem aDF (w:H)(g n:Nat)(d:Array AT)(os:Array Obj)(k:Nat)(a:k<w.heap.size) :
  (sortWorldK jV 2 w g 0 n d os).heap[k]?=if g=k then w.heap[k]?.map (onCells (putCells id 0 (flatK jV 2 d)))else w.heap[k]?:=by
 unfold sortWorldK grow putRowK putRow mapBlock;simp only;rw[li (by simp;exact a),vq];rfl
theorem aM0 {B:Nat}{v:Value}{l r:List AT}{b w w':H}{g cap n:Nat}{a:Array Value}{os:Array Obj}(c:aF B 39 2 v l.length (bM l) b w)(p:v=.slice (some ⟨g,0,none⟩) l.length cap)(h:B<=g)(d:w.heap[g]?=some (.cells a 39 (0,0)))
  (u:l.length<=cap) (j:cap<=maxLen) (m:a.size=cap*2) (hr:r.length=l.length) (q:w'=sortWorldK jV 2 w g 0 n r.toArray os):aF B 39 2 v r.length (bM r) b w':=by
 have o:g<w.heap.size:=(dq.1 d).1;subst q;have e:w.heap.size<=(sortWorldK jV 2 w g 0 n r.toArray os).heap.size:=by{unfold sortWorldK grow putRowK putRow mapBlock;simp};refine⟨⟨by rw[fN],.inr ⟨g,cap,putCells id 0 (flatK jV 2 r.toArray) a,by rw[hr];exact p,h,?_,by omega,j,?_,?_⟩⟩,?_,bg c.base e⟩;{rw[aDF _ _ _ _ _ _ o,af rfl,d];rfl};{unfold putCells;simpa using m};{rw[<-aBN r];apply List.ext_getElem;{rw[bu];unfold putCells;simp;omega};{intro i s f;have hi:i<(flatK jV 2 r.toArray).size:=by{simpa using f};rw[ru];unfold putCells;rw[tn,Array.getElem_mapIdx,af ⟨bb _,by rw[bw];exact hi⟩];rw[np,ib _ i hi];simp}};{refine c.bel.trans ⟨rfl,rfl,rfl,e,fun k t=>?_⟩;rw[aDF _ _ _ _ _ _ (by omega),ae (by omega)]}
theorem aMY (v:Value)(l:List AT)(m w:H)(B:Nat)(c:aF B 39 2 v l.length (bM l) m w)(T:l.length<=1000000000) :
  Y 86 #[v,.func (.func 87) #[] #[]] w fun e w'=>e=.returned (.tuple #[])/\∃r:List AT,r.Perm l/\SortedIn (ltOf gB) 0 r.length r.toArray/\aF B 39 2 v r.length (bM r) m w':=by
 rcases c.own.2 with⟨rfl,z⟩|⟨g,cap,p,R,A,b,J,D,E,N⟩
 ·have K:l=[]:=fj z;subst K;refine(aMZ _ w).mono ?_;rintro e w' ⟨rfl,rfl⟩;exact⟨rfl,[],List.Perm.refl _,fun i j _ _ h=>absurd h (by simp),c⟩
 ·subst R;have F:g<w.heap.size:=(dq.1 b).1;have y:∀o w,(callFunc 87 o).run Tryz.prog w=.ok (.enter 87 o) w:=enters_of Tryz.func87 (by kernel_rfl) rfl;have C:HoldsK jV 2 w g 0 l.toArray:=by
   intro j s;have f:j<l.length*2:=by simpa using s
   rw[bw];refine⟨?_,?_⟩
   ·rw[au w g j p 39 (0,0) b];have e:(flatK jV 2 l.toArray)[j]! = (bM l)[j]'(by rw[fN];exact f):=by
     rw[ib _ j s,<-tn];simp only[aBN]
    rw[e];have:(p.toList.take (l.length*2))[j]?=(bM l)[j]?:=by rw[N]
    rw[f9,af f,bc (l:=bM l) (by rw[fN];exact f)]at this
    simpa using this
   ·simp[World.frozen?,b]
  have d:=AnyQ.slices_SortFunc Tryz.sortAttr 2 Tryz.isAgg39 Tryz.sizeOf39 jV aLN aLO gB aLD 87 #[] g 0 cap l.toArray w y (Tryz.cmp87 g 0 _ w) C F (by simp;omega);change Y 86 _ _ _ at d;simp only[List.size_toArray]at d;refine d.mono ?_;rintro e w' ⟨rfl,a,n,os,t,M,rfl⟩;have k:a.size=l.length:=by simpa using t.1
  have L:a.toList.Perm l:=by
   have q:=t.2.2;have u:(a.extract 0 l.length).toList=a.toList:=by rw[<-k];simp
   have x:(l.toArray.extract 0 l.length).toList=l:=by simp
   rw[u,x]at q
   exact q
  refine⟨rfl,a.toList,L,?_,?_⟩
  ·have:a.toList.length=l.length:=by simpa using k
   rw[this];simpa using M
  ·exact aM0 (n:=n) (os:=os) c rfl A b J D E (by simpa using k) (by simp)
