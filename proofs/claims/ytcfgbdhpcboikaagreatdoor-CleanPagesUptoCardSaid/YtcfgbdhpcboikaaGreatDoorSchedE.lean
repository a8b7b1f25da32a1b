/-
Regions that draw their order, all of whose operations may come up side by side to the end (no forced tail): the schedule as a tree.
-/
import Derived.Test.YtcfgbdhpcboikaaGreatDoorSched
namespace Go.Proofs.YtcfgbdhpcboikaaGreatDoor
section
variable {P:Program} {ops:Array Oper} {md:Region.Mode} {S:H->Prop} {Q:Exit->Act->H->Prop}
theorem aBm {n i:Nat}{m:Oper}{v:Value}{L:Array Bool->Act->H->Prop}(hi:ops[i]?=some m)(E:∀(j:Nat) (o:Oper) cs b,ops[j]?=some o->o.op≠.select cs b)
  (R:∀c a w,Q (.panic c) (a.put m.dst v) w->Q (.panic c) a w)
  (A:∀t,n<=t->∀d,t∉Region.ready md ops d) (an:i<n)
  (W:∀d a w,L d a w->∀j∈Region.ready md ops d,n<=j) :
  ∀(f:Nat) (d:Array Bool) (a:Act) (w:H),HeadInv md ops n d ->
   (∀j p,ops[j]?=some p->j≠i->d.getD j true=false->(∀e∈p.after,Region.binds md e=true->e.on≠i)->m.apart ops p=true) ->
   i∈Region.ready md ops d->YieldsIf P ops S m v a->S w ->
   lZ P md ops Q S n L f (d.setIfInBounds i true) (a.put m.dst v) w->lZ P md ops Q S n L (f+1) d a w:=by
 intro f;induction f with
 | zero =>
  intro d a w K _ hr y r q;have F:=(ij.1 hr).1;refine⟨fun h=>(by rw[h]at hr;cases hr),fun j l=>?_⟩;have x:j<n:=by
   rcases ak j n with h|h
   ·exact h
   ·exact absurd l (A j h d)
  refine⟨x,?_⟩;by_cases g:j=i
  ·subst g;exact y.wpOp hi r ⟨r,q⟩
  ·have:=W _ _ _ q j (jg l g);omega
 | succ f ih =>
  intro d a w K B hr y r q;have F:=(ij.1 hr).1;refine⟨fun h=>(by rw[h]at hr;cases hr),fun j l=>?_⟩;have x:j<n:=by
   rcases ak j n with h|h
   ·exact h
   ·exact absurd l (A j h d)
  refine⟨x,?_⟩;by_cases g:j=i
  ·subst g;exact y.wpOp hi r ⟨r,q⟩
  ·have s:=(q.2 j (jg l g)).2;obtain⟨D,p,z,T⟩:=ij.1 l;have al:∀e∈p.after,Region.binds md e=true->e.on≠i:=fun e X V aa=>by
    have s:=T e X V;rw[aa,oq F]at s
    cases s
   have N:=wpOp_putIf z (B j p z g D al) (fun cs b=>E i m cs b hi) (fun cs b=>E j p cs b z) R y s;have ab:∀k ok,ops[k]?=some ok->k≠i->(d.setIfInBounds j true).getD k true=false ->
     (∀e∈ok.after,Region.binds md e=true->e.on≠i)->m.apart ops ok=true:=fun k ok hk ad J ah=>by
    refine B k ok hk ad ?_ ah;by_cases C:j=k
    ·subst C;exact D
    ·rw[tj true C]at J;exact J
   refine qk (fun M w' u=>⟨u.2.1,ih (d.setIfInBounds j true) M w' (K.set l x) ab (jg hr (ii g)) u.1 u.2.1 ?_⟩) N;rw[tm _ _ g];exact u.2.2
theorem aEY {n:Nat}{K:Act->H->Prop}(aa:Region.noSelect ops=true)(N:∀c d v (a:Act) w,Q (.panic c) (a.put d v) w->Q (.panic c) a w)
  (R:∀t,n<=t->∀listed,t∉Region.ready md ops listed) :
  ∀(t:Sch) (f:Nat) (listed:Array Bool) (a:Act) (w:H),HeadInv md ops n listed->jH md ops n t f listed=true->S w->fC P ops S K t a w ->
   lZ P md ops Q S n (fun D b w'=>Region.seqB md ops (ops.size-n) n D=true/\K b w') f listed a w:=by
 have T:∀D (b:Act) (w':H),(Region.seqB md ops (ops.size-n) n D=true/\K b w')->∀j∈Region.ready md ops D,n<=j:=fun D b w' hL=>seqB_ready hL.1
 intro t;induction t with
 | done =>
  intro f listed a w _ e _ h;simp only[jH,bt,bm]at e;obtain⟨rfl,e⟩:=e;exact⟨e,h⟩
 | quiet i t ih =>
  intro f listed a w s e q h;simp only[jH,bt,bm]at e;obtain⟨⟨⟨F,r⟩,⟨⟨hr,V⟩,hv⟩⟩,y⟩:=e;obtain⟨f,rfl⟩:∃g,f=g+1:=⟨f-1,by omega⟩
  rw[go]at y
  unfold fC at h;cases ho:ops[i]? with
  | none=>simp only[ho]at h
  | some o =>
   simp only[ho]at h;have z:i∈Region.ready md ops listed:=by simpa using hr
   by_cases E:Region.wanted o (yielded ops a.tmps)=true
   ·simp only[E,fa]at h;obtain⟨v,l,p⟩:=h;exact aBm ho (kh aa) (fun c a w=>N c _ _ a w) R r T f listed a w s (ki ho V) z (.inl ⟨E,l⟩) q
     (ih f _ _ _ (s.set z r) y q p)
   ·simp only[E]at h;exact aBm ho (kh aa) (fun c a w=>N c _ _ a w) R r T f listed a w s (ki ho V) z (.inr ⟨by simpa using E,rfl⟩) q
     (ih f _ _ _ (s.set z r) y q h)
 | loud i t ih =>
  intro f listed a w s e q h;simp only[jH,bt,bm]at e;obtain⟨⟨⟨F,r⟩,hq⟩,y⟩:=e;obtain⟨f,rfl⟩:∃g,f=g+1:=⟨f-1,by omega⟩
  rw[go]at y
  have z:i∈Region.ready md ops listed:=by rw[hq];simp
  refine⟨by rw[hq];simp,fun j W=>?_⟩;rw[hq]at W
  have ab:j=i:=by simpa using W
  subst ab;unfold fC at h;exact⟨r,dI q h (fun b w' l p=>ih f _ b w' (s.set z r) y l p)⟩
 | two i t j u iht ihu =>
  intro f listed a w s e q h;simp only[jH,bt,bm]at e;obtain⟨⟨⟨⟨F,r⟩,C⟩,hq⟩,A,B⟩:=e;obtain⟨f,rfl⟩:∃g,f=g+1:=⟨f-1,by omega⟩
  rw[go]at A B
  have J:i∈Region.ready md ops listed:=by rw[hq];simp
  have L:j∈Region.ready md ops listed:=by rw[hq];simp
  unfold fC at h;refine⟨by rw[hq];simp,fun k x=>?_⟩;rw[hq]at x
  simp only[ce,mz,gx]at x;rcases x with rfl|rfl
  ·exact⟨r,dI q h.1 (fun b w' l p=>iht f _ b w' (s.set J r) A l p)⟩
  ·exact⟨C,dI q h.2 (fun b w' l p=>ihu f _ b w' (s.set L C) B l p)⟩
 | three i t j u k v iht ihu ihv =>
  intro f listed a w s e q h;simp only[jH,bt,bm]at e;obtain⟨⟨⟨⟨⟨F,r⟩,C⟩,X⟩,hq⟩,A,B,M⟩:=e;obtain⟨f,rfl⟩:∃g,f=g+1:=⟨f-1,by omega⟩
  rw[go]at A B M
  have J:i∈Region.ready md ops listed:=by rw[hq];simp
  have L:j∈Region.ready md ops listed:=by rw[hq];simp
  have ad:k∈Region.ready md ops listed:=by rw[hq];simp
  unfold fC at h;refine⟨by rw[hq];simp,fun m x=>?_⟩;rw[hq]at x
  simp only[ce,mz,gx]at x;rcases x with rfl|rfl|rfl
  ·exact⟨r,dI q h.1 (fun b w' l p=>iht f _ b w' (s.set J r) A l p)⟩
  ·exact⟨C,dI q h.2.1 (fun b w' l p=>ihu f _ b w' (s.set L C) B l p)⟩
  ·exact⟨X,dI q h.2.2 (fun b w' l p=>ihv f _ b w' (s.set ad X) M l p)⟩
end
section
variable {P:Program} {ops:Array Oper} {md:Region.Mode} {S:H->Prop} {Q:Exit->Act->H->Prop}
def qD (md:Region.Mode)(ops:Array Oper)(n:Nat)(dn:Array Bool->Bool):Sch->Nat->Array Bool->Bool
 | .done,f,listed=>decide (f=0)&&dn listed
 | .quiet i t,f,listed=>(decide (0<f)&&decide (i<n)&&((Region.ready md ops listed).contains i&&Region.free md ops listed i&&((ops[i]?).map xF).getD false))&&qD md ops n dn t (f-1) (listed.setIfInBounds i true)
 | .loud i t,f,listed=>(decide (0<f)&&decide (i<n)&&decide (Region.ready md ops listed=[i]))&&qD md ops n dn t (f-1) (listed.setIfInBounds i true)
 | .two i t j u,f,listed=>(decide (0<f)&&decide (i<n)&&decide (j<n)&&decide (Region.ready md ops listed=[i,j]))&&(qD md ops n dn t (f-1) (listed.setIfInBounds i true)&&qD md ops n dn u (f-1) (listed.setIfInBounds j true))
 | .three i t j u k v,f,listed=>(decide (0<f)&&decide (i<n)&&decide (j<n)&&decide (k<n)&&decide (Region.ready md ops listed=[i,j,k]))&&(qD md ops n dn t (f-1) (listed.setIfInBounds i true)&&(qD md ops n dn u (f-1) (listed.setIfInBounds j true)&&qD md ops n dn v (f-1) (listed.setIfInBounds k true)))
theorem aBl {n i:Nat}{m:Oper}{v:Value}{L:Array Bool->Act->H->Prop}(hi:ops[i]?=some m)(J:∀(j:Nat) (o:Oper) cs b,ops[j]?=some o->o.op≠.select cs b)
  (T:∀c a w,Q (.panic c) (a.put m.dst v) w->Q (.panic c) a w)
  (B:∀k,k<n->∀d,d.getD k true=false->∀t,n<=t->t∉Region.ready md ops d) (D:i<n)
  (X:∀d a w,L d a w->∀j∈Region.ready md ops d,n<=j) :
  ∀(f:Nat) (d:Array Bool) (a:Act) (w:H),HeadInv md ops n d ->
   (∀j p,ops[j]?=some p->j≠i->d.getD j true=false->(∀e∈p.after,Region.binds md e=true->e.on≠i)->m.apart ops p=true) ->
   i∈Region.ready md ops d->YieldsIf P ops S m v a->S w ->
   lZ P md ops Q S n L f (d.setIfInBounds i true) (a.put m.dst v) w->lZ P md ops Q S n L (f+1) d a w:=by
 intro f;induction f with
 | zero =>
  intro d a w M _ hr z r q;have y:=(ij.1 hr).1;refine⟨fun h=>(by rw[h]at hr;cases hr),fun j l=>?_⟩;have x:j<n:=by
   rcases ak j n with h|h
   ·exact h
   ·exact absurd l (B i D d y j h)
  refine⟨x,?_⟩;by_cases g:j=i
  ·subst g;exact z.wpOp hi r ⟨r,q⟩
  ·have:=X _ _ _ q j (jg l g);omega
 | succ f ih =>
  intro d a w M C hr z r q;have y:=(ij.1 hr).1;refine⟨fun h=>(by rw[h]at hr;cases hr),fun j l=>?_⟩;have x:j<n:=by
   rcases ak j n with h|h
   ·exact h
   ·exact absurd l (B i D d y j h)
  refine⟨x,?_⟩;by_cases g:j=i
  ·subst g;exact z.wpOp hi r ⟨r,q⟩
  ·have s:=(q.2 j (jg l g)).2;obtain⟨F,p,A,V⟩:=ij.1 l;have al:∀e∈p.after,Region.binds md e=true->e.on≠i:=fun e he W aa=>by
    have s:=V e he W;rw[aa,oq y]at s
    cases s
   have R:=wpOp_putIf A (C j p A g F al) (fun cs b=>J i m cs b hi) (fun cs b=>J j p cs b A) T z s;have ab:∀k ok,ops[k]?=some ok->k≠i->(d.setIfInBounds j true).getD k true=false ->
     (∀e∈ok.after,Region.binds md e=true->e.on≠i)->m.apart ops ok=true:=fun k ok hk ad K ah=>by
    refine C k ok hk ad ?_ ah;by_cases E:j=k
    ·subst E;exact F
    ·rw[tj true E]at K;exact K
   refine qk (fun N w' u=>⟨u.2.1,ih (d.setIfInBounds j true) N w' (M.set l x) ab (jg hr (ii g)) u.1 u.2.1 ?_⟩) R;rw[tm _ _ g];exact u.2.2
theorem aEX {n:Nat}{K:Act->H->Prop}(ab:Region.noSelect ops=true)(R:∀c d v (a:Act) w,Q (.panic c) (a.put d v) w->Q (.panic c) a w)
  (T:∀k,k<n->∀listed,listed.getD k true=false->∀t,n<=t->t∉Region.ready md ops listed) (E:Array Bool->Bool) (ad:∀listed,E listed=true->∀j∈Region.ready md ops listed,n<=j) :
  ∀(t:Sch) (f:Nat) (listed:Array Bool) (a:Act) (w:H),HeadInv md ops n listed->qD md ops n E t f listed=true->S w->fC P ops S K t a w ->
   lZ P md ops Q S n (fun A b w'=>E A=true/\K b w') f listed a w:=by
 have V:∀A (b:Act) (w':H),(E A=true/\K b w')->∀j∈Region.ready md ops A,n<=j:=fun A b w' hL=>ad A hL.1
 intro t;induction t with
 | done =>
  intro f listed a w _ e _ h;simp only[qD,bt,bm]at e;obtain⟨rfl,e⟩:=e;exact⟨e,h⟩
 | quiet i t ih =>
  intro f listed a w s e q h;simp only[qD,bt,bm]at e;obtain⟨⟨⟨J,r⟩,⟨⟨hr,W⟩,hv⟩⟩,y⟩:=e;obtain⟨f,rfl⟩:∃g,f=g+1:=⟨f-1,by omega⟩
  rw[go]at y
  unfold fC at h;cases ho:ops[i]? with
  | none=>simp only[ho]at h
  | some o =>
   simp only[ho]at h;have z:i∈Region.ready md ops listed:=by simpa using hr
   by_cases F:Region.wanted o (yielded ops a.tmps)=true
   ·simp only[F,fa]at h;obtain⟨v,l,p⟩:=h;exact aBl ho (kh ab) (fun c a w=>R c _ _ a w) T r V f listed a w s (ki ho W) z (.inl ⟨F,l⟩) q
     (ih f _ _ _ (s.set z r) y q p)
   ·simp only[F]at h;exact aBl ho (kh ab) (fun c a w=>R c _ _ a w) T r V f listed a w s (ki ho W) z (.inr ⟨by simpa using F,rfl⟩) q
     (ih f _ _ _ (s.set z r) y q h)
 | loud i t ih =>
  intro f listed a w s e q h;simp only[qD,bt,bm]at e;obtain⟨⟨⟨J,r⟩,hq⟩,y⟩:=e;obtain⟨f,rfl⟩:∃g,f=g+1:=⟨f-1,by omega⟩
  rw[go]at y
  have z:i∈Region.ready md ops listed:=by rw[hq];simp
  refine⟨by rw[hq];simp,fun j X=>?_⟩;rw[hq]at X
  have ah:j=i:=by simpa using X
  subst ah;unfold fC at h;exact⟨r,dI q h (fun b w' l p=>ih f _ b w' (s.set z r) y l p)⟩
 | two i t j u iht ihu =>
  intro f listed a w s e q h;simp only[qD,bt,bm]at e;obtain⟨⟨⟨⟨J,r⟩,D⟩,hq⟩,B,C⟩:=e;obtain⟨f,rfl⟩:∃g,f=g+1:=⟨f-1,by omega⟩
  rw[go]at B C
  have L:i∈Region.ready md ops listed:=by rw[hq];simp
  have M:j∈Region.ready md ops listed:=by rw[hq];simp
  unfold fC at h;refine⟨by rw[hq];simp,fun k x=>?_⟩;rw[hq]at x
  simp only[ce,mz,gx]at x;rcases x with rfl|rfl
  ·exact⟨r,dI q h.1 (fun b w' l p=>iht f _ b w' (s.set L r) B l p)⟩
  ·exact⟨D,dI q h.2 (fun b w' l p=>ihu f _ b w' (s.set M D) C l p)⟩
 | three i t j u k v iht ihu ihv =>
  intro f listed a w s e q h;simp only[qD,bt,bm]at e;obtain⟨⟨⟨⟨⟨J,r⟩,D⟩,aa⟩,hq⟩,B,C,N⟩:=e;obtain⟨f,rfl⟩:∃g,f=g+1:=⟨f-1,by omega⟩
  rw[go]at B C N
  have L:i∈Region.ready md ops listed:=by rw[hq];simp
  have M:j∈Region.ready md ops listed:=by rw[hq];simp
  have al:k∈Region.ready md ops listed:=by rw[hq];simp
  unfold fC at h;refine⟨by rw[hq];simp,fun m x=>?_⟩;rw[hq]at x
  simp only[ce,mz,gx]at x;rcases x with rfl|rfl|rfl
  ·exact⟨r,dI q h.1 (fun b w' l p=>iht f _ b w' (s.set L r) B l p)⟩
  ·exact⟨D,dI q h.2.1 (fun b w' l p=>ihu f _ b w' (s.set M D) C l p)⟩
  ·exact⟨aa,dI q h.2.2 (fun b w' l p=>ihv f _ b w' (s.set al aa) N l p)⟩
def aSR (md:Region.Mode)(ops:Array Oper)(n:Nat):Bool:=(List.range ops.size).all fun t=>decide (t<n)||(List.range n).all fun i=>Region.waitsFor md ops t i
def aSJ (md:Region.Mode)(ops:Array Oper)(n:Nat):Bool:=(List.range n).all fun i=>((ops[i]?).map fun o=>o.after.all fun e=>!Region.binds md e||decide (e.on<n)).getD true
def oD (n m:Nat):Array Bool:=Array.replicate n true++Array.replicate m false
theorem aCC (n m k:Nat):(oD n m).getD k false=decide (k<n):=by
 unfold oD;by_cases h:k<n;{rw[bu h];simp[Array.getD_eq_getD_getElem?,Array.getElem?_append,h]};{rw[bp h];by_cases a:k-n<m;{simp[Array.getD_eq_getD_getElem?,Array.getElem?_append,h,a]};{simp[Array.getD_eq_getD_getElem?,Array.getElem?_append,h,a]}}
theorem aDa {id:Nat}{a:Act}{w:H}{l:List Oper}(n:Nat)(p q:Sg)(S:H->Prop)(X:P.follows .mixedOrders=true)
  (C:(sgB l p&&(sgB l q&&(Region.noSelect l.toArray&&(decide (n<=l.length)&&(aSR .any l.toArray n&&(aSJ .any l.toArray n&&(qD .any l.toArray n (fun x=>decide (x=oD n (l.length-n))) p.sch n (Array.replicate l.length false) &&
   jH .any l.toArray l.length q.sch (l.length-n) (oD n (l.length-n)))))))))=true)
  (L:S (w.drewN 1)) (h:nU P l.toArray S l (fun m w'=>nU P l.toArray (fun _=>True) l (fun J a3=>∀Q',(∀a w,Q .normal a w->Q' .normal a w)->wpList P l.toArray Q' [] J a3) q m w') p a (w.drewN 1)):(Code.region id l.toArray true).wp P Q a w:=by
 simp only[bt,bm]at C;obtain⟨an,ao,D,hn,T,ar,ad,ah⟩:=C;have z:l.toArray.size=l.length:=by simp
 have N:∀t,l.length<=t->∀listed,t∉Region.ready .any l.toArray listed:=fun t A listed hr=>by
  obtain⟨_,ot,r,_⟩:=ij.1 hr;have b:=(d8.1 r).1;omega
 have M:∀k,k<n->∀listed,listed.getD k true=false->∀t,n<=t->t∉Region.ready .any l.toArray listed:=fun k W listed B t A hr=>by
  obtain⟨_,ot,r,R⟩:=ij.1 hr;have a0:=(d8.1 r).1;have b:=di.1 T t (fq.2 a0);simp only[k8,bm]at b;rcases b with b|b
  ·omega
  ·obtain⟨o',aa,e,u,s,ab⟩:=Region.waitsFor_spec (di.1 b k (fq.2 W));have:o'=ot:=b8 (aa.symm.trans r);subst this;have f:=R e u s;rw[ab,oq B]at f
   cases f
 refine tq ?_;have a1:HeadInv .any l.toArray n (Array.replicate l.toArray.size false) :=
  ⟨by simp,fun j oj _ i=>(by rw[mw]at i;cases i),fun t _ A=>getD_in (by simpa using A) (mw _ _)⟩
 have av:(oD n (l.length-n)).size=l.length:=by unfold oD;simp;omega
 have a2:HeadInv .any l.toArray l.length (oD n (l.length-n)):=by
  refine⟨by rw[av,z],fun j oj y i e u s=>?_,fun t b f=>absurd f (by omega)⟩;rw[aCC]at i ⊢
  have V:=bv i;have b:=di.1 ar j (fq.2 V);rw[y]at b
  simp only[mq,mf]at b;have f:=(Array.all_eq_true_iff_forall_mem.1 b) e u;rw[s]at f
  simpa using f
 have al:∀listed,decide (listed=oD n (l.length-n))=true->∀j∈Region.ready .any l.toArray listed,n<=j:=fun listed i j y=>by
  have i:=bv i;subst i;have B:=(ij.1 y).1;rcases ak j n with b|b
  ·have f:=aCC n (l.length-n) j;rw[oq B,bu b]at f
   cases f
  ·exact b
 have E:=aEX (P:=P) (Q:=NoPanic Q) (md:=.any) (S:=S) D (fun c d v a w h=>h) M (fun x=>decide (x=oD n (l.length-n))) al p.sch n _ a _ a1 (by simpa using ad) L (fU p a _ an h);refine ts X ?_;have:=mF (Q:=NoPanic Q) (g:=l.length-n) (fun listed m w' o=>by
  have i:listed=oD n (l.length-n):=bv o.1;subst i;have F:=aEY (P:=P) (Q:=NoPanic Q) (md:=.any) (S:=fun _=>True) D (fun c d v a w h=>h) N q.sch (l.length-n) _ m w' a2 ah trivial (fU q m w' ao o.2);have K:=mF (Q:=NoPanic Q) (g:=0) (fun listed m w' o=>by
   have f:=o.2 (NoPanic Q) (fun _ _ h=>h);have b:=o.1;rw[z,li]at b
   exact tt (md:=.any) (Q':=NoPanic Q) [] l.length listed m w' (fun j=>by simp) b f) _ _ _ _ F
  rwa[il]at K) _ _ _ _ E
 rw[show n+(l.length-n)=l.length by omega]at this
 rw[z];exact this
end
