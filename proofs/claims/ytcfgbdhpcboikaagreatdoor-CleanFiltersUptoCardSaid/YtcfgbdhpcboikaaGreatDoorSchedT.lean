/-
Regions that draw their order where two loud operations may be ready at once: the schedule as a tree.
-/
import Derived.Test.YtcfgbdhpcboikaaGreatDoorSched
namespace Go.Proofs.YtcfgbdhpcboikaaGreatDoor
inductive Sch
 | done
 | quiet (i:Nat) (t:Sch)
 | loud (i:Nat) (t:Sch)
 | two (i:Nat) (t:Sch) (j:Nat) (u:Sch)
 | three (i:Nat) (t:Sch) (j:Nat) (u:Sch) (k:Nat) (v:Sch)
section
variable {P:Program} {ops:Array Oper} {md:Region.Mode} {S:H->Prop} {Q:Exit->Act->H->Prop}
def iC (md:Region.Mode)(ops:Array Oper)(n:Nat):Sch->Nat->Array Bool->Bool
 | .done,f,listed=>decide (f=0)&&Region.seqB md ops (ops.size-n) n listed
 | .quiet i t,f,listed=>(decide (0<f)&&decide (i<n)&&((Region.ready md ops listed).contains i&&Region.free md ops listed i&&((ops[i]?).map vL).getD false))&&iC md ops n t (f-1) (listed.setIfInBounds i true)
 | .loud i t,f,listed=>(decide (0<f)&&decide (i<n)&&decide (Region.ready md ops listed=[i]))&&iC md ops n t (f-1) (listed.setIfInBounds i true)
 | .two i t j u,f,listed=>(decide (0<f)&&decide (i<n)&&decide (j<n)&&decide (Region.ready md ops listed=[i,j]))&&(iC md ops n t (f-1) (listed.setIfInBounds i true)&&iC md ops n u (f-1) (listed.setIfInBounds j true))
 | .three i t j u k v,f,listed=>(decide (0<f)&&decide (i<n)&&decide (j<n)&&decide (k<n)&&decide (Region.ready md ops listed=[i,j,k]))&&(iC md ops n t (f-1) (listed.setIfInBounds i true)&&(iC md ops n u (f-1) (listed.setIfInBounds j true)&&iC md ops n v (f-1) (listed.setIfInBounds k true)))
def pQ (P:Program)(ops:Array Oper)(S:H->Prop)(i:Nat)(T:Act->H->Prop)(a:Act)(w:H):Prop :=
 match ops[i]? with
 | none=>False
 | some o=>if Region.wanted o (yielded ops a.tmps)then o.wp P a w (fun a' w'=>S w'/\T a' w') (fun _ _ _=>False)else T (a.put o.dst undef) w
def dY (P:Program)(ops:Array Oper)(S:H->Prop)(K:Act->H->Prop):Sch->Act->H->Prop
 | .done,a,w=>K a w
 | .quiet i t,a,w =>
  match ops[i]? with
  | none=>False
  | some o =>
   if Region.wanted o (yielded ops a.tmps)then ∃v,(∀u,S u->(execOp a.eval o).run P u=.ok (.value v) u)/\dY P ops S K t (a.put o.dst v) w
   else dY P ops S K t (a.put o.dst undef) w
 | .loud i t,a,w=>pQ P ops S i (dY P ops S K t) a w
 | .two i t j u,a,w=>pQ P ops S i (dY P ops S K t) a w/\pQ P ops S j (dY P ops S K u) a w
 | .three i t j u k v,a,w=>pQ P ops S i (dY P ops S K t) a w/\pQ P ops S j (dY P ops S K u) a w/\pQ P ops S k (dY P ops S K v) a w
theorem cQ {n i f:Nat}{L:Array Bool->Act->H->Prop}{T:Act->H->Prop}{j:Array Bool}{a:Act}{w:H}(d:S w)(h:pQ P ops S i T a w)
  (e:∀b w',S w'->T b w'->kR P md ops Q S n L f (j.setIfInBounds i true) b w') :
  wpOp P ops Q i (fun b w'=>S w'/\kR P md ops Q S n L f (j.setIfInBounds i true) b w') a w:=by
 unfold pQ at h;cases ho:ops[i]? with
 | none=>simp only[ho]at h
 | some o =>
  simp only[ho]at h;unfold wpOp;simp only[ho];by_cases g:Region.wanted o (yielded ops a.tmps)=true
  ·simp only[g,ed]at h ⊢;exact .inl (Oper.wp_mono (fun b w' c=>⟨c.1,e b w' c.1 c.2⟩) (zU h))
  ·simp only[g]at h ⊢;exact⟨d,e _ _ d h⟩
theorem aD1 {n:Nat}{K:Act->H->Prop}(aa:Region.noSelect ops=true)(N:∀c d v (a:Act) w,Q (.panic c) (a.put d v) w->Q (.panic c) a w)
  (hs:Region.sinkB md ops n=true) (R:Region.chainB md ops n=true) (hn:n<ops.size) :
  ∀(t:Sch) (f:Nat) (listed:Array Bool) (a:Act) (w:H),HeadInv md ops n listed->iC md ops n t f listed=true->S w->dY P ops S K t a w ->
   kR P md ops Q S n (fun D b w'=>Region.seqB md ops (ops.size-n) n D=true/\K b w') f listed a w:=by
 have T:∀D (b:Act) (w':H),(Region.seqB md ops (ops.size-n) n D=true/\K b w')->∀j∈Region.ready md ops D,n<=j:=fun D b w' hL=>seqB_ready hL.1
 intro t;induction t with
 | done =>
  intro f listed a w _ e _ h;simp only[iC,bp,bi]at e;obtain⟨rfl,e⟩:=e;exact⟨e,h⟩
 | quiet i t ih =>
  intro f listed a w s e q h;simp only[iC,bp,bi]at e;obtain⟨⟨⟨F,r⟩,⟨⟨hr,V⟩,hv⟩⟩,y⟩:=e;obtain⟨f,rfl⟩:∃g,f=g+1:=⟨f-1,by omega⟩
  rw[gg]at y
  unfold dY at h;cases ho:ops[i]? with
  | none=>simp only[ho]at h
  | some o =>
   simp only[ho]at h;have z:i∈Region.ready md ops listed:=by simpa using hr
   by_cases E:Region.wanted o (yielded ops a.tmps)=true
   ·simp only[E,ed]at h;obtain⟨v,l,p⟩:=h;exact pO ho (jr aa) (fun c a w=>N c _ _ a w) hs R hn r T f listed a w s (js ho V) z (.inl ⟨E,l⟩) q
     (ih f _ _ _ (s.set z r) y q p)
   ·simp only[E]at h;exact pO ho (jr aa) (fun c a w=>N c _ _ a w) hs R hn r T f listed a w s (js ho V) z (.inr ⟨by simpa using E,rfl⟩) q
     (ih f _ _ _ (s.set z r) y q h)
 | loud i t ih =>
  intro f listed a w s e q h;simp only[iC,bp,bi]at e;obtain⟨⟨⟨F,r⟩,hq⟩,y⟩:=e;obtain⟨f,rfl⟩:∃g,f=g+1:=⟨f-1,by omega⟩
  rw[gg]at y
  have z:i∈Region.ready md ops listed:=by rw[hq];simp
  refine⟨by rw[hq];simp,fun j W=>?_⟩;rw[hq]at W
  have ab:j=i:=by simpa using W
  subst ab;unfold dY at h;exact⟨r,cQ q h (fun b w' l p=>ih f _ b w' (s.set z r) y l p)⟩
 | two i t j u iht ihu =>
  intro f listed a w s e q h;simp only[iC,bp,bi]at e;obtain⟨⟨⟨⟨F,r⟩,C⟩,hq⟩,A,B⟩:=e;obtain⟨f,rfl⟩:∃g,f=g+1:=⟨f-1,by omega⟩
  rw[gg]at A B
  have J:i∈Region.ready md ops listed:=by rw[hq];simp
  have L:j∈Region.ready md ops listed:=by rw[hq];simp
  unfold dY at h;refine⟨by rw[hq];simp,fun k x=>?_⟩;rw[hq]at x
  simp only[b9,mq,gi]at x;rcases x with rfl|rfl
  ·exact⟨r,cQ q h.1 (fun b w' l p=>iht f _ b w' (s.set J r) A l p)⟩
  ·exact⟨C,cQ q h.2 (fun b w' l p=>ihu f _ b w' (s.set L C) B l p)⟩
 | three i t j u k v iht ihu ihv =>
  intro f listed a w s e q h;simp only[iC,bp,bi]at e;obtain⟨⟨⟨⟨⟨F,r⟩,C⟩,X⟩,hq⟩,A,B,M⟩:=e;obtain⟨f,rfl⟩:∃g,f=g+1:=⟨f-1,by omega⟩
  rw[gg]at A B M
  have J:i∈Region.ready md ops listed:=by rw[hq];simp
  have L:j∈Region.ready md ops listed:=by rw[hq];simp
  have ac:k∈Region.ready md ops listed:=by rw[hq];simp
  unfold dY at h;refine⟨by rw[hq];simp,fun m x=>?_⟩;rw[hq]at x
  simp only[b9,mq,gi]at x;rcases x with rfl|rfl|rfl
  ·exact⟨r,cQ q h.1 (fun b w' l p=>iht f _ b w' (s.set J r) A l p)⟩
  ·exact⟨C,cQ q h.2.1 (fun b w' l p=>ihu f _ b w' (s.set L C) B l p)⟩
  ·exact⟨X,cQ q h.2.2 (fun b w' l p=>ihv f _ b w' (s.set ac X) M l p)⟩
theorem aGz {B:Nat}{a:Act}{w:H}{l:List Oper}(n:Nat)(t:Sch)(S:H->Prop)(r:P.follows .mixedOrders=true)
  (e:(Region.noSelect l.toArray&&Region.sinkB .any l.toArray n&&Region.chainB .any l.toArray n&&decide (n<l.length)&&iC .any l.toArray n t n (Array.replicate l.length false))=true)
  (p:S (w.drewN 1)) (h:dY P l.toArray S (fun b w'=>∀Q',(∀a w,Q .normal a w->Q' .normal a w)->wpList P l.toArray Q' (l.drop n) b w') t a (w.drewN 1)):(Code.region B l.toArray true).wp P Q a w:=by
 simp only[bp,bi]at e;obtain⟨⟨⟨⟨z,y⟩,q⟩,s⟩,x⟩:=e;refine ti ?_;have u:n<l.toArray.size:=by simpa using s
 have C:HeadInv .any l.toArray n (Array.replicate l.toArray.size false) :=
  ⟨by simp,fun j E _ k=>(by rw[mo]at k;cases k),fun t _ A=>getD_in (by simpa using A) (mo _ _)⟩
 have i:(l.drop n).length=l.toArray.size-n:=by simp
 have m:=aD1 (P:=P) (Q:=NoPanic Q) (md:=.any) (S:=S) z (fun c d v a w h=>h) y q u t n _ a _ C (by simpa using x) p h;refine tj r ?_;have:=kX (Q:=NoPanic Q) (g:=l.toArray.size-n) (fun D b w' f=>by
  have o:=f.2 (NoPanic Q) (fun _ _ h=>h);have:=tm (md:=.any) (Q':=NoPanic Q) (l.drop n) n D b w' (fun j=>by simp[List.getElem?_drop]) (by rw[i];exact f.1) o;rwa[i]at this) _ _ _ _ m
 rw[show n+(l.toArray.size-n)=l.toArray.size by omega]at this
 exact this
inductive Sg
 | fin (last:List Nat)
 | one (qs:List Nat) (i:Nat) (t:Sg)
 | two (qs:List Nat) (i:Nat) (t:Sg) (j:Nat) (u:Sg)
 | three (qs:List Nat) (i:Nat) (t:Sg) (j:Nat) (u:Sg) (k:Nat) (v:Sg)
def pH:List Nat->Sch->Sch
 | [],t=>t
 | i :: is,t=>.quiet i (pH is t)
def Sg.sch:Sg->Sch
 | .fin last=>pH last .done
 | .one qs i t=>pH qs (.loud i t.sch)
 | .two qs i t j u=>pH qs (.two i t.sch j u.sch)
 | .three qs i t j u k v=>pH qs (.three i t.sch j u.sch k v.sch)
def pR (P:Program)(ops:Array Oper)(S:H->Prop)(l:List Oper)(i:Nat)(T:Act->H->Prop)(a:Act)(w:H):Prop :=
 ∀Q':Exit->Act->H->Prop,(∀a2 w2,S w2->T a2 w2->Q' .normal a2 w2)->wpList P ops Q' (pick l [i]) a w
def mM (P:Program)(ops:Array Oper)(S:H->Prop)(l:List Oper)(K:Act->H->Prop):Sg->Act->H->Prop
 | .fin last,a,w=>wpQuiet P ops (InS S) (fun a'=>K a' w) (pick l last) a
 | .one qs i t,a,w=>wpQuiet P ops (InS S) (fun a'=>pR P ops S l i (mM P ops S l K t) a' w) (pick l qs) a
 | .two qs i t j u,a,w=>wpQuiet P ops (InS S) (fun a'=>pR P ops S l i (mM P ops S l K t) a' w/\pR P ops S l j (mM P ops S l K u) a' w) (pick l qs) a
 | .three qs i t j u k v,a,w=>wpQuiet P ops (InS S) (fun a'=>pR P ops S l i (mM P ops S l K t) a' w/\pR P ops S l j (mM P ops S l K u) a' w/\pR P ops S l k (mM P ops S l K v) a' w) (pick l qs) a
theorem dW {l:List Oper}{K:Act->H->Prop}{d:List Nat}{a:Act}{w:H}
  (h:∀b:Act->Prop,(∀c,K c w->b c)->wpQuiet P ops (InS S) b (pick l d) a):mM P ops S l K (.fin d) a w:=h _ (fun _ h=>h)
theorem cT {l:List Oper}{K:Act->H->Prop}{d:List Nat}{i:Nat}{t:Sg}{a:Act}{w:H}
  (h:∀b:Act->Prop,(∀c,pR P ops S l i (mM P ops S l K t) c w->b c)->wpQuiet P ops (InS S) b (pick l d) a):mM P ops S l K (.one d i t) a w:=h _ (fun _ h=>h)
theorem lS {l:List Oper}{K:Act->H->Prop}{d:List Nat}{i j:Nat}{t u:Sg}{a:Act}{w:H}
  (h:∀c:Act->Prop,(∀b,pR P ops S l i (mM P ops S l K t) b w->pR P ops S l j (mM P ops S l K u) b w->c b)->wpQuiet P ops (InS S) c (pick l d) a):mM P ops S l K (.two d i t j u) a w:=h _ (fun _ e f=>⟨e,f⟩)
def sgB (l:List Oper):Sg->Bool
 | .fin last=>kM l last
 | .one qs i t=>kM l qs&&(l[i]?).isSome&&sgB l t
 | .two qs i t j u=>kM l qs&&((l[i]?).isSome&&(l[j]?).isSome)&&(sgB l t&&sgB l u)
 | .three qs i t j u k v=>kM l qs&&((l[i]?).isSome&&((l[j]?).isSome&&(l[k]?).isSome))&&(sgB l t&&(sgB l u&&sgB l v))
theorem iJ {l:List Oper}{K:Act->H->Prop}{d:Act->Prop}{t:Sch}{w:H}(c:∀e,d e->dY P l.toArray S K t e w) :
  ∀(qs:List Nat) (a:Act),kM l qs=true->wpQuiet P l.toArray (InS S) d (pick l qs) a->dY P l.toArray S K (pH qs t) a w
 | [],a,_,h=>c a h
 | i :: qs,a,hB,h=>by
  simp only[kM,List.all_cons,bp]at hB;obtain⟨b,f⟩:=hB;cases ho:l[i]? with
  | none=>simp[ho]at b
  | some o =>
   simp only[ho,mg,lw]at b;have k:pick l (i :: qs)=o :: pick l qs:=by simp[pick,ho]
   rw[k]at h
   unfold wpQuiet at h;unfold pH dY;simp only[kf,ho];by_cases g:Region.wanted o (yielded l.toArray a.tmps)=true
   ·simp only[g,ed]at h ⊢;obtain⟨v,n,j⟩:=h;refine⟨v,fun u m=>?_,iJ c qs _ f j⟩;have:=n u ⟨⟨u,m⟩,rfl⟩;unfold Oper.quietAt at this;cases hr:(execOp a.eval o).run P u with
    | ok x w' =>
     obtain⟨v',rfl⟩:=aAL b a.eval P u x w' hr;rw[hr]at this
     simp only[Oper.quietUpon]at this;rw[this.1,this.2]
    | halt x w'=>rw[hr]at this;simp[Oper.quietUpon]at this
   ·simp only[g]at h ⊢;exact iJ c qs _ f h
theorem gK {l:List Oper}{i:Nat}{T k:Act->H->Prop}(hi:(l[i]?).isSome=true)(s:∀a w,T a w->k a w){a:Act}{w:H}(h:pR P l.toArray S l i T a w):pQ P l.toArray S i k a w:=by
 obtain⟨o,p⟩:=vo.1 hi;have b:=h (fun e m j=>e=.normal/\S j/\k m j) (fun m j y t=>⟨rfl,y,s m j t⟩);have u:pick l [i]=[o]:=by{simp[pick,p]};rw[u]at b;unfold pQ;simp only[kf,p];unfold wpList at b;by_cases q:Region.wanted o (yielded l.toArray a.tmps)=true;{simp only[q,ed]at b ⊢;rcases b with b|⟨_,_,_,hx,_⟩;{unfold Oper.wp at *;generalize (execOp a.eval o).run P w=r at *;cases r with|ok n w'=>{cases n<;>simp only[Oper.upon,wpList]at b ⊢;(case value v=>exact b.2);(case skip=>exact b.2);(case defer d=>exact b.2);(case enter f args =>exact b.mono fun e z g=>by{cases e with|returned v=>exact g.2|panicked c=>cases g.1|outgrown=>{obtain⟨_,_,hx,_⟩:=g;cases hx}});case row row args=>exact b.mono fun v z g=>g.2}|halt x w'=>{cases x<;>simp only[Oper.upon]at b ⊢;cases b.1}};{cases hx}};{simp only[q]at b ⊢;exact b.2.2}
theorem fC {l:List Oper}{K:Act->H->Prop}:∀(d:Sg) (a:Act) (w:H),sgB l d=true->mM P l.toArray S l K d a w->dY P l.toArray S K d.sch a w
 | .fin last,a,w,hB,h=>iJ (fun c b=>b) last a hB h
 | .one qs i t,a,w,hB,h=>by
  simp only[sgB,bp]at hB;refine iJ (fun c b=>?_) qs a hB.1.1 h;unfold dY;exact gK hB.1.2 (fun a w h=>fC t a w hB.2 h) b
 | .two qs i t j u,a,w,hB,h=>by
  simp only[sgB,bp]at hB;refine iJ (fun c b=>?_) qs a hB.1.1 h;unfold dY;exact⟨gK hB.1.2.1 (fun a w h=>fC t a w hB.2.1 h) b.1,gK hB.1.2.2 (fun a w h=>fC u a w hB.2.2 h) b.2⟩
 | .three qs i t j u k v,a,w,hB,h=>by
  simp only[sgB,bp]at hB;refine iJ (fun c b=>?_) qs a hB.1.1 h;unfold dY;exact⟨gK hB.1.2.1 (fun a w h=>fC t a w hB.2.1 h) b.1,gK hB.1.2.2.1 (fun a w h=>fC u a w hB.2.2.1 h) b.2.1,gK hB.1.2.2.2 (fun a w h=>fC v a w hB.2.2.2 h) b.2.2⟩
theorem yV {g:Nat}{a:Act}{w:H}{l:List Oper}(n:Nat)(b:Sg)(S:H->Prop)(f:P.follows .mixedOrders=true)
  (c:(sgB l b&&(Region.noSelect l.toArray&&Region.sinkB .any l.toArray n&&Region.chainB .any l.toArray n&&decide (n<l.length)&&iC .any l.toArray n b.sch n (Array.replicate l.length false)))=true)
  (e:S (w.drewN 1)) (h:mM P l.toArray S l (fun d w'=>∀Q',(∀a w,Q .normal a w->Q' .normal a w)->wpList P l.toArray Q' (l.drop n) d w') b a (w.drewN 1)):(Code.region g l.toArray true).wp P Q a w:=by
 simp only[bp (a:=sgB l b)]at c;exact aGz n b.sch S f c.2 e (fC b a _ c.1 h)
end
section
variable {P:Program} {ops:Array Oper} {md:Region.Mode} {S:H->Prop} {Q:Exit->Act->H->Prop}
theorem aAA {n i:Nat}{m:Oper}{v:Value}{L:Array Bool->Act->H->Prop}(hi:ops[i]?=some m)(E:∀(j:Nat) (o:Oper) cs b,ops[j]?=some o->o.op≠.select cs b)
  (R:∀c a w,Q (.panic c) (a.put m.dst v) w->Q (.panic c) a w)
  (A:∀t,n<=t->∀d,t∉Region.ready md ops d) (an:i<n)
  (W:∀d a w,L d a w->∀j∈Region.ready md ops d,n<=j) :
  ∀(f:Nat) (d:Array Bool) (a:Act) (w:H),HeadInv md ops n d ->
   (∀j p,ops[j]?=some p->j≠i->d.getD j true=false->(∀e∈p.after,Region.binds md e=true->e.on≠i)->m.apart ops p=true) ->
   i∈Region.ready md ops d->YieldsIf P ops S m v a->S w ->
   kR P md ops Q S n L f (d.setIfInBounds i true) (a.put m.dst v) w->kR P md ops Q S n L (f+1) d a w:=by
 intro f;induction f with
 | zero =>
  intro d a w K _ hr y r q;have F:=(g8.1 hr).1;refine⟨fun h=>(by rw[h]at hr;cases hr),fun j l=>?_⟩;have x:j<n:=by
   rcases ak j n with h|h
   ·exact h
   ·exact absurd l (A j h d)
  refine⟨x,?_⟩;by_cases g:j=i
  ·subst g;exact y.wpOp hi r ⟨r,q⟩
  ·have:=W _ _ _ q j (i7 l g);omega
 | succ f ih =>
  intro d a w K B hr y r q;have F:=(g8.1 hr).1;refine⟨fun h=>(by rw[h]at hr;cases hr),fun j l=>?_⟩;have x:j<n:=by
   rcases ak j n with h|h
   ·exact h
   ·exact absurd l (A j h d)
  refine⟨x,?_⟩;by_cases g:j=i
  ·subst g;exact y.wpOp hi r ⟨r,q⟩
  ·have s:=(q.2 j (i7 l g)).2;obtain⟨D,p,z,T⟩:=g8.1 l;have al:∀e∈p.after,Region.binds md e=true->e.on≠i:=fun e X V aa=>by
    have s:=T e X V;rw[aa,nu F]at s
    cases s
   have N:=wpOp_putIf z (B j p z g D al) (fun cs b=>E i m cs b hi) (fun cs b=>E j p cs b z) R y s;have ab:∀k ok,ops[k]?=some ok->k≠i->(d.setIfInBounds j true).getD k true=false ->
     (∀e∈ok.after,Region.binds md e=true->e.on≠i)->m.apart ops ok=true:=fun k ok hk ac J ad=>by
    refine B k ok hk ac ?_ ad;by_cases C:j=k
    ·subst C;exact D
    ·rw[tg true C]at J;exact J
   refine qe (fun M w' u=>⟨u.2.1,ih (d.setIfInBounds j true) M w' (K.set l x) ab (i7 hr (gz g)) u.1 u.2.1 ?_⟩) N;rw[th _ _ g];exact u.2.2
theorem aD0 {n:Nat}{K:Act->H->Prop}(aa:Region.noSelect ops=true)(N:∀c d v (a:Act) w,Q (.panic c) (a.put d v) w->Q (.panic c) a w)
  (R:∀t,n<=t->∀listed,t∉Region.ready md ops listed) :
  ∀(t:Sch) (f:Nat) (listed:Array Bool) (a:Act) (w:H),HeadInv md ops n listed->iC md ops n t f listed=true->S w->dY P ops S K t a w ->
   kR P md ops Q S n (fun D b w'=>Region.seqB md ops (ops.size-n) n D=true/\K b w') f listed a w:=by
 have T:∀D (b:Act) (w':H),(Region.seqB md ops (ops.size-n) n D=true/\K b w')->∀j∈Region.ready md ops D,n<=j:=fun D b w' hL=>seqB_ready hL.1
 intro t;induction t with
 | done =>
  intro f listed a w _ e _ h;simp only[iC,bp,bi]at e;obtain⟨rfl,e⟩:=e;exact⟨e,h⟩
 | quiet i t ih =>
  intro f listed a w s e q h;simp only[iC,bp,bi]at e;obtain⟨⟨⟨F,r⟩,⟨⟨hr,V⟩,hv⟩⟩,y⟩:=e;obtain⟨f,rfl⟩:∃g,f=g+1:=⟨f-1,by omega⟩
  rw[gg]at y
  unfold dY at h;cases ho:ops[i]? with
  | none=>simp only[ho]at h
  | some o =>
   simp only[ho]at h;have z:i∈Region.ready md ops listed:=by simpa using hr
   by_cases E:Region.wanted o (yielded ops a.tmps)=true
   ·simp only[E,ed]at h;obtain⟨v,l,p⟩:=h;exact aAA ho (jr aa) (fun c a w=>N c _ _ a w) R r T f listed a w s (js ho V) z (.inl ⟨E,l⟩) q
     (ih f _ _ _ (s.set z r) y q p)
   ·simp only[E]at h;exact aAA ho (jr aa) (fun c a w=>N c _ _ a w) R r T f listed a w s (js ho V) z (.inr ⟨by simpa using E,rfl⟩) q
     (ih f _ _ _ (s.set z r) y q h)
 | loud i t ih =>
  intro f listed a w s e q h;simp only[iC,bp,bi]at e;obtain⟨⟨⟨F,r⟩,hq⟩,y⟩:=e;obtain⟨f,rfl⟩:∃g,f=g+1:=⟨f-1,by omega⟩
  rw[gg]at y
  have z:i∈Region.ready md ops listed:=by rw[hq];simp
  refine⟨by rw[hq];simp,fun j W=>?_⟩;rw[hq]at W
  have ab:j=i:=by simpa using W
  subst ab;unfold dY at h;exact⟨r,cQ q h (fun b w' l p=>ih f _ b w' (s.set z r) y l p)⟩
 | two i t j u iht ihu =>
  intro f listed a w s e q h;simp only[iC,bp,bi]at e;obtain⟨⟨⟨⟨F,r⟩,C⟩,hq⟩,A,B⟩:=e;obtain⟨f,rfl⟩:∃g,f=g+1:=⟨f-1,by omega⟩
  rw[gg]at A B
  have J:i∈Region.ready md ops listed:=by rw[hq];simp
  have L:j∈Region.ready md ops listed:=by rw[hq];simp
  unfold dY at h;refine⟨by rw[hq];simp,fun k x=>?_⟩;rw[hq]at x
  simp only[b9,mq,gi]at x;rcases x with rfl|rfl
  ·exact⟨r,cQ q h.1 (fun b w' l p=>iht f _ b w' (s.set J r) A l p)⟩
  ·exact⟨C,cQ q h.2 (fun b w' l p=>ihu f _ b w' (s.set L C) B l p)⟩
 | three i t j u k v iht ihu ihv =>
  intro f listed a w s e q h;simp only[iC,bp,bi]at e;obtain⟨⟨⟨⟨⟨F,r⟩,C⟩,X⟩,hq⟩,A,B,M⟩:=e;obtain⟨f,rfl⟩:∃g,f=g+1:=⟨f-1,by omega⟩
  rw[gg]at A B M
  have J:i∈Region.ready md ops listed:=by rw[hq];simp
  have L:j∈Region.ready md ops listed:=by rw[hq];simp
  have ac:k∈Region.ready md ops listed:=by rw[hq];simp
  unfold dY at h;refine⟨by rw[hq];simp,fun m x=>?_⟩;rw[hq]at x
  simp only[b9,mq,gi]at x;rcases x with rfl|rfl|rfl
  ·exact⟨r,cQ q h.1 (fun b w' l p=>iht f _ b w' (s.set J r) A l p)⟩
  ·exact⟨C,cQ q h.2.1 (fun b w' l p=>ihu f _ b w' (s.set L C) B l p)⟩
  ·exact⟨X,cQ q h.2.2 (fun b w' l p=>ihv f _ b w' (s.set ac X) M l p)⟩
end
section
variable {P:Program} {ops:Array Oper} {md:Region.Mode} {S:H->Prop} {Q:Exit->Act->H->Prop}
def oU (md:Region.Mode)(ops:Array Oper)(n:Nat)(dn:Array Bool->Bool):Sch->Nat->Array Bool->Bool
 | .done,f,listed=>decide (f=0)&&dn listed
 | .quiet i t,f,listed=>(decide (0<f)&&decide (i<n)&&((Region.ready md ops listed).contains i&&Region.free md ops listed i&&((ops[i]?).map vL).getD false))&&oU md ops n dn t (f-1) (listed.setIfInBounds i true)
 | .loud i t,f,listed=>(decide (0<f)&&decide (i<n)&&decide (Region.ready md ops listed=[i]))&&oU md ops n dn t (f-1) (listed.setIfInBounds i true)
 | .two i t j u,f,listed=>(decide (0<f)&&decide (i<n)&&decide (j<n)&&decide (Region.ready md ops listed=[i,j]))&&(oU md ops n dn t (f-1) (listed.setIfInBounds i true)&&oU md ops n dn u (f-1) (listed.setIfInBounds j true))
 | .three i t j u k v,f,listed=>(decide (0<f)&&decide (i<n)&&decide (j<n)&&decide (k<n)&&decide (Region.ready md ops listed=[i,j,k]))&&(oU md ops n dn t (f-1) (listed.setIfInBounds i true)&&(oU md ops n dn u (f-1) (listed.setIfInBounds j true)&&oU md ops n dn v (f-1) (listed.setIfInBounds k true)))
theorem aAz {n i:Nat}{m:Oper}{v:Value}{L:Array Bool->Act->H->Prop}(hi:ops[i]?=some m)(J:∀(j:Nat) (o:Oper) cs b,ops[j]?=some o->o.op≠.select cs b)
  (T:∀c a w,Q (.panic c) (a.put m.dst v) w->Q (.panic c) a w)
  (B:∀k,k<n->∀d,d.getD k true=false->∀t,n<=t->t∉Region.ready md ops d) (D:i<n)
  (X:∀d a w,L d a w->∀j∈Region.ready md ops d,n<=j) :
  ∀(f:Nat) (d:Array Bool) (a:Act) (w:H),HeadInv md ops n d ->
   (∀j p,ops[j]?=some p->j≠i->d.getD j true=false->(∀e∈p.after,Region.binds md e=true->e.on≠i)->m.apart ops p=true) ->
   i∈Region.ready md ops d->YieldsIf P ops S m v a->S w ->
   kR P md ops Q S n L f (d.setIfInBounds i true) (a.put m.dst v) w->kR P md ops Q S n L (f+1) d a w:=by
 intro f;induction f with
 | zero =>
  intro d a w M _ hr z r q;have y:=(g8.1 hr).1;refine⟨fun h=>(by rw[h]at hr;cases hr),fun j l=>?_⟩;have x:j<n:=by
   rcases ak j n with h|h
   ·exact h
   ·exact absurd l (B i D d y j h)
  refine⟨x,?_⟩;by_cases g:j=i
  ·subst g;exact z.wpOp hi r ⟨r,q⟩
  ·have:=X _ _ _ q j (i7 l g);omega
 | succ f ih =>
  intro d a w M C hr z r q;have y:=(g8.1 hr).1;refine⟨fun h=>(by rw[h]at hr;cases hr),fun j l=>?_⟩;have x:j<n:=by
   rcases ak j n with h|h
   ·exact h
   ·exact absurd l (B i D d y j h)
  refine⟨x,?_⟩;by_cases g:j=i
  ·subst g;exact z.wpOp hi r ⟨r,q⟩
  ·have s:=(q.2 j (i7 l g)).2;obtain⟨F,p,A,V⟩:=g8.1 l;have al:∀e∈p.after,Region.binds md e=true->e.on≠i:=fun e he W aa=>by
    have s:=V e he W;rw[aa,nu y]at s
    cases s
   have R:=wpOp_putIf A (C j p A g F al) (fun cs b=>J i m cs b hi) (fun cs b=>J j p cs b A) T z s;have ab:∀k ok,ops[k]?=some ok->k≠i->(d.setIfInBounds j true).getD k true=false ->
     (∀e∈ok.after,Region.binds md e=true->e.on≠i)->m.apart ops ok=true:=fun k ok hk ac K ad=>by
    refine C k ok hk ac ?_ ad;by_cases E:j=k
    ·subst E;exact F
    ·rw[tg true E]at K;exact K
   refine qe (fun N w' u=>⟨u.2.1,ih (d.setIfInBounds j true) N w' (M.set l x) ab (i7 hr (gz g)) u.1 u.2.1 ?_⟩) R;rw[th _ _ g];exact u.2.2
theorem aDZ {n:Nat}{K:Act->H->Prop}(ab:Region.noSelect ops=true)(R:∀c d v (a:Act) w,Q (.panic c) (a.put d v) w->Q (.panic c) a w)
  (T:∀k,k<n->∀listed,listed.getD k true=false->∀t,n<=t->t∉Region.ready md ops listed) (E:Array Bool->Bool) (ac:∀listed,E listed=true->∀j∈Region.ready md ops listed,n<=j) :
  ∀(t:Sch) (f:Nat) (listed:Array Bool) (a:Act) (w:H),HeadInv md ops n listed->oU md ops n E t f listed=true->S w->dY P ops S K t a w ->
   kR P md ops Q S n (fun A b w'=>E A=true/\K b w') f listed a w:=by
 have V:∀A (b:Act) (w':H),(E A=true/\K b w')->∀j∈Region.ready md ops A,n<=j:=fun A b w' hL=>ac A hL.1
 intro t;induction t with
 | done =>
  intro f listed a w _ e _ h;simp only[oU,bp,bi]at e;obtain⟨rfl,e⟩:=e;exact⟨e,h⟩
 | quiet i t ih =>
  intro f listed a w s e q h;simp only[oU,bp,bi]at e;obtain⟨⟨⟨J,r⟩,⟨⟨hr,W⟩,hv⟩⟩,y⟩:=e;obtain⟨f,rfl⟩:∃g,f=g+1:=⟨f-1,by omega⟩
  rw[gg]at y
  unfold dY at h;cases ho:ops[i]? with
  | none=>simp only[ho]at h
  | some o =>
   simp only[ho]at h;have z:i∈Region.ready md ops listed:=by simpa using hr
   by_cases F:Region.wanted o (yielded ops a.tmps)=true
   ·simp only[F,ed]at h;obtain⟨v,l,p⟩:=h;exact aAz ho (jr ab) (fun c a w=>R c _ _ a w) T r V f listed a w s (js ho W) z (.inl ⟨F,l⟩) q
     (ih f _ _ _ (s.set z r) y q p)
   ·simp only[F]at h;exact aAz ho (jr ab) (fun c a w=>R c _ _ a w) T r V f listed a w s (js ho W) z (.inr ⟨by simpa using F,rfl⟩) q
     (ih f _ _ _ (s.set z r) y q h)
 | loud i t ih =>
  intro f listed a w s e q h;simp only[oU,bp,bi]at e;obtain⟨⟨⟨J,r⟩,hq⟩,y⟩:=e;obtain⟨f,rfl⟩:∃g,f=g+1:=⟨f-1,by omega⟩
  rw[gg]at y
  have z:i∈Region.ready md ops listed:=by rw[hq];simp
  refine⟨by rw[hq];simp,fun j X=>?_⟩;rw[hq]at X
  have ad:j=i:=by simpa using X
  subst ad;unfold dY at h;exact⟨r,cQ q h (fun b w' l p=>ih f _ b w' (s.set z r) y l p)⟩
 | two i t j u iht ihu =>
  intro f listed a w s e q h;simp only[oU,bp,bi]at e;obtain⟨⟨⟨⟨J,r⟩,D⟩,hq⟩,B,C⟩:=e;obtain⟨f,rfl⟩:∃g,f=g+1:=⟨f-1,by omega⟩
  rw[gg]at B C
  have L:i∈Region.ready md ops listed:=by rw[hq];simp
  have M:j∈Region.ready md ops listed:=by rw[hq];simp
  unfold dY at h;refine⟨by rw[hq];simp,fun k x=>?_⟩;rw[hq]at x
  simp only[b9,mq,gi]at x;rcases x with rfl|rfl
  ·exact⟨r,cQ q h.1 (fun b w' l p=>iht f _ b w' (s.set L r) B l p)⟩
  ·exact⟨D,cQ q h.2 (fun b w' l p=>ihu f _ b w' (s.set M D) C l p)⟩
 | three i t j u k v iht ihu ihv =>
  intro f listed a w s e q h;simp only[oU,bp,bi]at e;obtain⟨⟨⟨⟨⟨J,r⟩,D⟩,aa⟩,hq⟩,B,C,N⟩:=e;obtain⟨f,rfl⟩:∃g,f=g+1:=⟨f-1,by omega⟩
  rw[gg]at B C N
  have L:i∈Region.ready md ops listed:=by rw[hq];simp
  have M:j∈Region.ready md ops listed:=by rw[hq];simp
  have al:k∈Region.ready md ops listed:=by rw[hq];simp
  unfold dY at h;refine⟨by rw[hq];simp,fun m x=>?_⟩;rw[hq]at x
  simp only[b9,mq,gi]at x;rcases x with rfl|rfl|rfl
  ·exact⟨r,cQ q h.1 (fun b w' l p=>iht f _ b w' (s.set L r) B l p)⟩
  ·exact⟨D,cQ q h.2.1 (fun b w' l p=>ihu f _ b w' (s.set M D) C l p)⟩
  ·exact⟨aa,cQ q h.2.2 (fun b w' l p=>ihv f _ b w' (s.set al aa) N l p)⟩
def aRQ (md:Region.Mode)(ops:Array Oper)(n:Nat):Bool:=(List.range ops.size).all fun t=>decide (t<n)||(List.range n).all fun i=>Region.waitsFor md ops t i
def aRJ (md:Region.Mode)(ops:Array Oper)(n:Nat):Bool:=(List.range n).all fun i=>((ops[i]?).map fun o=>o.after.all fun e=>!Region.binds md e||decide (e.on<n)).getD true
def mU (n m:Nat):Array Bool:=Array.replicate n true++Array.replicate m false
theorem aBL (n m k:Nat):(mU n m).getD k false=decide (k<n):=by
 unfold mU;by_cases h:k<n;{rw[bt h];simp[Array.getD_eq_getD_getElem?,Array.getElem?_append,h]};{rw[bo h];by_cases a:k-n<m;{simp[Array.getD_eq_getD_getElem?,Array.getElem?_append,h,a]};{simp[Array.getD_eq_getD_getElem?,Array.getElem?_append,h,a]}}
theorem aCg {id:Nat}{a:Act}{w:H}{l:List Oper}(n:Nat)(p q:Sg)(S:H->Prop)(X:P.follows .mixedOrders=true)
  (C:(sgB l p&&(sgB l q&&(Region.noSelect l.toArray&&(decide (n<=l.length)&&(aRQ .any l.toArray n&&(aRJ .any l.toArray n&&(oU .any l.toArray n (fun x=>decide (x=mU n (l.length-n))) p.sch n (Array.replicate l.length false) &&
   iC .any l.toArray l.length q.sch (l.length-n) (mU n (l.length-n)))))))))=true)
  (L:S (w.drewN 1)) (h:mM P l.toArray S l (fun m w'=>mM P l.toArray (fun _=>True) l (fun J a3=>∀Q',(∀a w,Q .normal a w->Q' .normal a w)->wpList P l.toArray Q' [] J a3) q m w') p a (w.drewN 1)):(Code.region id l.toArray true).wp P Q a w:=by
 simp only[bp,bi]at C;obtain⟨an,ao,D,hn,T,av,ac,ad⟩:=C;have z:l.toArray.size=l.length:=by simp
 have N:∀t,l.length<=t->∀listed,t∉Region.ready .any l.toArray listed:=fun t A listed hr=>by
  obtain⟨_,ot,r,_⟩:=g8.1 hr;have b:=(dq.1 r).1;omega
 have M:∀k,k<n->∀listed,listed.getD k true=false->∀t,n<=t->t∉Region.ready .any l.toArray listed:=fun k W listed B t A hr=>by
  obtain⟨_,ot,r,R⟩:=g8.1 hr;have a0:=(dq.1 r).1;have b:=da.1 T t (fg.2 a0);simp only[la,bi]at b;rcases b with b|b
  ·omega
  ·obtain⟨o',aa,e,u,s,ab⟩:=Region.waitsFor_spec (da.1 b k (fg.2 W));have:o'=ot:=cy (aa.symm.trans r);subst this;have f:=R e u s;rw[ab,nu B]at f
   cases f
 refine ti ?_;have a1:HeadInv .any l.toArray n (Array.replicate l.toArray.size false) :=
  ⟨by simp,fun j oj _ i=>(by rw[mo]at i;cases i),fun t _ A=>getD_in (by simpa using A) (mo _ _)⟩
 have aw:(mU n (l.length-n)).size=l.length:=by unfold mU;simp;omega
 have a2:HeadInv .any l.toArray l.length (mU n (l.length-n)):=by
  refine⟨by rw[aw,z],fun j oj y i e u s=>?_,fun t b f=>absurd f (by omega)⟩;rw[aBL]at i ⊢
  have V:=br i;have b:=da.1 av j (fg.2 V);rw[y]at b
  simp only[mg,lw]at b;have f:=(Array.all_eq_true_iff_forall_mem.1 b) e u;rw[s]at f
  simpa using f
 have al:∀listed,decide (listed=mU n (l.length-n))=true->∀j∈Region.ready .any l.toArray listed,n<=j:=fun listed i j y=>by
  have i:=br i;subst i;have B:=(g8.1 y).1;rcases ak j n with b|b
  ·have f:=aBL n (l.length-n) j;rw[nu B,bt b]at f
   cases f
  ·exact b
 have E:=aDZ (P:=P) (Q:=NoPanic Q) (md:=.any) (S:=S) D (fun c d v a w h=>h) M (fun x=>decide (x=mU n (l.length-n))) al p.sch n _ a _ a1 (by simpa using ac) L (fC p a _ an h);refine tj X ?_;have:=kX (Q:=NoPanic Q) (g:=l.length-n) (fun listed m w' o=>by
  have i:listed=mU n (l.length-n):=br o.1;subst i;have F:=aD0 (P:=P) (Q:=NoPanic Q) (md:=.any) (S:=fun _=>True) D (fun c d v a w h=>h) N q.sch (l.length-n) _ m w' a2 ad trivial (fC q m w' ao o.2);have K:=kX (Q:=NoPanic Q) (g:=0) (fun listed m w' o=>by
   have f:=o.2 (NoPanic Q) (fun _ _ h=>h);have b:=o.1;rw[z,kx]at b
   exact tm (md:=.any) (Q':=NoPanic Q) [] l.length listed m w' (fun j=>by simp) b f) _ _ _ _ F
  rwa[gw]at K) _ _ _ _ E
 rw[show n+(l.length-n)=l.length by omega]at this
 rw[z];exact this
end
