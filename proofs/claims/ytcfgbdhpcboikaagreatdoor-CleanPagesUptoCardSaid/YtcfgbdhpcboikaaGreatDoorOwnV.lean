/-
A slice of the call's own, of elements of any type: append of one element and of some, and reading it.
-/
import Derived.Test.YtcfgbdhpcboikaaGreatDoorBase
namespace Go.Proofs.YtcfgbdhpcboikaaGreatDoor
open Go.RowKit
theorem pR {n:Nat}:n<=n:=ag n
def lD (w:H)(v:Value)(n:Nat)(xs:List Value):Prop :=
 ∃a c,v=.slice a n c/\∀j u,xs[j]?=some u->∃g off,a=some ⟨g,off,none⟩/\w.cell? ⟨g,off+j,none⟩=some u
theorem lD.below {w w':H}{B n:Nat}{v:Value}{xs:List Value}(h:lD w v n xs)(i:Below B w w')(d:w.heap.size<=B):lD w' v n xs:=by
 obtain⟨a,c,e,h⟩:=h;refine⟨a,c,e,fun j u l=>?_⟩;obtain⟨g,m,f,b⟩:=h j u l;have k:g<B:=cf (ed w _ b) d;exact⟨g,m,f,by rw[i.cell (p:=⟨g,_,none⟩) k];exact b⟩
theorem lD.get {w:H}{v:Value}{n:Nat}{d:List Value}(h:lD w v n d)(j:Nat)(k:j<d.length):∃g b c,v=.slice (some ⟨g,b,none⟩) n c/\w.cell? ⟨g,b+j,none⟩=some d[j]:=by
 obtain⟨a,c,e,h⟩:=h;obtain⟨g,b,f,i⟩:=h j _ (bc k);exact⟨g,b,c,by rw[e,f],i⟩
structure aJ (B:Nat) (e:TypeId) (size:Nat) (v:Value) (n:Nat) (xs:List Value) (W0 w:H):Prop where
 own:w.ownsRow B e size v n xs
 bel:Below B W0 w
 base:B<=w.heap.size
theorem aJ.nil (W:H)(e:TypeId)(size:Nat):aJ W.heap.size e size (.slice none 0 0) 0 [] W W:=⟨qz _ _ _ _,aj _ _,ag _⟩
theorem aJ.of {B:Nat}{b w:H}(e:TypeId)(size:Nat)(d:Below B b w)(c:B<=w.heap.size):aJ B e size (.slice none 0 0) 0 [] b w:=⟨qz _ _ _ _,d,c⟩
theorem aJ.cast {B:Nat}{e:TypeId}{size:Nat}{v:Value}{n c:Nat}{d f:List Value}{b w:H}(h:aJ B e size v n d b w)(g:n=c)(hx:d=f):aJ B e size v c f b w:=by
 subst g;subst hx;exact h
theorem aJ.keep {B:Nat}{e:TypeId}{size:Nat}{v:Value}{n:Nat}{f:List Value}{c w w':H}(h:aJ B e size v n f c w)(b:Below w.heap.size w w'):aJ B e size v n f c w':=by
 refine⟨⟨h.own.1,?_⟩,h.bel.trans (b.mono h.base),bg h.base b.size⟩;rcases h.own.2 with j|⟨g,cap,cur,hv,hB,d,rest⟩;{exact .inl j};{have i:g<w.heap.size:=(d8.1 d).1;exact .inr ⟨g,cap,cur,hv,hB,by rw[b.block g i];exact d,rest⟩}
theorem aJ.alloc {B:Nat}{e:TypeId}{size:Nat}{v:Value}{n:Nat}{c:List Value}{b w:H}(h:aJ B e size v n c b w)(o:Obj):aJ B e size v n c b (w.alloc o) :=
 h.keep ((aj _ w).alloc pR o)
theorem aJ.drew {B:Nat}{e:TypeId}{size:Nat}{v:Value}{n:Nat}{c:List Value}{b w:H}(h:aJ B e size v n c b w):aJ B e size v n c b w.drew:=h.keep (aj _ w).drew
theorem aJ.vec {B:Nat}{e:TypeId}{size:Nat}{v:Value}{n:Nat}{xs:List Value}{d w:H}(h:aJ B e size v n xs d w):lD w v n xs:=by
 rcases h.own.2 with⟨c,h0⟩|⟨g,cap,f,c,l,i,q,m,p,k⟩;{have hx:xs=[]:=fv (by rw[h.own.1,h0,i8]);exact⟨none,0,by rw[c,h0],fun j u b=>by rw[hx]at b;simp at b⟩};{refine⟨_,_,c,fun j u b=>⟨g,0,rfl,?_⟩⟩;rw[be,aq w g j f e (0,0) i];rw[<-k,gg]at b;split at b;{simpa using b};{cases b}}
theorem aJ.slice {B:Nat}{e:TypeId}{size:Nat}{v:Value}{n:Nat}{m:List Value}{f w:H}(h:aJ B e size v n m f w):∃a c,v=.slice a n c/\n<=c/\∀y,a=some y->B<=y.block/\y.block<w.heap.size:=by
 rcases h.own.2 with⟨b,i⟩|⟨g,cap,p,b,j,k,l,q,r,s⟩;{exact⟨none,0,by rw[b,i],by omega,fun y d=>by cases d⟩};{refine⟨_,_,b,l,fun y d=>?_⟩;cases d;exact⟨j,(d8.1 k).1⟩}
theorem aJ.isB {B:Nat}{v:Value}{n:Nat}{a:Option Addr}{c:Nat}{bs:U}{f w:H}(h:aJ B 5 1 v n (bs.map dW) f w)(p:v=.slice a n c):IsB w a bs:=by
 intro j b l;obtain⟨q,r,e,h⟩:=h.vec;rw[p]at e;simp only[cg]at e;obtain⟨rfl,_,_⟩:=e;obtain⟨g,d,i,m⟩:=h j (dW b) (by rw[gv,l];rfl);refine⟨_,i,?_⟩;have k:(⟨g,d,none⟩:Addr).add j=⟨g,d+j,none⟩:=by{unfold Addr.add;split<;>simp_all};rw[k];exact m
structure dH (w w':H) (v v':Value):Prop where
 gr:w.grownBy w' v.ownBlock
 loc:v'.ownBlock=v.ownBlock\/∃k,v'.ownBlock=some k/\w.heap.size<=k
def pE (v u:Value):Prop:=v.ownBlock=none\/u.ownBlock=none\/v.ownBlock≠u.ownBlock
theorem pE.nil (v:Value):pE (.slice none 0 0) v:=.inl rfl
theorem pE.symm {v u:Value}(h:pE v u):pE u v:=by
 rcases h with h|h|h;{exact .inr (.inl h)};{exact .inl h};{exact .inr (.inr (ii h))}
theorem dH.other {B:Nat}{e:TypeId}{size:Nat}{u v v':Value}{n:Nat}{i:List Value}{d w w':H}(h:dH w w' v v')(c:aJ B e size u n i d w)(j:pE v u)(p:∀k,v.ownBlock=some k->B<=k):aJ B e size u n i d w':=by
 refine⟨⟨c.own.1,?_⟩,c.bel.grown h.gr c.base p,bg c.base h.gr.size⟩;rcases c.own.2 with m|⟨g,cap,cur,rfl,hB,f,rest⟩;{exact .inl m};{have l:g<w.heap.size:=(d8.1 f).1;refine .inr ⟨g,cap,cur,rfl,hB,?_,rest⟩;rw[h.gr.block g l (fun e=>?_)];{exact f};{rcases j with b|b|b;{rw[b]at e;cases e};{cases b};{exact b e.symm}}}
theorem dH.apart {B:Nat}{e:TypeId}{size:Nat}{u v v':Value}{n:Nat}{l:List Value}{b w w':H}(h:dH w w' v v')(d:aJ B e size u n l b w)(f:pE v u):pE v' u:=by
 rcases h.loc with c|⟨k,j,q⟩;{unfold pE;rw[c];exact f};{rcases d.own.2 with⟨rfl,_⟩|⟨g,cap,m,rfl,p,i,rest⟩;{exact .inr (.inl rfl)};{have r:g<w.heap.size:=(d8.1 i).1;refine .inr (.inr ?_);rw[j];intro e;simp[Value.ownBlock]at e;omega}}
theorem aJ.hi {B:Nat}{e:TypeId}{size:Nat}{v:Value}{n:Nat}{h:List Value}{c w:H}(d:aJ B e size v n h c w):∀k,v.ownBlock=some k->k<w.heap.size:=by
 intro k b;rcases d.own.2 with⟨rfl,_⟩|⟨g,cap,i,rfl,j,f,_⟩;{simp[Value.ownBlock]at b};{simp[Value.ownBlock]at b;subst b;exact(d8.1 f).1}
theorem dH.cell {w w':H}{v v' u:Value}{p:Addr}(h:dH w w' v v')(b:w.cell? p=some u)(c:v.ownBlock=some p.block->False):w'.cell? p=some u :=
 (qy (h.gr.block p.block (ed w p b) (fun e=>c e.symm))).trans b
theorem pL {w:H}{p:Addr}{u:Value}{o:Obj}(b:w.cell? p=some u):(w.alloc o).cell? p=some u:=by
 rw[((aj w.heap.size w).alloc pR o).cell (ed w p b)];exact b
theorem aJ.lo {B:Nat}{e:TypeId}{size:Nat}{v:Value}{n:Nat}{h:List Value}{c w:H}(d:aJ B e size v n h c w):∀k,v.ownBlock=some k->B<=k:=by
 intro k b;rcases d.own.2 with⟨rfl,_⟩|⟨g,cap,i,rfl,f,_⟩;{simp[Value.ownBlock]at b};{simp[Value.ownBlock]at b;subst b;exact f}
section
variable {P:Program} {w:H} {ops:Array Oper} {rest:List Oper} {o:Oper} {a:Act} {Q:Exit->Act->H->Prop}
theorem nW (C:o.guard=none)(s x:Operand)(t:TypeId)
  (F:o.op=.call { callee:=.builtin .append,args:=#[s,x],argTypes:=#[t,t] })
  (e:TypeId) (i:TypeInfo) (z:Value) (size k:Nat) (N:P.underlying t=some (.slice e)) (hi:P.info? e=some i) (S:i.zero=some z)
  (L:i.size=size) (A:i.bytes=k) (T:z.cells.size=size) (M:0<size)
  {B:Nat} {q:H} (v:Value) (n:Nat) (p:List Value) (K:a.eval s=v) (b:aJ B e size v n p q w)
  (g:Addr) (m c:Nat) (f:List Value) (hx:a.eval x=.slice (some g) m c) (D:f.length=m*size) (E:∀j u,f[j]?=some u->w.cell? (g.add j)=some u) (r:f.all (fun u=>u.oneCell')=true)
  (y:(n+m)*k<=140737488355328) (V:n+m<=140737488355328)
  (h:∀v' w',G (aJ B e size v' (n+m) (p++f) q w')->G (dH w w' v v')->wpList P ops Q rest (a.put o.dst v') w'):wpList P ops Q (o :: rest) a w:=by
 refine wpList_append_own_at w C s x t F B e i z size k N hi S L A T M v n p K b.own g m c f hx D E (fun u R=>di.1 r u R) (by unfold maxLen;omega) y b.base ?_;intro v' w' J l _ d;refine h v' w' ⟨J,b.bel.grown l b.base b.lo,bg b.base l.size⟩ ⟨l,?_⟩;rcases d with d|d
 ·exact .inl d
 ·exact .inr ⟨_,d,ag _⟩
theorem bE (r:o.guard=none)(s x:Operand)(t:TypeId)
  (C:o.op=.call { callee:=.builtin .append,args:=#[s,x],argTypes:=#[t,t] })
  (e:TypeId) (i:TypeInfo) (z:Value) (size c:Nat) (J:P.underlying t=some (.slice e)) (hi:P.info? e=some i) (L:i.zero=some z)
  (E:i.size=size) (p:i.bytes=c) (M:z.cells.size=size) (F:0<size)
  {B:Nat} {f b:H} (v:Value) (n:Nat) (d:List Value) (D:a.eval s=v) (k:aJ B e size v n d f b)
  (cs:Array Value) (K:w=b.alloc (.cells cs e)) (hx:a.eval x=.slice (some ⟨b.heap.size,0,none⟩) 1 1) (q:cs.size=size) (g:cs.toList.all (fun u=>u.oneCell')=true)
  (m:(n+1)*c<=140737488355328) (A:n+1<=140737488355328)
  (h:∀v' w',G (aJ B e size v' (n+1) (d++cs.toList) f w')->G (dH (b.alloc (.cells cs e)) w' v v')->wpList P ops Q rest (a.put o.dst v') w'):wpList P ops Q (o :: rest) a w:=by
 subst K;refine nW r s x t C e i z size c J hi L E p M F v n d D (k.alloc _) ⟨b.heap.size,0,none⟩ 1 1 cs.toList hx (by simpa using q) ?_ g m A h;intro j u y;have l:(⟨b.heap.size,0,none⟩:Addr).add j=⟨b.heap.size,j,none⟩:=by unfold Addr.add;split<;>simp_all
 rw[l,aq _ _ j cs e (0,0) (bi b _)];simpa using y
end
open Go.RowKit
def kL (w:H)(xs:List Value)(ks:List Nd):Prop :=
 xs.length=ks.length*6/\∀j (h:j<ks.length),∃c0 c1 c2 c3 c4 c5,xs[j*6]?=some c0/\xs[j*6+1]?=some c1/\xs[j*6+2]?=some c2/\xs[j*6+3]?=some c3/\xs[j*6+4]?=some c4/\xs[j*6+5]?=some c5/\aH w ks[j] (.agg #[c0,c1,c2,c3,c4,c5])
theorem kL.below {w w':H}{B:Nat}{b:List Value}{ks:List Nd}(h:kL w b ks)(l:Below B w w')(k:w.heap.size<=B):kL w' b ks:=by
 refine⟨h.1,fun j m=>?_⟩;obtain⟨c0,c1,c2,c3,c4,c5,c,d,e,f,g,i,n⟩:=h.2 j m;exact⟨c0,c1,c2,c3,c4,c5,c,d,e,f,g,i,n.below l k⟩
theorem zK {w:H}{a:Option Addr}{k:List Nd}(h:aW w a 0 k):∃c,kL w c k/\∀j u,c[j]?=some u->∃g d,a=some ⟨g,d,none⟩/\w.cell? ⟨g,d+j,none⟩=some u:=by
 have L:∀(m:Nat),m<=k.length->∃c,kL w c (k.take m)/\∀j u,c[j]?=some u->∃g d,a=some ⟨g,d,none⟩/\w.cell? ⟨g,d+j,none⟩=some u:=by
  intro m;induction m with
  | zero=>intro _;exact⟨[],⟨by simp,fun j b=>by simp at b⟩,fun j u b=>by simp at b⟩
  | succ m ih =>
   intro q;obtain⟨c,⟨p,hx⟩,E⟩:=ih (by omega);obtain⟨g,d,c0,c1,c2,c3,c4,c5,D,f,J⟩:=h.get k 0 m (by omega);rw[be]at f
   rw[br,jn (by omega)]at p
   have e:∀t,(c++[c0,c1,c2,c3,c4,c5])[m*6+t]?=[c0,c1,c2,c3,c4,c5][t]?:=fun t=>by rw[iu (by omega),show m*6+t-c.length=t by omega]
   refine⟨c++[c0,c1,c2,c3,c4,c5],⟨?_,fun j b=>?_⟩,fun j u b=>?_⟩
   ·rw[aw,br,jn q,p];simp;omega
   ·rw[br,jn q]at b
    by_cases M:j<m
    ·obtain⟨s,x,y,z,A,B,K,k1,k2,k3,k4,k5,r⟩:=hx j (by rw[br];omega);have l:∀i v,c[i]?=some v->(c++[c0,c1,c2,c3,c4,c5])[i]?=some v:=fun i v hi=>by rw[ib (fc.1 hi).1];exact hi
     refine⟨s,x,y,z,A,B,l _ _ K,l _ _ k1,l _ _ k2,l _ _ k3,l _ _ k4,l _ _ k5,?_⟩;rw[nu]at r ⊢
     exact r
    ·obtain rfl:j=m:=by omega
     refine⟨c0,c1,c2,c3,c4,c5,e 0,e 1,e 2,e 3,e 4,e 5,?_⟩;rw[nu];exact J
   ·by_cases F:j<c.length
    ·rw[ib F]at b
     exact E j u b
    ·obtain⟨t,rfl⟩:∃t,j=m*6+t:=⟨j-m*6,by omega⟩
     rw[e]at b
     refine⟨g,d,D,?_⟩;rw[show d+(m*6+t)=d+m*6+t by omega];match t,b with
     | 0,b=>simp at b;subst b;exact f.x0
     | 1,b=>simp at b;subst b;exact f.x1
     | 2,b=>simp at b;subst b;exact f.x2
     | 3,b=>simp at b;subst b;exact f.x3
     | 4,b=>simp at b;subst b;exact f.x4
     | 5,b=>simp at b;subst b;exact f.x5
     | t+6,b=>simp at b
 obtain⟨c,n,C⟩:=L k.length pR;rw[jm]at n;exact⟨c,n,C⟩
theorem kL.snoc {w:H}{e:List Value}{c:List Nd}{x:Nd}{c0 c1 c2 c3 c4 c5:Value}(h:kL w e c)(hx:aH w x (.agg #[c0,c1,c2,c3,c4,c5])):kL w (e++[c0,c1,c2,c3,c4,c5]) (c++[x]):=by
 obtain⟨n,h⟩:=h;have b:∀t,(e++[c0,c1,c2,c3,c4,c5])[c.length*6+t]?=[c0,c1,c2,c3,c4,c5][t]?:=fun t=>by{rw[iu (by omega),show c.length*6+t-e.length=t by omega]};refine⟨by simp;omega,fun j k=>?_⟩;have d:∀i v,e[i]?=some v->(e++[c0,c1,c2,c3,c4,c5])[i]?=some v:=fun i v hi=>by{rw[ib (fc.1 hi).1];exact hi};by_cases f:j<c.length;{obtain⟨g,d1,d2,d3,d4,d5,k0,k1,k2,k3,k4,k5,m⟩:=h j f;refine⟨g,d1,d2,d3,d4,d5,d _ _ k0,d _ _ k1,d _ _ k2,d _ _ k3,d _ _ k4,d _ _ k5,?_⟩;rw[kf f];exact m};{have l:j=c.length:=by{simp at k;omega};subst l;refine⟨c0,c1,c2,c3,c4,c5,b 0,b 1,b 2,b 3,b 4,b 5,?_⟩;rw[jf pR];simpa using hx}
open Go.RowKit
def gT (D:Nat->Prop)(w:H)(a:Option Addr)(l:List (I × I)):Prop :=
 ∀j (h:j<l.length),∃g off,a=some ⟨g,off,none⟩/\D g/\w.cell? ⟨g,off+j*2,none⟩=some (.string (l[j]).1)/\w.cell? ⟨g,off+j*2+1,none⟩=some (.string (l[j]).2)
mutual
def bS (D:Nat->Prop)(w:H):Nd->Value->Prop
 | .mk kd sp nm at' tx ks,v=>∃aa ca a c,v=.agg #[.int .i64 kd,.int .i64 sp,.string nm,.slice aa at'.length ca,.string tx,.slice a ks.length c]/\ks.length<=140737488355328/\gT D w aa at'/\aC D w a 0 ks
def aC (D:Nat->Prop)(w:H)(a:Option Addr):Nat->List Nd->Prop
 | _,[]=>True
 | i,n :: ks=>(∃g off c0 c1 c2 c3 c4 c5,a=some ⟨g,off,none⟩/\D g/\Six w g (off+i*6) c0 c1 c2 c3 c4 c5/\bS D w n (.agg #[c0,c1,c2,c3,c4,c5]))/\aC D w a (i+1) ks
end
theorem kV {w w':H}{g o:Nat}{v:Value}(h:w'.heap[g]?=w.heap[g]?)(b:w.cell? ⟨g,o,none⟩=some v):w'.cell? ⟨g,o,none⟩=some v :=
 (qy h).trans b
theorem Six.same {w w':H}{g o:Nat}{c0 c1 c2 c3 c4 c5:Value}(h:Six w g o c0 c1 c2 c3 c4 c5)(e:w'.heap[g]?=w.heap[g]?):Six w' g o c0 c1 c2 c3 c4 c5 :=
 ⟨kV e h.x0,kV e h.x1,kV e h.x2,kV e h.x3,kV e h.x4,kV e h.x5⟩
theorem Six.lt {w:H}{g o:Nat}{c0 c1 c2 c3 c4 c5:Value}(h:Six w g o c0 c1 c2 c3 c4 c5):g<w.heap.size:=ed w _ h.x0
theorem gT.keep {D D':Nat->Prop}{w w':H}(k:∀g,g<w.heap.size->D g->w'.heap[g]?=w.heap[g]?/\D' g){a:Option Addr}{l:List (I × I)}(h:gT D w a l):gT D' w' a l:=by
 intro j i;obtain⟨g,m,d,hd,b,c⟩:=h j i;obtain⟨e,f⟩:=k g (ed w _ b) hd;exact⟨g,m,d,f,kV e b,kV e c⟩
theorem aBq {D D':Nat->Prop}{w w':H}(j:∀g,g<w.heap.size->D g->w'.heap[g]?=w.heap[g]?/\D' g):∀m:Nat,(∀(n:Nd) (v:Value),n.sz<=m->bS D w n v->bS D' w' n v)/\(∀(a:Option Addr) (b:List Nd) (i:Nat),aB b<=m->aC D w a i b->aC D' w' a i b):=by
 intro m;induction m with|zero=>{refine⟨fun n v l=>absurd (gJ n) (by omega),fun a b=>?_⟩;cases b with|nil=>{intro i _ h;unfold aC;trivial}|cons k b=>{intro i d;unfold aB at d;exact absurd (gJ k) (by omega)}}|succ m ih=>{have f:∀(n:Nd) (v:Value),n.sz<=m+1->bS D w n v->bS D' w' n v:=by{intro n v d h;cases n with|mk kd sp nm at' tx b=>{unfold Nd.sz at d;unfold bS at h ⊢;obtain⟨p,ca,a,c,e,hl,ha,r⟩:=h;exact⟨p,ca,a,c,e,hl,ha.keep j,ih.2 a b 0 (by omega) r⟩}};refine⟨f,fun a b=>?_⟩;induction b with|nil=>{intro i _ h;unfold aC;trivial}|cons k b ihk=>{intro i d h;unfold aB at d;unfold aC at h ⊢;obtain⟨⟨g,off,c0,c1,c2,c3,c4,c5,e,hd,h6,l⟩,hr⟩:=h;obtain⟨q,hd'⟩:=j g h6.lt hd;exact⟨⟨g,off,c0,c1,c2,c3,c4,c5,e,hd',h6.same q,f k _ (by omega) l⟩,ihk (i+1) (by omega) hr⟩}}
theorem bS.keep {D D':Nat->Prop}{w w':H}{n:Nd}{v:Value}(h:bS D w n v)(b:∀g,g<w.heap.size->D g->w'.heap[g]?=w.heap[g]?/\D' g):bS D' w' n v:=(aBq b n.sz).1 n v pR h
theorem aC.keep {D D':Nat->Prop}{w w':H}{a:Option Addr}{ks:List Nd}{i:Nat}(h:aC D w a i ks)(b:∀g,g<w.heap.size->D g->w'.heap[g]?=w.heap[g]?/\D' g):aC D' w' a i ks:=(aBq b (aB ks)).2 a ks i pR h
theorem gT.attrs {D:Nat->Prop}{w:H}{a:Option Addr}{l:List (I × I)}(h:gT D w a l)(c:Nat):fK w (.slice a l.length c) l :=
 ⟨a,c,rfl,fun j f=>by obtain⟨g,i,e,_,b,d⟩:=h j f;exact⟨g,i,e,b,d⟩⟩
theorem aAp {D:Nat->Prop}{w:H}:∀m:Nat,(∀(n:Nd) (v:Value),n.sz<=m->bS D w n v->aH w n v)/\(∀(a:Option Addr) (b:List Nd) (i:Nat),aB b<=m->aC D w a i b->aW w a i b):=by
 intro m;induction m with|zero=>{refine⟨fun n v j=>absurd (gJ n) (by omega),fun a b=>?_⟩;cases b with|nil=>{intro i _ h;unfold aW;trivial}|cons k b=>{intro i d;unfold aB at d;exact absurd (gJ k) (by omega)}}|succ m ih=>{have f:∀(n:Nd) (v:Value),n.sz<=m+1->bS D w n v->aH w n v:=by{intro n v d h;cases n with|mk kd sp nm at' tx b=>{unfold Nd.sz at d;unfold bS at h;unfold aH;obtain⟨p,ca,a,c,e,hl,ha,l⟩:=h;exact⟨_,a,c,e,hl,ha.attrs ca,ih.2 a b 0 (by omega) l⟩}};refine⟨f,fun a b=>?_⟩;induction b with|nil=>{intro i _ h;unfold aW;trivial}|cons k b ihk=>{intro i d h;unfold aB at d;unfold aC at h;unfold aW;obtain⟨⟨g,off,c0,c1,c2,c3,c4,c5,e,_,h6,j⟩,hr⟩:=h;exact⟨⟨g,off,c0,c1,c2,c3,c4,c5,e,h6,f k _ (by omega) j⟩,ihk (i+1) (by omega) hr⟩}}
theorem bS.node {D:Nat->Prop}{w:H}{n:Nd}{v:Value}(h:bS D w n v):aH w n v:=(aAp n.sz).1 n v pR h
theorem aC.kids {D:Nat->Prop}{w:H}{a:Option Addr}{ks:List Nd}{i:Nat}(h:aC D w a i ks):aW w a i ks:=(aAp (aB ks)).2 a ks i pR h
theorem aEp {w:H}:∀m:Nat,(∀(n:Nd) (v:Value),n.sz<=m->aH w n v->bS (fun g=>g<w.heap.size) w n v)/\(∀(a:Option Addr) (b:List Nd) (i:Nat),aB b<=m->aW w a i b->aC (fun g=>g<w.heap.size) w a i b):=by
 intro m;induction m with|zero=>{refine⟨fun n v l=>absurd (gJ n) (by omega),fun a b=>?_⟩;cases b with|nil=>{intro i _ h;unfold aC;trivial}|cons k b=>{intro i d;unfold aB at d;exact absurd (gJ k) (by omega)}}|succ m ih=>{have f:∀(n:Nd) (v:Value),n.sz<=m+1->aH w n v->bS (fun g=>g<w.heap.size) w n v:=by{intro n v d h;cases n with|mk kd sp nm at' tx b=>{unfold Nd.sz at d;unfold aH at h;unfold bS;obtain⟨u,a,c,e,hl,⟨p,ca,rfl,r⟩,t⟩:=h;refine⟨p,ca,a,c,e,hl,fun j s=>?_,ih.2 a b 0 (by omega) t⟩;obtain⟨g,off,h1,h2,q⟩:=r j s;exact⟨g,off,h1,ed w _ h2,h2,q⟩}};refine⟨f,fun a b=>?_⟩;induction b with|nil=>{intro i _ h;unfold aC;trivial}|cons k b ihk=>{intro i d h;unfold aB at d;unfold aW at h;unfold aC;obtain⟨⟨g,off,c0,c1,c2,c3,c4,c5,e,h6,l⟩,hr⟩:=h;exact⟨⟨g,off,c0,c1,c2,c3,c4,c5,e,h6.lt,h6,f k _ (by omega) l⟩,ihk (i+1) (by omega) hr⟩}}
theorem aH.deep {w:H}{n:Nd}{v:Value}(h:aH w n v):bS (fun g=>g<w.heap.size) w n v:=(aEp n.sz).1 n v pR h
theorem aW.deep {w:H}{a:Option Addr}{ks:List Nd}{i:Nat}(h:aW w a i ks):aC (fun g=>g<w.heap.size) w a i ks:=(aEp (aB ks)).2 a ks i pR h
def bZ (D:Nat->Prop)(w:H)(xs:List Value)(ks:List Nd):Prop :=
 xs.length=ks.length*6/\∀j (h:j<ks.length),∃c0 c1 c2 c3 c4 c5,xs[j*6]?=some c0/\xs[j*6+1]?=some c1/\xs[j*6+2]?=some c2/\xs[j*6+3]?=some c3/\xs[j*6+4]?=some c4/\xs[j*6+5]?=some c5/\bS D w ks[j] (.agg #[c0,c1,c2,c3,c4,c5])
theorem bZ.nil (D:Nat->Prop)(w:H):bZ D w [] []:=⟨rfl,fun j h=>absurd h (by simp)⟩
theorem bZ.keep {D D':Nat->Prop}{w w':H}{b:List Value}{ks:List Nd}(h:bZ D w b ks)(m:∀g,g<w.heap.size->D g->w'.heap[g]?=w.heap[g]?/\D' g):bZ D' w' b ks:=by
 refine⟨h.1,fun j l=>?_⟩;obtain⟨c0,c1,c2,c3,c4,c5,c,d,e,f,i,k,n⟩:=h.2 j l;exact⟨c0,c1,c2,c3,c4,c5,c,d,e,f,i,k,n.keep m⟩
theorem bZ.snoc {D:Nat->Prop}{w:H}{e:List Value}{c:List Nd}{x:Nd}{c0 c1 c2 c3 c4 c5:Value}(h:bZ D w e c)(hx:bS D w x (.agg #[c0,c1,c2,c3,c4,c5])):bZ D w (e++[c0,c1,c2,c3,c4,c5]) (c++[x]):=by
 obtain⟨n,h⟩:=h;have b:∀t,(e++[c0,c1,c2,c3,c4,c5])[c.length*6+t]?=[c0,c1,c2,c3,c4,c5][t]?:=fun t=>by{rw[iu (by omega),show c.length*6+t-e.length=t by omega]};refine⟨by simp;omega,fun j k=>?_⟩;have d:∀i v,e[i]?=some v->(e++[c0,c1,c2,c3,c4,c5])[i]?=some v:=fun i v hi=>by{rw[ib (fc.1 hi).1];exact hi};by_cases f:j<c.length;{obtain⟨g,d1,d2,d3,d4,d5,k0,k1,k2,k3,k4,k5,m⟩:=h j f;refine⟨g,d1,d2,d3,d4,d5,d _ _ k0,d _ _ k1,d _ _ k2,d _ _ k3,d _ _ k4,d _ _ k5,?_⟩;rw[kf f];exact m};{have l:j=c.length:=by{simp at k;omega};subst l;refine⟨c0,c1,c2,c3,c4,c5,b 0,b 1,b 2,b 3,b 4,b 5,?_⟩;rw[jf pR];simpa using hx}
theorem bS.parts {D:Nat->Prop}{w:H}{n:Nd}{b:Option Addr}{d f:Nat}{c0 c1 c2 c4:Value}{a:Option Addr}{i c:Nat}(h:bS D w n (.agg #[c0,c1,c2,.slice b d f,c4,.slice a i c])):gT D w b n.attrs/\aC D w a 0 n.kids:=by
 cases n with|mk kd sp nm at' tx ks=>{unfold bS at h;obtain⟨j,ca',a',c',e,_,hA,g⟩:=h;simp only[lz,pi,gi,gj,cg]at e;obtain⟨_,_,_,⟨rfl,_,_⟩,_,⟨rfl,_,_⟩⟩:=e;exact⟨hA,g⟩}
theorem aC.get {D:Nat->Prop}{w:H}{a:Option Addr}:∀(b:List Nd) (i j:Nat) (h:j<b.length),aC D w a i b->∃g d c0 c1 c2 c3 c4 c5,a=some ⟨g,d,none⟩/\D g/\Six w g (d+(i+j)*6) c0 c1 c2 c3 c4 c5/\bS D w b[j] (.agg #[c0,c1,c2,c3,c4,c5]):=by
 intro b;induction b with|nil=>{intro i j h;simp at h}|cons k b ih=>{intro i j h c;unfold aC at c;cases j with|zero=>exact c.1|succ j=>{have:=ih (i+1) j (by simpa using h) c.2;rw[show i+1+j=i+(j+1) by omega]at this;exact this}}
theorem aEb {D:Nat->Prop}{w:H}{a:Option Addr}{e:List Value}{ks:List Nd}(h:kL w e ks)(x:∀j u,e[j]?=some u->∃g d,a=some ⟨g,d,none⟩/\w.cell? ⟨g,d+j,none⟩=some u)(y:aC D w a 0 ks):bZ D w e ks:=by
 refine⟨h.1,fun j r=>?_⟩;obtain⟨c0,c1,c2,c3,c4,c5,f,k,l,m,n,p,_⟩:=h.2 j r;obtain⟨g,d,B,C,E,F,J,K,t,_,b,s⟩:=y.get ks 0 j r;rw[be]at b;have c:∀i u v,e[i]?=some u->w.cell? ⟨g,d+i,none⟩=some v->v=u:=fun i u v z A=>by{obtain⟨L,off',ha',q⟩:=x i u z;rw[t]at ha';cases ha';rw[A]at q;exact b8 q};rw[c _ _ _ f b.x0,c _ _ _ k b.x1,c _ _ _ l b.x2,c _ _ _ m b.x3,c _ _ _ n b.x4,c _ _ _ p b.x5]at s;exact⟨c0,c1,c2,c3,c4,c5,f,k,l,m,n,p,s⟩
theorem kR {D D':Nat->Prop}{w:H}{a:Option Addr}{n c:Nat}{d:List Value}{ks:List Nd}(v:lD w (.slice a n c) n d)(h:bZ D w d ks)(p:∀g,D g->D' g)(q:∀y,a=some y->D' y.block):aC D' w a 0 ks:=by
 obtain⟨A,B,e,f⟩:=v;simp only[cg]at e;obtain⟨rfl,_⟩:=e;have z:∀(m i:Nat),i+m=ks.length->aC D' w a i (ks.drop i):=by{intro m;induction m with|zero=>{intro i hi;rw[d6 (by omega)];unfold aC;trivial}|succ m ih=>{intro i hi;have l:i<ks.length:=by{omega};rw[dy l];unfold aC;refine⟨?_,ih (i+1) (by omega)⟩;obtain⟨c0,c1,c2,c3,c4,c5,h0,h1,h2,h3,h4,h5,t⟩:=h.2 i l;obtain⟨g,off,hga,x⟩:=f _ _ h0;have b:∀j u,d[j]?=some u->w.cell? ⟨g,off+j,none⟩=some u:=by{intro j u s;obtain⟨C,off',ha',k⟩:=f _ _ s;rw[hga]at ha';cases ha';exact k};exact⟨g,off,c0,c1,c2,c3,c4,c5,hga,q _ hga,⟨x,b _ _ h1,b _ _ h2,b _ _ h3,b _ _ h4,b _ _ h5⟩,t.keep (fun g _ r=>⟨rfl,p g r⟩)⟩}};exact z ks.length 0 (by omega)
open Go.RowKit
theorem Tryz.info45:(Tryz.prog.info? 45).map (fun i=>(i.zero,i.size,i.bytes))=some (some (.agg #[.int .i64 0,.int .i64 0,.string ⟨#[]⟩,.slice none 0 0,.string ⟨#[]⟩,.slice none 0 0]),6,96):=by kernel_rfl
open Go.RowKit
theorem aJ.empty {B:Nat}{b w:H}(e:TypeId)(size:Nat)(d:Below B b w)(c:B<=w.heap.size):aJ B e size (.slice (some ⟨w.heap.size,0,none⟩) 0 0) 0 [] b (w.alloc (.cells #[] e)):=by
 refine⟨⟨by simp,.inr ⟨w.heap.size,0,#[],rfl,c,bi w _,ag _,ax _,by simp,by simp⟩⟩,d.alloc c _,by simp;omega⟩
theorem dH.refl (w:H)(v:Value):dH w w v v:=⟨⟨rfl,rfl,rfl,ag _,fun _ _ _=>rfl⟩,.inl rfl⟩
section
variable {P:Program} {w:H} {ops:Array Oper} {rest:List Oper} {o:Oper} {a:Act} {Q:Exit->Act->H->Prop}
theorem nV (D:o.guard=none)(s x:Operand)(t:TypeId)
  (J:o.op=.call { callee:=.builtin .append,args:=#[s,x],argTypes:=#[t,t] })
  (e:TypeId) (i:TypeInfo) (z:Value) (size f:Nat) (q:P.underlying t=some (.slice e)) (hi:P.info? e=some i) (hz:i.zero=some z)
  (ah:i.size=size) (W:i.bytes=f) (al:z.cells.size=size) (M:0<size)
  {B:Nat} {C:H} (v:Value) (n:Nat) (A:List Value) (L:a.eval s=v) (p:aJ B e size v n A C w)
  (y:Option Addr) (m c:Nat) (b:List Value) (hx:a.eval x=.slice y m c) (E:b.length=m*size) (F:∀j u,b[j]?=some u->∃g d,y=some ⟨g,d,none⟩/\w.cell? ⟨g,d+j,none⟩=some u) (R:b.all (fun u=>u.oneCell')=true)
  (V:(n+m)*f<=140737488355328) (hn:n+m<=140737488355328)
  (h:∀v' w',G (aJ B e size v' (n+m) (A++b) C w')->G (dH w w' v v')->wpList P ops Q rest (a.put o.dst v') w'):wpList P ops Q (o :: rest) a w:=by
 cases y with
 | some ad =>
  refine nW D s x t J e i z size f q hi hz ah W al M v n A L p ad m c b hx E (fun j u X=>?_) R V hn h;obtain⟨g,d,k,N⟩:=F j u X;cases k;have T:(⟨g,d,none⟩:Addr).add j=⟨g,d+j,none⟩:=by unfold Addr.add;split<;>simp_all
  rw[T];exact N
 | none =>
  have ab:b=[]:=by
   cases b with
   | nil=>rfl
   | cons u r =>
    obtain⟨g,d,k,_⟩:=F 0 u rfl;cases k
  subst ab;have hm:m=0:=by
   rcases g7 m with l|l
   ·exact l
   ·have:=cn l M;simp at E;omega
  subst hm;have hr:(Builtin.append_ #[t,t] o.type #[v,.slice none 0 c]).run P w=.ok v w:=by
   rcases p.own.2 with⟨rfl,rfl⟩|⟨g,cap,an,rfl,ao,hg,aa,_⟩
   ·simp[Builtin.append_,run_underlying q,sizeOf,typeInfo,hi,Builtin.lenOf,Builtin.firstCells]
   ·simp[Builtin.append_,run_underlying q,sizeOf,typeInfo,hi,Builtin.lenOf,Builtin.firstCells,aa,storeCells]
  refine i6 D fun K S=>?_
  unfold Oper.wp execOp;simp only[J,resolve,invoke,builtin,m8,nc,ra,rc,co,fj,L,hx,hr];exact S _ _ (h v w (by rw[dc];exact Z p) (Z (dH.refl w v)))
end
open Go.RowKit
theorem kL.one {w:H}{d:List Value}{f:List Nd}(h:kL w d f):d.all (fun u=>u.oneCell')=true:=by
 rw[di];intro u r;obtain⟨i,hi,rfl⟩:=List.mem_iff_getElem.1 r;have z:=h.1;have p:i / 6<f.length:=by{omega};obtain⟨c0,c1,c2,c3,c4,c5,g,j,k,l,m,n,q⟩:=h.2 (i / 6) p;obtain⟨s,x,v,y,rfl,rfl,rfl,rfl,rfl,rfl⟩:=q.cells;have c:∀t,i=i / 6*6+t->d[i / 6*6+t]?=some d[i]:=fun t e=>by{rw[<-e];exact bc hi};have b:i%6=0\/i%6=1\/i%6=2\/i%6=3\/i%6=4\/i%6=5:=by{omega};rcases b with b|b|b|b|b|b;{have e:=c 0 (by omega);rw[il,g]at e;rw[<-b8 e];rfl};{have e:=c 1 (by omega);rw[j]at e;rw[<-b8 e];rfl};{have e:=c 2 (by omega);rw[k]at e;rw[<-b8 e];rfl};{have e:=c 3 (by omega);rw[l]at e;rw[<-b8 e];rfl};{have e:=c 4 (by omega);rw[m]at e;rw[<-b8 e];rfl};{have e:=c 5 (by omega);rw[n]at e;rw[<-b8 e];rfl}
open Go.RowKit
theorem bZ.append {D:Nat->Prop}{w:H}{d e:List Value}{c k:List Nd}(h:bZ D w d c)(g:bZ D w e k):bZ D w (d++e) (c++k):=by
 obtain⟨p,h⟩:=h;obtain⟨q,g⟩:=g;refine⟨by rw[aw,aw,p,q];omega,fun j n=>?_⟩;by_cases m:j<c.length;{have b:∀i v,d[i]?=some v->(d++e)[i]?=some v:=fun i v hi=>by{rw[ib (fc.1 hi).1];exact hi};obtain⟨f,d1,d2,d3,d4,d5,k0,k1,k2,k3,k4,k5,l⟩:=h j m;refine⟨f,d1,d2,d3,d4,d5,b _ _ k0,b _ _ k1,b _ _ k2,b _ _ k3,b _ _ k4,b _ _ k5,?_⟩;rw[kf m];exact l};{obtain⟨i,rfl⟩:∃i,j=c.length+i:=⟨j-c.length,by omega⟩;have hi:i<k.length:=by{simp at n;omega};have b:∀t v,e[i*6+t]?=some v->(d++e)[(c.length+i)*6+t]?=some v:=fun t v r=>by{rw[iu (by omega),show(c.length+i)*6+t-d.length=i*6+t by omega];exact r};obtain⟨f,d1,d2,d3,d4,d5,k0,k1,k2,k3,k4,k5,l⟩:=g i hi;refine⟨f,d1,d2,d3,d4,d5,b 0 _ k0,b 1 _ k1,b 2 _ k2,b 3 _ k3,b 4 _ k4,b 5 _ k5,?_⟩;rw[jf (by omega)];simpa using l}
def mD (v:Value)(g:Nat):Prop:=v.ownBlock≠some g
def Src (v:Value)(W:H)(a:Option Addr)(ks:List Nd):Prop:=aC (mD v) W a 0 ks
def PSt (W0 W:H)(v:Value)(n:Nat)(ks:List Nd):Prop:=∃xs,aJ W0.heap.size 45 6 v n xs W0 W/\bZ (mD v) W xs ks
theorem Src.below {v:Value}{W b:H}{a:Option Addr}{ks:List Nd}(h:Src v W a ks)(c:Below W.heap.size W b):Src v b a ks :=
 aC.keep h (fun g d hd=>⟨c.block g d,hd⟩)
theorem Src.grown {v v':Value}{W b:H}{a:Option Addr}{ks:List Nd}(h:Src v W a ks)(c:dH W b v v'):Src v' b a ks :=
 aC.keep h (fun g f hd=>⟨c.gr.block g f (fun e=>hd e.symm),fun e=>by
  rcases c.loc with d|⟨k,i,j⟩
  ·exact hd (by rw[<-d];exact e)
  ·rw[i]at e
   have:k=g:=b8 e;omega⟩)
theorem Src.kids {v:Value}{W:H}{a:Option Addr}{ks:List Nd}(h:Src v W a ks):aW W a 0 ks:=aC.kids h
theorem Src.old {c W:H}{v:Value}{n:Nat}{f js:List Nd}{a:Option Addr}(h:PSt c W v n f)(b:aW c a 0 js):Src v W a js:=by
 obtain⟨g,d,_⟩:=h;exact aC.keep b.deep (fun k b hd=>⟨d.bel.block k b,fun e=>by
  have:=d.lo k e;omega⟩)
theorem PSt.start {b W:H}(c:Below b.heap.size b W):PSt b (W.alloc (.cells #[] 45)) (.slice (some ⟨W.heap.size,0,none⟩) 0 0) 0 [] :=
 ⟨[],aJ.empty 45 6 c c.size,bZ.nil _ _⟩
theorem PSt.nil {b W:H}(c:Below b.heap.size b W):PSt b W (.slice none 0 0) 0 [] :=
 ⟨[],aJ.of 45 6 c c.size,bZ.nil _ _⟩
theorem PSt.bel {b W:H}{v:Value}{n:Nat}{d:List Nd}(h:PSt b W v n d):Below b.heap.size b W:=by
 obtain⟨e,c,_⟩:=h;exact c.bel
theorem PSt.len {c W:H}{v:Value}{n:Nat}{b:List Nd}(h:PSt c W v n b):n=b.length:=by
 obtain⟨i,d,e⟩:=h;have f:=d.own.1;have g:=e.1;omega
theorem PSt.keep {c W b:H}{v:Value}{n:Nat}{ks:List Nd}(h:PSt c W v n ks)(d:Below W.heap.size W b):PSt c b v n ks:=by
 obtain⟨j,e,f⟩:=h;exact⟨j,e.keep d,f.keep (fun g i hd=>⟨d.block g i,hd⟩)⟩
theorem PSt.slice {b W:H}{v:Value}{n:Nat}{f:List Nd}(h:PSt b W v n f):∃a c,v=.slice a n c/\n<=c/\aC (fun g=>b.heap.size<=g\/mD v g) W a 0 f/\∀y,a=some y->b.heap.size<=y.block/\y.block<W.heap.size:=by
 obtain⟨m,d,i⟩:=h;obtain⟨a,c,rfl,k,e⟩:=d.slice;exact⟨a,c,rfl,k,kR d.vec i (fun g j=>.inr j) (fun y l=>.inl (e y l).1),e⟩
theorem PSt.kids {b W:H}{a:Option Addr}{n c:Nat}{ks:List Nd}(h:PSt b W (.slice a n c) n ks):aW W a 0 ks:=by
 obtain⟨f,g,e,_,d,_⟩:=h.slice;simp only[cg]at e;rw[e.1];exact d.kids
section
variable {w:H} {ops:Array Oper} {rest:List Oper} {o:Oper} {a:Act} {Q:Exit->Act->H->Prop}
theorem aAO (F:o.guard=none)(s x:Operand)
  (N:o.op=.call { callee:=.builtin .append,args:=#[s,x],argTypes:=#[43,43] })
  {j:H} (v:Value) (n:Nat) (q:List Nd) (R:a.eval s=v) (A:G (PSt j w v n q))
  (i:Option Addr) (m c:Nat) (f:List Nd) (hx:a.eval x=.slice i m c) (L:G (f.length=m)) (l:G (Src v w i f)) (W:n+m<=1000000000)
  (h:∀v' w',G (PSt j w' v' (n+m) (q++f))->G (dH w w' v v')->wpList Tryz.prog ops Q rest (a.put o.dst v') w'):wpList Tryz.prog ops Q (o :: rest) a w:=by
 obtain⟨V,J,T,S,B⟩:=cq Tryz.info45;obtain⟨r,y,C⟩:=A.o;obtain⟨t,d,p⟩:=zK l.o.kids;have D:=aEb d p l.o;have M:=L.o;refine nV F s x 43 N 45 V _ 6 96 Tryz.underlying43 J T S B rfl (by decide) v n r R y i m c t hx (by rw[d.1,M]) p d.one (by omega) (by omega) (fun v' w' z b=>?_);refine h v' w' ⟨r++t,z.o,?_⟩ b;refine(C.append D).keep (fun g E hd=>⟨b.o.gr.block g E (fun e=>hd e.symm),fun e=>?_⟩);rcases b.o.loc with u|⟨k,K,X⟩
 ·exact hd (by rw[<-u];exact e)
 ·rw[K]at e
  have:k=g:=b8 e;omega
end
