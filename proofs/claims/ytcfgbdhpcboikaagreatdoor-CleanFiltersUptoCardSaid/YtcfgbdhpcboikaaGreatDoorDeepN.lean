/-
Trees of nodes in memory whose blocks meet a condition; nodes as cells in a row.
-/
import Derived.Test.YtcfgbdhpcboikaaGreatDoorHoldF
namespace Go.Proofs.YtcfgbdhpcboikaaGreatDoor
set_option maxHeartbeats 4000000
set_option maxRecDepth 100000
open Go.RowKit
theorem aAf {n:Nat}:n<=n:=ah n
def Unf (w:H)(g:Nat):Prop:=∀o,w.frozen? ⟨g,o,none⟩=false
theorem Unf.same {w w':H}{g:Nat}(h:Unf w g)(e:w'.heap[g]?=w.heap[g]?):Unf w' g:=fun o=>by
 have:=h o;unfold World.frozen? at this ⊢;rw[e];exact this
theorem aPv {w:H}{g:Nat}{cs:Array Value}{t:TypeId}(h:w.heap[g]?=some (.cells cs t (0,0))):Unf w g:=fun o=>by
 simp[World.frozen?,h]
def eN (D:Nat->Prop)(w:H)(a:Option Addr)(l:List (I × I)):Prop :=
 ∀j (h:j<l.length),∃g off,a=some ⟨g,off,none⟩/\(D g/\Unf w g)/\w.cell? ⟨g,off+j*2,none⟩=some (.string (l[j]).1)/\w.cell? ⟨g,off+j*2+1,none⟩=some (.string (l[j]).2)
mutual
def bR (D:Nat->Prop)(w:H):Nd->Value->Prop
 | .mk kd sp nm at' tx ks,v=>∃aa ca a c,v=.agg #[.int .i64 kd,.int .i64 sp,.string nm,.slice aa at'.length ca,.string tx,.slice a ks.length c]/\ks.length<=140737488355328/\eN D w aa at'/\dD D w a 0 ks
def dD (D:Nat->Prop)(w:H)(a:Option Addr):Nat->List Nd->Prop
 | _,[]=>True
 | i,n :: ks=>(∃g off c0 c1 c2 c3 c4 c5,a=some ⟨g,off,none⟩/\(D g/\Unf w g)/\Six w g (off+i*6) c0 c1 c2 c3 c4 c5/\bR D w n (.agg #[c0,c1,c2,c3,c4,c5]))/\dD D w a (i+1) ks
end
theorem jM {w w':H}{g o:Nat}{v:Value}(h:w'.heap[g]?=w.heap[g]?)(a:w.cell? ⟨g,o,none⟩=some v):w'.cell? ⟨g,o,none⟩=some v :=
 (qo h).trans a
theorem Six.same {w w':H}{g o:Nat}{a b c d f c5:Value}(h:Six w g o a b c d f c5)(e:w'.heap[g]?=w.heap[g]?):Six w' g o a b c d f c5 :=
 ⟨jM e h.x0,jM e h.x1,jM e h.x2,jM e h.x3,jM e h.x4,jM e h.x5⟩
theorem Six.lt {w:H}{g o:Nat}{a b c d e f:Value}(h:Six w g o a b c d e f):g<w.heap.size:=dx w _ h.x0
theorem eN.keep {D D':Nat->Prop}{w w':H}(k:∀g,g<w.heap.size->D g->w'.heap[g]?=w.heap[g]?/\D' g){a:Option Addr}{l:List (I × I)}(h:eN D w a l):eN D' w' a l:=by
 intro j i;obtain⟨g,m,d,hd,b,c⟩:=h j i;obtain⟨e,f⟩:=k g (dx w _ b) hd.1;exact⟨g,m,d,⟨f,hd.2.same e⟩,jM e b,jM e c⟩
theorem aAE {D D':Nat->Prop}{w w':H}(l:∀g,g<w.heap.size->D g->w'.heap[g]?=w.heap[g]?/\D' g):∀m:Nat,(∀(n:Nd) (v:Value),n.sz<=m->bR D w n v->bR D' w' n v)/\(∀(a:Option Addr) (b:List Nd) (i:Nat),aB b<=m->dD D w a i b->dD D' w' a i b):=by
 intro m;induction m with|zero=>{refine⟨fun n v o=>absurd (kI n) (by omega),fun a b=>?_⟩;cases b with|nil=>{intro i _ h;unfold dD;trivial}|cons k b=>{intro i d;unfold aB at d;exact absurd (kI k) (by omega)}}|succ m ih=>{have j:∀(n:Nd) (v:Value),n.sz<=m+1->bR D w n v->bR D' w' n v:=by{intro n v d h;cases n with|mk kd sp nm at' tx b=>{unfold Nd.sz at d;unfold bR at h ⊢;obtain⟨p,ca,a,c,e,hl,ha,r⟩:=h;exact⟨p,ca,a,c,e,hl,ha.keep l,ih.2 a b 0 (by omega) r⟩}};refine⟨j,fun a b=>?_⟩;induction b with|nil=>{intro i _ h;unfold dD;trivial}|cons k b ihk=>{intro i d h;unfold aB at d;unfold dD at h ⊢;obtain⟨⟨g,off,c0,c1,c2,c3,c4,c5,e,hd,h6,o⟩,hr⟩:=h;obtain⟨f,q⟩:=l g h6.lt hd.1;exact⟨⟨g,off,c0,c1,c2,c3,c4,c5,e,⟨q,hd.2.same f⟩,h6.same f,j k _ (by omega) o⟩,ihk (i+1) (by omega) hr⟩}}
theorem bR.keep {D D':Nat->Prop}{w w':H}{n:Nd}{v:Value}(h:bR D w n v)(a:∀g,g<w.heap.size->D g->w'.heap[g]?=w.heap[g]?/\D' g):bR D' w' n v:=(aAE a n.sz).1 n v aAf h
theorem dD.keep {D D':Nat->Prop}{w w':H}{a:Option Addr}{ks:List Nd}{i:Nat}(h:dD D w a i ks)(b:∀g,g<w.heap.size->D g->w'.heap[g]?=w.heap[g]?/\D' g):dD D' w' a i ks:=(aAE b (aB ks)).2 a ks i aAf h
theorem eN.attrs {D:Nat->Prop}{w:H}{a:Option Addr}{l:List (I × I)}(h:eN D w a l)(c:Nat):dZ w (.slice a l.length c) l :=
 ⟨a,c,rfl,fun j f=>by obtain⟨g,i,e,_,b,d⟩:=h j f;exact⟨g,i,e,b,d⟩⟩
theorem yP {D:Nat->Prop}{w:H}:∀m:Nat,(∀(n:Nd) (v:Value),n.sz<=m->bR D w n v->bJ w n v)/\(∀(a:Option Addr) (b:List Nd) (i:Nat),aB b<=m->dD D w a i b->aQ w a i b):=by
 intro m;induction m with|zero=>{refine⟨fun n v j=>absurd (kI n) (by omega),fun a b=>?_⟩;cases b with|nil=>{intro i _ h;unfold aQ;trivial}|cons k b=>{intro i d;unfold aB at d;exact absurd (kI k) (by omega)}}|succ m ih=>{have f:∀(n:Nd) (v:Value),n.sz<=m+1->bR D w n v->bJ w n v:=by{intro n v d h;cases n with|mk kd sp nm at' tx b=>{unfold Nd.sz at d;unfold bR at h;unfold bJ;obtain⟨o,ca,a,c,e,hl,ha,l⟩:=h;exact⟨_,a,c,e,hl,ha.attrs ca,ih.2 a b 0 (by omega) l⟩}};refine⟨f,fun a b=>?_⟩;induction b with|nil=>{intro i _ h;unfold aQ;trivial}|cons k b ihk=>{intro i d h;unfold aB at d;unfold dD at h;unfold aQ;obtain⟨⟨g,off,c0,c1,c2,c3,c4,c5,e,_,h6,j⟩,hr⟩:=h;exact⟨⟨g,off,c0,c1,c2,c3,c4,c5,e,h6,f k _ (by omega) j⟩,ihk (i+1) (by omega) hr⟩}}
theorem bR.node {D:Nat->Prop}{w:H}{n:Nd}{v:Value}(h:bR D w n v):bJ w n v:=(yP n.sz).1 n v aAf h
theorem dD.kids {D:Nat->Prop}{w:H}{a:Option Addr}{ks:List Nd}{i:Nat}(h:dD D w a i ks):aQ w a i ks:=(yP (aB ks)).2 a ks i aAf h
def cS (D:Nat->Prop)(w:H)(xs:List Value)(ks:List Nd):Prop :=
 xs.length=ks.length*6/\∀j (h:j<ks.length),∃c0 c1 c2 c3 c4 c5,xs[j*6]?=some c0/\xs[j*6+1]?=some c1/\xs[j*6+2]?=some c2/\xs[j*6+3]?=some c3/\xs[j*6+4]?=some c4/\xs[j*6+5]?=some c5/\bR D w ks[j] (.agg #[c0,c1,c2,c3,c4,c5])
theorem cS.nil (D:Nat->Prop)(w:H):cS D w [] []:=⟨rfl,fun j h=>absurd h (by simp)⟩
theorem cS.keep {D D':Nat->Prop}{w w':H}{a:List Value}{ks:List Nd}(h:cS D w a ks)(r:∀g,g<w.heap.size->D g->w'.heap[g]?=w.heap[g]?/\D' g):cS D' w' a ks:=by
 refine⟨h.1,fun j q=>?_⟩;obtain⟨b,c,d,e,f,i,k,l,m,n,o,p,s⟩:=h.2 j q;exact⟨b,c,d,e,f,i,k,l,m,n,o,p,s.keep r⟩
theorem cS.snoc {D:Nat->Prop}{w:H}{e:List Value}{c:List Nd}{x:Nd}{b c1 c2 c3 c4 c5:Value}(h:cS D w e c)(hx:bR D w x (.agg #[b,c1,c2,c3,c4,c5])):cS D w (e++[b,c1,c2,c3,c4,c5]) (c++[x]):=by
 obtain⟨n,h⟩:=h;have a:∀t,(e++[b,c1,c2,c3,c4,c5])[c.length*6+t]?=[b,c1,c2,c3,c4,c5][t]?:=fun t=>by{rw[jh (by omega),show c.length*6+t-e.length=t by omega]};refine⟨by simp;omega,fun j k=>?_⟩;have d:∀i v,e[i]?=some v->(e++[b,c1,c2,c3,c4,c5])[i]?=some v:=fun i v hi=>by{rw[iw (fc.1 hi).1];exact hi};by_cases f:j<c.length;{obtain⟨g,d1,d2,d3,d4,d5,k0,k1,k2,k3,k4,k5,m⟩:=h j f;refine⟨g,d1,d2,d3,d4,d5,d _ _ k0,d _ _ k1,d _ _ k2,d _ _ k3,d _ _ k4,d _ _ k5,?_⟩;rw[kw f];exact m};{have l:j=c.length:=by{simp at k;omega};subst l;refine⟨b,c1,c2,c3,c4,c5,a 0,a 1,a 2,a 3,a 4,a 5,?_⟩;rw[jm aAf];simpa using hx}
theorem bR.parts {D:Nat->Prop}{w:H}{n:Nd}{b:Option Addr}{d k:Nat}{f g i j:Value}{a:Option Addr}{m c:Nat}(h:bR D w n (.agg #[f,g,i,.slice b d k,j,.slice a m c])):eN D w b n.attrs/\dD D w a 0 n.kids:=by
 cases n with|mk kd sp nm at' tx ks=>{unfold bR at h;obtain⟨o,ca',a',c',e,_,hA,l⟩:=h;simp only[ly,nf,fu,fm,ce]at e;obtain⟨_,_,_,⟨rfl,_,_⟩,_,⟨rfl,_,_⟩⟩:=e;exact⟨hA,l⟩}
theorem dD.get {D:Nat->Prop}{w:H}{a:Option Addr}:∀(b:List Nd) (i j:Nat) (h:j<b.length),dD D w a i b->∃g o d e f l m n,a=some ⟨g,o,none⟩/\(D g/\Unf w g)/\Six w g (o+(i+j)*6) d e f l m n/\bR D w b[j] (.agg #[d,e,f,l,m,n]):=by
 intro b;induction b with|nil=>{intro i j h;simp at h}|cons k b ih=>{intro i j h c;unfold dD at c;cases j with|zero=>exact c.1|succ j=>{have:=ih (i+1) j (by simpa using h) c.2;rw[show i+1+j=i+(j+1) by omega]at this;exact this}}
theorem pE {D D':Nat->Prop}{w:H}{a:Option Addr}{n c:Nat}{d:List Value}{ks:List Nd}(t:jT w (.slice a n c) n d)(h:cS D w d ks)(o:∀g,D g->D' g)(p:∀y,a=some y->D' y.block/\Unf w y.block):dD D' w a 0 ks:=by
 obtain⟨z,A,e,f⟩:=t;simp only[ce]at e;obtain⟨rfl,_⟩:=e;have x:∀(m i:Nat),i+m=ks.length->dD D' w a i (ks.drop i):=by{intro m;induction m with|zero=>{intro i hi;rw[dy (by omega)];unfold dD;trivial}|succ m ih=>{intro i hi;have l:i<ks.length:=by{omega};rw[dt l];unfold dD;refine⟨?_,ih (i+1) (by omega)⟩;obtain⟨c0,c1,c2,c3,c4,c5,h0,h1,h2,h3,h4,h5,s⟩:=h.2 i l;obtain⟨g,off,hga,v⟩:=f _ _ h0;have b:∀j u,d[j]?=some u->w.cell? ⟨g,off+j,none⟩=some u:=by{intro j u r;obtain⟨B,off',ha',k⟩:=f _ _ r;rw[hga]at ha';cases ha';exact k};exact⟨g,off,c0,c1,c2,c3,c4,c5,hga,p _ hga,⟨v,b _ _ h1,b _ _ h2,b _ _ h3,b _ _ h4,b _ _ h5⟩,s.keep (fun g _ q=>⟨rfl,o g q⟩)⟩}};exact x ks.length 0 (by omega)
open Go.RowKit
def rG:List Value->Nat->List Value->List Value
 | xs,_,[]=>xs
 | xs,o,c :: r=>rG (xs.set o c) (o+1) r
theorem aDA:∀(cs a:List Value) (o j:Nat),o+cs.length<=a.length->(rG a o cs)[j]?=if o<=j/\j<o+cs.length then cs[j-o]? else a[j]?:=by
 intro cs;induction cs with|nil=>{intro a o j _;unfold rG;rw[ae (by simp only[db];omega)]}|cons c r ih=>{intro a o j h;simp only[bv]at h ⊢;unfold rG;rw[ih (a.set o c) (o+1) j (by rw[mw];omega)];by_cases b:o+1<=j/\j<o+1+r.length;{rw[af b,af (by omega),show j-o=(j-(o+1))+1 by omega,m6]};{rw[ae b];by_cases d:j=o;{subst d;rw[af (by omega),kx,m7,rl (by omega)]};{rw[ae (by omega),uj (fun e=>d e.symm)]}}}
theorem aDz (a zs cs:List Value)(h:zs.length=cs.length):rG (a++zs) a.length cs=a++cs:=by
 apply lg;intro j;rw[aDA _ _ _ _ (by simp;omega)];by_cases b:j<a.length;{rw[ae (by omega),iw b,iw b]};{by_cases c:j<a.length+cs.length;{rw[af (by omega),jh (by omega)]};{rw[ae (by omega),ew (by simp;omega),ew (by simp;omega)]}}
theorem oW (w:H)(p:Addr)(u:Value):(w.setCell p u).heap.size=w.heap.size:=by simp[World.setCell]
theorem aF.setCell {B:Nat}{e:TypeId}{size g n c:Nat}{i:List Value}{d w:H}(h:aF B e size (.slice (some ⟨g,0,none⟩) n c) n i d w)(j:Nat)(u:Value) :
  aF B e size (.slice (some ⟨g,0,none⟩) n c) n (i.set j u) d (w.setCell ⟨g,j,none⟩ u):=by
 rcases h.own.2 with⟨b,q⟩|⟨p,cap,a,b,hB,f,hnc,hcm,l,o⟩;{cases b};{simp only[ce,d6,ji]at b;obtain⟨⟨rfl,_⟩,_,rfl⟩:=b;have k:=kg w g j a e (0,0) u f;have m:=gn w g a (a.setIfInBounds j u) e (0,0) f;refine⟨⟨by rw[mw];exact h.own.1,.inr ⟨g,c,a.setIfInBounds j u,rfl,hB,by rw[k];exact m,hnc,hcm,by simpa using l,?_⟩⟩,h.bel.setCell hB u,by rw[oW];exact h.base⟩;rw[qw,List.take_set,o]}
theorem aF.setCells {B:Nat}{e:TypeId}{size g n c:Nat}{b:H}:∀(cs a:List Value) (o:Nat) (w:H),aF B e size (.slice (some ⟨g,0,none⟩) n c) n a b w ->
  aF B e size (.slice (some ⟨g,0,none⟩) n c) n (rG a o cs) b (w.setCells g o cs):=by
 intro cs;induction cs with|nil=>{intro a o w h;exact h}|cons u r ih=>{intro a o w h;unfold rG World.setCells;exact ih _ _ _ (h.setCell o u)}
theorem dB (g:Nat):∀(cs:List Value) (o:Nat) (w:H) (k:Nat),k≠g->(w.setCells g o cs).heap[k]?=w.heap[k]?:=by
 intro cs;induction cs with|nil=>{intro o w k _;rfl}|cons u r ih=>{intro o w k a;unfold World.setCells;rw[ih (o+1) _ k a,f8 w ⟨g,o,none⟩ k u a]}
theorem aF.there {B:Nat}{e:TypeId}{size g n c:Nat}{i:List Value}{l w:H}(h:aF B e size (.slice (some ⟨g,0,none⟩) n c) n i l w)(o k:Nat)(y:o+k<=i.length):w.there g o k:=by
 intro j x;obtain⟨r,s,d,p⟩:=h.vec;simp only[ce]at d;obtain⟨m,z,b,f⟩:=p (o+j) _ (bc (by omega));rw[<-d.1]at b;simp only[d6,ji]at b;obtain⟨rfl,rfl,_⟩:=b;rw[bw]at f;refine⟨by rw[f];rfl,?_⟩;rcases h.own.2 with⟨a,u⟩|⟨m,cap,t,a,v,q,_⟩;{cases a};{simp only[ce,d6,ji]at a;obtain⟨⟨rfl,_⟩,_,rfl⟩:=a;simp[World.frozen?,q]}
theorem aF.cell {B:Nat}{e:TypeId}{size g n c:Nat}{f:List Value}{i w:H}(h:aF B e size (.slice (some ⟨g,0,none⟩) n c) n f i w)(j:Nat)(u:Value)(l:f[j]?=some u):w.cell? ⟨g,j,none⟩=some u:=by
 obtain⟨m,o,b,k⟩:=h.vec;simp only[ce]at b;obtain⟨p,q,a,d⟩:=k j u l;rw[<-b.1]at a;simp only[d6,ji]at a;obtain⟨rfl,rfl,_⟩:=a;rw[bw]at d;exact d
theorem aF.atRow {B:Nat}{e:TypeId}{size n:Nat}{v:Value}{i:List Value}{b w:H}(h:aF B e size v n i b w)(l:0<n):∃g c,v=.slice (some ⟨g,0,none⟩) n c/\B<=g/\g<w.heap.size/\v.ownBlock=some g:=by
 rcases h.own.2 with⟨a,k⟩|⟨g,cap,j,a,d,f,_⟩;{omega};{exact⟨g,cap,a,d,(dq.1 f).1,by rw[a];rfl⟩}
open Go.RowKit
theorem aF.unf {B:Nat}{e:TypeId}{size n m c:Nat}{a:Option Addr}{j:List Value}{d w:H}(h:aF B e size (.slice a m c) n j d w):∀y,a=some y->Unf w y.block:=by
 intro y i;subst i;rcases h.own.2 with⟨b,l⟩|⟨g,cap,k,b,o,f,_⟩;{cases b};{simp only[ce,d6]at b;rw[b.1];exact aPv f}
structure Sv (p:Nat) (pn:I) (pv:Value) (ph:List I) (out:List Nd) (W1 w:H):Prop where
 at':p=W1.heap.size
 row:∃v xs,w.heap[p]?=some (.cells #[.string pn,pv,v] 151 (0,0))/\aF p 45 6 v out.length xs W1 w/\v.ownBlock≠some p/\cS (fun g=>p<g/\v.ownBlock≠some g) w xs out
 phr:Phr W1 pv ph
theorem Sv.below {p:Nat}{pn:I}{c:Value}{ph:List I}{out:List Nd}{b w w':H}(h:Sv p pn c ph out b w)(a:Below w.heap.size w w'):Sv p pn c ph out b w':=by
 obtain⟨v,k,hr,e,j,d⟩:=h.row;have i:p<w.heap.size:=(dq.1 hr).1;exact⟨h.at',⟨v,k,by rw[a.block p i];exact hr,e.keep a,j,d.keep (fun g f hd=>⟨a.block g f,hd⟩)⟩,h.phr⟩
theorem Sv.bel {p:Nat}{pn:I}{c:Value}{ph:List I}{out:List Nd}{a w:H}(h:Sv p pn c ph out a w):Below a.heap.size a w:=by
 obtain⟨v,f,hr,b,e,d⟩:=h.row;have:=b.bel;rw[<-h.at'];exact this
theorem Sv.phrAt {p:Nat}{pn:I}{a:Value}{ph:List I}{out:List Nd}{b w:H}(h:Sv p pn a ph out b w):Phr w a ph:=h.phr.below h.bel aAf
theorem aMW (p:Nat)(pn:I)(pv:Value)(ph:List I)(out:List Nd)(t w:H)(nm:I)(y:ph.length<=1000000000)(h:G (Sv p pn pv ph out t w)) :
  Y 197 #[.pointer (some ⟨p,0,none⟩),.string nm] w fun e w'=>e=.returned (.bool (qP pn ph out nm))/\w=w':=by
 obtain⟨v,K,hr,j,x,u⟩:=h.o.row;obtain⟨a,c,rfl,_,_⟩:=j.slice;have C:w.cell? ⟨p,0,none⟩=some (.string pn):=by rw[au _ _ 0 _ 151 (0,0) hr];rfl
 have D:w.cell? ⟨p,1,none⟩=some pv:=by rw[au _ _ 1 _ 151 (0,0) hr];rfl
 have E:w.cell? ⟨p,2,none⟩=some (.slice a out.length c):=by rw[au _ _ 2 _ 151 (0,0) hr];rfl
 have n:=Z (aOu pn nm w);have f:=Z (sN nm w);have r:=Z (sG pv ph nm w y h.o.phrAt.vec _ rfl);obtain⟨R,b⟩:=ex (qP pn ph out nm)
 rw[<-b];have B:=Z b;unfold qP at b;have l:decide (out=[])=((out.length:Int)==0):=by cases out<;>simp<;>omega
 rw[l]at b
 have J:=lD nm.data.toList;generalize out.length=ol at *
 generalize wF pn.data.toList nm.data.toList=m at *
 generalize aN nm.data.toList=k at *
 generalize Lib.containsS ph nm=q at *
 clear hr j x u l;go_enter Tryz.func197,Tryz.ntmps197
 go_wp2_with fail
 refine n.o.mono ?_;rintro e w' ⟨rfl,rfl⟩;cases m with
 | false =>
  have d:=Z (show R=false by rw[b];rfl);clear b;go_wp2
  go_ret;exact⟨by rw[d.o];rfl,rfl⟩
 | true =>
  rw[jn]at b
  go_wp2_with fail
  refine f.o.mono ?_;rintro e w' ⟨rfl,rfl⟩;by_cases i:k=4
  ·subst i;rw[af rfl]at b
   have d:=Z b;clear b;go_wp2_with fail
   refine r.o.mono ?_;rintro e w' ⟨rfl,rfl⟩;cases q;all_goals
    go_wp2
    go_ret;exact⟨by rw[d.o];rfl,rfl⟩
  ·have e4:((k:Int)==4)=false:=by rw[ai];omega
   rw[ae i]at b
   go_wp2_with fail
   refine f.o.mono ?_;rintro e w' ⟨rfl,rfl⟩;by_cases g:k=10
   ·subst g;rw[af rfl]at b
    have d:=Z b;clear b;obtain⟨z,A⟩:∃z,((ol:Int)==0)=z:=⟨_,rfl⟩
    cases z;all_goals
     have s:=Z A;go_wp2
     go_ret;exact⟨by rw[d.o,s.o];rfl,rfl⟩
   ·have F:((k:Int)==10)=false:=by rw[ai];omega
    rw[ae g]at b
    have d:=Z b;clear b;go_wp2
    go_ret;exact⟨by rw[d.o];rfl,rfl⟩
open Go.RowKit
theorem Tryz.info45:(Tryz.prog.info? 45).map (fun i=>(i.zero,i.size,i.bytes))=some (some (.agg #[.int .i64 0,.int .i64 0,.string ⟨#[]⟩,.slice none 0 0,.string ⟨#[]⟩,.slice none 0 0]),6,96):=by kernel_rfl
open Go.RowKit
def fZ (u v:Value):Prop:=v=u\/(∃s t,u=.string s/\v=.string t)\/(∃s t,u=.int .i64 s/\v=.int .i64 t)\/(∃a n c,u=.slice a n c/\v=.slice none 0 0)
def gZ (u v:Value):Prop:=v=u\/∃s t,u=.string s/\v=.string t
theorem gZ.like {u v:Value}(h:gZ u v):fZ u v:=by
 rcases h with h|h;{exact .inl h};{exact .inr (.inl h)}
theorem fZ.refl (u:Value):fZ u u:=.inl rfl
theorem gZ.refl (u:Value):gZ u u:=.inl rfl
theorem fZ.trans {u v x:Value}(h:fZ u v)(k:fZ v x):fZ u x:=by
 rcases h with rfl|⟨s,t,rfl,rfl⟩|⟨s,t,rfl,rfl⟩|⟨a,n,c,rfl,rfl⟩;{exact k};{rcases k with rfl|⟨b,d,e,rfl⟩|⟨b,d,e,rfl⟩|⟨a,n,c,e,rfl⟩;{exact .inr (.inl ⟨_,_,rfl,rfl⟩)};{exact .inr (.inl ⟨_,_,rfl,rfl⟩)};{cases e};{cases e}};{rcases k with rfl|⟨b,d,e,rfl⟩|⟨b,d,e,rfl⟩|⟨a,n,c,e,rfl⟩;{exact .inr (.inr (.inl ⟨_,_,rfl,rfl⟩))};{cases e};{exact .inr (.inr (.inl ⟨_,_,rfl,rfl⟩))};{cases e}};{rcases k with rfl|⟨b,d,e,rfl⟩|⟨b,d,e,rfl⟩|⟨f,i,g,e,rfl⟩;{exact .inr (.inr (.inr ⟨_,_,_,rfl,rfl⟩))};{cases e};{cases e};{exact .inr (.inr (.inr ⟨_,_,_,rfl,rfl⟩))}}
theorem gZ.trans {u v x:Value}(h:gZ u v)(k:gZ v x):gZ u x:=by
 rcases h with rfl|⟨s,t,rfl,rfl⟩;{exact k};{rcases k with rfl|⟨a,b,e,rfl⟩;{exact .inr ⟨_,_,rfl,rfl⟩};{exact .inr ⟨_,_,rfl,rfl⟩}}
structure eO (L:Value->Value->Prop) (B:Nat) (w w':H):Prop where
 bel:Below B w w'
 cell:∀p u,w.cell? p=some u->∃v,w'.cell? p=some v/\L u v
 fro:∀p,w'.frozen? p=false↔w.frozen? p=false
theorem eO.refl {L:Value->Value->Prop}(a:∀u,L u u)(B:Nat)(w:H):eO L B w w:=⟨am _ _,fun _ u h=>⟨u,h,a u⟩,fun _=>ia⟩
theorem eO.trans {L:Value->Value->Prop}(d:∀ {u v x},L u v->L v x->L u x){B:Nat}{a b c:H}(h:eO L B a b)(k:eO L B b c):eO L B a c :=
 ⟨h.bel.trans k.bel,fun p u e=>by
  obtain⟨v,f,g⟩:=h.cell p u e;obtain⟨x,hx,i⟩:=k.cell p v f;exact⟨x,hx,d g i⟩,fun p=>(k.fro p).trans (h.fro p)⟩
theorem eO.tr {B:Nat}{a b c:H}(h:eO fZ B a b)(k:eO fZ B b c):eO fZ B a c:=eO.trans (L:=fZ) (fun h k=>fZ.trans h k) h k
theorem eO.trS {B:Nat}{a b c:H}(h:eO gZ B a b)(k:eO gZ B b c):eO gZ B a c:=eO.trans (L:=gZ) (fun h k=>gZ.trans h k) h k
theorem eO.soft {B:Nat}{w w':H}(h:eO gZ B w w'):eO fZ B w w':=⟨h.bel,fun p u a=>by
 obtain⟨v,b,l⟩:=h.cell p u a;exact⟨v,b,l.like⟩,h.fro⟩
theorem aCE {B g:Nat}(b:B<=g):∀(a:List Value) (o:Nat) (w:H),Below B w (w.setCells g o a):=by
 intro a;induction a with|nil=>{intro o w;exact am _ _}|cons u r ih=>{intro o w;unfold World.setCells;exact((am B w).setCell b u).trans (ih _ _)}
theorem xE {L:Value->Value->Prop}(f:∀u,L u u){B g o:Nat}{w:H}{a:List Value}(i:B<=g)(h:∀j (c:j<a.length),∃u,w.cell? ⟨g,o+j,none⟩=some u/\L u a[j]):eO L B w (w.setCells g o a):=by
 have k:∀j,j<a.length->(w.cell? ⟨g,o+j,none⟩).isSome=true:=fun j c=>by{obtain⟨u,hu,_⟩:=h j c;rw[hu];rfl};refine⟨aCE i a o w,fun p u hu=>?_,fun p=>by rw[World.frozen?_setCells]⟩;by_cases e:p.block=g/\p.spot=none/\o<=p.off/\p.off<o+a.length;{obtain⟨d,h2,h3,b⟩:=e;obtain⟨m,po,n⟩:=p;simp only at d h2 h3 b;subst d;subst h2;have c:po-o<a.length:=by{omega};have hc:=World.cell?_setCells_in m a o w k (po-o) c;obtain⟨x,hx,l⟩:=h (po-o) c;rw[show o+(po-o)=po by omega]at hc hx;rw[hu]at hx;cases hx;exact⟨_,hc,l⟩}
 ·refine⟨u,?_,f u⟩;rw[World.cell?_setCells_out g a o w p (fun d h2=>by
   rcases ak p.off o with h3|h3
   ·exact .inl h3
   ·exact .inr (by rcases ak p.off (o+a.length)with b|b;exact absurd ⟨d,h2,h3,b⟩ e;exact b))]
  exact hu
def aCC (B:Nat)(w:H)(a:Option Addr)(n:Nat):Prop :=
 ∀j,j<n->∃g off s t,a=some ⟨g,off,none⟩/\B<=g/\Unf w g/\w.cell? ⟨g,off+j*2,none⟩=some (.string s)/\w.cell? ⟨g,off+j*2+1,none⟩=some (.string t)
def nZ (B:Nat)(w:H):Nat->Option Addr->Nat->Prop
 | 0,_,n=>n=0
 | d+1,a,n=>n<=140737488355328/\∀j,j<n->∃g off k s nm aa al ac tx a' kl kc,a=some ⟨g,off,none⟩/\B<=g/\Unf w g /\
   Six w g (off+j*6) (.int .i64 k) (.int .i64 s) (.string nm) (.slice aa al ac) (.string tx) (.slice a' kl kc)/\al<=140737488355328/\aCC B w aa al/\nZ B w d a' kl
theorem aCC.soft {B:Nat}{w w':H}{a:Option Addr}{n:Nat}(b:eO fZ B w w')(h:aCC B w a n):aCC B w' a n:=by
 intro j i;obtain⟨g,q,s,t,e,f,k,c,d⟩:=h j i;obtain⟨v1,k1,m⟩:=b.cell _ _ c;obtain⟨v2,k2,p⟩:=b.cell _ _ d;have str:∀s v,fZ (.string s) v->∃t,v=.string t:=by{intro s v l;rcases l with rfl|⟨_,t,_,rfl⟩|⟨_,_,e,_⟩|⟨_,_,_,e,_⟩;{exact⟨s,rfl⟩};{exact⟨t,rfl⟩};{cases e};{cases e}};obtain⟨r,rfl⟩:=str _ _ m;obtain⟨u,rfl⟩:=str _ _ p;exact⟨g,q,r,u,e,f,fun o=>(b.fro _).2 (k o),k1,k2⟩
theorem aFg {s:I}{v:Value}(l:fZ (.string s) v):∃t,v=.string t:=by
 rcases l with rfl|⟨_,t,_,rfl⟩|⟨_,_,e,_⟩|⟨_,_,_,e,_⟩;{exact⟨s,rfl⟩};{exact⟨t,rfl⟩};{cases e};{cases e}
theorem aFf {s:Int}{v:Value}(l:fZ (.int .i64 s) v):∃t,v=.int .i64 t:=by
 rcases l with rfl|⟨_,_,e,_⟩|⟨_,t,_,rfl⟩|⟨_,_,_,e,_⟩;{exact⟨s,rfl⟩};{cases e};{exact⟨t,rfl⟩};{cases e}
theorem aBV {a:Option Addr}{n c:Nat}{v:Value}(l:fZ (.slice a n c) v):v=.slice a n c\/v=.slice none 0 0:=by
 rcases l with rfl|⟨_,_,e,_⟩|⟨_,_,e,_⟩|⟨_,_,_,_,rfl⟩;{exact .inl rfl};{cases e};{cases e};{exact .inr rfl}
theorem nZ.zero (B:Nat)(w:H)(d:Nat)(a:Option Addr):nZ B w d a 0:=by
 cases d with|zero=>rfl|succ d=>exact⟨bb _,fun j b=>absurd b (ro j)⟩
theorem nZ.soft {B:Nat}{w w':H}(b:eO fZ B w w'):∀(d:Nat) (a:Option Addr) (n:Nat),nZ B w d a n->nZ B w' d a n:=by
 intro d;induction d with|zero=>{intro a n h;exact h}|succ d ih=>{intro a n h;refine⟨h.1,fun j c=>?_⟩;obtain⟨g,off,k,s,nm,aa,al,ac,tx,a',kl,kc,e,hg,hu,h6,hal,hA,t⟩:=h.2 j c;obtain⟨C,k0,u⟩:=b.cell _ _ h6.x0;obtain⟨v1,k1,v⟩:=b.cell _ _ h6.x1;obtain⟨v2,k2,x⟩:=b.cell _ _ h6.x2;obtain⟨D,k3,y⟩:=b.cell _ _ h6.x3;obtain⟨E,k4,z⟩:=b.cell _ _ h6.x4;obtain⟨F,k5,A⟩:=b.cell _ _ h6.x5;obtain⟨i,rfl⟩:=aFf u;obtain⟨l,rfl⟩:=aFf v;obtain⟨m,rfl⟩:=aFg x;obtain⟨p,rfl⟩:=aFg z;have q:=hA.soft b;have r:=ih _ _ t;have f:Unf w' g:=fun o=>(b.fro _).2 (hu o);rcases aBV y with rfl|rfl<;>rcases aBV A with rfl|rfl;{exact⟨g,off,i,l,m,_,_,_,p,_,_,_,e,hg,f,⟨k0,k1,k2,k3,k4,k5⟩,hal,q,r⟩};{exact⟨g,off,i,l,m,_,_,_,p,_,_,_,e,hg,f,⟨k0,k1,k2,k3,k4,k5⟩,hal,q,nZ.zero _ _ _ _⟩};{exact⟨g,off,i,l,m,_,_,_,p,_,_,_,e,hg,f,⟨k0,k1,k2,k3,k4,k5⟩,bb _,fun j c=>absurd c (ro j),r⟩};{exact⟨g,off,i,l,m,_,_,_,p,_,_,_,e,hg,f,⟨k0,k1,k2,k3,k4,k5⟩,bb _,fun j c=>absurd c (ro j),nZ.zero _ _ _ _⟩}}
theorem aIu (n:Nd):n.sz=1+aB n.kids:=by
 cases n;conv=>lhs;unfold Nd.sz
 rfl
theorem aMn {D:Nat->Prop}{w:H}{n:Nd}{d f g i j k:Value}(h:bR D w n (.agg #[d,f,g,i,j,k])) :
  ∃b ca a c,d=.int .i64 n.kind/\f=.int .i64 n.space/\g=.string n.name/\i=.slice b n.attrs.length ca/\j=.string n.text/\k=.slice a n.kids.length c/\eN D w b n.attrs/\dD D w a 0 n.kids:=by
 cases n with|mk kd sp nm at' tx ks=>{unfold bR at h;obtain⟨b,ca,a,c,e,_,hA,l⟩:=h;simp only[ly,nf,fu,fm]at e;obtain⟨rfl,rfl,rfl,rfl,rfl,rfl⟩:=e;exact⟨b,ca,a,c,rfl,rfl,rfl,rfl,rfl,rfl,hA,l⟩}
theorem aOp {B:Nat}{w:H}:∀(m:Nat) (b:List Nd) (a:Option Addr),aB b<=m->aB b<=1000000000->SmK b->dD (fun g=>B<=g) w a 0 b->nZ B w m a b.length:=by
 intro m;induction m with|zero=>{intro b a f _ _ _;cases b with|nil=>rfl|cons k b=>{unfold aB at f;exact absurd (kI k) (by omega)}}|succ m ih=>{intro b a f s p h;have t:=(iT b).2;refine⟨by omega,fun j d=>?_⟩;obtain⟨g,off,c0,c1,c2,c3,c4,c5,e,hd,h6,o⟩:=h.get b 0 j d;rw[bw]at h6;have u:=(iT b).1 b[j] (dz d);have hq:=p.get b j d;generalize b[j]=q at *;obtain⟨aa,ca,a',c,rfl,rfl,rfl,rfl,rfl,rfl,hA,n⟩:=aMn o;obtain⟨_,_,q3,_,r⟩:=hq.get;have v:=aIu q;refine⟨g,off,_,_,_,aa,_,ca,_,a',_,c,e,hd.1,hd.2,h6,by omega,fun i hi=>?_,ih q.kids a' (by omega) (by omega) r n⟩;obtain⟨l,off',e',hd',k1,k2⟩:=hA i hi;exact⟨l,off',_,_,e',hd'.1,hd'.2,k1,k2⟩}
open Go.RowKit
theorem Tryz.info39s:(Tryz.prog.info? 39).map (fun i=>(i.zero,i.size,i.bytes))=some (some (.agg #[.string ⟨#[]⟩,.string ⟨#[]⟩]),2,32):=by kernel_rfl
theorem nZ.at {B:Nat}{w:H}{d:Nat}{a:Option Addr}{n:Nat}(h:nZ B w d a n):n<=140737488355328/\∀k,k<n->∃m g off i s nm aa al ac tx a' kl kc,d=m+1/\a=some ⟨g,off,none⟩/\B<=g/\Unf w g /\
  Six w g (off+k*6) (.int .i64 i) (.int .i64 s) (.string nm) (.slice aa al ac) (.string tx) (.slice a' kl kc)/\al<=140737488355328/\aCC B w aa al/\nZ B w m a' kl:=by
 cases d with|zero=>{exact⟨by rw[show n=0 from h];exact bb _,fun k b=>absurd (show n=0 from h) (by omega)⟩}|succ m=>{refine⟨h.1,fun k b=>?_⟩;obtain⟨g,off,i,s,nm,aa,al,ac,tx,a',kl,kc,r⟩:=h.2 k b;exact⟨m,g,off,i,s,nm,aa,al,ac,tx,a',kl,kc,rfl,r⟩}
theorem aKM {B g o:Nat}{w:H}{s t u v:I}(c:B<=g)(a:w.cell? ⟨g,o,none⟩=some (.string s))(b:w.cell? ⟨g,o+1,none⟩=some (.string t)):eO gZ B w (w.setCells g o [.string u,.string v]):=by
 refine xE gZ.refl c (fun j d=>?_);match j,d with
 | 0,_=>exact⟨_,a,.inr ⟨_,_,rfl,rfl⟩⟩
 | 1,_=>exact⟨_,b,.inr ⟨_,_,rfl,rfl⟩⟩
theorem aKN {B g o:Nat}{w:H}{i s:Int}{nm q:I}{b a:Option Addr}{d c m l:Nat}(e:B<=g)(h:Six w g o (.int .i64 i) (.int .i64 s) (.string nm) (.slice b d c) (.string q) (.slice a m l))(k p:Int)(n r:I) :
  eO fZ B w (w.setCells g o [.int .i64 k,.int .i64 p,.string n,.slice none 0 0,.string r,.slice none 0 0]):=by
 refine xE fZ.refl e (fun j f=>?_);match j,f with
 | 0,_=>exact⟨_,h.x0,.inr (.inr (.inl ⟨_,_,rfl,rfl⟩))⟩
 | 1,_=>exact⟨_,h.x1,.inr (.inr (.inl ⟨_,_,rfl,rfl⟩))⟩
 | 2,_=>exact⟨_,h.x2,.inr (.inl ⟨_,_,rfl,rfl⟩)⟩
 | 3,_=>exact⟨_,h.x3,.inr (.inr (.inr ⟨_,_,_,rfl,rfl⟩))⟩
 | 4,_=>exact⟨_,h.x4,.inr (.inl ⟨_,_,rfl,rfl⟩)⟩
 | 5,_=>exact⟨_,h.x5,.inr (.inr (.inr ⟨_,_,_,rfl,rfl⟩))⟩
theorem aKP (B:Nat):∀(d:Nat) (a:Option Addr) (n c:Nat) (w:H),G (nZ B w d a n)->Y 55 #[.slice a n c] w fun e w'=>e=.returned (.tuple #[])/\eO fZ B w w':=by
 intro d;induction d using Nat.strongRecOn with
 | ind d ih =>
  intro a n c w y;have av:=Z ih;have hn:=y.o.at.1;clear ih;obtain⟨bq,a2,bk,a4,be⟩:=cx Tryz.info39s;obtain⟨bs,a3,bl,a5,bf⟩:=cx Tryz.info45;go_enter Tryz.func55,Tryz.ntmps55
  go_wp2
  go_loopw [2] (fun i wx=>∃k:Nat,i=.int .i64 k/\G (k<=n/\eO fZ B w wx)) (fun i _=>n-(intOf i).toNat)
  case atStart=>exact⟨0,rfl,Z ⟨bb _,eO.refl fZ.refl _ _⟩⟩
  case round =>
   obtain⟨k,rfl,p⟩:=hrel;have hk:=p.o.1;rcases ak k n with E|bh
   ·obtain⟨m,g,r,i,s,nm,W,q,a0,tx,C,L,kc,hd,rfl,hg,hu,X,bd,hA,aa⟩:=(y.o.soft p.o.2).at.2 k E;have HD:=Z hd;have A:=Z (show B<=g/\Unf wr g/\aCC B wr W q/\nZ B wr m C L from⟨hg,hu,hA,aa⟩);have x:=Z X;clear hd hg hu hA aa X;obtain⟨N,ao⟩:∃N:H,N=wr:=⟨_,rfl⟩
    rw[<-ao]at A x p ⊢
    clear ao;go_wp2_with fail
    go_loopw [3] (fun i wx=>∃j:Nat,i=.int .i64 j/\G (j<=q/\eO gZ B N wx)) (fun i _=>q-(intOf i).toNat)
    case atStart=>exact⟨0,rfl,Z ⟨bb _,eO.refl gZ.refl _ _⟩⟩
    case round =>
     obtain⟨j,rfl,f⟩:=hrel;have hj:=f.o.1;have x3:wr.cell? ⟨g,r+k*6+3,none⟩=some (.slice W q a0):=by
      obtain⟨v,K,l⟩:=f.o.2.cell _ _ x.o.x3;rcases l with rfl|⟨_,_,e,_⟩
      ·exact K
      ·cases e
     rcases ak j q with an|bj
     ·obtain⟨D,M,s1,t1,rfl,al,J,P,Q⟩:=A.o.2.2.1.soft f.o.2.soft j an;have HS:=Z (f.o.2.trS (aKM (u:=⟨#[33]⟩) (v:=⟨#[]⟩) al P Q));have z:G (wr.there D (M+j*2) 2):=fun t F=>by
       match t,F with
       | 0,_=>exact⟨by show(wr.cell? ⟨D,M+j*2+0,none⟩).isSome=true;rw[gw,P];rfl,J _⟩
       | 1,_=>exact⟨by rw[Q];rfl,J _⟩
      clear al J P Q;go_wp2_with (refine ij (by rfl) 39 (.tmp 27) (.tmp 26) rfl D (M+j*2) #[.string ⟨#[33]⟩,.string ⟨#[]⟩] rfl rfl z.o (by rw[a2];simp[a4]) (by simp[Value.oneCell']) ?_)
      go_roundw
      case rel=>exact⟨j+1,by go_num,Z ⟨an,HS.o⟩⟩
      case measure=>simp[intOf];omega
     ·have x5:wr.cell? ⟨g,r+k*6+5,none⟩=some (.slice C L kc):=by
       obtain⟨v,K,l⟩:=f.o.2.cell _ _ x.o.x5;rcases l with rfl|⟨_,_,e,_⟩
       ·exact K
       ·cases e
      have aw:=Z (p.o.2.tr f.o.2.soft);have R:=Z (av.o m (by rw[HD.o];exact Nat.lt_succ_self m) C L kc wr (Z (A.o.2.2.2.soft f.o.2.soft)));clear p;go_wp2_with fail
      refine R.o.mono ?_;rintro e V ⟨rfl,ab⟩;have S:=Z (aw.o.tr ab);clear ab x3 x5 R;obtain⟨m',g',b2,i',s',b1,a7,a9,a8,b3,a6,b0,bx,a1,e',ad,h,b,_,_,_⟩:=(y.o.soft S.o).at.2 k E;cases e';have T:=Z (S.o.tr (aKN ad b (-1) 0 ⟨#[]⟩ ⟨#[]⟩));have z:G (V.there g (r+k*6) 6):=fun t F=>by
       match t,F with
       | 0,_=>exact⟨by rw[gw,b.x0];rfl,h _⟩
       | 1,_=>exact⟨by rw[b.x1];rfl,h _⟩
       | 2,_=>exact⟨by rw[b.x2];rfl,h _⟩
       | 3,_=>exact⟨by rw[b.x3];rfl,h _⟩
       | 4,_=>exact⟨by rw[b.x4];rfl,h _⟩
       | 5,_=>exact⟨by rw[b.x5];rfl,h _⟩
      clear b h ad a1;go_wp2_with (refine ij (by rfl) 45 (.tmp 37) (.tmp 36) rfl g (r+k*6) #[.int .i64 (-1),.int .i64 0,.string ⟨#[]⟩,.slice none 0 0,.string ⟨#[]⟩,.slice none 0 0] rfl rfl z.o (by rw[a3];simp[a5]) (by simp[Value.oneCell']) ?_;try simp only[];obtain⟨W3,ac⟩:=ex (V.setCells g (r+k*6) [.int .i64 (-1),.int .i64 0,.string ⟨#[]⟩,.slice none 0 0,.string ⟨#[]⟩,.slice none 0 0]);rw[<-ac]at T ⊢;clear ac)
      go_roundw
      case rel=>exact⟨k+1,by go_num,Z ⟨E,T.o⟩⟩
      case measure=>simp[intOf];omega
   ·go_wp2
    exact lz (v:=.tuple #[]) (by simp[results,Tryz.results55,go_sem]) rfl ⟨rfl,p.o.2⟩
