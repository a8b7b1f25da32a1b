/-
Trees of nodes in memory; how many nodes a budget leaves (policy.few).
-/
import Derived.Shelf.SlSortCmp.Insertion
import Derived.Test.YtcfgbdhpcboikaaGreatDoorTextLaw
namespace Go.Proofs.YtcfgbdhpcboikaaGreatDoor
open Go.RowKit
theorem tN {n:Nat}:n<=n:=ah n
inductive Nd where
 | mk (kind space:Int) (name:I) (attrs:List (I × I)) (text:I) (kids:List Nd)
def Nd.kids:Nd->List Nd|.mk _ _ _ _ _ k=>k
def Nd.kind:Nd->Int|.mk k _ _ _ _ _=>k
def Nd.space:Nd->Int|.mk _ s _ _ _ _=>s
def Nd.name:Nd->I|.mk _ _ n _ _ _=>n
def Nd.attrs:Nd->List (I × I)|.mk _ _ _ a _ _=>a
def Nd.text:Nd->I|.mk _ _ _ _ t _=>t
mutual
def Nd.sz:Nd->Nat
 | .mk _ _ _ _ _ ks=>1+aB ks
def aB:List Nd->Nat
 | []=>0
 | k :: ks=>k.sz+aB ks
end
theorem kI (n:Nd):1<=n.sz:=by cases n;unfold Nd.sz;omega
theorem zL:∀(ks:List Nd) (j:Nat) (h:j<ks.length),(ks[j]).sz<=aB ks:=by
 intro ks;induction ks with|nil=>{intro j h;simp at h}|cons k ks ih=>{intro j h;unfold aB;cases j with|zero=>simp|succ j=>{have:=ih j (by simpa using h);simp only[s7];omega}}
theorem uX {P:Nd->Prop}{Q:List Nd->Prop}(h:∀n,Q n.kids->P n)(c:Q [])(i:∀n g,P n->Q g->Q (n :: g)):(∀n,P n)/\∀l,Q l:=by
 have f:∀m,(∀n:Nd,n.sz<=m->P n)/\∀l:List Nd,aB l<=m->Q l:=by{intro m;induction m with|zero=>{refine⟨fun n e=>absurd (kI n) (by omega),fun l=>?_⟩;cases l with|nil=>{intro _;exact c}|cons k ks=>{intro b;unfold aB at b;exact absurd (kI k) (by omega)}}|succ m ih=>{have d:∀n:Nd,n.sz<=m+1->P n:=fun n e=>by{refine h n (ih.2 _ ?_);cases n;unfold Nd.sz at e;show aB _<=m;simp only[Nd.kids];omega};refine⟨d,fun l=>?_⟩;induction l with|nil=>{intro _;exact c}|cons k ks ihk=>{intro b;unfold aB at b;exact i k ks (d k (by omega)) (ihk (by omega))}}};exact⟨fun n=>(f n.sz).1 n tN,fun l=>(f (aB l)).2 l tN⟩
structure Six (w:H) (g o:Nat) (c0 c1 c2 c3 c4 c5:Value):Prop where
 x0:w.cell? ⟨g,o,none⟩=some c0
 x1:w.cell? ⟨g,o+1,none⟩=some c1
 x2:w.cell? ⟨g,o+2,none⟩=some c2
 x3:w.cell? ⟨g,o+3,none⟩=some c3
 x4:w.cell? ⟨g,o+4,none⟩=some c4
 x5:w.cell? ⟨g,o+5,none⟩=some c5
theorem Six.below {w w':H}{g o B:Nat}{b c d i j c5:Value}(h:Six w g o b c d i j c5)(m:Below B w w')(l:w.heap.size<=B):Six w' g o b c d i j c5:=by
 have n:g<B:=dj (dx w _ h.x0) l;have k:∀f v,w.cell? ⟨g,f,none⟩=some v->w'.cell? ⟨g,f,none⟩=some v:=fun f v e=>by{rw[m.cell (p:=⟨g,f,none⟩) n];exact e};exact⟨k _ _ h.x0,k _ _ h.x1,k _ _ h.x2,k _ _ h.x3,k _ _ h.x4,k _ _ h.x5⟩
def dZ (w:H)(v:Value)(l:List (I × I)):Prop :=
 ∃a c,v=.slice a l.length c/\∀j (h:j<l.length),∃g off,a=some ⟨g,off,none⟩/\w.cell? ⟨g,off+j*2,none⟩=some (.string (l[j]).1)/\w.cell? ⟨g,off+j*2+1,none⟩=some (.string (l[j]).2)
theorem dZ.below {w w':H}{B:Nat}{v:Value}{l:List (I × I)}(h:dZ w v l)(d:Below B w w')(k:w.heap.size<=B):dZ w' v l:=by
 obtain⟨a,c,e,h⟩:=h;refine⟨a,c,e,fun j n=>?_⟩;obtain⟨g,q,m,b,i⟩:=h j n;have f:g<B:=dj (dx w _ b) k;exact⟨g,q,m,by rw[d.cell (p:=⟨g,_,none⟩) f];exact b,by rw[d.cell (p:=⟨g,_,none⟩) f];exact i⟩
mutual
def bJ (w:H):Nd->Value->Prop
 | .mk kd sp nm at' tx ks,v=>∃av a c,v=.agg #[.int .i64 kd,.int .i64 sp,.string nm,av,.string tx,.slice a ks.length c]/\ks.length<=140737488355328/\dZ w av at'/\aQ w a 0 ks
def aQ (w:H)(a:Option Addr):Nat->List Nd->Prop
 | _,[]=>True
 | i,n :: ks=>(∃g off c0 c1 c2 c3 c4 c5,a=some ⟨g,off,none⟩/\Six w g (off+i*6) c0 c1 c2 c3 c4 c5/\bJ w n (.agg #[c0,c1,c2,c3,c4,c5]))/\aQ w a (i+1) ks
end
theorem aQ.get {w:H}{a:Option Addr}:∀(b:List Nd) (i j:Nat) (h:j<b.length),aQ w a i b->∃g p d e f l m n,a=some ⟨g,p,none⟩/\Six w g (p+(i+j)*6) d e f l m n/\bJ w b[j] (.agg #[d,e,f,l,m,n]):=by
 intro b;induction b with|nil=>{intro i j h;simp at h}|cons k b ih=>{intro i j h c;unfold aQ at c;cases j with|zero=>exact c.1|succ j=>{have:=ih (i+1) j (by simpa using h) c.2;rw[show i+1+j=i+(j+1) by omega]at this;exact this}}
theorem aAF {w w':H}{B:Nat}(l:Below B w w')(f:w.heap.size<=B):∀m:Nat,(∀(n:Nd) (v:Value),n.sz<=m->bJ w n v->bJ w' n v)/\(∀(a:Option Addr) (b:List Nd) (i:Nat),aB b<=m->aQ w a i b->aQ w' a i b):=by
 intro m;induction m with|zero=>{refine⟨fun n v p=>absurd (kI n) (by omega),fun a b=>?_⟩;induction b with|nil=>{intro i _ h;unfold aQ;trivial}|cons k b _=>{intro i d;unfold aB at d;exact absurd (kI k) (by omega)}}|succ m ih=>{have j:∀(n:Nd) (v:Value),n.sz<=m+1->bJ w n v->bJ w' n v:=by{intro n v d h;cases n with|mk kd sp nm at' tx b=>{unfold Nd.sz at d;unfold bJ at h ⊢;obtain⟨q,a,c,e,hl,ha,r⟩:=h;exact⟨q,a,c,e,hl,ha.below l f,ih.2 a b 0 (by omega) r⟩}};refine⟨j,fun a b=>?_⟩;induction b with|nil=>{intro i _ h;unfold aQ;trivial}|cons k b ihk=>{intro i d h;unfold aB at d;unfold aQ at h ⊢;obtain⟨⟨g,off,c0,c1,c2,c3,c4,c5,e,h6,p⟩,hr⟩:=h;exact⟨⟨g,off,c0,c1,c2,c3,c4,c5,e,h6.below l f,j k _ (by omega) p⟩,ihk (i+1) (by omega) hr⟩}}
theorem bJ.below {w w':H}{B:Nat}{n:Nd}{v:Value}(h:bJ w n v)(c:Below B w w')(b:w.heap.size<=B):bJ w' n v:=(aAF c b n.sz).1 n v tN h
theorem aQ.below {w w':H}{B:Nat}{a:Option Addr}{ks:List Nd}{i:Nat}(h:aQ w a i ks)(c:Below B w w')(b:w.heap.size<=B):aQ w' a i ks:=(aAF c b (aB ks)).2 a ks i tN h
theorem Six.zero {w:H}{g:Nat}{b c d e f c5:Value}(h:Six w g 0 b c d e f c5) :
  w.cell? ⟨g,0,none⟩=some b/\w.cell? ⟨g,1,none⟩=some c/\w.cell? ⟨g,2,none⟩=some d/\w.cell? ⟨g,3,none⟩=some e/\w.cell? ⟨g,4,none⟩=some f/\w.cell? ⟨g,5,none⟩=some c5:=⟨h.x0,h.x1,h.x2,h.x3,h.x4,h.x5⟩
theorem bJ.get {w:H}{nd:Nd}{v:Value}(h:bJ w nd v):∃b a c,v=.agg #[.int .i64 nd.kind,.int .i64 nd.space,.string nd.name,b,.string nd.text,.slice a nd.kids.length c]/\dZ w b nd.attrs/\aQ w a 0 nd.kids/\nd.kids.length<=140737488355328:=by
 cases nd with|mk kd sp nm at' tx ks=>{unfold bJ at h;obtain⟨b,a,c,e,hl,hA,hK⟩:=h;exact⟨b,a,c,e,hA,hK,hl⟩}
theorem iT:∀(ks:List Nd),(∀k∈ks,k.sz<=aB ks)/\ks.length<=aB ks:=by
 intro ks;induction ks with|nil=>exact⟨fun k b=>by simp at b,bb _⟩|cons n ks ih=>{have c:aB (n :: ks)=n.sz+aB ks:=by{conv=>lhs;unfold aB};have d:=kI n;refine⟨fun k b=>?_,?_⟩;{rcases b9.1 b with h|h;{rw[h];omega};{have:=ih.1 k h;omega}};{rw[c,bv];have:=ih.2;omega}}
theorem jK (n:Nd):n.sz=1+aB n.kids:=by cases n;rfl
theorem bJ.cells {w:H}{n:Nd}{c d f g i j:Value}(h:bJ w n (.agg #[c,d,f,g,i,j])) :
  ∃a b a' b',c=.int .i64 n.kind/\d=.int .i64 n.space/\f=.string n.name/\g=.slice a n.attrs.length b/\i=.string n.text/\j=.slice a' n.kids.length b':=by
 cases n with|mk kd sp nm at' tx ks=>{unfold bJ at h;obtain⟨k,a',b',e,_,⟨a,b,rfl,_⟩,_⟩:=h;simp only[ly,nf,fu,fm]at e;obtain⟨rfl,rfl,rfl,rfl,rfl,rfl⟩:=e;exact⟨a,b,a',b',rfl,rfl,rfl,rfl,rfl,rfl⟩}
mutual
def aRU:Nat->Nd->Int->Int
 | 0,_,_=>-1
 | d+1,.mk _ _ _ _ _ ks,left=>aQh d ks (left-1)
def aQh:Nat->List Nd->Int->Int
 | _,[],left=>left
 | d,k :: ks,left=>if left<0 then left else aQh d ks (aRU d k left)
end
open Go.Sort Go.Lib
theorem rN (a b:UInt8)(x y:U):compareBytes (a :: x) (b :: y)=if a.toNat<b.toNat then -1 else if b.toNat<a.toNat then 1 else compareBytes x y:=by
 conv=>lhs;unfold compareBytes
 simp only[s9]
theorem aG0:∀a:U,compareBytes a a=0:=by
 intro a;induction a with|nil=>rfl|cons c a ih=>rw[rN,ae (by omega),ae (by omega),ih]
theorem lZ:∀a b:U,compareBytes b a=- compareBytes a b:=by
 intro a;induction a with|nil=>{intro b;cases b<;>rfl}|cons c a ih=>{intro b;cases b with|nil=>rfl|cons d b=>{rw[rN,rN];by_cases e:c.toNat<d.toNat;{rw[af e,ae (by omega),af e];rfl};{by_cases f:d.toNat<c.toNat;{rw[af f,ae e,af f]};{rw[ae f,ae e,ae e,ae f,ih]}}}}
theorem tG:∀a b:U,compareBytes a b=0->a=b:=by
 intro a;induction a with
 | nil=>intro b h;cases b with
  | nil=>rfl
  | cons d b=>simp[compareBytes]at h
 | cons c a ih =>
  intro b h;cases b with
  | nil=>simp[compareBytes]at h
  | cons d b =>
   rw[rN]at h
   split at h
   ·omega
   ·split at h
    ·omega
    ·rw[ih b h,de.1 (by omega:c.toNat=d.toNat)]
theorem vW:∀a b c:U,compareBytes a b<0->compareBytes b c<0->compareBytes a c<0:=by
 intro a;induction a with|nil=>{intro b c f e;cases c with|nil=>{rw[lZ [] b]at e;omega}|cons d c=>simp[compareBytes]}|cons x a ih=>{intro b c f e;cases b with|nil=>simp[compareBytes]at f|cons y b=>{cases c with|nil=>simp[compareBytes]at e|cons z c=>{rw[rN]at f e ⊢;by_cases p1:x.toNat<y.toNat;{by_cases p2:z.toNat<y.toNat;{rw[ae (by omega),af p2]at e;omega};{rw[af (by omega)];omega}};{rw[ae p1]at f;by_cases g:y.toNat<x.toNat;{rw[af g]at f;omega};{rw[ae g]at f;by_cases i:y.toNat<z.toNat;{rw[af (by omega)];omega};{rw[ae i]at e;by_cases h:z.toNat<y.toNat;{rw[af h]at e;omega};{rw[ae h]at e;rw[ae (by omega),ae (by omega)];exact ih b c f e}}}}}}}
abbrev AT:=I × I
def gB (x y:AT):Int:=compareBytes x.1.data.toList y.1.data.toList
theorem aLD:SWO (ltOf gB) where
 irrefl x:=by unfold ltOf gB;rw[aG0];rfl
 trans x y z b h2:=by
  unfold ltOf gB at *
  simp only[bi]at *
  exact vW _ _ _ b h2
 ntrans x y z b h2:=by
  unfold ltOf gB at *
  simp only[gq,Int.not_lt]at *
  rcases me b with b|b
  ·rcases me h2 with h2|h2
   ·have:=vW z.1.data.toList y.1.data.toList x.1.data.toList (by rw[lZ];omega) (by rw[lZ];omega);rw[lZ]at this
    omega
   ·rw[<-tG _ _ h2.symm];omega
  ·rw[tG _ _ b.symm];exact h2
def aW (V:I->I->Option I):List I->List AT->List AT
 | _,[]=>[]
 | sn,x :: l=>if containsS sn x.1=true then aW V sn l else (match V x.1 x.2 with|some t=>[(x.1,t)]|none=>[])++aW V (sn++[x.1]) l
def rZ (r:List AT):Prop:=r.Pairwise fun x y=>gB x y<0
def mO (V:I->I->Option I)(l r:List AT):Prop:=r.Perm (aW V [] l)/\rZ r
theorem aEb:∀(a b:List AT),rZ a->rZ b->a.Perm b->a=b:=by
 intro a;induction a with|nil=>{intro b _ _ h;exact(List.Perm.nil_eq h)}|cons x a ih=>{intro b j k h;cases b with|nil=>exact absurd h.length_eq (by simp)|cons y b=>{have f:=qa.1 j;have g:=qa.1 k;have e:x=y:=by{have hx:x∈y :: b:=h.mem_iff.1 (by simp);have c:y∈x :: a:=h.mem_iff.2 (by simp);rcases b9.1 hx with hx|hx;{exact hx};{rcases b9.1 c with c|c;{exact c.symm};{have d:=g.1 x hx;have i:=f.1 y c;unfold gB at d i;rw[lZ]at d;omega}}};subst e;rw[ih b f.2 g.2 (List.perm_cons x |>.1 h)]}}
theorem xX {V:I->I->Option I}{l a b:List AT}(c:mO V l a)(d:mO V l b):a=b :=
 aEb a b c.2 d.2 (c.1.trans d.1.symm)
theorem aI4 (V:I->I->Option I):∀(l:List AT) (sn:List I),∀x∈aW V sn l,x.1∉sn:=by
 intro l;induction l with|nil=>{intro sn x h;simp[aW]at h}|cons y l ih=>{intro sn x h;unfold aW at h;split at h;{exact ih sn x h};{rename_i c;rcases cu.1 h with h|h;{cases hv:V y.1 y.2 with|none=>{rw[hv]at h;simp at h}|some t=>{rw[hv]at h;simp only[fh]at h;subst h;exact fun b=>c ((ic _ _).2 b)}};{exact fun b=>ih _ x h (by simp[b])}}}
theorem aAs (V:I->I->Option I):∀(l:List AT) (b:List I),(aW V b l).Pairwise fun x y=>x.1≠y.1:=by
 intro l;induction l with|nil=>{intro b;exact List.Pairwise.nil}|cons y l ih=>{intro b;unfold aW;split;{exact ih b};{cases hv:V y.1 y.2 with|none=>exact ih _|some t=>{refine qa.2 ⟨fun x hx=>?_,ih _⟩;have:=aI4 V l _ x hx;simp only[cu,fh,gx]at this;exact fun e=>this.2 e.symm}}}
theorem aI2 (V:I->I->Option I):∀(l:List AT) (b:List I),(aW V b l).length<=l.length:=by
 intro l;induction l with|nil=>{intro b;exact ah _}|cons y l ih=>{intro b;unfold aW;split;{have:=ih b;simp;omega};{have:=ih (b++[y.1]);cases V y.1 y.2<;>simp<;>omega}}
theorem aBy (V:I->I->Option I):∀(l:List AT) (b:List I),∀x∈aW V b l,∃v,(x.1,v)∈l/\V x.1 v=some x.2:=by
 intro l;induction l with|nil=>{intro b x h;simp[aW]at h}|cons y l ih=>{intro b x h;unfold aW at h;split at h;{obtain⟨v,h1,c⟩:=ih b x h;exact⟨v,by simp[h1],c⟩};{rcases cu.1 h with h|h;{cases hv:V y.1 y.2 with|none=>{rw[hv]at h;simp at h}|some t=>{rw[hv]at h;simp only[fh]at h;subst h;exact⟨y.2,by simp,hv⟩}};{obtain⟨v,h1,c⟩:=ih _ x h;exact⟨v,by simp[h1],c⟩}}}
theorem aKt {d:Array AT}(p:SortedIn (ltOf gB) 0 d.size d)(k:d.toList.Pairwise fun x y=>x.1≠y.1):rZ d.toList:=by
 unfold rZ;rw[td]at k ⊢;intro i j hi f e;have c:=k i j hi f e;have n:i<d.size:=by{simpa using hi};have g:j<d.size:=by{simpa using f};have b:=p i j (bb _) e g;unfold ltOf at b;simp only[gq,Int.not_lt]at b;rw[ib d j g,ib d i n]at b;have l:d.toList[i]=d[i]:=by{simp};have m:d.toList[j]=d[j]:=by{simp};rw[l,m]at c ⊢;unfold gB at b ⊢;rw[lZ]at b;rcases me (by omega:compareBytes (d[i]).1.data.toList (d[j]).1.data.toList<=0)with h|h;{exact h};{exfalso;apply c;have:=tG _ _ h;cases hx:(d[i]).1;cases hy:(d[j]).1;rw[hx,hy]at this;simpa using this}
open Go.RowKit
def jT (w:H)(v:Value)(n:Nat)(xs:List Value):Prop :=
 ∃a c,v=.slice a n c/\∀j u,xs[j]?=some u->∃g off,a=some ⟨g,off,none⟩/\w.cell? ⟨g,off+j,none⟩=some u
theorem jT.below {w w':H}{B n:Nat}{v:Value}{xs:List Value}(h:jT w v n xs)(i:Below B w w')(d:w.heap.size<=B):jT w' v n xs:=by
 obtain⟨a,c,e,h⟩:=h;refine⟨a,c,e,fun j u l=>?_⟩;obtain⟨g,m,f,b⟩:=h j u l;have k:g<B:=dj (dx w _ b) d;exact⟨g,m,f,by rw[i.cell (p:=⟨g,_,none⟩) k];exact b⟩
theorem jT.get {w:H}{v:Value}{n:Nat}{d:List Value}(h:jT w v n d)(j:Nat)(k:j<d.length):∃g b c,v=.slice (some ⟨g,b,none⟩) n c/\w.cell? ⟨g,b+j,none⟩=some d[j]:=by
 obtain⟨a,c,e,h⟩:=h;obtain⟨g,b,f,i⟩:=h j _ (bc k);exact⟨g,b,c,by rw[e,f],i⟩
structure aF (B:Nat) (e:TypeId) (size:Nat) (v:Value) (n:Nat) (xs:List Value) (W0 w:H):Prop where
 own:w.ownsRow B e size v n xs
 bel:Below B W0 w
 base:B<=w.heap.size
theorem aF.nil (W:H)(e:TypeId)(size:Nat):aF W.heap.size e size (.slice none 0 0) 0 [] W W:=⟨qq _ _ _ _,am _ _,ah _⟩
theorem aF.of {B:Nat}{b w:H}(e:TypeId)(size:Nat)(d:Below B b w)(c:B<=w.heap.size):aF B e size (.slice none 0 0) 0 [] b w:=⟨qq _ _ _ _,d,c⟩
theorem aF.cast {B:Nat}{e:TypeId}{size:Nat}{v:Value}{n c:Nat}{d f:List Value}{b w:H}(h:aF B e size v n d b w)(g:n=c)(hx:d=f):aF B e size v c f b w:=by
 subst g;subst hx;exact h
theorem aF.keep {B:Nat}{e:TypeId}{size:Nat}{v:Value}{n:Nat}{f:List Value}{c w w':H}(h:aF B e size v n f c w)(b:Below w.heap.size w w'):aF B e size v n f c w':=by
 refine⟨⟨h.own.1,?_⟩,h.bel.trans (b.mono h.base),bg h.base b.size⟩;rcases h.own.2 with j|⟨g,cap,cur,hv,hB,d,rest⟩;{exact .inl j};{have i:g<w.heap.size:=(dq.1 d).1;exact .inr ⟨g,cap,cur,hv,hB,by rw[b.block g i];exact d,rest⟩}
theorem aF.alloc {B:Nat}{e:TypeId}{size:Nat}{v:Value}{n:Nat}{c:List Value}{b w:H}(h:aF B e size v n c b w)(o:Obj):aF B e size v n c b (w.alloc o) :=
 h.keep ((am _ w).alloc tN o)
theorem aF.drew {B:Nat}{e:TypeId}{size:Nat}{v:Value}{n:Nat}{c:List Value}{b w:H}(h:aF B e size v n c b w):aF B e size v n c b w.drew:=h.keep (am _ w).drew
theorem aF.vec {B:Nat}{e:TypeId}{size:Nat}{v:Value}{n:Nat}{xs:List Value}{d w:H}(h:aF B e size v n xs d w):jT w v n xs:=by
 rcases h.own.2 with⟨c,h0⟩|⟨g,cap,f,c,l,i,q,m,p,k⟩;{have hx:xs=[]:=fj (by rw[h.own.1,h0,iy]);exact⟨none,0,by rw[c,h0],fun j u b=>by rw[hx]at b;simp at b⟩};{refine⟨_,_,c,fun j u b=>⟨g,0,rfl,?_⟩⟩;rw[bw,au w g j f e (0,0) i];rw[<-k,f9]at b;split at b;{simpa using b};{cases b}}
theorem aF.slice {B:Nat}{e:TypeId}{size:Nat}{v:Value}{n:Nat}{m:List Value}{f w:H}(h:aF B e size v n m f w):∃a c,v=.slice a n c/\n<=c/\∀y,a=some y->B<=y.block/\y.block<w.heap.size:=by
 rcases h.own.2 with⟨b,i⟩|⟨g,cap,p,b,j,k,l,q,r,s⟩;{exact⟨none,0,by rw[b,i],by omega,fun y d=>by cases d⟩};{refine⟨_,_,b,l,fun y d=>?_⟩;cases d;exact⟨j,(dq.1 k).1⟩}
theorem aF.isB {B:Nat}{v:Value}{n:Nat}{a:Option Addr}{c:Nat}{bs:U}{f w:H}(h:aF B 5 1 v n (bs.map dE) f w)(p:v=.slice a n c):IsB w a bs:=by
 intro j b l;obtain⟨q,r,e,h⟩:=h.vec;rw[p]at e;simp only[ce]at e;obtain⟨rfl,_,_⟩:=e;obtain⟨g,d,i,m⟩:=h j (dE b) (by rw[gk,l];rfl);refine⟨_,i,?_⟩;have k:(⟨g,d,none⟩:Addr).add j=⟨g,d+j,none⟩:=by{unfold Addr.add;split<;>simp_all};rw[k];exact m
structure cV (w w':H) (v v':Value):Prop where
 gr:w.grownBy w' v.ownBlock
 loc:v'.ownBlock=v.ownBlock\/∃k,v'.ownBlock=some k/\w.heap.size<=k
def nX (v u:Value):Prop:=v.ownBlock=none\/u.ownBlock=none\/v.ownBlock≠u.ownBlock
theorem nX.nil (v:Value):nX (.slice none 0 0) v:=.inl rfl
theorem nX.symm {v u:Value}(h:nX v u):nX u v:=by
 rcases h with h|h|h;{exact .inr (.inl h)};{exact .inl h};{exact .inr (.inr (gz h))}
theorem cV.other {B:Nat}{e:TypeId}{size:Nat}{u v v':Value}{n:Nat}{i:List Value}{d w w':H}(h:cV w w' v v')(c:aF B e size u n i d w)(j:nX v u)(p:∀k,v.ownBlock=some k->B<=k):aF B e size u n i d w':=by
 refine⟨⟨c.own.1,?_⟩,c.bel.grown h.gr c.base p,bg c.base h.gr.size⟩;rcases c.own.2 with m|⟨g,cap,cur,rfl,hB,f,rest⟩;{exact .inl m};{have l:g<w.heap.size:=(dq.1 f).1;refine .inr ⟨g,cap,cur,rfl,hB,?_,rest⟩;rw[h.gr.block g l (fun e=>?_)];{exact f};{rcases j with b|b|b;{rw[b]at e;cases e};{cases b};{exact b e.symm}}}
theorem cV.apart {B:Nat}{e:TypeId}{size:Nat}{u v v':Value}{n:Nat}{l:List Value}{b w w':H}(h:cV w w' v v')(d:aF B e size u n l b w)(f:nX v u):nX v' u:=by
 rcases h.loc with c|⟨k,j,q⟩;{unfold nX;rw[c];exact f};{rcases d.own.2 with⟨rfl,_⟩|⟨g,cap,m,rfl,p,i,rest⟩;{exact .inr (.inl rfl)};{have r:g<w.heap.size:=(dq.1 i).1;refine .inr (.inr ?_);rw[j];intro e;simp[Value.ownBlock]at e;omega}}
theorem aF.hi {B:Nat}{e:TypeId}{size:Nat}{v:Value}{n:Nat}{h:List Value}{c w:H}(d:aF B e size v n h c w):∀k,v.ownBlock=some k->k<w.heap.size:=by
 intro k b;rcases d.own.2 with⟨rfl,_⟩|⟨g,cap,i,rfl,j,f,_⟩;{simp[Value.ownBlock]at b};{simp[Value.ownBlock]at b;subst b;exact(dq.1 f).1}
theorem cV.cell {w w':H}{v v' u:Value}{p:Addr}(h:cV w w' v v')(b:w.cell? p=some u)(c:v.ownBlock=some p.block->False):w'.cell? p=some u :=
 (qo (h.gr.block p.block (dx w p b) (fun e=>c e.symm))).trans b
theorem oE {w:H}{p:Addr}{u:Value}{o:Obj}(b:w.cell? p=some u):(w.alloc o).cell? p=some u:=by
 rw[((am w.heap.size w).alloc tN o).cell (dx w p b)];exact b
theorem aF.lo {B:Nat}{e:TypeId}{size:Nat}{v:Value}{n:Nat}{h:List Value}{c w:H}(d:aF B e size v n h c w):∀k,v.ownBlock=some k->B<=k:=by
 intro k b;rcases d.own.2 with⟨rfl,_⟩|⟨g,cap,i,rfl,f,_⟩;{simp[Value.ownBlock]at b};{simp[Value.ownBlock]at b;subst b;exact f}
section
variable {P:Program} {w:H} {ops:Array Oper} {rest:List Oper} {o:Oper} {a:Act} {Q:Exit->Act->H->Prop}
theorem mN (C:o.guard=none)(s x:Operand)(t:TypeId)
  (F:o.op=.call { callee:=.builtin .append,args:=#[s,x],argTypes:=#[t,t] })
  (e:TypeId) (i:TypeInfo) (z:Value) (size k:Nat) (N:P.underlying t=some (.slice e)) (hi:P.info? e=some i) (S:i.zero=some z)
  (L:i.size=size) (A:i.bytes=k) (T:z.cells.size=size) (M:0<size)
  {B:Nat} {q:H} (v:Value) (n:Nat) (p:List Value) (K:a.eval s=v) (b:aF B e size v n p q w)
  (g:Addr) (m c:Nat) (f:List Value) (hx:a.eval x=.slice (some g) m c) (D:f.length=m*size) (E:∀j u,f[j]?=some u->w.cell? (g.add j)=some u) (r:f.all (fun u=>u.oneCell')=true)
  (y:(n+m)*k<=140737488355328) (V:n+m<=140737488355328)
  (h:∀v' w',G (aF B e size v' (n+m) (p++f) q w')->G (cV w w' v v')->wpList P ops Q rest (a.put o.dst v') w'):wpList P ops Q (o :: rest) a w:=by
 refine wpList_append_own_at w C s x t F B e i z size k N hi S L A T M v n p K b.own g m c f hx D E (fun u R=>da.1 r u R) (by unfold maxLen;omega) y b.base ?_;intro v' w' J l _ d;refine h v' w' ⟨J,b.bel.grown l b.base b.lo,bg b.base l.size⟩ ⟨l,?_⟩;rcases d with d|d
 ·exact .inl d
 ·exact .inr ⟨_,d,ah _⟩
theorem aU (r:o.guard=none)(s x:Operand)(t:TypeId)
  (C:o.op=.call { callee:=.builtin .append,args:=#[s,x],argTypes:=#[t,t] })
  (e:TypeId) (i:TypeInfo) (z:Value) (size c:Nat) (J:P.underlying t=some (.slice e)) (hi:P.info? e=some i) (L:i.zero=some z)
  (E:i.size=size) (p:i.bytes=c) (M:z.cells.size=size) (F:0<size)
  {B:Nat} {f b:H} (v:Value) (n:Nat) (d:List Value) (D:a.eval s=v) (k:aF B e size v n d f b)
  (cs:Array Value) (K:w=b.alloc (.cells cs e)) (hx:a.eval x=.slice (some ⟨b.heap.size,0,none⟩) 1 1) (q:cs.size=size) (g:cs.toList.all (fun u=>u.oneCell')=true)
  (m:(n+1)*c<=140737488355328) (A:n+1<=140737488355328)
  (h:∀v' w',G (aF B e size v' (n+1) (d++cs.toList) f w')->G (cV (b.alloc (.cells cs e)) w' v v')->wpList P ops Q rest (a.put o.dst v') w'):wpList P ops Q (o :: rest) a w:=by
 subst K;refine mN r s x t C e i z size c J hi L E p M F v n d D (k.alloc _) ⟨b.heap.size,0,none⟩ 1 1 cs.toList hx (by simpa using q) ?_ g m A h;intro j u y;have l:(⟨b.heap.size,0,none⟩:Addr).add j=⟨b.heap.size,j,none⟩:=by unfold Addr.add;split<;>simp_all
 rw[l,au _ _ j cs e (0,0) (cc b _)];simpa using y
end
open Go.RowKit
def jV (x:AT):List Value:=[.string x.1,.string x.2]
def bM (l:List AT):List Value:=l.flatMap jV
theorem fN (l:List AT):(bM l).length=l.length*2:=by
 induction l with|nil=>rfl|cons x l ih=>{unfold bM at *;rw[gl,ax,ih];simp[jV];omega}
theorem sL:∀(l:List AT) (j:Nat) (h:j<l.length),(bM l)[j*2]?=some (.string (l[j]).1)/\(bM l)[j*2+1]?=some (.string (l[j]).2):=by
 intro l;induction l with|nil=>{intro j h;simp at h}|cons x l ih=>{intro j h;cases j with|zero=>exact⟨rfl,rfl⟩|succ j=>{have:=ih j (by simpa using h);rw[show(j+1)*2=j*2+2 by omega,show j*2+2+1=(j*2+1)+2 by omega];unfold bM at *;rw[gl];exact this}}
theorem tL (a b:List AT):bM (a++b)=bM a++bM b:=by unfold bM;rw[qb]
theorem aF.attrs {B:Nat}{v:Value}{l:List AT}{i w:H}(h:aF B 39 2 v l.length (bM l) i w):dZ w v l:=by
 obtain⟨a,c,e,f⟩:=h.vec;refine⟨a,c,e,fun j n=>?_⟩;obtain⟨k,m⟩:=sL l j n;obtain⟨g,p,b,k1⟩:=f _ _ k;obtain⟨q,r,d,k2⟩:=f _ _ m;rw[b]at d;cases d;exact⟨g,p,b,k1,by rw[jg];exact k2⟩
theorem dZ.get {w:H}{v:Value}{l:List AT}(h:dZ w v l)(j:Nat)(m:j<l.length):∃g b c,v=.slice (some ⟨g,b,none⟩) l.length c/\w.cell? ⟨g,b+j*2,none⟩=some (.string (l[j]).1)/\w.cell? ⟨g,b+j*2+1,none⟩=some (.string (l[j]).2):=by
 obtain⟨a,c,e,k⟩:=h;obtain⟨g,b,i,d,f⟩:=k j m;exact⟨g,b,c,by rw[e,i],d,f⟩
def nM (s:I):Value:=.string s
theorem sG (v:Value)(zs:List I)(x:I)(w:H)(p:zs.length<=1000000000)(i:jT w v zs.length (zs.map nM))(b:Bool)(d:Lib.containsS zs x=b) :
  Y 85 #[v,.string x] w fun e w'=>e=.returned (.bool b)/\w=w':=by
 obtain⟨a,c,rfl,f⟩:=i;cases zs with
 | nil =>
  refine(Tryz.slices_Contains_string_empty a c x w).mono ?_;rintro e w' ⟨rfl,rfl⟩;exact⟨by rw[<-d];rfl,rfl⟩
 | cons z zs =>
  obtain⟨g,m,rfl,_⟩:=f 0 (nM z) (by simp);refine(Tryz.slices_Contains_string g m (z :: zs).length c (z :: zs) x w tN (by omega) ?_).mono ?_
  ·intro j h;obtain⟨n,q,l,k⟩:=f j (nM ((z :: zs)[j])) (by rw[gk,bc h];rfl);cases l;rw[k];simp[nM,List.getD_eq_getElem?_getD,List.getElem?_eq_getElem h]
  ·rintro e w' ⟨rfl,rfl⟩;exact⟨by rw[kh,<-d],rfl⟩
theorem Tryz.info39:(Tryz.prog.info? 39).map (fun i=>(i.zero,i.size,i.bytes))=some (some (.agg #[.string ⟨#[]⟩,.string ⟨#[]⟩]),2,32):=by kernel_rfl
open Go.RowKit
def rJ (w:H)(xs:List Value)(ks:List Nd):Prop :=
 xs.length=ks.length*6/\∀j (h:j<ks.length),∃c0 c1 c2 c3 c4 c5,xs[j*6]?=some c0/\xs[j*6+1]?=some c1/\xs[j*6+2]?=some c2/\xs[j*6+3]?=some c3/\xs[j*6+4]?=some c4/\xs[j*6+5]?=some c5/\bJ w ks[j] (.agg #[c0,c1,c2,c3,c4,c5])
theorem rJ.below {w w':H}{B:Nat}{b:List Value}{ks:List Nd}(h:rJ w b ks)(s:Below B w w')(r:w.heap.size<=B):rJ w' b ks:=by
 refine⟨h.1,fun j t=>?_⟩;obtain⟨c,d,e,f,g,i,k,l,m,n,p,q,u⟩:=h.2 j t;exact⟨c,d,e,f,g,i,k,l,m,n,p,q,u.below s r⟩
theorem rJ.snoc {w:H}{f:List Value}{d:List Nd}{x:Nd}{c c1 c2 c3 c4 c5:Value}(h:rJ w f d)(hx:bJ w x (.agg #[c,c1,c2,c3,c4,c5])):rJ w (f++[c,c1,c2,c3,c4,c5]) (d++[x]):=by
 obtain⟨p,h⟩:=h;have b:∀t,(f++[c,c1,c2,c3,c4,c5])[d.length*6+t]?=[c,c1,c2,c3,c4,c5][t]?:=fun t=>by{rw[jh (by omega),show d.length*6+t-f.length=t by omega]};refine⟨by simp;omega,fun j l=>?_⟩;have e:∀i v,f[i]?=some v->(f++[c,c1,c2,c3,c4,c5])[i]?=some v:=fun i v hi=>by{rw[iw (fc.1 hi).1];exact hi};by_cases g:j<d.length;{obtain⟨k,d1,d2,d3,d4,d5,k0,k1,k2,k3,k4,k5,n⟩:=h j g;refine⟨k,d1,d2,d3,d4,d5,e _ _ k0,e _ _ k1,e _ _ k2,e _ _ k3,e _ _ k4,e _ _ k5,?_⟩;rw[kw g];exact n};{have m:j=d.length:=by{simp at l;omega};subst m;refine⟨c,c1,c2,c3,c4,c5,b 0,b 1,b 2,b 3,b 4,b 5,?_⟩;rw[jm tN];simpa using hx}
open Go.Lib
theorem aGb (V:I->I->Option I)(x:AT):∀(l:List AT) (b:List I),(x.1∈b\/∃y∈l,y.1=x.1)->aW V b (l++[x])=aW V b l:=by
 intro l;induction l with|nil=>{intro b h;rcases h with h|⟨y,c,_⟩;{show aW V b [x]=aW V b [];(conv=>lhs;unfold aW);rw[af ((ic _ _).2 h)]};{simp at c}}|cons y l ih=>{intro b h;show aW V b (y :: (l++[x]))=_;by_cases c:y.1∈b;{(conv=>lhs;unfold aW);(conv=>rhs;unfold aW);rw[af ((ic _ _).2 c),af ((ic _ _).2 c)];refine ih b ?_;rcases h with h|⟨z,d,e⟩;{exact .inl h};{rcases b9.1 d with rfl|d;{exact .inl (e▸c)};{exact .inr ⟨z,d,e⟩}}};{(conv=>lhs;unfold aW);(conv=>rhs;unfold aW);rw[ae (fun h=>c ((ic _ _).1 h)),ae (fun h=>c ((ic _ _).1 h))];rw[ih (b++[y.1]) ?_];rcases h with h|⟨z,d,e⟩;{exact .inl (uz _ h)};{rcases b9.1 d with rfl|d;{exact .inl (by rw[<-e];simp)};{exact .inr ⟨z,d,e⟩}}}}
theorem aAr (V:I->I->Option I)(x:AT):∀(l:List AT) (b:List I),x.1∉b->(∀y∈l,y.1≠x.1)->aW V b (l++[x])=aW V b l++(match V x.1 x.2 with|some t=>[(x.1,t)]|none=>[]):=by
 intro l;induction l with
 | nil =>
  intro b h _;show aW V b [x]=aW V b []++_;conv=>lhs;unfold aW
  rw[ae (fun g=>h ((ic _ _).1 g))];cases V x.1 x.2<;>simp[aW]
 | cons y l ih =>
  intro b h d;show aW V b (y :: (l++[x]))=_;have f:∀z∈l,z.1≠x.1:=fun z i=>d z (d7 _ i)
  by_cases c:y.1∈b
  ·conv=>lhs;unfold aW
   conv=>rhs;lhs;unfold aW
   rw[af ((ic _ _).2 c),af ((ic _ _).2 c)];exact ih b h f
  ·conv=>lhs;unfold aW
   conv=>rhs;lhs;unfold aW
   rw[ae (fun h=>c ((ic _ _).1 h)),ae (fun h=>c ((ic _ _).1 h))];rw[ih (b++[y.1]) (by
    simp only[cu,fh,gx];exact⟨h,fun e=>d y du e.symm⟩) f,cv]
structure jR (V:I->I->Option I) (l:List AT) (k:Nat) (done:List AT):Prop where
 le:k<=l.length
 dl:done.length<=k
 o:mO V (l.take k) done
theorem jR.start (V:I->I->Option I)(l:List AT):jR V l 0 []:=⟨bb _,ah _,by
 refine⟨?_,List.Pairwise.nil⟩;rw[mf];exact List.Perm.nil⟩
theorem jR.done {V:I->I->Option I}{l:List AT}{k:Nat}{done:List AT}(h:jR V l k done)(b:l.length<=k):mO V l done:=by
 have:=h.o;rwa[fi b]at this
theorem jR.old {V:I->I->Option I}{l:List AT}{k:Nat}{done:List AT}(h:jR V l k done)(b:k<l.length)(d:∃j,∃c:j<k,(l[j]).1=(l[k]).1):jR V l (k+1) done:=by
 have:=h.dl;refine⟨b,by omega,?_,h.o.2⟩;obtain⟨j,c,e⟩:=d;rw[fl b,aGb V l[k] (l.take k) [] (.inr ⟨l[j],iz.2 ⟨j,by omega,rfl⟩,e⟩)];exact h.o.1
theorem jR.no {V:I->I->Option I}{l:List AT}{k:Nat}{done:List AT}(h:jR V l k done)(b:k<l.length)(d:V (l[k]).1 (l[k]).2=none):jR V l (k+1) done:=by
 have:=h.dl;by_cases c:∃j,∃hj:j<k,(l[j]).1=(l[k]).1;{exact h.old b c};refine⟨b,by omega,?_,h.o.2⟩;rw[fl b,aAr V l[k] (l.take k) [] (by simp) (fun y f e=>?_),d];{rw[eh];exact h.o.1};{obtain⟨j,hj,rfl⟩:=iz.1 f;exact c ⟨j,by omega,e⟩}
theorem jR.yes {V:I->I->Option I}{l:List AT}{k:Nat}{done:List AT}{t:I}(h:jR V l k done)(n:k<l.length)(q:∀j,∀hj:j<k,(l[j]).1≠(l[k]).1)(B:V (l[k]).1 (l[k]).2=some t)
  (p:Nat) (F:p<=done.length) (s:∀j,∀hj:j<done.length,p<=j->compareBytes (l[k]).1.data.toList (done[j]).1.data.toList<0) (u:∀C:0<p,¬compareBytes (l[k]).1.data.toList (done[p-1]).1.data.toList<0) :
  jR V l (k+1) (done.take p++((l[k]).1,t) :: done.drop p):=by
 have D:=h.dl;have A:∀d∈done,d.1≠(l[k]).1:=by{intro d hd e;obtain⟨v,hm,_⟩:=aBy V (l.take k) [] d (h.o.1.mem_iff.1 hd);obtain⟨j,hj,r⟩:=iz.1 hm;exact q j (by omega) (by rw[r];exact e)};refine⟨n,by simp;omega,?_,?_⟩;{rw[fl n,aAr V l[k] (l.take k) [] (by simp) (fun y g e=>?_),B];{refine List.Perm.trans ?_ (h.o.1.append_right _);refine List.perm_middle.trans ?_;rw[lv];exact List.perm_append_comm (l₁ := [((l[k]).1,t)])};{obtain⟨j,hj,rfl⟩:=iz.1 g;exact q j (by omega) e}}
 ·have hr:=h.o.2;unfold rZ at hr ⊢;have z:∀d∈done.take p,compareBytes d.1.data.toList (l[k]).1.data.toList<0:=by
   intro d hd;obtain⟨j,hj,rfl⟩:=iz.1 hd;have E:j<p:=by{omega};have a:=u (by omega);rw[lZ (done[p-1]).1.data.toList]at a
   have b:compareBytes (done[p-1]).1.data.toList (l[k]).1.data.toList≠0:=fun e=>A (done[p-1]'(by omega)) (dz _) (by
    have:=tG _ _ e;cases hx:(done[p-1]).1;cases g:(l[k]).1;rw[hx,g]at this
    simpa using this)
   by_cases x:j=p-1;{subst x;omega};{rw[td]at hr;have c:=hr j (p-1) (by omega) (by omega) (by omega);unfold gB at c;exact vW _ _ _ c (by omega)}
  rw[List.pairwise_append];refine⟨hr.sublist (List.take_sublist _ _),?_,?_⟩;{rw[qa];refine⟨fun d hd=>?_,hr.sublist (List.drop_sublist _ _)⟩;obtain⟨j,hj,rfl⟩:=vb.1 hd;exact s (p+j) (by omega) (by omega)};{intro a m b f;rcases b9.1 f with rfl|f;{exact z a m};{obtain⟨i,hi,rfl⟩:=iz.1 m;obtain⟨j,hj,rfl⟩:=vb.1 f;rw[td]at hr;exact hr i (p+j) (by omega) (by omega) (by omega)}}
theorem less_iff:∀a b:U,Op.bytesLess a b=decide (compareBytes a b<0):=by
 intro a;induction a with|nil=>{intro b;cases b with|nil=>rfl|cons d b=>simp[compareBytes,Op.bytesLess]}|cons c a ih=>{intro b;cases b with|nil=>simp[compareBytes,Op.bytesLess]|cons d b=>{rw[rN];unfold Op.bytesLess;by_cases g:c.toNat<d.toNat;{have:decide (c<d)=true:=by{simp[UInt8.lt_iff_toNat_lt];omega};rw[this,af g];rfl};{have h1':decide (c<d)=false:=by{simp[UInt8.lt_iff_toNat_lt];omega};rw[ae g,h1',jl];by_cases f:d.toNat<c.toNat;{rw[af f];have:(c==d)=false:=by{rw[ai];intro e;rw[e]at f;omega};rw[this];rfl};{rw[ae f];have e:c=d:=de.1 (by omega);rw[ih b,e];simp}}}}
open Go.RowKit
