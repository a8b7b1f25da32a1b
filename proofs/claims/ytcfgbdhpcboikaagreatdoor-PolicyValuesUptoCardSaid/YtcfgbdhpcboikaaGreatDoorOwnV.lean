/-
A slice of the call's own, of elements of any type: append of one element and of some, and reading it.
-/
import Derived.Deep.MidRow
import Derived.Test.YtcfgbdhpcboikaaGreatDoorLookX
namespace Go.Proofs.YtcfgbdhpcboikaaGreatDoor
open Go.Lib (hid)
set_option maxHeartbeats 2000000
set_option maxRecDepth 100000
open Go.RowKit
def pQ (w:World)(v:Value)(n:Nat)(xs:List Value):Prop :=
 ∃a c,v=.slice a n c∧∀j u,xs[j]?=some u→∃g off,a=some ⟨g,off,none⟩∧w.cell? ⟨g,off+j,none⟩=some u
theorem pQ.below {w w':World}{B n:Nat}{v:Value}{xs:List Value}(h:pQ w v n xs)(hb:Below B w w')(hB:w.heap.size≤B):pQ w' v n xs:=by
 obtain⟨a,c,e,h⟩:=h;refine⟨a,c,e,fun j u hj=>?_⟩;obtain⟨g,off,ha,hc⟩:=h j u hj;have hg:g<B:=Nat.lt_of_lt_of_le (World.block_lt_of_cell? w _ hc) hB;exact⟨g,off,ha,by rw[hb.cell (p:=⟨g,_,none⟩) hg];exact hc⟩
theorem pQ.get {w:World}{v:Value}{n:Nat}{xs:List Value}(h:pQ w v n xs)(j:Nat)(hj:j<xs.length):∃g off c,v=.slice (some ⟨g,off,none⟩) n c∧w.cell? ⟨g,off+j,none⟩=some xs[j]:=by
 obtain⟨a,c,e,h⟩:=h;obtain⟨g,off,ha,hc⟩:=h j _ (List.getElem?_eq_getElem hj);exact⟨g,off,c,by rw[e,ha],hc⟩
structure aM (B:Nat) (e:TypeId) (size:Nat) (v:Value) (n:Nat) (xs:List Value) (W0 w:World):Prop where
 own:w.ownsRow B e size v n xs
 bel:Below B W0 w
 base:B≤w.heap.size
theorem aM.nil (W:World)(e:TypeId)(size:Nat):aM W.heap.size e size (.slice none 0 0) 0 [] W W:=⟨World.ownsRow_nil _ _ _ _,Below.refl _ _,Nat.le_refl _⟩
theorem aM.of {B:Nat}{W0 w:World}(e:TypeId)(size:Nat)(hb:Below B W0 w)(hB:B≤w.heap.size):aM B e size (.slice none 0 0) 0 [] W0 w:=⟨World.ownsRow_nil _ _ _ _,hb,hB⟩
theorem aM.cast {B:Nat}{e:TypeId}{size:Nat}{v:Value}{n n':Nat}{xs xs':List Value}{W0 w:World}(h:aM B e size v n xs W0 w)(hn:n=n')(hx:xs=xs'):aM B e size v n' xs' W0 w:=by
 subst hn;subst hx;exact h
theorem aM.keep {B:Nat}{e:TypeId}{size:Nat}{v:Value}{n:Nat}{xs:List Value}{W0 w w':World}(h:aM B e size v n xs W0 w)(hb:Below w.heap.size w w'):aM B e size v n xs W0 w':=by
 refine⟨⟨h.own.1,?_⟩,h.bel.trans (hb.mono h.base),Nat.le_trans h.base hb.size⟩;rcases h.own.2 with hn|⟨g,cap,cur,hv,hB,hg,rest⟩
 ·exact .inl hn
 ·have hlt:g<w.heap.size:=(Array.getElem?_eq_some_iff.1 hg).1;exact .inr ⟨g,cap,cur,hv,hB,by rw[hb.block g hlt];exact hg,rest⟩
theorem aM.alloc {B:Nat}{e:TypeId}{size:Nat}{v:Value}{n:Nat}{xs:List Value}{W0 w:World}(h:aM B e size v n xs W0 w)(o:Obj):aM B e size v n xs W0 (w.alloc o) :=
 h.keep ((Below.refl _ w).alloc (Nat.le_refl _) o)
theorem aM.drew {B:Nat}{e:TypeId}{size:Nat}{v:Value}{n:Nat}{xs:List Value}{W0 w:World}(h:aM B e size v n xs W0 w):aM B e size v n xs W0 w.drew:=h.keep (Below.refl _ w).drew
theorem aM.vec {B:Nat}{e:TypeId}{size:Nat}{v:Value}{n:Nat}{xs:List Value}{W0 w:World}(h:aM B e size v n xs W0 w):pQ w v n xs:=by
 rcases h.own.2 with⟨hv,h0⟩|⟨g,cap,cur,hv,hB,hg,hnc,hcm,hcs,htake⟩
 ·have hx:xs=[]:=List.eq_nil_of_length_eq_zero (by rw[h.own.1,h0,Nat.zero_mul]);exact⟨none,0,by rw[hv,h0],fun j u hj=>by rw[hx]at hj;simp at hj⟩
 ·refine⟨_,_,hv,fun j u hj=>⟨g,0,rfl,?_⟩⟩;rw[Nat.zero_add,cell_of_row w g j cur e (0,0) hg];rw[←htake,List.getElem?_take]at hj
  split at hj
  ·simpa using hj
  ·cases hj
theorem aM.slice {B:Nat}{e:TypeId}{size:Nat}{v:Value}{n:Nat}{xs:List Value}{W0 w:World}(h:aM B e size v n xs W0 w):∃a c,v=.slice a n c∧n≤c∧∀y,a=some y→B≤y.block∧y.block<w.heap.size:=by
 rcases h.own.2 with⟨hv,h0⟩|⟨g,cap,cur,hv,hB,hg,hnc,hcm,hcs,htake⟩
 ·exact⟨none,0,by rw[hv,h0],by omega,fun y hy=>by cases hy⟩
 ·refine⟨_,_,hv,hnc,fun y hy=>?_⟩;cases hy;exact⟨hB,(Array.getElem?_eq_some_iff.1 hg).1⟩
theorem aM.isB {B:Nat}{v:Value}{n:Nat}{a:Option Addr}{c:Nat}{bs:List UInt8}{W0 w:World}(h:aM B 5 1 v n (bs.map cO) W0 w)(hv:v=.slice a n c):IsB w a bs:=by
 intro j b hb;obtain⟨a',c',e,h⟩:=h.vec;rw[hv]at e
 simp only[Value.slice.injEq]at e;obtain⟨rfl,_,_⟩:=e;obtain⟨g,off,ha,hc⟩:=h j (cO b) (by rw[List.getElem?_map,hb];rfl);refine⟨_,ha,?_⟩;have hadd:(⟨g,off,none⟩:Addr).add j=⟨g,off+j,none⟩:=by unfold Addr.add;split<;>simp_all
 rw[hadd];exact hc
structure kO (w w':World) (v v':Value):Prop where
 gr:w.grownBy w' v.ownBlock
 loc:v'.ownBlock=v.ownBlock∨∃k,v'.ownBlock=some k∧w.heap.size≤k
def lO (v u:Value):Prop:=v.ownBlock=none∨u.ownBlock=none∨v.ownBlock≠u.ownBlock
theorem lO.nil (v:Value):lO (.slice none 0 0) v:=.inl rfl
theorem lO.symm {v u:Value}(h:lO v u):lO u v:=by
 rcases h with h|h|h
 ·exact .inr (.inl h)
 ·exact .inl h
 ·exact .inr (.inr (Ne.symm h))
theorem kO.other {B:Nat}{e:TypeId}{size:Nat}{u v v':Value}{n:Nat}{xs:List Value}{W0 w w':World}(h:kO w w' v v')(hO:aM B e size u n xs W0 w)(ha:lO v u)(hv:∀k,v.ownBlock=some k→B≤k):aM B e size u n xs W0 w':=by
 refine⟨⟨hO.own.1,?_⟩,hO.bel.grown h.gr hO.base hv,Nat.le_trans hO.base h.gr.size⟩;rcases hO.own.2 with hn|⟨g,cap,cur,rfl,hB,hg,rest⟩
 ·exact .inl hn
 ·have hlt:g<w.heap.size:=(Array.getElem?_eq_some_iff.1 hg).1;refine .inr ⟨g,cap,cur,rfl,hB,?_,rest⟩;rw[h.gr.block g hlt (fun e=>?_)]
  ·exact hg
  ·rcases ha with h1|h1|h1
   ·rw[h1]at e;cases e
   ·cases h1
   ·exact h1 e.symm
theorem kO.apart {B:Nat}{e:TypeId}{size:Nat}{u v v':Value}{n:Nat}{xs:List Value}{W0 w w':World}(h:kO w w' v v')(hO:aM B e size u n xs W0 w)(ha:lO v u):lO v' u:=by
 rcases h.loc with h1|⟨k,hk,hle⟩
 ·unfold lO;rw[h1];exact ha
 ·rcases hO.own.2 with⟨rfl,_⟩|⟨g,cap,cur,rfl,hB,hg,rest⟩
  ·exact .inr (.inl rfl)
  ·have hlt:g<w.heap.size:=(Array.getElem?_eq_some_iff.1 hg).1;refine .inr (.inr ?_);rw[hk];intro e;simp[Value.ownBlock]at e
   omega
theorem aM.hi {B:Nat}{e:TypeId}{size:Nat}{v:Value}{n:Nat}{xs:List Value}{W0 w:World}(hO:aM B e size v n xs W0 w):∀k,v.ownBlock=some k→k<w.heap.size:=by
 intro k hk;rcases hO.own.2 with⟨rfl,_⟩|⟨g,cap,cur,rfl,hbg,hg,_⟩
 ·simp[Value.ownBlock]at hk
 ·simp[Value.ownBlock]at hk
  subst hk;exact(Array.getElem?_eq_some_iff.1 hg).1
theorem kO.cell {w w':World}{v v' u:Value}{p:Addr}(h:kO w w' v v')(hc:w.cell? p=some u)(hne:v.ownBlock=some p.block→False):w'.cell? p=some u :=
 (World.cell?_of_block (h.gr.block p.block (World.block_lt_of_cell? w p hc) (fun e=>hne e.symm))).trans hc
theorem zF {w:World}{p:Addr}{u:Value}{o:Obj}(hc:w.cell? p=some u):(w.alloc o).cell? p=some u:=by
 rw[((Below.refl w.heap.size w).alloc (Nat.le_refl _) o).cell (World.block_lt_of_cell? w p hc)];exact hc
theorem aM.lo {B:Nat}{e:TypeId}{size:Nat}{v:Value}{n:Nat}{xs:List Value}{W0 w:World}(hO:aM B e size v n xs W0 w):∀k,v.ownBlock=some k→B≤k:=by
 intro k hk;rcases hO.own.2 with⟨rfl,_⟩|⟨g,cap,cur,rfl,hbg,_⟩
 ·simp[Value.ownBlock]at hk
 ·simp[Value.ownBlock]at hk
  subst hk;exact hbg
section
variable {P:Program} {w:World} {ops:Array Oper} {rest:List Oper} {o:Oper} {a:Act} {Q:Exit→Act→World→Prop}
theorem kF (hgd:o.guard=none)(s x:Operand)(t:TypeId)
  (ho:o.op=.call { callee:=.builtin .append,args:=#[s,x],argTypes:=#[t,t] })
  (e:TypeId) (i:TypeInfo) (z:Value) (size bytes:Nat) (ht:P.underlying t=some (.slice e)) (hi:P.info? e=some i) (hz:i.zero=some z)
  (hsize:i.size=size) (hby:i.bytes=bytes) (hzs:z.cells.size=size) (hsz:0<size)
  {B:Nat} {W0:World} (v:Value) (n:Nat) (xs:List Value) (hs:a.eval s=v) (hO:aM B e size v n xs W0 w)
  (ad:Addr) (m c:Nat) (news:List Value) (hx:a.eval x=.slice (some ad) m c) (hl:news.length=m*size) (hnews:∀j u,news[j]?=some u→w.cell? (ad.add j)=some u) (h1:news.all (fun u=>u.oneCell')=true)
  (hb:(n+m)*bytes≤140737488355328) (hn:n+m≤140737488355328)
  (h:∀v' w',Hid (aM B e size v' (n+m) (xs++news) W0 w')→Hid (kO w w' v v')→wpList P ops Q rest (a.put o.dst v') w'):wpList P ops Q (o :: rest) a w:=by
 refine wpList_append_own_at w hgd s x t ho B e i z size bytes ht hi hz hsize hby hzs hsz v n xs hs hO.own ad m c news hx hl hnews (fun u hu=>List.all_eq_true.1 h1 u hu) (by unfold maxLen;omega) hb hO.base ?_;intro v' w' ho' hg _ hat;refine h v' w' ⟨ho',hO.bel.grown hg hO.base hO.lo,Nat.le_trans hO.base hg.size⟩ ⟨hg,?_⟩;rcases hat with hat|hat
 ·exact .inl hat
 ·exact .inr ⟨_,hat,Nat.le_refl _⟩
theorem bC (hgd:o.guard=none)(s x:Operand)(t:TypeId)
  (ho:o.op=.call { callee:=.builtin .append,args:=#[s,x],argTypes:=#[t,t] })
  (e:TypeId) (i:TypeInfo) (z:Value) (size bytes:Nat) (ht:P.underlying t=some (.slice e)) (hi:P.info? e=some i) (hz:i.zero=some z)
  (hsize:i.size=size) (hby:i.bytes=bytes) (hzs:z.cells.size=size) (hsz:0<size)
  {B:Nat} {W0 w0:World} (v:Value) (n:Nat) (xs:List Value) (hs:a.eval s=v) (hO:aM B e size v n xs W0 w0)
  (cs:Array Value) (hw:w=w0.alloc (.cells cs e)) (hx:a.eval x=.slice (some ⟨w0.heap.size,0,none⟩) 1 1) (hcs:cs.size=size) (h1:cs.toList.all (fun u=>u.oneCell')=true)
  (hb:(n+1)*bytes≤140737488355328) (hn:n+1≤140737488355328)
  (h:∀v' w',Hid (aM B e size v' (n+1) (xs++cs.toList) W0 w')→Hid (kO (w0.alloc (.cells cs e)) w' v v')→wpList P ops Q rest (a.put o.dst v') w'):wpList P ops Q (o :: rest) a w:=by
 subst hw;refine kF hgd s x t ho e i z size bytes ht hi hz hsize hby hzs hsz v n xs hs (hO.alloc _) ⟨w0.heap.size,0,none⟩ 1 1 cs.toList hx (by simpa using hcs) ?_ h1 hb hn h;intro j u hj;have hadd:(⟨w0.heap.size,0,none⟩:Addr).add j=⟨w0.heap.size,j,none⟩:=by unfold Addr.add;split<;>simp_all
 rw[hadd,cell_of_row _ _ j cs e (0,0) (heap_alloc_new w0 _)];simpa using hj
end
open Go.RowKit
def nF:List Value→Nat→List Value→List Value
 | xs,_,[]=>xs
 | xs,o,c :: r=>nF (xs.set o c) (o+1) r
theorem aIx:∀(cs xs:List Value) (o:Nat),(nF xs o cs).length=xs.length:=by
 intro cs;induction cs with
 | nil=>intro xs o;rfl
 | cons c r ih=>intro xs o;unfold nF;rw[ih,List.length_set]
theorem aIw:∀(cs xs:List Value) (o j:Nat),o+cs.length≤xs.length→(nF xs o cs)[j]?=if o≤j∧j<o+cs.length then cs[j-o]? else xs[j]?:=by
 intro cs;induction cs with
 | nil=>intro xs o j _;unfold nF;rw[if_neg (by simp only[List.length_nil];omega)]
 | cons c r ih =>
  intro xs o j h;simp only[List.length_cons]at h ⊢;unfold nF;rw[ih (xs.set o c) (o+1) j (by rw[List.length_set];omega)];by_cases h1:o+1≤j∧j<o+1+r.length
  ·rw[if_pos h1,if_pos (by omega),show j-o=(j-(o+1))+1 by omega,List.getElem?_cons_succ]
  ·rw[if_neg h1];by_cases h2:j=o
   ·subst h2;rw[if_pos (by omega),Nat.sub_self,List.getElem?_cons_zero,List.getElem?_set_self (by omega)]
   ·rw[if_neg (by omega),List.getElem?_set_ne (fun e=>h2 e.symm)]
theorem aDK (w:World)(p:Addr)(u:Value):(w.setCell p u).heap.size=w.heap.size:=by simp[World.setCell]
theorem aM.setCell {B:Nat}{e:TypeId}{size g n c:Nat}{xs:List Value}{W0 w:World}(h:aM B e size (.slice (some ⟨g,0,none⟩) n c) n xs W0 w)(j:Nat)(u:Value) :
  aM B e size (.slice (some ⟨g,0,none⟩) n c) n (xs.set j u) W0 (w.setCell ⟨g,j,none⟩ u):=by
 rcases h.own.2 with⟨hv,h0⟩|⟨g',cap,cur,hv,hB,hg,hnc,hcm,hcs,htake⟩
 ·cases hv
 ·simp only[Value.slice.injEq,Option.some.injEq,Addr.mk.injEq]at hv;obtain⟨⟨rfl,_⟩,_,rfl⟩:=hv;have e1:=setCell_eq_setRow w g j cur e (0,0) u hg;have hh:=setRow_heap w g cur (cur.setIfInBounds j u) e (0,0) hg;refine⟨⟨by rw[List.length_set];exact h.own.1,.inr ⟨g,c,cur.setIfInBounds j u,rfl,hB,by rw[e1];exact hh,hnc,hcm,by simpa using hcs,?_⟩⟩,h.bel.setCell hB u,by rw[aDK];exact h.base⟩;rw[Array.toList_setIfInBounds,List.take_set,htake]
theorem aM.setCells {B:Nat}{e:TypeId}{size g n c:Nat}{W0:World}:∀(cs xs:List Value) (o:Nat) (w:World),aM B e size (.slice (some ⟨g,0,none⟩) n c) n xs W0 w →
  aM B e size (.slice (some ⟨g,0,none⟩) n c) n (nF xs o cs) W0 (w.setCells g o cs):=by
 intro cs;induction cs with
 | nil=>intro xs o w h;exact h
 | cons u r ih =>
  intro xs o w h;unfold nF World.setCells;exact ih _ _ _ (h.setCell o u)
theorem aM.there {B:Nat}{e:TypeId}{size g n c:Nat}{xs:List Value}{W0 w:World}(h:aM B e size (.slice (some ⟨g,0,none⟩) n c) n xs W0 w)(o k:Nat)(hk:o+k≤xs.length):w.there g o k:=by
 intro j hj;obtain⟨a',c',e1,hc⟩:=h.vec;simp only[Value.slice.injEq]at e1;obtain⟨g',off,e2,hcell⟩:=hc (o+j) _ (List.getElem?_eq_getElem (by omega));rw[←e1.1]at e2
 simp only[Option.some.injEq,Addr.mk.injEq]at e2;obtain⟨rfl,rfl,_⟩:=e2;rw[Nat.zero_add]at hcell
 refine⟨by rw[hcell];rfl,?_⟩;rcases h.own.2 with⟨hv,h0⟩|⟨g',cap,cur,hv,hB,hg,_⟩
 ·cases hv
 ·simp only[Value.slice.injEq,Option.some.injEq,Addr.mk.injEq]at hv;obtain⟨⟨rfl,_⟩,_,rfl⟩:=hv;simp[World.frozen?,hg]
theorem aM.cell {B:Nat}{e:TypeId}{size g n c:Nat}{xs:List Value}{W0 w:World}(h:aM B e size (.slice (some ⟨g,0,none⟩) n c) n xs W0 w)(j:Nat)(u:Value)(hj:xs[j]?=some u):w.cell? ⟨g,j,none⟩=some u:=by
 obtain⟨a',c',e1,hc⟩:=h.vec;simp only[Value.slice.injEq]at e1;obtain⟨g',off,e2,hcell⟩:=hc j u hj;rw[←e1.1]at e2
 simp only[Option.some.injEq,Addr.mk.injEq]at e2;obtain⟨rfl,rfl,_⟩:=e2;rw[Nat.zero_add]at hcell
 exact hcell
theorem aM.atRow {B:Nat}{e:TypeId}{size n:Nat}{v:Value}{xs:List Value}{W0 w:World}(h:aM B e size v n xs W0 w)(hn:0<n):∃g c,v=.slice (some ⟨g,0,none⟩) n c∧B≤g∧g<w.heap.size∧v.ownBlock=some g:=by
 rcases h.own.2 with⟨hv,h0⟩|⟨g,cap,cur,hv,hB,hg,_⟩
 ·omega
 ·exact⟨g,cap,hv,hB,(Array.getElem?_eq_some_iff.1 hg).1,by rw[hv];rfl⟩
open Go.RowKit
theorem aM.empty {B:Nat}{W0 w:World}(e:TypeId)(size:Nat)(hb:Below B W0 w)(hB:B≤w.heap.size):aM B e size (.slice (some ⟨w.heap.size,0,none⟩) 0 0) 0 [] W0 (w.alloc (.cells #[] e)):=by
 refine⟨⟨by simp,.inr ⟨w.heap.size,0,#[],rfl,hB,heap_alloc_new w _,Nat.le_refl _,Nat.zero_le _,by simp,by simp⟩⟩,hb.alloc hB _,by simp;omega⟩
theorem kO.refl (w:World)(v:Value):kO w w v v:=⟨⟨rfl,rfl,rfl,Nat.le_refl _,fun _ _ _=>rfl⟩,.inl rfl⟩
section
variable {P:Program} {w:World} {ops:Array Oper} {rest:List Oper} {o:Oper} {a:Act} {Q:Exit→Act→World→Prop}
theorem wB (hgd:o.guard=none)(s x:Operand)(t:TypeId)
  (ho:o.op=.call { callee:=.builtin .append,args:=#[s,x],argTypes:=#[t,t] })
  (e:TypeId) (i:TypeInfo) (z:Value) (size bytes:Nat) (ht:P.underlying t=some (.slice e)) (hi:P.info? e=some i) (hz:i.zero=some z)
  (hsize:i.size=size) (hby:i.bytes=bytes) (hzs:z.cells.size=size) (hsz:0<size)
  {B:Nat} {W0:World} (v:Value) (n:Nat) (xs:List Value) (hs:a.eval s=v) (hO:aM B e size v n xs W0 w)
  (xo:Option Addr) (m c:Nat) (news:List Value) (hx:a.eval x=.slice xo m c) (hl:news.length=m*size) (hnews:∀j u,news[j]?=some u→∃g off,xo=some ⟨g,off,none⟩∧w.cell? ⟨g,off+j,none⟩=some u) (h1:news.all (fun u=>u.oneCell')=true)
  (hb:(n+m)*bytes≤140737488355328) (hn:n+m≤140737488355328)
  (h:∀v' w',Hid (aM B e size v' (n+m) (xs++news) W0 w')→Hid (kO w w' v v')→wpList P ops Q rest (a.put o.dst v') w'):wpList P ops Q (o :: rest) a w:=by
 cases xo with
 | some ad =>
  refine kF hgd s x t ho e i z size bytes ht hi hz hsize hby hzs hsz v n xs hs hO ad m c news hx hl (fun j u hj=>?_) h1 hb hn h;obtain⟨g,off,e1,e2⟩:=hnews j u hj;cases e1;have hadd:(⟨g,off,none⟩:Addr).add j=⟨g,off+j,none⟩:=by unfold Addr.add;split<;>simp_all
  rw[hadd];exact e2
 | none =>
  have hnil:news=[]:=by
   cases news with
   | nil=>rfl
   | cons u r =>
    obtain⟨g,off,e1,_⟩:=hnews 0 u rfl;cases e1
  subst hnil;have hm:m=0:=by
   rcases Nat.eq_zero_or_pos m with h0|h0
   ·exact h0
   ·have:=Nat.mul_pos h0 hsz;simp at hl;omega
  subst hm;have hr:(Builtin.append_ #[t,t] o.type #[v,.slice none 0 c]).run P w=.ok v w:=by
   rcases hO.own.2 with⟨rfl,rfl⟩|⟨g,cap,cur,rfl,hbg,hg,hnc,_⟩
   ·simp[Builtin.append_,run_underlying ht,sizeOf,typeInfo,hi,Builtin.lenOf,Builtin.firstCells]
   ·simp[Builtin.append_,run_underlying ht,sizeOf,typeInfo,hi,Builtin.lenOf,Builtin.firstCells,hnc,storeCells]
  refine wpList_plain hgd fun K hK=>?_
  unfold Oper.wp execOp;simp only[ho,resolve,invoke,builtin,Sem.run_bind,Sem.run_pure,Result.andThen_ok,List.map_toArray,List.map_cons,List.map_nil,hs,hx,hr];exact hK _ _ (h v w (by rw[List.append_nil];exact hid hO) (hid (kO.refl w v)))
end
open Go.RowKit PU8
theorem aMc {x y:Bool}{a b c d:Int}(h0:x=y)(h:a=c)(h2:b=d):Ending.returned (.tuple #[.bool x,.int .i64 a,.int .i64 b])=.returned (.tuple #[.bool y,.int .i64 c,.int .i64 d]):=by rw[h0,h,h2]
theorem aMv (c:Nat)(h:c<256):(PU8.size c).1≤4∧(PU8.size c).2<256:=by
 unfold PU8.size;by_cases h1:c<128
 ·rw[if_pos h1];simp only;omega
 rw[if_neg h1];by_cases h2:192≤c∧c<224
 ·rw[if_pos h2];simp only;omega
 rw[if_neg h2];by_cases h3:224≤c∧c<240
 ·rw[if_pos h3];simp only;omega
 rw[if_neg h3];by_cases h4:240≤c∧c<248
 ·rw[if_pos h4];simp only;omega
 rw[if_neg h4];simp only;omega
theorem aDv (g off cap i k n0 v0:Nat)(L:List UInt8)(w:World)(hB:Hid (bK w g off L))(hi:i<L.length)(hL:L.length≤140737488355328)(hk:1≤k)(hk4:k≤4)
  (hs:Hid (PU8.size (L[i]'hi).toNat=(n0,v0))) (hn4:n0≤4) (hn:n0=0∨n0<k∨L.length<i+k) :
  Calls Tryz.prog 141 #[.slice (some ⟨g,off,none⟩) L.length cap,.int .i64 i,.int .i64 k] w fun e w'=>e=.returned (.tuple #[.bool false,.int .i64 0,.int .i64 0])∧w=w':=by
 have hc:=hB.out i hi;by_cases h0:n0=0
 ·subst h0;go_enter Tryz.func141,Tryz.ntmps141
  go_wp2_with (go_at_call 180;refine(qB _ _ _ _ hs).mono ?_;rintro e w' ⟨rfl,rfl⟩)
  go_ret3;exact⟨rfl,rfl⟩
 ·have t0:((n0:Int)==0)=false:=by simp;omega
  by_cases h1:n0<k
  ·have t1:decide ((n0:Int)<(k:Int))=true:=by simp;omega
   go_enter Tryz.func141,Tryz.ntmps141
   go_wp2_with (go_at_call 180;refine(qB _ _ _ _ hs).mono ?_;rintro e w' ⟨rfl,rfl⟩)
   go_ret3;exact⟨rfl,rfl⟩
  ·have h2:L.length<i+k:=by omega
   have t1:decide ((n0:Int)<(k:Int))=false:=by simp;omega
   go_enter Tryz.func141,Tryz.ntmps141
   go_wp2_with (go_at_call 180;refine(qB _ _ _ _ hs).mono ?_;rintro e w' ⟨rfl,rfl⟩)
   go_ret3;exact⟨rfl,rfl⟩
theorem aGY (L:List UInt8)(i k n0 v0:Nat)(hi:i<L.length)(_hk:1≤k)(hs:PU8.size (L[i]'hi).toNat=(n0,v0))(h0:n0≠0)(hkn:k≤n0)(hl:i+k≤L.length) :
  begins (aF (L.drop i)) k=match PU8.follow (k-1) v0 (aF (L.drop (i+1)))with
   | none=>(false,0,0)
   | some v=>(decide (max (PU8.widen (n0-k) v v).1 (PU8.least n0)≤min (PU8.widen (n0-k) v v).2 0x10ffff)&&!(decide (0xd800≤max (PU8.widen (n0-k) v v).1 (PU8.least n0))&&decide (min (PU8.widen (n0-k) v v).2 0x10ffff≤0xdfff)),n0,v):=by
 rw[vT L i hi,begins_at _ _ k n0 v0 hs h0 hkn (by unfold aF;rw[List.length_map,List.length_drop];omega)];cases PU8.follow (k-1) v0 (aF (L.drop (i+1)))<;>rfl
theorem aDw (g off cap i k n0 v0:Nat)(b:Bool)(n v:Nat)(L:List UInt8)(w:World)(hB:Hid (bK w g off L))(hi:i<L.length)(hL:L.length≤140737488355328)(hk:1≤k)(hk4:k≤4)
  (hs:Hid (PU8.size (L[i]'hi).toNat=(n0,v0))) (hn4:n0≤4) (hv0:v0<256) (h0:n0≠0) (hkn:k≤n0) (hl:i+k≤L.length) (hr:Hid (begins (aF (L.drop i)) k=(b,n,v))) :
  Calls Tryz.prog 141 #[.slice (some ⟨g,off,none⟩) L.length cap,.int .i64 i,.int .i64 k] w fun e w'=>e=.returned (.tuple #[.bool b,.int .i64 n,.int .i64 v])∧w=w':=by
 have hc:=hB.out i hi;have t0:((n0:Int)==0)=false:=by simp;omega
 have t1:decide ((n0:Int)<(k:Int))=false:=by simp;omega
 have hb:=hid (aGY L i k n0 v0 hi hk hs.out h0 hkn hl);go_enter Tryz.func141,Tryz.ntmps141
 go_wp2_with (go_at_call 180;refine(qB _ _ _ _ hs).mono ?_;rintro e w' ⟨rfl,rfl⟩)
 clear hc;go_loop [6,7,8,10,11] (fun r6 r7 r8 a j=>r6=.bool false∧r7=.int .i64 0∧r8=.int .i64 0∧∃v' j':Nat,a=.int .i64 v'∧j=.int .i64 j'∧Hid (jN L i k v0 j' v')) (fun _ _ _ _ j=>k-(intOf j).toNat)
 case atStart=>exact⟨rfl,rfl,rfl,v0,1,rfl,rfl,hid (jN.start L i k v0 hk hv0)⟩
 case round =>
  obtain⟨rfl,rfl,rfl,v',j,rfl,rfl,hF⟩:=hrel;have hvb:=hF.out.le hk4;have hj1:=hF.out.lo;have hj2:=hF.out.hi;rcases Nat.lt_or_ge j k with hjk|hjk
  ·have hij:i+j<L.length:=by omega
   have hcj:=hB.out (i+j) hij;have hcb:=(L[i+j]'hij).toNat_lt;obtain⟨c,hcc⟩:∃c,(L[i+j]'hij).toNat=c:=⟨_,rfl⟩
   rw[hcc]at hcj hcb
   have HC:=hid hcc;clear hcc;by_cases hc1:c<128
   ·have hz:=hb.out;rw[hr.out,hF.out.none hjk hij c HC.out (.inl hc1)]at hz
    simp only[Prod.mk.injEq]at hz;obtain⟨rfl,rfl,rfl⟩:=hz;go_wp2
    go_ret3;exact⟨rfl,rfl⟩
   ·by_cases hc2:191<c
    ·have hz:=hb.out;rw[hr.out,hF.out.none hjk hij c HC.out (.inr hc2)]at hz
     simp only[Prod.mk.injEq]at hz;obtain⟨rfl,rfl,rfl⟩:=hz;go_wp2
     go_ret3;exact⟨rfl,rfl⟩
    ·have HN:=hid (hF.out.next hjk hij c HC.out (by omega) (by omega));go_wp2
     go_round
     case rel=>exact⟨_,_,_,_,_,⟨rfl,rfl,rfl,v'*64+c-128,rfl,j+1,rfl,HN⟩,rfl,rfl,rfl,by congr 1;omega,by congr 1⟩
     case measure=>simp[intOf];omega
  ·have HF:=hid (hF.out.done hjk);go_wp2
   go_loop [12,13,14] (fun a b j=>∃lo hi j':Nat,a=.int .i64 lo∧b=.int .i64 hi∧j=.int .i64 j'∧Hid (lS n0 k v' j' lo hi)) (fun _ _ j=>n0-(intOf j).toNat)
   case atStart=>exact⟨v',v',k,rfl,rfl,rfl,hid (lS.start n0 k v' hkn hvb)⟩
   case round =>
    obtain⟨lo,hi',jj,rfl,rfl,rfl,hW⟩:=hrel;obtain⟨hlo,hhi⟩:=hW.out.le hk hn4;rcases Nat.lt_or_ge jj n0 with hjn|hjn
    ·have HN:=hid (hW.out.next hjn);go_wp2
     go_round
     case rel=>exact⟨lo*64,hi'*64+63,jj+1,by go_num,by go_num,by go_num,HN⟩
     case measure=>simp[intOf];omega
    ·have HW:=hid (hW.out.done hjn);have hz:=hb.out;rw[hr.out,HF.out]at hz
     simp only at hz;rw[HW.out]at hz
     simp only[Prod.mk.injEq]at hz;obtain⟨hz,rfl,rfl⟩:=hz;have HZ:=hid hz;clear hz;go_wp2_with (go_at_call 181;refine(aGb n hn4 _).mono ?_;rintro e w' ⟨rfl,rfl⟩)
     all_goals
      go_ret3;refine⟨aMc ?_ rfl rfl,rfl⟩;rw[HZ.out,Bool.eq_iff_iff];simp;omega
theorem qU (g off cap i k:Nat)(b:Bool)(n v:Nat)(L:List UInt8)(w:World)(hB:Hid (bK w g off L))(hi:i<L.length)(hL:L.length≤140737488355328)(hk:1≤k)(hk4:k≤4)(hr:Hid (begins (aF (L.drop i)) k=(b,n,v))) :
  Calls Tryz.prog 141 #[.slice (some ⟨g,off,none⟩) L.length cap,.int .i64 i,.int .i64 k] w fun e w'=>e=.returned (.tuple #[.bool b,.int .i64 n,.int .i64 v])∧w=w':=by
 obtain⟨h4,h256⟩:=aMv (L[i]'hi).toNat (L[i]'hi).toNat_lt;obtain⟨n0,v0,hs⟩:∃n0 v0,PU8.size (L[i]'hi).toNat=(n0,v0):=⟨_,_,rfl⟩
 rw[hs]at h4 h256
 by_cases hn:n0=0∨n0<k∨L.length<i+k
 ·have hz:begins (aF (L.drop i)) k=(false,0,0):=by
   have hlen:(aF (L.drop i)).length=L.length-i:=by unfold aF;rw[List.length_map,List.length_drop]
   have hlen2:(aF (L.drop (i+1))).length=L.length-(i+1):=by unfold aF;rw[List.length_map,List.length_drop]
   rw[vT L i hi];unfold begins;simp only[hs];rw[if_pos (by simp only[List.length_cons];omega)]
  have h2:=hr.out;rw[hz]at h2
  simp only[Prod.mk.injEq]at h2;obtain⟨rfl,rfl,rfl⟩:=h2;exact aDv g off cap i k n0 v0 L w hB hi hL hk hk4 (hid hs) h4 hn
 ·exact aDw g off cap i k n0 v0 b n v L w hB hi hL hk hk4 (hid hs) h4 h256 (by omega) (by omega) (by omega) hr
open Go.RowKit PU8
theorem aMe {x y:Bool}{a b c d:Int}(h:a=c)(h2:b=d)(h0:x=y):Ending.returned (.tuple #[.int .i64 a,.int .i64 b,.bool x])=.returned (.tuple #[.int .i64 c,.int .i64 d,.bool y]):=by rw[h0,h,h2]
structure gQ (b:List Nat) (k m:Nat):Prop where
 lo:1≤k
 hi:k≤5
 out:pieceU b=pieceFrom b (5-k) k m
theorem gQ.hit {b:List Nat}{k m v:Nat}(h:gQ b k m)(hk:k<5)(hb:begins b k=(true,k,v)):pieceU b=(k,v,true):=by
 rw[h.out,show 5-k=(5-(k+1))+1 from by omega];unfold pieceFrom;rw[hb,if_pos ⟨rfl,rfl⟩]
theorem gQ.some {b:List Nat}{k m n v:Nat}(h:gQ b k m)(hk:k<5)(hb:begins b k=(true,n,v))(hn:n≠k):gQ b (k+1) k:=by
 have hlo:=h.lo;refine⟨by omega,by omega,?_⟩;rw[h.out,show 5-k=(5-(k+1))+1 from by omega];conv=>lhs;unfold pieceFrom
 rw[hb,if_neg (fun hh=>hn hh.2),if_pos rfl]
theorem gQ.no {b:List Nat}{k m n v:Nat}(h:gQ b k m)(hk:k<5)(hb:begins b k=(false,n,v)):gQ b (k+1) m:=by
 have hlo:=h.lo;refine⟨by omega,by omega,?_⟩;rw[h.out,show 5-k=(5-(k+1))+1 from by omega];conv=>lhs;unfold pieceFrom
 rw[hb,if_neg (fun hh=>by cases hh.1),if_neg (by simp)]
theorem gQ.done {b:List Nat}{k m:Nat}(h:gQ b k m)(hk:5≤k):pieceU b=(m,0xfffd,false):=by
 rw[h.out,show 5-k=0 from by omega];rfl
theorem aGc (g off cap i:Nat)(n v:Nat)(t:Bool)(L:List UInt8)(w:World)(hB:Hid (bK w g off L))(hi:i<L.length)(hL:L.length≤140737488355328)(hr:Hid (pieceU (aF (L.drop i))=(n,v,t))) :
  Calls Tryz.prog 82 #[.slice (some ⟨g,off,none⟩) L.length cap,.int .i64 i] w fun e w'=>e=.returned (.tuple #[.int .i64 n,.int .i64 v,.bool t])∧w=w':=by
 go_enter Tryz.func82,Tryz.ntmps82
 go_wp2
 go_loop [4,5,6,7,8] (fun r4 r5 r6 m k=>r4=.int .i64 0∧r5=.int .i64 0∧r6=.bool false∧∃m' k':Nat,m=.int .i64 m'∧k=.int .i64 k'∧Hid (gQ (aF (L.drop i)) k' m')) (fun _ _ _ _ k=>5-(intOf k).toNat)
 case atStart=>exact⟨rfl,rfl,rfl,1,1,rfl,rfl,hid ⟨Nat.le_refl _,by omega,rfl⟩⟩
 case round =>
  obtain⟨rfl,rfl,rfl,m,k,rfl,rfl,hP⟩:=hrel;have hk1:=hP.out.lo;have hk5:=hP.out.hi;rcases Nat.lt_or_ge k 5 with hk|hk
  ·obtain⟨b0,n0,v0,hb⟩:∃b0 n0 v0,begins (aF (L.drop i)) k=(b0,n0,v0):=⟨_,_,_,rfl⟩
   have HB:=hid hb;cases b0 with
   | true =>
    by_cases hn:n0=k
    ·subst hn;have hz:=hP.out.hit hk hb;rw[hr.out]at hz
     simp only[Prod.mk.injEq]at hz;obtain⟨rfl,rfl,rfl⟩:=hz;clear hb;go_wp2_with (go_at_call 141;refine(qU g off cap i n true n v L _ hB hi hL (by omega) (by omega) HB).mono ?_;rintro e w' ⟨rfl,rfl⟩)
     go_ret3;exact⟨rfl,rfl⟩
    ·have HN:=hid (hP.out.some hk hb hn);have hne:((n0:Int)==(k:Int))=false:=by rw[beq_eq_false_iff_ne];omega
     clear hb;go_wp2_with (go_at_call 141;refine(qU g off cap i k true n0 v0 L _ hB hi hL (by omega) (by omega) HB).mono ?_;rintro e w' ⟨rfl,rfl⟩)
     go_round
     case rel=>exact⟨rfl,rfl,rfl,k,k+1,rfl,by go_num,HN⟩
     case measure=>simp[intOf];omega
   | false =>
    have HN:=hid (hP.out.no hk hb);clear hb;go_wp2_with (go_at_call 141;refine(qU g off cap i k false n0 v0 L _ hB hi hL (by omega) (by omega) HB).mono ?_;rintro e w' ⟨rfl,rfl⟩)
    go_round
    case rel=>exact⟨rfl,rfl,rfl,m,k+1,rfl,by go_num,HN⟩
    case measure=>simp[intOf];omega
  ·have hz:=hP.out.done hk;rw[hr.out]at hz
   simp only[Prod.mk.injEq]at hz;obtain⟨rfl,rfl,rfl⟩:=hz;go_wp2
   go_ret3;exact⟨aMe rfl (by simp) rfl,rfl⟩
open Go.RowKit PU8
theorem jR (l:List Nat)(h:∀n∈l,n<256):Lib.byteCells (l.map UInt8.ofNat)=l.map (fun n=>Value.int .u8 (n:Nat)):=by
 unfold Lib.byteCells;rw[List.map_map];apply List.map_congr_left;intro n hn;simp only[Function.comp_apply];rw[ofN n (h n hn)]
def tS (w:World)(n:Nat)(arr:Array Value)(e:Ending)(w':World):Prop:=e=.returned (.slice (some ⟨w.heap.size,0,none⟩) n n)∧w'=w.alloc (.cells arr 5)
theorem aL7 (c:Nat)(h:c<128)(w:World)(arr:Array Value)(ha:Hid (arr=#[.int .u8 c])):Calls Tryz.prog 132 #[.int .i64 c] w (tS w 1 arr):=by
 go_enter Tryz.func132,Tryz.ntmps132
 go_wp2
 go_ret;exact⟨rfl,by rw[ha.out]⟩
theorem aL8 (c:Nat)(h1:128≤c)(h:c<2048)(w:World)(arr:Array Value)(ha:Hid (arr=#[.int .u8 (192+(c:Int) / 64),.int .u8 (128+(c:Int)%64)])):Calls Tryz.prog 132 #[.int .i64 c] w (tS w 2 arr):=by
 go_enter Tryz.func132,Tryz.ntmps132
 go_wp2
 go_ret;exact⟨rfl,by rw[ha.out]⟩
theorem aL9 (c:Int)(h1:2048≤c)(h:c<65536)(w:World)(arr:Array Value)(ha:Hid (arr=#[.int .u8 (224+c / 4096),.int .u8 (128+c / 64%64),.int .u8 (128+c%64)])):Calls Tryz.prog 132 #[.int .i64 c] w (tS w 3 arr):=by
 go_enter Tryz.func132,Tryz.ntmps132
 go_wp2
 go_ret;exact⟨rfl,by rw[ha.out]⟩
theorem aMa (c:Int)(h1:65536≤c)(h:c≤1114111)(w:World)(arr:Array Value)(ha:Hid (arr=#[.int .u8 (240+c / 262144),.int .u8 (128+c / 4096%64),.int .u8 (128+c / 64%64),.int .u8 (128+c%64)])):Calls Tryz.prog 132 #[.int .i64 c] w (tS w 4 arr):=by
 go_enter Tryz.func132,Tryz.ntmps132
 go_wp2
 go_ret;exact⟨rfl,by rw[ha.out]⟩
theorem aF8 (c:Nat)(h:c≤1114111)(w:World):Calls Tryz.prog 132 #[.int .i64 c] w (tS w (aQ c).length (Lib.byteCells (aQ c)).toArray):=by
 unfold aQ;by_cases h1:c<128
 ·have he:encN c=[c]:=by unfold encN;rw[if_pos h1]
  rw[he];refine aL7 c h1 w _ ?_;show _=_;rw[jR _ (by simp;omega)];rfl
 by_cases h2:c<2048
 ·rw[enc_two c (by omega) h2];refine aL8 c (by omega) h2 w _ ?_;show _=_;rw[jR _ (by simp;omega)];have E1:((192+c / 64:Nat):Int)=192+(c:Int) / 64:=by omega
  have E3:((128+c%64:Nat):Int)=128+(c:Int)%64:=by omega
  simp only[List.map_cons,List.map_nil,E1,E3]
 by_cases h3:c<65536
 ·rw[enc_three c (by omega) h3];refine aL9 c (by omega) (by omega) w _ ?_;show _=_;rw[jR _ (by simp;omega)];have E1:((224+c / 4096:Nat):Int)=224+(c:Int) / 4096:=by omega
  have E2:((128+c / 64%64:Nat):Int)=128+(c:Int) / 64%64:=by omega
  have E3:((128+c%64:Nat):Int)=128+(c:Int)%64:=by omega
  simp only[List.map_cons,List.map_nil,E1,E2,E3]
 ·rw[enc_four c (by omega)];refine aMa c (by omega) (by omega) w _ ?_;show _=_;rw[jR _ (by simp;omega)];have E1:((240+c / 262144:Nat):Int)=240+(c:Int) / 262144:=by omega
  have E2:((128+c / 4096%64:Nat):Int)=128+(c:Int) / 4096%64:=by omega
  have E3:((128+c / 64%64:Nat):Int)=128+(c:Int) / 64%64:=by omega
  have E4:((128+c%64:Nat):Int)=128+(c:Int)%64:=by omega
  simp only[List.map_cons,List.map_nil,E1,E2,E3,E4]
open Go.RowKit PU8
def mG (r:Nat):Value:=.int .i32 (r:Nat)
theorem Tryz.info21:(Tryz.prog.info? 21).map (fun i=>(i.zero,i.size,i.bytes))=some (some (.int .i32 0),1,4):=by kernel_rfl
theorem aLl {L:List UInt8}{k:Nat}(h:k<L.length):L.drop k≠[]:=by
 intro e;have:=congrArg List.length e;rw[List.length_drop]at this
 simp at this;omega
structure nZ (L:List UInt8) (k:Nat) (rs:List Nat):Prop where
 le:k≤L.length
 len:rs.length≤k
 out:rs++dY (L.drop k)=dY L
theorem nZ.start (L:List UInt8):nZ L 0 []:=⟨Nat.zero_le _,Nat.le_refl _,rfl⟩
theorem nZ.next {L:List UInt8}{k:Nat}{rs:List Nat}{n v:Nat}{t:Bool}(h:nZ L k rs)(hk:k<L.length)(hp:pieceU (aF (L.drop k))=(n,v,t)):1≤n∧k+n≤L.length∧v≤1114111∧nZ L (k+n) (rs++[v]):=by
 have hne:=aLl hk;have h1:=nQ _ hne;have h2:=aBF _ hne;have h3:=aBG _ hne;have h4:=aE6 _ hne;have h5:=mH _ hne;rw[hp]at h1 h2 h3 h5
 simp only at h1 h2 h3 h5;rw[List.length_drop]at h4
 refine⟨h1,by omega,h3.2,by omega,?_,?_⟩
 ·have:=h.len;simp;omega
 ·rw[List.append_assoc,List.singleton_append,←List.drop_drop,←h5];exact h.out
theorem nZ.done {L:List UInt8}{k:Nat}{rs:List Nat}(h:nZ L k rs)(hk:L.length≤k):rs=dY L:=by
 have:=h.out;rw[List.drop_eq_nil_of_le hk,uR,List.append_nil]at this
 exact this
def aBp (L:List UInt8)(w:World)(e:Ending)(w':World):Prop:=∃v,e=.returned v∧aM w.heap.size 21 1 v (dY L).length ((dY L).map mG) w w'
theorem aGe (g off cap:Nat)(L:List UInt8)(w:World)(hB:Hid (bK w g off L))(hg:g<w.heap.size)(hL:L.length≤1000000000) :
  Calls Tryz.prog 78 #[.slice (some ⟨g,off,none⟩) L.length cap] w (aBp L w):=by
 obtain⟨i0,hi,hz0,hz1,hz2⟩:=info_parts Tryz.info21;go_enter Tryz.func78,Tryz.ntmps78
 go_wp2
 go_loopw [3,4] (fun o i wx=>∃(k:Nat) (rs:List Nat),i=.int .i64 k∧Hid (nZ L k rs)∧Hid (aM w.heap.size 21 1 o rs.length (rs.map mG) w wx)) (fun _ i _=>L.length-(intOf i).toNat)
 case atStart=>exact⟨0,[],rfl,hid (nZ.start L),hid (aM.nil w 21 1)⟩
 case round =>
  obtain⟨k,rs,rfl,hR,hO⟩:=hrel;have hk:=hR.out.le;have hkl:=hR.out.len;rcases Nat.lt_or_ge k L.length with hlt|hge
  ·have hBr:Hid (bK wr g off L):=hB.out.below hO.out.bel hg;obtain⟨n,v,t,hp⟩:∃n v t,pieceU (aF (L.drop k))=(n,v,t):=⟨_,_,_,rfl⟩
   obtain⟨hn1,hn2,hv,hN⟩:=hR.out.next hlt hp;have HN:=hid hN;have HP:=hid hp;clear hp hN;go_wp2_with fail
   refine(aGc g off cap k n v t L wr hBr hlt (by omega) HP).mono ?_;rintro e w' ⟨rfl,rfl⟩;go_wp2_with (at_builtin;refine bC (by rfl) _ _ 85 (by rfl) 21 i0 (.int .i32 0) 1 4 Tryz.underlying85 hi hz0 hz1 hz2 rfl (by decide) _ _ _ rfl hO.out #[.int .i32 v] rfl rfl rfl rfl (by omega) (by omega) ?_)
   intro v' w' hO' _;go_wp2
   go_roundw
   case rel=>exact⟨k+n,rs++[v],by go_num,HN,hid (hO'.out.cast (by simp) (by simp[mG]))⟩
   case measure=>simp[intOf];omega
  ·have HE:=hid (hR.out.done hge);go_wp2
   go_ret;exact⟨_,rfl,by rw[←HE.out];exact hO.out⟩
open Go.RowKit PU8
structure rV (rs:List Nat) (k:Nat) (bs:List UInt8):Prop where
 le:k≤rs.length
 len:bs.length≤4*k
 out:bs=(rs.take k).flatMap aQ
theorem rV.start (rs:List Nat):rV rs 0 []:=⟨Nat.zero_le _,Nat.le_refl _,rfl⟩
theorem rV.next {rs:List Nat}{k:Nat}{bs:List UInt8}(h:rV rs k bs)(hk:k<rs.length):rV rs (k+1) (bs++aQ rs[k]):=by
 refine⟨hk,?_,?_⟩
 ·have:=h.len;have:=(oS rs[k]).2;simp;omega
 ·rw[List.take_succ_eq_append_getElem hk,List.flatMap_append,←h.out];simp
theorem aLF (w:World)(cs:List Value)(E:TypeId):∀j u,cs[j]?=some u→(w.alloc (.cells cs.toArray E)).cell? ((⟨w.heap.size,0,none⟩:Addr).add j)=some u:=by
 intro j u hj;have hadd:(⟨w.heap.size,0,none⟩:Addr).add j=⟨w.heap.size,j,none⟩:=by unfold Addr.add;split<;>simp_all
 rw[hadd,cell_of_row _ _ j cs.toArray E (0,0) (heap_alloc_new w _)];simpa using hj
theorem aBZ (L:List UInt8):(Lib.byteCells L).all (fun u=>u.oneCell')=true:=List.all_eq_true.2 (tL L)
theorem aEs (rs:List Nat)(hv:Hid (∀r∈rs,Val r))(hl:rs.length≤1000000000)(v:Value)(w:World)(hV:Hid (pQ w v rs.length (rs.map mG))) :
  Calls Tryz.prog 79 #[v] w fun e w'=>e=.returned (.string ⟨(rs.flatMap aQ).toArray⟩)∧Below w.heap.size w w':=by
 obtain⟨i0,hi,hz0,hz1,hz2⟩:=info_parts Tryz.info5;obtain⟨a,c,rfl,_⟩:=hV.out;go_enter Tryz.func79,Tryz.ntmps79
 go_wp2
 go_loopw [3,4] (fun o i wx=>∃(k:Nat) (bs:List UInt8),i=.int .i64 k∧Hid (rV rs k bs)∧Hid (aM w.heap.size 5 1 o bs.length (Lib.byteCells bs) w wx)) (fun _ i _=>rs.length-(intOf i).toNat)
 case atStart=>exact⟨0,[],rfl,hid (rV.start rs),hid (aM.nil w 5 1)⟩
 case round =>
  obtain⟨k,bs,rfl,hE,hO⟩:=hrel;have hk:=hE.out.le;have hkl:=hE.out.len;rcases Nat.lt_or_ge k rs.length with hlt|hge
  ·obtain⟨g,off,c',hva,hcell⟩:=(hV.out.below hO.out.bel (Nat.le_refl _)).get k (by simpa using hlt);simp only[Value.slice.injEq,true_and]at hva;obtain⟨rfl,rfl⟩:=hva;rw[List.getElem_map]at hcell
   have hval:=hv.out rs[k] (List.getElem_mem hlt);have HN:=hid (hE.out.next hlt);have hle:=hval.2;have HVAL:=hid hval;have HEL:=hid (oS rs[k]);generalize rs[k]=r at *
   unfold mG at hcell;clear hval;have hel:=HEL.out.2;go_wp2_with fail
   refine(aIe r HVAL.out wr).mono ?_;rintro e w' ⟨rfl,rfl⟩;go_wp2_with fail
   refine(aF8 r hle wr).mono ?_;rintro e w' ⟨rfl,rfl⟩;go_wp2_with (at_builtin;refine kF (by rfl) _ _ 35 (by rfl) 5 i0 (.int .u8 0) 1 1 Tryz.underlying35 hi hz0 hz1 hz2 rfl (by decide) _ _ _ rfl (hO.out.alloc _) ⟨wr.heap.size,0,none⟩ (aQ r).length (aQ r).length (Lib.byteCells (aQ r)) rfl (by rw[iJ,Nat.mul_one]) (aLF wr _ 5) (aBZ _) (by omega) (by omega) ?_)
   intro v' w' hO' _;go_wp2
   go_roundw
   case rel=>exact⟨k+1,bs++aQ r,by go_num,HN,hid (hO'.out.cast (by simp) (kW _ _))⟩
   case measure=>simp[intOf];omega
  ·have hk':k=rs.length:=by omega
   have hX:bs=rs.flatMap aQ:=by
    have:=hE.out.out;rw[hk',List.take_length]at this
    exact this
   have HX:=hid hX;obtain⟨a1,c1,rfl,_,_⟩:=hO.out.slice;have hcv:=nT (P:=Tryz.prog) wr 35 5 9 Tryz.underlying35 Tryz.underlying5 Tryz.underlying9 a1 bs bs.length c1 rfl (hO.out.isB rfl);clear hX;go_wp2
   go_ret;refine⟨?_,hO.out.bel⟩;rw[HX.out];rfl
end Go.Proofs.YtcfgbdhpcboikaaGreatDoor
