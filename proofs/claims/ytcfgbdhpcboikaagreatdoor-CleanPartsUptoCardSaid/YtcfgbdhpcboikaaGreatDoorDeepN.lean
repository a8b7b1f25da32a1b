/-
  Trees of nodes in memory whose blocks meet a condition; nodes as cells in a row.
  Stores into a slice of the call's own.
  The sieve in memory; sieve.may.
-/
import Derived.Test.YtcfgbdhpcboikaaGreatDoorBase
import Derived.Test.YtcfgbdhpcboikaaGreatDoorAttrL
import Derived.Laws.Tables
import Derived.Deep.MidRow
import Derived.Test.YtcfgbdhpcboikaaGreatDoorTxtB
import Derived.Test.YtcfgbdhpcboikaaGreatDoorHoldF
import Derived.Test.YtcfgbdhpcboikaaGreatDoorMayW
namespace Go.Proofs.YtcfgbdhpcboikaaGreatDoor
set_option maxHeartbeats 2000000
set_option maxRecDepth 100000
open Go.RowKit
def AttrsD (D:Nat→Prop)(w:World)(a:Option Addr)(l:List (ByteArray × ByteArray)):Prop :=
 ∀ j (h:j<l.length),∃ g off,a=some ⟨g,off,none⟩∧D g∧w.cell? ⟨g,off+j*2,none⟩=some (.string (l[j]).1)∧w.cell? ⟨g,off+j*2+1,none⟩=some (.string (l[j]).2)
mutual
def NodeD (D:Nat→Prop)(w:World):Nd→Value→Prop
 | .mk kd sp nm at' tx ks,v=>∃ aa ca a c,v=.agg #[.int .i64 kd,.int .i64 sp,.string nm,.slice aa at'.length ca,.string tx,.slice a ks.length c]∧ks.length≤140737488355328∧AttrsD D w aa at'∧KidsD D w a 0 ks
def KidsD (D:Nat→Prop)(w:World)(a:Option Addr):Nat→List Nd→Prop
 | _,[]=>True
 | i,n :: ks=>(∃ g off c0 c1 c2 c3 c4 c5,a=some ⟨g,off,none⟩∧D g∧Six w g (off+i*6) c0 c1 c2 c3 c4 c5∧NodeD D w n (.agg #[c0,c1,c2,c3,c4,c5]))∧KidsD D w a (i+1) ks
end
theorem cell_same {w w':World}{g o:Nat}{v:Value}(h:w'.heap[g]?=w.heap[g]?)(hc:w.cell? ⟨g,o,none⟩=some v):w'.cell? ⟨g,o,none⟩=some v :=
 (World.cell?_of_block h).trans hc
theorem Six.same {w w':World}{g o:Nat}{c0 c1 c2 c3 c4 c5:Value}(h:Six w g o c0 c1 c2 c3 c4 c5)(e:w'.heap[g]?=w.heap[g]?):Six w' g o c0 c1 c2 c3 c4 c5 :=
 ⟨cell_same e h.x0,cell_same e h.x1,cell_same e h.x2,cell_same e h.x3,cell_same e h.x4,cell_same e h.x5⟩
theorem Six.lt {w:World}{g o:Nat}{c0 c1 c2 c3 c4 c5:Value}(h:Six w g o c0 c1 c2 c3 c4 c5):g<w.heap.size:=World.block_lt_of_cell? w _ h.x0
theorem AttrsD.keep {D D':Nat→Prop}{w w':World}(hk:∀ g,g<w.heap.size→D g→w'.heap[g]?=w.heap[g]?∧D' g){a:Option Addr}{l:List (ByteArray × ByteArray)}(h:AttrsD D w a l):AttrsD D' w' a l:=by
 intro j hj
 obtain⟨g,off,ha,hd,h1,h2⟩:=h j hj
 obtain⟨e,hd'⟩:=hk g (World.block_lt_of_cell? w _ h1) hd
 exact⟨g,off,ha,hd',cell_same e h1,cell_same e h2⟩
theorem nodesD_keep {D D':Nat→Prop}{w w':World}(hk:∀ g,g<w.heap.size→D g→w'.heap[g]?=w.heap[g]?∧D' g):∀ m:Nat,(∀ (n:Nd) (v:Value),n.sz≤m→NodeD D w n v→NodeD D' w' n v)∧(∀ (a:Option Addr) (ks:List Nd) (i:Nat),szAll ks≤m→KidsD D w a i ks→KidsD D' w' a i ks):=by
 intro m
 induction m with
 | zero =>
  refine⟨fun n v hn=>absurd (sz_pos n) (by omega),fun a ks=>?_⟩
  cases ks with
  | nil=>intro i _ h;unfold KidsD;trivial
  | cons k ks=>intro i hs;unfold szAll at hs;exact absurd (sz_pos k) (by omega)
 | succ m ih =>
  have hN:∀ (n:Nd) (v:Value),n.sz≤m+1→NodeD D w n v→NodeD D' w' n v:=by
   intro n v hs h
   cases n with
   | mk kd sp nm at' tx ks =>
    unfold Nd.sz at hs
    unfold NodeD at h ⊢
    obtain⟨aa,ca,a,c,e,hl,ha,hkk⟩:=h
    exact⟨aa,ca,a,c,e,hl,ha.keep hk,ih.2 a ks 0 (by omega) hkk⟩
  refine⟨hN,fun a ks=>?_⟩
  induction ks with
  | nil=>intro i _ h;unfold KidsD;trivial
  | cons k ks ihk =>
   intro i hs h
   unfold szAll at hs
   unfold KidsD at h ⊢
   obtain⟨⟨g,off,c0,c1,c2,c3,c4,c5,e,hd,h6,hn⟩,hr⟩:=h
   obtain⟨eg,hd'⟩:=hk g h6.lt hd
   exact⟨⟨g,off,c0,c1,c2,c3,c4,c5,e,hd',h6.same eg,hN k _ (by omega) hn⟩,ihk (i+1) (by omega) hr⟩
theorem NodeD.keep {D D':Nat→Prop}{w w':World}{n:Nd}{v:Value}(h:NodeD D w n v)(hk:∀ g,g<w.heap.size→D g→w'.heap[g]?=w.heap[g]?∧D' g):NodeD D' w' n v:=(nodesD_keep hk n.sz).1 n v (Nat.le_refl _) h
theorem KidsD.keep {D D':Nat→Prop}{w w':World}{a:Option Addr}{ks:List Nd}{i:Nat}(h:KidsD D w a i ks)(hk:∀ g,g<w.heap.size→D g→w'.heap[g]?=w.heap[g]?∧D' g):KidsD D' w' a i ks:=(nodesD_keep hk (szAll ks)).2 a ks i (Nat.le_refl _) h
theorem AttrsD.attrs {D:Nat→Prop}{w:World}{a:Option Addr}{l:List (ByteArray × ByteArray)}(h:AttrsD D w a l)(c:Nat):AttrsV w (.slice a l.length c) l :=
 ⟨a,c,rfl,fun j hj=>by obtain⟨g,off,ha,_,h1,h2⟩:=h j hj;exact⟨g,off,ha,h1,h2⟩⟩
theorem nodesD_plain {D:Nat→Prop}{w:World}:∀ m:Nat,(∀ (n:Nd) (v:Value),n.sz≤m→NodeD D w n v→NodeV w n v)∧(∀ (a:Option Addr) (ks:List Nd) (i:Nat),szAll ks≤m→KidsD D w a i ks→KidsV w a i ks):=by
 intro m
 induction m with
 | zero =>
  refine⟨fun n v hn=>absurd (sz_pos n) (by omega),fun a ks=>?_⟩
  cases ks with
  | nil=>intro i _ h;unfold KidsV;trivial
  | cons k ks=>intro i hs;unfold szAll at hs;exact absurd (sz_pos k) (by omega)
 | succ m ih =>
  have hN:∀ (n:Nd) (v:Value),n.sz≤m+1→NodeD D w n v→NodeV w n v:=by
   intro n v hs h
   cases n with
   | mk kd sp nm at' tx ks =>
    unfold Nd.sz at hs
    unfold NodeD at h
    unfold NodeV
    obtain⟨aa,ca,a,c,e,hl,ha,hkk⟩:=h
    exact⟨_,a,c,e,hl,ha.attrs ca,ih.2 a ks 0 (by omega) hkk⟩
  refine⟨hN,fun a ks=>?_⟩
  induction ks with
  | nil=>intro i _ h;unfold KidsV;trivial
  | cons k ks ihk =>
   intro i hs h
   unfold szAll at hs
   unfold KidsD at h
   unfold KidsV
   obtain⟨⟨g,off,c0,c1,c2,c3,c4,c5,e,_,h6,hn⟩,hr⟩:=h
   exact⟨⟨g,off,c0,c1,c2,c3,c4,c5,e,h6,hN k _ (by omega) hn⟩,ihk (i+1) (by omega) hr⟩
theorem NodeD.node {D:Nat→Prop}{w:World}{n:Nd}{v:Value}(h:NodeD D w n v):NodeV w n v:=(nodesD_plain n.sz).1 n v (Nat.le_refl _) h
theorem KidsD.kids {D:Nat→Prop}{w:World}{a:Option Addr}{ks:List Nd}{i:Nat}(h:KidsD D w a i ks):KidsV w a i ks:=(nodesD_plain (szAll ks)).2 a ks i (Nat.le_refl _) h
theorem nodesD_of {w:World}:∀ m:Nat,(∀ (n:Nd) (v:Value),n.sz≤m→NodeV w n v→NodeD (fun g=>g<w.heap.size) w n v)∧(∀ (a:Option Addr) (ks:List Nd) (i:Nat),szAll ks≤m→KidsV w a i ks→KidsD (fun g=>g<w.heap.size) w a i ks):=by
 intro m
 induction m with
 | zero =>
  refine⟨fun n v hn=>absurd (sz_pos n) (by omega),fun a ks=>?_⟩
  cases ks with
  | nil=>intro i _ h;unfold KidsD;trivial
  | cons k ks=>intro i hs;unfold szAll at hs;exact absurd (sz_pos k) (by omega)
 | succ m ih =>
  have hN:∀ (n:Nd) (v:Value),n.sz≤m+1→NodeV w n v→NodeD (fun g=>g<w.heap.size) w n v:=by
   intro n v hs h
   cases n with
   | mk kd sp nm at' tx ks =>
    unfold Nd.sz at hs
    unfold NodeV at h
    unfold NodeD
    obtain⟨av,a,c,e,hl,⟨aa,ca,rfl,ha⟩,hkk⟩:=h
    refine⟨aa,ca,a,c,e,hl,fun j hj=>?_,ih.2 a ks 0 (by omega) hkk⟩
    obtain⟨g,off,h1,h2,h3⟩:=ha j hj
    exact⟨g,off,h1,World.block_lt_of_cell? w _ h2,h2,h3⟩
  refine⟨hN,fun a ks=>?_⟩
  induction ks with
  | nil=>intro i _ h;unfold KidsD;trivial
  | cons k ks ihk =>
   intro i hs h
   unfold szAll at hs
   unfold KidsV at h
   unfold KidsD
   obtain⟨⟨g,off,c0,c1,c2,c3,c4,c5,e,h6,hn⟩,hr⟩:=h
   exact⟨⟨g,off,c0,c1,c2,c3,c4,c5,e,h6.lt,h6,hN k _ (by omega) hn⟩,ihk (i+1) (by omega) hr⟩
theorem NodeV.deep {w:World}{n:Nd}{v:Value}(h:NodeV w n v):NodeD (fun g=>g<w.heap.size) w n v:=(nodesD_of n.sz).1 n v (Nat.le_refl _) h
theorem KidsV.deep {w:World}{a:Option Addr}{ks:List Nd}{i:Nat}(h:KidsV w a i ks):KidsD (fun g=>g<w.heap.size) w a i ks:=(nodesD_of (szAll ks)).2 a ks i (Nat.le_refl _) h
def CellsD (D:Nat→Prop)(w:World)(xs:List Value)(ks:List Nd):Prop :=
 xs.length=ks.length*6∧∀ j (h:j<ks.length),∃ c0 c1 c2 c3 c4 c5,xs[j*6]?=some c0∧xs[j*6+1]?=some c1∧xs[j*6+2]?=some c2∧xs[j*6+3]?=some c3∧xs[j*6+4]?=some c4∧xs[j*6+5]?=some c5∧NodeD D w ks[j] (.agg #[c0,c1,c2,c3,c4,c5])
theorem CellsD.nil (D:Nat→Prop)(w:World):CellsD D w [] []:=⟨rfl,fun j h=>absurd h (by simp)⟩
theorem CellsD.keep {D D':Nat→Prop}{w w':World}{xs:List Value}{ks:List Nd}(h:CellsD D w xs ks)(hk:∀ g,g<w.heap.size→D g→w'.heap[g]?=w.heap[g]?∧D' g):CellsD D' w' xs ks:=by
 refine⟨h.1,fun j hj=>?_⟩
 obtain⟨c0,c1,c2,c3,c4,c5,h0,h1,h2,h3,h4,h5,hn⟩:=h.2 j hj
 exact⟨c0,c1,c2,c3,c4,c5,h0,h1,h2,h3,h4,h5,hn.keep hk⟩
theorem CellsD.snoc {D:Nat→Prop}{w:World}{xs:List Value}{ks:List Nd}{x:Nd}{c0 c1 c2 c3 c4 c5:Value}(h:CellsD D w xs ks)(hx:NodeD D w x (.agg #[c0,c1,c2,c3,c4,c5])):CellsD D w (xs++[c0,c1,c2,c3,c4,c5]) (ks++[x]):=by
 obtain⟨hl,h⟩:=h
 have at6:∀ t,(xs++[c0,c1,c2,c3,c4,c5])[ks.length*6+t]?=[c0,c1,c2,c3,c4,c5][t]?:=fun t=>by rw[List.getElem?_append_right (by omega),show ks.length*6+t-xs.length=t by omega]
 refine⟨by simp;omega,fun j hj=>?_⟩
 have up:∀ i v,xs[i]?=some v→(xs++[c0,c1,c2,c3,c4,c5])[i]?=some v:=fun i v hi=>by rw[List.getElem?_append_left (List.getElem?_eq_some_iff.1 hi).1];exact hi
 by_cases hjm:j<ks.length
 ·obtain⟨d0,d1,d2,d3,d4,d5,k0,k1,k2,k3,k4,k5,kn⟩:=h j hjm
  refine⟨d0,d1,d2,d3,d4,d5,up _ _ k0,up _ _ k1,up _ _ k2,up _ _ k3,up _ _ k4,up _ _ k5,?_⟩
  rw[List.getElem_append_left hjm]
  exact kn
 ·have hje:j=ks.length:=by simp at hj;omega
  subst hje
  refine⟨c0,c1,c2,c3,c4,c5,at6 0,at6 1,at6 2,at6 3,at6 4,at6 5,?_⟩
  rw[List.getElem_append_right (Nat.le_refl _)]
  simpa using hx
theorem NodeD.parts {D:Nat→Prop}{w:World}{n:Nd}{aa:Option Addr}{al ca:Nat}{c0 c1 c2 c4:Value}{a:Option Addr}{kl c:Nat}(h:NodeD D w n (.agg #[c0,c1,c2,.slice aa al ca,c4,.slice a kl c])):AttrsD D w aa n.attrs∧KidsD D w a 0 n.kids:=by
 cases n with
 | mk kd sp nm at' tx ks =>
  unfold NodeD at h
  obtain⟨aa',ca',a',c',e,_,hA,hK⟩:=h
  simp only[Value.agg.injEq,Array.mk.injEq,List.cons.injEq,and_true,Value.slice.injEq] at e
  obtain⟨_,_,_,⟨rfl,_,_⟩,_,⟨rfl,_,_⟩⟩:=e
  exact⟨hA,hK⟩
theorem KidsD.get {D:Nat→Prop}{w:World}{a:Option Addr}:∀ (ks:List Nd) (i j:Nat) (h:j<ks.length),KidsD D w a i ks→∃ g off c0 c1 c2 c3 c4 c5,a=some ⟨g,off,none⟩∧D g∧Six w g (off+(i+j)*6) c0 c1 c2 c3 c4 c5∧NodeD D w ks[j] (.agg #[c0,c1,c2,c3,c4,c5]):=by
 intro ks
 induction ks with
 | nil=>intro i j h;simp at h
 | cons k ks ih =>
  intro i j h hk
  unfold KidsD at hk
  cases j with
  | zero=>exact hk.1
  | succ j =>
   have:=ih (i+1) j (by simpa using h) hk.2
   rw[show i+1+j=i+(j+1) by omega] at this
   exact this
theorem cellsD_of {D:Nat→Prop}{w:World}{a:Option Addr}{xs:List Value}{ks:List Nd}(h:CellsOf w xs ks)(hc:∀ j u,xs[j]?=some u→∃ g off,a=some ⟨g,off,none⟩∧w.cell? ⟨g,off+j,none⟩=some u)(hk:KidsD D w a 0 ks):CellsD D w xs ks:=by
 refine⟨h.1,fun j hj=>?_⟩
 obtain⟨c0,c1,c2,c3,c4,c5,h0,h1,h2,h3,h4,h5,_⟩:=h.2 j hj
 obtain⟨g,off,d0,d1,d2,d3,d4,d5,ha,_,h6,hn⟩:=hk.get ks 0 j hj
 rw[Nat.zero_add] at h6
 have same:∀ i u v,xs[i]?=some u→w.cell? ⟨g,off+i,none⟩=some v→v=u:=fun i u v hu hv=>by
  obtain⟨g',off',ha',hcc⟩:=hc i u hu
  rw[ha] at ha'
  cases ha'
  rw[hv] at hcc
  exact Option.some.inj hcc
 rw[same _ _ _ h0 h6.x0,same _ _ _ h1 h6.x1,same _ _ _ h2 h6.x2,same _ _ _ h3 h6.x3,same _ _ _ h4 h6.x4,same _ _ _ h5 h6.x5] at hn
 exact⟨c0,c1,c2,c3,c4,c5,h0,h1,h2,h3,h4,h5,hn⟩
theorem kidsD_of_cells {D D':Nat→Prop}{w:World}{a:Option Addr}{n c:Nat}{xs:List Value}{ks:List Nd}(hv:VecAt w (.slice a n c) n xs)(h:CellsD D w xs ks)(hD:∀ g,D g→D' g)(ha:∀ y,a=some y→D' y.block):KidsD D' w a 0 ks:=by
 obtain⟨a',c',e,hc⟩:=hv
 simp only[Value.slice.injEq] at e
 obtain⟨rfl,_⟩:=e
 have key:∀ (m i:Nat),i+m=ks.length→KidsD D' w a i (ks.drop i):=by
  intro m
  induction m with
  | zero=>intro i hi;rw[List.drop_eq_nil_of_le (by omega)];unfold KidsD;trivial
  | succ m ih =>
   intro i hi
   have hlt:i<ks.length:=by omega
   rw[List.drop_eq_getElem_cons hlt]
   unfold KidsD
   refine⟨?_,ih (i+1) (by omega)⟩
   obtain⟨c0,c1,c2,c3,c4,c5,h0,h1,h2,h3,h4,h5,hn⟩:=h.2 i hlt
   obtain⟨g,off,hga,k0⟩:=hc _ _ h0
   have same:∀ j u,xs[j]?=some u→w.cell? ⟨g,off+j,none⟩=some u:=by
    intro j u hj
    obtain⟨g',off',ha',k⟩:=hc _ _ hj
    rw[hga] at ha'
    cases ha'
    exact k
   exact⟨g,off,c0,c1,c2,c3,c4,c5,hga,ha _ hga,⟨k0,same _ _ h1,same _ _ h2,same _ _ h3,same _ _ h4,same _ _ h5⟩,hn.keep (fun g _ hg=>⟨rfl,hD g hg⟩)⟩
 exact key ks.length 0 (by omega)
open Go.RowKit
def setsL:List Value→Nat→List Value→List Value
 | xs,_,[]=>xs
 | xs,o,c :: r=>setsL (xs.set o c) (o+1) r
theorem setsL_get:∀ (cs xs:List Value) (o j:Nat),o+cs.length≤xs.length→(setsL xs o cs)[j]?=if o≤j∧j<o+cs.length then cs[j-o]? else xs[j]?:=by
 intro cs
 induction cs with
 | nil=>intro xs o j _;unfold setsL;rw[if_neg (by simp only[List.length_nil];omega)]
 | cons c r ih =>
  intro xs o j h
  simp only[List.length_cons] at h ⊢
  unfold setsL
  rw[ih (xs.set o c) (o+1) j (by rw[List.length_set];omega)]
  by_cases h1:o+1≤j∧j<o+1+r.length
  ·rw[if_pos h1,if_pos (by omega),show j-o=(j-(o+1))+1 by omega,List.getElem?_cons_succ]
  ·rw[if_neg h1]
   by_cases h2:j=o
   ·subst h2
    rw[if_pos (by omega),Nat.sub_self,List.getElem?_cons_zero,List.getElem?_set_self (by omega)]
   ·rw[if_neg (by omega),List.getElem?_set_ne (fun e=>h2 e.symm)]
theorem setsL_end (ys zs cs:List Value)(h:zs.length=cs.length):setsL (ys++zs) ys.length cs=ys++cs:=by
 apply List.ext_getElem?
 intro j
 rw[setsL_get _ _ _ _ (by simp;omega)]
 by_cases h1:j<ys.length
 ·rw[if_neg (by omega),List.getElem?_append_left h1,List.getElem?_append_left h1]
 ·by_cases h2:j<ys.length+cs.length
  ·rw[if_pos (by omega),List.getElem?_append_right (by omega)]
  ·rw[if_neg (by omega),List.getElem?_eq_none (by simp;omega),List.getElem?_eq_none (by simp;omega)]
theorem size_setCell (w:World)(p:Addr)(u:Value):(w.setCell p u).heap.size=w.heap.size:=by simp[World.setCell]
theorem OwnV.setCell {B:Nat}{e:TypeId}{size g n c:Nat}{xs:List Value}{W0 w:World}(h:OwnV B e size (.slice (some ⟨g,0,none⟩) n c) n xs W0 w)(j:Nat)(u:Value) :
  OwnV B e size (.slice (some ⟨g,0,none⟩) n c) n (xs.set j u) W0 (w.setCell ⟨g,j,none⟩ u):=by
 rcases h.own.2 with⟨hv,h0⟩|⟨g',cap,cur,hv,hB,hg,hnc,hcm,hcs,htake⟩
 ·cases hv
 ·simp only[Value.slice.injEq,Option.some.injEq,Addr.mk.injEq] at hv
  obtain⟨⟨rfl,_⟩,_,rfl⟩:=hv
  have e1:=setCell_eq_setRow w g j cur e (0,0) u hg
  have hh:=setRow_heap w g cur (cur.setIfInBounds j u) e (0,0) hg
  refine⟨⟨by rw[List.length_set];exact h.own.1,.inr ⟨g,c,cur.setIfInBounds j u,rfl,hB,by rw[e1];exact hh,hnc,hcm,by simpa using hcs,?_⟩⟩,h.bel.setCell hB u,by rw[size_setCell];exact h.base⟩
  rw[Array.toList_setIfInBounds,List.take_set,htake]
theorem OwnV.setCells {B:Nat}{e:TypeId}{size g n c:Nat}{W0:World}:∀ (cs xs:List Value) (o:Nat) (w:World),OwnV B e size (.slice (some ⟨g,0,none⟩) n c) n xs W0 w →
  OwnV B e size (.slice (some ⟨g,0,none⟩) n c) n (setsL xs o cs) W0 (w.setCells g o cs):=by
 intro cs
 induction cs with
 | nil=>intro xs o w h;exact h
 | cons u r ih =>
  intro xs o w h
  unfold setsL World.setCells
  exact ih _ _ _ (h.setCell o u)
theorem heap_setCells_other (g:Nat):∀ (cs:List Value) (o:Nat) (w:World) (k:Nat),k≠g→(w.setCells g o cs).heap[k]?=w.heap[k]?:=by
 intro cs
 induction cs with
 | nil=>intro o w k _;rfl
 | cons u r ih =>
  intro o w k hk
  unfold World.setCells
  rw[ih (o+1) _ k hk,heap_setCell_other w ⟨g,o,none⟩ k u hk]
theorem OwnV.there {B:Nat}{e:TypeId}{size g n c:Nat}{xs:List Value}{W0 w:World}(h:OwnV B e size (.slice (some ⟨g,0,none⟩) n c) n xs W0 w)(o k:Nat)(hk:o+k≤xs.length):w.there g o k:=by
 intro j hj
 obtain⟨a',c',e1,hc⟩:=h.vec
 simp only[Value.slice.injEq] at e1
 obtain⟨g',off,e2,hcell⟩:=hc (o+j) _ (List.getElem?_eq_getElem (by omega))
 rw[← e1.1] at e2
 simp only[Option.some.injEq,Addr.mk.injEq] at e2
 obtain⟨rfl,rfl,_⟩:=e2
 rw[Nat.zero_add] at hcell
 refine⟨by rw[hcell];rfl,?_⟩
 rcases h.own.2 with⟨hv,h0⟩|⟨g',cap,cur,hv,hB,hg,_⟩
 ·cases hv
 ·simp only[Value.slice.injEq,Option.some.injEq,Addr.mk.injEq] at hv
  obtain⟨⟨rfl,_⟩,_,rfl⟩:=hv
  simp[World.frozen?,hg]
theorem OwnV.cell {B:Nat}{e:TypeId}{size g n c:Nat}{xs:List Value}{W0 w:World}(h:OwnV B e size (.slice (some ⟨g,0,none⟩) n c) n xs W0 w)(j:Nat)(u:Value)(hj:xs[j]?=some u):w.cell? ⟨g,j,none⟩=some u:=by
 obtain⟨a',c',e1,hc⟩:=h.vec
 simp only[Value.slice.injEq] at e1
 obtain⟨g',off,e2,hcell⟩:=hc j u hj
 rw[← e1.1] at e2
 simp only[Option.some.injEq,Addr.mk.injEq] at e2
 obtain⟨rfl,rfl,_⟩:=e2
 rw[Nat.zero_add] at hcell
 exact hcell
theorem OwnV.atRow {B:Nat}{e:TypeId}{size n:Nat}{v:Value}{xs:List Value}{W0 w:World}(h:OwnV B e size v n xs W0 w)(hn:0<n):∃ g c,v=.slice (some ⟨g,0,none⟩) n c∧B≤g∧g<w.heap.size∧v.ownBlock=some g:=by
 rcases h.own.2 with⟨hv,h0⟩|⟨g,cap,cur,hv,hB,hg,_⟩
 ·omega
 ·exact⟨g,cap,hv,hB,(Array.getElem?_eq_some_iff.1 hg).1,by rw[hv];rfl⟩
open Go.RowKit
structure Sv (p:Nat) (pn:ByteArray) (pv:Value) (ph:List ByteArray) (out:List Nd) (W1 w:World):Prop where
 at':p=W1.heap.size
 row:∃ v xs,w.heap[p]?=some (.cells #[.string pn,pv,v] 151 (0,0))∧OwnV p 45 6 v out.length xs W1 w∧v.ownBlock≠some p∧CellsD (fun g=>p<g∧v.ownBlock≠some g) w xs out
 phr:Phr W1 pv ph
theorem Sv.below {p:Nat}{pn:ByteArray}{pv:Value}{ph:List ByteArray}{out:List Nd}{W1 w w':World}(h:Sv p pn pv ph out W1 w)(hb:Below w.heap.size w w'):Sv p pn pv ph out W1 w':=by
 obtain⟨v,xs,hr,hO,hne,hC⟩:=h.row
 have hlt:p<w.heap.size:=(Array.getElem?_eq_some_iff.1 hr).1
 exact⟨h.at',⟨v,xs,by rw[hb.block p hlt];exact hr,hO.keep hb,hne,hC.keep (fun g hg hd=>⟨hb.block g hg,hd⟩)⟩,h.phr⟩
theorem Sv.bel {p:Nat}{pn:ByteArray}{pv:Value}{ph:List ByteArray}{out:List Nd}{W1 w:World}(h:Sv p pn pv ph out W1 w):Below W1.heap.size W1 w:=by
 obtain⟨v,xs,hr,hO,hne,hC⟩:=h.row
 have:=hO.bel
 rw[← h.at']
 exact this
theorem Sv.phrAt {p:Nat}{pn:ByteArray}{pv:Value}{ph:List ByteArray}{out:List Nd}{W1 w:World}(h:Sv p pn pv ph out W1 w):Phr w pv ph:=h.phr.below h.bel (Nat.le_refl _)
theorem smay_any (p:Nat)(pn:ByteArray)(pv:Value)(ph:List ByteArray)(out:List Nd)(W1 w:World)(nm:ByteArray)(hph:ph.length≤1000000000)(h:Hid (Sv p pn pv ph out W1 w)) :
  Calls Tryz.prog 197 #[.pointer (some ⟨p,0,none⟩),.string nm] w fun e w'=>e=.returned (.bool (mayS pn ph out nm))∧w=w':=by
 obtain⟨v,xs,hr,hO,hne,hC⟩:=h.out.row
 obtain⟨a,c,rfl,_,_⟩:=hO.slice
 have c0:w.cell? ⟨p,0,none⟩=some (.string pn):=by rw[cell_of_row _ _ 0 _ 151 (0,0) hr];rfl
 have c1:w.cell? ⟨p,1,none⟩=some pv:=by rw[cell_of_row _ _ 1 _ 151 (0,0) hr];rfl
 have c2:w.cell? ⟨p,2,none⟩=some (.slice a out.length c):=by rw[cell_of_row _ _ 2 _ 151 (0,0) hr];rfl
 have HM:=Lib.hid (may_any pn nm w)
 have HK:=Lib.hid (kind_any nm w)
 have HQ:=Lib.hid (contains_vec pv ph nm w hph h.out.phrAt.vec _ rfl)
 obtain⟨R,hR⟩:∃ R,R=mayS pn ph out nm:=⟨_,rfl⟩
 rw[← hR]
 have HR:=Lib.hid hR
 unfold mayS at hR
 have hol:decide (out=[])=((out.length:Int)==0):=by cases out<;>simp<;>omega
 rw[hol] at hR
 have hkl:=kindL_le nm.data.toList
 generalize out.length=ol at *
 generalize mayL pn.data.toList nm.data.toList=m at *
 generalize kindL nm.data.toList=k at *
 generalize Lib.containsS ph nm=q at *
 clear hr hO hne hC hol
 go_enter Tryz.func197,Tryz.ntmps197
 go_wp2_with fail
 refine HM.out.mono ?_
 rintro e w' ⟨rfl,rfl⟩
 cases m with
 | false =>
  have HR2:=Lib.hid (show R=false by rw[hR];rfl)
  clear hR
  go_wp2
  go_ret
  exact⟨by rw[HR2.out];rfl,rfl⟩
 | true =>
  rw[Bool.true_and] at hR
  go_wp2_with fail
  refine HK.out.mono ?_
  rintro e w' ⟨rfl,rfl⟩
  by_cases h4:k=4
  ·subst h4
   rw[if_pos rfl] at hR
   have HR2:=Lib.hid hR
   clear hR
   go_wp2_with fail
   refine HQ.out.mono ?_
   rintro e w' ⟨rfl,rfl⟩
   cases q
   all_goals
    go_wp2
    go_ret
    exact⟨by rw[HR2.out];rfl,rfl⟩
  ·have e4:((k:Int)==4)=false:=by rw[beq_eq_false_iff_ne];omega
   rw[if_neg h4] at hR
   go_wp2_with fail
   refine HK.out.mono ?_
   rintro e w' ⟨rfl,rfl⟩
   by_cases h10:k=10
   ·subst h10
    rw[if_pos rfl] at hR
    have HR2:=Lib.hid hR
    clear hR
    obtain⟨z,hz⟩:∃ z,((ol:Int)==0)=z:=⟨_,rfl⟩
    cases z
    all_goals
     have HZ:=Lib.hid hz
     go_wp2
     go_ret
     exact⟨by rw[HR2.out,HZ.out];rfl,rfl⟩
   ·have e10:((k:Int)==10)=false:=by rw[beq_eq_false_iff_ne];omega
    rw[if_neg h10] at hR
    have HR2:=Lib.hid hR
    clear hR
    go_wp2
    go_ret
    exact⟨by rw[HR2.out];rfl,rfl⟩
end Go.Proofs.YtcfgbdhpcboikaaGreatDoor
