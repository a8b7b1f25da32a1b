/-
  Kids as cells in a row.
  Trees of nodes in memory whose blocks meet a condition; nodes as cells in a row.
  append of elements that may be none at all, and the empty slice that a literal makes.
  The cells of kids are one cell each; a box's cells.
  A box's last cell set to a slice of the call's own: what lies there then.
-/
import Derived.Test.YtcfgbdhpcboikaaGreatDoorNodes
import Derived.Laws.Tables
namespace Go.Proofs.YtcfgbdhpcboikaaGreatDoor
open Go.RowKit
def CellsOf (w:World)(xs:List Value)(ks:List Nd):Prop :=
 xs.length=ks.length*6∧∀ j (h:j<ks.length),∃ c0 c1 c2 c3 c4 c5,xs[j*6]?=some c0∧xs[j*6+1]?=some c1∧xs[j*6+2]?=some c2∧xs[j*6+3]?=some c3∧xs[j*6+4]?=some c4∧xs[j*6+5]?=some c5∧NodeV w ks[j] (.agg #[c0,c1,c2,c3,c4,c5])
theorem CellsOf.below {w w':World}{B:Nat}{xs:List Value}{ks:List Nd}(h:CellsOf w xs ks)(hb:Below B w w')(hB:w.heap.size≤B):CellsOf w' xs ks:=by
 refine⟨h.1,fun j hj=>?_⟩
 obtain⟨c0,c1,c2,c3,c4,c5,h0,h1,h2,h3,h4,h5,hn⟩:=h.2 j hj
 exact⟨c0,c1,c2,c3,c4,c5,h0,h1,h2,h3,h4,h5,hn.below hb hB⟩
theorem kids_of_cells {w:World}{a:Option Addr}{n c:Nat}{xs:List Value}{ks:List Nd}(hv:VecAt w (.slice a n c) n xs)(h:CellsOf w xs ks):KidsV w a 0 ks:=by
 obtain⟨a',c',e,hc⟩:=hv
 simp only[Value.slice.injEq] at e
 obtain⟨rfl,_⟩:=e
 have key:∀ (m i:Nat),i+m=ks.length→KidsV w a i (ks.drop i):=by
  intro m
  induction m with
  | zero=>intro i hi;rw[List.drop_eq_nil_of_le (by omega)];unfold KidsV;trivial
  | succ m ih =>
   intro i hi
   have hlt:i<ks.length:=by omega
   rw[List.drop_eq_getElem_cons hlt]
   unfold KidsV
   refine⟨?_,ih (i+1) (by omega)⟩
   obtain⟨c0,c1,c2,c3,c4,c5,h0,h1,h2,h3,h4,h5,hn⟩:=h.2 i hlt
   obtain⟨g,off,ha,k0⟩:=hc _ _ h0
   have same:∀ j u,xs[j]?=some u→w.cell? ⟨g,off+j,none⟩=some u:=by
    intro j u hj
    obtain⟨g',off',ha',k⟩:=hc _ _ hj
    rw[ha] at ha'
    cases ha'
    exact k
   exact⟨g,off,c0,c1,c2,c3,c4,c5,ha,⟨k0,same _ _ h1,same _ _ h2,same _ _ h3,same _ _ h4,same _ _ h5⟩,hn⟩
 exact key ks.length 0 (by omega)
theorem cells_of_kids {w:World}{a:Option Addr}{ks:List Nd}(h:KidsV w a 0 ks):∃ xs,CellsOf w xs ks∧∀ j u,xs[j]?=some u→∃ g off,a=some ⟨g,off,none⟩∧w.cell? ⟨g,off+j,none⟩=some u:=by
 have key:∀ (m:Nat),m≤ks.length→∃ xs,CellsOf w xs (ks.take m)∧∀ j u,xs[j]?=some u→∃ g off,a=some ⟨g,off,none⟩∧w.cell? ⟨g,off+j,none⟩=some u:=by
  intro m
  induction m with
  | zero=>intro _;exact⟨[],⟨by simp,fun j hj=>by simp at hj⟩,fun j u hj=>by simp at hj⟩
  | succ m ih =>
   intro hm
   obtain⟨xs,⟨hl,hx⟩,hc⟩:=ih (by omega)
   obtain⟨g,off,c0,c1,c2,c3,c4,c5,ha,h6,hn⟩:=h.get ks 0 m (by omega)
   rw[Nat.zero_add] at h6
   rw[List.length_take,Nat.min_eq_left (by omega)] at hl
   have at6:∀ t,(xs++[c0,c1,c2,c3,c4,c5])[m*6+t]?=[c0,c1,c2,c3,c4,c5][t]?:=fun t=>by rw[List.getElem?_append_right (by omega),show m*6+t-xs.length=t by omega]
   refine⟨xs++[c0,c1,c2,c3,c4,c5],⟨?_,fun j hj=>?_⟩,fun j u hj=>?_⟩
   ·rw[List.length_append,List.length_take,Nat.min_eq_left hm,hl];simp;omega
   ·rw[List.length_take,Nat.min_eq_left hm] at hj
    by_cases hjm:j<m
    ·obtain⟨d0,d1,d2,d3,d4,d5,k0,k1,k2,k3,k4,k5,kn⟩:=hx j (by rw[List.length_take];omega)
     have up:∀ i v,xs[i]?=some v→(xs++[c0,c1,c2,c3,c4,c5])[i]?=some v:=fun i v hi=>by rw[List.getElem?_append_left (List.getElem?_eq_some_iff.1 hi).1];exact hi
     refine⟨d0,d1,d2,d3,d4,d5,up _ _ k0,up _ _ k1,up _ _ k2,up _ _ k3,up _ _ k4,up _ _ k5,?_⟩
     rw[List.getElem_take] at kn ⊢
     exact kn
    ·obtain rfl:j=m:=by omega
     refine⟨c0,c1,c2,c3,c4,c5,at6 0,at6 1,at6 2,at6 3,at6 4,at6 5,?_⟩
     rw[List.getElem_take]
     exact hn
   ·by_cases hjl:j<xs.length
    ·rw[List.getElem?_append_left hjl] at hj
     exact hc j u hj
    ·obtain⟨t,rfl⟩:∃ t,j=m*6+t:=⟨j-m*6,by omega⟩
     rw[at6] at hj
     refine⟨g,off,ha,?_⟩
     rw[show off+(m*6+t)=off+m*6+t by omega]
     match t,hj with
     | 0,hj=>simp at hj;subst hj;exact h6.x0
     | 1,hj=>simp at hj;subst hj;exact h6.x1
     | 2,hj=>simp at hj;subst hj;exact h6.x2
     | 3,hj=>simp at hj;subst hj;exact h6.x3
     | 4,hj=>simp at hj;subst hj;exact h6.x4
     | 5,hj=>simp at hj;subst hj;exact h6.x5
     | t+6,hj=>simp at hj
 obtain⟨xs,h1,h2⟩:=key ks.length (Nat.le_refl _)
 rw[List.take_length] at h1
 exact⟨xs,h1,h2⟩
theorem CellsOf.snoc {w:World}{xs:List Value}{ks:List Nd}{x:Nd}{c0 c1 c2 c3 c4 c5:Value}(h:CellsOf w xs ks)(hx:NodeV w x (.agg #[c0,c1,c2,c3,c4,c5])):CellsOf w (xs++[c0,c1,c2,c3,c4,c5]) (ks++[x]):=by
 obtain⟨hl,h⟩:=h
 have at6:∀ t,(xs++[c0,c1,c2,c3,c4,c5])[ks.length*6+t]?=[c0,c1,c2,c3,c4,c5][t]?:=fun t=>by rw[List.getElem?_append_right (by omega),show ks.length*6+t-xs.length=t by omega]
 refine⟨by simp;omega,fun j hj=>?_⟩
 have up:∀ i v,xs[i]?=some v→(xs++[c0,c1,c2,c3,c4,c5])[i]?=some v:=fun i v hi=>by rw[List.getElem?_append_left (List.getElem?_eq_some_iff.1 hi).1];exact hi
 by_cases hjm:j<ks.length
 ·obtain⟨d0,d1,d2,d3,d4,d5,k0,k1,k2,k3,k4,k5,kn⟩:=h j hjm
  refine⟨d0,d1,d2,d3,d4,d5,up _ _ k0,up _ _ k1,up _ _ k2,up _ _ k3,up _ _ k4,up _ _ k5,?_⟩
  rw[List.getElem_append_left hjm]
  exact kn
 ·have hje:j=ks.length:=by simp at hj;omega
  subst hje
  refine⟨c0,c1,c2,c3,c4,c5,at6 0,at6 1,at6 2,at6 3,at6 4,at6 5,?_⟩
  rw[List.getElem_append_right (Nat.le_refl _)]
  simpa using hx
open Go.RowKit
def AttrsD (D:Nat→Prop)(w:World)(a:Option Addr)(l:List (ByteArray × ByteArray)):Prop :=
 ∀ j (h:j<l.length),∃ g off,a=some ⟨g,off,none⟩∧D g∧w.cell? ⟨g,off+j*2,none⟩=some (.string (l[j]).1)∧w.cell? ⟨g,off+j*2+1,none⟩=some (.string (l[j]).2)
mutual
def NodeD (D:Nat→Prop)(w:World):Nd→Value→Prop
 | .mk kd sp nm at' tx ks,v=>∃ aa ca a c,v=.agg #[.int .i64 kd,.int .i64 sp,.string nm,.slice aa at'.length ca,.string tx,.slice a ks.length c]∧ks.length≤140737488355328∧AttrsD D w aa at'∧KidsD D w a 0 ks
def KidsD (D:Nat→Prop)(w:World)(a:Option Addr):Nat→List Nd→Prop
 | _,[]=>True
 | i,n :: ks=>(∃ g off c0 c1 c2 c3 c4 c5,a=some ⟨g,off,none⟩∧D g∧Six w g (off+i*6) c0 c1 c2 c3 c4 c5∧NodeD D w n (.agg #[c0,c1,c2,c3,c4,c5]))∧KidsD D w a (i+1) ks
end
theorem cell_same {w w':World}{g o:Nat}{v:Value}(h:w'.heap[g]?=w.heap[g]?)(hc:w.cell? ⟨g,o,none⟩=some v):w'.cell? ⟨g,o,none⟩=some v :=
 (World.cell?_of_block h).trans hc
theorem Six.same {w w':World}{g o:Nat}{c0 c1 c2 c3 c4 c5:Value}(h:Six w g o c0 c1 c2 c3 c4 c5)(e:w'.heap[g]?=w.heap[g]?):Six w' g o c0 c1 c2 c3 c4 c5 :=
 ⟨cell_same e h.x0,cell_same e h.x1,cell_same e h.x2,cell_same e h.x3,cell_same e h.x4,cell_same e h.x5⟩
theorem Six.lt {w:World}{g o:Nat}{c0 c1 c2 c3 c4 c5:Value}(h:Six w g o c0 c1 c2 c3 c4 c5):g<w.heap.size:=World.block_lt_of_cell? w _ h.x0
theorem AttrsD.keep {D D':Nat→Prop}{w w':World}(hk:∀ g,g<w.heap.size→D g→w'.heap[g]?=w.heap[g]?∧D' g){a:Option Addr}{l:List (ByteArray × ByteArray)}(h:AttrsD D w a l):AttrsD D' w' a l:=by
 intro j hj
 obtain⟨g,off,ha,hd,h1,h2⟩:=h j hj
 obtain⟨e,hd'⟩:=hk g (World.block_lt_of_cell? w _ h1) hd
 exact⟨g,off,ha,hd',cell_same e h1,cell_same e h2⟩
theorem nodesD_keep {D D':Nat→Prop}{w w':World}(hk:∀ g,g<w.heap.size→D g→w'.heap[g]?=w.heap[g]?∧D' g):∀ m:Nat,(∀ (n:Nd)(v:Value),n.sz≤m→NodeD D w n v→NodeD D' w' n v)∧(∀ (a:Option Addr)(ks:List Nd)(i:Nat),szAll ks≤m→KidsD D w a i ks→KidsD D' w' a i ks):=by
 intro m
 induction m with
 | zero =>
  refine⟨fun n v hn=>absurd (sz_pos n) (by omega),fun a ks=>?_⟩
  cases ks with
  | nil=>intro i _ h;unfold KidsD;trivial
  | cons k ks=>intro i hs;unfold szAll at hs;exact absurd (sz_pos k) (by omega)
 | succ m ih =>
  have hN:∀ (n:Nd) (v:Value),n.sz≤m+1→NodeD D w n v→NodeD D' w' n v:=by
   intro n v hs h
   cases n with
   | mk kd sp nm at' tx ks =>
    unfold Nd.sz at hs
    unfold NodeD at h ⊢
    obtain⟨aa,ca,a,c,e,hl,ha,hkk⟩:=h
    exact⟨aa,ca,a,c,e,hl,ha.keep hk,ih.2 a ks 0 (by omega) hkk⟩
  refine⟨hN,fun a ks=>?_⟩
  induction ks with
  | nil=>intro i _ h;unfold KidsD;trivial
  | cons k ks ihk =>
   intro i hs h
   unfold szAll at hs
   unfold KidsD at h ⊢
   obtain⟨⟨g,off,c0,c1,c2,c3,c4,c5,e,hd,h6,hn⟩,hr⟩:=h
   obtain⟨eg,hd'⟩:=hk g h6.lt hd
   exact⟨⟨g,off,c0,c1,c2,c3,c4,c5,e,hd',h6.same eg,hN k _ (by omega) hn⟩,ihk (i+1) (by omega) hr⟩
theorem NodeD.keep {D D':Nat→Prop}{w w':World}{n:Nd}{v:Value}(h:NodeD D w n v)(hk:∀ g,g<w.heap.size→D g→w'.heap[g]?=w.heap[g]?∧D' g):NodeD D' w' n v:=(nodesD_keep hk n.sz).1 n v (Nat.le_refl _) h
theorem KidsD.keep {D D':Nat→Prop}{w w':World}{a:Option Addr}{ks:List Nd}{i:Nat}(h:KidsD D w a i ks)(hk:∀ g,g<w.heap.size→D g→w'.heap[g]?=w.heap[g]?∧D' g):KidsD D' w' a i ks:=(nodesD_keep hk (szAll ks)).2 a ks i (Nat.le_refl _) h
theorem AttrsD.attrs {D:Nat→Prop}{w:World}{a:Option Addr}{l:List (ByteArray × ByteArray)}(h:AttrsD D w a l)(c:Nat):AttrsV w (.slice a l.length c) l :=
 ⟨a,c,rfl,fun j hj=>by obtain⟨g,off,ha,_,h1,h2⟩:=h j hj;exact⟨g,off,ha,h1,h2⟩⟩
theorem nodesD_plain {D:Nat→Prop}{w:World}:∀ m:Nat,(∀ (n:Nd)(v:Value),n.sz≤m→NodeD D w n v→NodeV w n v)∧(∀ (a:Option Addr)(ks:List Nd)(i:Nat),szAll ks≤m→KidsD D w a i ks→KidsV w a i ks):=by
 intro m
 induction m with
 | zero =>
  refine⟨fun n v hn=>absurd (sz_pos n) (by omega),fun a ks=>?_⟩
  cases ks with
  | nil=>intro i _ h;unfold KidsV;trivial
  | cons k ks=>intro i hs;unfold szAll at hs;exact absurd (sz_pos k) (by omega)
 | succ m ih =>
  have hN:∀ (n:Nd) (v:Value),n.sz≤m+1→NodeD D w n v→NodeV w n v:=by
   intro n v hs h
   cases n with
   | mk kd sp nm at' tx ks =>
    unfold Nd.sz at hs
    unfold NodeD at h
    unfold NodeV
    obtain⟨aa,ca,a,c,e,hl,ha,hkk⟩:=h
    exact⟨_,a,c,e,hl,ha.attrs ca,ih.2 a ks 0 (by omega) hkk⟩
  refine⟨hN,fun a ks=>?_⟩
  induction ks with
  | nil=>intro i _ h;unfold KidsV;trivial
  | cons k ks ihk =>
   intro i hs h
   unfold szAll at hs
   unfold KidsD at h
   unfold KidsV
   obtain⟨⟨g,off,c0,c1,c2,c3,c4,c5,e,_,h6,hn⟩,hr⟩:=h
   exact⟨⟨g,off,c0,c1,c2,c3,c4,c5,e,h6,hN k _ (by omega) hn⟩,ihk (i+1) (by omega) hr⟩
theorem NodeD.node {D:Nat→Prop}{w:World}{n:Nd}{v:Value}(h:NodeD D w n v):NodeV w n v:=(nodesD_plain n.sz).1 n v (Nat.le_refl _) h
theorem KidsD.kids {D:Nat→Prop}{w:World}{a:Option Addr}{ks:List Nd}{i:Nat}(h:KidsD D w a i ks):KidsV w a i ks:=(nodesD_plain (szAll ks)).2 a ks i (Nat.le_refl _) h
theorem nodesD_of {w:World}:∀ m:Nat,(∀ (n:Nd)(v:Value),n.sz≤m→NodeV w n v→NodeD (fun g=>g<w.heap.size) w n v)∧(∀ (a:Option Addr)(ks:List Nd)(i:Nat),szAll ks≤m→KidsV w a i ks→KidsD (fun g=>g<w.heap.size) w a i ks):=by
 intro m
 induction m with
 | zero =>
  refine⟨fun n v hn=>absurd (sz_pos n) (by omega),fun a ks=>?_⟩
  cases ks with
  | nil=>intro i _ h;unfold KidsD;trivial
  | cons k ks=>intro i hs;unfold szAll at hs;exact absurd (sz_pos k) (by omega)
 | succ m ih =>
  have hN:∀ (n:Nd) (v:Value),n.sz≤m+1→NodeV w n v→NodeD (fun g=>g<w.heap.size) w n v:=by
   intro n v hs h
   cases n with
   | mk kd sp nm at' tx ks =>
    unfold Nd.sz at hs
    unfold NodeV at h
    unfold NodeD
    obtain⟨av,a,c,e,hl,⟨aa,ca,rfl,ha⟩,hkk⟩:=h
    refine⟨aa,ca,a,c,e,hl,fun j hj=>?_,ih.2 a ks 0 (by omega) hkk⟩
    obtain⟨g,off,h1,h2,h3⟩:=ha j hj
    exact⟨g,off,h1,World.block_lt_of_cell? w _ h2,h2,h3⟩
  refine⟨hN,fun a ks=>?_⟩
  induction ks with
  | nil=>intro i _ h;unfold KidsD;trivial
  | cons k ks ihk =>
   intro i hs h
   unfold szAll at hs
   unfold KidsV at h
   unfold KidsD
   obtain⟨⟨g,off,c0,c1,c2,c3,c4,c5,e,h6,hn⟩,hr⟩:=h
   exact⟨⟨g,off,c0,c1,c2,c3,c4,c5,e,h6.lt,h6,hN k _ (by omega) hn⟩,ihk (i+1) (by omega) hr⟩
theorem NodeV.deep {w:World}{n:Nd}{v:Value}(h:NodeV w n v):NodeD (fun g=>g<w.heap.size) w n v:=(nodesD_of n.sz).1 n v (Nat.le_refl _) h
theorem KidsV.deep {w:World}{a:Option Addr}{ks:List Nd}{i:Nat}(h:KidsV w a i ks):KidsD (fun g=>g<w.heap.size) w a i ks:=(nodesD_of (szAll ks)).2 a ks i (Nat.le_refl _) h
def CellsD (D:Nat→Prop)(w:World)(xs:List Value)(ks:List Nd):Prop :=
 xs.length=ks.length*6∧∀ j (h:j<ks.length),∃ c0 c1 c2 c3 c4 c5,xs[j*6]?=some c0∧xs[j*6+1]?=some c1∧xs[j*6+2]?=some c2∧xs[j*6+3]?=some c3∧xs[j*6+4]?=some c4∧xs[j*6+5]?=some c5∧NodeD D w ks[j] (.agg #[c0,c1,c2,c3,c4,c5])
theorem CellsD.nil (D:Nat→Prop)(w:World):CellsD D w [] []:=⟨rfl,fun j h=>absurd h (by simp)⟩
theorem CellsD.keep {D D':Nat→Prop}{w w':World}{xs:List Value}{ks:List Nd}(h:CellsD D w xs ks)(hk:∀ g,g<w.heap.size→D g→w'.heap[g]?=w.heap[g]?∧D' g):CellsD D' w' xs ks:=by
 refine⟨h.1,fun j hj=>?_⟩
 obtain⟨c0,c1,c2,c3,c4,c5,h0,h1,h2,h3,h4,h5,hn⟩:=h.2 j hj
 exact⟨c0,c1,c2,c3,c4,c5,h0,h1,h2,h3,h4,h5,hn.keep hk⟩
theorem CellsD.snoc {D:Nat→Prop}{w:World}{xs:List Value}{ks:List Nd}{x:Nd}{c0 c1 c2 c3 c4 c5:Value}(h:CellsD D w xs ks)(hx:NodeD D w x (.agg #[c0,c1,c2,c3,c4,c5])):CellsD D w (xs++[c0,c1,c2,c3,c4,c5]) (ks++[x]):=by
 obtain⟨hl,h⟩:=h
 have at6:∀ t,(xs++[c0,c1,c2,c3,c4,c5])[ks.length*6+t]?=[c0,c1,c2,c3,c4,c5][t]?:=fun t=>by rw[List.getElem?_append_right (by omega),show ks.length*6+t-xs.length=t by omega]
 refine⟨by simp;omega,fun j hj=>?_⟩
 have up:∀ i v,xs[i]?=some v→(xs++[c0,c1,c2,c3,c4,c5])[i]?=some v:=fun i v hi=>by rw[List.getElem?_append_left (List.getElem?_eq_some_iff.1 hi).1];exact hi
 by_cases hjm:j<ks.length
 ·obtain⟨d0,d1,d2,d3,d4,d5,k0,k1,k2,k3,k4,k5,kn⟩:=h j hjm
  refine⟨d0,d1,d2,d3,d4,d5,up _ _ k0,up _ _ k1,up _ _ k2,up _ _ k3,up _ _ k4,up _ _ k5,?_⟩
  rw[List.getElem_append_left hjm]
  exact kn
 ·have hje:j=ks.length:=by simp at hj;omega
  subst hje
  refine⟨c0,c1,c2,c3,c4,c5,at6 0,at6 1,at6 2,at6 3,at6 4,at6 5,?_⟩
  rw[List.getElem_append_right (Nat.le_refl _)]
  simpa using hx
theorem NodeD.parts {D:Nat→Prop}{w:World}{n:Nd}{aa:Option Addr}{al ca:Nat}{c0 c1 c2 c4:Value}{a:Option Addr}{kl c:Nat}(h:NodeD D w n (.agg #[c0,c1,c2,.slice aa al ca,c4,.slice a kl c])):AttrsD D w aa n.attrs∧KidsD D w a 0 n.kids:=by
 cases n with
 | mk kd sp nm at' tx ks =>
  unfold NodeD at h
  obtain⟨aa',ca',a',c',e,_,hA,hK⟩:=h
  simp only[Value.agg.injEq,Array.mk.injEq,List.cons.injEq,and_true,Value.slice.injEq] at e
  obtain⟨_,_,_,⟨rfl,_,_⟩,_,⟨rfl,_,_⟩⟩:=e
  exact⟨hA,hK⟩
theorem KidsD.get {D:Nat→Prop}{w:World}{a:Option Addr}:∀ (ks:List Nd)(i j:Nat)(h:j<ks.length),KidsD D w a i ks→∃ g off c0 c1 c2 c3 c4 c5,a=some ⟨g,off,none⟩∧D g∧Six w g (off+(i+j)*6) c0 c1 c2 c3 c4 c5∧NodeD D w ks[j] (.agg #[c0,c1,c2,c3,c4,c5]):=by
 intro ks
 induction ks with
 | nil=>intro i j h;simp at h
 | cons k ks ih =>
  intro i j h hk
  unfold KidsD at hk
  cases j with
  | zero=>exact hk.1
  | succ j =>
   have:=ih (i+1) j (by simpa using h) hk.2
   rw[show i+1+j=i+(j+1) by omega] at this
   exact this
theorem cellsD_of {D:Nat→Prop}{w:World}{a:Option Addr}{xs:List Value}{ks:List Nd}(h:CellsOf w xs ks)(hc:∀ j u,xs[j]?=some u→∃ g off,a=some ⟨g,off,none⟩∧w.cell? ⟨g,off+j,none⟩=some u)(hk:KidsD D w a 0 ks):CellsD D w xs ks:=by
 refine⟨h.1,fun j hj=>?_⟩
 obtain⟨c0,c1,c2,c3,c4,c5,h0,h1,h2,h3,h4,h5,_⟩:=h.2 j hj
 obtain⟨g,off,d0,d1,d2,d3,d4,d5,ha,_,h6,hn⟩:=hk.get ks 0 j hj
 rw[Nat.zero_add] at h6
 have same:∀ i u v,xs[i]?=some u→w.cell? ⟨g,off+i,none⟩=some v→v=u:=fun i u v hu hv=>by
  obtain⟨g',off',ha',hcc⟩:=hc i u hu
  rw[ha] at ha'
  cases ha'
  rw[hv] at hcc
  exact Option.some.inj hcc
 rw[same _ _ _ h0 h6.x0,same _ _ _ h1 h6.x1,same _ _ _ h2 h6.x2,same _ _ _ h3 h6.x3,same _ _ _ h4 h6.x4,same _ _ _ h5 h6.x5] at hn
 exact⟨c0,c1,c2,c3,c4,c5,h0,h1,h2,h3,h4,h5,hn⟩
theorem kidsD_of_cells {D D':Nat→Prop}{w:World}{a:Option Addr}{n c:Nat}{xs:List Value}{ks:List Nd}(hv:VecAt w (.slice a n c) n xs)(h:CellsD D w xs ks)(hD:∀ g,D g→D' g)(ha:∀ y,a=some y→D' y.block):KidsD D' w a 0 ks:=by
 obtain⟨a',c',e,hc⟩:=hv
 simp only[Value.slice.injEq] at e
 obtain⟨rfl,_⟩:=e
 have key:∀ (m i:Nat),i+m=ks.length→KidsD D' w a i (ks.drop i):=by
  intro m
  induction m with
  | zero=>intro i hi;rw[List.drop_eq_nil_of_le (by omega)];unfold KidsD;trivial
  | succ m ih =>
   intro i hi
   have hlt:i<ks.length:=by omega
   rw[List.drop_eq_getElem_cons hlt]
   unfold KidsD
   refine⟨?_,ih (i+1) (by omega)⟩
   obtain⟨c0,c1,c2,c3,c4,c5,h0,h1,h2,h3,h4,h5,hn⟩:=h.2 i hlt
   obtain⟨g,off,hga,k0⟩:=hc _ _ h0
   have same:∀ j u,xs[j]?=some u→w.cell? ⟨g,off+j,none⟩=some u:=by
    intro j u hj
    obtain⟨g',off',ha',k⟩:=hc _ _ hj
    rw[hga] at ha'
    cases ha'
    exact k
   exact⟨g,off,c0,c1,c2,c3,c4,c5,hga,ha _ hga,⟨k0,same _ _ h1,same _ _ h2,same _ _ h3,same _ _ h4,same _ _ h5⟩,hn.keep (fun g _ hg=>⟨rfl,hD g hg⟩)⟩
 exact key ks.length 0 (by omega)
open Go.RowKit
theorem OwnV.empty {B:Nat}{W0 w:World}(e:TypeId)(size:Nat)(hb:Below B W0 w)(hB:B≤w.heap.size):OwnV B e size (.slice (some ⟨w.heap.size,0,none⟩) 0 0) 0 [] W0 (w.alloc (.cells #[] e)):=by
 refine⟨⟨by simp,.inr ⟨w.heap.size,0,#[],rfl,hB,heap_alloc_new w _,Nat.le_refl _,Nat.zero_le _,by simp,by simp⟩⟩,hb.alloc hB _,by simp;omega⟩
theorem Grown.refl (w:World)(v:Value):Grown w w v v:=⟨⟨rfl,rfl,rfl,Nat.le_refl _,fun _ _ _=>rfl⟩,.inl rfl⟩
section
variable {P:Program} {w:World} {ops:Array Oper} {rest:List Oper} {o:Oper} {a:Act} {Q:Exit→Act→World→Prop}
theorem wpList_append_all (hgd:o.guard=none)(s x:Operand)(t:TypeId)
  (ho:o.op=.call { callee:=.builtin .append,args:=#[s,x],argTypes:=#[t,t] })
  (e:TypeId) (i:TypeInfo) (z:Value) (size bytes:Nat) (ht:P.underlying t=some (.slice e)) (hi:P.info? e=some i) (hz:i.zero=some z)
  (hsize:i.size=size) (hby:i.bytes=bytes) (hzs:z.cells.size=size) (hsz:0<size)
  {B:Nat} {W0:World} (v:Value) (n:Nat) (xs:List Value) (hs:a.eval s=v) (hO:OwnV B e size v n xs W0 w)
  (xo:Option Addr) (m c:Nat) (news:List Value) (hx:a.eval x=.slice xo m c) (hl:news.length=m*size) (hnews:∀ j u,news[j]?=some u→∃ g off,xo=some ⟨g,off,none⟩∧w.cell? ⟨g,off+j,none⟩=some u) (h1:news.all (fun u=>u.oneCell')=true)
  (hb:(n+m)*bytes≤140737488355328) (hn:n+m≤140737488355328)
  (h:∀ v' w',Hid (OwnV B e size v' (n+m) (xs++news) W0 w')→Hid (Grown w w' v v')→wpList P ops Q rest (a.put o.dst v') w'):wpList P ops Q (o :: rest) a w:=by
 cases xo with
 | some ad =>
  refine wpList_append_vec hgd s x t ho e i z size bytes ht hi hz hsize hby hzs hsz v n xs hs hO ad m c news hx hl (fun j u hj=>?_) h1 hb hn h
  obtain⟨g,off,e1,e2⟩:=hnews j u hj
  cases e1
  have hadd:(⟨g,off,none⟩:Addr).add j=⟨g,off+j,none⟩:=by unfold Addr.add;split<;>simp_all
  rw[hadd]
  exact e2
 | none =>
  have hnil:news=[]:=by
   cases news with
   | nil=>rfl
   | cons u r =>
    obtain⟨g,off,e1,_⟩:=hnews 0 u rfl
    cases e1
  subst hnil
  have hm:m=0:=by
   rcases Nat.eq_zero_or_pos m with h0|h0
   ·exact h0
   ·have:=Nat.mul_pos h0 hsz
    simp at hl
    omega
  subst hm
  have hr:(Builtin.append_ #[t,t] o.type #[v,.slice none 0 c]).run P w=.ok v w:=by
   rcases hO.own.2 with⟨rfl,rfl⟩|⟨g,cap,cur,rfl,hbg,hg,hnc,_⟩
   ·simp[Builtin.append_,run_underlying ht,sizeOf,typeInfo,hi,Builtin.lenOf,Builtin.firstCells]
   ·simp[Builtin.append_,run_underlying ht,sizeOf,typeInfo,hi,Builtin.lenOf,Builtin.firstCells,hnc,storeCells]
  refine wpList_plain hgd fun K hK=>?_
  unfold Oper.wp execOp
  simp only[ho,resolve,invoke,builtin,Sem.run_bind,Sem.run_pure,Result.andThen_ok,List.map_toArray,List.map_cons,List.map_nil,hs,hx,hr]
  exact hK _ _ (h v w (by rw[List.append_nil];exact Lib.hid hO) (Lib.hid (Grown.refl w v)))
end
open Go.RowKit
theorem CellsOf.one {w:World}{xs:List Value}{ks:List Nd}(h:CellsOf w xs ks):xs.all (fun u=>u.oneCell')=true:=by
 rw[List.all_eq_true]
 intro u hu
 obtain⟨i,hi,rfl⟩:=List.mem_iff_getElem.1 hu
 have hl:=h.1
 have hj:i / 6<ks.length:=by omega
 obtain⟨c0,c1,c2,c3,c4,c5,h0,h1,h2,h3,h4,h5,hn⟩:=h.2 (i / 6) hj
 obtain⟨a1,b1,a2,b2,rfl,rfl,rfl,rfl,rfl,rfl⟩:=hn.cells
 have at6:∀ t,i=i / 6*6+t→xs[i / 6*6+t]?=some xs[i]:=fun t e=>by rw[← e];exact List.getElem?_eq_getElem hi
 have ht:i%6=0∨i%6=1∨i%6=2∨i%6=3∨i%6=4∨i%6=5:=by omega
 rcases ht with ht|ht|ht|ht|ht|ht
 ·have e:=at6 0 (by omega)
  rw[Nat.add_zero,h0] at e
  rw[← Option.some.inj e];rfl
 ·have e:=at6 1 (by omega)
  rw[h1] at e
  rw[← Option.some.inj e];rfl
 ·have e:=at6 2 (by omega)
  rw[h2] at e
  rw[← Option.some.inj e];rfl
 ·have e:=at6 3 (by omega)
  rw[h3] at e
  rw[← Option.some.inj e];rfl
 ·have e:=at6 4 (by omega)
  rw[h4] at e
  rw[← Option.some.inj e];rfl
 ·have e:=at6 5 (by omega)
  rw[h5] at e
  rw[← Option.some.inj e];rfl
open Go.RowKit
structure PutAt (W0 wx:World) (h:Nat) (c0 c1 c2 c3 c4:Value) (m:Nat) (xs:List Value):Prop where
 box:∃ a c,wx.heap[h]?=some (.cells #[c0,c1,c2,c3,c4,.slice a m c] 45 (0,0))∧VecAt wx (.slice a m c) m xs∧∀ y,a=some y→W0.heap.size≤y.block
 other:∀ i,i<W0.heap.size→i≠h→wx.heap[i]?=W0.heap[i]?
 os:wx.os=W0.os
 tape:wx.tape=W0.tape
 output:wx.output=W0.output
 size:W0.heap.size≤wx.heap.size
theorem PutAt.of {W0 W2:World}{h m n:Nat}{a a2:Option Addr}{c cc:Nat}{c0 c1 c2 c3 c4:Value}{xs:List Value}(hr:W0.heap[h]?=some (.cells #[c0,c1,c2,c3,c4,.slice a n c] 45 (0,0)))(hO:OwnV W0.heap.size 45 6 (.slice a2 m cc) m xs W0 W2):PutAt W0 (W2.setCell ⟨h,5,none⟩ (.slice a2 m cc)) h c0 c1 c2 c3 c4 m xs:=by
 have hlt:h<W0.heap.size:=(Array.getElem?_eq_some_iff.1 hr).1
 have hr2:W2.heap[h]?=some (.cells #[c0,c1,c2,c3,c4,.slice a n c] 45 (0,0)):=by rw[hO.bel.block h hlt];exact hr
 have e:=setCell_eq_setRow W2 h 5 #[c0,c1,c2,c3,c4,.slice a n c] 45 (0,0) (.slice a2 m cc) hr2
 have hh:=setRow_heap W2 h _ (#[c0,c1,c2,c3,c4,.slice a n c].setIfInBounds 5 (.slice a2 m cc)) 45 _ hr2
 refine⟨⟨a2,cc,?_,?_,?_⟩,fun i hi hne=>?_,?_,?_,?_,?_⟩
 ·rw[e]
  simpa using hh
 ·obtain⟨a',c',e',hv⟩:=hO.vec
  obtain⟨a'',c'',e'',_,hb⟩:=hO.slice
  refine⟨a',c',e',fun j u hj=>?_⟩
  obtain⟨g,off,ha,hc⟩:=hv j u hj
  refine⟨g,off,ha,?_⟩
  have hg:W0.heap.size≤g:=by
   simp only[Value.slice.injEq] at e' e''
   exact(hb ⟨g,off,none⟩ (by rw[← e''.1,e'.1,ha])).1
  have hne:g≠h:=by omega
  rw[World.cell?_of_block (heap_setCell_other W2 ⟨h,5,none⟩ g _ hne)]
  exact hc
 ·obtain⟨a'',c'',e'',_,hb⟩:=hO.slice
  simp only[Value.slice.injEq] at e''
  intro y hy
  exact(hb y (by rw[← e''.1,hy])).1
 ·rw[heap_setCell_other W2 ⟨h,5,none⟩ i _ hne]
  exact hO.bel.block i hi
 ·exact hO.bel.os
 ·exact hO.bel.tape
 ·exact hO.bel.output
 ·rw[e]
  have:=hO.bel.size
  simpa [World.setRow] using this
end Go.Proofs.YtcfgbdhpcboikaaGreatDoor
