/-
Trees of nodes in memory whose blocks meet a condition; nodes as cells in a row.
-/
import Derived.Test.YtcfgbdhpcboikaaGreatDoorNodes
namespace Go.Proofs.YtcfgbdhpcboikaaGreatDoor
open Go.RowKit
theorem tV {n:Nat}:n≤n:=Nat.le_refl n
def jC (D:Nat→Prop)(w:World)(a:Option Addr)(l:List (ByteArray × ByteArray)):Prop :=
 ∀j (h:j<l.length),∃g off,a=some ⟨g,off,none⟩∧D g∧w.cell? ⟨g,off+j*2,none⟩=some (.string (l[j]).1)∧w.cell? ⟨g,off+j*2+1,none⟩=some (.string (l[j]).2)
mutual
def aY (D:Nat→Prop)(w:World):Nd→Value→Prop
 | .mk kd sp nm at' tx ks,v=>∃aa ca a c,v=.agg #[.int .i64 kd,.int .i64 sp,.string nm,.slice aa at'.length ca,.string tx,.slice a ks.length c]∧ks.length≤140737488355328∧jC D w aa at'∧aD D w a 0 ks
def aD (D:Nat→Prop)(w:World)(a:Option Addr):Nat→List Nd→Prop
 | _,[]=>True
 | i,n :: ks=>(∃g off c0 c1 c2 c3 c4 c5,a=some ⟨g,off,none⟩∧D g∧Six w g (off+i*6) c0 c1 c2 c3 c4 c5∧aY D w n (.agg #[c0,c1,c2,c3,c4,c5]))∧aD D w a (i+1) ks
end
theorem iT {w w':World}{g o:Nat}{v:Value}(h:w'.heap[g]?=w.heap[g]?)(hc:w.cell? ⟨g,o,none⟩=some v):w'.cell? ⟨g,o,none⟩=some v :=
 (World.cell?_of_block h).trans hc
theorem Six.same {w w':World}{g o:Nat}{c0 c1 c2 c3 c4 c5:Value}(h:Six w g o c0 c1 c2 c3 c4 c5)(e:w'.heap[g]?=w.heap[g]?):Six w' g o c0 c1 c2 c3 c4 c5 :=
 ⟨iT e h.x0,iT e h.x1,iT e h.x2,iT e h.x3,iT e h.x4,iT e h.x5⟩
theorem Six.lt {w:World}{g o:Nat}{c0 c1 c2 c3 c4 c5:Value}(h:Six w g o c0 c1 c2 c3 c4 c5):g<w.heap.size:=World.block_lt_of_cell? w _ h.x0
theorem jC.keep {D D':Nat→Prop}{w w':World}(hk:∀g,g<w.heap.size→D g→w'.heap[g]?=w.heap[g]?∧D' g){a:Option Addr}{l:List (ByteArray × ByteArray)}(h:jC D w a l):jC D' w' a l:=by
 intro j hj;obtain⟨g,off,ha,hd,h1,h2⟩:=h j hj;obtain⟨e,hd'⟩:=hk g (World.block_lt_of_cell? w _ h1) hd;exact⟨g,off,ha,hd',iT e h1,iT e h2⟩
theorem yB {D D':Nat→Prop}{w w':World}(hk:∀g,g<w.heap.size→D g→w'.heap[g]?=w.heap[g]?∧D' g):∀m:Nat,(∀(n:Nd) (v:Value),n.sz≤m→aY D w n v→aY D' w' n v)∧(∀(a:Option Addr) (ks:List Nd) (i:Nat),aC ks≤m→aD D w a i ks→aD D' w' a i ks):=by
 intro m;induction m with
 | zero =>
  refine⟨fun n v hn=>absurd (eD n) (by omega),fun a ks=>?_⟩;cases ks with
  | nil=>intro i _ h;unfold aD;trivial
  | cons k ks=>intro i hs;unfold aC at hs;exact absurd (eD k) (by omega)
 | succ m ih =>
  have hN:∀(n:Nd) (v:Value),n.sz≤m+1→aY D w n v→aY D' w' n v:=by
   intro n v hs h;cases n with
   | mk kd sp nm at' tx ks =>
    unfold Nd.sz at hs;unfold aY at h ⊢;obtain⟨aa,ca,a,c,e,hl,ha,hkk⟩:=h;exact⟨aa,ca,a,c,e,hl,ha.keep hk,ih.2 a ks 0 (by omega) hkk⟩
  refine⟨hN,fun a ks=>?_⟩;induction ks with
  | nil=>intro i _ h;unfold aD;trivial
  | cons k ks ihk =>
   intro i hs h;unfold aC at hs;unfold aD at h ⊢;obtain⟨⟨g,off,c0,c1,c2,c3,c4,c5,e,hd,h6,hn⟩,hr⟩:=h;obtain⟨eg,hd'⟩:=hk g h6.lt hd;exact⟨⟨g,off,c0,c1,c2,c3,c4,c5,e,hd',h6.same eg,hN k _ (by omega) hn⟩,ihk (i+1) (by omega) hr⟩
theorem aY.keep {D D':Nat→Prop}{w w':World}{n:Nd}{v:Value}(h:aY D w n v)(hk:∀g,g<w.heap.size→D g→w'.heap[g]?=w.heap[g]?∧D' g):aY D' w' n v:=(yB hk n.sz).1 n v tV h
theorem aD.keep {D D':Nat→Prop}{w w':World}{a:Option Addr}{ks:List Nd}{i:Nat}(h:aD D w a i ks)(hk:∀g,g<w.heap.size→D g→w'.heap[g]?=w.heap[g]?∧D' g):aD D' w' a i ks:=(yB hk (aC ks)).2 a ks i tV h
theorem jC.attrs {D:Nat→Prop}{w:World}{a:Option Addr}{l:List (ByteArray × ByteArray)}(h:jC D w a l)(c:Nat):dZ w (.slice a l.length c) l :=
 ⟨a,c,rfl,fun j hj=>by obtain⟨g,off,ha,_,h1,h2⟩:=h j hj;exact⟨g,off,ha,h1,h2⟩⟩
theorem vP {D:Nat→Prop}{w:World}:∀m:Nat,(∀(n:Nd) (v:Value),n.sz≤m→aY D w n v→aG w n v)∧(∀(a:Option Addr) (ks:List Nd) (i:Nat),aC ks≤m→aD D w a i ks→aI w a i ks):=by
 intro m;induction m with
 | zero =>
  refine⟨fun n v hn=>absurd (eD n) (by omega),fun a ks=>?_⟩;cases ks with
  | nil=>intro i _ h;unfold aI;trivial
  | cons k ks=>intro i hs;unfold aC at hs;exact absurd (eD k) (by omega)
 | succ m ih =>
  have hN:∀(n:Nd) (v:Value),n.sz≤m+1→aY D w n v→aG w n v:=by
   intro n v hs h;cases n with
   | mk kd sp nm at' tx ks =>
    unfold Nd.sz at hs;unfold aY at h;unfold aG;obtain⟨aa,ca,a,c,e,hl,ha,hkk⟩:=h;exact⟨_,a,c,e,hl,ha.attrs ca,ih.2 a ks 0 (by omega) hkk⟩
  refine⟨hN,fun a ks=>?_⟩;induction ks with
  | nil=>intro i _ h;unfold aI;trivial
  | cons k ks ihk =>
   intro i hs h;unfold aC at hs;unfold aD at h;unfold aI;obtain⟨⟨g,off,c0,c1,c2,c3,c4,c5,e,_,h6,hn⟩,hr⟩:=h;exact⟨⟨g,off,c0,c1,c2,c3,c4,c5,e,h6,hN k _ (by omega) hn⟩,ihk (i+1) (by omega) hr⟩
theorem aY.node {D:Nat→Prop}{w:World}{n:Nd}{v:Value}(h:aY D w n v):aG w n v:=(vP n.sz).1 n v tV h
theorem aD.kids {D:Nat→Prop}{w:World}{a:Option Addr}{ks:List Nd}{i:Nat}(h:aD D w a i ks):aI w a i ks:=(vP (aC ks)).2 a ks i tV h
theorem aBZ {w:World}:∀m:Nat,(∀(n:Nd) (v:Value),n.sz≤m→aG w n v→aY (fun g=>g<w.heap.size) w n v)∧(∀(a:Option Addr) (ks:List Nd) (i:Nat),aC ks≤m→aI w a i ks→aD (fun g=>g<w.heap.size) w a i ks):=by
 intro m;induction m with
 | zero =>
  refine⟨fun n v hn=>absurd (eD n) (by omega),fun a ks=>?_⟩;cases ks with
  | nil=>intro i _ h;unfold aD;trivial
  | cons k ks=>intro i hs;unfold aC at hs;exact absurd (eD k) (by omega)
 | succ m ih =>
  have hN:∀(n:Nd) (v:Value),n.sz≤m+1→aG w n v→aY (fun g=>g<w.heap.size) w n v:=by
   intro n v hs h;cases n with
   | mk kd sp nm at' tx ks =>
    unfold Nd.sz at hs;unfold aG at h;unfold aY;obtain⟨av,a,c,e,hl,⟨aa,ca,rfl,ha⟩,hkk⟩:=h;refine⟨aa,ca,a,c,e,hl,fun j hj=>?_,ih.2 a ks 0 (by omega) hkk⟩;obtain⟨g,off,h1,h2,h3⟩:=ha j hj;exact⟨g,off,h1,World.block_lt_of_cell? w _ h2,h2,h3⟩
  refine⟨hN,fun a ks=>?_⟩;induction ks with
  | nil=>intro i _ h;unfold aD;trivial
  | cons k ks ihk =>
   intro i hs h;unfold aC at hs;unfold aI at h;unfold aD;obtain⟨⟨g,off,c0,c1,c2,c3,c4,c5,e,h6,hn⟩,hr⟩:=h;exact⟨⟨g,off,c0,c1,c2,c3,c4,c5,e,h6.lt,h6,hN k _ (by omega) hn⟩,ihk (i+1) (by omega) hr⟩
theorem aG.deep {w:World}{n:Nd}{v:Value}(h:aG w n v):aY (fun g=>g<w.heap.size) w n v:=(aBZ n.sz).1 n v tV h
theorem aI.deep {w:World}{a:Option Addr}{ks:List Nd}{i:Nat}(h:aI w a i ks):aD (fun g=>g<w.heap.size) w a i ks:=(aBZ (aC ks)).2 a ks i tV h
def bU (D:Nat→Prop)(w:World)(xs:List Value)(ks:List Nd):Prop :=
 xs.length=ks.length*6∧∀j (h:j<ks.length),∃c0 c1 c2 c3 c4 c5,xs[j*6]?=some c0∧xs[j*6+1]?=some c1∧xs[j*6+2]?=some c2∧xs[j*6+3]?=some c3∧xs[j*6+4]?=some c4∧xs[j*6+5]?=some c5∧aY D w ks[j] (.agg #[c0,c1,c2,c3,c4,c5])
theorem bU.nil (D:Nat→Prop)(w:World):bU D w [] []:=⟨rfl,fun j h=>absurd h (by simp)⟩
theorem bU.keep {D D':Nat→Prop}{w w':World}{xs:List Value}{ks:List Nd}(h:bU D w xs ks)(hk:∀g,g<w.heap.size→D g→w'.heap[g]?=w.heap[g]?∧D' g):bU D' w' xs ks:=by
 refine⟨h.1,fun j hj=>?_⟩;obtain⟨c0,c1,c2,c3,c4,c5,h0,h1,h2,h3,h4,h5,hn⟩:=h.2 j hj;exact⟨c0,c1,c2,c3,c4,c5,h0,h1,h2,h3,h4,h5,hn.keep hk⟩
theorem bU.snoc {D:Nat→Prop}{w:World}{xs:List Value}{ks:List Nd}{x:Nd}{c0 c1 c2 c3 c4 c5:Value}(h:bU D w xs ks)(hx:aY D w x (.agg #[c0,c1,c2,c3,c4,c5])):bU D w (xs++[c0,c1,c2,c3,c4,c5]) (ks++[x]):=by
 obtain⟨hl,h⟩:=h;have at6:∀t,(xs++[c0,c1,c2,c3,c4,c5])[ks.length*6+t]?=[c0,c1,c2,c3,c4,c5][t]?:=fun t=>by rw[List.getElem?_append_right (by omega),show ks.length*6+t-xs.length=t by omega]
 refine⟨by simp;omega,fun j hj=>?_⟩;have up:∀i v,xs[i]?=some v→(xs++[c0,c1,c2,c3,c4,c5])[i]?=some v:=fun i v hi=>by rw[List.getElem?_append_left (List.getElem?_eq_some_iff.1 hi).1];exact hi
 by_cases hjm:j<ks.length
 ·obtain⟨d0,d1,d2,d3,d4,d5,k0,k1,k2,k3,k4,k5,kn⟩:=h j hjm;refine⟨d0,d1,d2,d3,d4,d5,up _ _ k0,up _ _ k1,up _ _ k2,up _ _ k3,up _ _ k4,up _ _ k5,?_⟩;rw[List.getElem_append_left hjm];exact kn
 ·have hje:j=ks.length:=by simp at hj;omega
  subst hje;refine⟨c0,c1,c2,c3,c4,c5,at6 0,at6 1,at6 2,at6 3,at6 4,at6 5,?_⟩;rw[List.getElem_append_right tV];simpa using hx
theorem aY.parts {D:Nat→Prop}{w:World}{n:Nd}{aa:Option Addr}{al ca:Nat}{c0 c1 c2 c4:Value}{a:Option Addr}{kl c:Nat}(h:aY D w n (.agg #[c0,c1,c2,.slice aa al ca,c4,.slice a kl c])):jC D w aa n.attrs∧aD D w a 0 n.kids:=by
 cases n with
 | mk kd sp nm at' tx ks =>
  unfold aY at h;obtain⟨aa',ca',a',c',e,_,hA,hK⟩:=h;simp only[Value.agg.injEq,Array.mk.injEq,List.cons.injEq,and_true,Value.slice.injEq]at e;obtain⟨_,_,_,⟨rfl,_,_⟩,_,⟨rfl,_,_⟩⟩:=e;exact⟨hA,hK⟩
theorem aD.get {D:Nat→Prop}{w:World}{a:Option Addr}:∀(ks:List Nd) (i j:Nat) (h:j<ks.length),aD D w a i ks→∃g off c0 c1 c2 c3 c4 c5,a=some ⟨g,off,none⟩∧D g∧Six w g (off+(i+j)*6) c0 c1 c2 c3 c4 c5∧aY D w ks[j] (.agg #[c0,c1,c2,c3,c4,c5]):=by
 intro ks;induction ks with
 | nil=>intro i j h;simp at h
 | cons k ks ih =>
  intro i j h hk;unfold aD at hk;cases j with
  | zero=>exact hk.1
  | succ j =>
   have:=ih (i+1) j (by simpa using h) hk.2;rw[show i+1+j=i+(j+1) by omega]at this
   exact this
theorem vC {D:Nat→Prop}{w:World}{a:Option Addr}{xs:List Value}{ks:List Nd}(h:iJ w xs ks)(hc:∀j u,xs[j]?=some u→∃g off,a=some ⟨g,off,none⟩∧w.cell? ⟨g,off+j,none⟩=some u)(hk:aD D w a 0 ks):bU D w xs ks:=by
 refine⟨h.1,fun j hj=>?_⟩;obtain⟨c0,c1,c2,c3,c4,c5,h0,h1,h2,h3,h4,h5,_⟩:=h.2 j hj;obtain⟨g,off,d0,d1,d2,d3,d4,d5,ha,_,h6,hn⟩:=hk.get ks 0 j hj;rw[Nat.zero_add]at h6
 have same:∀i u v,xs[i]?=some u→w.cell? ⟨g,off+i,none⟩=some v→v=u:=fun i u v hu hv=>by
  obtain⟨g',off',ha',hcc⟩:=hc i u hu;rw[ha]at ha'
  cases ha';rw[hv]at hcc
  exact Option.some.inj hcc
 rw[same _ _ _ h0 h6.x0,same _ _ _ h1 h6.x1,same _ _ _ h2 h6.x2,same _ _ _ h3 h6.x3,same _ _ _ h4 h6.x4,same _ _ _ h5 h6.x5]at hn
 exact⟨c0,c1,c2,c3,c4,c5,h0,h1,h2,h3,h4,h5,hn⟩
theorem nG {D D':Nat→Prop}{w:World}{a:Option Addr}{n c:Nat}{xs:List Value}{ks:List Nd}(hv:iW w (.slice a n c) n xs)(h:bU D w xs ks)(hD:∀g,D g→D' g)(ha:∀y,a=some y→D' y.block):aD D' w a 0 ks:=by
 obtain⟨a',c',e,hc⟩:=hv;simp only[Value.slice.injEq]at e;obtain⟨rfl,_⟩:=e;have key:∀(m i:Nat),i+m=ks.length→aD D' w a i (ks.drop i):=by
  intro m;induction m with
  | zero=>intro i hi;rw[List.drop_eq_nil_of_le (by omega)];unfold aD;trivial
  | succ m ih =>
   intro i hi;have hlt:i<ks.length:=by omega
   rw[List.drop_eq_getElem_cons hlt];unfold aD;refine⟨?_,ih (i+1) (by omega)⟩;obtain⟨c0,c1,c2,c3,c4,c5,h0,h1,h2,h3,h4,h5,hn⟩:=h.2 i hlt;obtain⟨g,off,hga,k0⟩:=hc _ _ h0;have same:∀j u,xs[j]?=some u→w.cell? ⟨g,off+j,none⟩=some u:=by
    intro j u hj;obtain⟨g',off',ha',k⟩:=hc _ _ hj;rw[hga]at ha'
    cases ha';exact k
   exact⟨g,off,c0,c1,c2,c3,c4,c5,hga,ha _ hga,⟨k0,same _ _ h1,same _ _ h2,same _ _ h3,same _ _ h4,same _ _ h5⟩,hn.keep (fun g _ hg=>⟨rfl,hD g hg⟩)⟩
 exact key ks.length 0 (by omega)
open Go.RowKit
theorem Tryz.info45:(Tryz.prog.info? 45).map (fun i=>(i.zero,i.size,i.bytes))=some (some (.agg #[.int .i64 0,.int .i64 0,.string ⟨#[]⟩,.slice none 0 0,.string ⟨#[]⟩,.slice none 0 0]),6,96):=by kernel_rfl
open Go.RowKit
theorem bU.append {D:Nat→Prop}{w:World}{xs ys:List Value}{ks js:List Nd}(h:bU D w xs ks)(h':bU D w ys js):bU D w (xs++ys) (ks++js):=by
 obtain⟨hl,h⟩:=h;obtain⟨hl',h'⟩:=h';refine⟨by rw[List.length_append,List.length_append,hl,hl'];omega,fun j hj=>?_⟩;by_cases hjm:j<ks.length
 ·have up:∀i v,xs[i]?=some v→(xs++ys)[i]?=some v:=fun i v hi=>by rw[List.getElem?_append_left (List.getElem?_eq_some_iff.1 hi).1];exact hi
  obtain⟨d0,d1,d2,d3,d4,d5,k0,k1,k2,k3,k4,k5,kn⟩:=h j hjm;refine⟨d0,d1,d2,d3,d4,d5,up _ _ k0,up _ _ k1,up _ _ k2,up _ _ k3,up _ _ k4,up _ _ k5,?_⟩;rw[List.getElem_append_left hjm];exact kn
 ·obtain⟨i,rfl⟩:∃i,j=ks.length+i:=⟨j-ks.length,by omega⟩
  have hi:i<js.length:=by simp at hj;omega
  have up:∀t v,ys[i*6+t]?=some v→(xs++ys)[(ks.length+i)*6+t]?=some v:=fun t v ht=>by
   rw[List.getElem?_append_right (by omega),show(ks.length+i)*6+t-xs.length=i*6+t by omega];exact ht
  obtain⟨d0,d1,d2,d3,d4,d5,k0,k1,k2,k3,k4,k5,kn⟩:=h' i hi;refine⟨d0,d1,d2,d3,d4,d5,up 0 _ k0,up 1 _ k1,up 2 _ k2,up 3 _ k3,up 4 _ k4,up 5 _ k5,?_⟩;rw[List.getElem_append_right (by omega)];simpa using kn
def bN (v:Value)(g:Nat):Prop:=v.ownBlock≠some g
def Src (v:Value)(W:World)(a:Option Addr)(ks:List Nd):Prop:=aD (bN v) W a 0 ks
def PSt (W0 W:World)(v:Value)(n:Nat)(ks:List Nd):Prop:=∃xs,bC W0.heap.size 45 6 v n xs W0 W∧bU (bN v) W xs ks
theorem Src.below {v:Value}{W W':World}{a:Option Addr}{ks:List Nd}(h:Src v W a ks)(hb:Below W.heap.size W W'):Src v W' a ks :=
 aD.keep h (fun g hg hd=>⟨hb.block g hg,hd⟩)
theorem Src.grown {v v':Value}{W W':World}{a:Option Addr}{ks:List Nd}(h:Src v W a ks)(hG:jS W W' v v'):Src v' W' a ks :=
 aD.keep h (fun g hg hd=>⟨hG.gr.block g hg (fun e=>hd e.symm),fun e=>by
  rcases hG.loc with h1|⟨k,hk,hle⟩
  ·exact hd (by rw[←h1];exact e)
  ·rw[hk]at e
   have:k=g:=Option.some.inj e;omega⟩)
theorem Src.kids {v:Value}{W:World}{a:Option Addr}{ks:List Nd}(h:Src v W a ks):aI W a 0 ks:=aD.kids h
theorem Src.old {W0 W:World}{v:Value}{n:Nat}{ks js:List Nd}{a:Option Addr}(h:PSt W0 W v n ks)(hk:aI W0 a 0 js):Src v W a js:=by
 obtain⟨xs,hO,_⟩:=h;exact aD.keep hk.deep (fun k hk hd=>⟨hO.bel.block k hk,fun e=>by
  have:=hO.lo k e;omega⟩)
theorem PSt.start {W0 W:World}(hb:Below W0.heap.size W0 W):PSt W0 (W.alloc (.cells #[] 45)) (.slice (some ⟨W.heap.size,0,none⟩) 0 0) 0 [] :=
 ⟨[],bC.empty 45 6 hb hb.size,bU.nil _ _⟩
theorem PSt.nil {W0 W:World}(hb:Below W0.heap.size W0 W):PSt W0 W (.slice none 0 0) 0 [] :=
 ⟨[],bC.of 45 6 hb hb.size,bU.nil _ _⟩
theorem PSt.bel {W0 W:World}{v:Value}{n:Nat}{ks:List Nd}(h:PSt W0 W v n ks):Below W0.heap.size W0 W:=by
 obtain⟨xs,hO,_⟩:=h;exact hO.bel
theorem PSt.len {W0 W:World}{v:Value}{n:Nat}{ks:List Nd}(h:PSt W0 W v n ks):n=ks.length:=by
 obtain⟨xs,hO,hc⟩:=h;have h1:=hO.own.1;have h2:=hc.1;omega
theorem PSt.keep {W0 W W':World}{v:Value}{n:Nat}{ks:List Nd}(h:PSt W0 W v n ks)(hb:Below W.heap.size W W'):PSt W0 W' v n ks:=by
 obtain⟨xs,hO,hc⟩:=h;exact⟨xs,hO.keep hb,hc.keep (fun g hg hd=>⟨hb.block g hg,hd⟩)⟩
theorem PSt.slice {W0 W:World}{v:Value}{n:Nat}{ks:List Nd}(h:PSt W0 W v n ks):∃a c,v=.slice a n c∧n≤c∧aD (fun g=>W0.heap.size≤g∨bN v g) W a 0 ks∧∀y,a=some y→W0.heap.size≤y.block∧y.block<W.heap.size:=by
 obtain⟨xs,hO,hc⟩:=h;obtain⟨a,c,rfl,hnc,hab⟩:=hO.slice;exact⟨a,c,rfl,hnc,nG hO.vec hc (fun g hg=>.inr hg) (fun y hy=>.inl (hab y hy).1),hab⟩
theorem PSt.kids {W0 W:World}{a:Option Addr}{n c:Nat}{ks:List Nd}(h:PSt W0 W (.slice a n c) n ks):aI W a 0 ks:=by
 obtain⟨a',c',e,_,hk,_⟩:=h.slice;simp only[Value.slice.injEq]at e;rw[e.1];exact hk.kids
section
variable {w:World} {ops:Array Oper} {rest:List Oper} {o:Oper} {a:Act} {Q:Exit→Act→World→Prop}
theorem wM (hgd:o.guard=none)(s x:Operand)
  (ho:o.op=.call { callee:=.builtin .append,args:=#[s,x],argTypes:=#[43,43] })
  {W0:World} (v:Value) (n:Nat) (ks:List Nd) (hs:a.eval s=v) (hP:Hid (PSt W0 w v n ks))
  (xo:Option Addr) (m c:Nat) (js:List Nd) (hx:a.eval x=.slice xo m c) (hm:Hid (js.length=m)) (hS:Hid (Src v w xo js)) (hb:n+m≤1000000000)
  (h:∀v' w',Hid (PSt W0 w' v' (n+m) (ks++js))→Hid (jS w w' v v')→wpList Tryz.prog ops Q rest (a.put o.dst v') w'):wpList Tryz.prog ops Q (o :: rest) a w:=by
 obtain⟨i45,hi45,hz45,hs45,hb45⟩:=info_parts Tryz.info45;obtain⟨xs,hO,hc⟩:=hP.out;obtain⟨ys,hys,hyc⟩:=oW hS.out.kids;have hcd:=vC hys hyc hS.out;have hml:=hm.out;refine lJ hgd s x 43 ho 45 i45 _ 6 96 Tryz.underlying43 hi45 hz45 hs45 hb45 rfl (by decide) v n xs hs hO xo m c ys hx (by rw[hys.1,hml]) hyc hys.one (by omega) (by omega) (fun v' w' hO' hG=>?_);refine h v' w' ⟨xs++ys,hO'.out,?_⟩ hG;refine(hc.append hcd).keep (fun g hg hd=>⟨hG.out.gr.block g hg (fun e=>hd e.symm),fun e=>?_⟩);rcases hG.out.loc with h1|⟨k,hk,hle⟩
 ·exact hd (by rw[←h1];exact e)
 ·rw[hk]at e
  have:k=g:=Option.some.inj e;omega
end
