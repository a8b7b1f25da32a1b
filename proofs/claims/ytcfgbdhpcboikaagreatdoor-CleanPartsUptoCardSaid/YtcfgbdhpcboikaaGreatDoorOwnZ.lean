/-
  append of elements that may be none at all, and the empty slice that a literal makes.
  The cells of kids are one cell each; a box's cells.
  A list of nodes that the call lays down by append: what it holds, and what is laid behind it.
-/
import Derived.Test.YtcfgbdhpcboikaaGreatDoorAttrL
import Derived.Test.YtcfgbdhpcboikaaGreatDoorDeepN
import Derived.Test.YtcfgbdhpcboikaaGreatDoorBase
namespace Go.Proofs.YtcfgbdhpcboikaaGreatDoor
open Go.RowKit
theorem OwnV.empty {B:Nat}{W0 w:World}(e:TypeId)(size:Nat)(hb:Below B W0 w)(hB:B≤w.heap.size):OwnV B e size (.slice (some ⟨w.heap.size,0,none⟩) 0 0) 0 [] W0 (w.alloc (.cells #[] e)):=by
 refine⟨⟨by simp,.inr ⟨w.heap.size,0,#[],rfl,hB,heap_alloc_new w _,Nat.le_refl _,Nat.zero_le _,by simp,by simp⟩⟩,hb.alloc hB _,by simp;omega⟩
theorem Grown.refl (w:World)(v:Value):Grown w w v v:=⟨⟨rfl,rfl,rfl,Nat.le_refl _,fun _ _ _=>rfl⟩,.inl rfl⟩
section
variable {P:Program} {w:World} {ops:Array Oper} {rest:List Oper} {o:Oper} {a:Act} {Q:Exit→Act→World→Prop}
theorem wpList_append_all (hgd:o.guard=none)(s x:Operand)(t:TypeId)
  (ho:o.op=.call { callee:=.builtin .append,args:=#[s,x],argTypes:=#[t,t] })
  (e:TypeId) (i:TypeInfo) (z:Value) (size bytes:Nat) (ht:P.underlying t=some (.slice e)) (hi:P.info? e=some i) (hz:i.zero=some z)
  (hsize:i.size=size) (hby:i.bytes=bytes) (hzs:z.cells.size=size) (hsz:0<size)
  {B:Nat} {W0:World} (v:Value) (n:Nat) (xs:List Value) (hs:a.eval s=v) (hO:OwnV B e size v n xs W0 w)
  (xo:Option Addr) (m c:Nat) (news:List Value) (hx:a.eval x=.slice xo m c) (hl:news.length=m*size) (hnews:∀ j u,news[j]?=some u→∃ g off,xo=some ⟨g,off,none⟩∧w.cell? ⟨g,off+j,none⟩=some u) (h1:news.all (fun u=>u.oneCell')=true)
  (hb:(n+m)*bytes≤140737488355328) (hn:n+m≤140737488355328)
  (h:∀ v' w',Hid (OwnV B e size v' (n+m) (xs++news) W0 w')→Hid (Grown w w' v v')→wpList P ops Q rest (a.put o.dst v') w'):wpList P ops Q (o :: rest) a w:=by
 cases xo with
 | some ad =>
  refine wpList_append_vec hgd s x t ho e i z size bytes ht hi hz hsize hby hzs hsz v n xs hs hO ad m c news hx hl (fun j u hj=>?_) h1 hb hn h
  obtain⟨g,off,e1,e2⟩:=hnews j u hj
  cases e1
  have hadd:(⟨g,off,none⟩:Addr).add j=⟨g,off+j,none⟩:=by unfold Addr.add;split<;>simp_all
  rw[hadd]
  exact e2
 | none =>
  have hnil:news=[]:=by
   cases news with
   | nil=>rfl
   | cons u r =>
    obtain⟨g,off,e1,_⟩:=hnews 0 u rfl
    cases e1
  subst hnil
  have hm:m=0:=by
   rcases Nat.eq_zero_or_pos m with h0|h0
   ·exact h0
   ·have:=Nat.mul_pos h0 hsz
    simp at hl
    omega
  subst hm
  have hr:(Builtin.append_ #[t,t] o.type #[v,.slice none 0 c]).run P w=.ok v w:=by
   rcases hO.own.2 with⟨rfl,rfl⟩|⟨g,cap,cur,rfl,hbg,hg,hnc,_⟩
   ·simp[Builtin.append_,run_underlying ht,sizeOf,typeInfo,hi,Builtin.lenOf,Builtin.firstCells]
   ·simp[Builtin.append_,run_underlying ht,sizeOf,typeInfo,hi,Builtin.lenOf,Builtin.firstCells,hnc,storeCells]
  refine wpList_plain hgd fun K hK=>?_
  unfold Oper.wp execOp
  simp only[ho,resolve,invoke,builtin,Sem.run_bind,Sem.run_pure,Result.andThen_ok,List.map_toArray,List.map_cons,List.map_nil,hs,hx,hr]
  exact hK _ _ (h v w (by rw[List.append_nil];exact Lib.hid hO) (Lib.hid (Grown.refl w v)))
end
open Go.RowKit
theorem CellsOf.one {w:World}{xs:List Value}{ks:List Nd}(h:CellsOf w xs ks):xs.all (fun u=>u.oneCell')=true:=by
 rw[List.all_eq_true]
 intro u hu
 obtain⟨i,hi,rfl⟩:=List.mem_iff_getElem.1 hu
 have hl:=h.1
 have hj:i / 6<ks.length:=by omega
 obtain⟨c0,c1,c2,c3,c4,c5,h0,h1,h2,h3,h4,h5,hn⟩:=h.2 (i / 6) hj
 obtain⟨a1,b1,a2,b2,rfl,rfl,rfl,rfl,rfl,rfl⟩:=hn.cells
 have at6:∀ t,i=i / 6*6+t→xs[i / 6*6+t]?=some xs[i]:=fun t e=>by rw[← e];exact List.getElem?_eq_getElem hi
 have ht:i%6=0∨i%6=1∨i%6=2∨i%6=3∨i%6=4∨i%6=5:=by omega
 rcases ht with ht|ht|ht|ht|ht|ht
 ·have e:=at6 0 (by omega)
  rw[Nat.add_zero,h0] at e
  rw[← Option.some.inj e];rfl
 ·have e:=at6 1 (by omega)
  rw[h1] at e
  rw[← Option.some.inj e];rfl
 ·have e:=at6 2 (by omega)
  rw[h2] at e
  rw[← Option.some.inj e];rfl
 ·have e:=at6 3 (by omega)
  rw[h3] at e
  rw[← Option.some.inj e];rfl
 ·have e:=at6 4 (by omega)
  rw[h4] at e
  rw[← Option.some.inj e];rfl
 ·have e:=at6 5 (by omega)
  rw[h5] at e
  rw[← Option.some.inj e];rfl
open Go.RowKit
theorem CellsD.append {D:Nat→Prop}{w:World}{xs ys:List Value}{ks js:List Nd}(h:CellsD D w xs ks)(h':CellsD D w ys js):CellsD D w (xs++ys) (ks++js):=by
 obtain⟨hl,h⟩:=h
 obtain⟨hl',h'⟩:=h'
 refine⟨by rw[List.length_append,List.length_append,hl,hl'];omega,fun j hj=>?_⟩
 by_cases hjm:j<ks.length
 ·have up:∀ i v,xs[i]?=some v→(xs++ys)[i]?=some v:=fun i v hi=>by rw[List.getElem?_append_left (List.getElem?_eq_some_iff.1 hi).1];exact hi
  obtain⟨d0,d1,d2,d3,d4,d5,k0,k1,k2,k3,k4,k5,kn⟩:=h j hjm
  refine⟨d0,d1,d2,d3,d4,d5,up _ _ k0,up _ _ k1,up _ _ k2,up _ _ k3,up _ _ k4,up _ _ k5,?_⟩
  rw[List.getElem_append_left hjm]
  exact kn
 ·obtain⟨i,rfl⟩:∃ i,j=ks.length+i:=⟨j-ks.length,by omega⟩
  have hi:i<js.length:=by simp at hj;omega
  have up:∀ t v,ys[i*6+t]?=some v→(xs++ys)[(ks.length+i)*6+t]?=some v:=fun t v ht=>by
   rw[List.getElem?_append_right (by omega),show(ks.length+i)*6+t-xs.length=i*6+t by omega]
   exact ht
  obtain⟨d0,d1,d2,d3,d4,d5,k0,k1,k2,k3,k4,k5,kn⟩:=h' i hi
  refine⟨d0,d1,d2,d3,d4,d5,up 0 _ k0,up 1 _ k1,up 2 _ k2,up 3 _ k3,up 4 _ k4,up 5 _ k5,?_⟩
  rw[List.getElem_append_right (by omega)]
  simpa using kn
def OwnNot (v:Value)(g:Nat):Prop:=v.ownBlock≠some g
def Src (v:Value)(W:World)(a:Option Addr)(ks:List Nd):Prop:=KidsD (OwnNot v) W a 0 ks
def PSt (W0 W:World)(v:Value)(n:Nat)(ks:List Nd):Prop:=∃ xs,OwnV W0.heap.size 45 6 v n xs W0 W∧CellsD (OwnNot v) W xs ks
theorem Src.below {v:Value}{W W':World}{a:Option Addr}{ks:List Nd}(h:Src v W a ks)(hb:Below W.heap.size W W'):Src v W' a ks :=
 KidsD.keep h (fun g hg hd=>⟨hb.block g hg,hd⟩)
theorem Src.grown {v v':Value}{W W':World}{a:Option Addr}{ks:List Nd}(h:Src v W a ks)(hG:Grown W W' v v'):Src v' W' a ks :=
 KidsD.keep h (fun g hg hd=>⟨hG.gr.block g hg (fun e=>hd e.symm),fun e=>by
  rcases hG.loc with h1|⟨k,hk,hle⟩
  ·exact hd (by rw[← h1];exact e)
  ·rw[hk] at e
   have:k=g:=Option.some.inj e
   omega⟩)
theorem Src.kids {v:Value}{W:World}{a:Option Addr}{ks:List Nd}(h:Src v W a ks):KidsV W a 0 ks:=KidsD.kids h
theorem Src.made {W W':World}{a:Option Addr}{ks:List Nd}(h:KidsV W a 0 ks)(hb:Below W.heap.size W W')(g:Nat)(hg:W.heap.size≤g)(n c:Nat):Src (.slice (some ⟨g,0,none⟩) n c) W' a ks :=
 KidsD.keep h.deep (fun k hk hd=>⟨hb.block k hk,fun e=>by
  have:g=k:=Option.some.inj e
  omega⟩)
theorem Src.old {W0 W:World}{v:Value}{n:Nat}{ks js:List Nd}{a:Option Addr}(h:PSt W0 W v n ks)(hk:KidsV W0 a 0 js):Src v W a js:=by
 obtain⟨xs,hO,_⟩:=h
 exact KidsD.keep hk.deep (fun k hk hd=>⟨hO.bel.block k hk,fun e=>by
  have:=hO.lo k e
  omega⟩)
theorem Src.late {W0 W W':World}{v:Value}{n:Nat}{ks js:List Nd}{a:Option Addr}(h:PSt W0 W v n ks)(hk:KidsD (fun g=>W.heap.size≤g) W' a 0 js):Src v W' a js:=by
 obtain⟨xs,hO,_⟩:=h
 exact KidsD.keep hk (fun k _ hd=>⟨rfl,fun e=>by
  have:=hO.hi k e
  omega⟩)
theorem PSt.start {W0 W:World}(hb:Below W0.heap.size W0 W):PSt W0 (W.alloc (.cells #[] 45)) (.slice (some ⟨W.heap.size,0,none⟩) 0 0) 0 [] :=
 ⟨[],OwnV.empty 45 6 hb hb.size,CellsD.nil _ _⟩
theorem PSt.nil {W0 W:World}(hb:Below W0.heap.size W0 W):PSt W0 W (.slice none 0 0) 0 [] :=
 ⟨[],OwnV.of 45 6 hb hb.size,CellsD.nil _ _⟩
theorem PSt.bel {W0 W:World}{v:Value}{n:Nat}{ks:List Nd}(h:PSt W0 W v n ks):Below W0.heap.size W0 W:=by
 obtain⟨xs,hO,_⟩:=h
 exact hO.bel
theorem PSt.len {W0 W:World}{v:Value}{n:Nat}{ks:List Nd}(h:PSt W0 W v n ks):n=ks.length:=by
 obtain⟨xs,hO,hc⟩:=h
 have h1:=hO.own.1
 have h2:=hc.1
 omega
theorem PSt.keep {W0 W W':World}{v:Value}{n:Nat}{ks:List Nd}(h:PSt W0 W v n ks)(hb:Below W.heap.size W W'):PSt W0 W' v n ks:=by
 obtain⟨xs,hO,hc⟩:=h
 exact⟨xs,hO.keep hb,hc.keep (fun g hg hd=>⟨hb.block g hg,hd⟩)⟩
theorem PSt.slice {W0 W:World}{v:Value}{n:Nat}{ks:List Nd}(h:PSt W0 W v n ks):∃ a c,v=.slice a n c∧n≤c∧KidsD (fun g=>W0.heap.size≤g∨OwnNot v g) W a 0 ks∧∀ y,a=some y→W0.heap.size≤y.block∧y.block<W.heap.size:=by
 obtain⟨xs,hO,hc⟩:=h
 obtain⟨a,c,rfl,hnc,hab⟩:=hO.slice
 exact⟨a,c,rfl,hnc,kidsD_of_cells hO.vec hc (fun g hg=>.inr hg) (fun y hy=>.inl (hab y hy).1),hab⟩
theorem PSt.kids {W0 W:World}{a:Option Addr}{n c:Nat}{ks:List Nd}(h:PSt W0 W (.slice a n c) n ks):KidsV W a 0 ks:=by
 obtain⟨a',c',e,_,hk,_⟩:=h.slice
 simp only[Value.slice.injEq] at e
 rw[e.1]
 exact hk.kids
section
variable {w:World} {ops:Array Oper} {rest:List Oper} {o:Oper} {a:Act} {Q:Exit→Act→World→Prop}
theorem wpList_append_kids (hgd:o.guard=none)(s x:Operand)
  (ho:o.op=.call { callee:=.builtin .append,args:=#[s,x],argTypes:=#[43,43] })
  {W0:World} (v:Value) (n:Nat) (ks:List Nd) (hs:a.eval s=v) (hP:Hid (PSt W0 w v n ks))
  (xo:Option Addr) (m c:Nat) (js:List Nd) (hx:a.eval x=.slice xo m c) (hm:Hid (js.length=m)) (hS:Hid (Src v w xo js)) (hb:n+m≤1000000000)
  (h:∀ v' w',Hid (PSt W0 w' v' (n+m) (ks++js))→Hid (Grown w w' v v')→wpList Tryz.prog ops Q rest (a.put o.dst v') w'):wpList Tryz.prog ops Q (o :: rest) a w:=by
 obtain⟨i45,hi45,hz45,hs45,hb45⟩:=info_parts Tryz.info45
 obtain⟨xs,hO,hc⟩:=hP.out
 obtain⟨ys,hys,hyc⟩:=cells_of_kids hS.out.kids
 have hcd:=cellsD_of hys hyc hS.out
 have hml:=hm.out
 refine wpList_append_all hgd s x 43 ho 45 i45 _ 6 96 Tryz.underlying43 hi45 hz45 hs45 hb45 rfl (by decide) v n xs hs hO xo m c ys hx (by rw[hys.1,hml]) hyc hys.one (by omega) (by omega) (fun v' w' hO' hG=>?_)
 refine h v' w' ⟨xs++ys,hO'.out,?_⟩ hG
 refine(hc.append hcd).keep (fun g hg hd=>⟨hG.out.gr.block g hg (fun e=>hd e.symm),fun e=>?_⟩)
 rcases hG.out.loc with h1|⟨k,hk,hle⟩
 ·exact hd (by rw[← h1];exact e)
 ·rw[hk] at e
  have:k=g:=Option.some.inj e
  omega
end
end Go.Proofs.YtcfgbdhpcboikaaGreatDoor
