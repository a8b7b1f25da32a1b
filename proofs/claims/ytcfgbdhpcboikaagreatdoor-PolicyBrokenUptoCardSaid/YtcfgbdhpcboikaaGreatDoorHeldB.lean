/-
  What holds, as a plain predicate over nodes; append onto a slice that is full.
  policy.holds at every node.
  The document's SameNode at a node and itself.
  How much a node holds bounds all that a walk asks of it.
-/
import Derived.Test.YtcfgbdhpcboikaaGreatDoorHoldF
import Derived.Test.YtcfgbdhpcboikaaGreatDoorLaidA
import Derived.Test.YtcfgbdhpcboikaaGreatDoorNodes
namespace Go.Proofs.YtcfgbdhpcboikaaGreatDoor
set_option maxHeartbeats 4000000
set_option maxRecDepth 100000
open Go.RowKit
def sCaption:ByteArray:=⟨#[99,97,112,116,105,111,110]⟩
abbrev VFam:=ByteArray→ByteArray→ByteArray→Option ByteArray
def wordsN (n:Nd):Bool:=wordsB n.kind n.space n.name n.text n.attrs.length n.kids.length
def elemN (n:Nd):Bool:=elemB n.kind n.space n.text
def isText:Option Nd→Bool
 | some n=>decide (n.kind=2)
 | none=>false
def kidOk (VV:VFam)(pn:ByteArray)(ph:List ByteArray)(prev:Option Nd)(k:Nd):Prop :=
 (wordsN k=true∧takesL pn.data.toList=true∧isText prev=false) ∨
 (wordsN k=false∧elemN k=true∧mayL pn.data.toList k.name.data.toList=true∧k.name∉ph∧¬ (k.name=sCaption∧prev.isSome=true)∧AttrsR (VV k.name) k.attrs k.attrs)
mutual
def HoldsN (VV:VFam):List ByteArray→Nd→Prop
 | ph,.mk _ _ nm _ _ ks=>HoldsK VV nm (if kindL nm.data.toList=4 then ph++[nm] else ph) none ks
def HoldsK (VV:VFam)(pn:ByteArray)(ph:List ByteArray):Option Nd→List Nd→Prop
 | _,[]=>True
 | prev,k :: ks=>(kidOk VV pn ph prev k∧(wordsN k=false→HoldsN VV ph k))∧HoldsK VV pn ph (some k) ks
end
def prevOf (ks:List Nd)(j:Nat):Option Nd:=if j=0 then none else ks[j-1]?
theorem holdsK_step (VV:VFam)(pn:ByteArray)(ph:List ByteArray)(ks:List Nd)(j:Nat)(h:j<ks.length) :
  HoldsK VV pn ph (prevOf ks j) (ks.drop j)↔(kidOk VV pn ph (prevOf ks j) ks[j]∧(wordsN ks[j]=false→HoldsN VV ph ks[j]))∧HoldsK VV pn ph (prevOf ks (j+1)) (ks.drop (j+1)):=by
 rw[List.drop_eq_getElem_cons h]
 conv=>lhs;unfold HoldsK
 have:prevOf ks (j+1)=some ks[j]:=by
  unfold prevOf
  rw[if_neg (by omega),Nat.add_sub_cancel,List.getElem?_eq_getElem h]
 rw[this]
theorem prev_some (ks:List Nd)(j:Nat)(hj:j≤ks.length):(prevOf ks j).isSome=decide (0<j):=by
 unfold prevOf
 by_cases h:j=0
 ·rw[if_pos h,h];rfl
 ·rw[if_neg h,List.getElem?_eq_getElem (by omega)]
  simp
  omega
theorem prev_text (ks:List Nd)(q:Nat)(hq:q<ks.length):isText (prevOf ks (q+1))=decide (ks[q].kind=2):=by
 unfold prevOf isText
 rw[if_neg (by omega),Nat.add_sub_cancel,List.getElem?_eq_getElem hq]
section
variable {P:Program} {w:World} {ops:Array Oper} {rest:List Oper} {o:Oper} {a:Act} {Q:Exit→Act→World→Prop}
theorem run_cut_full (T E:TypeId)(ht:P.underlying T=some (.slice E))(i:TypeInfo)(hi:P.info? E=some i)(w:World)(x:Option Addr)(n c:Nat)(hn:n≤c) :
  (Instr.slice T (.slice x n c) none (some (.int .i64 n)) (some (.int .i64 n))).run P w=.ok (.slice x n n) w:=by
 simp[Instr.slice,run_underlying ht,Instr.sliceBounds,run_sliceBound,sizeOf,typeInfo,hi,hn,Addr.add]
theorem vec_fresh (w:World)(e:TypeId)(cap:Nat)(n:Nat)(xs:List Value)(zs:Array Value) :
  VecAt (w.drew.alloc (.cells (xs.toArray++zs) e)) (.slice (some ⟨w.heap.size,0,none⟩) n cap) n xs∧Below w.heap.size w (w.drew.alloc (.cells (xs.toArray++zs) e)):=by
 refine⟨⟨_,_,rfl,fun j u hj=>⟨_,_,rfl,?_⟩⟩,?_⟩
 ·show(w.drew.alloc (.cells (xs.toArray++zs) e)).cell? ⟨w.drew.heap.size,0+j,none⟩=some u
  rw[Nat.zero_add,cell_of_row _ _ j (xs.toArray++zs) e (0,0) (heap_alloc_new w.drew _)]
  have hl:j<xs.length:=(List.getElem?_eq_some_iff.1 hj).1
  rw[Array.getElem?_append_left (by simpa using hl)]
  simpa using hj
 ·exact(Below.refl w.heap.size w).drew.alloc (Nat.le_refl _) _
theorem wpList_append_full (hgd:o.guard=none)(s x:Operand)(t:TypeId)
  (ho:o.op=.call { callee:=.builtin .append,args:=#[s,x],argTypes:=#[t,t] })
  (e:TypeId) (i:TypeInfo) (z:Value) (bytes:Nat) (ht:P.underlying t=some (.slice e)) (hi:P.info? e=some i) (hz:i.zero=some z) (hsize:i.size=1) (hby:i.bytes=bytes)
  (v:Value) (n:Nat) (xs:List Value) (hs:a.eval s=v) (hv:∃ y,v=.slice y n n) (hV:VecAt w v n xs) (hl:xs.length=n) (u:Value)
  (ad:Addr) (c:Nat) (hx:a.eval x=.slice (some ad) 1 c) (hnews:w.cell? ad=some u) (hb:(n+1)*bytes≤140737488355328) (hn:n≤1000000000)
  (h:∀ v' w',Hid (VecAt w' v' (n+1) (xs++[u]))→Hid (∃ y c,v'=.slice y (n+1) c∧n+1≤c)→Hid (Below w.heap.size w w')→wpList P ops Q rest (a.put o.dst v') w'):wpList P ops Q (o :: rest) a w:=by
 refine wpList_plain hgd fun K hK=>?_
 obtain⟨y,rfl⟩:=hv
 have hnews':∀ j q,[u][j]?=some q→w.cell? (ad.add j)=some q:=by
  intro j q hj
  match j,hj with
  | 0,hj =>
   simp at hj
   subst hj
   simpa [Addr.add] using hnews
 have key:∃ v' w',(Builtin.append_ #[t,t] o.type #[.slice y n n,.slice (some ad) 1 c]).run P w=.ok v' w'∧VecAt w' v' (n+1) (xs++[u])∧(∃ y c,v'=.slice y (n+1) c∧n+1≤c)∧Below w.heap.size w w':=by
  subst hby
  cases y with
  | none =>
   have hn0:n=0:=by
    rcases Nat.eq_zero_or_pos n with h0|h0
    ·exact h0
    ·obtain⟨a',c',e',h'⟩:=hV
     obtain⟨g,off,ha,_⟩:=h' 0 _ (List.getElem?_eq_getElem (by omega))
     simp only[Value.slice.injEq] at e'
     rw[← e'.1] at ha
     cases ha
   subst hn0
   have hx0:xs=[]:=List.eq_nil_of_length_eq_zero hl
   subst hx0
   have hr:=run_append_nil (P:=P) (w:=w) t o.type e i z ht hi hz ad 1 c [u] (by simp[hsize]) hnews' (by omega) (by omega) (by omega)
   obtain⟨h1,h2⟩:=vec_fresh w e (grownCap w 1 0 e) 1 [u] (Builtin.zeroCells z.cells (grownCap w 1 0 e-1))
   exact⟨_,_,hr,h1,⟨_,_,rfl,grownCap_ge w 1 0 e⟩,h2⟩
  | some b =>
   have holds:∀ j q,xs[j]?=some q→w.cell? (b.add j)=some q:=by
    obtain⟨a',c',e',h'⟩:=hV
    intro j q hj
    obtain⟨g,off,ha,hc⟩:=h' j q hj
    simp only[Value.slice.injEq] at e'
    rw[← e'.1] at ha
    cases ha
    have hadd:(⟨g,off,none⟩:Addr).add j=⟨g,off+j,none⟩:=by unfold Addr.add;split<;>simp_all
    rw[hadd]
    exact hc
   have hr:=run_append_grow (P:=P) (w:=w) t o.type e i z ht hi hz b n n xs (by rw[hsize];omega) holds ad 1 c [u] (by simp[hsize]) hnews' (by omega) (by omega) (growslice_fits (by omega) hb)
   obtain⟨h1,h2⟩:=vec_fresh w e (grownCap w (n+1) n e) (n+1) (xs++[u]) (Builtin.zeroCells z.cells (grownCap w (n+1) n e-(n+1)))
   refine⟨_,_,hr,?_,⟨_,_,rfl,grownCap_ge w (n+1) n e⟩,?_⟩
   ·simpa using h1
   ·simpa using h2
 obtain⟨v',w',hr,h1,hcap,h2⟩:=key
 unfold Oper.wp execOp
 simp only[ho,resolve,invoke,builtin,Sem.run_bind,Sem.run_pure,Result.andThen_ok,List.map_toArray,List.map_cons,List.map_nil,hs,hx,hr]
 exact hK _ _ (h v' w' h1 hcap h2)
end
open Go.RowKit
mutual
def SmN:Nd→Prop
 | .mk _ _ nm at' tx ks=>nm.size≤1048576∧tx.size≤1048576∧at'.length≤1048576∧(∀ x∈at',x.1.size≤1048576∧x.2.size≤1048576)∧SmK ks
def SmK:List Nd→Prop
 | []=>True
 | n :: ks=>SmN n∧SmK ks
end
theorem SmK.get:∀ (ks:List Nd) (j:Nat) (h:j<ks.length),SmK ks→SmN ks[j]:=by
 intro ks
 induction ks with
 | nil=>intro j h;simp at h
 | cons n ks ih =>
  intro j h hs
  unfold SmK at hs
  cases j with
  | zero=>exact hs.1
  | succ j=>exact ih j (by simpa using h) hs.2
theorem SmN.get {n:Nd}(h:SmN n):n.name.size≤1048576∧n.text.size≤1048576∧n.attrs.length≤1048576∧(∀ x∈n.attrs,x.1.size≤1048576∧x.2.size≤1048576)∧SmK n.kids:=by
 cases n
 unfold SmN at h
 exact h
def VFok (VV:VFam):Prop:=∀ e n v,e.size≤1048576→n.size≤1048576→v.size≤1048576→ValueR e n v (VV e n v)
structure HeldAt (VV:VFam) (ks:List Nd) (nm:ByteArray) (ph:List ByteArray) (r:Bool) (k:Nat):Prop where
 le:k≤ks.length
 iff:r=true↔HoldsK VV nm ph (prevOf ks k) (ks.drop k)
theorem HeldAt.start {VV:VFam}{ks:List Nd}{nm:ByteArray}{ph:List ByteArray}{r:Bool}(h:r=true↔HoldsK VV nm ph none ks):HeldAt VV ks nm ph r 0:=⟨Nat.zero_le _,h⟩
theorem HeldAt.done {VV:VFam}{ks:List Nd}{nm:ByteArray}{ph:List ByteArray}{r:Bool}{k:Nat}(h:HeldAt VV ks nm ph r k)(hk:ks.length≤k):r=true:=by
 rw[h.iff,List.drop_eq_nil_of_le hk]
 unfold HoldsK
 trivial
theorem HeldAt.no {VV:VFam}{ks:List Nd}{nm:ByteArray}{ph:List ByteArray}{r:Bool}{k:Nat}(h:HeldAt VV ks nm ph r k)(hk:k<ks.length)(hn:¬ (kidOk VV nm ph (prevOf ks k) ks[k]∧(wordsN ks[k]=false→HoldsN VV ph ks[k]))):r=false:=by
 cases hr:r with
 | false=>rfl
 | true=>exact absurd ((holdsK_step VV nm ph ks k hk).1 (h.iff.1 hr)).1 hn
theorem HeldAt.yes {VV:VFam}{ks:List Nd}{nm:ByteArray}{ph:List ByteArray}{r:Bool}{k:Nat}(h:HeldAt VV ks nm ph r k)(hk:k<ks.length)(hn:kidOk VV nm ph (prevOf ks k) ks[k]∧(wordsN ks[k]=false→HoldsN VV ph ks[k])):HeldAt VV ks nm ph r (k+1):=by
 refine⟨hk,?_⟩
 rw[h.iff,holdsK_step VV nm ph ks k hk]
 exact⟨fun x=>x.2,fun x=>⟨hn,x⟩⟩
theorem kid_words {VV:VFam}{pn:ByteArray}{ph:List ByteArray}{prev:Option Nd}{q:Nd}(hw:wordsN q=true)(h:takesL pn.data.toList=true)(hp:isText prev=false):kidOk VV pn ph prev q∧(wordsN q=false→HoldsN VV ph q) :=
 ⟨.inl ⟨hw,h,hp⟩,fun e=>by rw[hw] at e;cases e⟩
theorem kid_words_no {VV:VFam}{pn:ByteArray}{ph:List ByteArray}{prev:Option Nd}{q:Nd}(hw:wordsN q=true)(h:takesL pn.data.toList=false∨isText prev=true):¬ (kidOk VV pn ph prev q∧(wordsN q=false→HoldsN VV ph q)):=by
 rintro⟨h1|h1,_⟩
 ·rcases h with h|h
  ·rw[h1.2.1] at h;cases h
  ·rw[h1.2.2] at h;cases h
 ·rw[hw] at h1;cases h1.1
theorem kid_elem {VV:VFam}{pn:ByteArray}{ph:List ByteArray}{prev:Option Nd}{q:Nd}(hw:wordsN q=false)(h1:elemN q=true)(h2:mayL pn.data.toList q.name.data.toList=true)(h3:q.name∉ph)(h4:¬ (q.name=sCaption∧prev.isSome=true))(h5:AttrsR (VV q.name) q.attrs q.attrs)(h6:HoldsN VV ph q):kidOk VV pn ph prev q∧(wordsN q=false→HoldsN VV ph q) :=
 ⟨.inr ⟨hw,h1,h2,h3,h4,h5⟩,fun _=>h6⟩
theorem kid_elem_no {VV:VFam}{pn:ByteArray}{ph:List ByteArray}{prev:Option Nd}{q:Nd}(hw:wordsN q=false)(h:elemN q=false∨mayL pn.data.toList q.name.data.toList=false∨q.name∈ph∨(q.name=sCaption∧prev.isSome=true)∨¬ AttrsR (VV q.name) q.attrs q.attrs∨¬ HoldsN VV ph q):¬ (kidOk VV pn ph prev q∧(wordsN q=false→HoldsN VV ph q)):=by
 rintro⟨h1|h1,h2⟩
 ·rw[hw] at h1;cases h1.1
 ·obtain⟨_,a1,a2,a3,a4,a5⟩:=h1
  rcases h with h|h|h|h|h|h
  ·rw[a1] at h;cases h
  ·rw[a2] at h;cases h
  ·exact a3 h
  ·exact a4 h
  ·exact h a5
  ·exact h (h2 hw)
theorem holdsN_eq (VV:VFam)(n:Nd)(ph:List ByteArray):HoldsN VV ph n↔HoldsK VV n.name (if kindL n.name.data.toList=4 then ph++[n.name] else ph) none n.kids:=by
 cases n
 conv=>lhs;unfold HoldsN
 exact Iff.rfl
theorem NodeV.attrs {w:World}{n:Nd}{c0 c1 c2 c4 c5:Value}{a:Option Addr}{m b:Nat}(h:NodeV w n (.agg #[c0,c1,c2,.slice a m b,c4,c5])):AttrsV w (.slice a m b) n.attrs:=by
 obtain⟨av,a',c',e,hA,_,_⟩:=h.get
 simp only[Value.agg.injEq] at e
 have e3:=congrArg (fun x:Array Value=>x[3]?) e
 simp at e3
 rw[e3]
 exact hA
open Go.RowKit
theorem same_node:∀ (m:Nat) (n:Nd),n.sz≤m→∀ (v v':Value) (w:World),Hid (SmN n)→Hid (NodeV w n v)→Hid (NodeV w n v') →
  Calls Tryz.prog 43 #[v,v'] w (SomeBool true w):=by
 intro m
 induction m with
 | zero=>intro n hn;exact absurd (sz_pos n) (by omega)
 | succ m ih =>
  intro n hn v v' w HS hN hN'
  obtain⟨av,a,c,rfl,hA,hK,hlen⟩:=hN.out.get
  obtain⟨av',a',c',rfl,hA',hK',_⟩:=hN'.out.get
  obtain⟨aa,ca,rfl,hAA⟩:=hA
  obtain⟨aa',ca',rfl,hAA'⟩:=hA'
  have HA:=Lib.hid (show AttrsV w (.slice aa n.attrs.length ca) n.attrs from⟨aa,ca,rfl,hAA⟩)
  have HA':=Lib.hid (show AttrsV w (.slice aa' n.attrs.length ca') n.attrs from⟨aa',ca',rfl,hAA'⟩)
  have HK:=Lib.hid hK
  have HK':=Lib.hid hK'
  have HIH:=Lib.hid ih
  have HN:=Lib.hid (show ∀ k∈n.kids,k.sz≤m by
   intro k hk
   have h1:=sz_kids n
   have h2:=(szAll_mem n.kids).1 k hk
   omega)
  have HSN:=Lib.hid HS.out.get
  have hal:n.attrs.length≤1048576:=HS.out.get.2.2.1
  clear hK hK' ih hn hN hN' HS hAA hAA'
  generalize n.kids=ks at *
  generalize n.name=nm at *
  generalize n.kind=kd at *
  generalize n.space=sp at *
  generalize n.text=tx at *
  generalize n.attrs=at' at *
  have e0:(kd !=kd)=false:=by simp
  have e1:(sp !=sp)=false:=by simp
  have e2:(nm.toList !=nm.toList)=false:=by simp
  have e3:(tx.toList !=tx.toList)=false:=by simp
  go_enter Tryz.func43,Tryz.ntmps43
  obtain⟨W0,hW0⟩:∃ W0,W0=(w.alloc (.cells #[.int .i64 kd,.int .i64 sp,.string nm,.slice aa at'.length ca,.string tx,.slice a ks.length c] 45)).alloc (.cells #[.int .i64 kd,.int .i64 sp,.string nm,.slice aa' at'.length ca',.string tx,.slice a' ks.length c'] 45):=⟨_,rfl⟩
  have hB0:Below w.heap.size w W0:=by rw[hW0];exact((Below.refl _ w).alloc (Nat.le_refl _) _).alloc (by simp) _
  have hP0:Six W0 w.heap.size 0 (.int .i64 kd) (.int .i64 sp) (.string nm) (.slice aa at'.length ca) (.string tx) (.slice a ks.length c):=by
   rw[hW0]
   exact(six_alloc w _ _ _ _ _ _).below ((Below.refl (w.alloc _).heap.size _).alloc (Nat.le_refl _) _) (Nat.le_refl _)
  have hP1:Six W0 (w.heap.size+1) 0 (.int .i64 kd) (.int .i64 sp) (.string nm) (.slice aa' at'.length ca') (.string tx) (.slice a' ks.length c'):=by
   have h:=six_alloc (w.alloc (.cells #[.int .i64 kd,.int .i64 sp,.string nm,.slice aa at'.length ca,.string tx,.slice a ks.length c] 45)) (.int .i64 kd) (.int .i64 sp) (.string nm) (.slice aa' at'.length ca') (.string tx) (.slice a' ks.length c')
   rw[← hW0] at h
   simpa using h
  have HP0:=Lib.hid hP0
  have HP1:=Lib.hid hP1
  have HB0:=Lib.hid hB0
  have HW0:=Lib.hid hW0
  clear hP0 hP1 hB0 hW0
  go_wp2_with fail
  rw[← HW0.out]
  go_loopw [4,5] (fun r i wx=>r=.bool false∧∃ k:Nat,i=.int .i64 k∧Hid (k≤at'.length∧Below W0.heap.size W0 wx)) (fun _ i _=>at'.length-(intOf i).toNat)
  case atStart=>exact⟨rfl,0,rfl,Lib.hid ⟨Nat.zero_le _,Below.refl _ _⟩⟩
  case round =>
   obtain⟨rfl,k,rfl,hK⟩:=hrel
   have hk:=hK.out.1
   obtain⟨y0,y1,y2,y3,y4,y5⟩:=(HP0.out.below hK.out.2 (Nat.le_refl _)).zero
   obtain⟨z0,z1,z2,z3,z4,z5⟩:=(HP1.out.below hK.out.2 (Nat.le_refl _)).zero
   have hBw:Below w.heap.size w wr:=HB0.out.trans (hK.out.2.mono HB0.out.size)
   have HBw:=Lib.hid hBw
   clear hBw
   rcases Nat.lt_or_ge k at'.length with hlt|hge
   ·obtain⟨g1,o1,c1,hv1,a1,a2⟩:=(HA.out.below HBw.out (Nat.le_refl _)).get k hlt
    obtain⟨g2,o2,c2,hv2,b1,b2⟩:=(HA'.out.below HBw.out (Nat.le_refl _)).get k hlt
    simp only[Value.slice.injEq,true_and] at hv1 hv2
    obtain⟨rfl,rfl⟩:=hv1
    obtain⟨rfl,rfl⟩:=hv2
    generalize at'[k]=q at *
    obtain⟨qn,qv⟩:=q
    simp only at a1 a2 b1 b2
    have e1:(qn.toList==qn.toList)=true:=by simp
    have e2:(qv.toList==qv.toList)=true:=by simp
    go_wp2_with fail
    go_quiet (fail)
    go_wp2
    go_roundw
    case rel=>exact⟨rfl,k+1,by go_num,Lib.hid ⟨hlt,hK.out.2.trans ((below_drewNm wr nq).mono hK.out.2.size)⟩⟩
    case measure=>simp[intOf];omega
   ·have HPa:=Lib.hid (HP0.out.below hK.out.2 (Nat.le_refl _))
    have HPb:=Lib.hid (HP1.out.below hK.out.2 (Nat.le_refl _))
    have hb1:w.heap.size<W0.heap.size:=World.block_lt_of_cell? _ _ HP0.out.x0
    have hb2:w.heap.size+1<W0.heap.size:=World.block_lt_of_cell? _ _ HP1.out.x0
    have HSZ:=Lib.hid (show w.heap.size+1<wr.heap.size by have:=hK.out.2.size;omega)
    clear hK hk hb1 hb2 HW0
    go_wp2_with fail
    rw[show decide (k<at'.length)=false from decide_eq_false (by omega)]
    clear hge y0 y1 y2 y3 y4 y5 z0 z1 z2 z3 z4 z5
    rename World=>W2
    go_loopw [4,6,7] (fun r i _ wx=>r=.bool false∧∃ k:Nat,i=.int .i64 k∧Hid (k≤ks.length∧Below W2.heap.size W2 wx)) (fun _ i _ _=>ks.length-(intOf i).toNat)
    case atStart=>exact⟨rfl,0,rfl,Lib.hid ⟨Nat.zero_le _,Below.refl _ _⟩⟩
    case round =>
     obtain⟨rfl,k,rfl,hK⟩:=hrel
     have hk:=hK.out.1
     have hBw:Below w.heap.size w wr:=HBw.out.trans (hK.out.2.mono HBw.out.size)
     obtain⟨y0,y1,y2,y3,y4,y5⟩:=(HPa.out.below hK.out.2 (Nat.le_refl _)).zero
     obtain⟨z0,z1,z2,z3,z4,z5⟩:=(HPb.out.below hK.out.2 (Nat.le_refl _)).zero
     rcases Nat.lt_or_ge k ks.length with hlt|hge
     ·obtain⟨g,off,c0,c1,c2,c3,c4,c5,rfl,h6,hn⟩:=HK.out.get ks 0 k hlt
      obtain⟨g',off',d0,d1,d2,d3,d4,d5,rfl,h6',hn'⟩:=HK'.out.get ks 0 k hlt
      rw[Nat.zero_add] at h6 h6'
      have hQ:=h6.below hBw (Nat.le_refl _)
      have hQ':=h6'.below hBw (Nat.le_refl _)
      have HNN:=Lib.hid (HIH.out ks[k] (HN.out _ (List.getElem_mem hlt)))
      have HSQ:=Lib.hid (SmK.get ks k hlt HSN.out.2.2.2.2)
      obtain⟨l1,l2,l3,l4,rfl,rfl,rfl,rfl,rfl,rfl⟩:=hn.cells
      obtain⟨m1,m2,m3,m4,rfl,rfl,rfl,rfl,rfl,rfl⟩:=hn'.cells
      have HNa:=Lib.hid (hn.below hBw (Nat.le_refl _))
      have HNb:=Lib.hid (hn'.below hBw (Nat.le_refl _))
      obtain⟨S,hS⟩:∃ S:World→Prop,∀ u,S u↔Below wr.heap.size wr u:=⟨_,fun _=>Iff.rfl⟩
      have f0:∀ s:WIn S,s.w.cell? ⟨g,off+k*6,none⟩=some (.int .i64 ks[k].kind):=fun s=>(hQ.below ((hS _).1 s.h) (Nat.le_refl _)).x0
      have f1:∀ s:WIn S,s.w.cell? ⟨g,off+k*6+1,none⟩=some (.int .i64 ks[k].space):=fun s=>(hQ.below ((hS _).1 s.h) (Nat.le_refl _)).x1
      have f2:∀ s:WIn S,s.w.cell? ⟨g,off+k*6+2,none⟩=some (.string ks[k].name):=fun s=>(hQ.below ((hS _).1 s.h) (Nat.le_refl _)).x2
      have f3:∀ s:WIn S,s.w.cell? ⟨g,off+k*6+3,none⟩=some (.slice l1 ks[k].attrs.length l2):=fun s=>(hQ.below ((hS _).1 s.h) (Nat.le_refl _)).x3
      have f4:∀ s:WIn S,s.w.cell? ⟨g,off+k*6+4,none⟩=some (.string ks[k].text):=fun s=>(hQ.below ((hS _).1 s.h) (Nat.le_refl _)).x4
      have f5:∀ s:WIn S,s.w.cell? ⟨g,off+k*6+5,none⟩=some (.slice l3 ks[k].kids.length l4):=fun s=>(hQ.below ((hS _).1 s.h) (Nat.le_refl _)).x5
      have g0:∀ s:WIn S,s.w.cell? ⟨g',off'+k*6,none⟩=some (.int .i64 ks[k].kind):=fun s=>(hQ'.below ((hS _).1 s.h) (Nat.le_refl _)).x0
      have g1:∀ s:WIn S,s.w.cell? ⟨g',off'+k*6+1,none⟩=some (.int .i64 ks[k].space):=fun s=>(hQ'.below ((hS _).1 s.h) (Nat.le_refl _)).x1
      have g2:∀ s:WIn S,s.w.cell? ⟨g',off'+k*6+2,none⟩=some (.string ks[k].name):=fun s=>(hQ'.below ((hS _).1 s.h) (Nat.le_refl _)).x2
      have g3:∀ s:WIn S,s.w.cell? ⟨g',off'+k*6+3,none⟩=some (.slice m1 ks[k].attrs.length m2):=fun s=>(hQ'.below ((hS _).1 s.h) (Nat.le_refl _)).x3
      have g4:∀ s:WIn S,s.w.cell? ⟨g',off'+k*6+4,none⟩=some (.string ks[k].text):=fun s=>(hQ'.below ((hS _).1 s.h) (Nat.le_refl _)).x4
      have g5:∀ s:WIn S,s.w.cell? ⟨g',off'+k*6+5,none⟩=some (.slice m3 ks[k].kids.length m4):=fun s=>(hQ'.below ((hS _).1 s.h) (Nat.le_refl _)).x5
      have hx:∀ s:WIn S,s.w.cell? ⟨w.heap.size,5,none⟩=some (.slice (some ⟨g,off,none⟩) ks.length c):=fun s=>((HPa.out.below hK.out.2 (Nat.le_refl _)).below ((hS _).1 s.h) (Nat.le_refl _)).x5
      have hy:∀ s:WIn S,s.w.cell? ⟨w.heap.size+1,5,none⟩=some (.slice (some ⟨g',off',none⟩) ks.length c'):=fun s=>((HPb.out.below hK.out.2 (Nat.le_refl _)).below ((hS _).1 s.h) (Nat.le_refl _)).x5
      haveI:Nonempty (WIn S):=⟨⟨wr,(hS _).2 (Below.refl _ _)⟩⟩
      have HSS:=Lib.hid hS
      have HBwr:=Lib.hid hBw
      clear hn hn' h6 h6' hBw hQ hQ' hS
      generalize ks[k]=q at *
      go_wp2_with fail
      refine region_segs 11 [([0,1,2,3,4,5,6,7,8,9],10)] [] S (by kernel_rfl) (by kernel_rfl) ((HSS.out _).2 (below_drewNm wr 1)) ?_
      refine segs_step (fun K' hK'=>?_)
      simp only[pick,List.getElem?_cons_zero,List.getElem?_cons_succ,Option.getD_some]
      repeat (go_big_quiet_step (fail))
      refine wpQuiet_nil (hK' _ (fun Q1 hQ1=>?_))
      clear hK' K'
      simp only[pick,List.getElem?_cons_zero,List.getElem?_cons_succ,Option.getD_some]
      go_wp2_with fail
      have hBd:=below_drewNm wr 1
      refine(HNN.out _ _ (wr.drewN 1) HSQ (Lib.hid (HNa.out.below hBd (Nat.le_refl _))) (Lib.hid (HNb.out.below hBd (Nat.le_refl _)))).mono ?_
      unfold SomeBool
      rintro e W4 ⟨rfl,B4⟩
      have hB4:Below wr.heap.size wr W4:=hBd.trans (B4.mono hBd.size)
      have HB4:=Lib.hid hB4
      clear hBd B4 hB4
      go_wp2_with fail
      refine hQ1 _ _ ((HSS.out _).2 HB4.out) (segs_last (fun K' hK'=>wpQuiet_nil (hK' _ (fun Q4 hQ4=>?_))))
      clear hQ1 Q1 hK' K' f0 f1 f2 f3 f4 f5 g0 g1 g2 g3 g4 g5 hx hy
      simp only[List.drop_succ_cons,List.drop_zero]
      go_wp2
      go_roundw
      case rel=>exact⟨rfl,k+1,by go_num,Lib.hid ⟨hlt,hK.out.2.trans (HB4.out.mono hK.out.2.size)⟩⟩
      case measure=>simp[intOf];omega
     ·go_wp2
      go_ret
      exact⟨rfl,hBw⟩
open Go.RowKit
theorem bk_eq (n:Nd):n.bk=2+n.name.size+n.text.size+atBk n.attrs+bkAll n.kids:=by
 cases n
 conv=>lhs;unfold Nd.bk
 rfl
theorem bkAll_cons (n:Nd)(ns:List Nd):bkAll (n :: ns)=n.bk+bkAll ns:=by conv=>lhs;unfold bkAll
theorem smK_cons (n:Nd)(ns:List Nd):SmK (n :: ns)↔SmN n∧SmK ns:=by
 conv=>lhs;unfold SmK
theorem smK_nil:SmK []:=by unfold SmK;trivial
theorem smN_iff (n:Nd):SmN n↔n.name.size≤1048576∧n.text.size≤1048576∧n.attrs.length≤1048576∧(∀ x∈n.attrs,x.1.size≤1048576∧x.2.size≤1048576)∧SmK n.kids:=by
 cases n
 conv=>lhs;unfold SmN
 exact Iff.rfl
theorem bk_sm:(∀ n:Nd,n.bk≤1048576→SmN n)∧∀ l:List Nd,bkAll l≤1048576→SmK l:=by
 refine nd_ind (P:=fun n=>n.bk≤1048576→SmN n) (Q:=fun l=>bkAll l≤1048576→SmK l) ?_ ?_ ?_
 ·intro n ih h
  rw[bk_eq] at h
  have h1:=atBk_len n.attrs
  refine(smN_iff n).2 ⟨by omega,by omega,by omega,fun x hx=>?_,ih (by omega)⟩
  have:=atBk_mem n.attrs x hx
  omega
 ·intro _;exact smK_nil
 ·intro n ns h1 h2 h
  rw[bkAll_cons] at h
  exact(smK_cons n ns).2 ⟨h1 (by omega),h2 (by omega)⟩
theorem bk_sz:(∀ n:Nd,2*n.sz≤n.bk)∧∀ l:List Nd,2*szAll l≤bkAll l:=by
 refine nd_ind (P:=fun n=>2*n.sz≤n.bk) (Q:=fun l=>2*szAll l≤bkAll l) ?_ ?_ ?_
 ·intro n ih
  rw[bk_eq,sz_kids]
  omega
 ·unfold szAll bkAll;omega
 ·intro n ns h1 h2
  rw[bkAll_cons]
  unfold szAll
  omega
end Go.Proofs.YtcfgbdhpcboikaaGreatDoor
