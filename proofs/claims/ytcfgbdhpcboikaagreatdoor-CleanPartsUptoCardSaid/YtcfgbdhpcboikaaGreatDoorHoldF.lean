/-
  policy.Holds of the least pages.
  policy.elem, plain, text and slices.Equal of attributes, of every node: what they answer.
  A cut of all elements; append onto a slice that is full.
  A row's claim where what it reads is small ('..Upto'): out of a contract that is given the listed variables, the world's shape and the bound.
  What comes in: attributes and trees of nodes, opened as the walks ask for them, with how much they hold.
  What holds, as a plain predicate over nodes; append onto a slice that is full.
  Nodes whose texts are of a size that the walks bear.
  Strings in a slice: the phrases that an element stands in.
  policy.holds at every node.
  How much a node holds bounds all that a walk asks of it.
-/
import Derived.Test.YtcfgbdhpcboikaaGreatDoorBase
import Derived.RegionTactic
import Derived.BigRegion
import Derived.Test.YtcfgbdhpcboikaaGreatDoorSortA
import Derived.Test.YtcfgbdhpcboikaaGreatDoorAttrL
import Derived.Test.YtcfgbdhpcboikaaGreatDoorLaidA
import Derived.Test.YtcfgbdhpcboikaaGreatDoorRows
import Derived.JoinedCond
import Derived.Deep.Slices
namespace Go.Proofs.YtcfgbdhpcboikaaGreatDoor
set_option maxRecDepth 100000
open Go.RowKit
structure PageAt (w:World) (gh oh gm om cm ga oa ca gb ob cb:Nat) (a':Option Addr) (n' c':Nat):Prop where
 hd:Six w gh oh (.int .i64 1) (.int .i64 0) (.string ⟨#[104,101,97,100]⟩) (.slice none 0 0) (.string ⟨#[]⟩) (.slice (some ⟨gm,om,none⟩) 1 cm)
 bd:Six w gh (oh+6) (.int .i64 1) (.int .i64 0) (.string ⟨#[98,111,100,121]⟩) (.slice none 0 0) (.string ⟨#[]⟩) (.slice (some ⟨gb,ob,none⟩) 1 cb)
 mt:Six w gm om (.int .i64 1) (.int .i64 0) (.string ⟨#[109,101,116,97]⟩) (.slice (some ⟨ga,oa,none⟩) 1 ca) (.string ⟨#[]⟩) (.slice none 0 0)
 at':Two w ga oa (.string ⟨#[99,104,97,114,115,101,116]⟩) (.string ⟨#[117,116,102,45,56]⟩)
 kid:Six w gb ob (.int .i64 1) (.int .i64 0) (.string ⟨#[98]⟩) (.slice none 0 0) (.string ⟨#[]⟩) (.slice a' n' c')
theorem PageAt.below {w w':World}{B gh oh gm om cm ga oa ca gb ob cb:Nat}{a':Option Addr}{n' c':Nat}(h:PageAt w gh oh gm om cm ga oa ca gb ob cb a' n' c')(hb:Below B w w')(hB:w.heap.size≤B):PageAt w' gh oh gm om cm ga oa ca gb ob cb a' n' c' :=
 ⟨h.hd.below hb hB,h.bd.below hb hB,h.mt.below hb hB,h.at'.below hb hB,h.kid.below hb hB⟩
open Go.RowKit
def elemB (kd sp:Int)(tx:ByteArray):Bool:=decide (kd=1)&&(decide (sp=0)&&tx.data.toList.isEmpty)
def wordsB (kd sp:Int)(nm tx:ByteArray)(na nk:Nat):Bool:=decide (kd=2)&&(decide (sp=0)&&(nm.data.toList.isEmpty&&(decide (na=0)&&(decide (nk=0)&&(!tx.data.toList.isEmpty&&decide (textB tx=tx))))))
open Go.RowKit
section
variable {P:Program} {w:World} {ops:Array Oper} {rest:List Oper} {o:Oper} {a:Act} {Q:Exit→Act→World→Prop}
theorem run_cut_full (T E:TypeId)(ht:P.underlying T=some (.slice E))(i:TypeInfo)(hi:P.info? E=some i)(w:World)(x:Option Addr)(n c:Nat)(hn:n≤c) :
  (Instr.slice T (.slice x n c) none (some (.int .i64 n)) (some (.int .i64 n))).run P w=.ok (.slice x n n) w:=by
 simp[Instr.slice,run_underlying ht,Instr.sliceBounds,run_sliceBound,sizeOf,typeInfo,hi,hn,Addr.add]
theorem vec_fresh (w:World)(e:TypeId)(cap:Nat)(n:Nat)(xs:List Value)(zs:Array Value) :
  VecAt (w.drew.alloc (.cells (xs.toArray++zs) e)) (.slice (some ⟨w.heap.size,0,none⟩) n cap) n xs∧Below w.heap.size w (w.drew.alloc (.cells (xs.toArray++zs) e)):=by
 refine⟨⟨_,_,rfl,fun j u hj=>⟨_,_,rfl,?_⟩⟩,?_⟩
 ·show(w.drew.alloc (.cells (xs.toArray++zs) e)).cell? ⟨w.drew.heap.size,0+j,none⟩=some u
  rw[Nat.zero_add,cell_of_row _ _ j (xs.toArray++zs) e (0,0) (heap_alloc_new w.drew _)]
  have hl:j<xs.length:=(List.getElem?_eq_some_iff.1 hj).1
  rw[Array.getElem?_append_left (by simpa using hl)]
  simpa using hj
 ·exact(Below.refl w.heap.size w).drew.alloc (Nat.le_refl _) _
theorem wpList_append_full (hgd:o.guard=none)(s x:Operand)(t:TypeId)
  (ho:o.op=.call { callee:=.builtin .append,args:=#[s,x],argTypes:=#[t,t] })
  (e:TypeId) (i:TypeInfo) (z:Value) (bytes:Nat) (ht:P.underlying t=some (.slice e)) (hi:P.info? e=some i) (hz:i.zero=some z) (hsize:i.size=1) (hby:i.bytes=bytes)
  (v:Value) (n:Nat) (xs:List Value) (hs:a.eval s=v) (hv:∃ y,v=.slice y n n) (hV:VecAt w v n xs) (hl:xs.length=n) (u:Value)
  (ad:Addr) (c:Nat) (hx:a.eval x=.slice (some ad) 1 c) (hnews:w.cell? ad=some u) (hb:(n+1)*bytes≤140737488355328) (hn:n≤1000000000)
  (h:∀ v' w',Hid (VecAt w' v' (n+1) (xs++[u]))→Hid (∃ y c,v'=.slice y (n+1) c∧n+1≤c)→Hid (Below w.heap.size w w')→wpList P ops Q rest (a.put o.dst v') w'):wpList P ops Q (o :: rest) a w:=by
 refine wpList_plain hgd fun K hK=>?_
 obtain⟨y,rfl⟩:=hv
 have hnews':∀ j q,[u][j]?=some q→w.cell? (ad.add j)=some q:=by
  intro j q hj
  match j,hj with
  | 0,hj =>
   simp at hj
   subst hj
   simpa [Addr.add] using hnews
 have key:∃ v' w',(Builtin.append_ #[t,t] o.type #[.slice y n n,.slice (some ad) 1 c]).run P w=.ok v' w'∧VecAt w' v' (n+1) (xs++[u])∧(∃ y c,v'=.slice y (n+1) c∧n+1≤c)∧Below w.heap.size w w':=by
  subst hby
  cases y with
  | none =>
   have hn0:n=0:=by
    rcases Nat.eq_zero_or_pos n with h0|h0
    ·exact h0
    ·obtain⟨a',c',e',h'⟩:=hV
     obtain⟨g,off,ha,_⟩:=h' 0 _ (List.getElem?_eq_getElem (by omega))
     simp only[Value.slice.injEq] at e'
     rw[← e'.1] at ha
     cases ha
   subst hn0
   have hx0:xs=[]:=List.eq_nil_of_length_eq_zero hl
   subst hx0
   have hr:=run_append_nil (P:=P) (w:=w) t o.type e i z ht hi hz ad 1 c [u] (by simp[hsize]) hnews' (by omega) (by omega) (by omega)
   obtain⟨h1,h2⟩:=vec_fresh w e (grownCap w 1 0 e) 1 [u] (Builtin.zeroCells z.cells (grownCap w 1 0 e-1))
   exact⟨_,_,hr,h1,⟨_,_,rfl,grownCap_ge w 1 0 e⟩,h2⟩
  | some b =>
   have holds:∀ j q,xs[j]?=some q→w.cell? (b.add j)=some q:=by
    obtain⟨a',c',e',h'⟩:=hV
    intro j q hj
    obtain⟨g,off,ha,hc⟩:=h' j q hj
    simp only[Value.slice.injEq] at e'
    rw[← e'.1] at ha
    cases ha
    have hadd:(⟨g,off,none⟩:Addr).add j=⟨g,off+j,none⟩:=by unfold Addr.add;split<;>simp_all
    rw[hadd]
    exact hc
   have hr:=run_append_grow (P:=P) (w:=w) t o.type e i z ht hi hz b n n xs (by rw[hsize];omega) holds ad 1 c [u] (by simp[hsize]) hnews' (by omega) (by omega) (growslice_fits (by omega) hb)
   obtain⟨h1,h2⟩:=vec_fresh w e (grownCap w (n+1) n e) (n+1) (xs++[u]) (Builtin.zeroCells z.cells (grownCap w (n+1) n e-(n+1)))
   refine⟨_,_,hr,?_,⟨_,_,rfl,grownCap_ge w (n+1) n e⟩,?_⟩
   ·simpa using h1
   ·simpa using h2
 obtain⟨v',w',hr,h1,hcap,h2⟩:=key
 unfold Oper.wp execOp
 simp only[ho,resolve,invoke,builtin,Sem.run_bind,Sem.run_pure,Result.andThen_ok,List.map_toArray,List.map_cons,List.map_nil,hs,hx,hr]
 exact hK _ _ (h v' w' h1 hcap h2)
end
open Go.RowKit
def uptoB {H:Type}(enc:TypeId × Value→H)(P:Program)(fn:Func)(s:ChangeSpec)(w:World)(args:Array Value)(fuel:Nat):Bool :=
 match DataW.whole enc P w fn.params.toList s.vars false args.toList fuel with
 | some x=>Rows.uptoSmall H (x.1++x.2.1)
 | none=>false
theorem lift_upto {H:Type}{enc:TypeId × Value→H}{C:Checked}{os:Os}{f:FuncId}{fn:Func}{s:ChangeSpec}{again:Bool}{X:World→Array Value→Prop}
  (hX:∀ (w w':World) (args:Array Value),w.heap=w'.heap→X w args→X w' args)
  (own:ownKnob C.prog.godebug=none) (started:os.Started) (noInit:C.prog.inits.idxOf? f=none) (hfn:C.prog.funcs[f]?=some fn)
  (w0:World) (args0:Array Value) (fuel:Nat) (hos:w0.os=os)
  (hsh:(w0.forCall (fun _ _=>0) ⟨#[],args0,[]⟩).Shaped C.prog)
  (hok:Input.okWideB C.prog (w0.forCall (fun _ _=>0) ⟨#[],args0,[]⟩) f ⟨#[],args0,[]⟩=true)
  (hpre:uptoB enc C.prog fn s (w0.forCall (fun _ _=>0) ⟨#[],args0,[]⟩).memory args0 fuel=true)
  (hsz:s.sizedB enc C.prog fn false (w0.forCall (fun _ _=>0) ⟨#[],args0,[]⟩).memory args0 fuel=true)
  (hx:X (w0.forCall (fun _ _=>0) ⟨#[],args0,[]⟩).memory args0)
  (contract:∀ (W:World) (base:Nat) (args:Array Value) (ds gs:List (DataW H)) (before:List MemPlace),
   (∀ (j:Nat) t v,fn.params[j]?=some t→args[j]?=some v→Value.okWide C.prog W .any base t v) →
   DataW.Whole enc C.prog fn.params.toList s.vars false W args.toList ds gs before→Rows.uptoBulkAll (ds++gs)≤1048576→X W args→W.ShapedOpen C.prog →
   Calls C.prog f args W fun e W'=>∃ v,e=.returned v∧s.post enc C.prog fn false true false again W args v W') (F:Stop.Interp) :
  ReturnsInHanded {} C os f .any (fun w args=>((Rows.OpenSpec.upto s).pre enc C.prog fn [] false w args∧X w args)∧sizedMet enc C.prog fn (Rows.OpenSpec.upto s) false w args) (((Rows.OpenSpec.upto s).at F).post enc C.prog fn false true false again):=by
 refine returnsInHanded_of_calls own started noInit ?_ ?_
 ·refine⟨w0,fun _ _=>0,⟨#[],args0,[]⟩,hos,hsh,(Input.okWide_of_okWideB (base:=0) hok).1,(Input.okWide_of_okWideB hok).2,⟨⟨?_,hx⟩,sizedMet_of_sizedB hsz⟩,?_⟩
  ·unfold uptoB at hpre
   split at hpre
   ·rename_i x hw
    exact(OpenSpec.pre_some (s:=Rows.OpenSpec.upto s) rfl [] false _ _).2 ⟨x.1,x.2.1,x.2.2,DataW.Whole_of_whole hw,rfl,hpre⟩
   ·cases hpre
  ·simp[Assume.holds]
 ·intro w tape i _ hshape _ hok' hpre' _
  obtain⟨_,_,_,fn',hfn',_,_,_,_,hval⟩:=hok'
  obtain rfl:fn'=fn:=Option.some.inj (hfn'.symm.trans hfn)
  obtain⟨⟨hp,hx'⟩,_⟩:=hpre'
  obtain⟨ds,gs,before,hw,_,hkk⟩:=(OpenSpec.pre_some (s:=Rows.OpenSpec.upto s) rfl [] false _ _).1 hp
  have hk:Rows.uptoBulkAll (ds++gs)≤1048576:=of_decide_eq_true hkk
  have:=contract (w.forCall tape i) _ i.args ds gs before hval (DataW.Whole.of_heap (w':=w.forCall tape i) (by rfl) hw) hk (hX _ _ _ (by rfl) hx') hshape
  exact this.mono fun e W' h=>by
   obtain⟨v,he,hp⟩:=h
   subst he
   exact ChangeSpec.post_blind hp
open Go.ChangeShapes Go.WideShapes Go.ChangeAt Go.RowKit
section
variable {H:Type} {enc:TypeId × Value→H} {P:Program} {w:World} {base:Nat} {spare:Nat→Bool} {held:Bool}
theorem trod_struct6 {t:TypeId}{f0 f1 f2 f3 f4 f5:Field}{fuel:Nat}{cs:List Value}{x:DataW H × List MemPlace}(ht:P.underlying t=some (.struct #[f0,f1,f2,f3,f4,f5]))(h:DataW.trod enc P w base spare held fuel t cs=some x) :
  ∃ y0 y1 y2 y3 y4 y5 n,x.1=.agg [y0.1,y1.1,y2.1,y3.1,y4.1,y5.1]∧cs.length=P.cellsOf t∧DataW.trod enc P w base spare held n f0.type ((cs.drop f0.offset).take (P.cellsOf f0.type))=some y0 ∧
   DataW.trod enc P w base spare held n f1.type ((cs.drop f1.offset).take (P.cellsOf f1.type))=some y1∧DataW.trod enc P w base spare held n f2.type ((cs.drop f2.offset).take (P.cellsOf f2.type))=some y2 ∧
   DataW.trod enc P w base spare held n f3.type ((cs.drop f3.offset).take (P.cellsOf f3.type))=some y3∧DataW.trod enc P w base spare held n f4.type ((cs.drop f4.offset).take (P.cellsOf f4.type))=some y4 ∧
   DataW.trod enc P w base spare held n f5.type ((cs.drop f5.offset).take (P.cellsOf f5.type))=some y5:=by
 obtain⟨xs,n,_,rfl,hl,hlen,hf⟩:=DataW.trod_struct ht h
 match xs,hlen with
 | [y0,y1,y2,y3,y4,y5],_=>exact⟨y0,y1,y2,y3,y4,y5,n,by simp,hl,by simpa using hf 0 f0 rfl,by simpa using hf 1 f1 rfl,by simpa using hf 2 f2 rfl,by simpa using hf 3 f3 rfl,by simpa using hf 4 f4 rfl,by simpa using hf 5 f5 rfl⟩
end
def atBk:List AT→Nat
 | []=>0
 | x :: l=>1+x.1.size+x.2.size+atBk l
mutual
def Nd.bk:Nd→Nat
 | .mk _ _ nm at' tx ks=>2+nm.size+tx.size+atBk at'+bkAll ks
def bkAll:List Nd→Nat
 | []=>0
 | k :: ks=>k.bk+bkAll ks
end
theorem size_data (s:ByteArray):s.data.toList.length=s.size:=rfl
variable {H:Type} {enc:TypeId × Value→H} {W:World}
theorem bulk_range (D:Nat→DataW H):∀ (m k:Nat),k<m→Rows.uptoBulkAll ((List.range' k (m-k)).map D)=Rows.uptoBulk (D k)+Rows.uptoBulkAll ((List.range' (k+1) (m-(k+1))).map D):=by
 intro m k h
 rw[show m-k=(m-(k+1))+1 by omega,List.range'_succ]
 rfl
theorem bulk_pos (d:DataW H):1≤Rows.uptoBulk d:=by
 cases d with
 | lit l=>cases l<;>simp[Rows.uptoBulk]
 | _=>simp[Rows.uptoBulk]
theorem spot_none {a:Addr}{n:Nat}{cs:List Value}{b:Nat}(h:W.cells? b a n=some cs)(hn:0<n):a.spot=none:=by
 obtain⟨_,hl,h2⟩:=World.cells?_some h
 have h3:=h2 0 (by omega)
 rw[List.getElem?_eq_getElem (by omega)] at h3
 simpa [Addr.add] using World.cell?_spot h3
theorem attrs_in {cs:List Value}{y:DataW H × List MemPlace}{n:Nat}(h:DataW.trod enc Tryz.prog W 0 (fun _=>true) true n 33 cs=some y) :
  ∃ v l,cs=[v]∧AttrsV W v l∧atBk l≤Rows.uptoBulk y.1:=by
 rcases Go.Deep.open_slice Tryz.underlying33 h with⟨rfl,rfl⟩|⟨x,len,cap,m,n',D,Pl,rfl,_,hl,hm,hmm,rfl,hcell⟩
 ·exact⟨_,[],rfl,⟨none,0,rfl,fun j hj=>absurd hj (by simp)⟩,by simp[atBk]⟩
 ·simp only[if_true] at hmm
  subst hmm
  have hc:Tryz.prog.cellsOf 39=2:=by kernel_rfl
  rw[hc] at hcell
  have c9:Tryz.prog.cellsOf 9=1:=by kernel_rfl
  have hspot:0<len→x.spot=none:=fun h0=>by
   obtain⟨cs',h1,_⟩:=hcell 0 (by omega)
   have:=spot_none h1 (by omega)
   simpa [Addr.add] using this
  have step:∀ j,j<len→x.spot=none∧∃ q:AT,W.cell? ⟨x.block,x.off+j*2,none⟩=some (.string q.1)∧W.cell? ⟨x.block,x.off+j*2+1,none⟩=some (.string q.2)∧1+q.1.size+q.2.size≤Rows.uptoBulk (D j):=by
   intro j hj
   obtain⟨cs',h1,h2⟩:=hcell j (by omega)
   obtain⟨_,hn,hcc⟩:=World.cells?_some h1
   have hsp:x.spot=none:=hspot (by omega)
   obtain⟨y0,y1,k,hD,_,t0,t1⟩:=trod_struct2 Tryz.underlying39 h2
   obtain⟨v0,v1,rfl⟩:∃ v0 v1,cs'=[v0,v1]:=by
    match cs',hn with
    | [c0,c1],_=>exact⟨c0,c1,rfl⟩
   rw[c9] at t0 t1
   have t0':DataW.trod enc Tryz.prog W 0 (fun _=>true) true k 9 [v0]=some y0:=t0
   have t1':DataW.trod enc Tryz.prog W 0 (fun _=>true) true k 9 [v1]=some y1:=t1
   obtain⟨s0,e0,rfl,_⟩:=DataW.trod_string Tryz.underlying9 t0'
   obtain⟨s1,e1,rfl,_⟩:=DataW.trod_string Tryz.underlying9 t1'
   simp only[List.cons.injEq,and_true] at e0 e1
   subst e0 e1
   refine⟨hsp,(s0,s1),?_,?_,?_⟩
   ·have:=hcc 0 (by omega)
    obtain⟨b,o,s⟩:=x
    simp only at hsp
    subst hsp
    have e:((⟨b,o,none⟩:Addr).add (j*2)).add 0=⟨b,o+j*2,none⟩:=by unfold Addr.add;split<;>simp_all
    rw[e] at this
    exact this
   ·have:=hcc 1 (by omega)
    obtain⟨b,o,s⟩:=x
    simp only at hsp
    subst hsp
    have e:((⟨b,o,none⟩:Addr).add (j*2)).add 1=⟨b,o+j*2+1,none⟩:=by
     have e':∀ o n,(⟨b,o,none⟩:Addr).add n=⟨b,o+n,none⟩:=fun o n=>by unfold Addr.add;split<;>simp_all
     rw[e',e']
    rw[e] at this
    exact this
   ·have e:=congrArg Prod.fst hD
    simp only at e
    rw[e]
    simp only[Rows.uptoBulk,Rows.uptoBulkAll,size_data]
    omega
  have build:∀ k,k≤len→∃ l:List AT,l.length=len-k∧(∀ j (h:j<l.length),∃ g off,some x=some ⟨g,off,none⟩∧W.cell? ⟨g,off+(k+j)*2,none⟩=some (.string (l[j]).1)∧W.cell? ⟨g,off+(k+j)*2+1,none⟩=some (.string (l[j]).2))∧atBk l≤Rows.uptoBulkAll ((List.range' k (len-k)).map D):=by
   intro k hk
   obtain⟨i,hi⟩:∃ i,i=len-k:=⟨_,rfl⟩
   induction i generalizing k with
   | zero=>exact⟨[],by simp;omega,fun j hj=>absurd hj (by simp),by simp[atBk]⟩
   | succ i ih =>
    obtain⟨l,h1,h2,h3⟩:=ih (k+1) (by omega) (by omega)
    obtain⟨hsp,q,q1,q2,q3⟩:=step k (by omega)
    refine⟨q :: l,by simp;omega,?_,?_⟩
    ·intro j hj
     cases j with
     | zero =>
      refine⟨x.block,x.off,?_,q1,q2⟩
      obtain⟨b,o,s⟩:=x
      simp only at hsp
      rw[hsp]
     | succ j =>
      obtain⟨g,off,e,c1,c2⟩:=h2 j (by simpa using hj)
      rw[show k+1+j=k+(j+1) by omega] at c1 c2
      exact⟨g,off,e,c1,c2⟩
    ·rw[bulk_range D len k (by omega)]
     unfold atBk
     omega
  obtain⟨l,h1,h2,h3⟩:=build 0 (Nat.zero_le _)
  refine⟨_,l,rfl,⟨some x,_,by rw[h1,Nat.sub_zero],fun j hj=>?_⟩,?_⟩
  ·obtain⟨g,off,e,c1,c2⟩:=h2 j hj
   rw[Nat.zero_add] at c1 c2
   exact⟨g,off,e,c1,c2⟩
  ·rw[Nat.sub_zero,← List.range_eq_range'] at h3
   simp only[Rows.uptoBulk]
   omega
theorem atBk_len:∀ l:List AT,l.length≤atBk l:=by
 intro l
 induction l with
 | nil=>exact Nat.le_refl _
 | cons x l ih=>unfold atBk;simp;omega
theorem atBk_mem:∀ (l:List AT) (x:AT),x∈l→x.1.size+x.2.size≤atBk l:=by
 intro l
 induction l with
 | nil=>intro x h;simp at h
 | cons y l ih =>
  intro x h
  unfold atBk
  rcases List.mem_cons.1 h with rfl|h
  ·omega
  ·have:=ih x h;omega
theorem bk_pos (n:Nd):1≤n.bk:=by cases n;unfold Nd.bk;omega
theorem bkAll_len:∀ ks:List Nd,ks.length≤bkAll ks:=by
 intro ks
 induction ks with
 | nil=>exact Nat.le_refl _
 | cons k ks ih=>unfold bkAll;have:=bk_pos k;simp;omega
theorem bulk_elem (D:Nat→DataW H):∀ (m k j:Nat),k≤j→j<m→Rows.uptoBulk (D j)≤Rows.uptoBulkAll ((List.range' k (m-k)).map D):=by
 intro m k j h1 h2
 obtain⟨i,hi⟩:∃ i,i=j-k:=⟨_,rfl⟩
 induction i generalizing k with
 | zero =>
  obtain rfl:k=j:=by omega
  rw[bulk_range D m k h2]
  omega
 | succ i ih =>
  rw[bulk_range D m k (by omega)]
  have:=ih (k+1) (by omega) (by omega)
  omega
def NodeOk (H:Type)(enc:TypeId × Value→H)(W:World)(m:Nat):Prop :=
 ∀ (cs:List Value) (y:DataW H × List MemPlace) (n:Nat),Rows.uptoBulk y.1≤m→DataW.trod enc Tryz.prog W 0 (fun _=>true) true n 45 cs=some y →
  ∃ c0 c1 c2 c3 c4 c5 nd,cs=[c0,c1,c2,c3,c4,c5]∧NodeV W nd (.agg #[c0,c1,c2,c3,c4,c5])∧nd.bk≤Rows.uptoBulk y.1
def KidsOk (H:Type)(enc:TypeId × Value→H)(W:World)(m:Nat):Prop :=
 ∀ (cs:List Value) (y:DataW H × List MemPlace) (n:Nat),Rows.uptoBulk y.1≤m→DataW.trod enc Tryz.prog W 0 (fun _=>true) true n 43 cs=some y →
  ∃ a c ks,cs=[.slice a ks.length c]∧KidsV W a 0 ks∧bkAll ks≤Rows.uptoBulk y.1∧ks.length≤c
theorem node_step (m:Nat)(hm:m≤1048576)(ih:∀ m',m'<m→KidsOk H enc W m'):NodeOk H enc W m:=by
 intro cs y n hy h
 obtain⟨y0,y1,y2,y3,y4,y5,k,hD,hl,t0,t1,t2,t3,t4,t5⟩:=trod_struct6 Tryz.underlying45 h
 have hc:Tryz.prog.cellsOf 45=6:=by kernel_rfl
 rw[hc] at hl
 obtain⟨v0,v1,v2,v3,v4,v5,rfl⟩:∃ v0 v1 v2 v3 v4 v5,cs=[v0,v1,v2,v3,v4,v5]:=by
  match cs,hl with
  | [c0,c1,c2,c3,c4,c5],_=>exact⟨c0,c1,c2,c3,c4,c5,rfl⟩
 have q3:Tryz.prog.cellsOf 3=1:=by kernel_rfl
 have q9:Tryz.prog.cellsOf 9=1:=by kernel_rfl
 have q33:Tryz.prog.cellsOf 33=1:=by kernel_rfl
 have q43:Tryz.prog.cellsOf 43=1:=by kernel_rfl
 rw[q3] at t0 t1
 rw[q9] at t2 t4
 rw[q33] at t3
 rw[q43] at t5
 have t0':DataW.trod enc Tryz.prog W 0 (fun _=>true) true k 3 [v0]=some y0:=t0
 have t1':DataW.trod enc Tryz.prog W 0 (fun _=>true) true k 3 [v1]=some y1:=t1
 have t2':DataW.trod enc Tryz.prog W 0 (fun _=>true) true k 9 [v2]=some y2:=t2
 have t3':DataW.trod enc Tryz.prog W 0 (fun _=>true) true k 33 [v3]=some y3:=t3
 have t4':DataW.trod enc Tryz.prog W 0 (fun _=>true) true k 9 [v4]=some y4:=t4
 have t5':DataW.trod enc Tryz.prog W 0 (fun _=>true) true k 43 [v5]=some y5:=t5
 obtain⟨z0,e0,_,_⟩:=DataW.trod_int Tryz.underlying3 t0'
 obtain⟨z1,e1,_,_⟩:=DataW.trod_int Tryz.underlying3 t1'
 obtain⟨s2,e2,rfl,_⟩:=DataW.trod_string Tryz.underlying9 t2'
 obtain⟨v3',at',e3,hA,hAb⟩:=attrs_in t3'
 obtain⟨s4,e4,rfl,_⟩:=DataW.trod_string Tryz.underlying9 t4'
 have hb:Rows.uptoBulk y.1=Rows.uptoBulk y0.1+(Rows.uptoBulk y1.1+(s2.size+1+(Rows.uptoBulk y3.1+(s4.size+1+(Rows.uptoBulk y5.1+0)))))+1:=by
  rw[hD]
  simp only[Rows.uptoBulk,Rows.uptoBulkAll,size_data]
 obtain⟨a,c,ks,e5,hK,hKb,_⟩:=ih (Rows.uptoBulk y5.1) (by omega) [v5] y5 k (Nat.le_refl _) t5'
 simp only[List.cons.injEq,and_true] at e0 e1 e2 e3 e4 e5
 subst e0 e1 e2 e3 e4 e5
 have hkl:=bkAll_len ks
 refine⟨_,_,_,_,_,_,.mk z0 z1 s2 at' s4 ks,rfl,?_,?_⟩
 ·unfold NodeV
  exact⟨v3,a,c,rfl,by omega,hA,hK⟩
 ·unfold Nd.bk
  have:=bulk_pos y0.1
  omega
theorem kids_step (m:Nat)(ih:∀ m',m'<m→NodeOk H enc W m'):KidsOk H enc W m:=by
 intro cs y n hy h
 rcases Go.Deep.open_slice Tryz.underlying43 h with⟨rfl,rfl⟩|⟨x,len,cap,mm,n',D,Pl,rfl,_,hl,_,hmm,rfl,hcell⟩
 ·exact⟨none,0,[],rfl,by unfold KidsV;trivial,by unfold bkAll;omega,Nat.le_refl _⟩
 ·simp only[if_true] at hmm
  subst hmm
  have hc:Tryz.prog.cellsOf 45=6:=by kernel_rfl
  rw[hc] at hcell
  have hspot:0<len→x.spot=none:=fun h0=>by
   obtain⟨cs',h1,_⟩:=hcell 0 (by omega)
   have:=spot_none h1 (by omega)
   simpa [Addr.add] using this
  have hbk:Rows.uptoBulkAll ((List.range' 0 (len-0)).map D)<Rows.uptoBulk (DataW.slice (List.map D (List.range len)) (List.map (fun j=>D (len+j)) (List.range (mm-len)))):=by
   rw[Nat.sub_zero,← List.range_eq_range']
   simp only[Rows.uptoBulk]
   omega
  have step:∀ j,j<len→x.spot=none∧∃ c0 c1 c2 c3 c4 c5 nd,Six W x.block (x.off+j*6) c0 c1 c2 c3 c4 c5∧NodeV W nd (.agg #[c0,c1,c2,c3,c4,c5])∧nd.bk≤Rows.uptoBulk (D j):=by
   intro j hj
   obtain⟨cs',h1,h2⟩:=hcell j (by omega)
   obtain⟨_,hn,hcc⟩:=World.cells?_some h1
   have hsp:x.spot=none:=hspot (by omega)
   have hle:=bulk_elem D len 0 j (Nat.zero_le _) hj
   simp only at hy
   obtain⟨c0,c1,c2,c3,c4,c5,nd,rfl,hN,hb⟩:=ih (Rows.uptoBulk (D j)) (by omega) cs' (D j,Pl j) n' (Nat.le_refl _) h2
   refine⟨hsp,c0,c1,c2,c3,c4,c5,nd,?_,hN,hb⟩
   obtain⟨b,o,s⟩:=x
   simp only at hsp
   subst hsp
   have e':∀ o n,(⟨b,o,none⟩:Addr).add n=⟨b,o+n,none⟩:=fun o n=>by unfold Addr.add;split<;>simp_all
   have g:∀ i (hi:i<6),W.cell? ⟨b,o+j*6+i,none⟩=[c0,c1,c2,c3,c4,c5][i]?:=fun i hi=>by
    have:=hcc i hi
    rw[e',e'] at this
    exact this
   exact⟨g 0 (by omega),g 1 (by omega),g 2 (by omega),g 3 (by omega),g 4 (by omega),g 5 (by omega)⟩
  have build:∀ k,k≤len→∃ ks:List Nd,ks.length=len-k∧KidsV W (some x) k ks∧bkAll ks≤Rows.uptoBulkAll ((List.range' k (len-k)).map D):=by
   intro k hk
   obtain⟨i,hi⟩:∃ i,i=len-k:=⟨_,rfl⟩
   induction i generalizing k with
   | zero=>exact⟨[],by simp;omega,by unfold KidsV;trivial,by simp[bkAll]⟩
   | succ i ihk =>
    obtain⟨ks,h1,h2,h3⟩:=ihk (k+1) (by omega) (by omega)
    obtain⟨hsp,c0,c1,c2,c3,c4,c5,nd,q1,q2,q3⟩:=step k (by omega)
    refine⟨nd :: ks,by simp;omega,?_,?_⟩
    ·unfold KidsV
     refine⟨⟨x.block,x.off,c0,c1,c2,c3,c4,c5,?_,q1,q2⟩,h2⟩
     obtain⟨b,o,s⟩:=x
     simp only at hsp
     rw[hsp]
    ·rw[bulk_range D len k (by omega)]
     unfold bkAll
     omega
  obtain⟨ks,h1,h2,h3⟩:=build 0 (Nat.zero_le _)
  refine⟨some x,_,ks,by rw[h1,Nat.sub_zero],h2,?_,by omega⟩
  simp only
  omega
theorem nodes_ok:∀ m,m≤1048576→NodeOk H enc W m∧KidsOk H enc W m:=by
 intro m
 induction m using Nat.strongRecOn with
 | ind m ih=>exact fun hm=>⟨node_step m hm (fun m' h=>(ih m' h (by omega)).2),kids_step m (fun m' h=>(ih m' h (by omega)).1)⟩
theorem kids_arg {a:Option Addr}{len cap:Nat}{d:DataW H}{p:List MemPlace}(h:DataW.Trod enc Tryz.prog W 0 (fun _=>true) true 43 (.slice a len cap) d p)(hd:Rows.uptoBulk d≤1048576) :
  ∃ ks:List Nd,KidsV W a 0 ks∧len=ks.length∧bkAll ks≤Rows.uptoBulk d:=by
 obtain⟨fuel,hf⟩:=h
 obtain⟨a',c',ks,e,hK,hb,_⟩:=(nodes_ok (enc:=enc) (W:=W) _ hd).2 _ _ _ (Nat.le_refl _) hf
 simp[Value.cells] at e
 obtain⟨rfl,rfl,rfl⟩:=e
 exact⟨ks,hK,rfl,hb⟩
open Go.RowKit
def sCaption:ByteArray:=⟨#[99,97,112,116,105,111,110]⟩
abbrev VFam:=ByteArray→ByteArray→ByteArray→Option ByteArray
def wordsN (n:Nd):Bool:=wordsB n.kind n.space n.name n.text n.attrs.length n.kids.length
def elemN (n:Nd):Bool:=elemB n.kind n.space n.text
def isText:Option Nd→Bool
 | some n=>decide (n.kind=2)
 | none=>false
def kidOk (VV:VFam)(pn:ByteArray)(ph:List ByteArray)(prev:Option Nd)(k:Nd):Prop :=
 (wordsN k=true∧takesL pn.data.toList=true∧isText prev=false) ∨
 (wordsN k=false∧elemN k=true∧mayL pn.data.toList k.name.data.toList=true∧k.name∉ph∧¬ (k.name=sCaption∧prev.isSome=true)∧AttrsR (VV k.name) k.attrs k.attrs)
mutual
def HoldsN (VV:VFam):List ByteArray→Nd→Prop
 | ph,.mk _ _ nm _ _ ks=>HoldsK VV nm (if kindL nm.data.toList=4 then ph++[nm] else ph) none ks
def HoldsK (VV:VFam)(pn:ByteArray)(ph:List ByteArray):Option Nd→List Nd→Prop
 | _,[]=>True
 | prev,k :: ks=>(kidOk VV pn ph prev k∧(wordsN k=false→HoldsN VV ph k))∧HoldsK VV pn ph (some k) ks
end
def prevOf (ks:List Nd)(j:Nat):Option Nd:=if j=0 then none else ks[j-1]?
theorem holdsK_step (VV:VFam)(pn:ByteArray)(ph:List ByteArray)(ks:List Nd)(j:Nat)(h:j<ks.length) :
  HoldsK VV pn ph (prevOf ks j) (ks.drop j)↔(kidOk VV pn ph (prevOf ks j) ks[j]∧(wordsN ks[j]=false→HoldsN VV ph ks[j]))∧HoldsK VV pn ph (prevOf ks (j+1)) (ks.drop (j+1)):=by
 rw[List.drop_eq_getElem_cons h]
 conv=>lhs;unfold HoldsK
 have:prevOf ks (j+1)=some ks[j]:=by
  unfold prevOf
  rw[if_neg (by omega),Nat.add_sub_cancel,List.getElem?_eq_getElem h]
 rw[this]
open Go.RowKit
mutual
def SmN:Nd→Prop
 | .mk _ _ nm at' tx ks=>nm.size≤1048576∧tx.size≤100000000∧at'.length≤1048576∧(∀ x∈at',x.1.size≤1048576∧x.2.size≤1048576)∧SmK ks
def SmK:List Nd→Prop
 | []=>True
 | n :: ks=>SmN n∧SmK ks
end
theorem SmK.get:∀ (ks:List Nd) (j:Nat) (h:j<ks.length),SmK ks→SmN ks[j]:=by
 intro ks
 induction ks with
 | nil=>intro j h;simp at h
 | cons n ks ih =>
  intro j h hs
  unfold SmK at hs
  cases j with
  | zero=>exact hs.1
  | succ j=>exact ih j (by simpa using h) hs.2
theorem SmN.get {n:Nd}(h:SmN n):n.name.size≤1048576∧n.text.size≤100000000∧n.attrs.length≤1048576∧(∀ x∈n.attrs,x.1.size≤1048576∧x.2.size≤1048576)∧SmK n.kids:=by
 cases n
 unfold SmN at h
 exact h
open Go.RowKit
structure Phr (w:World) (pv:Value) (ph:List ByteArray):Prop where
 vec:VecAt w pv ph.length (ph.map strV)
 cap:∃ a c,pv=.slice a ph.length c∧ph.length≤c
theorem Phr.below {w w':World}{B:Nat}{pv:Value}{ph:List ByteArray}(h:Phr w pv ph)(hb:Below B w w')(hB:w.heap.size≤B):Phr w' pv ph:=⟨h.vec.below hb hB,h.cap⟩
theorem Phr.nil (w:World):Phr w (.slice none 0 0) []:=⟨⟨none,0,rfl,fun j u hj=>by simp at hj⟩,⟨none,0,rfl,Nat.le_refl _⟩⟩
open Go.RowKit
def VFok (VV:VFam):Prop:=∀ e n v,e.size≤1048576→n.size≤1048576→v.size≤1048576→ValueR e n v (VV e n v)
structure HeldAt (VV:VFam) (ks:List Nd) (nm:ByteArray) (ph:List ByteArray) (r:Bool) (k:Nat):Prop where
 le:k≤ks.length
 iff:r=true↔HoldsK VV nm ph (prevOf ks k) (ks.drop k)
theorem HeldAt.start {VV:VFam}{ks:List Nd}{nm:ByteArray}{ph:List ByteArray}{r:Bool}(h:r=true↔HoldsK VV nm ph none ks):HeldAt VV ks nm ph r 0:=⟨Nat.zero_le _,h⟩
theorem HeldAt.done {VV:VFam}{ks:List Nd}{nm:ByteArray}{ph:List ByteArray}{r:Bool}{k:Nat}(h:HeldAt VV ks nm ph r k)(hk:ks.length≤k):r=true:=by
 rw[h.iff,List.drop_eq_nil_of_le hk]
 unfold HoldsK
 trivial
theorem HeldAt.no {VV:VFam}{ks:List Nd}{nm:ByteArray}{ph:List ByteArray}{r:Bool}{k:Nat}(h:HeldAt VV ks nm ph r k)(hk:k<ks.length)(hn:¬ (kidOk VV nm ph (prevOf ks k) ks[k]∧(wordsN ks[k]=false→HoldsN VV ph ks[k]))):r=false:=by
 cases hr:r with
 | false=>rfl
 | true=>exact absurd ((holdsK_step VV nm ph ks k hk).1 (h.iff.1 hr)).1 hn
theorem HeldAt.yes {VV:VFam}{ks:List Nd}{nm:ByteArray}{ph:List ByteArray}{r:Bool}{k:Nat}(h:HeldAt VV ks nm ph r k)(hk:k<ks.length)(hn:kidOk VV nm ph (prevOf ks k) ks[k]∧(wordsN ks[k]=false→HoldsN VV ph ks[k])):HeldAt VV ks nm ph r (k+1):=by
 refine⟨hk,?_⟩
 rw[h.iff,holdsK_step VV nm ph ks k hk]
 exact⟨fun x=>x.2,fun x=>⟨hn,x⟩⟩
theorem NodeV.attrs {w:World}{n:Nd}{c0 c1 c2 c4 c5:Value}{a:Option Addr}{m b:Nat}(h:NodeV w n (.agg #[c0,c1,c2,.slice a m b,c4,c5])):AttrsV w (.slice a m b) n.attrs:=by
 obtain⟨av,a',c',e,hA,_,_⟩:=h.get
 simp only[Value.agg.injEq] at e
 have e3:=congrArg (fun x:Array Value=>x[3]?) e
 simp at e3
 rw[e3]
 exact hA
open Go.RowKit
theorem bk_eq (n:Nd):n.bk=2+n.name.size+n.text.size+atBk n.attrs+bkAll n.kids:=by
 cases n
 conv=>lhs;unfold Nd.bk
 rfl
theorem bkAll_cons (n:Nd)(ns:List Nd):bkAll (n :: ns)=n.bk+bkAll ns:=by conv=>lhs;unfold bkAll
theorem smK_cons (n:Nd)(ns:List Nd):SmK (n :: ns)↔SmN n∧SmK ns:=by
 conv=>lhs;unfold SmK
theorem smK_nil:SmK []:=by unfold SmK;trivial
theorem smN_iff (n:Nd):SmN n↔n.name.size≤1048576∧n.text.size≤100000000∧n.attrs.length≤1048576∧(∀ x∈n.attrs,x.1.size≤1048576∧x.2.size≤1048576)∧SmK n.kids:=by
 cases n
 conv=>lhs;unfold SmN
 exact Iff.rfl
theorem bk_sm:(∀ n:Nd,n.bk≤1048576→SmN n)∧∀ l:List Nd,bkAll l≤1048576→SmK l:=by
 refine nd_ind (P:=fun n=>n.bk≤1048576→SmN n) (Q:=fun l=>bkAll l≤1048576→SmK l) ?_ ?_ ?_
 ·intro n ih h
  rw[bk_eq] at h
  have h1:=atBk_len n.attrs
  refine(smN_iff n).2 ⟨by omega,by omega,by omega,fun x hx=>?_,ih (by omega)⟩
  have:=atBk_mem n.attrs x hx
  omega
 ·intro _;exact smK_nil
 ·intro n ns h1 h2 h
  rw[bkAll_cons] at h
  exact(smK_cons n ns).2 ⟨h1 (by omega),h2 (by omega)⟩
theorem bk_sz:(∀ n:Nd,2*n.sz≤n.bk)∧∀ l:List Nd,2*szAll l≤bkAll l:=by
 refine nd_ind (P:=fun n=>2*n.sz≤n.bk) (Q:=fun l=>2*szAll l≤bkAll l) ?_ ?_ ?_
 ·intro n ih
  rw[bk_eq,sz_kids]
  omega
 ·unfold szAll bkAll;omega
 ·intro n ns h1 h2
  rw[bkAll_cons]
  unfold szAll
  omega
end Go.Proofs.YtcfgbdhpcboikaaGreatDoor
