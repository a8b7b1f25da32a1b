/-
From the listed variables to the facts on cells that the walks ask.
-/
import Derived.Test.YtcfgbdhpcboikaaGreatDoorNum
import Derived.LaidMore
import Derived.OpenShut
import Derived.ProofKit
import Derived.Deep.Strs
import Derived.Stop.LaidErr
import Derived.Test.YtcfgbdhpcboikaaGreatDoorTie
import Derived.Lay
import Derived.Lib.LaidU8T
namespace Go.Proofs.YtcfgbdhpcboikaaGreatDoor
set_option maxRecDepth 100000
open Go.RowKit
section
variable {P:Program} {W:World}
theorem lO {n:String}{d:DataW Unit}{rest:List (String × DataW Unit)}{g:Nat}{t:TypeId}(h:laidMet P ((n,d) :: rest) W)(hg:P.globalNamed n=some g)(hty:(P.globals[g]?).map (·.type)=some t) :
  ∃cs fuel p,W.var? P n=some cs∧DataW.trod (fun _=>()) P W 0 (fun _=>true) false fuel t cs.toList=some (d,p):=by
 obtain⟨ps,⟨g',t',cs,fuel,p,q,hg',ht',hv,hd,_,_⟩,_,_⟩:=h;obtain rfl:=Option.some.inj (hg.symm.trans hg');obtain rfl:=Option.some.inj (hty.symm.trans ht');exact⟨cs,fuel,p,hv,hd⟩
theorem aH9 {t:TypeId}{k:FloatKind}{fuel b:Nat}{cs:List Value}{p:List MemPlace}(ht:P.underlying t=some (.float k))(h:DataW.trod (fun _=>()) P W 0 (fun _=>true) false fuel t cs=some (.lit (.float k b),p)):cs=[.float k b]:=by
 cases fuel with
 | zero=>simp[DataW.trod]at h
 | succ n =>
  unfold DataW.trod at h;rw[ht]at h
  split at h<;>simp_all
theorem lE {t:TypeId}{k:IntKind}{fuel:Nat}{z:Int}{cs:List Value}{p:List MemPlace}(ht:P.underlying t=some (.int k))(h:DataW.trod (fun _=>()) P W 0 (fun _=>true) false fuel t cs=some (.lit (.int k z),p)):cs=[.int k z]:=by
 obtain⟨z',e1,e2,_⟩:=DataW.trod_int ht h;simp only[Prod.mk.injEq,DataW.lit.injEq,Lit.int.injEq,true_and]at e2;rw[e1,e2.1]
theorem aKA {t:TypeId}{fuel:Nat}{l:List UInt8}{cs:List Value}{p:List MemPlace}(ht:P.underlying t=some .string)(h:DataW.trod (fun _=>()) P W 0 (fun _=>true) false fuel t cs=some (.lit (.string l),p)):cs=[.string ⟨l.toArray⟩]:=by
 cases fuel with
 | zero=>simp[DataW.trod]at h
 | succ n =>
  unfold DataW.trod at h;rw[ht]at h
  split at h;all_goals first|(simp_all;done)|skip
  split at h
  ·simp only[Option.some.injEq,Prod.mk.injEq,DataW.lit.injEq,Lit.string.injEq]at h;obtain⟨h1,_⟩:=h;subst h1;rfl
  ·cases h
theorem aAh {t e:TypeId}{fuel:Nat}{cs:List Value}{ds:List (DataW Unit)}{p:List MemPlace}(ht:P.underlying t=some (.slice e))(h:DataW.trod (fun _=>()) P W 0 (fun _=>true) false fuel t cs=some (.slice ds [],p)) :
  ∃a n,cs=[.slice (some a) ds.length ds.length]∧∀i d,ds[i]?=some d→∃q,(W.cells? 0 (a.add (i*P.cellsOf e)) (P.cellsOf e)).bind (DataW.trod (fun _=>()) P W 0 (fun _=>true) false n e)=some (d,q):=by
 rcases DataW.trod_slice ht h with⟨_,hx⟩|⟨a,len,cap,elems,rest,n,_,hcs,hx,_,hl,_,hlen,hel,hsp,_⟩
 ·simp at hx
 ·simp only[Prod.mk.injEq,DataW.slice.injEq]at hx;obtain⟨⟨h1,h2⟩,_⟩:=hx;have hr:rest=[]:=by simpa using h2.symm
  have hc:=(hsp rfl).1;rw[hr]at hc
  have hcl:cap=len:=by simp at hc;omega
  have hdl:ds.length=len:=by rw[h1];simpa using hlen
  refine⟨a,n,by rw[hcs,hcl,hdl],?_⟩;intro i d hd;have hi:i<len:=by
   have:=(List.getElem?_eq_some_iff.1 hd).1;omega
  rw[hel i hi];rw[h1,List.getElem?_map]at hd
  cases he:elems[i]? with
  | none=>rw[he]at hd;cases hd
  | some x =>
   rw[he]at hd
   simp only[Option.map_some,Option.some.injEq]at hd;exact⟨x.2,by rw[←hd]⟩
theorem aBX {t e:TypeId}{fuel:Nat}{cs:List Value}{ds:List (DataW Unit)}{p:List MemPlace}(ht:P.underlying t=some (.slice e))(hc:P.cellsOf e=1)(h:DataW.trod (fun _=>()) P W 0 (fun _=>true) false fuel t cs=some (.slice ds [],p))(hne:0<ds.length) :
  ∃b o n,cs=[.slice (some ⟨b,o,none⟩) ds.length ds.length]∧∀i d,ds[i]?=some d→∃v q,W.cell? ⟨b,o+i,none⟩=some v∧DataW.trod (fun _=>()) P W 0 (fun _=>true) false n e [v]=some (d,q):=by
 obtain⟨a,n,hcs,hel⟩:=aAh ht h;have one:∀i d,ds[i]?=some d→∃v q,W.cell? (a.add i)=some v∧DataW.trod (fun _=>()) P W 0 (fun _=>true) false n e [v]=some (d,q):=by
  intro i d hd;obtain⟨q,hq⟩:=hel i d hd;rw[hc,Nat.mul_one]at hq
  cases hx:W.cells? 0 (a.add i) 1 with
  | none=>rw[hx]at hq;cases hq
  | some l =>
   rw[hx]at hq
   obtain⟨v,rfl⟩:∃v,l=[v]:=by
    have hl:=Lib.mapM_length (f:=fun i_1=>W.cell? ((a.add i).add i_1)) (l:=List.range 1) (r:=l) (by unfold World.cells? at hx;rw[if_pos (Nat.zero_le _)]at hx;exact hx);simp at hl;match l,hl with
    | [v],_=>exact⟨v,rfl⟩
   exact⟨v,q,Go.ChangeShapes.cell_of_cells?_one hx,hq⟩
 obtain⟨d0,hd0⟩:∃d0,ds[0]?=some d0:=⟨ds[0],List.getElem?_eq_getElem hne⟩
 obtain⟨v0,q0,h0,_⟩:=one 0 d0 hd0;obtain⟨b,o,spot⟩:=a;have hs:spot=none:=by simpa [Addr.add]using World.cell?_spot h0
 subst hs;refine⟨b,o,n,hcs,?_⟩;intro i d hd;obtain⟨v,q,h1,h2⟩:=one i d hd;rw[Lib.add_plain]at h1
 exact⟨v,q,h1,h2⟩
theorem aH0 {t e:TypeId}{fuel:Nat}{cs:List Value}{ds:List (DataW Unit)}{p:List MemPlace}(ht:P.underlying t=some (.slice e))(hc:P.cellsOf e=2)(h:DataW.trod (fun _=>()) P W 0 (fun _=>true) false fuel t cs=some (.slice ds [],p))(hne:0<ds.length) :
  ∃b o n,cs=[.slice (some ⟨b,o,none⟩) ds.length ds.length]∧∀i d,ds[i]?=some d→∃v u q,W.cell? ⟨b,o+2*i,none⟩=some v∧W.cell? ⟨b,o+(2*i+1),none⟩=some u∧DataW.trod (fun _=>()) P W 0 (fun _=>true) false n e [v,u]=some (d,q):=by
 obtain⟨a,n,hcs,hel⟩:=aAh ht h;have one:∀i d,ds[i]?=some d→∃v u q,W.cell? ((a.add (i*2)).add 0)=some v∧W.cell? ((a.add (i*2)).add 1)=some u∧DataW.trod (fun _=>()) P W 0 (fun _=>true) false n e [v,u]=some (d,q):=by
  intro i d hd;obtain⟨q,hq⟩:=hel i d hd;rw[hc]at hq
  cases hx:W.cells? 0 (a.add (i*2)) 2 with
  | none=>rw[hx]at hq;cases hq
  | some l =>
   rw[hx]at hq
   have hm:(List.range 2).mapM (fun k=>W.cell? ((a.add (i*2)).add k))=some l:=by unfold World.cells? at hx;rw[if_pos (Nat.zero_le _)]at hx;exact hx
   have hl:=Lib.mapM_length hm;simp at hl;match l,hl with
   | [v,u],_ =>
    obtain⟨x0,hb0,hf0⟩:=Lib.mapM_at hm 0 0 (by simp);obtain⟨x1,hb1,hf1⟩:=Lib.mapM_at hm 1 1 (by simp);simp only[List.getElem?_cons_zero,Option.some.injEq]at hb0;simp only[List.getElem?_cons_succ,List.getElem?_cons_zero,Option.some.injEq]at hb1;subst hb0;subst hb1;exact⟨_,_,q,hf0,hf1,hq⟩
 obtain⟨d0,hd0⟩:∃d0,ds[0]?=some d0:=⟨ds[0],List.getElem?_eq_getElem hne⟩
 obtain⟨v0,u0,q0,h0,_,_⟩:=one 0 d0 hd0;obtain⟨b,o,spot⟩:=a;have hs:spot=none:=by simpa [Addr.add]using World.cell?_spot h0
 subst hs;refine⟨b,o,n,hcs,?_⟩;intro i d hd;obtain⟨v,u,q,h1,h1',h2⟩:=one i d hd;rw[wQ,Lib.add_plain]at h1 h1'
 rw[show o+2*i=o+(i*2+0) by omega,show o+(2*i+1)=o+(i*2+1) by omega];exact⟨v,u,q,h1,h1',h2⟩
end
theorem aPW {W:World}{rest:List (String × DataW Unit)}(h:laidMet Tryz.prog (("internal/strconv.optimize",Rows.laid_internal_strconv_optimize) :: rest) W):W.cell? ⟨7,0,none⟩=some (.bool true):=by
 have hg:Tryz.prog.globalNamed "internal/strconv.optimize" = some 7:=by kernel_rfl
 obtain⟨cs,fuel,p,hv,hd⟩:=lO h hg (show(Tryz.prog.globals[7]?).map (·.type)=some 4 by kernel_rfl);obtain⟨b,e1,e2⟩:=DataW.trod_bool Tryz.underlying4 hd;have hb:b=true:=by
  have:=(Prod.mk.inj e2).1;simpa [Rows.laid_internal_strconv_optimize]using this.symm
 rw[World.var?_cell hg hv 0];have:cs.toList[0]?=some (.bool b):=by rw[e1];rfl
 rw[hb]at this
 simpa using this
theorem aQi {W:World}{rest:List (String × DataW Unit)}(h:laidMet Tryz.prog (("internal/strconv.uint64pow10",Rows.laid_internal_strconv_uint64pow10) :: rest) W):Lib.TabIs Tryz.prog W "internal/strconv.uint64pow10" .u64 Lib.pow10Tab:=by
 have e:(Rows.laid_internal_strconv_uint64pow10:DataW Unit)=Lib.tabData .u64 Lib.pow10Tab:=by kernel_rfl
 rw[e]at h
 exact Lib.tabIs_of_head aHo (show(Tryz.prog.globals[9]?).map (·.type)=some 259 by kernel_rfl) Tryz.underlying259 Tryz.underlying163 (by kernel_rfl) (by kernel_rfl) h
open Go.RowKit
theorem zD {a b:List (DataW Unit)}(h:DataW.agg a=DataW.agg b):a=b:=by cases h;rfl
theorem aPB {W:World}{rest:List (String × DataW Unit)}(h:laidMet Tryz.prog (("internal/strconv.float64pow10",Rows.laid_internal_strconv_float64pow10) :: rest) W) :
  ∃b o,W.cell? ⟨12,0,none⟩=some (.slice (some ⟨b,o,none⟩) 23 23)∧∀i,i<23→W.cell? ⟨b,o+i,none⟩=some (.float .f64 (gB.getD i 0)):=by
 have hg:Tryz.prog.globalNamed "internal/strconv.float64pow10" = some 12:=by kernel_rfl
 obtain⟨cs,fuel,p,hv,hd⟩:=lO h hg (show(Tryz.prog.globals[12]?).map (·.type)=some 273 by kernel_rfl);have e:(Rows.laid_internal_strconv_float64pow10:DataW Unit)=.slice (gB.map fun b=>.lit (.float .f64 b)) []:=by kernel_rfl
 rw[e]at hd
 obtain⟨b,o,n,e1,hel⟩:=aBX Tryz.underlying273 (by kernel_rfl) hd (by decide);refine⟨b,o,?_,?_⟩
 ·rw[World.var?_cell hg hv 0];have:cs.toList[0]?=some (.slice (some ⟨b,o,none⟩) 23 23):=by rw[e1];rfl
  simpa using this
 ·intro i hi;have hl:gB.length=23:=by decide
  obtain⟨v,q,h1,h2⟩:=hel i (.lit (.float .f64 (gB.getD i 0))) (by rw[List.getElem?_map,List.getD,List.getElem?_eq_getElem (by omega)];rfl);have:=aH9 Tryz.underlying25 h2;simp only[List.cons.injEq,and_true]at this;rw[h1,this]
theorem aQZ {W:World}{rest:List (String × DataW Unit)}(h:laidMet Tryz.prog (("internal/strconv.powtab",Rows.laid_internal_strconv_powtab) :: rest) W) :
  ∃b o,W.cell? ⟨11,0,none⟩=some (.slice (some ⟨b,o,none⟩) 9 9)∧∀i,i<9→W.cell? ⟨b,o+i,none⟩=some (.int .i64 (aBE.getD i 0)):=by
 have hg:Tryz.prog.globalNamed "internal/strconv.powtab" = some 11:=by kernel_rfl
 obtain⟨cs,fuel,p,hv,hd⟩:=lO h hg (show(Tryz.prog.globals[11]?).map (·.type)=some 272 by kernel_rfl);have e:(Rows.laid_internal_strconv_powtab:DataW Unit)=.slice (aBE.map fun b=>.lit (.int .i64 b)) []:=by kernel_rfl
 rw[e]at hd
 obtain⟨b,o,n,e1,hel⟩:=aBX Tryz.underlying272 (by kernel_rfl) hd (by decide);refine⟨b,o,?_,?_⟩
 ·rw[World.var?_cell hg hv 0];have:cs.toList[0]?=some (.slice (some ⟨b,o,none⟩) 9 9):=by rw[e1];rfl
  simpa using this
 ·intro i hi;have hl:aBE.length=9:=by decide
  obtain⟨v,q,h1,h2⟩:=hel i (.lit (.int .i64 (aBE.getD i 0))) (by rw[List.getElem?_map,List.getD,List.getElem?_eq_getElem (by omega)];rfl);have:=lE Tryz.underlying3 h2;simp only[List.cons.injEq,and_true]at this;rw[h1,this]
theorem aIF {W:World}{rest:List (String × DataW Unit)}(h:laidMet Tryz.prog (("internal/strconv.leftcheats",Rows.laid_internal_strconv_leftcheats) :: rest) W) :
  ∃b o,W.cell? ⟨14,0,none⟩=some (.slice (some ⟨b,o,none⟩) 61 61)∧∀i,i<61→W.cell? ⟨b,o+2*i,none⟩=some (.int .i64 (Pinned.cheatRows.getD i (0,[])).1)∧W.cell? ⟨b,o+(2*i+1),none⟩=some (.string ⟨(Pinned.cheatRows.getD i (0,[])).2.toArray⟩):=by
 have hg:Tryz.prog.globalNamed "internal/strconv.leftcheats" = some 14:=by kernel_rfl
 obtain⟨cs,fuel,p,hv,hd⟩:=lO h hg (show(Tryz.prog.globals[14]?).map (·.type)=some 287 by kernel_rfl);have e:(Rows.laid_internal_strconv_leftcheats:DataW Unit)=.slice (Pinned.cheatRows.map fun x=>.agg [.lit (.int .i64 x.1),.lit (.string x.2)]) []:=rfl;have hl:Pinned.cheatRows.length=61:=by kernel_rfl
 rw[e]at hd
 obtain⟨b,o,n,e1,hel⟩:=aH0 Tryz.underlying287 (by kernel_rfl) hd (by rw[List.length_map,hl];omega);rw[List.length_map,hl]at e1
 refine⟨b,o,?_,?_⟩
 ·rw[World.var?_cell hg hv 0];have:cs.toList[0]?=some (.slice (some ⟨b,o,none⟩) 61 61):=by rw[e1];rfl
  simpa using this
 ·intro i hi;obtain⟨x,hx⟩:∃x,Pinned.cheatRows[i]?=some x:=⟨_,List.getElem?_eq_getElem (by omega)⟩
  have hgd:Pinned.cheatRows.getD i (0,[])=x:=by rw[List.getD,hx];rfl
  rw[hgd];obtain⟨v,u,q,h1,h2,h3⟩:=hel i (.agg [.lit (.int .i64 x.1),.lit (.string x.2)]) (by rw[List.getElem?_map,hx];rfl);obtain⟨y0,y1,m,ex,_,hy0,hy1⟩:=ChangeShapes.trod_struct2 Tryz.underlying286 h3;have c3:Tryz.prog.cellsOf 3=1:=by kernel_rfl
  have c9:Tryz.prog.cellsOf 9=1:=by kernel_rfl
  simp only[Prod.mk.injEq]at ex;have ea:=zD ex.1;simp only[List.cons.injEq,and_true]at ea;obtain⟨y0a,y0b⟩:=y0;obtain⟨y1a,y1b⟩:=y1;dsimp only at ea
  rw[←ea.1,c3]at hy0
  rw[←ea.2,c9]at hy1
  have k0:=lE Tryz.underlying3 hy0;have k1:=aKA Tryz.underlying9 hy1;simp at k0 k1;rw[h1,h2,k0,k1];exact⟨rfl,rfl⟩
theorem aPY {W:World}{rest:List (String × DataW Unit)}(h:laidMet Tryz.prog (("internal/strconv.pow10Tab",Rows.laid_internal_strconv_pow10Tab) :: rest) W) :
  ∀i,i<696→W.cell? ⟨13,2*i,none⟩=some (.int .u64 (aH i))∧W.cell? ⟨13,2*i+1,none⟩=some (.int .u64 (aR i)):=by
 have hg:Tryz.prog.globalNamed "internal/strconv.pow10Tab" = some 13:=by kernel_rfl
 obtain⟨cs,fuel,p,hv,hd⟩:=lO h hg (show(Tryz.prog.globals[13]?).map (·.type)=some 283 by kernel_rfl);have e:(Rows.laid_internal_strconv_pow10Tab:DataW Unit)=.agg (Pinned.pow10Rows.map fun x=>.agg [.lit (.int .u64 x.1),.lit (.int .u64 x.2)]):=rfl;have hl:Pinned.pow10Rows.length=696:=by kernel_rfl
 have c184:Tryz.prog.cellsOf 282=2:=by kernel_rfl
 have c22:Tryz.prog.cellsOf 163=1:=by kernel_rfl
 rw[e]at hd
 obtain⟨xs,m,_,ex,_,hxl,hel⟩:=DataW.trod_array Tryz.underlying283 hd;intro i hi;obtain⟨x,hx⟩:∃x,Pinned.pow10Rows[i]?=some x:=⟨_,List.getElem?_eq_getElem (by omega)⟩
 have hhi:aH i=x.1:=by unfold aH;rw[List.getD,hx];rfl
 have hlo:aR i=x.2:=by unfold aR;rw[List.getD,hx];rfl
 have h1:=hel i hi;rw[c184]at h1
 have hxi:(xs.map (·.1))[i]?=some (.agg [.lit (.int .u64 x.1),.lit (.int .u64 x.2)]):=by
  have:=zD (Prod.mk.inj ex).1;rw[←this,List.getElem?_map,hx];rfl
 rw[List.getElem?_map]at hxi
 cases hq:xs[i]? with
 | none=>rw[hq]at hxi;cases hxi
 | some z =>
  rw[hq]at h1 hxi
  simp only[Option.map_some,Option.some.injEq]at hxi;obtain⟨za,zb⟩:=z;dsimp only at hxi
  rw[hxi]at h1
  obtain⟨y0,y1,k,ey,_,hy0,hy1⟩:=ChangeShapes.trod_struct2 Tryz.underlying282 h1;simp only[Prod.mk.injEq]at ey;have ea:=zD ey.1;simp only[List.cons.injEq,and_true]at ea;obtain⟨y0a,y0b⟩:=y0;obtain⟨y1a,y1b⟩:=y1;dsimp only at ea
  rw[←ea.1,c22]at hy0
  rw[←ea.2,c22]at hy1
  have k0:=lE Tryz.underlying163 hy0;have k1:=lE Tryz.underlying163 hy1;rw[World.var?_cell hg hv,World.var?_cell hg hv,hhi,hlo];have g0:=congrArg (·[0]?) k0;have g1:=congrArg (·[0]?) k1;simp[List.getElem?_drop]at g0 g1
  rw[Nat.mul_comm 2 i];exact⟨by simpa using g0,by simpa using g1⟩
theorem aNO {W:World}{rest:List (String × DataW Unit)}(h:laidMet Tryz.prog (("internal/strconv.float64info",Rows.laid_internal_strconv_float64info) :: rest) W) :
  W.cell? ⟨8,0,none⟩=some (.int .u64 52)∧W.cell? ⟨8,1,none⟩=some (.int .u64 11)∧W.cell? ⟨8,2,none⟩=some (.int .i64 (-1023)):=by
 have hg:Tryz.prog.globalNamed "internal/strconv.float64info" = some 8:=by kernel_rfl
 obtain⟨cs,fuel,p,hv,hd⟩:=lO h hg (show(Tryz.prog.globals[8]?).map (·.type)=some 225 by kernel_rfl);have c63:Tryz.prog.cellsOf 148=1:=by kernel_rfl
 have c3:Tryz.prog.cellsOf 3=1:=by kernel_rfl
 obtain⟨y0,y1,y2,n,ex,_,h0,h1,h2⟩:=Deep.trod_struct3 Tryz.underlying225 hd;have ea:=zD (Prod.mk.inj ex).1;simp only[List.cons.injEq,and_true]at ea;obtain⟨y0a,y0b⟩:=y0;obtain⟨y1a,y1b⟩:=y1;obtain⟨y2a,y2b⟩:=y2;dsimp only at ea
 rw[←ea.1,c63]at h0
 rw[←ea.2.1,c63]at h1
 rw[←ea.2.2,c3]at h2
 have k0:=lE Tryz.underlying148 h0;have k1:=lE Tryz.underlying148 h1;have k2:=lE Tryz.underlying3 h2;rw[World.var?_cell hg hv,World.var?_cell hg hv,World.var?_cell hg hv];have g0:=congrArg (·[0]?) k0;have g1:=congrArg (·[0]?) k1;have g2:=congrArg (·[0]?) k2;simp[List.getElem?_drop]at g0 g1 g2
 exact⟨by simpa using g0,by simpa using g1,by simpa using g2⟩
theorem aDc : "*" ++ "errors.errorString" = "*errors.errorString" := by decide
theorem aBb (u:TypeId)(h:Tryz.prog.typeName? 3 u=some "*errors.errorString"):u=240 :=
 typeName_ptr_named (nm := "errors.errorString") (by rw[aDc];kernel_rfl) (by kernel_rfl) (by decide) u (by rw[aDc];exact h)
theorem aIS {W:World}{n:String}{text:List UInt8}{g:Nat}{rest:List (String × DataW Unit)}(h:laidMet Tryz.prog ((n,.iface "*errors.errorString" (.ptr (.agg [.lit (.string text)]))) :: rest) W)
  (hg:Tryz.prog.globalNamed n=some g) (hty:(Tryz.prog.globals[g]?).map (·.type)=some 73):∃t v,W.cell? ⟨g,0,none⟩=some (.iface t v):=by
 obtain⟨a,s,hv,_,_,_⟩:=laid_sentinel h hg hty Tryz.underlying73 aBb Tryz.underlying240 Tryz.underlying242 rfl rfl Tryz.underlying9 (by kernel_rfl) (by kernel_rfl);exact⟨_,_,by rw[World.var?_cell hg hv 0];rfl⟩
def mW:List (String × DataW Unit):=Rows.realSameRow.laid
theorem aN0 {W:World}(h:W.ShapedOpen Tryz.prog):∃m,W.cell? ⟨1,0,none⟩=some (.int .i64 m) :=
 cell_of_shapedOpen_int (t:=3) (zero:=#[.int .i64 0]) h (of_decide_eq_true (by kernel_rfl)) (by kernel_rfl) rfl (by kernel_rfl) (by kernel_rfl) Tryz.underlying3
def aMY:Go.Shelf.Ren:=⟨fun n=>n,fun|5=>5|119=>197|138=>199|139=>200|n=>n,fun|3=>4|4=>5|n=>n⟩
theorem aOX:U8Types Tryz.prog aMY:={ t5:=Tryz.underlying5,t119:=Tryz.underlying197,t138:=Tryz.underlying199,t139:=Tryz.underlying200 }
theorem aOW:U8Extra Tryz.prog aMY:={ n3:=by kernel_rfl,n4:=by kernel_rfl,y3:=by kernel_rfl,y4:=by kernel_rfl,c5:=by kernel_rfl,c119:=by kernel_rfl,c138:=by kernel_rfl }
theorem aQ8 {W:World}(h:laidMet Tryz.prog mW W):Lib.Utf8Tabs 4 5 W:=by
 have hf:Lib.VarReads Tryz.prog W "unicode/utf8.first" Lib.firstData:=by
  have:=Lib.laidMet.reads h (n := "unicode/utf8.first") (d:=Rows.laid_unicode_utf8_first) (by unfold mW Rows.realSameRow;simp);rw[show Rows.laid_unicode_utf8_first=Lib.firstData by kernel_rfl]at this
  exact this
 have ha:Lib.VarReads Tryz.prog W "unicode/utf8.acceptRanges" Lib.acceptData:=by
  have:=Lib.laidMet.reads h (n := "unicode/utf8.acceptRanges") (d:=Rows.laid_unicode_utf8_acceptRanges) (by unfold mW Rows.realSameRow;simp);rw[show(Rows.laid_unicode_utf8_acceptRanges:DataW Unit)=Lib.acceptData by kernel_rfl]at this
  exact this
 exact utf8Tabs_of_readsT aOX aOW hf ha
theorem aOH {W:World}(hL:laidMetH Tryz.prog mW W)(hS:W.ShapedOpen Tryz.prog):aA W:=by
 rw[MakeChecks.laidMetH_plain _ _ _ (by kernel_rfl)]at hL
 have h:laidMet Tryz.prog [("math/bits.deBruijn32tab",Rows.laid_math_bits_deBruijn32tab),("math/bits.deBruijn64tab",Rows.laid_math_bits_deBruijn64tab),("internal/strconv.float32info",Rows.laid_internal_strconv_float32info),("internal/strconv.float64info",Rows.laid_internal_strconv_float64info),("internal/strconv.optimize",Rows.laid_internal_strconv_optimize),("internal/strconv.powtab",Rows.laid_internal_strconv_powtab),("internal/strconv.float64pow10",Rows.laid_internal_strconv_float64pow10),("internal/strconv.float32pow10",Rows.laid_internal_strconv_float32pow10),("internal/strconv.uint64pow10",Rows.laid_internal_strconv_uint64pow10),("unicode/utf8.acceptRanges",Rows.laid_unicode_utf8_acceptRanges),("strconv.ErrRange",Rows.laid_strconv_ErrRange),("strconv.ErrSyntax",Rows.laid_strconv_ErrSyntax),("internal/strconv.leftcheats",Rows.laid_internal_strconv_leftcheats),("internal/strconv.pow10Tab",Rows.laid_internal_strconv_pow10Tab),("unicode/utf8.first",Rows.laid_unicode_utf8_first)] W:=hL;have h4:=h.tail.tail.tail;have h5:=h4.tail;have h6:=h5.tail;have h7:=h6.tail;have h9:=h7.tail.tail;have h11:=h9.tail.tail;have h12:=h11.tail;have h13:=h12.tail;have h14:=h13.tail;obtain⟨i0,i1,i2⟩:=aNO h4;exact⟨aPW h5,aN0 hS,aIS h12 (by kernel_rfl) (by kernel_rfl),aIS h11 (by kernel_rfl) (by kernel_rfl),i0,i1,i2,aPB h7,aQZ h6,aPY h14,aIF h13,aQi h9,aQ8 h⟩
open Go.ChangeShapes Go.WideShapes Go.ChangeAt Go.RowKit
theorem own:ownKnob Tryz.prog.godebug=none:=by kernel_rfl
open Go.RowKit
def aMZ {H:Type}(enc:TypeId × Value→H)(P:Program)(fn:Func)(s:ChangeSpec)(w:World)(args:Array Value)(fuel:Nat):Bool :=
 match DataW.whole enc P w fn.params.toList s.vars false args.toList fuel with
 | some x=>Rows.uptoSmall H (x.1++x.2.1)
 | none=>false
theorem aJr {H:Type}{enc:TypeId × Value→H}{C:Checked}{os:Os}{f:FuncId}{fn:Func}{s:ChangeSpec}{again:Bool}{X:World→Array Value→Prop}
  (hX:∀(w w':World) (args:Array Value),w.heap=w'.heap→X w args→X w' args)
  (own:ownKnob C.prog.godebug=none) (started:os.Started) (noInit:C.prog.inits.idxOf? f=none) (hfn:C.prog.funcs[f]?=some fn)
  (w0:World) (args0:Array Value) (fuel:Nat) (hos:w0.os=os)
  (hsh:(w0.forCall (fun _ _=>0) ⟨#[],args0,[]⟩).Shaped C.prog)
  (hok:Input.okWideB C.prog (w0.forCall (fun _ _=>0) ⟨#[],args0,[]⟩) f ⟨#[],args0,[]⟩=true)
  (hpre:aMZ enc C.prog fn s (w0.forCall (fun _ _=>0) ⟨#[],args0,[]⟩).memory args0 fuel=true)
  (hsz:s.sizedB enc C.prog fn false (w0.forCall (fun _ _=>0) ⟨#[],args0,[]⟩).memory args0 fuel=true)
  (hx:X (w0.forCall (fun _ _=>0) ⟨#[],args0,[]⟩).memory args0)
  (contract:∀(W:World) (base:Nat) (args:Array Value) (ds gs:List (DataW H)) (before:List MemPlace),
   (∀(j:Nat) t v,fn.params[j]?=some t→args[j]?=some v→Value.okWide C.prog W .any base t v) →
   DataW.Whole enc C.prog fn.params.toList s.vars false W args.toList ds gs before→Rows.uptoBulkAll (ds++gs)≤1048576→X W args→W.ShapedOpen C.prog →
   Calls C.prog f args W fun e W'=>∃v,e=.returned v∧s.post enc C.prog fn false true false again W args v W') (F:Stop.Interp) :
  ReturnsInHanded {} C os f .any (fun w args=>((Rows.OpenSpec.upto s).pre enc C.prog fn [] false w args∧X w args)∧sizedMet enc C.prog fn (Rows.OpenSpec.upto s) false w args) (((Rows.OpenSpec.upto s).at F).post enc C.prog fn false true false again):=by
 refine returnsInHanded_of_calls own started noInit ?_ ?_
 ·refine⟨w0,fun _ _=>0,⟨#[],args0,[]⟩,hos,hsh,(Input.okWide_of_okWideB (base:=0) hok).1,(Input.okWide_of_okWideB hok).2,⟨⟨?_,hx⟩,sizedMet_of_sizedB hsz⟩,?_⟩
  ·unfold aMZ at hpre;split at hpre
   ·rename_i x hw;exact(OpenSpec.pre_some (s:=Rows.OpenSpec.upto s) rfl [] false _ _).2 ⟨x.1,x.2.1,x.2.2,DataW.Whole_of_whole hw,rfl,hpre⟩
   ·cases hpre
  ·simp[Assume.holds]
 ·intro w tape i _ hshape _ hok' hpre' _;obtain⟨_,_,_,fn',hfn',_,_,_,_,hval⟩:=hok';obtain rfl:fn'=fn:=Option.some.inj (hfn'.symm.trans hfn);obtain⟨⟨hp,hx'⟩,_⟩:=hpre';obtain⟨ds,gs,before,hw,_,hkk⟩:=(OpenSpec.pre_some (s:=Rows.OpenSpec.upto s) rfl [] false _ _).1 hp;have hk:Rows.uptoBulkAll (ds++gs)≤1048576:=of_decide_eq_true hkk;have:=contract (w.forCall tape i) _ i.args ds gs before hval (DataW.Whole.of_heap (w':=w.forCall tape i) (by rfl) hw) hk (hX _ _ _ (by rfl) hx') hshape;exact this.mono fun e W' h=>by
   obtain⟨v,he,hp⟩:=h;subst he;exact ChangeSpec.post_blind hp
open Go.ChangeShapes Go.WideShapes Go.ChangeAt Go.RowKit
section
variable {H:Type} {enc:TypeId × Value→H} {P:Program} {w:World} {base:Nat} {spare:Nat→Bool} {held:Bool}
theorem aFn {t:TypeId}{f0 f1 f2 f3 f4 f5:Field}{fuel:Nat}{cs:List Value}{x:DataW H × List MemPlace}(ht:P.underlying t=some (.struct #[f0,f1,f2,f3,f4,f5]))(h:DataW.trod enc P w base spare held fuel t cs=some x) :
  ∃y0 y1 y2 y3 y4 y5 n,x.1=.agg [y0.1,y1.1,y2.1,y3.1,y4.1,y5.1]∧cs.length=P.cellsOf t∧DataW.trod enc P w base spare held n f0.type ((cs.drop f0.offset).take (P.cellsOf f0.type))=some y0 ∧
   DataW.trod enc P w base spare held n f1.type ((cs.drop f1.offset).take (P.cellsOf f1.type))=some y1∧DataW.trod enc P w base spare held n f2.type ((cs.drop f2.offset).take (P.cellsOf f2.type))=some y2 ∧
   DataW.trod enc P w base spare held n f3.type ((cs.drop f3.offset).take (P.cellsOf f3.type))=some y3∧DataW.trod enc P w base spare held n f4.type ((cs.drop f4.offset).take (P.cellsOf f4.type))=some y4 ∧
   DataW.trod enc P w base spare held n f5.type ((cs.drop f5.offset).take (P.cellsOf f5.type))=some y5:=by
 obtain⟨xs,n,_,rfl,hl,hlen,hf⟩:=DataW.trod_struct ht h;match xs,hlen with
 | [y0,y1,y2,y3,y4,y5],_=>exact⟨y0,y1,y2,y3,y4,y5,n,by simp,hl,by simpa using hf 0 f0 rfl,by simpa using hf 1 f1 rfl,by simpa using hf 2 f2 rfl,by simpa using hf 3 f3 rfl,by simpa using hf 4 f4 rfl,by simpa using hf 5 f5 rfl⟩
end
def pZ:List AT→Nat
 | []=>0
 | x :: l=>1+x.1.size+x.2.size+pZ l
mutual
def Nd.bk:Nd→Nat
 | .mk _ _ nm at' tx ks=>2+nm.size+tx.size+pZ at'+fM ks
def fM:List Nd→Nat
 | []=>0
 | k :: ks=>k.bk+fM ks
end
theorem aC7 (s:ByteArray):s.data.toList.length=s.size:=rfl
variable {H:Type} {enc:TypeId × Value→H} {W:World}
theorem qG (D:Nat→DataW H):∀(m k:Nat),k<m→Rows.uptoBulkAll ((List.range' k (m-k)).map D)=Rows.uptoBulk (D k)+Rows.uptoBulkAll ((List.range' (k+1) (m-(k+1))).map D):=by
 intro m k h;rw[show m-k=(m-(k+1))+1 by omega,List.range'_succ];rfl
theorem aK6 (d:DataW H):1≤Rows.uptoBulk d:=by
 cases d with
 | lit l=>cases l<;>simp[Rows.uptoBulk]
 | _=>simp[Rows.uptoBulk]
theorem aDb {a:Addr}{n:Nat}{cs:List Value}{b:Nat}(h:W.cells? b a n=some cs)(hn:0<n):a.spot=none:=by
 obtain⟨_,hl,h2⟩:=World.cells?_some h;have h3:=h2 0 (by omega);rw[List.getElem?_eq_getElem (by omega)]at h3
 simpa [Addr.add]using World.cell?_spot h3
theorem aK0 {cs:List Value}{y:DataW H × List MemPlace}{n:Nat}(h:DataW.trod enc Tryz.prog W 0 (fun _=>true) true n 33 cs=some y) :
  ∃v l,cs=[v]∧eI W v l∧pZ l≤Rows.uptoBulk y.1:=by
 rcases Go.Deep.open_slice Tryz.underlying33 h with⟨rfl,rfl⟩|⟨x,len,cap,m,n',D,Pl,rfl,_,hl,hm,hmm,rfl,hcell⟩
 ·exact⟨_,[],rfl,⟨none,0,rfl,fun j hj=>absurd hj (by simp)⟩,by simp[pZ]⟩
 ·simp only[if_true]at hmm;subst hmm;have hc:Tryz.prog.cellsOf 39=2:=by kernel_rfl
  rw[hc]at hcell
  have c9:Tryz.prog.cellsOf 9=1:=by kernel_rfl
  have hspot:0<len→x.spot=none:=fun h0=>by
   obtain⟨cs',h1,_⟩:=hcell 0 (by omega);have:=aDb h1 (by omega);simpa [Addr.add]using this
  have step:∀j,j<len→x.spot=none∧∃q:AT,W.cell? ⟨x.block,x.off+j*2,none⟩=some (.string q.1)∧W.cell? ⟨x.block,x.off+j*2+1,none⟩=some (.string q.2)∧1+q.1.size+q.2.size≤Rows.uptoBulk (D j):=by
   intro j hj;obtain⟨cs',h1,h2⟩:=hcell j (by omega);obtain⟨_,hn,hcc⟩:=World.cells?_some h1;have hsp:x.spot=none:=hspot (by omega);obtain⟨y0,y1,k,hD,_,t0,t1⟩:=trod_struct2 Tryz.underlying39 h2;obtain⟨v0,v1,rfl⟩:∃v0 v1,cs'=[v0,v1]:=by
    match cs',hn with
    | [c0,c1],_=>exact⟨c0,c1,rfl⟩
   rw[c9]at t0 t1
   have t0':DataW.trod enc Tryz.prog W 0 (fun _=>true) true k 9 [v0]=some y0:=t0;have t1':DataW.trod enc Tryz.prog W 0 (fun _=>true) true k 9 [v1]=some y1:=t1;obtain⟨s0,e0,rfl,_⟩:=DataW.trod_string Tryz.underlying9 t0';obtain⟨s1,e1,rfl,_⟩:=DataW.trod_string Tryz.underlying9 t1';simp only[List.cons.injEq,and_true]at e0 e1;subst e0 e1;refine⟨hsp,(s0,s1),?_,?_,?_⟩
   ·have:=hcc 0 (by omega);obtain⟨b,o,s⟩:=x;simp only at hsp;subst hsp;have e:((⟨b,o,none⟩:Addr).add (j*2)).add 0=⟨b,o+j*2,none⟩:=by unfold Addr.add;split<;>simp_all
    rw[e]at this
    exact this
   ·have:=hcc 1 (by omega);obtain⟨b,o,s⟩:=x;simp only at hsp;subst hsp;have e:((⟨b,o,none⟩:Addr).add (j*2)).add 1=⟨b,o+j*2+1,none⟩:=by
     have e':∀o n,(⟨b,o,none⟩:Addr).add n=⟨b,o+n,none⟩:=fun o n=>by unfold Addr.add;split<;>simp_all
     rw[e',e']
    rw[e]at this
    exact this
   ·have e:=congrArg Prod.fst hD;simp only at e;rw[e];simp only[Rows.uptoBulk,Rows.uptoBulkAll,aC7];omega
  have build:∀k,k≤len→∃l:List AT,l.length=len-k∧(∀j (h:j<l.length),∃g off,some x=some ⟨g,off,none⟩∧W.cell? ⟨g,off+(k+j)*2,none⟩=some (.string (l[j]).1)∧W.cell? ⟨g,off+(k+j)*2+1,none⟩=some (.string (l[j]).2))∧pZ l≤Rows.uptoBulkAll ((List.range' k (len-k)).map D):=by
   intro k hk;obtain⟨i,hi⟩:∃i,i=len-k:=⟨_,rfl⟩
   induction i generalizing k with
   | zero=>exact⟨[],by simp;omega,fun j hj=>absurd hj (by simp),by simp[pZ]⟩
   | succ i ih =>
    obtain⟨l,h1,h2,h3⟩:=ih (k+1) (by omega) (by omega);obtain⟨hsp,q,q1,q2,q3⟩:=step k (by omega);refine⟨q :: l,by simp;omega,?_,?_⟩
    ·intro j hj;cases j with
     | zero =>
      refine⟨x.block,x.off,?_,q1,q2⟩;obtain⟨b,o,s⟩:=x;simp only at hsp;rw[hsp]
     | succ j =>
      obtain⟨g,off,e,c1,c2⟩:=h2 j (by simpa using hj);rw[show k+1+j=k+(j+1) by omega]at c1 c2
      exact⟨g,off,e,c1,c2⟩
    ·rw[qG D len k (by omega)];unfold pZ;omega
  obtain⟨l,h1,h2,h3⟩:=build 0 (Nat.zero_le _);refine⟨_,l,rfl,⟨some x,_,by rw[h1,Nat.sub_zero],fun j hj=>?_⟩,?_⟩
  ·obtain⟨g,off,e,c1,c2⟩:=h2 j hj;rw[Nat.zero_add]at c1 c2
   exact⟨g,off,e,c1,c2⟩
  ·rw[Nat.sub_zero,←List.range_eq_range']at h3
   simp only[Rows.uptoBulk];omega
theorem aKV:∀l:List AT,l.length≤pZ l:=by
 intro l;induction l with
 | nil=>exact Nat.le_refl _
 | cons x l ih=>unfold pZ;simp;omega
theorem aKW:∀(l:List AT) (x:AT),x∈l→x.1.size+x.2.size≤pZ l:=by
 intro l;induction l with
 | nil=>intro x h;simp at h
 | cons y l ih =>
  intro x h;unfold pZ;rcases List.mem_cons.1 h with rfl|h
  ·omega
  ·have:=ih x h;omega
theorem aO4 (n:Nd):1≤n.bk:=by cases n;unfold Nd.bk;omega
theorem aCH:∀ks:List Nd,ks.length≤fM ks:=by
 intro ks;induction ks with
 | nil=>exact Nat.le_refl _
 | cons k ks ih=>unfold fM;have:=aO4 k;simp;omega
theorem aIB (D:Nat→DataW H):∀(m k j:Nat),k≤j→j<m→Rows.uptoBulk (D j)≤Rows.uptoBulkAll ((List.range' k (m-k)).map D):=by
 intro m k j h1 h2;obtain⟨i,hi⟩:∃i,i=j-k:=⟨_,rfl⟩
 induction i generalizing k with
 | zero =>
  obtain rfl:k=j:=by omega
  rw[qG D m k h2];omega
 | succ i ih =>
  rw[qG D m k (by omega)];have:=ih (k+1) (by omega) (by omega);omega
def aDR (H:Type)(enc:TypeId × Value→H)(W:World)(m:Nat):Prop :=
 ∀(cs:List Value) (y:DataW H × List MemPlace) (n:Nat),Rows.uptoBulk y.1≤m→DataW.trod enc Tryz.prog W 0 (fun _=>true) true n 45 cs=some y →
  ∃c0 c1 c2 c3 c4 c5 nd,cs=[c0,c1,c2,c3,c4,c5]∧aQ W nd (.agg #[c0,c1,c2,c3,c4,c5])∧nd.bk≤Rows.uptoBulk y.1
def aDQ (H:Type)(enc:TypeId × Value→H)(W:World)(m:Nat):Prop :=
 ∀(cs:List Value) (y:DataW H × List MemPlace) (n:Nat),Rows.uptoBulk y.1≤m→DataW.trod enc Tryz.prog W 0 (fun _=>true) true n 43 cs=some y →
  ∃a c ks,cs=[.slice a ks.length c]∧bD W a 0 ks∧fM ks≤Rows.uptoBulk y.1∧ks.length≤c
theorem aJA (m:Nat)(hm:m≤1048576)(ih:∀m',m'<m→aDQ H enc W m'):aDR H enc W m:=by
 intro cs y n hy h;obtain⟨y0,y1,y2,y3,y4,y5,k,hD,hl,t0,t1,t2,t3,t4,t5⟩:=aFn Tryz.underlying45 h;have hc:Tryz.prog.cellsOf 45=6:=by kernel_rfl
 rw[hc]at hl
 obtain⟨v0,v1,v2,v3,v4,v5,rfl⟩:∃v0 v1 v2 v3 v4 v5,cs=[v0,v1,v2,v3,v4,v5]:=by
  match cs,hl with
  | [c0,c1,c2,c3,c4,c5],_=>exact⟨c0,c1,c2,c3,c4,c5,rfl⟩
 have q3:Tryz.prog.cellsOf 3=1:=by kernel_rfl
 have q9:Tryz.prog.cellsOf 9=1:=by kernel_rfl
 have q33:Tryz.prog.cellsOf 33=1:=by kernel_rfl
 have q43:Tryz.prog.cellsOf 43=1:=by kernel_rfl
 rw[q3]at t0 t1
 rw[q9]at t2 t4
 rw[q33]at t3
 rw[q43]at t5
 have t0':DataW.trod enc Tryz.prog W 0 (fun _=>true) true k 3 [v0]=some y0:=t0;have t1':DataW.trod enc Tryz.prog W 0 (fun _=>true) true k 3 [v1]=some y1:=t1;have t2':DataW.trod enc Tryz.prog W 0 (fun _=>true) true k 9 [v2]=some y2:=t2;have t3':DataW.trod enc Tryz.prog W 0 (fun _=>true) true k 33 [v3]=some y3:=t3;have t4':DataW.trod enc Tryz.prog W 0 (fun _=>true) true k 9 [v4]=some y4:=t4;have t5':DataW.trod enc Tryz.prog W 0 (fun _=>true) true k 43 [v5]=some y5:=t5;obtain⟨z0,e0,_,_⟩:=DataW.trod_int Tryz.underlying3 t0';obtain⟨z1,e1,_,_⟩:=DataW.trod_int Tryz.underlying3 t1';obtain⟨s2,e2,rfl,_⟩:=DataW.trod_string Tryz.underlying9 t2';obtain⟨v3',at',e3,hA,hAb⟩:=aK0 t3';obtain⟨s4,e4,rfl,_⟩:=DataW.trod_string Tryz.underlying9 t4';have hb:Rows.uptoBulk y.1=Rows.uptoBulk y0.1+(Rows.uptoBulk y1.1+(s2.size+1+(Rows.uptoBulk y3.1+(s4.size+1+(Rows.uptoBulk y5.1+0)))))+1:=by
  rw[hD];simp only[Rows.uptoBulk,Rows.uptoBulkAll,aC7]
 obtain⟨a,c,ks,e5,hK,hKb,_⟩:=ih (Rows.uptoBulk y5.1) (by omega) [v5] y5 k (Nat.le_refl _) t5';simp only[List.cons.injEq,and_true]at e0 e1 e2 e3 e4 e5;subst e0 e1 e2 e3 e4 e5;have hkl:=aCH ks;refine⟨_,_,_,_,_,_,.mk z0 z1 s2 at' s4 ks,rfl,?_,?_⟩
 ·unfold aQ;exact⟨v3,a,c,rfl,by omega,hA,hK⟩
 ·unfold Nd.bk;have:=aK6 y0.1;omega
theorem aJk (m:Nat)(ih:∀m',m'<m→aDR H enc W m'):aDQ H enc W m:=by
 intro cs y n hy h;rcases Go.Deep.open_slice Tryz.underlying43 h with⟨rfl,rfl⟩|⟨x,len,cap,mm,n',D,Pl,rfl,_,hl,_,hmm,rfl,hcell⟩
 ·exact⟨none,0,[],rfl,by unfold bD;trivial,by unfold fM;omega,Nat.le_refl _⟩
 ·simp only[if_true]at hmm;subst hmm;have hc:Tryz.prog.cellsOf 45=6:=by kernel_rfl
  rw[hc]at hcell
  have hspot:0<len→x.spot=none:=fun h0=>by
   obtain⟨cs',h1,_⟩:=hcell 0 (by omega);have:=aDb h1 (by omega);simpa [Addr.add]using this
  have hbk:Rows.uptoBulkAll ((List.range' 0 (len-0)).map D)<Rows.uptoBulk (DataW.slice (List.map D (List.range len)) (List.map (fun j=>D (len+j)) (List.range (mm-len)))):=by
   rw[Nat.sub_zero,←List.range_eq_range'];simp only[Rows.uptoBulk];omega
  have step:∀j,j<len→x.spot=none∧∃c0 c1 c2 c3 c4 c5 nd,Six W x.block (x.off+j*6) c0 c1 c2 c3 c4 c5∧aQ W nd (.agg #[c0,c1,c2,c3,c4,c5])∧nd.bk≤Rows.uptoBulk (D j):=by
   intro j hj;obtain⟨cs',h1,h2⟩:=hcell j (by omega);obtain⟨_,hn,hcc⟩:=World.cells?_some h1;have hsp:x.spot=none:=hspot (by omega);have hle:=aIB D len 0 j (Nat.zero_le _) hj;simp only at hy;obtain⟨c0,c1,c2,c3,c4,c5,nd,rfl,hN,hb⟩:=ih (Rows.uptoBulk (D j)) (by omega) cs' (D j,Pl j) n' (Nat.le_refl _) h2;refine⟨hsp,c0,c1,c2,c3,c4,c5,nd,?_,hN,hb⟩;obtain⟨b,o,s⟩:=x;simp only at hsp;subst hsp;have e':∀o n,(⟨b,o,none⟩:Addr).add n=⟨b,o+n,none⟩:=fun o n=>by unfold Addr.add;split<;>simp_all
   have g:∀i (hi:i<6),W.cell? ⟨b,o+j*6+i,none⟩=[c0,c1,c2,c3,c4,c5][i]?:=fun i hi=>by
    have:=hcc i hi;rw[e',e']at this
    exact this
   exact⟨g 0 (by omega),g 1 (by omega),g 2 (by omega),g 3 (by omega),g 4 (by omega),g 5 (by omega)⟩
  have build:∀k,k≤len→∃ks:List Nd,ks.length=len-k∧bD W (some x) k ks∧fM ks≤Rows.uptoBulkAll ((List.range' k (len-k)).map D):=by
   intro k hk;obtain⟨i,hi⟩:∃i,i=len-k:=⟨_,rfl⟩
   induction i generalizing k with
   | zero=>exact⟨[],by simp;omega,by unfold bD;trivial,by simp[fM]⟩
   | succ i ihk =>
    obtain⟨ks,h1,h2,h3⟩:=ihk (k+1) (by omega) (by omega);obtain⟨hsp,c0,c1,c2,c3,c4,c5,nd,q1,q2,q3⟩:=step k (by omega);refine⟨nd :: ks,by simp;omega,?_,?_⟩
    ·unfold bD;refine⟨⟨x.block,x.off,c0,c1,c2,c3,c4,c5,?_,q1,q2⟩,h2⟩;obtain⟨b,o,s⟩:=x;simp only at hsp;rw[hsp]
    ·rw[qG D len k (by omega)];unfold fM;omega
  obtain⟨ks,h1,h2,h3⟩:=build 0 (Nat.zero_le _);refine⟨some x,_,ks,by rw[h1,Nat.sub_zero],h2,?_,by omega⟩;simp only;omega
theorem aEF:∀m,m≤1048576→aDR H enc W m∧aDQ H enc W m:=by
 intro m;induction m using Nat.strongRecOn with
 | ind m ih=>exact fun hm=>⟨aJA m hm (fun m' h=>(ih m' h (by omega)).2),aJk m (fun m' h=>(ih m' h (by omega)).1)⟩
theorem aLJ {a:Option Addr}{len cap:Nat}{d:DataW H}{p:List MemPlace}(h:DataW.Trod enc Tryz.prog W 0 (fun _=>true) true 43 (.slice a len cap) d p)(hd:Rows.uptoBulk d≤1048576) :
  ∃ks:List Nd,bD W a 0 ks∧len=ks.length∧fM ks≤Rows.uptoBulk d:=by
 obtain⟨fuel,hf⟩:=h;obtain⟨a',c',ks,e,hK,hb,_⟩:=(aEF (enc:=enc) (W:=W) _ hd).2 _ _ _ (Nat.le_refl _) hf;simp[Value.cells]at e
 obtain⟨rfl,rfl,rfl⟩:=e;exact⟨ks,hK,rfl,hb⟩
open Go.ChangeShapes Go.WideShapes Go.ChangeAt Go.RowKit
variable {H:Type} {enc:TypeId × Value→H} {W:World}
theorem aLV {cs:Array Value}{d:DataW H}{p:List MemPlace}(h:DataW.Trod enc Tryz.prog W 0 (fun _=>true) true 45 (.agg cs) d p)(hd:Rows.uptoBulk d≤1048576) :
  ∃n:Nd,aQ W n (.agg cs)∧n.bk≤Rows.uptoBulk d:=by
 obtain⟨fuel,hf⟩:=h;obtain⟨c0,c1,c2,c3,c4,c5,nd,e,hN,hb⟩:=(aEF (enc:=enc) (W:=W) _ hd).1 _ _ _ (Nat.le_refl _) hf;have e':cs.toList=[c0,c1,c2,c3,c4,c5]:=e;obtain rfl:cs=#[c0,c1,c2,c3,c4,c5]:=by rw[←Array.toList_inj];exact e'
 exact⟨nd,hN,hb⟩
end Go.Proofs.YtcfgbdhpcboikaaGreatDoor
