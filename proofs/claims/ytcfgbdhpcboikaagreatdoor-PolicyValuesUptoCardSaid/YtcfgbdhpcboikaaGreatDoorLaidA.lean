/-
From the listed variables to the facts on cells that the walks ask.
-/
import Derived.Test.YtcfgbdhpcboikaaGreatDoorNumD
import Derived.LaidMore
import Derived.OpenShut
import Derived.ProofKit
import Derived.Deep.Strs
import Derived.Stop.LaidErr
import Derived.Test.YtcfgbdhpcboikaaGreatDoorTie
import Derived.Lay
import Derived.Lib.LaidU8T
namespace Go.Proofs.YtcfgbdhpcboikaaGreatDoor
set_option maxRecDepth 100000
open Go.RowKit
section
variable {P:Program} {W:World}
theorem jU {n:String}{d:DataW Unit}{rest:List (String × DataW Unit)}{g:Nat}{t:TypeId}(h:laidMet P ((n,d) :: rest) W)(hg:P.globalNamed n=some g)(hty:(P.globals[g]?).map (·.type)=some t) :
  ∃cs fuel p,W.var? P n=some cs∧DataW.trod (fun _=>()) P W 0 (fun _=>true) false fuel t cs.toList=some (d,p):=by
 obtain⟨ps,⟨g',t',cs,fuel,p,q,hg',ht',hv,hd,_,_⟩,_,_⟩:=h;obtain rfl:=Option.some.inj (hg.symm.trans hg');obtain rfl:=Option.some.inj (hty.symm.trans ht');exact⟨cs,fuel,p,hv,hd⟩
theorem aGw {t:TypeId}{k:FloatKind}{fuel b:Nat}{cs:List Value}{p:List MemPlace}(ht:P.underlying t=some (.float k))(h:DataW.trod (fun _=>()) P W 0 (fun _=>true) false fuel t cs=some (.lit (.float k b),p)):cs=[.float k b]:=by
 cases fuel with
 | zero=>simp[DataW.trod]at h
 | succ n =>
  unfold DataW.trod at h;rw[ht]at h
  split at h<;>simp_all
theorem jM {t:TypeId}{k:IntKind}{fuel:Nat}{z:Int}{cs:List Value}{p:List MemPlace}(ht:P.underlying t=some (.int k))(h:DataW.trod (fun _=>()) P W 0 (fun _=>true) false fuel t cs=some (.lit (.int k z),p)):cs=[.int k z]:=by
 obtain⟨z',e1,e2,_⟩:=DataW.trod_int ht h;simp only[Prod.mk.injEq,DataW.lit.injEq,Lit.int.injEq,true_and]at e2;rw[e1,e2.1]
theorem aIN {t:TypeId}{fuel:Nat}{l:List UInt8}{cs:List Value}{p:List MemPlace}(ht:P.underlying t=some .string)(h:DataW.trod (fun _=>()) P W 0 (fun _=>true) false fuel t cs=some (.lit (.string l),p)):cs=[.string ⟨l.toArray⟩]:=by
 cases fuel with
 | zero=>simp[DataW.trod]at h
 | succ n =>
  unfold DataW.trod at h;rw[ht]at h
  split at h;all_goals first|(simp_all;done)|skip
  split at h
  ·simp only[Option.some.injEq,Prod.mk.injEq,DataW.lit.injEq,Lit.string.injEq]at h;obtain⟨h1,_⟩:=h;subst h1;rfl
  ·cases h
theorem wQ {t e:TypeId}{fuel:Nat}{cs:List Value}{ds:List (DataW Unit)}{p:List MemPlace}(ht:P.underlying t=some (.slice e))(h:DataW.trod (fun _=>()) P W 0 (fun _=>true) false fuel t cs=some (.slice ds [],p)) :
  ∃a n,cs=[.slice (some a) ds.length ds.length]∧∀i d,ds[i]?=some d→∃q,(W.cells? 0 (a.add (i*P.cellsOf e)) (P.cellsOf e)).bind (DataW.trod (fun _=>()) P W 0 (fun _=>true) false n e)=some (d,q):=by
 rcases DataW.trod_slice ht h with⟨_,hx⟩|⟨a,len,cap,elems,rest,n,_,hcs,hx,_,hl,_,hlen,hel,hsp,_⟩
 ·simp at hx
 ·simp only[Prod.mk.injEq,DataW.slice.injEq]at hx;obtain⟨⟨h1,h2⟩,_⟩:=hx;have hr:rest=[]:=by simpa using h2.symm
  have hc:=(hsp rfl).1;rw[hr]at hc
  have hcl:cap=len:=by simp at hc;omega
  have hdl:ds.length=len:=by rw[h1];simpa using hlen
  refine⟨a,n,by rw[hcs,hcl,hdl],?_⟩;intro i d hd;have hi:i<len:=by
   have:=(List.getElem?_eq_some_iff.1 hd).1;omega
  rw[hel i hi];rw[h1,List.getElem?_map]at hd
  cases he:elems[i]? with
  | none=>rw[he]at hd;cases hd
  | some x =>
   rw[he]at hd
   simp only[Option.map_some,Option.some.injEq]at hd;exact⟨x.2,by rw[←hd]⟩
theorem aAJ {t e:TypeId}{fuel:Nat}{cs:List Value}{ds:List (DataW Unit)}{p:List MemPlace}(ht:P.underlying t=some (.slice e))(hc:P.cellsOf e=1)(h:DataW.trod (fun _=>()) P W 0 (fun _=>true) false fuel t cs=some (.slice ds [],p))(hne:0<ds.length) :
  ∃b o n,cs=[.slice (some ⟨b,o,none⟩) ds.length ds.length]∧∀i d,ds[i]?=some d→∃v q,W.cell? ⟨b,o+i,none⟩=some v∧DataW.trod (fun _=>()) P W 0 (fun _=>true) false n e [v]=some (d,q):=by
 obtain⟨a,n,hcs,hel⟩:=wQ ht h;have one:∀i d,ds[i]?=some d→∃v q,W.cell? (a.add i)=some v∧DataW.trod (fun _=>()) P W 0 (fun _=>true) false n e [v]=some (d,q):=by
  intro i d hd;obtain⟨q,hq⟩:=hel i d hd;rw[hc,Nat.mul_one]at hq
  cases hx:W.cells? 0 (a.add i) 1 with
  | none=>rw[hx]at hq;cases hq
  | some l =>
   rw[hx]at hq
   obtain⟨v,rfl⟩:∃v,l=[v]:=by
    have hl:=Lib.mapM_length (f:=fun i_1=>W.cell? ((a.add i).add i_1)) (l:=List.range 1) (r:=l) (by unfold World.cells? at hx;rw[if_pos (Nat.zero_le _)]at hx;exact hx);simp at hl;match l,hl with
    | [v],_=>exact⟨v,rfl⟩
   exact⟨v,q,Go.ChangeShapes.cell_of_cells?_one hx,hq⟩
 obtain⟨d0,hd0⟩:∃d0,ds[0]?=some d0:=⟨ds[0],List.getElem?_eq_getElem hne⟩
 obtain⟨v0,q0,h0,_⟩:=one 0 d0 hd0;obtain⟨b,o,spot⟩:=a;have hs:spot=none:=by simpa [Addr.add]using World.cell?_spot h0
 subst hs;refine⟨b,o,n,hcs,?_⟩;intro i d hd;obtain⟨v,q,h1,h2⟩:=one i d hd;rw[Lib.add_plain]at h1
 exact⟨v,q,h1,h2⟩
theorem aGn {t e:TypeId}{fuel:Nat}{cs:List Value}{ds:List (DataW Unit)}{p:List MemPlace}(ht:P.underlying t=some (.slice e))(hc:P.cellsOf e=2)(h:DataW.trod (fun _=>()) P W 0 (fun _=>true) false fuel t cs=some (.slice ds [],p))(hne:0<ds.length) :
  ∃b o n,cs=[.slice (some ⟨b,o,none⟩) ds.length ds.length]∧∀i d,ds[i]?=some d→∃v u q,W.cell? ⟨b,o+2*i,none⟩=some v∧W.cell? ⟨b,o+(2*i+1),none⟩=some u∧DataW.trod (fun _=>()) P W 0 (fun _=>true) false n e [v,u]=some (d,q):=by
 obtain⟨a,n,hcs,hel⟩:=wQ ht h;have one:∀i d,ds[i]?=some d→∃v u q,W.cell? ((a.add (i*2)).add 0)=some v∧W.cell? ((a.add (i*2)).add 1)=some u∧DataW.trod (fun _=>()) P W 0 (fun _=>true) false n e [v,u]=some (d,q):=by
  intro i d hd;obtain⟨q,hq⟩:=hel i d hd;rw[hc]at hq
  cases hx:W.cells? 0 (a.add (i*2)) 2 with
  | none=>rw[hx]at hq;cases hq
  | some l =>
   rw[hx]at hq
   have hm:(List.range 2).mapM (fun k=>W.cell? ((a.add (i*2)).add k))=some l:=by unfold World.cells? at hx;rw[if_pos (Nat.zero_le _)]at hx;exact hx
   have hl:=Lib.mapM_length hm;simp at hl;match l,hl with
   | [v,u],_ =>
    obtain⟨x0,hb0,hf0⟩:=Lib.mapM_at hm 0 0 (by simp);obtain⟨x1,hb1,hf1⟩:=Lib.mapM_at hm 1 1 (by simp);simp only[List.getElem?_cons_zero,Option.some.injEq]at hb0;simp only[List.getElem?_cons_succ,List.getElem?_cons_zero,Option.some.injEq]at hb1;subst hb0;subst hb1;exact⟨_,_,q,hf0,hf1,hq⟩
 obtain⟨d0,hd0⟩:∃d0,ds[0]?=some d0:=⟨ds[0],List.getElem?_eq_getElem hne⟩
 obtain⟨v0,u0,q0,h0,_,_⟩:=one 0 d0 hd0;obtain⟨b,o,spot⟩:=a;have hs:spot=none:=by simpa [Addr.add]using World.cell?_spot h0
 subst hs;refine⟨b,o,n,hcs,?_⟩;intro i d hd;obtain⟨v,u,q,h1,h1',h2⟩:=one i d hd;rw[tW,Lib.add_plain]at h1 h1'
 rw[show o+2*i=o+(i*2+0) by omega,show o+(2*i+1)=o+(i*2+1) by omega];exact⟨v,u,q,h1,h1',h2⟩
end
theorem aNu {W:World}{rest:List (String × DataW Unit)}(h:laidMet Tryz.prog (("internal/strconv.optimize",Rows.laid_internal_strconv_optimize) :: rest) W):W.cell? ⟨7,0,none⟩=some (.bool true):=by
 have hg:Tryz.prog.globalNamed "internal/strconv.optimize" = some 7:=by kernel_rfl
 obtain⟨cs,fuel,p,hv,hd⟩:=jU h hg (show(Tryz.prog.globals[7]?).map (·.type)=some 4 by kernel_rfl);obtain⟨b,e1,e2⟩:=DataW.trod_bool Tryz.underlying4 hd;have hb:b=true:=by
  have:=(Prod.mk.inj e2).1;simpa [Rows.laid_internal_strconv_optimize]using this.symm
 rw[World.var?_cell hg hv 0];have:cs.toList[0]?=some (.bool b):=by rw[e1];rfl
 rw[hb]at this
 simpa using this
theorem aNN {W:World}{rest:List (String × DataW Unit)}(h:laidMet Tryz.prog (("internal/strconv.uint64pow10",Rows.laid_internal_strconv_uint64pow10) :: rest) W):Lib.TabIs Tryz.prog W "internal/strconv.uint64pow10" .u64 Lib.pow10Tab:=by
 have e:(Rows.laid_internal_strconv_uint64pow10:DataW Unit)=Lib.tabData .u64 Lib.pow10Tab:=by kernel_rfl
 rw[e]at h
 exact Lib.tabIs_of_head aFR (show(Tryz.prog.globals[9]?).map (·.type)=some 259 by kernel_rfl) Tryz.underlying259 Tryz.underlying163 (by kernel_rfl) (by kernel_rfl) h
open Go.RowKit
theorem vJ {a b:List (DataW Unit)}(h:DataW.agg a=DataW.agg b):a=b:=by cases h;rfl
theorem aNe {W:World}{rest:List (String × DataW Unit)}(h:laidMet Tryz.prog (("internal/strconv.float64pow10",Rows.laid_internal_strconv_float64pow10) :: rest) W) :
  ∃b o,W.cell? ⟨12,0,none⟩=some (.slice (some ⟨b,o,none⟩) 23 23)∧∀i,i<23→W.cell? ⟨b,o+i,none⟩=some (.float .f64 (fD.getD i 0)):=by
 have hg:Tryz.prog.globalNamed "internal/strconv.float64pow10" = some 12:=by kernel_rfl
 obtain⟨cs,fuel,p,hv,hd⟩:=jU h hg (show(Tryz.prog.globals[12]?).map (·.type)=some 273 by kernel_rfl);have e:(Rows.laid_internal_strconv_float64pow10:DataW Unit)=.slice (fD.map fun b=>.lit (.float .f64 b)) []:=by kernel_rfl
 rw[e]at hd
 obtain⟨b,o,n,e1,hel⟩:=aAJ Tryz.underlying273 (by kernel_rfl) hd (by decide);refine⟨b,o,?_,?_⟩
 ·rw[World.var?_cell hg hv 0];have:cs.toList[0]?=some (.slice (some ⟨b,o,none⟩) 23 23):=by rw[e1];rfl
  simpa using this
 ·intro i hi;have hl:fD.length=23:=by decide
  obtain⟨v,q,h1,h2⟩:=hel i (.lit (.float .f64 (fD.getD i 0))) (by rw[List.getElem?_map,List.getD,List.getElem?_eq_getElem (by omega)];rfl);have:=aGw Tryz.underlying25 h2;simp only[List.cons.injEq,and_true]at this;rw[h1,this]
theorem aOl {W:World}{rest:List (String × DataW Unit)}(h:laidMet Tryz.prog (("internal/strconv.powtab",Rows.laid_internal_strconv_powtab) :: rest) W) :
  ∃b o,W.cell? ⟨11,0,none⟩=some (.slice (some ⟨b,o,none⟩) 9 9)∧∀i,i<9→W.cell? ⟨b,o+i,none⟩=some (.int .i64 (aAp.getD i 0)):=by
 have hg:Tryz.prog.globalNamed "internal/strconv.powtab" = some 11:=by kernel_rfl
 obtain⟨cs,fuel,p,hv,hd⟩:=jU h hg (show(Tryz.prog.globals[11]?).map (·.type)=some 272 by kernel_rfl);have e:(Rows.laid_internal_strconv_powtab:DataW Unit)=.slice (aAp.map fun b=>.lit (.int .i64 b)) []:=by kernel_rfl
 rw[e]at hd
 obtain⟨b,o,n,e1,hel⟩:=aAJ Tryz.underlying272 (by kernel_rfl) hd (by decide);refine⟨b,o,?_,?_⟩
 ·rw[World.var?_cell hg hv 0];have:cs.toList[0]?=some (.slice (some ⟨b,o,none⟩) 9 9):=by rw[e1];rfl
  simpa using this
 ·intro i hi;have hl:aAp.length=9:=by decide
  obtain⟨v,q,h1,h2⟩:=hel i (.lit (.int .i64 (aAp.getD i 0))) (by rw[List.getElem?_map,List.getD,List.getElem?_eq_getElem (by omega)];rfl);have:=jM Tryz.underlying3 h2;simp only[List.cons.injEq,and_true]at this;rw[h1,this]
theorem aG2 {W:World}{rest:List (String × DataW Unit)}(h:laidMet Tryz.prog (("internal/strconv.leftcheats",Rows.laid_internal_strconv_leftcheats) :: rest) W) :
  ∃b o,W.cell? ⟨14,0,none⟩=some (.slice (some ⟨b,o,none⟩) 61 61)∧∀i,i<61→W.cell? ⟨b,o+2*i,none⟩=some (.int .i64 (Pinned.cheatRows.getD i (0,[])).1)∧W.cell? ⟨b,o+(2*i+1),none⟩=some (.string ⟨(Pinned.cheatRows.getD i (0,[])).2.toArray⟩):=by
 have hg:Tryz.prog.globalNamed "internal/strconv.leftcheats" = some 14:=by kernel_rfl
 obtain⟨cs,fuel,p,hv,hd⟩:=jU h hg (show(Tryz.prog.globals[14]?).map (·.type)=some 287 by kernel_rfl);have e:(Rows.laid_internal_strconv_leftcheats:DataW Unit)=.slice (Pinned.cheatRows.map fun x=>.agg [.lit (.int .i64 x.1),.lit (.string x.2)]) []:=rfl;have hl:Pinned.cheatRows.length=61:=by kernel_rfl
 rw[e]at hd
 obtain⟨b,o,n,e1,hel⟩:=aGn Tryz.underlying287 (by kernel_rfl) hd (by rw[List.length_map,hl];omega);rw[List.length_map,hl]at e1
 refine⟨b,o,?_,?_⟩
 ·rw[World.var?_cell hg hv 0];have:cs.toList[0]?=some (.slice (some ⟨b,o,none⟩) 61 61):=by rw[e1];rfl
  simpa using this
 ·intro i hi;obtain⟨x,hx⟩:∃x,Pinned.cheatRows[i]?=some x:=⟨_,List.getElem?_eq_getElem (by omega)⟩
  have hgd:Pinned.cheatRows.getD i (0,[])=x:=by rw[List.getD,hx];rfl
  rw[hgd];obtain⟨v,u,q,h1,h2,h3⟩:=hel i (.agg [.lit (.int .i64 x.1),.lit (.string x.2)]) (by rw[List.getElem?_map,hx];rfl);obtain⟨y0,y1,m,ex,_,hy0,hy1⟩:=ChangeShapes.trod_struct2 Tryz.underlying286 h3;have c3:Tryz.prog.cellsOf 3=1:=by kernel_rfl
  have c9:Tryz.prog.cellsOf 9=1:=by kernel_rfl
  simp only[Prod.mk.injEq]at ex;have ea:=vJ ex.1;simp only[List.cons.injEq,and_true]at ea;obtain⟨y0a,y0b⟩:=y0;obtain⟨y1a,y1b⟩:=y1;dsimp only at ea
  rw[←ea.1,c3]at hy0
  rw[←ea.2,c9]at hy1
  have k0:=jM Tryz.underlying3 hy0;have k1:=aIN Tryz.underlying9 hy1;simp at k0 k1;rw[h1,h2,k0,k1];exact⟨rfl,rfl⟩
theorem aNw {W:World}{rest:List (String × DataW Unit)}(h:laidMet Tryz.prog (("internal/strconv.pow10Tab",Rows.laid_internal_strconv_pow10Tab) :: rest) W) :
  ∀i,i<696→W.cell? ⟨13,2*i,none⟩=some (.int .u64 (aG i))∧W.cell? ⟨13,2*i+1,none⟩=some (.int .u64 (aO i)):=by
 have hg:Tryz.prog.globalNamed "internal/strconv.pow10Tab" = some 13:=by kernel_rfl
 obtain⟨cs,fuel,p,hv,hd⟩:=jU h hg (show(Tryz.prog.globals[13]?).map (·.type)=some 283 by kernel_rfl);have e:(Rows.laid_internal_strconv_pow10Tab:DataW Unit)=.agg (Pinned.pow10Rows.map fun x=>.agg [.lit (.int .u64 x.1),.lit (.int .u64 x.2)]):=rfl;have hl:Pinned.pow10Rows.length=696:=by kernel_rfl
 have c184:Tryz.prog.cellsOf 282=2:=by kernel_rfl
 have c22:Tryz.prog.cellsOf 163=1:=by kernel_rfl
 rw[e]at hd
 obtain⟨xs,m,_,ex,_,hxl,hel⟩:=DataW.trod_array Tryz.underlying283 hd;intro i hi;obtain⟨x,hx⟩:∃x,Pinned.pow10Rows[i]?=some x:=⟨_,List.getElem?_eq_getElem (by omega)⟩
 have hhi:aG i=x.1:=by unfold aG;rw[List.getD,hx];rfl
 have hlo:aO i=x.2:=by unfold aO;rw[List.getD,hx];rfl
 have h1:=hel i hi;rw[c184]at h1
 have hxi:(xs.map (·.1))[i]?=some (.agg [.lit (.int .u64 x.1),.lit (.int .u64 x.2)]):=by
  have:=vJ (Prod.mk.inj ex).1;rw[←this,List.getElem?_map,hx];rfl
 rw[List.getElem?_map]at hxi
 cases hq:xs[i]? with
 | none=>rw[hq]at hxi;cases hxi
 | some z =>
  rw[hq]at h1 hxi
  simp only[Option.map_some,Option.some.injEq]at hxi;obtain⟨za,zb⟩:=z;dsimp only at hxi
  rw[hxi]at h1
  obtain⟨y0,y1,k,ey,_,hy0,hy1⟩:=ChangeShapes.trod_struct2 Tryz.underlying282 h1;simp only[Prod.mk.injEq]at ey;have ea:=vJ ey.1;simp only[List.cons.injEq,and_true]at ea;obtain⟨y0a,y0b⟩:=y0;obtain⟨y1a,y1b⟩:=y1;dsimp only at ea
  rw[←ea.1,c22]at hy0
  rw[←ea.2,c22]at hy1
  have k0:=jM Tryz.underlying163 hy0;have k1:=jM Tryz.underlying163 hy1;rw[World.var?_cell hg hv,World.var?_cell hg hv,hhi,hlo];have g0:=congrArg (·[0]?) k0;have g1:=congrArg (·[0]?) k1;simp[List.getElem?_drop]at g0 g1
  rw[Nat.mul_comm 2 i];exact⟨by simpa using g0,by simpa using g1⟩
theorem aLE {W:World}{rest:List (String × DataW Unit)}(h:laidMet Tryz.prog (("internal/strconv.float64info",Rows.laid_internal_strconv_float64info) :: rest) W) :
  W.cell? ⟨8,0,none⟩=some (.int .u64 52)∧W.cell? ⟨8,1,none⟩=some (.int .u64 11)∧W.cell? ⟨8,2,none⟩=some (.int .i64 (-1023)):=by
 have hg:Tryz.prog.globalNamed "internal/strconv.float64info" = some 8:=by kernel_rfl
 obtain⟨cs,fuel,p,hv,hd⟩:=jU h hg (show(Tryz.prog.globals[8]?).map (·.type)=some 225 by kernel_rfl);have c63:Tryz.prog.cellsOf 148=1:=by kernel_rfl
 have c3:Tryz.prog.cellsOf 3=1:=by kernel_rfl
 obtain⟨y0,y1,y2,n,ex,_,h0,h1,h2⟩:=Deep.trod_struct3 Tryz.underlying225 hd;have ea:=vJ (Prod.mk.inj ex).1;simp only[List.cons.injEq,and_true]at ea;obtain⟨y0a,y0b⟩:=y0;obtain⟨y1a,y1b⟩:=y1;obtain⟨y2a,y2b⟩:=y2;dsimp only at ea
 rw[←ea.1,c63]at h0
 rw[←ea.2.1,c63]at h1
 rw[←ea.2.2,c3]at h2
 have k0:=jM Tryz.underlying148 h0;have k1:=jM Tryz.underlying148 h1;have k2:=jM Tryz.underlying3 h2;rw[World.var?_cell hg hv,World.var?_cell hg hv,World.var?_cell hg hv];have g0:=congrArg (·[0]?) k0;have g1:=congrArg (·[0]?) k1;have g2:=congrArg (·[0]?) k2;simp[List.getElem?_drop]at g0 g1 g2
 exact⟨by simpa using g0,by simpa using g1,by simpa using g2⟩
theorem aBP : "*" ++ "errors.errorString" = "*errors.errorString" := by decide
theorem zN (u:TypeId)(h:Tryz.prog.typeName? 3 u=some "*errors.errorString"):u=240 :=
 typeName_ptr_named (nm := "errors.errorString") (by rw[aBP];kernel_rfl) (by kernel_rfl) (by decide) u (by rw[aBP];exact h)
theorem aHg {W:World}{n:String}{text:List UInt8}{g:Nat}{rest:List (String × DataW Unit)}(h:laidMet Tryz.prog ((n,.iface "*errors.errorString" (.ptr (.agg [.lit (.string text)]))) :: rest) W)
  (hg:Tryz.prog.globalNamed n=some g) (hty:(Tryz.prog.globals[g]?).map (·.type)=some 73):∃t v,W.cell? ⟨g,0,none⟩=some (.iface t v):=by
 obtain⟨a,s,hv,_,_,_⟩:=laid_sentinel h hg hty Tryz.underlying73 zN Tryz.underlying240 Tryz.underlying242 rfl rfl Tryz.underlying9 (by kernel_rfl) (by kernel_rfl);exact⟨_,_,by rw[World.var?_cell hg hv 0];rfl⟩
def kZ:List (String × DataW Unit):=Rows.realSameRow.laid
theorem aLP {W:World}(h:W.ShapedOpen Tryz.prog):∃m,W.cell? ⟨1,0,none⟩=some (.int .i64 m) :=
 cell_of_shapedOpen_int (t:=3) (zero:=#[.int .i64 0]) h (of_decide_eq_true (by kernel_rfl)) (by kernel_rfl) rfl (by kernel_rfl) (by kernel_rfl) Tryz.underlying3
def aKP:Go.Shelf.Ren:=⟨fun n=>n,fun|5=>5|119=>197|138=>199|139=>200|n=>n,fun|3=>4|4=>5|n=>n⟩
theorem aMC:U8Types Tryz.prog aKP:={ t5:=Tryz.underlying5,t119:=Tryz.underlying197,t138:=Tryz.underlying199,t139:=Tryz.underlying200 }
theorem aMB:U8Extra Tryz.prog aKP:={ n3:=by kernel_rfl,n4:=by kernel_rfl,y3:=by kernel_rfl,y4:=by kernel_rfl,c5:=by kernel_rfl,c119:=by kernel_rfl,c138:=by kernel_rfl }
theorem aOv {W:World}(h:laidMet Tryz.prog kZ W):Lib.Utf8Tabs 4 5 W:=by
 have hf:Lib.VarReads Tryz.prog W "unicode/utf8.first" Lib.firstData:=by
  have:=Lib.laidMet.reads h (n := "unicode/utf8.first") (d:=Rows.laid_unicode_utf8_first) (by unfold kZ Rows.realSameRow;simp);rw[show Rows.laid_unicode_utf8_first=Lib.firstData by kernel_rfl]at this
  exact this
 have ha:Lib.VarReads Tryz.prog W "unicode/utf8.acceptRanges" Lib.acceptData:=by
  have:=Lib.laidMet.reads h (n := "unicode/utf8.acceptRanges") (d:=Rows.laid_unicode_utf8_acceptRanges) (by unfold kZ Rows.realSameRow;simp);rw[show(Rows.laid_unicode_utf8_acceptRanges:DataW Unit)=Lib.acceptData by kernel_rfl]at this
  exact this
 exact utf8Tabs_of_readsT aMC aMB hf ha
theorem aMw {W:World}(hL:laidMetH Tryz.prog kZ W)(hS:W.ShapedOpen Tryz.prog):aA W:=by
 rw[MakeChecks.laidMetH_plain _ _ _ (by kernel_rfl)]at hL
 have h:laidMet Tryz.prog [("math/bits.deBruijn32tab",Rows.laid_math_bits_deBruijn32tab),("math/bits.deBruijn64tab",Rows.laid_math_bits_deBruijn64tab),("internal/strconv.float32info",Rows.laid_internal_strconv_float32info),("internal/strconv.float64info",Rows.laid_internal_strconv_float64info),("internal/strconv.optimize",Rows.laid_internal_strconv_optimize),("internal/strconv.powtab",Rows.laid_internal_strconv_powtab),("internal/strconv.float64pow10",Rows.laid_internal_strconv_float64pow10),("internal/strconv.float32pow10",Rows.laid_internal_strconv_float32pow10),("internal/strconv.uint64pow10",Rows.laid_internal_strconv_uint64pow10),("unicode/utf8.acceptRanges",Rows.laid_unicode_utf8_acceptRanges),("strconv.ErrRange",Rows.laid_strconv_ErrRange),("strconv.ErrSyntax",Rows.laid_strconv_ErrSyntax),("internal/strconv.leftcheats",Rows.laid_internal_strconv_leftcheats),("internal/strconv.pow10Tab",Rows.laid_internal_strconv_pow10Tab),("unicode/utf8.first",Rows.laid_unicode_utf8_first)] W:=hL;have h4:=h.tail.tail.tail;have h5:=h4.tail;have h6:=h5.tail;have h7:=h6.tail;have h9:=h7.tail.tail;have h11:=h9.tail.tail;have h12:=h11.tail;have h13:=h12.tail;have h14:=h13.tail;obtain⟨i0,i1,i2⟩:=aLE h4;exact⟨aNu h5,aLP hS,aHg h12 (by kernel_rfl) (by kernel_rfl),aHg h11 (by kernel_rfl) (by kernel_rfl),i0,i1,i2,aNe h7,aOl h6,aNw h14,aG2 h13,aNN h9,aOv h⟩
open Go.ChangeShapes Go.WideShapes Go.ChangeAt Go.RowKit
theorem own:ownKnob Tryz.prog.godebug=none:=by kernel_rfl
end Go.Proofs.YtcfgbdhpcboikaaGreatDoor
