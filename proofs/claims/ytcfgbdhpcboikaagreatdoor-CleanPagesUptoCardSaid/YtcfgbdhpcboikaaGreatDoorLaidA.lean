/-
From the listed variables to the facts on cells that the walks ask.
-/
import Derived.Test.YtcfgbdhpcboikaaGreatDoorNum
import Derived.LaidMore
import Derived.OpenShut
import Derived.ProofKit
import Derived.Deep.Strs
import Derived.Stop.LaidErr
import Derived.Test.YtcfgbdhpcboikaaGreatDoorTie
import Derived.Lay
import Derived.Lib.LaidU8T
namespace Go.Proofs.YtcfgbdhpcboikaaGreatDoor
set_option maxRecDepth 100000
open Go.RowKit
section
variable {P:Program} {W:H}
theorem nI {n:String}{d:DataW Unit}{rest:List (String × DataW Unit)}{g:Nat}{t:TypeId}(h:laidMet P ((n,d) :: rest) W)(b:P.globalNamed n=some g)(f:(P.globals[g]?).map (·.type)=some t) :
  ∃cs a p,W.var? P n=some cs/\DataW.trod (fun _=>()) P W 0 (fun _=>true) false a t cs.toList=some (d,p):=by
 obtain⟨k,⟨j,l,cs,a,p,q,c,e,i,hd,_,_⟩,_,_⟩:=h;obtain rfl:=b8 (b.symm.trans c);obtain rfl:=b8 (f.symm.trans e);exact⟨cs,a,p,i,hd⟩
theorem aJF {t:TypeId}{k:FloatKind}{a b:Nat}{cs:List Value}{p:List MemPlace}(c:P.underlying t=some (.float k))(h:DataW.trod (fun _=>()) P W 0 (fun _=>true) false a t cs=some (.lit (.float k b),p)):cs=[.float k b]:=by
 cases a with|zero=>simp[DataW.trod]at h|succ n=>{unfold DataW.trod at h;rw[c]at h;split at h<;>simp_all}
theorem mZ {t:TypeId}{k:IntKind}{c:Nat}{z:Int}{cs:List Value}{p:List MemPlace}(d:P.underlying t=some (.int k))(h:DataW.trod (fun _=>()) P W 0 (fun _=>true) false c t cs=some (.lit (.int k z),p)):cs=[.int k z]:=by
 obtain⟨e,b,a,_⟩:=sy d h;simp only[io,DataW.lit.injEq,Lit.int.injEq,fy]at a;rw[b,a.1]
theorem aL1 {t:TypeId}{a:Nat}{l:U}{cs:List Value}{p:List MemPlace}(c:P.underlying t=some .string)(h:DataW.trod (fun _=>()) P W 0 (fun _=>true) false a t cs=some (.lit (.string l),p)):cs=[.string ⟨l.toArray⟩]:=by
 cases a with|zero=>simp[DataW.trod]at h|succ n=>{unfold DataW.trod at h;rw[c]at h;split at h;(all_goals first|(simp_all;done)|skip);split at h;{simp only[fe,io,DataW.lit.injEq,Lit.string.injEq]at h;obtain⟨b,_⟩:=h;subst b;rfl};{cases h}}
theorem aBv {t e:TypeId}{j:Nat}{cs:List Value}{b:List (DataW Unit)}{p:List MemPlace}(u:P.underlying t=some (.slice e))(h:DataW.trod (fun _=>()) P W 0 (fun _=>true) false j t cs=some (.slice b [],p)) :
  ∃a n,cs=[.slice (some a) b.length b.length]/\∀i d,b[i]?=some d->∃q,(W.cells? 0 (a.add (i*P.cellsOf e)) (P.cellsOf e)).bind (DataW.trod (fun _=>()) P W 0 (fun _=>true) false n e)=some (d,q):=by
 rcases DataW.trod_slice u h with⟨_,hx⟩|⟨a,len,cap,g,rest,n,_,m,hx,_,v,_,hlen,r,s,_⟩
 ·simp at hx
 ·simp only[io,DataW.slice.injEq]at hx;obtain⟨⟨c,k⟩,_⟩:=hx;have hr:rest=[]:=by simpa using k.symm
  have f:=(s rfl).1;rw[hr]at f
  have l:cap=len:=by simp at f;omega
  have o:b.length=len:=by rw[c];simpa using hlen
  refine⟨a,n,by rw[m,l,o],?_⟩;intro i d hd;have hi:i<len:=by
   have:=(fc.1 hd).1;omega
  rw[r i hi];rw[c,gv]at hd
  cases he:g[i]? with
  | none=>rw[he]at hd;cases hd
  | some x =>
   rw[he]at hd
   simp only[mq,fe]at hd;exact⟨x.2,by rw[<-hd]⟩
theorem aDp {t e:TypeId}{k:Nat}{cs:List Value}{c:List (DataW Unit)}{p:List MemPlace}(C:P.underlying t=some (.slice e))(u:P.cellsOf e=1)(h:DataW.trod (fun _=>()) P W 0 (fun _=>true) false k t cs=some (.slice c [],p))(A:0<c.length) :
  ∃b o n,cs=[.slice (some ⟨b,o,none⟩) c.length c.length]/\∀i d,c[i]?=some d->∃v q,W.cell? ⟨b,o+i,none⟩=some v/\DataW.trod (fun _=>()) P W 0 (fun _=>true) false n e [v]=some (d,q):=by
 obtain⟨a,n,x,z⟩:=aBv C h;have one:∀i d,c[i]?=some d->∃v q,W.cell? (a.add i)=some v/\DataW.trod (fun _=>()) P W 0 (fun _=>true) false n e [v]=some (d,q):=by
  intro i d hd;obtain⟨q,hq⟩:=z i d hd;rw[u,du]at hq
  cases hx:W.cells? 0 (a.add i) 1 with
  | none=>rw[hx]at hq;cases hq
  | some l =>
   rw[hx]at hq
   obtain⟨v,rfl⟩:∃v,l=[v]:=by
    have j:=Lib.mapM_length (f:=fun D=>W.cell? ((a.add i).add D)) (l:=List.range 1) (r:=l) (by unfold World.cells? at hx;rw[ae (ax _)]at hx;exact hx);simp at j;match l,j with
    | [v],_=>exact⟨v,rfl⟩
   exact⟨v,q,Go.ChangeShapes.cell_of_cells?_one hx,hq⟩
 obtain⟨d0,y⟩:∃d0,c[0]?=some d0:=⟨c[0],bc A⟩
 obtain⟨J,F,m,_⟩:=one 0 d0 y;obtain⟨b,o,E⟩:=a;have B:E=none:=by simpa [Addr.add]using World.cell?_spot m
 subst B;refine⟨b,o,n,x,?_⟩;intro i d hd;obtain⟨v,q,g,s⟩:=one i d hd;rw[qe]at g
 exact⟨v,q,g,s⟩
theorem aJs {t e:TypeId}{x:Nat}{cs:List Value}{c:List (DataW Unit)}{p:List MemPlace}(L:P.underlying t=some (.slice e))(A:P.cellsOf e=2)(h:DataW.trod (fun _=>()) P W 0 (fun _=>true) false x t cs=some (.slice c [],p))(J:0<c.length) :
  ∃b o n,cs=[.slice (some ⟨b,o,none⟩) c.length c.length]/\∀i d,c[i]?=some d->∃v u q,W.cell? ⟨b,o+2*i,none⟩=some v/\W.cell? ⟨b,o+(2*i+1),none⟩=some u/\DataW.trod (fun _=>()) P W 0 (fun _=>true) false n e [v,u]=some (d,q):=by
 obtain⟨a,n,B,D⟩:=aBv L h;have one:∀i d,c[i]?=some d->∃v u q,W.cell? ((a.add (i*2)).add 0)=some v/\W.cell? ((a.add (i*2)).add 1)=some u/\DataW.trod (fun _=>()) P W 0 (fun _=>true) false n e [v,u]=some (d,q):=by
  intro i d hd;obtain⟨q,hq⟩:=D i d hd;rw[A]at hq
  cases hx:W.cells? 0 (a.add (i*2)) 2 with
  | none=>rw[hx]at hq;cases hq
  | some l =>
   rw[hx]at hq
   have f:(List.range 2).mapM (fun k=>W.cell? ((a.add (i*2)).add k))=some l:=by unfold World.cells? at hx;rw[ae (ax _)]at hx;exact hx
   have s:=Lib.mapM_length f;simp at s;match l,s with
   | [v,u],_ =>
    obtain⟨x0,m,E⟩:=Lib.mapM_at f 0 0 (by simp);obtain⟨x1,r,F⟩:=Lib.mapM_at f 1 1 (by simp);simp only[nj,fe]at m;simp only[ni,nj,fe]at r;subst m;subst r;exact⟨_,_,q,E,F,hq⟩
 obtain⟨d0,C⟩:∃d0,c[0]?=some d0:=⟨c[0],bc J⟩
 obtain⟨Q,u0,N,y,_,_⟩:=one 0 d0 C;obtain⟨b,o,M⟩:=a;have K:M=none:=by simpa [Addr.add]using World.cell?_spot y
 subst K;refine⟨b,o,n,B,?_⟩;intro i d hd;obtain⟨v,u,q,g,j,z⟩:=one i d hd;rw[zX,qe]at g j
 rw[show o+2*i=o+(i*2+0) by omega,show o+(2*i+1)=o+(i*2+1) by omega];exact⟨v,u,q,g,j,z⟩
end
theorem aRy {W:H}{rest:List (String × DataW Unit)}(h:laidMet Tryz.prog (("internal/strconv.optimize",Rows.laid_internal_strconv_optimize) :: rest) W):W.cell? ⟨7,0,none⟩=some (.bool true):=by
 have a:Tryz.prog.globalNamed "internal/strconv.optimize" = some 7:=by{kernel_rfl};obtain⟨cs,g,p,f,hd⟩:=nI h a (show(Tryz.prog.globals[7]?).map (·.type)=some 4 by kernel_rfl);obtain⟨b,c,d⟩:=DataW.trod_bool Tryz.underlying4 hd;have e:b=true:=by{have:=(gz d).1;simpa [Rows.laid_internal_strconv_optimize]using this.symm};rw[iz a f 0];have:cs.toList[0]?=some (.bool b):=by{rw[c];rfl};rw[e]at this;simpa using this
theorem aRT {W:H}{rest:List (String × DataW Unit)}(h:laidMet Tryz.prog (("internal/strconv.uint64pow10",Rows.laid_internal_strconv_uint64pow10) :: rest) W):Lib.TabIs Tryz.prog W "internal/strconv.uint64pow10" .u64 Lib.pow10Tab:=by
 have e:(Rows.laid_internal_strconv_uint64pow10:DataW Unit)=Lib.tabData .u64 Lib.pow10Tab:=by{kernel_rfl};rw[e]at h;exact Lib.tabIs_of_head aIS (show(Tryz.prog.globals[9]?).map (·.type)=some 259 by kernel_rfl) Tryz.underlying259 Tryz.underlying163 (by kernel_rfl) (by kernel_rfl) h
open Go.RowKit
theorem aAU {a b:List (DataW Unit)}(h:DataW.agg a=DataW.agg b):a=b:=by cases h;rfl
theorem aRb {W:H}{rest:List (String × DataW Unit)}(h:laidMet Tryz.prog (("internal/strconv.float64pow10",Rows.laid_internal_strconv_float64pow10) :: rest) W) :
  ∃b o,W.cell? ⟨12,0,none⟩=some (.slice (some ⟨b,o,none⟩) 23 23)/\∀i,i<23->W.cell? ⟨b,o+i,none⟩=some (.float .f64 (iA.getD i 0)):=by
 have a:Tryz.prog.globalNamed "internal/strconv.float64pow10" = some 12:=by{kernel_rfl};obtain⟨cs,j,p,g,hd⟩:=nI h a (show(Tryz.prog.globals[12]?).map (·.type)=some 273 by kernel_rfl);have e:(Rows.laid_internal_strconv_float64pow10:DataW Unit)=.slice (iA.map fun b=>.lit (.float .f64 b)) []:=by{kernel_rfl};rw[e]at hd;obtain⟨b,o,n,c,f⟩:=aDp Tryz.underlying273 (by kernel_rfl) hd (by decide);refine⟨b,o,?_,?_⟩;{rw[iz a g 0];have:cs.toList[0]?=some (.slice (some ⟨b,o,none⟩) 23 23):=by{rw[c];rfl};simpa using this};{intro i hi;have k:iA.length=23:=by{decide};obtain⟨v,q,h1,d⟩:=f i (.lit (.float .f64 (iA.getD i 0))) (by rw[gv,List.getD,bc (by omega)];rfl);have:=aJF Tryz.underlying25 d;simp only[gi,gj]at this;rw[h1,this]}
theorem aSC {W:H}{rest:List (String × DataW Unit)}(h:laidMet Tryz.prog (("internal/strconv.powtab",Rows.laid_internal_strconv_powtab) :: rest) W) :
  ∃b o,W.cell? ⟨11,0,none⟩=some (.slice (some ⟨b,o,none⟩) 9 9)/\∀i,i<9->W.cell? ⟨b,o+i,none⟩=some (.int .i64 (aC6.getD i 0)):=by
 have a:Tryz.prog.globalNamed "internal/strconv.powtab" = some 11:=by{kernel_rfl};obtain⟨cs,j,p,g,hd⟩:=nI h a (show(Tryz.prog.globals[11]?).map (·.type)=some 272 by kernel_rfl);have e:(Rows.laid_internal_strconv_powtab:DataW Unit)=.slice (aC6.map fun b=>.lit (.int .i64 b)) []:=by{kernel_rfl};rw[e]at hd;obtain⟨b,o,n,c,f⟩:=aDp Tryz.underlying272 (by kernel_rfl) hd (by decide);refine⟨b,o,?_,?_⟩;{rw[iz a g 0];have:cs.toList[0]?=some (.slice (some ⟨b,o,none⟩) 9 9):=by{rw[c];rfl};simpa using this};{intro i hi;have k:aC6.length=9:=by{decide};obtain⟨v,q,h1,d⟩:=f i (.lit (.int .i64 (aC6.getD i 0))) (by rw[gv,List.getD,bc (by omega)];rfl);have:=mZ Tryz.underlying3 d;simp only[gi,gj]at this;rw[h1,this]}
theorem aKa {W:H}{rest:List (String × DataW Unit)}(h:laidMet Tryz.prog (("internal/strconv.leftcheats",Rows.laid_internal_strconv_leftcheats) :: rest) W) :
  ∃b o,W.cell? ⟨14,0,none⟩=some (.slice (some ⟨b,o,none⟩) 61 61)/\∀i,i<61->W.cell? ⟨b,o+2*i,none⟩=some (.int .i64 (Pinned.cheatRows.getD i (0,[])).1)/\W.cell? ⟨b,o+(2*i+1),none⟩=some (.string ⟨(Pinned.cheatRows.getD i (0,[])).2.toArray⟩):=by
 have d:Tryz.prog.globalNamed "internal/strconv.leftcheats" = some 14:=by{kernel_rfl};obtain⟨cs,y,p,s,hd⟩:=nI h d (show(Tryz.prog.globals[14]?).map (·.type)=some 287 by kernel_rfl);have e:(Rows.laid_internal_strconv_leftcheats:DataW Unit)=.slice (Pinned.cheatRows.map fun x=>.agg [.lit (.int .i64 x.1),.lit (.string x.2)]) []:=rfl;have f:Pinned.cheatRows.length=61:=by{kernel_rfl};rw[e]at hd;obtain⟨b,o,n,c,l⟩:=aJs Tryz.underlying287 (by kernel_rfl) hd (by rw[dw,f];omega);rw[dw,f]at c;refine⟨b,o,?_,?_⟩;{rw[iz d s 0];have:cs.toList[0]?=some (.slice (some ⟨b,o,none⟩) 61 61):=by{rw[c];rfl};simpa using this};{intro i hi;obtain⟨x,hx⟩:∃x,Pinned.cheatRows[i]?=some x:=⟨_,bc (by omega)⟩;have r:Pinned.cheatRows.getD i (0,[])=x:=by{rw[List.getD,hx];rfl};rw[r];obtain⟨v,u,q,h1,h2,k⟩:=l i (.agg [.lit (.int .i64 x.1),.lit (.string x.2)]) (by rw[gv,hx];rfl);obtain⟨t,y1,m,ex,_,hy0,g⟩:=uv Tryz.underlying286 k;have c3:Tryz.prog.cellsOf 3=1:=by{kernel_rfl};have j:Tryz.prog.cellsOf 9=1:=by{kernel_rfl};simp only[io]at ex;have a:=aAU ex.1;simp only[gi,gj]at a;obtain⟨z,A⟩:=t;obtain⟨B,C⟩:=y1;dsimp only at a;rw[<-a.1,c3]at hy0;rw[<-a.2,j]at g;have k0:=mZ Tryz.underlying3 hy0;have k1:=aL1 Tryz.underlying9 g;simp at k0 k1;rw[h1,h2,k0,k1];exact⟨rfl,rfl⟩}
theorem aRA {W:H}{rest:List (String × DataW Unit)}(h:laidMet Tryz.prog (("internal/strconv.pow10Tab",Rows.laid_internal_strconv_pow10Tab) :: rest) W) :
  ∀i,i<696->W.cell? ⟨13,2*i,none⟩=some (.int .u64 (aN i))/\W.cell? ⟨13,2*i+1,none⟩=some (.int .u64 (aX i)):=by
 have d:Tryz.prog.globalNamed "internal/strconv.pow10Tab" = some 13:=by{kernel_rfl};obtain⟨cs,v,p,l,hd⟩:=nI h d (show(Tryz.prog.globals[13]?).map (·.type)=some 283 by kernel_rfl);have e:(Rows.laid_internal_strconv_pow10Tab:DataW Unit)=.agg (Pinned.pow10Rows.map fun x=>.agg [.lit (.int .u64 x.1),.lit (.int .u64 x.2)]):=rfl;have y:Pinned.pow10Rows.length=696:=by{kernel_rfl};have q:Tryz.prog.cellsOf 282=2:=by{kernel_rfl};have f:Tryz.prog.cellsOf 163=1:=by{kernel_rfl};rw[e]at hd;obtain⟨o,m,_,ex,_,A,r⟩:=DataW.trod_array Tryz.underlying283 hd;intro i hi;obtain⟨x,hx⟩:∃x,Pinned.pow10Rows[i]?=some x:=⟨_,bc (by omega)⟩;have hhi:aN i=x.1:=by{unfold aN;rw[List.getD,hx];rfl};have s:aX i=x.2:=by{unfold aX;rw[List.getD,hx];rfl};have c:=r i hi;rw[q]at c;have a:(o.map (·.1))[i]?=some (.agg [.lit (.int .u64 x.1),.lit (.int .u64 x.2)]):=by{have:=aAU (gz ex).1;rw[<-this,gv,hx];rfl};rw[gv]at a;cases hq:o[i]? with|none=>{rw[hq]at a;cases a}|some z=>{rw[hq]at c a;simp only[mq,fe]at a;obtain⟨F,J⟩:=z;dsimp only at a;rw[a]at c;obtain⟨u,y1,k,ey,_,hy0,n⟩:=uv Tryz.underlying282 c;simp only[io]at ey;have b:=aAU ey.1;simp only[gi,gj]at b;obtain⟨B,C⟩:=u;obtain⟨D,E⟩:=y1;dsimp only at b;rw[<-b.1,f]at hy0;rw[<-b.2,f]at n;have t:=mZ Tryz.underlying163 hy0;have k1:=mZ Tryz.underlying163 n;rw[iz d l,iz d l,hhi,s];have g:=az (·[0]?) t;have j:=az (·[0]?) k1;simp[List.getElem?_drop]at g j;rw[bo 2 i];exact⟨by simpa using g,by simpa using j⟩}
theorem aPm {W:H}{rest:List (String × DataW Unit)}(h:laidMet Tryz.prog (("internal/strconv.float64info",Rows.laid_internal_strconv_float64info) :: rest) W) :
  W.cell? ⟨8,0,none⟩=some (.int .u64 52)/\W.cell? ⟨8,1,none⟩=some (.int .u64 11)/\W.cell? ⟨8,2,none⟩=some (.int .i64 (-1023)):=by
 have b:Tryz.prog.globalNamed "internal/strconv.float64info" = some 8:=by{kernel_rfl};obtain⟨cs,r,p,c,hd⟩:=nI h b (show(Tryz.prog.globals[8]?).map (·.type)=some 225 by kernel_rfl);have d:Tryz.prog.cellsOf 148=1:=by{kernel_rfl};have c3:Tryz.prog.cellsOf 3=1:=by{kernel_rfl};obtain⟨m,o,q,n,ex,_,i,j,k⟩:=Deep.trod_struct3 Tryz.underlying225 hd;have a:=aAU (gz ex).1;simp only[gi,gj]at a;obtain⟨s,t⟩:=m;obtain⟨u,v⟩:=o;obtain⟨x,y⟩:=q;dsimp only at a;rw[<-a.1,d]at i;rw[<-a.2.1,d]at j;rw[<-a.2.2,c3]at k;have l:=mZ Tryz.underlying148 i;have k1:=mZ Tryz.underlying148 j;have k2:=mZ Tryz.underlying3 k;rw[iz b c,iz b c,iz b c];have e:=az (·[0]?) l;have f:=az (·[0]?) k1;have g:=az (·[0]?) k2;simp[List.getElem?_drop]at e f g;exact⟨by simpa using e,by simpa using f,by simpa using g⟩
theorem aEG : "*" ++ "errors.errorString" = "*errors.errorString" := by decide
theorem aCw (u:TypeId)(h:Tryz.prog.typeName? 3 u=some "*errors.errorString"):u=240 :=
 typeName_ptr_named (nm := "errors.errorString") (by rw[aEG];kernel_rfl) (by kernel_rfl) (by decide) u (by rw[aEG];exact h)
theorem aKo {W:H}{n:String}{e:U}{g:Nat}{rest:List (String × DataW Unit)}(h:laidMet Tryz.prog ((n,.iface "*errors.errorString" (.ptr (.agg [.lit (.string e)]))) :: rest) W)
  (b:Tryz.prog.globalNamed n=some g) (c:(Tryz.prog.globals[g]?).map (·.type)=some 73):∃t v,W.cell? ⟨g,0,none⟩=some (.iface t v):=by
 obtain⟨a,s,d,_,_,_⟩:=laid_sentinel h b c Tryz.underlying73 aCw Tryz.underlying240 Tryz.underlying242 rfl rfl Tryz.underlying9 (by kernel_rfl) (by kernel_rfl);exact⟨_,_,by rw[iz b d 0];rfl⟩
def oP:List (String × DataW Unit):=Rows.realSameRow.laid
theorem aPw {W:H}(h:W.ShapedOpen Tryz.prog):∃m,W.cell? ⟨1,0,none⟩=some (.int .i64 m) :=
 cell_of_shapedOpen_int (t:=3) (zero:=#[.int .i64 0]) h (bv (by kernel_rfl)) (by kernel_rfl) rfl (by kernel_rfl) (by kernel_rfl) Tryz.underlying3
def aOw:Go.Shelf.Ren:=⟨fun n=>n,fun|5=>5|119=>197|138=>199|139=>200|n=>n,fun|3=>4|4=>5|n=>n⟩
theorem aQv:U8Types Tryz.prog aOw:={ t5:=Tryz.underlying5,t119:=Tryz.underlying197,t138:=Tryz.underlying199,t139:=Tryz.underlying200 }
theorem aQu:U8Extra Tryz.prog aOw:={ n3:=by kernel_rfl,n4:=by kernel_rfl,y3:=by kernel_rfl,y4:=by kernel_rfl,c5:=by kernel_rfl,c119:=by kernel_rfl,c138:=by kernel_rfl }
theorem aSL {W:H}(h:laidMet Tryz.prog oP W):Lib.Utf8Tabs 4 5 W:=by
 have b:Lib.VarReads Tryz.prog W "unicode/utf8.first" Lib.firstData:=by{have:=Lib.laidMet.reads h (n := "unicode/utf8.first") (d:=Rows.laid_unicode_utf8_first) (by unfold oP Rows.realSameRow;simp);rw[show Rows.laid_unicode_utf8_first=Lib.firstData by kernel_rfl]at this;exact this};have a:Lib.VarReads Tryz.prog W "unicode/utf8.acceptRanges" Lib.acceptData:=by{have:=Lib.laidMet.reads h (n := "unicode/utf8.acceptRanges") (d:=Rows.laid_unicode_utf8_acceptRanges) (by unfold oP Rows.realSameRow;simp);rw[show(Rows.laid_unicode_utf8_acceptRanges:DataW Unit)=Lib.acceptData by kernel_rfl]at this;exact this};exact utf8Tabs_of_readsT aQv aQu b a
theorem aQf {W:H}(j:laidMetH Tryz.prog oP W)(l:W.ShapedOpen Tryz.prog):aA W:=by
 rw[ui _ _ _ (by kernel_rfl)]at j;have h:laidMet Tryz.prog [("math/bits.deBruijn32tab",Rows.laid_math_bits_deBruijn32tab),("math/bits.deBruijn64tab",Rows.laid_math_bits_deBruijn64tab),("internal/strconv.float32info",Rows.laid_internal_strconv_float32info),("internal/strconv.float64info",Rows.laid_internal_strconv_float64info),("internal/strconv.optimize",Rows.laid_internal_strconv_optimize),("internal/strconv.powtab",Rows.laid_internal_strconv_powtab),("internal/strconv.float64pow10",Rows.laid_internal_strconv_float64pow10),("internal/strconv.float32pow10",Rows.laid_internal_strconv_float32pow10),("internal/strconv.uint64pow10",Rows.laid_internal_strconv_uint64pow10),("unicode/utf8.acceptRanges",Rows.laid_unicode_utf8_acceptRanges),("strconv.ErrRange",Rows.laid_strconv_ErrRange),("strconv.ErrSyntax",Rows.laid_strconv_ErrSyntax),("internal/strconv.leftcheats",Rows.laid_internal_strconv_leftcheats),("internal/strconv.pow10Tab",Rows.laid_internal_strconv_pow10Tab),("unicode/utf8.first",Rows.laid_unicode_utf8_first)] W:=j;have d:=h.tail.tail.tail;have e:=d.tail;have f:=e.tail;have g:=f.tail;have i:=g.tail.tail;have a:=i.tail.tail;have b:=a.tail;have c:=b.tail;have k:=c.tail;obtain⟨m,n,o⟩:=aPm d;exact⟨aRy e,aPw l,aKo b (by kernel_rfl) (by kernel_rfl),aKo a (by kernel_rfl) (by kernel_rfl),m,n,o,aRb g,aSC f,aRA k,aKa c,aRT i,aSL h⟩
open Go.ChangeShapes Go.WideShapes Go.ChangeAt Go.RowKit
theorem own:ownKnob Tryz.prog.godebug=none:=by kernel_rfl
open Go.RowKit
def aOx {H':Type}(enc:TypeId × Value->H')(P:Program)(fn:Func)(s:ChangeSpec)(w:H)(args:Array Value)(fuel:Nat):Bool :=
 match DataW.whole enc P w fn.params.toList s.vars false args.toList fuel with
 | some x=>Rows.uptoSmall H' (x.1++x.2.1)
 | none=>false
theorem aKT {H':Type}{enc:TypeId × Value->H'}{C:Checked}{os:Os}{f:FuncId}{fn:Func}{s:ChangeSpec}{again:Bool}{X:H->Array Value->Prop}
  (y:∀(w w':H) (a:Array Value),w.heap=w'.heap->X w a->X w' a)
  (own:ownKnob C.prog.godebug=none) (V:os.Started) (T:C.prog.inits.idxOf? f=none) (A:C.prog.funcs[f]?=some fn)
  (c:H) (b:Array Value) (p:Nat) (K:c.os=os)
  (M:(c.forCall (fun _ _=>0) ⟨#[],b,[]⟩).Shaped C.prog)
  (q:Input.okWideB C.prog (c.forCall (fun _ _=>0) ⟨#[],b,[]⟩) f ⟨#[],b,[]⟩=true)
  (k:aOx enc C.prog fn s (c.forCall (fun _ _=>0) ⟨#[],b,[]⟩).memory b p=true)
  (Q:s.sizedB enc C.prog fn false (c.forCall (fun _ _=>0) ⟨#[],b,[]⟩).memory b p=true)
  (hx:X (c.forCall (fun _ _=>0) ⟨#[],b,[]⟩).memory b)
  (r:∀(W:H) (base:Nat) (a:Array Value) (d g:List (DataW H')) (l:List MemPlace),
   (∀(j:Nat) t v,fn.params[j]?=some t->a[j]?=some v->Value.okWide C.prog W .any base t v) ->
   DataW.Whole enc C.prog fn.params.toList s.vars false W a.toList d g l->Rows.uptoBulkAll (d++g)<=1048576->X W a->W.ShapedOpen C.prog ->
   Calls C.prog f a W fun e o=>∃v,e=.returned v/\s.post enc C.prog fn false true false again W a v o) (F:Stop.Interp) :
  ReturnsInHanded {} C os f .any (fun w a=>((Rows.OpenSpec.upto s).pre enc C.prog fn [] false w a/\X w a)/\sizedMet enc C.prog fn (Rows.OpenSpec.upto s) false w a) (((Rows.OpenSpec.upto s).at F).post enc C.prog fn false true false again):=by
 refine returnsInHanded_of_calls own V T ?_ ?_
 ·refine⟨c,fun _ _=>0,⟨#[],b,[]⟩,K,M,(uw (base:=0) q).1,(uw q).2,⟨⟨?_,hx⟩,sizedMet_of_sizedB Q⟩,?_⟩
  ·unfold aOx at k;split at k
   ·rename_i x n;exact(OpenSpec.pre_some (s:=Rows.OpenSpec.upto s) rfl [] false _ _).2 ⟨x.1,x.2.1,x.2.2,DataW.Whole_of_whole n,rfl,k⟩
   ·cases k
  ·simp[Assume.holds]
 ·intro w tape i _ N _ J L _;obtain⟨_,_,_,u,B,_,_,_,_,R⟩:=J;obtain rfl:u=fn:=b8 (B.symm.trans A);obtain⟨⟨m,S⟩,_⟩:=L;obtain⟨d,g,l,n,_,E⟩:=(OpenSpec.pre_some (s:=Rows.OpenSpec.upto s) rfl [] false _ _).1 m;have D:Rows.uptoBulkAll (d++g)<=1048576:=bv E;have:=r (w.forCall tape i) _ i.args d g l R (DataW.Whole.of_heap (w':=w.forCall tape i) (by rfl) n) D (y _ _ _ (by rfl) S) N;exact this.mono fun e o h=>by
   obtain⟨v,z,m⟩:=h;subst z;exact ChangeSpec.post_blind m
open Go.ChangeShapes Go.WideShapes Go.ChangeAt Go.RowKit
section
variable {H':Type} {enc:TypeId × Value->H'} {P:Program} {w:H} {base:Nat} {spare:Nat->Bool} {held:Bool}
theorem aGZ {t:TypeId}{b c d e f g:Field}{o:Nat}{cs:List Value}{x:DataW H' × List MemPlace}(q:P.underlying t=some (.struct #[b,c,d,e,f,g]))(h:DataW.trod enc P w base spare held o t cs=some x) :
  ∃i j k l m y5 n,x.1=.agg [i.1,j.1,k.1,l.1,m.1,y5.1]/\cs.length=P.cellsOf t/\DataW.trod enc P w base spare held n b.type ((cs.drop b.offset).take (P.cellsOf b.type))=some i /\
   DataW.trod enc P w base spare held n c.type ((cs.drop c.offset).take (P.cellsOf c.type))=some j/\DataW.trod enc P w base spare held n d.type ((cs.drop d.offset).take (P.cellsOf d.type))=some k /\
   DataW.trod enc P w base spare held n e.type ((cs.drop e.offset).take (P.cellsOf e.type))=some l/\DataW.trod enc P w base spare held n f.type ((cs.drop f.offset).take (P.cellsOf f.type))=some m /\
   DataW.trod enc P w base spare held n g.type ((cs.drop g.offset).take (P.cellsOf g.type))=some y5:=by
 obtain⟨r,n,_,rfl,p,hlen,a⟩:=DataW.trod_struct q h;match r,hlen with
 | [i,j,k,l,m,y5],_=>exact⟨i,j,k,l,m,y5,n,by simp,p,by simpa using a 0 b rfl,by simpa using a 1 c rfl,by simpa using a 2 d rfl,by simpa using a 3 e rfl,by simpa using a 4 f rfl,by simpa using a 5 g rfl⟩
end
def rZ:List AT->Nat
 | []=>0
 | x :: l=>1+x.1.size+x.2.size+rZ l
mutual
def Nd.bk:Nd->Nat
 | .mk _ _ nm at' tx ks=>2+nm.size+tx.size+rZ at'+gX ks
def gX:List Nd->Nat
 | []=>0
 | k :: ks=>k.bk+gX ks
end
theorem aEA (s:I):s.data.toList.length=s.size:=rfl
variable {H':Type} {enc:TypeId × Value->H'} {W:H}
theorem sN (D:Nat->DataW H'):∀(m k:Nat),k<m->Rows.uptoBulkAll ((List.range' k (m-k)).map D)=Rows.uptoBulk (D k)+Rows.uptoBulkAll ((List.range' (k+1) (m-(k+1))).map D):=by
 intro m k h;rw[show m-k=(m-(k+1))+1 by omega,List.range'_succ];rfl
theorem aMy (d:DataW H'):1<=Rows.uptoBulk d:=by
 cases d with|lit l=>{cases l<;>simp[Rows.uptoBulk]}|_=>simp[Rows.uptoBulk]
theorem aEF {a:Addr}{n:Nat}{cs:List Value}{b:Nat}(h:W.cells? b a n=some cs)(f:0<n):a.spot=none:=by
 obtain⟨_,e,d⟩:=s7 h;have c:=d 0 (by omega);rw[bc (by omega)]at c;simpa [Addr.add]using World.cell?_spot c
theorem aMs {cs:List Value}{y:DataW H' × List MemPlace}{n:Nat}(h:DataW.trod enc Tryz.prog W 0 (fun _=>true) true n 33 cs=some y) :
  ∃v l,cs=[v]/\fK W v l/\rZ l<=Rows.uptoBulk y.1:=by
 rcases Go.Deep.open_slice Tryz.underlying33 h with⟨rfl,rfl⟩|⟨x,len,cap,m,n',D,T,rfl,_,hl,hm,B,rfl,f⟩;{exact⟨_,[],rfl,⟨none,0,rfl,fun j a=>absurd a (by simp)⟩,by simp[rZ]⟩}
 ·simp only[fa]at B;subst B;have L:Tryz.prog.cellsOf 39=2:=by{kernel_rfl};rw[L]at f;have J:Tryz.prog.cellsOf 9=1:=by{kernel_rfl};have N:0<len->x.spot=none:=fun V=>by{obtain⟨d,h1,_⟩:=f 0 (by omega);have:=aEF h1 (by omega);simpa [Addr.add]using this}
  have Q:∀j,j<len->x.spot=none/\∃q:AT,W.cell? ⟨x.block,x.off+j*2,none⟩=some (.string q.1)/\W.cell? ⟨x.block,x.off+j*2+1,none⟩=some (.string q.2)/\1+q.1.size+q.2.size<=Rows.uptoBulk (D j):=by
   intro j a;obtain⟨d,h1,h2⟩:=f j (by omega);obtain⟨_,M,A⟩:=s7 h1;have c:x.spot=none:=N (by omega);obtain⟨y0,y1,k,K,_,C,E⟩:=trod_struct2 Tryz.underlying39 h2;obtain⟨p,v1,rfl⟩:∃p v1,d=[p,v1]:=by
    match d,M with
    | [c0,c1],_=>exact⟨c0,c1,rfl⟩
   rw[J]at C E;have R:DataW.trod enc Tryz.prog W 0 (fun _=>true) true k 9 [p]=some y0:=C;have S:DataW.trod enc Tryz.prog W 0 (fun _=>true) true k 9 [v1]=some y1:=E;obtain⟨s0,t,rfl,_⟩:=qf Tryz.underlying9 R;obtain⟨s1,u,rfl,_⟩:=qf Tryz.underlying9 S;simp only[gi,gj]at t u;subst t u;refine⟨c,(s0,s1),?_,?_,?_⟩;{have:=A 0 (by omega);obtain⟨b,o,s⟩:=x;simp only at c;subst c;have e:((⟨b,o,none⟩:Addr).add (j*2)).add 0=⟨b,o+j*2,none⟩:=by{unfold Addr.add;split<;>simp_all};rw[e]at this;exact this};{have:=A 1 (by omega);obtain⟨b,o,s⟩:=x;simp only at c;subst c;have e:((⟨b,o,none⟩:Addr).add (j*2)).add 1=⟨b,o+j*2+1,none⟩:=by{have r:∀o n,(⟨b,o,none⟩:Addr).add n=⟨b,o+n,none⟩:=fun o n=>by{unfold Addr.add;split<;>simp_all};rw[r,r]};rw[e]at this;exact this};{have e:=az Prod.fst K;simp only at e;rw[e];simp only[Rows.uptoBulk,Rows.uptoBulkAll,aEA];omega}
  have F:∀k,k<=len->∃l:List AT,l.length=len-k/\(∀j (h:j<l.length),∃g off,some x=some ⟨g,off,none⟩/\W.cell? ⟨g,off+(k+j)*2,none⟩=some (.string (l[j]).1)/\W.cell? ⟨g,off+(k+j)*2+1,none⟩=some (.string (l[j]).2))/\rZ l<=Rows.uptoBulkAll ((List.range' k (len-k)).map D):=by{intro k X;obtain⟨i,hi⟩:=ex (len-k);induction i generalizing k with|zero=>{exact⟨[],by simp;omega,fun j a=>absurd a (by simp),by simp[rZ]⟩}|succ i ih=>{obtain⟨l,h1,h2,z⟩:=ih (k+1) (by omega) (by omega);obtain⟨c,q,q1,q2,q3⟩:=Q k (by omega);refine⟨q :: l,by simp;omega,?_,?_⟩;{intro j a;cases j with|zero=>{refine⟨x.block,x.off,?_,q1,q2⟩;obtain⟨b,o,s⟩:=x;simp only at c;rw[c]}|succ j=>{obtain⟨g,off,e,c1,c2⟩:=h2 j (by simpa using a);rw[show k+1+j=k+(j+1) by omega]at c1 c2;exact⟨g,off,e,c1,c2⟩}};{rw[sN D len k (by omega)];unfold rZ;omega}}};obtain⟨l,h1,h2,z⟩:=F 0 (ax _);refine⟨_,l,rfl,⟨some x,_,by rw[h1,oc],fun j a=>?_⟩,?_⟩;{obtain⟨g,off,e,c1,c2⟩:=h2 j a;rw[be]at c1 c2;exact⟨g,off,e,c1,c2⟩};{rw[oc,<-ux]at z;simp only[Rows.uptoBulk];omega}
theorem aMm:∀l:List AT,l.length<=rZ l:=by
 intro l;induction l with|nil=>exact ag _|cons x l ih=>{unfold rZ;simp;omega}
theorem aMn:∀(l:List AT) (x:AT),x∈l->x.1.size+x.2.size<=rZ l:=by
 intro l;induction l with|nil=>{intro x h;simp at h}|cons y l ih=>{intro x h;unfold rZ;rcases ce.1 h with rfl|h;{omega};{have:=ih x h;omega}}
theorem aQC (n:Nd):1<=n.bk:=by cases n;unfold Nd.bk;omega
theorem aJ5:∀ks:List Nd,ks.length<=gX ks:=by
 intro ks;induction ks with|nil=>exact ag _|cons k ks ih=>{unfold gX;have:=aQC k;simp;omega}
theorem aJ6 (D:Nat->DataW H'):∀(m k j:Nat),k<=j->j<m->Rows.uptoBulk (D j)<=Rows.uptoBulkAll ((List.range' k (m-k)).map D):=by
 intro m k j b a;obtain⟨i,hi⟩:=ex (j-k);induction i generalizing k with|zero=>{obtain rfl:k=j:=by{omega};rw[sN D m k a];omega}|succ i ih=>{rw[sN D m k (by omega)];have:=ih (k+1) (by omega) (by omega);omega}
def aFx (H':Type)(enc:TypeId × Value->H')(W:H)(m:Nat):Prop :=
 ∀(cs:List Value) (y:DataW H' × List MemPlace) (n:Nat),Rows.uptoBulk y.1<=m->DataW.trod enc Tryz.prog W 0 (fun _=>true) true n 45 cs=some y ->
  ∃c0 c1 c2 c3 c4 c5 nd,cs=[c0,c1,c2,c3,c4,c5]/\aH W nd (.agg #[c0,c1,c2,c3,c4,c5])/\nd.bk<=Rows.uptoBulk y.1
def aFw (H':Type)(enc:TypeId × Value->H')(W:H)(m:Nat):Prop :=
 ∀(cs:List Value) (y:DataW H' × List MemPlace) (n:Nat),Rows.uptoBulk y.1<=m->DataW.trod enc Tryz.prog W 0 (fun _=>true) true n 43 cs=some y ->
  ∃a c ks,cs=[.slice a ks.length c]/\aW W a 0 ks/\gX ks<=Rows.uptoBulk y.1/\ks.length<=c
theorem aK1 (m:Nat)(hm:m<=1048576)(E:∀p,p<m->aFw H' enc W p):aFx H' enc W m:=by
 intro cs y n hy h;obtain⟨y0,y1,y2,y3,y4,y5,k,B,l,s,t,u,v,x,z⟩:=aGZ Tryz.underlying45 h;have D:Tryz.prog.cellsOf 45=6:=by{kernel_rfl};rw[D]at l
 obtain⟨e,v1,v2,b,f,d,rfl⟩:∃e v1 v2 b f d,cs=[e,v1,v2,b,f,d]:=by
  match cs,l with
  | [c0,c1,c2,c3,c4,c5],_=>exact⟨c0,c1,c2,c3,c4,c5,rfl⟩
 have F:Tryz.prog.cellsOf 3=1:=by{kernel_rfl};have L:Tryz.prog.cellsOf 9=1:=by{kernel_rfl};have J:Tryz.prog.cellsOf 33=1:=by{kernel_rfl};have K:Tryz.prog.cellsOf 43=1:=by{kernel_rfl};rw[F]at s t;rw[L]at u x;rw[J]at v;rw[K]at z;have M:DataW.trod enc Tryz.prog W 0 (fun _=>true) true k 3 [e]=some y0:=s;have N:DataW.trod enc Tryz.prog W 0 (fun _=>true) true k 3 [v1]=some y1:=t;have Q:DataW.trod enc Tryz.prog W 0 (fun _=>true) true k 9 [v2]=some y2:=u;have R:DataW.trod enc Tryz.prog W 0 (fun _=>true) true k 33 [b]=some y3:=v;have S:DataW.trod enc Tryz.prog W 0 (fun _=>true) true k 9 [f]=some y4:=x;have T:DataW.trod enc Tryz.prog W 0 (fun _=>true) true k 43 [d]=some y5:=z;obtain⟨V,g,_,_⟩:=sy Tryz.underlying3 M;obtain⟨X,i,_,_⟩:=sy Tryz.underlying3 N;obtain⟨q,j,rfl,_⟩:=qf Tryz.underlying9 Q;obtain⟨ah,at',e3,A,aa⟩:=aMs R;obtain⟨r,e4,rfl,_⟩:=qf Tryz.underlying9 S;have hb:Rows.uptoBulk y.1=Rows.uptoBulk y0.1+(Rows.uptoBulk y1.1+(q.size+1+(Rows.uptoBulk y3.1+(r.size+1+(Rows.uptoBulk y5.1+0)))))+1:=by{rw[B];simp only[Rows.uptoBulk,Rows.uptoBulkAll,aEA]};obtain⟨a,c,o,e5,C,ab,_⟩:=E (Rows.uptoBulk y5.1) (by omega) [d] y5 k (ag _) T;simp only[gi,gj]at g i j e3 e4 e5;subst g i j e3 e4 e5;have ad:=aJ5 o;refine⟨_,_,_,_,_,_,.mk V X q at' r o,rfl,?_,?_⟩;{unfold aH;exact⟨b,a,c,rfl,by omega,A,C⟩};{unfold Nd.bk;have:=aMy y0.1;omega}
theorem aKN (m:Nat)(C:∀l,l<m->aFx H' enc W l):aFw H' enc W m:=by
 intro cs y n B h;rcases Go.Deep.open_slice Tryz.underlying43 h with⟨rfl,rfl⟩|⟨x,len,cap,E,F,D,p,rfl,_,N,_,f,rfl,c⟩;{exact⟨none,0,[],rfl,by unfold aW;trivial,by unfold gX;omega,ag _⟩};{simp only[fa]at f;subst f;have u:Tryz.prog.cellsOf 45=6:=by{kernel_rfl};rw[u]at c;have A:0<len->x.spot=none:=fun K=>by{obtain⟨d,h1,_⟩:=c 0 (by omega);have:=aEF h1 (by omega);simpa [Addr.add]using this};have L:Rows.uptoBulkAll ((List.range' 0 (len-0)).map D)<Rows.uptoBulk (DataW.slice (List.map D (List.range len)) (List.map (fun j=>D (len+j)) (List.range (E-len)))):=by{rw[oc,<-ux];simp only[Rows.uptoBulk];omega};have J:∀j,j<len->x.spot=none/\∃c0 c1 c2 c3 c4 c5 nd,Six W x.block (x.off+j*6) c0 c1 c2 c3 c4 c5/\aH W nd (.agg #[c0,c1,c2,c3,c4,c5])/\nd.bk<=Rows.uptoBulk (D j):=by{intro j z;obtain⟨d,h1,h2⟩:=c j (by omega);obtain⟨_,hn,v⟩:=s7 h1;have a:x.spot=none:=A (by omega);have Q:=aJ6 D len 0 j (ax _) z;simp only at B;obtain⟨c0,c1,c2,c3,c4,c5,nd,rfl,hN,t⟩:=C (Rows.uptoBulk (D j)) (by omega) d (D j,p j) F (ag _) h2;refine⟨a,c0,c1,c2,c3,c4,c5,nd,?_,hN,t⟩;obtain⟨b,o,s⟩:=x;simp only at a;subst a;have e:∀o n,(⟨b,o,none⟩:Addr).add n=⟨b,o+n,none⟩:=fun o n=>by{unfold Addr.add;split<;>simp_all};have g:∀i (hi:i<6),W.cell? ⟨b,o+j*6+i,none⟩=[c0,c1,c2,c3,c4,c5][i]?:=fun i hi=>by{have:=v i hi;rw[e,e]at this;exact this};exact⟨g 0 (by omega),g 1 (by omega),g 2 (by omega),g 3 (by omega),g 4 (by omega),g 5 (by omega)⟩};have q:∀k,k<=len->∃ks:List Nd,ks.length=len-k/\aW W (some x) k ks/\gX ks<=Rows.uptoBulkAll ((List.range' k (len-k)).map D):=by{intro k M;obtain⟨i,hi⟩:=ex (len-k);induction i generalizing k with|zero=>{exact⟨[],by simp;omega,by unfold aW;trivial,by simp[gX]⟩}|succ i ihk=>{obtain⟨ks,h1,h2,r⟩:=ihk (k+1) (by omega) (by omega);obtain⟨a,c0,c1,c2,c3,c4,c5,nd,q1,q2,R⟩:=J k (by omega);refine⟨nd :: ks,by simp;omega,?_,?_⟩;{unfold aW;refine⟨⟨x.block,x.off,c0,c1,c2,c3,c4,c5,?_,q1,q2⟩,h2⟩;obtain⟨b,o,s⟩:=x;simp only at a;rw[a]};{rw[sN D len k (by omega)];unfold gX;omega}}};obtain⟨ks,h1,h2,r⟩:=q 0 (ax _);refine⟨some x,_,ks,by rw[h1,oc],h2,?_,by omega⟩;simp only;omega}
theorem aNo:∀m,m<=1048576->aFx H' enc W m/\aFw H' enc W m:=by
 intro m;induction m using Nat.strongRecOn with|ind m ih=>exact fun b=>⟨aK1 m b (fun a h=>(ih a h (by omega)).2),aKN m (fun a h=>(ih a h (by omega)).1)⟩
