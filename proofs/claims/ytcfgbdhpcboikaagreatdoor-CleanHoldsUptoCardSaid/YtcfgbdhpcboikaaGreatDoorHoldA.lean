/-
policy.elem, plain, text; Attrs and Equal of no attributes.
-/
import Derived.Test.YtcfgbdhpcboikaaGreatDoorMayW
import Derived.Test.YtcfgbdhpcboikaaGreatDoorSched
import Derived.Shelf.SlSortCmp.WholeK
namespace Go.Proofs.YtcfgbdhpcboikaaGreatDoor
open Go.Lib (hid)
set_option maxHeartbeats 2000000
set_option maxRecDepth 100000
open Go.RowKit
open Go.RowKit
theorem fZ {α:Type}{a:Option α}{f g:α}(h:a=some f)(e:f=g):a=some g:=h.trans (congrArg some e)
theorem pT {n:Nat}:n≤n:=Nat.le_refl n
theorem aCO (cmp:Value)(w:World):Calls Tryz.prog 182 #[.slice none 0 0,.int .i64 0,.int .i64 0,cmp] w fun e w'=>e=.returned (.tuple #[])∧w=w':=by
 go_enter Tryz.func182,Tryz.ntmps182
 go_wp2
 refine wp_loop_rounds 1 ?_;rw[rounds_succ];go_wp2
 go_end0
 exact⟨rfl,rfl⟩
theorem aL1 (cmp:Value)(lim:Int)(w:World):Calls Tryz.prog 146 #[.slice none 0 0,.int .i64 0,.int .i64 0,.int .i64 lim,cmp] w fun e w'=>e=.returned (.tuple #[])∧w=w':=by
 go_enter Tryz.func146,Tryz.ntmps146
 go_wp2
 refine wp_loop_rounds 1 ?_;rw[rounds_succ];go_wp2_with fail
 refine(aCO cmp w).mono ?_;rintro e w' ⟨rfl,rfl⟩;go_wp2
 trace_state
 exact bodyPost_ret (v:=.tuple #[]) (by simp[results,Tryz.results146,go_sem]) rfl ⟨rfl,rfl⟩
theorem aKj (w:World):Calls Tryz.prog 147 #[.int .u64 0] w fun e w'=>e=.returned (.int .i64 0)∧w=w':=by
 go_enter Tryz.func147,Tryz.ntmps147
 go_wp2_with fail
 refine(Tryz.bits_Len64 0 w (by omega) (by omega)).mono ?_;rintro e w' ⟨rfl,hw⟩;subst hw;go_wp2
 go_ret;exact⟨rfl,rfl⟩
theorem aK9 (cmp:Value)(w:World):Calls Tryz.prog 86 #[.slice none 0 0,cmp] w fun e w'=>e=.returned (.tuple #[])∧w=w':=by
 go_enter Tryz.func86,Tryz.ntmps86
 go_wp2_with fail
 refine(aKj w).mono ?_;rintro e w' ⟨rfl,rfl⟩;go_wp2_with fail
 refine(aL1 cmp _ w).mono ?_;rintro e w' ⟨rfl,rfl⟩;go_wp2
 go_end0
 exact⟨rfl,rfl⟩
open Go.RowKit
theorem bG (w:World)(c0 c1 c2 c3 c4 c5:Value):Six (w.alloc (.cells #[c0,c1,c2,c3,c4,c5] 45)) w.heap.size 0 c0 c1 c2 c3 c4 c5:=by
 have h:∀j,(w.alloc (.cells #[c0,c1,c2,c3,c4,c5] 45)).cell? ⟨w.heap.size,j,none⟩=(#[c0,c1,c2,c3,c4,c5]:Array Value)[j]?:=fun j=>cell_of_row _ w.heap.size j _ 45 (0,0) (heap_alloc_new w _)
 exact⟨h 0,h 1,h 2,h 3,h 4,h 5⟩
theorem Tryz.info9:(Tryz.prog.info? 9).map (fun i=>(i.zero,i.size,i.bytes))=some (some (.string ⟨#[]⟩),1,16):=by kernel_rfl
open Go.RowKit
def cB:ByteArray:=⟨#[98,111,100,121]⟩
def bA (r:Bool)(w:World)(e:Ending)(w':World):Prop:=e=.returned (.bool r)∧Below w.heap.size w w'
open Go.RowKit
def Two (w:World)(g o:Nat)(c0 c1:Value):Prop:=w.cell? ⟨g,o,none⟩=some c0∧w.cell? ⟨g,o+1,none⟩=some c1
theorem Two.below {w w':World}{g o B:Nat}{c0 c1:Value}(h:Two w g o c0 c1)(hb:Below B w w')(hB:w.heap.size≤B):Two w' g o c0 c1:=by
 have hg:g<B:=Nat.lt_of_lt_of_le (World.block_lt_of_cell? w _ h.1) hB;exact⟨by rw[hb.cell (p:=⟨g,_,none⟩) hg];exact h.1,by rw[hb.cell (p:=⟨g,_,none⟩) hg];exact h.2⟩
open Go.RowKit
def rR:ByteArray:=⟨#[104,116,109,108]⟩
def cH:ByteArray:=⟨#[104,101,97,100]⟩
def aGD:ByteArray:=⟨#[109,101,116,97]⟩
structure aDv (w:World) (gh oh gm om cm ga oa ca gb ob cb:Nat) (a':Option Addr) (n' c':Nat):Prop where
 hd:Six w gh oh (.int .i64 1) (.int .i64 0) (.string ⟨#[104,101,97,100]⟩) (.slice none 0 0) (.string ⟨#[]⟩) (.slice (some ⟨gm,om,none⟩) 1 cm)
 bd:Six w gh (oh+6) (.int .i64 1) (.int .i64 0) (.string ⟨#[98,111,100,121]⟩) (.slice none 0 0) (.string ⟨#[]⟩) (.slice (some ⟨gb,ob,none⟩) 1 cb)
 mt:Six w gm om (.int .i64 1) (.int .i64 0) (.string ⟨#[109,101,116,97]⟩) (.slice (some ⟨ga,oa,none⟩) 1 ca) (.string ⟨#[]⟩) (.slice none 0 0)
 at':Two w ga oa (.string ⟨#[99,104,97,114,115,101,116]⟩) (.string ⟨#[117,116,102,45,56]⟩)
 kid:Six w gb ob (.int .i64 1) (.int .i64 0) (.string ⟨#[98]⟩) (.slice none 0 0) (.string ⟨#[]⟩) (.slice a' n' c')
theorem aDv.below {w w':World}{B gh oh gm om cm ga oa ca gb ob cb:Nat}{a':Option Addr}{n' c':Nat}(h:aDv w gh oh gm om cm ga oa ca gb ob cb a' n' c')(hb:Below B w w')(hB:w.heap.size≤B):aDv w' gh oh gm om cm ga oa ca gb ob cb a' n' c' :=
 ⟨h.hd.below hb hB,h.bd.below hb hB,h.mt.below hb hB,h.at'.below hb hB,h.kid.below hb hB⟩
open Go.RowKit
def jW (x:AT):List Value:=[.string x.1,.string x.2]
def fE (l:List AT):List Value:=l.flatMap jW
theorem pA (l:List AT):(fE l).length=l.length*2:=by
 induction l with
 | nil=>rfl
 | cons x l ih=>unfold fE at *;rw[List.flatMap_cons,List.length_append,ih];simp[jW];omega
theorem zP:∀(l:List AT) (j:Nat) (h:j<l.length),(fE l)[j*2]?=some (.string (l[j]).1)∧(fE l)[j*2+1]?=some (.string (l[j]).2):=by
 intro l;induction l with
 | nil=>intro j h;simp at h
 | cons x l ih =>
  intro j h;cases j with
  | zero=>exact⟨rfl,rfl⟩
  | succ j =>
   have:=ih j (by simpa using h);rw[show(j+1)*2=j*2+2 by omega,show j*2+2+1=(j*2+1)+2 by omega];unfold fE at *
   rw[List.flatMap_cons];exact this
theorem aHH (a b:List AT):fE (a++b)=fE a++fE b:=by unfold fE;rw[List.flatMap_append]
theorem bC.attrs {B:Nat}{v:Value}{l:List AT}{W0 w:World}(h:bC B 39 2 v l.length (fE l) W0 w):eI w v l:=by
 obtain⟨a,c,e,hc⟩:=h.vec;refine⟨a,c,e,fun j hj=>?_⟩;obtain⟨h1,h2⟩:=zP l j hj;obtain⟨g,off,ha,k1⟩:=hc _ _ h1;obtain⟨g',off',ha',k2⟩:=hc _ _ h2;rw[ha]at ha'
 cases ha';exact⟨g,off,ha,k1,by rw[Nat.add_assoc];exact k2⟩
theorem eI.get {w:World}{v:Value}{l:List AT}(h:eI w v l)(j:Nat)(hj:j<l.length):∃g off c,v=.slice (some ⟨g,off,none⟩) l.length c∧w.cell? ⟨g,off+j*2,none⟩=some (.string (l[j]).1)∧w.cell? ⟨g,off+j*2+1,none⟩=some (.string (l[j]).2):=by
 obtain⟨a,c,e,hc⟩:=h;obtain⟨g,off,ha,h1,h2⟩:=hc j hj;exact⟨g,off,c,by rw[e,ha],h1,h2⟩
def pM (s:ByteArray):Value:=.string s
theorem nF (v:Value)(zs:List ByteArray)(x:ByteArray)(w:World)(hn:zs.length≤1000000000)(hV:jE w v zs.length (zs.map pM))(b:Bool)(hb:Lib.containsS zs x=b) :
  Calls Tryz.prog 85 #[v,.string x] w fun e w'=>e=.returned (.bool b)∧w=w':=by
 obtain⟨a,c,rfl,hc⟩:=hV;cases zs with
 | nil =>
  refine(Tryz.slices_Contains_string_empty a c x w).mono ?_;rintro e w' ⟨rfl,rfl⟩;exact⟨by rw[←hb];rfl,rfl⟩
 | cons z zs =>
  obtain⟨g,off,rfl,_⟩:=hc 0 (pM z) (by simp);refine(Tryz.slices_Contains_string g off (z :: zs).length c (z :: zs) x w pT (by omega) ?_).mono ?_
  ·intro j hj;obtain⟨g',off',hg,hcell⟩:=hc j (pM ((z :: zs)[j])) (by rw[List.getElem?_map,List.getElem?_eq_getElem hj];rfl);cases hg;rw[hcell];simp[pM,List.getD_eq_getElem?_getD,List.getElem?_eq_getElem hj]
  ·rintro e w' ⟨rfl,rfl⟩;exact⟨by rw[List.take_length,←hb],rfl⟩
theorem Tryz.info39:(Tryz.prog.info? 39).map (fun i=>(i.zero,i.size,i.bytes))=some (some (.agg #[.string ⟨#[]⟩,.string ⟨#[]⟩]),2,32):=by kernel_rfl
open Go.RowKit Go.Shelf Go.Lib Go.Sort
def Tryz.sortAttr_ren:Go.Shelf.Ren:=⟨fun|6=>86|15=>147|14=>146|28=>190|29=>191|20=>182|21=>183|22=>184|23=>185|24=>186|25=>187|26=>188|27=>189|46=>218|47=>219|48=>220|49=>221|50=>222|57=>250|n=>n,fun|22=>33|24=>39|25=>96|3=>3|39=>148|0=>0|53=>177|55=>163|4=>4|46=>171|45=>170|50=>68|5=>5|9=>9|66=>202|70=>206|76=>245|77=>102|n=>n,fun|n=>n⟩
theorem Tryz.sortAttr:Go.Proofs.SlLaysF0.n6 Tryz.prog Tryz.sortAttr_ren:={
 mixed:=by kernel_rfl
 f6:=⟨ "slices.SortFunc[[]colander/api.Attr,colander/api.Attr]",of_decide_eq_true (by kernel_rfl),fZ Tryz.func86 (by kernel_rfl)⟩
 f14:=⟨ "slices.pdqsortCmpFunc[colander/api.Attr]",of_decide_eq_true (by kernel_rfl),fZ Tryz.func146 (by kernel_rfl)⟩
 f15:=fZ Tryz.func147 (by kernel_rfl)
 f20:=⟨ "slices.insertionSortCmpFunc[colander/api.Attr]",of_decide_eq_true (by kernel_rfl),fZ Tryz.func182 (by kernel_rfl)⟩
 f21:=⟨ "slices.heapSortCmpFunc[colander/api.Attr]",of_decide_eq_true (by kernel_rfl),fZ Tryz.func183 (by kernel_rfl)⟩
 f22:=⟨ "slices.breakPatternsCmpFunc[colander/api.Attr]",of_decide_eq_true (by kernel_rfl),fZ Tryz.func184 (by kernel_rfl)⟩
 f23:=⟨ "slices.choosePivotCmpFunc[colander/api.Attr]",of_decide_eq_true (by kernel_rfl),fZ Tryz.func185 (by kernel_rfl)⟩
 f24:=⟨ "slices.reverseRangeCmpFunc[colander/api.Attr]",of_decide_eq_true (by kernel_rfl),fZ Tryz.func186 (by kernel_rfl)⟩
 f25:=⟨ "slices.partialInsertionSortCmpFunc[colander/api.Attr]",of_decide_eq_true (by kernel_rfl),fZ Tryz.func187 (by kernel_rfl)⟩
 f26:=⟨ "slices.partitionEqualCmpFunc[colander/api.Attr]",of_decide_eq_true (by kernel_rfl),fZ Tryz.func188 (by kernel_rfl)⟩
 f27:=⟨ "slices.partitionCmpFunc[colander/api.Attr]",of_decide_eq_true (by kernel_rfl),fZ Tryz.func189 (by kernel_rfl)⟩
 f28:=fZ Tryz.func190 (by kernel_rfl)
 f29:=fZ Tryz.func191 (by kernel_rfl)
 f46:=⟨ "slices.siftDownCmpFunc[colander/api.Attr]",of_decide_eq_true (by kernel_rfl),fZ Tryz.func218 (by kernel_rfl)⟩
 f47:=fZ Tryz.func219 (by kernel_rfl)
 f48:=fZ Tryz.func220 (by kernel_rfl)
 f49:=⟨ "slices.medianAdjacentCmpFunc[colander/api.Attr]",of_decide_eq_true (by kernel_rfl),fZ Tryz.func221 (by kernel_rfl)⟩
 f50:=⟨ "slices.medianCmpFunc[colander/api.Attr]",of_decide_eq_true (by kernel_rfl),fZ Tryz.func222 (by kernel_rfl)⟩
 f57:=⟨ "slices.order2CmpFunc[colander/api.Attr]",of_decide_eq_true (by kernel_rfl),fZ Tryz.func250 (by kernel_rfl)⟩
 t0:=Tryz.underlying0
 a0:=Tryz.isAgg0
 z0:=Tryz.sizeOf0
 v0:=Tryz.zeroValue0
 t3:=Tryz.underlying3
 a3:=Tryz.isAgg3
 z3:=Tryz.sizeOf3
 v3:=Tryz.zeroValue3
 t4:=Tryz.underlying4
 a4:=Tryz.isAgg4
 z4:=Tryz.sizeOf4
 v4:=Tryz.zeroValue4
 t5:=Tryz.underlying5
 a5:=Tryz.isAgg5
 z5:=Tryz.sizeOf5
 v5:=Tryz.zeroValue5
 t9:=Tryz.underlying9
 a9:=Tryz.isAgg9
 z9:=Tryz.sizeOf9
 v9:=Tryz.zeroValue9
 t22:=Tryz.underlying33
 a22:=Tryz.isAgg33
 z22:=Tryz.sizeOf33
 v22:=Tryz.zeroValue33
 t25:=Tryz.underlying96
 a25:=Tryz.isAgg96
 z25:=Tryz.sizeOf96
 v25:=Tryz.zeroValue96
 t39:=Tryz.underlying148
 a39:=Tryz.isAgg148
 z39:=Tryz.sizeOf148
 v39:=Tryz.zeroValue148
 t45:=Tryz.underlying170
 a45:=Tryz.isAgg170
 z45:=Tryz.sizeOf170
 v45:=Tryz.zeroValue170
 t46:=Tryz.underlying171
 a46:=Tryz.isAgg171
 z46:=Tryz.sizeOf171
 v46:=Tryz.zeroValue171
 t50:=Tryz.underlying68
 a50:=Tryz.isAgg68
 z50:=Tryz.sizeOf68
 v50:=Tryz.zeroValue68
 t53:=Tryz.underlying177
 a53:=Tryz.isAgg177
 z53:=Tryz.sizeOf177
 v53:=Tryz.zeroValue177
 t55:=Tryz.underlying163
 a55:=Tryz.isAgg163
 z55:=Tryz.sizeOf163
 v55:=Tryz.zeroValue163
 t66:=Tryz.underlying202
 a66:=Tryz.isAgg202
 z66:=Tryz.sizeOf202
 v66:=Tryz.zeroValue202
 t70:=Tryz.underlying206
 a70:=Tryz.isAgg206
 z70:=Tryz.sizeOf206
 v70:=Tryz.zeroValue206
 t76:=Tryz.underlying245
 a76:=Tryz.isAgg245
 z76:=Tryz.sizeOf245
 v76:=Tryz.zeroValue245
 t77:=Tryz.underlying102
 a77:=Tryz.isAgg102
 z77:=Tryz.sizeOf102
 v77:=Tryz.zeroValue102 }
theorem aA0 (l:List AT):(flatK jW 2 l.toArray).toList=fE l:=by
 apply List.ext_getElem
 ·simp[pA]
 ·intro i h1 h2;have hi:i<l.length*2:=by rw[pA]at h2;exact h2
  have hj:i / 2<l.length:=by omega
  obtain⟨a1,a2⟩:=zP l (i / 2) hj;have e:(flatK jW 2 l.toArray).toList[i]=(jW l.toArray[i / 2]!)[i%2]! := by
   rw[Array.getElem_toList,←getElem!_pos,get_flatK _ _ _ _ (by simpa using hi)]
  rw[e,getElem!_pos l.toArray (i / 2) (by simpa using hj)];have hl:l.toArray[i / 2]'(by simpa using hj)=l[i / 2]:=by simp
  rw[hl];rcases Nat.mod_two_eq_zero_or_one i with hm|hm
  ·rw[hm];have hii:i / 2*2=i:=by omega
   rw[hii,List.getElem?_eq_getElem h2]at a1
   rw[Option.some.inj a1];rfl
  ·rw[hm];have hii:i / 2*2+1=i:=by omega
   rw[hii,List.getElem?_eq_getElem h2]at a2
   rw[Option.some.inj a2];rfl
theorem aKY (x:AT):(jW x).length=2:=rfl
theorem aKO (x:AT):∀v∈jW x,v.oneCell'=true:=by
 intro v hv;simp[jW]at hv
 rcases hv with rfl|rfl<;>rfl
theorem Tryz.closure87 (x y:AT)(W:World):Calls Tryz.prog 87 #[.agg #[.string x.1,.string x.2],.agg #[.string y.1,.string y.2]] W fun e w'=>e=.returned (.int .i64 (fX x y))∧∃q os',w'=grow (W.drewN q) os':=by
 have hcon:=fun W'=>Tryz.strings_Compare x.1 y.1 W'
 unfold fX;generalize compareBytes x.1.data.toList y.1.data.toList=r at hcon ⊢;go_enter Tryz.func87,Tryz.ntmps87
 go_wp2_with (go_at_call 88;refine(hcon _).mono ?_;rintro e w' ⟨rfl,rfl⟩)
 go_ret;exact⟨rfl,0,_,by rw[alloc_eq_grow,alloc_eq_grow,grow_grow];rfl⟩
theorem Tryz.cmp87 (blk off size:Nat)(w:World):CmpLays Tryz.prog 87 #[] jW 2 fX blk off size w :=
 fun _ _ _ _ x y=>Tryz.closure87 x y _
theorem aBR (w:World)(g n:Nat)(d:Array AT)(os:Array Obj)(k:Nat)(hk:k<w.heap.size) :
  (sortWorldK jW 2 w g 0 n d os).heap[k]?=if g=k then w.heap[k]?.map (onCells (putCells id 0 (flatK jW 2 d)))else w.heap[k]?:=by
 unfold sortWorldK grow putRowK putRow mapBlock;simp only;rw[Array.getElem?_append_left (by simp;exact hk),Array.getElem?_modify];rfl
theorem aJC {B:Nat}{v:Value}{l r:List AT}{W0 w w':World}{g cap n:Nat}{cur:Array Value}{os:Array Obj}(hO:bC B 39 2 v l.length (fE l) W0 w)(hv:v=.slice (some ⟨g,0,none⟩) l.length cap)(hB:B≤g)(hg:w.heap[g]?=some (.cells cur 39 (0,0)))
  (hnc:l.length≤cap) (hcm:cap≤maxLen) (hcs:cur.size=cap*2) (hr:r.length=l.length) (hw:w'=sortWorldK jW 2 w g 0 n r.toArray os):bC B 39 2 v r.length (fE r) W0 w':=by
 have hlt:g<w.heap.size:=(Array.getElem?_eq_some_iff.1 hg).1;subst hw;have hsz:w.heap.size≤(sortWorldK jW 2 w g 0 n r.toArray os).heap.size:=by
  unfold sortWorldK grow putRowK putRow mapBlock;simp
 refine⟨⟨by rw[pA],.inr ⟨g,cap,putCells id 0 (flatK jW 2 r.toArray) cur,by rw[hr];exact hv,hB,?_,by omega,hcm,?_,?_⟩⟩,?_,Nat.le_trans hO.base hsz⟩
 ·rw[aBR _ _ _ _ _ _ hlt,if_pos rfl,hg];rfl
 ·unfold putCells;simpa using hcs
 ·rw[←aA0 r];apply List.ext_getElem
  ·rw[List.length_take];unfold putCells;simp;omega
  ·intro i h1 h2;have hi:i<(flatK jW 2 r.toArray).size:=by simpa using h2
   rw[List.getElem_take];unfold putCells;rw[Array.getElem_toList,Array.getElem_mapIdx,if_pos ⟨Nat.zero_le _,by rw[Nat.zero_add];exact hi⟩];rw[Nat.sub_zero,getElem!_pos _ i hi];simp
 ·refine hO.bel.trans ⟨rfl,rfl,rfl,hsz,fun k hk=>?_⟩;rw[aBR _ _ _ _ _ _ (by omega),if_neg (by omega)]
theorem aKI (v:Value)(l:List AT)(W0 w:World)(B:Nat)(hO:bC B 39 2 v l.length (fE l) W0 w)(hl:l.length≤1000000000) :
  Calls Tryz.prog 86 #[v,.func (.func 87) #[] #[]] w fun e w'=>e=.returned (.tuple #[])∧∃r:List AT,r.Perm l∧SortedIn (ltOf fX) 0 r.length r.toArray∧bC B 39 2 v r.length (fE r) W0 w':=by
 rcases hO.own.2 with⟨rfl,h0⟩|⟨g,cap,cur,hv,hB,hg,hnc,hcm,hcs,htake⟩
 ·have hnil:l=[]:=List.eq_nil_of_length_eq_zero h0;subst hnil;refine(aK9 _ w).mono ?_;rintro e w' ⟨rfl,rfl⟩;exact⟨rfl,[],List.Perm.refl _,fun i j _ _ h=>absurd h (by simp),hO⟩
 ·subst hv;have hlt:g<w.heap.size:=(Array.getElem?_eq_some_iff.1 hg).1;have eg:∀args w,(callFunc 87 args).run Tryz.prog w=.ok (.enter 87 args) w:=enters_of Tryz.func87 (by kernel_rfl) rfl;have hH:HoldsK jW 2 w g 0 l.toArray:=by
   intro j hj;have hj':j<l.length*2:=by simpa using hj
   rw[Nat.zero_add];refine⟨?_,?_⟩
   ·rw[cell_of_row w g j cur 39 (0,0) hg];have e:(flatK jW 2 l.toArray)[j]! = (fE l)[j]'(by rw[pA];exact hj'):=by
     rw[getElem!_pos _ j hj,←Array.getElem_toList];simp only[aA0]
    rw[e];have:(cur.toList.take (l.length*2))[j]?=(fE l)[j]?:=by rw[htake]
    rw[List.getElem?_take,if_pos hj',List.getElem?_eq_getElem (l:=fE l) (by rw[pA];exact hj')]at this
    simpa using this
   ·simp[World.frozen?,hg]
  have hcon:=AnyQ.slices_SortFunc Tryz.sortAttr 2 Tryz.isAgg39 Tryz.sizeOf39 jW aKY aKO fX aI2 87 #[] g 0 cap l.toArray w eg (Tryz.cmp87 g 0 _ w) hH hlt (by simp;omega);change Calls Tryz.prog 86 _ _ _ at hcon;simp only[List.size_toArray]at hcon;refine hcon.mono ?_;rintro e w' ⟨rfl,d',n,os,hp,hs,rfl⟩;have hsz:d'.size=l.length:=by simpa using hp.1
  have hperm:d'.toList.Perm l:=by
   have h2:=hp.2.2;have e1:(d'.extract 0 l.length).toList=d'.toList:=by rw[←hsz];simp
   have e2:(l.toArray.extract 0 l.length).toList=l:=by simp
   rw[e1,e2]at h2
   exact h2
  refine⟨rfl,d'.toList,hperm,?_,?_⟩
  ·have:d'.toList.length=l.length:=by simpa using hsz
   rw[this];simpa using hs
  ·exact aJC (n:=n) (os:=os) hO rfl hB hg hnc hcm hcs (by simpa using hsz) (by simp)
open Go.RowKit
structure Phr (w:World) (pv:Value) (ph:List ByteArray):Prop where
 vec:jE w pv ph.length (ph.map pM)
 cap:∃a c,pv=.slice a ph.length c∧ph.length≤c
theorem Phr.below {w w':World}{B:Nat}{pv:Value}{ph:List ByteArray}(h:Phr w pv ph)(hb:Below B w w')(hB:w.heap.size≤B):Phr w' pv ph:=⟨h.vec.below hb hB,h.cap⟩
theorem Phr.nil (w:World):Phr w (.slice none 0 0) []:=⟨⟨none,0,rfl,fun j u hj=>by simp at hj⟩,⟨none,0,rfl,Nat.le_refl _⟩⟩
def gU:List (ByteArray × ByteArray):=[(⟨#[99,104,97,114,115,101,116]⟩,⟨#[117,116,102,45,56]⟩)]
open Go.RowKit
open Go.RowKit
def fF:Nd:=.mk 1 0 aGD gU ⟨#[]⟩ []
structure aJx (w:World) (gh gm ga:Nat) (a:Option Addr) (n c:Nat):Prop where
 hd:Six w gh 0 (.int .i64 1) (.int .i64 0) (.string ⟨#[104,101,97,100]⟩) (.slice none 0 0) (.string ⟨#[]⟩) (.slice (some ⟨gm,0,none⟩) 1 1)
 bd:Six w gh 6 (.int .i64 1) (.int .i64 0) (.string ⟨#[98,111,100,121]⟩) (.slice none 0 0) (.string ⟨#[]⟩) (.slice a n c)
 mt:Six w gm 0 (.int .i64 1) (.int .i64 0) (.string ⟨#[109,101,116,97]⟩) (.slice (some ⟨ga,0,none⟩) 1 1) (.string ⟨#[]⟩) (.slice none 0 0)
 at':Two w ga 0 (.string ⟨#[99,104,97,114,115,101,116]⟩) (.string ⟨#[117,116,102,45,56]⟩)
theorem aJx.below {w w':World}{B gh gm ga:Nat}{a:Option Addr}{n c:Nat}(h:aJx w gh gm ga a n c)(hb:Below B w w')(hB:w.heap.size≤B):aJx w' gh gm ga a n c :=
 ⟨h.hd.below hb hB,h.bd.below hb hB,h.mt.below hb hB,h.at'.below hb hB⟩
open Go.RowKit
def jM (D:Nat→Prop)(w:World)(a:Option Addr)(l:List (ByteArray × ByteArray)):Prop :=
 ∀j (h:j<l.length),∃g off,a=some ⟨g,off,none⟩∧D g∧w.cell? ⟨g,off+j*2,none⟩=some (.string (l[j]).1)∧w.cell? ⟨g,off+j*2+1,none⟩=some (.string (l[j]).2)
mutual
def bU (D:Nat→Prop)(w:World):Nd→Value→Prop
 | .mk kd sp nm at' tx ks,v=>∃aa ca a c,v=.agg #[.int .i64 kd,.int .i64 sp,.string nm,.slice aa at'.length ca,.string tx,.slice a ks.length c]∧ks.length≤140737488355328∧jM D w aa at'∧aF D w a 0 ks
def aF (D:Nat→Prop)(w:World)(a:Option Addr):Nat→List Nd→Prop
 | _,[]=>True
 | i,n :: ks=>(∃g off c0 c1 c2 c3 c4 c5,a=some ⟨g,off,none⟩∧D g∧Six w g (off+i*6) c0 c1 c2 c3 c4 c5∧bU D w n (.agg #[c0,c1,c2,c3,c4,c5]))∧aF D w a (i+1) ks
end
theorem iY {w w':World}{g o:Nat}{v:Value}(h:w'.heap[g]?=w.heap[g]?)(hc:w.cell? ⟨g,o,none⟩=some v):w'.cell? ⟨g,o,none⟩=some v :=
 (World.cell?_of_block h).trans hc
theorem Six.same {w w':World}{g o:Nat}{c0 c1 c2 c3 c4 c5:Value}(h:Six w g o c0 c1 c2 c3 c4 c5)(e:w'.heap[g]?=w.heap[g]?):Six w' g o c0 c1 c2 c3 c4 c5 :=
 ⟨iY e h.x0,iY e h.x1,iY e h.x2,iY e h.x3,iY e h.x4,iY e h.x5⟩
theorem Six.lt {w:World}{g o:Nat}{c0 c1 c2 c3 c4 c5:Value}(h:Six w g o c0 c1 c2 c3 c4 c5):g<w.heap.size:=World.block_lt_of_cell? w _ h.x0
theorem jM.keep {D D':Nat→Prop}{w w':World}(hk:∀g,g<w.heap.size→D g→w'.heap[g]?=w.heap[g]?∧D' g){a:Option Addr}{l:List (ByteArray × ByteArray)}(h:jM D w a l):jM D' w' a l:=by
 intro j hj;obtain⟨g,off,ha,hd,h1,h2⟩:=h j hj;obtain⟨e,hd'⟩:=hk g (World.block_lt_of_cell? w _ h1) hd;exact⟨g,off,ha,hd',iY e h1,iY e h2⟩
theorem yM {D D':Nat→Prop}{w w':World}(hk:∀g,g<w.heap.size→D g→w'.heap[g]?=w.heap[g]?∧D' g):∀m:Nat,(∀(n:Nd) (v:Value),n.sz≤m→bU D w n v→bU D' w' n v)∧(∀(a:Option Addr) (ks:List Nd) (i:Nat),aD ks≤m→aF D w a i ks→aF D' w' a i ks):=by
 intro m;induction m with
 | zero =>
  refine⟨fun n v hn=>absurd (eG n) (by omega),fun a ks=>?_⟩;cases ks with
  | nil=>intro i _ h;unfold aF;trivial
  | cons k ks=>intro i hs;unfold aD at hs;exact absurd (eG k) (by omega)
 | succ m ih =>
  have hN:∀(n:Nd) (v:Value),n.sz≤m+1→bU D w n v→bU D' w' n v:=by
   intro n v hs h;cases n with
   | mk kd sp nm at' tx ks =>
    unfold Nd.sz at hs;unfold bU at h ⊢;obtain⟨aa,ca,a,c,e,hl,ha,hkk⟩:=h;exact⟨aa,ca,a,c,e,hl,ha.keep hk,ih.2 a ks 0 (by omega) hkk⟩
  refine⟨hN,fun a ks=>?_⟩;induction ks with
  | nil=>intro i _ h;unfold aF;trivial
  | cons k ks ihk =>
   intro i hs h;unfold aD at hs;unfold aF at h ⊢;obtain⟨⟨g,off,c0,c1,c2,c3,c4,c5,e,hd,h6,hn⟩,hr⟩:=h;obtain⟨eg,hd'⟩:=hk g h6.lt hd;exact⟨⟨g,off,c0,c1,c2,c3,c4,c5,e,hd',h6.same eg,hN k _ (by omega) hn⟩,ihk (i+1) (by omega) hr⟩
theorem bU.keep {D D':Nat→Prop}{w w':World}{n:Nd}{v:Value}(h:bU D w n v)(hk:∀g,g<w.heap.size→D g→w'.heap[g]?=w.heap[g]?∧D' g):bU D' w' n v:=(yM hk n.sz).1 n v pT h
theorem aF.keep {D D':Nat→Prop}{w w':World}{a:Option Addr}{ks:List Nd}{i:Nat}(h:aF D w a i ks)(hk:∀g,g<w.heap.size→D g→w'.heap[g]?=w.heap[g]?∧D' g):aF D' w' a i ks:=(yM hk (aD ks)).2 a ks i pT h
theorem jM.attrs {D:Nat→Prop}{w:World}{a:Option Addr}{l:List (ByteArray × ByteArray)}(h:jM D w a l)(c:Nat):eI w (.slice a l.length c) l :=
 ⟨a,c,rfl,fun j hj=>by obtain⟨g,off,ha,_,h1,h2⟩:=h j hj;exact⟨g,off,ha,h1,h2⟩⟩
theorem wP {D:Nat→Prop}{w:World}:∀m:Nat,(∀(n:Nd) (v:Value),n.sz≤m→bU D w n v→aL w n v)∧(∀(a:Option Addr) (ks:List Nd) (i:Nat),aD ks≤m→aF D w a i ks→aT w a i ks):=by
 intro m;induction m with
 | zero =>
  refine⟨fun n v hn=>absurd (eG n) (by omega),fun a ks=>?_⟩;cases ks with
  | nil=>intro i _ h;unfold aT;trivial
  | cons k ks=>intro i hs;unfold aD at hs;exact absurd (eG k) (by omega)
 | succ m ih =>
  have hN:∀(n:Nd) (v:Value),n.sz≤m+1→bU D w n v→aL w n v:=by
   intro n v hs h;cases n with
   | mk kd sp nm at' tx ks =>
    unfold Nd.sz at hs;unfold bU at h;unfold aL;obtain⟨aa,ca,a,c,e,hl,ha,hkk⟩:=h;exact⟨_,a,c,e,hl,ha.attrs ca,ih.2 a ks 0 (by omega) hkk⟩
  refine⟨hN,fun a ks=>?_⟩;induction ks with
  | nil=>intro i _ h;unfold aT;trivial
  | cons k ks ihk =>
   intro i hs h;unfold aD at hs;unfold aF at h;unfold aT;obtain⟨⟨g,off,c0,c1,c2,c3,c4,c5,e,_,h6,hn⟩,hr⟩:=h;exact⟨⟨g,off,c0,c1,c2,c3,c4,c5,e,h6,hN k _ (by omega) hn⟩,ihk (i+1) (by omega) hr⟩
theorem bU.node {D:Nat→Prop}{w:World}{n:Nd}{v:Value}(h:bU D w n v):aL w n v:=(wP n.sz).1 n v pT h
theorem aF.kids {D:Nat→Prop}{w:World}{a:Option Addr}{ks:List Nd}{i:Nat}(h:aF D w a i ks):aT w a i ks:=(wP (aD ks)).2 a ks i pT h
theorem aCm {w:World}:∀m:Nat,(∀(n:Nd) (v:Value),n.sz≤m→aL w n v→bU (fun g=>g<w.heap.size) w n v)∧(∀(a:Option Addr) (ks:List Nd) (i:Nat),aD ks≤m→aT w a i ks→aF (fun g=>g<w.heap.size) w a i ks):=by
 intro m;induction m with
 | zero =>
  refine⟨fun n v hn=>absurd (eG n) (by omega),fun a ks=>?_⟩;cases ks with
  | nil=>intro i _ h;unfold aF;trivial
  | cons k ks=>intro i hs;unfold aD at hs;exact absurd (eG k) (by omega)
 | succ m ih =>
  have hN:∀(n:Nd) (v:Value),n.sz≤m+1→aL w n v→bU (fun g=>g<w.heap.size) w n v:=by
   intro n v hs h;cases n with
   | mk kd sp nm at' tx ks =>
    unfold Nd.sz at hs;unfold aL at h;unfold bU;obtain⟨av,a,c,e,hl,⟨aa,ca,rfl,ha⟩,hkk⟩:=h;refine⟨aa,ca,a,c,e,hl,fun j hj=>?_,ih.2 a ks 0 (by omega) hkk⟩;obtain⟨g,off,h1,h2,h3⟩:=ha j hj;exact⟨g,off,h1,World.block_lt_of_cell? w _ h2,h2,h3⟩
  refine⟨hN,fun a ks=>?_⟩;induction ks with
  | nil=>intro i _ h;unfold aF;trivial
  | cons k ks ihk =>
   intro i hs h;unfold aD at hs;unfold aT at h;unfold aF;obtain⟨⟨g,off,c0,c1,c2,c3,c4,c5,e,h6,hn⟩,hr⟩:=h;exact⟨⟨g,off,c0,c1,c2,c3,c4,c5,e,h6.lt,h6,hN k _ (by omega) hn⟩,ihk (i+1) (by omega) hr⟩
theorem aL.deep {w:World}{n:Nd}{v:Value}(h:aL w n v):bU (fun g=>g<w.heap.size) w n v:=(aCm n.sz).1 n v pT h
theorem aT.deep {w:World}{a:Option Addr}{ks:List Nd}{i:Nat}(h:aT w a i ks):aF (fun g=>g<w.heap.size) w a i ks:=(aCm (aD ks)).2 a ks i pT h
def cG (D:Nat→Prop)(w:World)(xs:List Value)(ks:List Nd):Prop :=
 xs.length=ks.length*6∧∀j (h:j<ks.length),∃c0 c1 c2 c3 c4 c5,xs[j*6]?=some c0∧xs[j*6+1]?=some c1∧xs[j*6+2]?=some c2∧xs[j*6+3]?=some c3∧xs[j*6+4]?=some c4∧xs[j*6+5]?=some c5∧bU D w ks[j] (.agg #[c0,c1,c2,c3,c4,c5])
theorem cG.nil (D:Nat→Prop)(w:World):cG D w [] []:=⟨rfl,fun j h=>absurd h (by simp)⟩
theorem cG.keep {D D':Nat→Prop}{w w':World}{xs:List Value}{ks:List Nd}(h:cG D w xs ks)(hk:∀g,g<w.heap.size→D g→w'.heap[g]?=w.heap[g]?∧D' g):cG D' w' xs ks:=by
 refine⟨h.1,fun j hj=>?_⟩;obtain⟨c0,c1,c2,c3,c4,c5,h0,h1,h2,h3,h4,h5,hn⟩:=h.2 j hj;exact⟨c0,c1,c2,c3,c4,c5,h0,h1,h2,h3,h4,h5,hn.keep hk⟩
theorem cG.snoc {D:Nat→Prop}{w:World}{xs:List Value}{ks:List Nd}{x:Nd}{c0 c1 c2 c3 c4 c5:Value}(h:cG D w xs ks)(hx:bU D w x (.agg #[c0,c1,c2,c3,c4,c5])):cG D w (xs++[c0,c1,c2,c3,c4,c5]) (ks++[x]):=by
 obtain⟨hl,h⟩:=h;have at6:∀t,(xs++[c0,c1,c2,c3,c4,c5])[ks.length*6+t]?=[c0,c1,c2,c3,c4,c5][t]?:=fun t=>by rw[List.getElem?_append_right (by omega),show ks.length*6+t-xs.length=t by omega]
 refine⟨by simp;omega,fun j hj=>?_⟩;have up:∀i v,xs[i]?=some v→(xs++[c0,c1,c2,c3,c4,c5])[i]?=some v:=fun i v hi=>by rw[List.getElem?_append_left (List.getElem?_eq_some_iff.1 hi).1];exact hi
 by_cases hjm:j<ks.length
 ·obtain⟨d0,d1,d2,d3,d4,d5,k0,k1,k2,k3,k4,k5,kn⟩:=h j hjm;refine⟨d0,d1,d2,d3,d4,d5,up _ _ k0,up _ _ k1,up _ _ k2,up _ _ k3,up _ _ k4,up _ _ k5,?_⟩;rw[List.getElem_append_left hjm];exact kn
 ·have hje:j=ks.length:=by simp at hj;omega
  subst hje;refine⟨c0,c1,c2,c3,c4,c5,at6 0,at6 1,at6 2,at6 3,at6 4,at6 5,?_⟩;rw[List.getElem_append_right pT];simpa using hx
theorem bU.parts {D:Nat→Prop}{w:World}{n:Nd}{aa:Option Addr}{al ca:Nat}{c0 c1 c2 c4:Value}{a:Option Addr}{kl c:Nat}(h:bU D w n (.agg #[c0,c1,c2,.slice aa al ca,c4,.slice a kl c])):jM D w aa n.attrs∧aF D w a 0 n.kids:=by
 cases n with
 | mk kd sp nm at' tx ks =>
  unfold bU at h;obtain⟨aa',ca',a',c',e,_,hA,hK⟩:=h;simp only[Value.agg.injEq,Array.mk.injEq,List.cons.injEq,and_true,Value.slice.injEq]at e;obtain⟨_,_,_,⟨rfl,_,_⟩,_,⟨rfl,_,_⟩⟩:=e;exact⟨hA,hK⟩
theorem aF.get {D:Nat→Prop}{w:World}{a:Option Addr}:∀(ks:List Nd) (i j:Nat) (h:j<ks.length),aF D w a i ks→∃g off c0 c1 c2 c3 c4 c5,a=some ⟨g,off,none⟩∧D g∧Six w g (off+(i+j)*6) c0 c1 c2 c3 c4 c5∧bU D w ks[j] (.agg #[c0,c1,c2,c3,c4,c5]):=by
 intro ks;induction ks with
 | nil=>intro i j h;simp at h
 | cons k ks ih =>
  intro i j h hk;unfold aF at hk;cases j with
  | zero=>exact hk.1
  | succ j =>
   have:=ih (i+1) j (by simpa using h) hk.2;rw[show i+1+j=i+(j+1) by omega]at this
   exact this
theorem aB4 {D:Nat→Prop}{w:World}{a:Option Addr}{xs:List Value}{ks:List Nd}(h:iQ w xs ks)(hc:∀j u,xs[j]?=some u→∃g off,a=some ⟨g,off,none⟩∧w.cell? ⟨g,off+j,none⟩=some u)(hk:aF D w a 0 ks):cG D w xs ks:=by
 refine⟨h.1,fun j hj=>?_⟩;obtain⟨c0,c1,c2,c3,c4,c5,h0,h1,h2,h3,h4,h5,_⟩:=h.2 j hj;obtain⟨g,off,d0,d1,d2,d3,d4,d5,ha,_,h6,hn⟩:=hk.get ks 0 j hj;rw[Nat.zero_add]at h6
 have same:∀i u v,xs[i]?=some u→w.cell? ⟨g,off+i,none⟩=some v→v=u:=fun i u v hu hv=>by
  obtain⟨g',off',ha',hcc⟩:=hc i u hu;rw[ha]at ha'
  cases ha';rw[hv]at hcc
  exact Option.some.inj hcc
 rw[same _ _ _ h0 h6.x0,same _ _ _ h1 h6.x1,same _ _ _ h2 h6.x2,same _ _ _ h3 h6.x3,same _ _ _ h4 h6.x4,same _ _ _ h5 h6.x5]at hn
 exact⟨c0,c1,c2,c3,c4,c5,h0,h1,h2,h3,h4,h5,hn⟩
theorem oD {D D':Nat→Prop}{w:World}{a:Option Addr}{n c:Nat}{xs:List Value}{ks:List Nd}(hv:jE w (.slice a n c) n xs)(h:cG D w xs ks)(hD:∀g,D g→D' g)(ha:∀y,a=some y→D' y.block):aF D' w a 0 ks:=by
 obtain⟨a',c',e,hc⟩:=hv;simp only[Value.slice.injEq]at e;obtain⟨rfl,_⟩:=e;have key:∀(m i:Nat),i+m=ks.length→aF D' w a i (ks.drop i):=by
  intro m;induction m with
  | zero=>intro i hi;rw[List.drop_eq_nil_of_le (by omega)];unfold aF;trivial
  | succ m ih =>
   intro i hi;have hlt:i<ks.length:=by omega
   rw[List.drop_eq_getElem_cons hlt];unfold aF;refine⟨?_,ih (i+1) (by omega)⟩;obtain⟨c0,c1,c2,c3,c4,c5,h0,h1,h2,h3,h4,h5,hn⟩:=h.2 i hlt;obtain⟨g,off,hga,k0⟩:=hc _ _ h0;have same:∀j u,xs[j]?=some u→w.cell? ⟨g,off+j,none⟩=some u:=by
    intro j u hj;obtain⟨g',off',ha',k⟩:=hc _ _ hj;rw[hga]at ha'
    cases ha';exact k
   exact⟨g,off,c0,c1,c2,c3,c4,c5,hga,ha _ hga,⟨k0,same _ _ h1,same _ _ h2,same _ _ h3,same _ _ h4,same _ _ h5⟩,hn.keep (fun g _ hg=>⟨rfl,hD g hg⟩)⟩
 exact key ks.length 0 (by omega)
open Go.RowKit
def uO:List Value→Nat→List Value→List Value
 | xs,_,[]=>xs
 | xs,o,c :: r=>uO (xs.set o c) (o+1) r
theorem aHy:∀(cs xs:List Value) (o j:Nat),o+cs.length≤xs.length→(uO xs o cs)[j]?=if o≤j∧j<o+cs.length then cs[j-o]? else xs[j]?:=by
 intro cs;induction cs with
 | nil=>intro xs o j _;unfold uO;rw[if_neg (by simp only[List.length_nil];omega)]
 | cons c r ih =>
  intro xs o j h;simp only[List.length_cons]at h ⊢;unfold uO;rw[ih (xs.set o c) (o+1) j (by rw[List.length_set];omega)];by_cases h1:o+1≤j∧j<o+1+r.length
  ·rw[if_pos h1,if_pos (by omega),show j-o=(j-(o+1))+1 by omega,List.getElem?_cons_succ]
  ·rw[if_neg h1];by_cases h2:j=o
   ·subst h2;rw[if_pos (by omega),Nat.sub_self,List.getElem?_cons_zero,List.getElem?_set_self (by omega)]
   ·rw[if_neg (by omega),List.getElem?_set_ne (fun e=>h2 e.symm)]
theorem aB2 (ys zs cs:List Value)(h:zs.length=cs.length):uO (ys++zs) ys.length cs=ys++cs:=by
 apply List.ext_getElem?;intro j;rw[aHy _ _ _ _ (by simp;omega)];by_cases h1:j<ys.length
 ·rw[if_neg (by omega),List.getElem?_append_left h1,List.getElem?_append_left h1]
 ·by_cases h2:j<ys.length+cs.length
  ·rw[if_pos (by omega),List.getElem?_append_right (by omega)]
  ·rw[if_neg (by omega),List.getElem?_eq_none (by simp;omega),List.getElem?_eq_none (by simp;omega)]
theorem wH (w:World)(p:Addr)(u:Value):(w.setCell p u).heap.size=w.heap.size:=by simp[World.setCell]
theorem bC.setCell {B:Nat}{e:TypeId}{size g n c:Nat}{xs:List Value}{W0 w:World}(h:bC B e size (.slice (some ⟨g,0,none⟩) n c) n xs W0 w)(j:Nat)(u:Value) :
  bC B e size (.slice (some ⟨g,0,none⟩) n c) n (xs.set j u) W0 (w.setCell ⟨g,j,none⟩ u):=by
 rcases h.own.2 with⟨hv,h0⟩|⟨g',cap,cur,hv,hB,hg,hnc,hcm,hcs,htake⟩
 ·cases hv
 ·simp only[Value.slice.injEq,Option.some.injEq,Addr.mk.injEq]at hv;obtain⟨⟨rfl,_⟩,_,rfl⟩:=hv;have e1:=setCell_eq_setRow w g j cur e (0,0) u hg;have hh:=setRow_heap w g cur (cur.setIfInBounds j u) e (0,0) hg;refine⟨⟨by rw[List.length_set];exact h.own.1,.inr ⟨g,c,cur.setIfInBounds j u,rfl,hB,by rw[e1];exact hh,hnc,hcm,by simpa using hcs,?_⟩⟩,h.bel.setCell hB u,by rw[wH];exact h.base⟩;rw[Array.toList_setIfInBounds,List.take_set,htake]
theorem bC.setCells {B:Nat}{e:TypeId}{size g n c:Nat}{W0:World}:∀(cs xs:List Value) (o:Nat) (w:World),bC B e size (.slice (some ⟨g,0,none⟩) n c) n xs W0 w →
  bC B e size (.slice (some ⟨g,0,none⟩) n c) n (uO xs o cs) W0 (w.setCells g o cs):=by
 intro cs;induction cs with
 | nil=>intro xs o w h;exact h
 | cons u r ih =>
  intro xs o w h;unfold uO World.setCells;exact ih _ _ _ (h.setCell o u)
theorem dN (g:Nat):∀(cs:List Value) (o:Nat) (w:World) (k:Nat),k≠g→(w.setCells g o cs).heap[k]?=w.heap[k]?:=by
 intro cs;induction cs with
 | nil=>intro o w k _;rfl
 | cons u r ih =>
  intro o w k hk;unfold World.setCells;rw[ih (o+1) _ k hk,heap_setCell_other w ⟨g,o,none⟩ k u hk]
theorem bC.there {B:Nat}{e:TypeId}{size g n c:Nat}{xs:List Value}{W0 w:World}(h:bC B e size (.slice (some ⟨g,0,none⟩) n c) n xs W0 w)(o k:Nat)(hk:o+k≤xs.length):w.there g o k:=by
 intro j hj;obtain⟨a',c',e1,hc⟩:=h.vec;simp only[Value.slice.injEq]at e1;obtain⟨g',off,e2,hcell⟩:=hc (o+j) _ (List.getElem?_eq_getElem (by omega));rw[←e1.1]at e2
 simp only[Option.some.injEq,Addr.mk.injEq]at e2;obtain⟨rfl,rfl,_⟩:=e2;rw[Nat.zero_add]at hcell
 refine⟨by rw[hcell];rfl,?_⟩;rcases h.own.2 with⟨hv,h0⟩|⟨g',cap,cur,hv,hB,hg,_⟩
 ·cases hv
 ·simp only[Value.slice.injEq,Option.some.injEq,Addr.mk.injEq]at hv;obtain⟨⟨rfl,_⟩,_,rfl⟩:=hv;simp[World.frozen?,hg]
theorem bC.cell {B:Nat}{e:TypeId}{size g n c:Nat}{xs:List Value}{W0 w:World}(h:bC B e size (.slice (some ⟨g,0,none⟩) n c) n xs W0 w)(j:Nat)(u:Value)(hj:xs[j]?=some u):w.cell? ⟨g,j,none⟩=some u:=by
 obtain⟨a',c',e1,hc⟩:=h.vec;simp only[Value.slice.injEq]at e1;obtain⟨g',off,e2,hcell⟩:=hc j u hj;rw[←e1.1]at e2
 simp only[Option.some.injEq,Addr.mk.injEq]at e2;obtain⟨rfl,rfl,_⟩:=e2;rw[Nat.zero_add]at hcell
 exact hcell
theorem bC.atRow {B:Nat}{e:TypeId}{size n:Nat}{v:Value}{xs:List Value}{W0 w:World}(h:bC B e size v n xs W0 w)(hn:0<n):∃g c,v=.slice (some ⟨g,0,none⟩) n c∧B≤g∧g<w.heap.size∧v.ownBlock=some g:=by
 rcases h.own.2 with⟨hv,h0⟩|⟨g,cap,cur,hv,hB,hg,_⟩
 ·omega
 ·exact⟨g,cap,hv,hB,(Array.getElem?_eq_some_iff.1 hg).1,by rw[hv];rfl⟩
open Go.RowKit
structure Sv (p:Nat) (pn:ByteArray) (pv:Value) (ph:List ByteArray) (out:List Nd) (W1 w:World):Prop where
 at':p=W1.heap.size
 row:∃v xs,w.heap[p]?=some (.cells #[.string pn,pv,v] 151 (0,0))∧bC p 45 6 v out.length xs W1 w∧v.ownBlock≠some p∧cG (fun g=>p<g∧v.ownBlock≠some g) w xs out
 phr:Phr W1 pv ph
theorem Sv.below {p:Nat}{pn:ByteArray}{pv:Value}{ph:List ByteArray}{out:List Nd}{W1 w w':World}(h:Sv p pn pv ph out W1 w)(hb:Below w.heap.size w w'):Sv p pn pv ph out W1 w':=by
 obtain⟨v,xs,hr,hO,hne,hC⟩:=h.row;have hlt:p<w.heap.size:=(Array.getElem?_eq_some_iff.1 hr).1;exact⟨h.at',⟨v,xs,by rw[hb.block p hlt];exact hr,hO.keep hb,hne,hC.keep (fun g hg hd=>⟨hb.block g hg,hd⟩)⟩,h.phr⟩
theorem Sv.bel {p:Nat}{pn:ByteArray}{pv:Value}{ph:List ByteArray}{out:List Nd}{W1 w:World}(h:Sv p pn pv ph out W1 w):Below W1.heap.size W1 w:=by
 obtain⟨v,xs,hr,hO,hne,hC⟩:=h.row;have:=hO.bel;rw[←h.at'];exact this
theorem Sv.phrAt {p:Nat}{pn:ByteArray}{pv:Value}{ph:List ByteArray}{out:List Nd}{W1 w:World}(h:Sv p pn pv ph out W1 w):Phr w pv ph:=h.phr.below h.bel pT
theorem aK3 (p:Nat)(pn:ByteArray)(pv:Value)(ph:List ByteArray)(out:List Nd)(W1 w:World)(nm:ByteArray)(hph:ph.length≤1000000000)(h:Hid (Sv p pn pv ph out W1 w)) :
  Calls Tryz.prog 197 #[.pointer (some ⟨p,0,none⟩),.string nm] w fun e w'=>e=.returned (.bool (qR pn ph out nm))∧w=w':=by
 obtain⟨v,xs,hr,hO,hne,hC⟩:=h.out.row;obtain⟨a,c,rfl,_,_⟩:=hO.slice;have c0:w.cell? ⟨p,0,none⟩=some (.string pn):=by rw[cell_of_row _ _ 0 _ 151 (0,0) hr];rfl
 have c1:w.cell? ⟨p,1,none⟩=some pv:=by rw[cell_of_row _ _ 1 _ 151 (0,0) hr];rfl
 have c2:w.cell? ⟨p,2,none⟩=some (.slice a out.length c):=by rw[cell_of_row _ _ 2 _ 151 (0,0) hr];rfl
 have HM:=hid (aFu pn nm w);have HK:=hid (nR nm w);have HQ:=hid (nF pv ph nm w hph h.out.phrAt.vec _ rfl);obtain⟨R,hR⟩:∃R,R=qR pn ph out nm:=⟨_,rfl⟩
 rw[←hR];have HR:=hid hR;unfold qR at hR;have hol:decide (out=[])=((out.length:Int)==0):=by cases out<;>simp<;>omega
 rw[hol]at hR
 have hkl:=nP nm.data.toList;generalize out.length=ol at *
 generalize rW pn.data.toList nm.data.toList=m at *
 generalize bO nm.data.toList=k at *
 generalize Lib.containsS ph nm=q at *
 clear hr hO hne hC hol;go_enter Tryz.func197,Tryz.ntmps197
 go_wp2_with fail
 refine HM.out.mono ?_;rintro e w' ⟨rfl,rfl⟩;cases m with
 | false =>
  have HR2:=hid (show R=false by rw[hR];rfl);clear hR;go_wp2
  go_ret;exact⟨by rw[HR2.out];rfl,rfl⟩
 | true =>
  rw[Bool.true_and]at hR
  go_wp2_with fail
  refine HK.out.mono ?_;rintro e w' ⟨rfl,rfl⟩;by_cases h4:k=4
  ·subst h4;rw[if_pos rfl]at hR
   have HR2:=hid hR;clear hR;go_wp2_with fail
   refine HQ.out.mono ?_;rintro e w' ⟨rfl,rfl⟩;cases q;all_goals
    go_wp2
    go_ret;exact⟨by rw[HR2.out];rfl,rfl⟩
  ·have e4:((k:Int)==4)=false:=by rw[beq_eq_false_iff_ne];omega
   rw[if_neg h4]at hR
   go_wp2_with fail
   refine HK.out.mono ?_;rintro e w' ⟨rfl,rfl⟩;by_cases h10:k=10
   ·subst h10;rw[if_pos rfl]at hR
    have HR2:=hid hR;clear hR;obtain⟨z,hz⟩:∃z,((ol:Int)==0)=z:=⟨_,rfl⟩
    cases z;all_goals
     have HZ:=hid hz;go_wp2
     go_ret;exact⟨by rw[HR2.out,HZ.out];rfl,rfl⟩
   ·have e10:((k:Int)==10)=false:=by rw[beq_eq_false_iff_ne];omega
    rw[if_neg h10]at hR
    have HR2:=hid hR;clear hR;go_wp2
    go_ret;exact⟨by rw[HR2.out];rfl,rfl⟩
open Go.RowKit
theorem Tryz.info45:(Tryz.prog.info? 45).map (fun i=>(i.zero,i.size,i.bytes))=some (some (.agg #[.int .i64 0,.int .i64 0,.string ⟨#[]⟩,.slice none 0 0,.string ⟨#[]⟩,.slice none 0 0]),6,96):=by kernel_rfl
open Go.RowKit
theorem cG.append {D:Nat→Prop}{w:World}{xs ys:List Value}{ks js:List Nd}(h:cG D w xs ks)(h':cG D w ys js):cG D w (xs++ys) (ks++js):=by
 obtain⟨hl,h⟩:=h;obtain⟨hl',h'⟩:=h';refine⟨by rw[List.length_append,List.length_append,hl,hl'];omega,fun j hj=>?_⟩;by_cases hjm:j<ks.length
 ·have up:∀i v,xs[i]?=some v→(xs++ys)[i]?=some v:=fun i v hi=>by rw[List.getElem?_append_left (List.getElem?_eq_some_iff.1 hi).1];exact hi
  obtain⟨d0,d1,d2,d3,d4,d5,k0,k1,k2,k3,k4,k5,kn⟩:=h j hjm;refine⟨d0,d1,d2,d3,d4,d5,up _ _ k0,up _ _ k1,up _ _ k2,up _ _ k3,up _ _ k4,up _ _ k5,?_⟩;rw[List.getElem_append_left hjm];exact kn
 ·obtain⟨i,rfl⟩:∃i,j=ks.length+i:=⟨j-ks.length,by omega⟩
  have hi:i<js.length:=by simp at hj;omega
  have up:∀t v,ys[i*6+t]?=some v→(xs++ys)[(ks.length+i)*6+t]?=some v:=fun t v ht=>by
   rw[List.getElem?_append_right (by omega),show(ks.length+i)*6+t-xs.length=i*6+t by omega];exact ht
  obtain⟨d0,d1,d2,d3,d4,d5,k0,k1,k2,k3,k4,k5,kn⟩:=h' i hi;refine⟨d0,d1,d2,d3,d4,d5,up 0 _ k0,up 1 _ k1,up 2 _ k2,up 3 _ k3,up 4 _ k4,up 5 _ k5,?_⟩;rw[List.getElem_append_right (by omega)];simpa using kn
def lS (v:Value)(g:Nat):Prop:=v.ownBlock≠some g
def Src (v:Value)(W:World)(a:Option Addr)(ks:List Nd):Prop:=aF (lS v) W a 0 ks
def PSt (W0 W:World)(v:Value)(n:Nat)(ks:List Nd):Prop:=∃xs,bC W0.heap.size 45 6 v n xs W0 W∧cG (lS v) W xs ks
theorem Src.below {v:Value}{W W':World}{a:Option Addr}{ks:List Nd}(h:Src v W a ks)(hb:Below W.heap.size W W'):Src v W' a ks :=
 aF.keep h (fun g hg hd=>⟨hb.block g hg,hd⟩)
theorem Src.grown {v v':Value}{W W':World}{a:Option Addr}{ks:List Nd}(h:Src v W a ks)(hG:kA W W' v v'):Src v' W' a ks :=
 aF.keep h (fun g hg hd=>⟨hG.gr.block g hg (fun e=>hd e.symm),fun e=>by
  rcases hG.loc with h1|⟨k,hk,hle⟩
  ·exact hd (by rw[←h1];exact e)
  ·rw[hk]at e
   have:k=g:=Option.some.inj e;omega⟩)
theorem Src.kids {v:Value}{W:World}{a:Option Addr}{ks:List Nd}(h:Src v W a ks):aT W a 0 ks:=aF.kids h
theorem Src.old {W0 W:World}{v:Value}{n:Nat}{ks js:List Nd}{a:Option Addr}(h:PSt W0 W v n ks)(hk:aT W0 a 0 js):Src v W a js:=by
 obtain⟨xs,hO,_⟩:=h;exact aF.keep hk.deep (fun k hk hd=>⟨hO.bel.block k hk,fun e=>by
  have:=hO.lo k e;omega⟩)
theorem PSt.start {W0 W:World}(hb:Below W0.heap.size W0 W):PSt W0 (W.alloc (.cells #[] 45)) (.slice (some ⟨W.heap.size,0,none⟩) 0 0) 0 [] :=
 ⟨[],bC.empty 45 6 hb hb.size,cG.nil _ _⟩
theorem PSt.nil {W0 W:World}(hb:Below W0.heap.size W0 W):PSt W0 W (.slice none 0 0) 0 [] :=
 ⟨[],bC.of 45 6 hb hb.size,cG.nil _ _⟩
theorem PSt.bel {W0 W:World}{v:Value}{n:Nat}{ks:List Nd}(h:PSt W0 W v n ks):Below W0.heap.size W0 W:=by
 obtain⟨xs,hO,_⟩:=h;exact hO.bel
theorem PSt.len {W0 W:World}{v:Value}{n:Nat}{ks:List Nd}(h:PSt W0 W v n ks):n=ks.length:=by
 obtain⟨xs,hO,hc⟩:=h;have h1:=hO.own.1;have h2:=hc.1;omega
theorem PSt.keep {W0 W W':World}{v:Value}{n:Nat}{ks:List Nd}(h:PSt W0 W v n ks)(hb:Below W.heap.size W W'):PSt W0 W' v n ks:=by
 obtain⟨xs,hO,hc⟩:=h;exact⟨xs,hO.keep hb,hc.keep (fun g hg hd=>⟨hb.block g hg,hd⟩)⟩
theorem PSt.slice {W0 W:World}{v:Value}{n:Nat}{ks:List Nd}(h:PSt W0 W v n ks):∃a c,v=.slice a n c∧n≤c∧aF (fun g=>W0.heap.size≤g∨lS v g) W a 0 ks∧∀y,a=some y→W0.heap.size≤y.block∧y.block<W.heap.size:=by
 obtain⟨xs,hO,hc⟩:=h;obtain⟨a,c,rfl,hnc,hab⟩:=hO.slice;exact⟨a,c,rfl,hnc,oD hO.vec hc (fun g hg=>.inr hg) (fun y hy=>.inl (hab y hy).1),hab⟩
theorem PSt.kids {W0 W:World}{a:Option Addr}{n c:Nat}{ks:List Nd}(h:PSt W0 W (.slice a n c) n ks):aT W a 0 ks:=by
 obtain⟨a',c',e,_,hk,_⟩:=h.slice;simp only[Value.slice.injEq]at e;rw[e.1];exact hk.kids
section
variable {w:World} {ops:Array Oper} {rest:List Oper} {o:Oper} {a:Act} {Q:Exit→Act→World→Prop}
theorem vM (hgd:o.guard=none)(s x:Operand)
  (ho:o.op=.call { callee:=.builtin .append,args:=#[s,x],argTypes:=#[43,43] })
  {W0:World} (v:Value) (n:Nat) (ks:List Nd) (hs:a.eval s=v) (hP:Hid (PSt W0 w v n ks))
  (xo:Option Addr) (m c:Nat) (js:List Nd) (hx:a.eval x=.slice xo m c) (hm:Hid (js.length=m)) (hS:Hid (Src v w xo js)) (hb:n+m≤1000000000)
  (h:∀v' w',Hid (PSt W0 w' v' (n+m) (ks++js))→Hid (kA w w' v v')→wpList Tryz.prog ops Q rest (a.put o.dst v') w'):wpList Tryz.prog ops Q (o :: rest) a w:=by
 obtain⟨i45,hi45,hz45,hs45,hb45⟩:=info_parts Tryz.info45;obtain⟨xs,hO,hc⟩:=hP.out;obtain⟨ys,hys,hyc⟩:=uX hS.out.kids;have hcd:=aB4 hys hyc hS.out;have hml:=hm.out;refine pP hgd s x 43 ho 45 i45 _ 6 96 Tryz.underlying43 hi45 hz45 hs45 hb45 rfl (by decide) v n xs hs hO xo m c ys hx (by rw[hys.1,hml]) hyc hys.one (by omega) (by omega) (fun v' w' hO' hG=>?_);refine h v' w' ⟨xs++ys,hO'.out,?_⟩ hG;refine(hc.append hcd).keep (fun g hg hd=>⟨hG.out.gr.block g hg (fun e=>hd e.symm),fun e=>?_⟩);rcases hG.out.loc with h1|⟨k,hk,hle⟩
 ·exact hd (by rw[←h1];exact e)
 ·rw[hk]at e
  have:k=g:=Option.some.inj e;omega
end
open Go.RowKit
end Go.Proofs.YtcfgbdhpcboikaaGreatDoor
