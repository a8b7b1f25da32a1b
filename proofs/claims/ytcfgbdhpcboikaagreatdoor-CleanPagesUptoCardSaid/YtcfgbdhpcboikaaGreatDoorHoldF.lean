/-
policy.Holds of the least pages.
-/
import Derived.Shelf.SlSortCmp.WholeK
import Derived.Test.YtcfgbdhpcboikaaGreatDoorFormV
import Derived.Test.YtcfgbdhpcboikaaGreatDoorLaidA
namespace Go.Proofs.YtcfgbdhpcboikaaGreatDoor
set_option maxHeartbeats 4000000
set_option maxRecDepth 100000
open Go.RowKit
theorem iB {α:Type}{a:Option α}{f g:α}(h:a=some f)(e:f=g):a=some g:=h.trans (az some e)
theorem aCS {n:Nat}:n<=n:=ag n
def aA5:I:=⟨#[104,116,109,108]⟩
def cN:I:=⟨#[104,101,97,100]⟩
def aSG:I:=⟨#[109,101,116,97]⟩
structure aFy (w:H) (gh oh gm om cm ga oa ca gb ob cb:Nat) (a':Option Addr) (n' c':Nat):Prop where
 hd:Six w gh oh (.int .i64 1) (.int .i64 0) (.string ⟨#[104,101,97,100]⟩) (.slice none 0 0) (.string ⟨#[]⟩) (.slice (some ⟨gm,om,none⟩) 1 cm)
 bd:Six w gh (oh+6) (.int .i64 1) (.int .i64 0) (.string ⟨#[98,111,100,121]⟩) (.slice none 0 0) (.string ⟨#[]⟩) (.slice (some ⟨gb,ob,none⟩) 1 cb)
 mt:Six w gm om (.int .i64 1) (.int .i64 0) (.string ⟨#[109,101,116,97]⟩) (.slice (some ⟨ga,oa,none⟩) 1 ca) (.string ⟨#[]⟩) (.slice none 0 0)
 at':Two w ga oa (.string ⟨#[99,104,97,114,115,101,116]⟩) (.string ⟨#[117,116,102,45,56]⟩)
 kid:Six w gb ob (.int .i64 1) (.int .i64 0) (.string ⟨#[98]⟩) (.slice none 0 0) (.string ⟨#[]⟩) (.slice a' n' c')
theorem aFy.below {w w':H}{B k q l r g i n e j p f:Nat}{d:Option Addr}{m c':Nat}(h:aFy w k q l r g i n e j p f d m c')(c:Below B w w')(b:w.heap.size<=B):aFy w' k q l r g i n e j p f d m c' :=
 ⟨h.hd.below c b,h.bd.below c b,h.mt.below c b,h.at'.below c b,h.kid.below c b⟩
open Go.RowKit Go.Shelf Go.Lib Go.Sort
def Tryz.sortAttr_ren:Go.Shelf.Ren:=⟨fun|6=>86|15=>147|14=>146|28=>190|29=>191|20=>182|21=>183|22=>184|23=>185|24=>186|25=>187|26=>188|27=>189|46=>218|47=>219|48=>220|49=>221|50=>222|57=>250|n=>n,fun|22=>33|24=>39|25=>96|3=>3|39=>148|0=>0|53=>177|55=>163|4=>4|46=>171|45=>170|50=>68|5=>5|9=>9|66=>202|70=>206|76=>245|77=>102|n=>n,fun|n=>n⟩
theorem Tryz.sortAttr:Go.Proofs.SlLaysF0.n6 Tryz.prog Tryz.sortAttr_ren:={
 mixed:=by kernel_rfl
 f6:=⟨ "slices.SortFunc[[]colander/api.Attr,colander/api.Attr]",bv (by kernel_rfl),iB Tryz.func86 (by kernel_rfl)⟩
 f14:=⟨ "slices.pdqsortCmpFunc[colander/api.Attr]",bv (by kernel_rfl),iB Tryz.func146 (by kernel_rfl)⟩
 f15:=iB Tryz.func147 (by kernel_rfl)
 f20:=⟨ "slices.insertionSortCmpFunc[colander/api.Attr]",bv (by kernel_rfl),iB Tryz.func182 (by kernel_rfl)⟩
 f21:=⟨ "slices.heapSortCmpFunc[colander/api.Attr]",bv (by kernel_rfl),iB Tryz.func183 (by kernel_rfl)⟩
 f22:=⟨ "slices.breakPatternsCmpFunc[colander/api.Attr]",bv (by kernel_rfl),iB Tryz.func184 (by kernel_rfl)⟩
 f23:=⟨ "slices.choosePivotCmpFunc[colander/api.Attr]",bv (by kernel_rfl),iB Tryz.func185 (by kernel_rfl)⟩
 f24:=⟨ "slices.reverseRangeCmpFunc[colander/api.Attr]",bv (by kernel_rfl),iB Tryz.func186 (by kernel_rfl)⟩
 f25:=⟨ "slices.partialInsertionSortCmpFunc[colander/api.Attr]",bv (by kernel_rfl),iB Tryz.func187 (by kernel_rfl)⟩
 f26:=⟨ "slices.partitionEqualCmpFunc[colander/api.Attr]",bv (by kernel_rfl),iB Tryz.func188 (by kernel_rfl)⟩
 f27:=⟨ "slices.partitionCmpFunc[colander/api.Attr]",bv (by kernel_rfl),iB Tryz.func189 (by kernel_rfl)⟩
 f28:=iB Tryz.func190 (by kernel_rfl)
 f29:=iB Tryz.func191 (by kernel_rfl)
 f46:=⟨ "slices.siftDownCmpFunc[colander/api.Attr]",bv (by kernel_rfl),iB Tryz.func218 (by kernel_rfl)⟩
 f47:=iB Tryz.func219 (by kernel_rfl)
 f48:=iB Tryz.func220 (by kernel_rfl)
 f49:=⟨ "slices.medianAdjacentCmpFunc[colander/api.Attr]",bv (by kernel_rfl),iB Tryz.func221 (by kernel_rfl)⟩
 f50:=⟨ "slices.medianCmpFunc[colander/api.Attr]",bv (by kernel_rfl),iB Tryz.func222 (by kernel_rfl)⟩
 f57:=⟨ "slices.order2CmpFunc[colander/api.Attr]",bv (by kernel_rfl),iB Tryz.func250 (by kernel_rfl)⟩
 t0:=Tryz.underlying0
 a0:=Tryz.isAgg0
 z0:=Tryz.sizeOf0
 v0:=Tryz.zeroValue0
 t3:=Tryz.underlying3
 a3:=Tryz.isAgg3
 z3:=Tryz.sizeOf3
 v3:=Tryz.zeroValue3
 t4:=Tryz.underlying4
 a4:=Tryz.isAgg4
 z4:=Tryz.sizeOf4
 v4:=Tryz.zeroValue4
 t5:=Tryz.underlying5
 a5:=Tryz.isAgg5
 z5:=Tryz.sizeOf5
 v5:=Tryz.zeroValue5
 t9:=Tryz.underlying9
 a9:=Tryz.isAgg9
 z9:=Tryz.sizeOf9
 v9:=Tryz.zeroValue9
 t22:=Tryz.underlying33
 a22:=Tryz.isAgg33
 z22:=Tryz.sizeOf33
 v22:=Tryz.zeroValue33
 t25:=Tryz.underlying96
 a25:=Tryz.isAgg96
 z25:=Tryz.sizeOf96
 v25:=Tryz.zeroValue96
 t39:=Tryz.underlying148
 a39:=Tryz.isAgg148
 z39:=Tryz.sizeOf148
 v39:=Tryz.zeroValue148
 t45:=Tryz.underlying170
 a45:=Tryz.isAgg170
 z45:=Tryz.sizeOf170
 v45:=Tryz.zeroValue170
 t46:=Tryz.underlying171
 a46:=Tryz.isAgg171
 z46:=Tryz.sizeOf171
 v46:=Tryz.zeroValue171
 t50:=Tryz.underlying68
 a50:=Tryz.isAgg68
 z50:=Tryz.sizeOf68
 v50:=Tryz.zeroValue68
 t53:=Tryz.underlying177
 a53:=Tryz.isAgg177
 z53:=Tryz.sizeOf177
 v53:=Tryz.zeroValue177
 t55:=Tryz.underlying163
 a55:=Tryz.isAgg163
 z55:=Tryz.sizeOf163
 v55:=Tryz.zeroValue163
 t66:=Tryz.underlying202
 a66:=Tryz.isAgg202
 z66:=Tryz.sizeOf202
 v66:=Tryz.zeroValue202
 t70:=Tryz.underlying206
 a70:=Tryz.isAgg206
 z70:=Tryz.sizeOf206
 v70:=Tryz.zeroValue206
 t76:=Tryz.underlying245
 a76:=Tryz.isAgg245
 z76:=Tryz.sizeOf245
 v76:=Tryz.zeroValue245
 t77:=Tryz.underlying102
 a77:=Tryz.isAgg102
 z77:=Tryz.sizeOf102
 v77:=Tryz.zeroValue102 }
theorem aCG (l:List AT):(flatK lY 2 l.toArray).toList=cR l:=by
 apply List.ext_getElem;{simp[jT]};{intro i k b;have hi:i<l.length*2:=by{rw[jT]at b;exact b};have d:i / 2<l.length:=by{omega};obtain⟨g,h⟩:=yF l (i / 2) d;have e:(flatK lY 2 l.toArray).toList[i]=(lY l.toArray[i / 2]!)[i%2]! := by{rw[sr,<-im,get_flatK _ _ _ _ (by simpa using hi)]};rw[e,im l.toArray (i / 2) (by simpa using d)];have j:l.toArray[i / 2]'(by simpa using d)=l[i / 2]:=by{simp};rw[j];rcases rx i with f|f;{rw[f];have c:i / 2*2=i:=by{omega};rw[c,bc b]at g;rw[b8 g];rfl};{rw[f];have c:i / 2*2+1=i:=by{omega};rw[c,bc b]at h;rw[b8 h];rfl}}
theorem aMN (x:AT):(lY x).length=2:=rfl
theorem aMO (x:AT):∀v∈lY x,v.oneCell'=true:=by
 intro v b;simp[lY]at b;rcases b with rfl|rfl<;>rfl
theorem Tryz.closure87 (x y:AT)(W:H):Y 87 #[.agg #[.string x.1,.string x.2],.agg #[.string y.1,.string y.2]] W fun e w'=>e=.returned (.int .i64 (gZ x y))/\∃q os',w'=grow (W.drewN q) os':=by
 have b:=fun c=>Tryz.strings_Compare x.1 y.1 c;unfold gZ;generalize compareBytes x.1.data.toList y.1.data.toList=r at b ⊢;go_enter Tryz.func87,Tryz.ntmps87;go_wp2_with (go_at_call 88;refine(b _).mono ?_;rintro e w' ⟨rfl,rfl⟩);go_ret;exact⟨rfl,0,_,by rw[alloc_eq_grow,alloc_eq_grow,grow_grow];rfl⟩
theorem Tryz.cmp87 (b c size:Nat)(w:H):CmpLays Tryz.prog 87 #[] lY 2 gZ b c size w :=
 fun _ _ _ _ x y=>Tryz.closure87 x y _
theorem aEE (w:H)(g n:Nat)(d:Array AT)(os:Array Obj)(k:Nat)(b:k<w.heap.size) :
  (sortWorldK lY 2 w g 0 n d os).heap[k]?=if g=k then w.heap[k]?.map (onCells (putCells id 0 (flatK lY 2 d)))else w.heap[k]?:=by
 unfold sortWorldK grow putRowK putRow mapBlock;simp only;rw[l8 (by simp;exact b),ut];rfl
theorem aN1 {B:Nat}{v:Value}{l r:List AT}{c w w':H}{g cap n:Nat}{b:Array Value}{os:Array Obj}(d:aJ B 39 2 v l.length (cR l) c w)(s:v=.slice (some ⟨g,0,none⟩) l.length cap)(j:B<=g)(e:w.heap[g]?=some (.cells b 39 (0,0)))
  (y:l.length<=cap) (m:cap<=maxLen) (p:b.size=cap*2) (hr:r.length=l.length) (t:w'=sortWorldK lY 2 w g 0 n r.toArray os):aJ B 39 2 v r.length (cR r) c w':=by
 have q:g<w.heap.size:=(d8.1 e).1;subst t;have f:w.heap.size<=(sortWorldK lY 2 w g 0 n r.toArray os).heap.size:=by{unfold sortWorldK grow putRowK putRow mapBlock;simp};refine⟨⟨by rw[jT],.inr ⟨g,cap,putCells id 0 (flatK lY 2 r.toArray) b,by rw[hr];exact s,j,?_,by omega,m,?_,?_⟩⟩,?_,bg d.base f⟩;{rw[aEE _ _ _ _ _ _ q,ae rfl,e];rfl};{unfold putCells;simpa using p};{rw[<-aCG r];apply List.ext_getElem;{rw[br];unfold putCells;simp;omega};{intro i u h;have hi:i<(flatK lY 2 r.toArray).size:=by{simpa using h};rw[nu];unfold putCells;rw[sr,Array.getElem_mapIdx,ae ⟨ax _,by rw[be];exact hi⟩];rw[oc,im _ i hi];simp}};{refine d.bel.trans ⟨rfl,rfl,rfl,f,fun k x=>?_⟩;rw[aEE _ _ _ _ _ _ (by omega),ac (by omega)]}
theorem aNZ (v:Value)(l:List AT)(p w:H)(B:Nat)(d:aJ B 39 2 v l.length (cR l) p w)(V:l.length<=1000000000) :
  Y 86 #[v,.func (.func 87) #[] #[]] w fun e w'=>e=.returned (.tuple #[])/\∃r:List AT,r.Perm l/\SortedIn (ltOf gZ) 0 r.length r.toArray/\aJ B 39 2 v r.length (cR r) p w':=by
 rcases d.own.2 with⟨rfl,C⟩|⟨g,cap,s,T,D,c,L,F,J,S⟩
 ·have M:l=[]:=fv C;subst M;refine(aN0 _ w).mono ?_;rintro e w' ⟨rfl,rfl⟩;exact⟨rfl,[],List.Perm.refl _,fun i j _ _ h=>absurd h (by simp),d⟩
 ·subst T;have K:g<w.heap.size:=(d8.1 c).1;have A:∀q w,(callFunc 87 q).run Tryz.prog w=.ok (.enter 87 q) w:=enters_of Tryz.func87 (by kernel_rfl) rfl;have E:HoldsK lY 2 w g 0 l.toArray:=by
   intro j u;have k:j<l.length*2:=by simpa using u
   rw[be];refine⟨?_,?_⟩
   ·rw[aq w g j s 39 (0,0) c];have e:(flatK lY 2 l.toArray)[j]! = (cR l)[j]'(by rw[jT];exact k):=by
     rw[im _ j u,<-sr];simp only[aCG]
    rw[e];have:(s.toList.take (l.length*2))[j]?=(cR l)[j]?:=by rw[S]
    rw[gg,ae k,bc (l:=cR l) (by rw[jT];exact k)]at this
    simpa using this
   ·simp[World.frozen?,c]
  have f:=AnyQ.slices_SortFunc Tryz.sortAttr 2 Tryz.isAgg39 Tryz.sizeOf39 lY aMN aMO gZ aMD 87 #[] g 0 cap l.toArray w A (Tryz.cmp87 g 0 _ w) E K (by simp;omega);change Y 86 _ _ _ at f;simp only[List.size_toArray]at f;refine f.mono ?_;rintro e w' ⟨rfl,b,n,os,x,R,rfl⟩;have m:b.size=l.length:=by simpa using x.1
  have N:b.toList.Perm l:=by
   have t:=x.2.2;have y:(b.extract 0 l.length).toList=b.toList:=by rw[<-m];simp
   have z:(l.toArray.extract 0 l.length).toList=l:=by simp
   rw[y,z]at t
   exact t
  refine⟨rfl,b.toList,N,?_,?_⟩
  ·have:b.toList.length=l.length:=by simpa using m
   rw[this];simpa using R
  ·exact aN1 (n:=n) (os:=os) d rfl D c L F J (by simpa using m) (by simp)
open Go.RowKit
structure oN (V:I->I->Option I) (l:List AT) (k:Nat) (sn:List I) (done:List AT):Prop where
 le:k<=l.length
 sl:sn.length<=k
 dl:done.length<=k
 o:bC V [] l=done++bC V sn (l.drop k)
theorem oN.start (V:I->I->Option I)(l:List AT):oN V l 0 [] []:=⟨ax _,ag _,ag _,rfl⟩
theorem oN.old {V:I->I->Option I}{l:List AT}{k:Nat}{b:List I}{done:List AT}(h:oN V l k b done)(c:k<l.length)(d:(l[k]).1∈b):oN V l (k+1) b done:=by
 have e:=h.sl;have f:=h.dl;refine⟨c,by omega,by omega,?_⟩;rw[h.o,dy c];conv=>lhs;rhs;unfold bC
 rw[ae ((ix _ _).2 d)]
theorem oN.yes {V:I->I->Option I}{l:List AT}{k:Nat}{b:List I}{done:List AT}{t:I}(h:oN V l k b done)(c:k<l.length)(d:(l[k]).1∉b)(e:V (l[k]).1 (l[k]).2=some t):oN V l (k+1) (b++[(l[k]).1]) (done++[((l[k]).1,t)]):=by
 have f:=h.sl;have g:=h.dl;refine⟨c,by simp;omega,by simp;omega,?_⟩;rw[h.o,dy c];conv=>lhs;rhs;unfold bC
 rw[ac (fun h=>d ((ix _ _).1 h)),e,ct]
theorem oN.no {V:I->I->Option I}{l:List AT}{k:Nat}{b:List I}{done:List AT}(h:oN V l k b done)(c:k<l.length)(d:(l[k]).1∉b)(e:V (l[k]).1 (l[k]).2=none):oN V l (k+1) (b++[(l[k]).1]) done:=by
 have f:=h.sl;have g:=h.dl;refine⟨c,by simp;omega,by omega,?_⟩;rw[h.o,dy c];conv=>lhs;rhs;unfold bC
 rw[ac (fun h=>d ((ix _ _).1 h)),e,en]
theorem oN.done {V:I->I->Option I}{l:List AT}{k:Nat}{c:List I}{done:List AT}(h:oN V l k c done)(b:l.length<=k):bC V [] l=done:=by
 rw[h.o,d6 b];unfold bC;rw[dc]
def aD8 (V:I->I->Option I)(l:List AT)(w:H)(e:Ending)(w':H):Prop :=
 ∃v r,e=.returned v/\nX V l r/\aJ w.heap.size 39 2 v r.length (cR r) w w'
theorem aI1 (e:I)(he:e.size<=1000000000)(V:I->I->Option I)(hV:G (∀n v,n.size<=1048576->v.size<=1048576->jQ e n v (V n v)))(l:List AT)(hl:l.length<=1048576)(hs:G (∀x∈l,x.1.size<=1048576/\x.2.size<=1048576))(av:Value)(w:H)(T:aA w)(hA:G (fK w av l)) :
  Y 38 #[.string e,av] w (aD8 V l w):=by
 have HT:=Z T;clear T;obtain⟨i9,a9,bl,bj,a6⟩:=cq Tryz.info9;obtain⟨bq,a8,bk,bh,a5⟩:=cq Tryz.info39;obtain⟨a,c,rfl,_⟩:=hA.o;go_enter Tryz.func38,Tryz.ntmps38;go_wp2;go_loopw [5,6,13] (fun o n i wx=>∃(k:Nat) (sn:List I) (done:List AT),i=.int .i64 k/\G (oN V l k sn done)/\G (aJ w.heap.size 39 2 o done.length (cR done) w wx)/\G (aJ w.heap.size 9 1 n sn.length (sn.map oT) w wx)/\G (pE n o)) (fun _ _ i _=>l.length-(intOf i).toNat);case atStart=>exact⟨0,[],[],rfl,Z (oN.start V l),Z (aJ.nil w 39 2),Z (aJ.nil w 9 1),Z (pE.nil _)⟩
 case round =>
  obtain⟨k,sn,done,rfl,f,N,hN,R⟩:=hrel;have hk:=f.o.le;have bx:=f.o.sl;have bs:=f.o.dl;rcases ak k l.length with z|a7;{obtain⟨g,off,c',hva,c1,c2⟩:=(hA.o.below N.o.bel aCS).get k z;simp only[cg,fy]at hva;obtain⟨rfl,rfl⟩:=hva;have ao:=Z (f.o.old z);have a2:=Z (fun t=>f.o.yes (t:=t) z);have al:=Z (f.o.no z);have B:=Z (hs.o l[k] (fl z));generalize l[k]=q at *;obtain⟨b,s⟩:=q;simp only at c1 c2;obtain⟨W1,j⟩:=ex (wr.alloc (.cells #[.string b,.string s] 39));have M:Below wr.heap.size wr W1:=by{rw[j];exact(aj _ wr).alloc aCS _};have HO1:=Z (N.o.keep M);have HN1:=Z (hN.o.keep M);have b1:W1.cell? ⟨wr.heap.size,0,none⟩=some (.string b):=by{rw[j,aq _ _ 0 _ 39 (0,0) (bi wr _)];rfl};have b2:W1.cell? ⟨wr.heap.size,1,none⟩=some (.string s):=by{rw[j,aq _ _ 1 _ 39 (0,0) (bi wr _)];rfl};have bd:wr.heap.size<W1.heap.size:=by{rw[j];simp};have ab:=Z j;clear j;by_cases m:b∈sn;{have C:=tY _ sn b W1 (by omega) HN1.o.vec true ((ix _ _).2 m);have E:=Z C;have HF:=Z (ao.o m);clear C m;go_wp2_with fail;rw[<-ab.o];refine E.o.mono ?_;rintro x w' ⟨rfl,rfl⟩;go_wp2;go_roundw;(case rel=>exact⟨k+1,sn,done,by go_num,HF,HO1,HN1,R⟩);case measure=>simp[intOf];omega};{have C:=tY _ sn b W1 (by omega) HN1.o.vec false (by cases h:Lib.containsS sn b with|false=>rfl|true=>exact absurd ((ix _ _).1 h) m);have E:=Z C;have HM:=Z m;have a1:=Z (hV.o b s B.o.1 B.o.2);clear C m;go_wp2_with fail;rw[<-ab.o];refine E.o.mono ?_;rintro x w' ⟨rfl,rfl⟩;go_wp2_with (at_builtin;refine bE (by rfl) _ _ 55 (by rfl) 9 i9 (.string ⟨#[]⟩) 1 16 Tryz.underlying55 a9 bl bj a6 rfl (by decide) _ _ _ rfl HN1.o #[.string b] rfl rfl rfl rfl (by omega) (by omega) ?_);intro b0 u a3 D;have aa:=Z (D.o.other (HO1.o.alloc _) R.o HN1.o.lo);have J:=Z (D.o.apart (HO1.o.alloc _) R.o);have W:=hN.o.hi;have K:u.cell? ⟨wr.heap.size,0,none⟩=some (.string b):=D.o.cell (pL b1) (fun e=>absurd (W _ e) (lq _));have d2:u.cell? ⟨wr.heap.size,1,none⟩=some (.string s):=D.o.cell (pL b2) (fun e=>absurd (W _ e) (lq _));have bf:wr.heap.size<u.heap.size:=ed _ _ K;have a0:=Z (HT.o.below aa.o.bel aCS);clear W b1 b2 bd M;go_wp2_with fail;refine(aAI e b s _ he (by have:=B.o.1;omega) B.o.2 a1.o u a0.o).mono ?_;rintro x W3 ⟨rfl,A⟩;have HO3:=Z (aa.o.keep A);have F:=Z (a3.o.keep A);have f1:W3.cell? ⟨wr.heap.size,0,none⟩=some (.string b):=by{rw[A.cell (p:=⟨wr.heap.size,0,none⟩) bf];exact K};clear K d2 A;cases hv:V b s with|none=>{have HF:=Z (al.o HM.o hv);unfold lS;clear hv;go_wp2;go_roundw;(case rel=>exact⟨k+1,sn++[b],done,by go_num,HF,HO3,Z (F.o.cast (by simp) (by simp[oT])),J⟩);case measure=>simp[intOf];omega}|some t=>{have HF:=Z (a2.o t HM.o hv);unfold lS;clear hv;go_wp2_with (at_builtin;refine bE (by rfl) _ _ 33 (by rfl) 39 bq (.agg #[.string ⟨#[]⟩,.string ⟨#[]⟩]) 2 32 Tryz.underlying33 a8 bk bh a5 rfl (by decide) _ _ _ rfl HO3.o #[.string b,.string t] rfl rfl rfl rfl (by omega) (by omega) ?_);intro b3 W4 a4 ad;have ah:=Z (ad.o.other (F.o.alloc _) J.o.symm HO3.o.lo);have ar:=Z ((ad.o.apart (F.o.alloc _) J.o.symm).symm);go_wp2;go_roundw;(case rel=>exact⟨k+1,sn++[b],done++[(b,t)],by go_num,HF,Z (a4.o.cast (by simp) (by rw[vE];rfl)),Z (ah.o.cast (by simp) (by simp[oT])),ar⟩);case measure=>simp[intOf];omega}}}
  ·have X:=Z (f.o.done a7);have S:=aNZ _ done w wr _ N.o (by omega);have HS:=Z S;clear S;go_wp2_with fail
   refine HS.o.mono ?_;rintro x u ⟨rfl,r,L,h2,h3⟩;have HR:G (nX V l r):=⟨by rw[X.o];exact L,by
    have h4:=aLw (d:=r.toArray) (by simpa using h2) (by
     have h5:=aBf V l [];rw[X.o]at h5
     exact(L.pairwise_iff (fun {x y} hxy e=>hxy e.symm)).2 h5)
    simpa using h4⟩
   have an:=Z h3;clear L h2 h3;go_wp2;go_ret;exact⟨_,r,rfl,HR.o,an.o⟩
structure aOh (e:I) (V:I->I->Option I):Prop where
 val:∀n v,n.size<=1048576->v.size<=1048576->jQ e n v (V n v)
 big:∀n v t,V n v=some t->n.size<=1048576/\v.size<=1048576
 again:∀n v t,V n v=some t->V n t=some t
theorem aSM (j:H)(k:aA j)(e:I)(m:e.size<=1000000000):∃V,aOh e V:=by
 have h:∀x:AT,∃o:Option I,(x.1.size<=1048576/\x.2.size<=1048576->jQ e x.1 x.2 o)/\(¬(x.1.size<=1048576/\x.2.size<=1048576)->o=none):=by{intro x;by_cases hx:x.1.size<=1048576/\x.2.size<=1048576;{obtain⟨o,q⟩:=aL6 j k e x.1 x.2 hx.2;exact⟨o,fun _=>q,fun p=>absurd hx p⟩};{exact⟨none,fun r=>absurd r hx,fun _=>rfl⟩}};obtain⟨f,d⟩:=su h;have l:∀n v t,f (n,v)=some t->n.size<=1048576/\v.size<=1048576:=fun n v t b=>by{by_cases hx:n.size<=1048576/\v.size<=1048576;{exact hx};{rw[(d (n,v)).2 hx]at b;cases b}};refine⟨fun n v=>f (n,v),fun n v c g=>(d (n,v)).1 ⟨c,g⟩,l,fun n v t b=>?_⟩;obtain⟨c,g⟩:=l n v t b;have i:=(d (n,v)).1 ⟨c,g⟩;simp only[b]at i;have y:=aDx i;have s:=aHL i;have u:=(d (n,t)).1 ⟨c,by show t.size<=1048576;omega⟩;exact aEN j k m (show n.size<=1000000000 by omega) (show t.size<=1048576 by omega) u s
open Go.RowKit
def aSd (kd sp:Int)(tx:I):Bool:=decide (kd=1)&&(decide (sp=0)&&tx.data.toList.isEmpty)
def aRY (kd sp:Int)(nm tx:I)(na nk:Nat):Bool:=decide (kd=2)&&(decide (sp=0)&&(nm.data.toList.isEmpty&&(decide (na=0)&&(decide (nk=0)&&(!tx.data.toList.isEmpty&&decide (dK tx=tx))))))
open Go.RowKit
section
variable {P:Program} {w:H} {ops:Array Oper} {rest:List Oper} {o:Oper} {a:Act} {Q:Exit->Act->H->Prop}
theorem aGH (T E:TypeId)(d:P.underlying T=some (.slice E))(i:TypeInfo)(hi:P.info? E=some i)(w:H)(x:Option Addr)(n c:Nat)(b:n<=c) :
  (Instr.slice T (.slice x n c) none (some (.int .i64 n)) (some (.int .i64 n))).run P w=.ok (.slice x n n) w:=by
 simp[Instr.slice,run_underlying d,Instr.sliceBounds,run_sliceBound,sizeOf,typeInfo,hi,b,Addr.add]
theorem aEO (w:H)(e:TypeId)(cap:Nat)(n:Nat)(b:List Value)(zs:Array Value) :
  lD (w.drew.alloc (.cells (b.toArray++zs) e)) (.slice (some ⟨w.heap.size,0,none⟩) n cap) n b/\Below w.heap.size w (w.drew.alloc (.cells (b.toArray++zs) e)):=by
 refine⟨⟨_,_,rfl,fun j u c=>⟨_,_,rfl,?_⟩⟩,?_⟩;{show(w.drew.alloc (.cells (b.toArray++zs) e)).cell? ⟨w.drew.heap.size,0+j,none⟩=some u;rw[be,aq _ _ j (b.toArray++zs) e (0,0) (bi w.drew _)];have d:j<b.length:=(fc.1 c).1;rw[l8 (by simpa using d)];simpa using c};{exact(aj w.heap.size w).drew.alloc aCS _}
theorem aAN (ab:o.guard=none)(s x:Operand)(t:TypeId)
  (ho:o.op=.call { callee:=.builtin .append,args:=#[s,x],argTypes:=#[t,t] })
  (e:TypeId) (i:TypeInfo) (z:Value) (D:Nat) (L:P.underlying t=some (.slice e)) (hi:P.info? e=some i) (M:i.zero=some z) (B:i.size=1) (W:i.bytes=D)
  (v:Value) (n:Nat) (d:List Value) (hs:a.eval s=v) (hv:∃y,v=.slice y n n) (F:lD w v n d) (hl:d.length=n) (u:Value)
  (f:Addr) (c:Nat) (hx:a.eval x=.slice (some f) 1 c) (ah:w.cell? f=some u) (V:(n+1)*D<=140737488355328) (hn:n<=1000000000)
  (h:∀v' w',G (lD w' v' (n+1) (d++[u]))->G (∃y c,v'=.slice y (n+1) c/\n+1<=c)->G (Below w.heap.size w w')->wpList P ops Q rest (a.put o.dst v') w'):wpList P ops Q (o :: rest) a w:=by
 refine i6 ab fun K S=>?_
 obtain⟨y,rfl⟩:=hv;have J:∀j q,[u][j]?=some q->w.cell? (f.add j)=some q:=by
  intro j q k;match j,k with
  | 0,k =>
   simp at k;subst k;simpa [Addr.add]using ah
 have ao:∃v' w',(Builtin.append_ #[t,t] o.type #[.slice y n n,.slice (some f) 1 c]).run P w=.ok v' w'/\lD w' v' (n+1) (d++[u])/\(∃y c,v'=.slice y (n+1) c/\n+1<=c)/\Below w.heap.size w w':=by
  subst W;cases y with
  | none =>
   have ad:n=0:=by
    rcases g7 n with E|E
    ·exact E
    ·obtain⟨N,R,l,A⟩:=F;obtain⟨g,C,r,_⟩:=A 0 _ (bc (by omega));simp only[cg]at l;rw[<-l.1]at r
     cases r
   subst ad;have an:d=[]:=fv hl;subst an;have hr:=run_append_nil (P:=P) (w:=w) t o.type e i z L hi M f 1 c [u] (by simp[B]) J (by omega) (by omega) (by omega);obtain⟨m,p⟩:=aEO w e (grownCap w 1 0 e) 1 [u] (Builtin.zeroCells z.cells (grownCap w 1 0 e-1));exact⟨_,_,hr,m,⟨_,_,rfl,sx w 1 0 e⟩,p⟩
  | some b =>
   have al:∀j q,d[j]?=some q->w.cell? (b.add j)=some q:=by
    obtain⟨N,R,l,A⟩:=F;intro j q k;obtain⟨g,C,r,X⟩:=A j q k;simp only[cg]at l;rw[<-l.1]at r
    cases r;have T:(⟨g,C,none⟩:Addr).add j=⟨g,C+j,none⟩:=by unfold Addr.add;split<;>simp_all
    rw[T];exact X
   have hr:=run_append_grow (P:=P) (w:=w) t o.type e i z L hi M b n n d (by rw[B];omega) al f 1 c [u] (by simp[B]) J (by omega) (by omega) (growslice_fits (by omega) V);obtain⟨m,p⟩:=aEO w e (grownCap w (n+1) n e) (n+1) (d++[u]) (Builtin.zeroCells z.cells (grownCap w (n+1) n e-(n+1)));refine⟨_,_,hr,?_,⟨_,_,rfl,sx w (n+1) n e⟩,?_⟩
   ·simpa using m
   ·simpa using p
 obtain⟨v',w',hr,m,aa,p⟩:=ao;unfold Oper.wp execOp;simp only[ho,resolve,invoke,builtin,m8,nc,ra,rc,co,fj,hs,hx,hr];exact S _ _ (h v' w' m aa p)
end
open Go.RowKit
def aNM:I:=⟨#[99,97,112,116,105,111,110]⟩
abbrev lW:=I->I->I->Option I
def xI (n:Nd):Bool:=aRY n.kind n.space n.name n.text n.attrs.length n.kids.length
def aSe (n:Nd):Bool:=aSd n.kind n.space n.text
def aRo:Option Nd->Bool
 | some n=>decide (n.kind=2)
 | none=>false
def aFq (VV:lW)(pn:I)(ph:List I)(prev:Option Nd)(k:Nd):Prop :=
 (xI k=true/\oG pn.data.toList=true/\aRo prev=false) \/
 (xI k=false/\aSe k=true/\yP pn.data.toList k.name.data.toList=true/\k.name∉ph/\¬(k.name=aNM/\prev.isSome=true)/\nX (VV k.name) k.attrs k.attrs)
mutual
def aCg (VV:lW):List I->Nd->Prop
 | ph,.mk _ _ nm _ _ ks=>HoldsK VV nm (if aS nm.data.toList=4 then ph++[nm]else ph) none ks
def HoldsK (VV:lW)(pn:I)(ph:List I):Option Nd->List Nd->Prop
 | _,[]=>True
 | prev,k :: ks=>(aFq VV pn ph prev k/\(xI k=false->aCg VV ph k))/\HoldsK VV pn ph (some k) ks
end
def rV (ks:List Nd)(j:Nat):Option Nd:=if j=0 then none else ks[j-1]?
theorem aBn (c:lW)(pn:I)(ph:List I)(b:List Nd)(j:Nat)(h:j<b.length) :
  HoldsK c pn ph (rV b j) (b.drop j)↔(aFq c pn ph (rV b j) b[j]/\(xI b[j]=false->aCg c ph b[j]))/\HoldsK c pn ph (rV b (j+1)) (b.drop (j+1)):=by
 rw[dy h];conv=>lhs;unfold HoldsK
 have:rV b (j+1)=some b[j]:=by{unfold rV;rw[ac (by omega),go,bc h]};rw[this]
open Go.RowKit
mutual
def SmN:Nd->Prop
 | .mk _ _ nm at' tx ks=>nm.size<=1048576/\tx.size<=100000000/\at'.length<=1048576/\(∀x∈at',x.1.size<=1048576/\x.2.size<=1048576)/\SmK ks
def SmK:List Nd->Prop
 | []=>True
 | n :: ks=>SmN n/\SmK ks
end
theorem SmK.get:∀(b:List Nd) (j:Nat) (h:j<b.length),SmK b->SmN b[j]:=by
 intro b;induction b with|nil=>{intro j h;simp at h}|cons n b ih=>{intro j h c;unfold SmK at c;cases j with|zero=>exact c.1|succ j=>exact ih j (by simpa using h) c.2}
theorem SmN.get {n:Nd}(h:SmN n):n.name.size<=1048576/\n.text.size<=100000000/\n.attrs.length<=1048576/\(∀x∈n.attrs,x.1.size<=1048576/\x.2.size<=1048576)/\SmK n.kids:=by
 cases n;unfold SmN at h;exact h
open Go.RowKit
structure Phr (w:H) (pv:Value) (ph:List I):Prop where
 vec:lD w pv ph.length (ph.map oT)
 cap:∃a c,pv=.slice a ph.length c/\ph.length<=c
theorem Phr.below {w w':H}{B:Nat}{b:Value}{ph:List I}(h:Phr w b ph)(d:Below B w w')(c:w.heap.size<=B):Phr w' b ph:=⟨h.vec.below d c,h.cap⟩
theorem Phr.nil (w:H):Phr w (.slice none 0 0) []:=⟨⟨none,0,rfl,fun j u b=>by simp at b⟩,⟨none,0,rfl,ag _⟩⟩
open Go.RowKit
def aDA (VV:lW):Prop:=∀e n v,e.size<=1048576->n.size<=1048576->v.size<=1048576->jQ e n v (VV e n v)
structure pF (VV:lW) (ks:List Nd) (nm:I) (ph:List I) (r:Bool) (k:Nat):Prop where
 le:k<=ks.length
 iff:r=true↔HoldsK VV nm ph (rV ks k) (ks.drop k)
theorem pF.start {b:lW}{c:List Nd}{nm:I}{ph:List I}{r:Bool}(h:r=true↔HoldsK b nm ph none c):pF b c nm ph r 0:=⟨ax _,h⟩
theorem pF.done {c:lW}{b:List Nd}{nm:I}{ph:List I}{r:Bool}{k:Nat}(h:pF c b nm ph r k)(d:b.length<=k):r=true:=by
 rw[h.iff,d6 d];unfold HoldsK;trivial
theorem pF.no {c:lW}{b:List Nd}{nm:I}{ph:List I}{r:Bool}{k:Nat}(h:pF c b nm ph r k)(d:k<b.length)(e:¬(aFq c nm ph (rV b k) b[k]/\(xI b[k]=false->aCg c ph b[k]))):r=false:=by
 cases hr:r with|false=>rfl|true=>exact absurd ((aBn c nm ph b k d).1 (h.iff.1 hr)).1 e
theorem pF.yes {c:lW}{b:List Nd}{nm:I}{ph:List I}{r:Bool}{k:Nat}(h:pF c b nm ph r k)(d:k<b.length)(e:aFq c nm ph (rV b k) b[k]/\(xI b[k]=false->aCg c ph b[k])):pF c b nm ph r (k+1):=by
 refine⟨d,?_⟩;rw[h.iff,aBn c nm ph b k d];exact⟨fun x=>x.2,fun x=>⟨e,x⟩⟩
theorem aH.attrs {w:H}{n:Nd}{c0 c1 c2 c4 c5:Value}{a:Option Addr}{m b:Nat}(h:aH w n (.agg #[c0,c1,c2,.slice a m b,c4,c5])):fK w (.slice a m b) n.attrs:=by
 obtain⟨f,d,g,e,c,_,_⟩:=h.get;simp only[lz]at e;have e3:=az (fun x:Array Value=>x[3]?) e;simp at e3;rw[e3];exact c
open Go.RowKit
def AOk (VV:lW)(A:cY):Prop:=∀nm l,nX (VV nm) l (A nm l)
def zU (ph:List I):Prop:=∀p∈ph,aS p.data.toList=4
theorem zU.nil:zU []:=fun p b=>by simp at b
theorem zU.of {ph:List I}(h:zU ph)(nm:I):zU (sH nm ph):=by
 unfold sH;split;{intro p b;rcases de.1 b with b|b;{exact h p b};{rw[fu.1 b];assumption}};{exact h}
mutual
def gQ:Nd->Nat
 | .mk _ _ _ _ _ ks=>gP ks+1
def gP:List Nd->Nat
 | []=>0
 | n :: ns=>max (gQ n) (gP ns)
end
open Go.RowKit
def aAm:List (I × I):=[(⟨#[99,104,97,114,115,101,116]⟩,⟨#[117,116,102,45,56]⟩)]
open Go.RowKit
theorem aH.kidsV {w:H}{n:Nd}{c0 c1 c2 c3 c4:Value}{a:Option Addr}{m b:Nat}(h:aH w n (.agg #[c0,c1,c2,c3,c4,.slice a m b])):aW w a 0 n.kids:=by
 obtain⟨f,d,g,e,_,c,_⟩:=h.get;simp only[lz]at e;have e5:=az (fun x:Array Value=>x[5]?) e;simp at e5;rw[e5.1];exact c
open Go.RowKit
open Go.RowKit
open Go.RowKit
def iU:Nd:=.mk 1 0 aSG aAm ⟨#[]⟩ []
structure aMe (w:H) (gh gm ga:Nat) (a:Option Addr) (n c:Nat):Prop where
 hd:Six w gh 0 (.int .i64 1) (.int .i64 0) (.string ⟨#[104,101,97,100]⟩) (.slice none 0 0) (.string ⟨#[]⟩) (.slice (some ⟨gm,0,none⟩) 1 1)
 bd:Six w gh 6 (.int .i64 1) (.int .i64 0) (.string ⟨#[98,111,100,121]⟩) (.slice none 0 0) (.string ⟨#[]⟩) (.slice a n c)
 mt:Six w gm 0 (.int .i64 1) (.int .i64 0) (.string ⟨#[109,101,116,97]⟩) (.slice (some ⟨ga,0,none⟩) 1 1) (.string ⟨#[]⟩) (.slice none 0 0)
 at':Two w ga 0 (.string ⟨#[99,104,97,114,115,101,116]⟩) (.string ⟨#[117,116,102,45,56]⟩)
theorem aMe.below {w w':H}{B f g e:Nat}{a:Option Addr}{n c:Nat}(h:aMe w f g e a n c)(d:Below B w w')(b:w.heap.size<=B):aMe w' f g e a n c :=
 ⟨h.hd.below d b,h.bd.below d b,h.mt.below d b,h.at'.below d b⟩
open Go.RowKit
def qG:Nd:=.mk 0 0 ⟨#[]⟩ [] ⟨#[]⟩ []
def pU (nm:I)(n:Nd):Prop:=n.kind=1/\n.space=0/\n.name=nm
instance (nm:I) (n:Nd):Decidable (pU nm n):=by unfold pU;exact inferInstance
def aD (nm:I):List Nd->Nd
 | []=>qG
 | n :: ns=>if pU nm n then n else aD nm ns
def dN:List Nd->U
 | []=>[]
 | n :: ns=>(if n.kind=2 then n.text.data.toList else [])++dN ns
def fF (n:Nd):I:=dK ⟨(dN (aD bM (aD cN n.kids).kids).kids).toArray⟩
def bB:List Nd->List Nd
 | []=>[]
 | k :: ks=>(if pU bF k then k.kids else [])++bB ks
def bU (t:I):Nd:=elN cN (if t=⟨#[]⟩then [iU]else [iU,elN bM [bG t]])
def mH (A:cY)(n:Nd):Nd:=elN aA5 [bU (fF n),elN bF (aM A bF [] (bB n.kids))]
theorem aLU:dK ⟨#[]⟩=⟨#[]⟩:=by decide +kernel
theorem aOG:sH bF []=[]:=by
 unfold sH;rw[ac (by decide +kernel)]
open Go.RowKit
def tB:List Value->Nat->List Value->List Value
 | xs,_,[]=>xs
 | xs,o,c :: r=>tB (xs.set o c) (o+1) r
theorem aEy:∀(cs b:List Value) (o j:Nat),o+cs.length<=b.length->(tB b o cs)[j]?=if o<=j/\j<o+cs.length then cs[j-o]? else b[j]?:=by
 intro cs;induction cs with|nil=>{intro b o j _;unfold tB;rw[ac (by simp only[cu];omega)]}|cons c r ih=>{intro b o j h;simp only[bw]at h ⊢;unfold tB;rw[ih (b.set o c) (o+1) j (by rw[nl];omega)];by_cases d:o+1<=j/\j<o+1+r.length;{rw[ae d,ae (by omega),show j-o=(j-(o+1))+1 by omega,ni]};{rw[ac d];by_cases f:j=o;{subst f;rw[ae (by omega),li,nj,rv (by omega)]};{rw[ac (by omega),uu (fun e=>f e.symm)]}}}
theorem aEx (b zs cs:List Value)(h:zs.length=cs.length):tB (b++zs) b.length cs=b++cs:=by
 apply l6;intro j;rw[aEy _ _ _ _ (by simp;omega)];by_cases c:j<b.length;{rw[ac (by omega),ib c,ib c]};{by_cases d:j<b.length+cs.length;{rw[ae (by omega),iu (by omega)]};{rw[ac (by omega),fi (by simp;omega),fi (by simp;omega)]}}
theorem uP (w:H)(p:Addr)(u:Value):(w.setCell p u).heap.size=w.heap.size:=by simp[World.setCell]
theorem aJ.setCell {B:Nat}{e:TypeId}{size g n c:Nat}{k:List Value}{f w:H}(h:aJ B e size (.slice (some ⟨g,0,none⟩) n c) n k f w)(j:Nat)(u:Value) :
  aJ B e size (.slice (some ⟨g,0,none⟩) n c) n (k.set j u) f (w.setCell ⟨g,j,none⟩ u):=by
 rcases h.own.2 with⟨d,s⟩|⟨r,cap,b,d,hB,i,hnc,hcm,m,q⟩;{cases d};{simp only[cg,fe,jo]at d;obtain⟨⟨rfl,_⟩,_,rfl⟩:=d;have l:=od w g j b e (0,0) u i;have p:=df w g b (b.setIfInBounds j u) e (0,0) i;refine⟨⟨by rw[nl];exact h.own.1,.inr ⟨g,c,b.setIfInBounds j u,rfl,hB,by rw[l];exact p,hnc,hcm,by simpa using m,?_⟩⟩,h.bel.setCell hB u,by rw[uP];exact h.base⟩;rw[rq,List.take_set,q]}
theorem aJ.setCells {B:Nat}{e:TypeId}{size g n c:Nat}{d:H}:∀(cs b:List Value) (o:Nat) (w:H),aJ B e size (.slice (some ⟨g,0,none⟩) n c) n b d w ->
  aJ B e size (.slice (some ⟨g,0,none⟩) n c) n (tB b o cs) d (w.setCells g o cs):=by
 intro cs;induction cs with|nil=>{intro b o w h;exact h}|cons u r ih=>{intro b o w h;unfold tB World.setCells;exact ih _ _ _ (h.setCell o u)}
theorem dU (g:Nat):∀(cs:List Value) (o:Nat) (w:H) (k:Nat),k≠g->(w.setCells g o cs).heap[k]?=w.heap[k]?:=by
 intro cs;induction cs with|nil=>{intro o w k _;rfl}|cons u r ih=>{intro o w k b;unfold World.setCells;rw[ih (o+1) _ k b,gu w ⟨g,o,none⟩ k u b]}
theorem aJ.there {B:Nat}{e:TypeId}{size g n c:Nat}{l:List Value}{m w:H}(h:aJ B e size (.slice (some ⟨g,0,none⟩) n c) n l m w)(o k:Nat)(z:o+k<=l.length):w.there g o k:=by
 intro j y;obtain⟨s,t,f,q⟩:=h.vec;simp only[cg]at f;obtain⟨p,A,d,i⟩:=q (o+j) _ (bc (by omega));rw[<-f.1]at d;simp only[fe,jo]at d;obtain⟨rfl,rfl,_⟩:=d;rw[be]at i;refine⟨by rw[i];rfl,?_⟩;rcases h.own.2 with⟨b,v⟩|⟨p,cap,u,b,x,r,_⟩;{cases b};{simp only[cg,fe,jo]at b;obtain⟨⟨rfl,_⟩,_,rfl⟩:=b;simp[World.frozen?,r]}
theorem aJ.cell {B:Nat}{e:TypeId}{size g n c:Nat}{i:List Value}{k w:H}(h:aJ B e size (.slice (some ⟨g,0,none⟩) n c) n i k w)(j:Nat)(u:Value)(m:i[j]?=some u):w.cell? ⟨g,j,none⟩=some u:=by
 obtain⟨p,q,d,l⟩:=h.vec;simp only[cg]at d;obtain⟨r,s,b,f⟩:=l j u m;rw[<-d.1]at b;simp only[fe,jo]at b;obtain⟨rfl,rfl,_⟩:=b;rw[be]at f;exact f
theorem aJ.atRow {B:Nat}{e:TypeId}{size n:Nat}{v:Value}{j:List Value}{d w:H}(h:aJ B e size v n j d w)(m:0<n):∃g c,v=.slice (some ⟨g,0,none⟩) n c/\B<=g/\g<w.heap.size/\v.ownBlock=some g:=by
 rcases h.own.2 with⟨b,l⟩|⟨g,cap,k,b,f,i,_⟩;{omega};{exact⟨g,cap,b,f,(d8.1 i).1,by rw[b];rfl⟩}
open Go.RowKit
structure Sv (p:Nat) (pn:I) (pv:Value) (ph:List I) (out:List Nd) (W1 w:H):Prop where
 at':p=W1.heap.size
 row:∃v xs,w.heap[p]?=some (.cells #[.string pn,pv,v] 151 (0,0))/\aJ p 45 6 v out.length xs W1 w/\v.ownBlock≠some p/\bZ (fun g=>p<g/\v.ownBlock≠some g) w xs out
 phr:Phr W1 pv ph
theorem Sv.below {p:Nat}{pn:I}{d:Value}{ph:List I}{out:List Nd}{c w w':H}(h:Sv p pn d ph out c w)(b:Below w.heap.size w w'):Sv p pn d ph out c w':=by
 obtain⟨v,l,hr,f,k,e⟩:=h.row;have j:p<w.heap.size:=(d8.1 hr).1;exact⟨h.at',⟨v,l,by rw[b.block p j];exact hr,f.keep b,k,e.keep (fun g i hd=>⟨b.block g i,hd⟩)⟩,h.phr⟩
theorem Sv.bel {p:Nat}{pn:I}{d:Value}{ph:List I}{out:List Nd}{b w:H}(h:Sv p pn d ph out b w):Below b.heap.size b w:=by
 obtain⟨v,g,hr,c,f,e⟩:=h.row;have:=c.bel;rw[<-h.at'];exact this
theorem Sv.phrAt {p:Nat}{pn:I}{b:Value}{ph:List I}{out:List Nd}{c w:H}(h:Sv p pn b ph out c w):Phr w b ph:=h.phr.below h.bel aCS
theorem aNX (p:Nat)(pn:I)(pv:Value)(ph:List I)(out:List Nd)(t w:H)(nm:I)(y:ph.length<=1000000000)(h:G (Sv p pn pv ph out t w)) :
  Y 197 #[.pointer (some ⟨p,0,none⟩),.string nm] w fun e w'=>e=.returned (.bool (sG pn ph out nm))/\w=w':=by
 obtain⟨v,E,hr,j,x,u⟩:=h.o.row;obtain⟨a,c,rfl,_,_⟩:=j.slice;have c0:w.cell? ⟨p,0,none⟩=some (.string pn):=by rw[aq _ _ 0 _ 151 (0,0) hr];rfl
 have c1:w.cell? ⟨p,1,none⟩=some pv:=by rw[aq _ _ 1 _ 151 (0,0) hr];rfl
 have c2:w.cell? ⟨p,2,none⟩=some (.slice a out.length c):=by rw[aq _ _ 2 _ 151 (0,0) hr];rfl
 have n:=Z (aPu pn nm w);have f:=Z (uF nm w);have r:=Z (tY pv ph nm w y h.o.phrAt.vec _ rfl);obtain⟨R,b⟩:=ex (sG pn ph out nm)
 rw[<-b];have B:=Z b;unfold sG at b;have l:decide (out=[])=((out.length:Int)==0):=by cases out<;>simp<;>omega
 rw[l]at b
 have D:=mM nm.data.toList;generalize out.length=ol at *
 generalize yP pn.data.toList nm.data.toList=m at *
 generalize aS nm.data.toList=k at *
 generalize Lib.containsS ph nm=q at *
 clear hr j x u l;go_enter Tryz.func197,Tryz.ntmps197
 go_wp2_with fail
 refine n.o.mono ?_;rintro e w' ⟨rfl,rfl⟩;cases m with
 | false =>
  have d:=Z (show R=false by rw[b];rfl);clear b;go_wp2
  go_ret;exact⟨by rw[d.o];rfl,rfl⟩
 | true =>
  rw[jz]at b
  go_wp2_with fail
  refine f.o.mono ?_;rintro e w' ⟨rfl,rfl⟩;by_cases i:k=4
  ·subst i;rw[ae rfl]at b
   have d:=Z b;clear b;go_wp2_with fail
   refine r.o.mono ?_;rintro e w' ⟨rfl,rfl⟩;cases q;all_goals
    go_wp2
    go_ret;exact⟨by rw[d.o];rfl,rfl⟩
  ·have e4:((k:Int)==4)=false:=by rw[ai];omega
   rw[ac i]at b
   go_wp2_with fail
   refine f.o.mono ?_;rintro e w' ⟨rfl,rfl⟩;by_cases g:k=10
   ·subst g;rw[ae rfl]at b
    have d:=Z b;clear b;obtain⟨z,A⟩:∃z,((ol:Int)==0)=z:=⟨_,rfl⟩
    cases z;all_goals
     have s:=Z A;go_wp2
     go_ret;exact⟨by rw[d.o,s.o];rfl,rfl⟩
   ·have C:((k:Int)==10)=false:=by rw[ai];omega
    rw[ac g]at b
    have d:=Z b;clear b;go_wp2
    go_ret;exact⟨by rw[d.o];rfl,rfl⟩
open Go.RowKit
theorem aOj (n:Nd):n.bk=2+n.name.size+n.text.size+rZ n.attrs+gX n.kids:=by
 cases n;conv=>lhs;unfold Nd.bk
 rfl
theorem aCl (n:Nd)(ns:List Nd):gX (n :: ns)=n.bk+gX ns:=by conv=>lhs;unfold gX
theorem eI (n:Nd)(ns:List Nd):SmK (n :: ns)↔SmN n/\SmK ns:=by
 conv=>lhs;unfold SmK
theorem eR:SmK []:=by unfold SmK;trivial
theorem nN (n:Nd):SmN n↔n.name.size<=1048576/\n.text.size<=100000000/\n.attrs.length<=1048576/\(∀x∈n.attrs,x.1.size<=1048576/\x.2.size<=1048576)/\SmK n.kids:=by
 cases n;conv=>lhs;unfold SmN
 exact gy
theorem aAV:(∀n:Nd,n.bk<=1048576->SmN n)/\∀l:List Nd,gX l<=1048576->SmK l:=by
 refine rR (P:=fun n=>n.bk<=1048576->SmN n) (Q:=fun l=>gX l<=1048576->SmK l) ?_ ?_ ?_;{intro n d h;rw[aOj]at h;have b:=aMm n.attrs;refine(nN n).2 ⟨by omega,by omega,by omega,fun x hx=>?_,d (by omega)⟩;have:=aMn n.attrs x hx;omega};{intro _;exact eR};{intro n e b c h;rw[aCl]at h;exact(eI n e).2 ⟨b (by omega),c (by omega)⟩}
open Go.RowKit
open Go.RowKit
