/-
policy.Text and Link as functions of byte arrays.
-/
import Derived.Test.YtcfgbdhpcboikaaGreatDoorTextLawB
import Derived.Test.YtcfgbdhpcboikaaGreatDoorSched
import Derived.Shelf.SlSortCmp.WholeK
import Derived.Test.YtcfgbdhpcboikaaGreatDoorDeepN
namespace Go.Proofs.YtcfgbdhpcboikaaGreatDoor
open Go.Lib (hid)
set_option maxHeartbeats 2000000
set_option maxRecDepth 100000
open Go.RowKit
theorem fV {α:Type}{a:Option α}{f g:α}(h:a=some f)(e:f=g):a=some g:=h.trans (congrArg some e)
def cL (v:ByteArray):ByteArray:=⟨(cT v.data.toList).toArray⟩
def qY (v:ByteArray):ByteArray:=⟨(dG v.data.toList).toArray⟩
theorem gU {a b:ByteArray}(h:a.data.toList=b.data.toList):a=b:=by
 cases a;cases b;simpa using h
theorem aAV (v:ByteArray):(cL v).data.toList=cT v.data.toList:=rfl
theorem pO (v:ByteArray):(qY v).data.toList=dG v.data.toList:=rfl
theorem aF1 (v:ByteArray):cL (cL v)=cL v:=gU (by rw[aAV,aAV,aIa])
theorem aAu (v:ByteArray):qY (qY v)=qY v:=gU (by rw[pO,pO,vL])
open Go.Sort Go.Lib
theorem sE (a b:UInt8)(x y:List UInt8):compareBytes (a :: x) (b :: y)=if a.toNat<b.toNat then -1 else if b.toNat<a.toNat then 1 else compareBytes x y:=by
 conv=>lhs;unfold compareBytes
 simp only[UInt8.lt_iff_toNat_lt]
theorem aKI:∀a:List UInt8,compareBytes a a=0:=by
 intro a;induction a with
 | nil=>rfl
 | cons c a ih=>rw[sE,if_neg (by omega),if_neg (by omega),ih]
theorem nE:∀a b:List UInt8,compareBytes b a=- compareBytes a b:=by
 intro a;induction a with
 | nil=>intro b;cases b<;>rfl
 | cons c a ih =>
  intro b;cases b with
  | nil=>rfl
  | cons d b =>
   rw[sE,sE];by_cases h1:c.toNat<d.toNat
   ·rw[if_pos h1,if_neg (by omega),if_pos h1];rfl
   ·by_cases h2:d.toNat<c.toNat
    ·rw[if_pos h2,if_neg h1,if_pos h2]
    ·rw[if_neg h2,if_neg h1,if_neg h1,if_neg h2,ih]
theorem wT:∀a b:List UInt8,compareBytes a b=0→a=b:=by
 intro a;induction a with
 | nil=>intro b h;cases b with
  | nil=>rfl
  | cons d b=>simp[compareBytes]at h
 | cons c a ih =>
  intro b h;cases b with
  | nil=>simp[compareBytes]at h
  | cons d b =>
   rw[sE]at h
   split at h
   ·omega
   ·split at h
    ·omega
    ·rw[ih b h,UInt8.toNat_inj.1 (by omega:c.toNat=d.toNat)]
theorem yM:∀a b c:List UInt8,compareBytes a b<0→compareBytes b c<0→compareBytes a c<0:=by
 intro a;induction a with
 | nil =>
  intro b c h1 h2;cases c with
  | nil =>
   rw[nE [] b]at h2
   omega
  | cons d c=>simp[compareBytes]
 | cons x a ih =>
  intro b c h1 h2;cases b with
  | nil=>simp[compareBytes]at h1
  | cons y b =>
   cases c with
   | nil=>simp[compareBytes]at h2
   | cons z c =>
    rw[sE]at h1 h2 ⊢
    by_cases p1:x.toNat<y.toNat
    ·by_cases p2:z.toNat<y.toNat
     ·rw[if_neg (by omega),if_pos p2]at h2;omega
     ·rw[if_pos (by omega)];omega
    ·rw[if_neg p1]at h1
     by_cases p3:y.toNat<x.toNat
     ·rw[if_pos p3]at h1;omega
     ·rw[if_neg p3]at h1
      by_cases p4:y.toNat<z.toNat
      ·rw[if_pos (by omega)];omega
      ·rw[if_neg p4]at h2
       by_cases p5:z.toNat<y.toNat
       ·rw[if_pos p5]at h2;omega
       ·rw[if_neg p5]at h2
        rw[if_neg (by omega),if_neg (by omega)];exact ih b c h1 h2
abbrev AT:=ByteArray × ByteArray
def gE (x y:AT):Int:=compareBytes x.1.data.toList y.1.data.toList
theorem aIT:SWO (ltOf gE) where
 irrefl x:=by unfold ltOf gE;rw[aKI];rfl
 trans x y z h1 h2:=by
  unfold ltOf gE at *
  simp only[decide_eq_true_eq]at *
  exact yM _ _ _ h1 h2
 ntrans x y z h1 h2:=by
  unfold ltOf gE at *
  simp only[decide_eq_false_iff_not,Int.not_lt]at *
  rcases Int.lt_or_eq_of_le h1 with h1|h1
  ·rcases Int.lt_or_eq_of_le h2 with h2|h2
   ·have:=yM z.1.data.toList y.1.data.toList x.1.data.toList (by rw[nE];omega) (by rw[nE];omega);rw[nE]at this
    omega
   ·rw[←wT _ _ h2.symm];omega
  ·rw[wT _ _ h1.symm];exact h2
def dS (V:ByteArray→ByteArray→Option ByteArray):List ByteArray→List AT→List AT
 | _,[]=>[]
 | sn,x :: l=>if containsS sn x.1=true then dS V sn l else (match V x.1 x.2 with|some t=>[(x.1,t)]|none=>[])++dS V (sn++[x.1]) l
def rY (r:List AT):Prop:=r.Pairwise fun x y=>gE x y<0
def jW (V:ByteArray→ByteArray→Option ByteArray)(l r:List AT):Prop:=r.Perm (dS V [] l)∧rY r
theorem aCH:∀(a b:List AT),rY a→rY b→a.Perm b→a=b:=by
 intro a;induction a with
 | nil=>intro b _ _ h;exact(List.Perm.nil_eq h)
 | cons x a ih =>
  intro b ha hb h;cases b with
  | nil=>exact absurd h.length_eq (by simp)
  | cons y b =>
   have ha':=List.pairwise_cons.1 ha;have hb':=List.pairwise_cons.1 hb;have e:x=y:=by
    have hx:x∈y :: b:=h.mem_iff.1 (by simp);have hy:y∈x :: a:=h.mem_iff.2 (by simp);rcases List.mem_cons.1 hx with hx|hx
    ·exact hx
    ·rcases List.mem_cons.1 hy with hy|hy
     ·exact hy.symm
     ·have h1:=hb'.1 x hx;have h2:=ha'.1 y hy;unfold gE at h1 h2;rw[nE]at h1
      omega
   subst e;rw[ih b ha'.2 hb'.2 (List.perm_cons x |>.1 h)]
theorem qG {V:ByteArray→ByteArray→Option ByteArray}{l a b:List AT}(h1:jW V l a)(h2:jW V l b):a=b :=
 aCH a b h1.2 h2.2 (h1.1.trans h2.1.symm)
theorem aGv (V:ByteArray→ByteArray→Option ByteArray):∀(l:List AT) (sn:List ByteArray),∀x∈dS V sn l,x.1∉sn:=by
 intro l;induction l with
 | nil=>intro sn x h;simp[dS]at h
 | cons y l ih =>
  intro sn x h;unfold dS at h;split at h
  ·exact ih sn x h
  ·rename_i hn;rcases List.mem_append.1 h with h|h
   ·cases hv:V y.1 y.2 with
    | none=>rw[hv]at h;simp at h
    | some t =>
     rw[hv]at h
     simp only[List.mem_singleton]at h;subst h;exact fun hm=>hn ((containsS_iff _ _).2 hm)
   ·exact fun hm=>ih _ x h (by simp[hm])
theorem xO (V:ByteArray→ByteArray→Option ByteArray):∀(l:List AT) (sn:List ByteArray),(dS V sn l).Pairwise fun x y=>x.1≠y.1:=by
 intro l;induction l with
 | nil=>intro sn;exact List.Pairwise.nil
 | cons y l ih =>
  intro sn;unfold dS;split
  ·exact ih sn
  ·cases hv:V y.1 y.2 with
   | none=>exact ih _
   | some t =>
    refine List.pairwise_cons.2 ⟨fun x hx=>?_,ih _⟩;have:=aGv V l _ x hx;simp only[List.mem_append,List.mem_singleton,not_or]at this;exact fun e=>this.2 e.symm
theorem aGu (V:ByteArray→ByteArray→Option ByteArray):∀(l:List AT) (sn:List ByteArray),(dS V sn l).length≤l.length:=by
 intro l;induction l with
 | nil=>intro sn;exact Nat.le_refl _
 | cons y l ih =>
  intro sn;unfold dS;split
  ·have:=ih sn;simp;omega
  ·have:=ih (sn++[y.1]);cases V y.1 y.2<;>simp<;>omega
theorem aHP {d:Array AT}(hs:SortedIn (ltOf gE) 0 d.size d)(hn:d.toList.Pairwise fun x y=>x.1≠y.1):rY d.toList:=by
 unfold rY;rw[List.pairwise_iff_getElem]at hn ⊢
 intro i j hi hj hij;have h1:=hn i j hi hj hij;have hi':i<d.size:=by simpa using hi
 have hj':j<d.size:=by simpa using hj
 have h2:=hs i j (Nat.zero_le _) hij hj';unfold ltOf at h2;simp only[decide_eq_false_iff_not,Int.not_lt]at h2;rw[getElem!_pos d j hj',getElem!_pos d i hi']at h2
 have e1:d.toList[i]=d[i]:=by simp
 have e2:d.toList[j]=d[j]:=by simp
 rw[e1,e2]at h1 ⊢
 unfold gE at h2 ⊢;rw[nE]at h2
 rcases Int.lt_or_eq_of_le (by omega:compareBytes (d[i]).1.data.toList (d[j]).1.data.toList≤0)with h|h
 ·exact h
 ·exfalso;apply h1;have:=wT _ _ h;cases hx:(d[i]).1;cases hy:(d[j]).1;rw[hx,hy]at this
  simpa using this
open Go.RowKit
abbrev eF:=ByteArray→List AT→List AT
def aL (t:ByteArray):Nd:=.mk 2 0 ⟨#[]⟩ [] t []
def Nd.more (n:Nd)(t:ByteArray):Nd:=.mk n.kind n.space n.name n.attrs (n.text++t) n.kids
def fI (out:List Nd)(t:ByteArray):List Nd :=
 match out.getLast? with
 | none=>out++[aL t]
 | some x=>if x.kind=2 then out.dropLast++[x.more t]else out++[aL t]
def pW (pn:ByteArray)(out:List Nd)(s:ByteArray):List Nd :=
 if cL s=⟨#[]⟩∨lO pn.data.toList=false then out else fI out (cL s)
def rQ (pn:ByteArray)(ph:List ByteArray)(out:List Nd)(nm:ByteArray):Bool :=
 rP pn.data.toList nm.data.toList&&(if bR nm.data.toList=4 then !Lib.containsS ph nm else if bR nm.data.toList=10 then decide (out=[])else true)
def uB (nm:ByteArray)(ph:List ByteArray):List ByteArray:=if bR nm.data.toList=4 then ph++[nm]else ph
def sG (nm:ByteArray):Prop:=bR nm.data.toList=5∨bR nm.data.toList=6
instance (nm:ByteArray):Decidable (sG nm):=by unfold sG;exact inferInstance
mutual
def hJ (A:eF):ByteArray→List ByteArray→List Nd→Nd→List Nd
 | pn,ph,out,.mk kd sp nm at' tx ks =>
  if kd=2 then pW pn out tx
  else if kd≠1∨sp≠0∨bR nm.data.toList=1 then out
  else if rQ pn ph out nm=true then out++[.mk 1 0 nm (A nm at') ⟨#[]⟩ (if sG nm then []else cB A nm (uB nm ph) [] ks)]
  else cB A pn ph out ks
def cB (A:eF):ByteArray→List ByteArray→List Nd→List Nd→List Nd
 | _,_,out,[]=>out
 | pn,ph,out,n :: ns=>cB A pn ph (hJ A pn ph out n) ns
end
def bM (A:eF)(pn:ByteArray)(ph:List ByteArray)(l:List Nd):List Nd:=if sG pn then []else cB A pn (uB pn ph) [] l
theorem rF (A:eF)(pn:ByteArray)(ph:List ByteArray)(out:List Nd)(n:Nd):hJ A pn ph out n =
  if n.kind=2 then pW pn out n.text
  else if n.kind≠1∨n.space≠0∨bR n.name.data.toList=1 then out
  else if rQ pn ph out n.name=true then out++[.mk 1 0 n.name (A n.name n.attrs) ⟨#[]⟩ (bM A n.name ph n.kids)]
  else cB A pn ph out n.kids:=by
 cases n;conv=>lhs;unfold hJ
 rfl
theorem lC (A:eF)(pn:ByteArray)(ph:List ByteArray)(out:List Nd):cB A pn ph out []=out:=by unfold cB;rfl
theorem jM (A:eF)(pn:ByteArray)(ph:List ByteArray)(out:List Nd)(n:Nd)(ns:List Nd):cB A pn ph out (n :: ns)=cB A pn ph (hJ A pn ph out n) ns:=by
 conv=>lhs;unfold cB
theorem aCJ (A:eF)(pn:ByteArray)(ph:List ByteArray):∀(a b out:List Nd),cB A pn ph out (a++b)=cB A pn ph (cB A pn ph out a) b:=by
 intro a;induction a with
 | nil=>intro b out;rw[List.nil_append,lC]
 | cons n a ih=>intro b out;rw[List.cons_append,jM,jM,ih]
theorem qF (out:List Nd)(x:Nd)(t:ByteArray):fI (out++[x]) t=if x.kind=2 then out++[x.more t]else out++[x]++[aL t]:=by
 unfold fI;rw[List.getLast?_append];simp
def elN (nm:ByteArray)(ks:List Nd):Nd:=.mk 1 0 nm [] ⟨#[]⟩ ks
mutual
def aMH (f:List UInt8→List UInt8):Nd→List UInt8
 | .mk kd _ _ _ tx ks=>(if kd=2 then f tx.data.toList else [])++aIb f ks
def aIb (f:List UInt8→List UInt8):List Nd→List UInt8
 | []=>[]
 | n :: ns=>aMH f n++aIb f ns
end
def aFg (l:List Nd):Prop:=∀x∈l,x.kind=2→x.kids=[]
theorem aFg.add {out:List Nd}(h:aFg out)(t:ByteArray):aFg (fI out t):=by
 unfold fI;have htx:(aL t).kind=2→(aL t).kids=[]:=fun _=>rfl
 split
 ·intro x hx;rcases List.mem_append.1 hx with hx|hx
  ·exact h x hx
  ·rw[List.mem_singleton.1 hx];exact htx
 ·rename_i y hy;split
  ·intro x hx;rcases List.mem_append.1 hx with hx|hx
   ·exact h x (List.dropLast_subset _ hx)
   ·rw[List.mem_singleton.1 hx];exact h y (List.mem_of_getLast? hy)
  ·intro x hx;rcases List.mem_append.1 hx with hx|hx
   ·exact h x hx
   ·rw[List.mem_singleton.1 hx];exact htx
open Go.RowKit
open Go.RowKit
theorem aCx (cmp:Value)(w:World):Calls Tryz.prog 182 #[.slice none 0 0,.int .i64 0,.int .i64 0,cmp] w fun e w'=>e=.returned (.tuple #[])∧w=w':=by
 go_enter Tryz.func182,Tryz.ntmps182
 go_wp2
 refine wp_loop_rounds 1 ?_;rw[rounds_succ];go_wp2
 go_end0
 exact⟨rfl,rfl⟩
theorem aLf (cmp:Value)(lim:Int)(w:World):Calls Tryz.prog 146 #[.slice none 0 0,.int .i64 0,.int .i64 0,.int .i64 lim,cmp] w fun e w'=>e=.returned (.tuple #[])∧w=w':=by
 go_enter Tryz.func146,Tryz.ntmps146
 go_wp2
 refine wp_loop_rounds 1 ?_;rw[rounds_succ];go_wp2_with fail
 refine(aCx cmp w).mono ?_;rintro e w' ⟨rfl,rfl⟩;go_wp2
 trace_state
 exact bodyPost_ret (v:=.tuple #[]) (by simp[results,Tryz.results146,go_sem]) rfl ⟨rfl,rfl⟩
theorem aJl (w:World):Calls Tryz.prog 147 #[.int .u64 0] w fun e w'=>e=.returned (.int .i64 0)∧w=w':=by
 go_enter Tryz.func147,Tryz.ntmps147
 go_wp2_with fail
 refine(Tryz.bits_Len64 0 w (by omega) (by omega)).mono ?_;rintro e w' ⟨rfl,hw⟩;subst hw;go_wp2
 go_ret;exact⟨rfl,rfl⟩
theorem aJN (cmp:Value)(w:World):Calls Tryz.prog 86 #[.slice none 0 0,cmp] w fun e w'=>e=.returned (.tuple #[])∧w=w':=by
 go_enter Tryz.func86,Tryz.ntmps86
 go_wp2_with fail
 refine(aJl w).mono ?_;rintro e w' ⟨rfl,rfl⟩;go_wp2_with fail
 refine(aLf cmp _ w).mono ?_;rintro e w' ⟨rfl,rfl⟩;go_wp2
 go_end0
 exact⟨rfl,rfl⟩
open Go.RowKit
theorem aP (w:World)(c0 c1 c2 c3 c4 c5:Value):Six (w.alloc (.cells #[c0,c1,c2,c3,c4,c5] 45)) w.heap.size 0 c0 c1 c2 c3 c4 c5:=by
 have h:∀j,(w.alloc (.cells #[c0,c1,c2,c3,c4,c5] 45)).cell? ⟨w.heap.size,j,none⟩=(#[c0,c1,c2,c3,c4,c5]:Array Value)[j]?:=fun j=>cell_of_row _ w.heap.size j _ 45 (0,0) (heap_alloc_new w _)
 exact⟨h 0,h 1,h 2,h 3,h 4,h 5⟩
theorem Tryz.info9:(Tryz.prog.info? 9).map (fun i=>(i.zero,i.size,i.bytes))=some (some (.string ⟨#[]⟩),1,16):=by kernel_rfl
open Go.RowKit
def bT:ByteArray:=⟨#[98,111,100,121]⟩
def bA (r:Bool)(w:World)(e:Ending)(w':World):Prop:=e=.returned (.bool r)∧Below w.heap.size w w'
open Go.RowKit
def Two (w:World)(g o:Nat)(c0 c1:Value):Prop:=w.cell? ⟨g,o,none⟩=some c0∧w.cell? ⟨g,o+1,none⟩=some c1
theorem Two.below {w w':World}{g o B:Nat}{c0 c1:Value}(h:Two w g o c0 c1)(hb:Below B w w')(hB:w.heap.size≤B):Two w' g o c0 c1:=by
 have hg:g<B:=Nat.lt_of_lt_of_le (World.block_lt_of_cell? w _ h.1) hB;exact⟨by rw[hb.cell (p:=⟨g,_,none⟩) hg];exact h.1,by rw[hb.cell (p:=⟨g,_,none⟩) hg];exact h.2⟩
open Go.RowKit
def jU:ByteArray:=⟨#[104,116,109,108]⟩
def dD:ByteArray:=⟨#[104,101,97,100]⟩
def aFQ:ByteArray:=⟨#[109,101,116,97]⟩
structure aC3 (w:World) (gh oh gm om cm ga oa ca gb ob cb:Nat) (a':Option Addr) (n' c':Nat):Prop where
 hd:Six w gh oh (.int .i64 1) (.int .i64 0) (.string ⟨#[104,101,97,100]⟩) (.slice none 0 0) (.string ⟨#[]⟩) (.slice (some ⟨gm,om,none⟩) 1 cm)
 bd:Six w gh (oh+6) (.int .i64 1) (.int .i64 0) (.string ⟨#[98,111,100,121]⟩) (.slice none 0 0) (.string ⟨#[]⟩) (.slice (some ⟨gb,ob,none⟩) 1 cb)
 mt:Six w gm om (.int .i64 1) (.int .i64 0) (.string ⟨#[109,101,116,97]⟩) (.slice (some ⟨ga,oa,none⟩) 1 ca) (.string ⟨#[]⟩) (.slice none 0 0)
 at':Two w ga oa (.string ⟨#[99,104,97,114,115,101,116]⟩) (.string ⟨#[117,116,102,45,56]⟩)
 kid:Six w gb ob (.int .i64 1) (.int .i64 0) (.string ⟨#[98]⟩) (.slice none 0 0) (.string ⟨#[]⟩) (.slice a' n' c')
theorem aC3.below {w w':World}{B gh oh gm om cm ga oa ca gb ob cb:Nat}{a':Option Addr}{n' c':Nat}(h:aC3 w gh oh gm om cm ga oa ca gb ob cb a' n' c')(hb:Below B w w')(hB:w.heap.size≤B):aC3 w' gh oh gm om cm ga oa ca gb ob cb a' n' c' :=
 ⟨h.hd.below hb hB,h.bd.below hb hB,h.mt.below hb hB,h.at'.below hb hB,h.kid.below hb hB⟩
open Go.RowKit
def jP (x:AT):List Value:=[.string x.1,.string x.2]
def fG (l:List AT):List Value:=l.flatMap jP
theorem oL (l:List AT):(fG l).length=l.length*2:=by
 induction l with
 | nil=>rfl
 | cons x l ih=>unfold fG at *;rw[List.flatMap_cons,List.length_append,ih];simp[jP];omega
theorem yX:∀(l:List AT) (j:Nat) (h:j<l.length),(fG l)[j*2]?=some (.string (l[j]).1)∧(fG l)[j*2+1]?=some (.string (l[j]).2):=by
 intro l;induction l with
 | nil=>intro j h;simp at h
 | cons x l ih =>
  intro j h;cases j with
  | zero=>exact⟨rfl,rfl⟩
  | succ j =>
   have:=ih j (by simpa using h);rw[show(j+1)*2=j*2+2 by omega,show j*2+2+1=(j*2+1)+2 by omega];unfold fG at *
   rw[List.flatMap_cons];exact this
theorem aGW (a b:List AT):fG (a++b)=fG a++fG b:=by unfold fG;rw[List.flatMap_append]
theorem bC.attrs {B:Nat}{v:Value}{l:List AT}{W0 w:World}(h:bC B 39 2 v l.length (fG l) W0 w):dZ w v l:=by
 obtain⟨a,c,e,hc⟩:=h.vec;refine⟨a,c,e,fun j hj=>?_⟩;obtain⟨h1,h2⟩:=yX l j hj;obtain⟨g,off,ha,k1⟩:=hc _ _ h1;obtain⟨g',off',ha',k2⟩:=hc _ _ h2;rw[ha]at ha'
 cases ha';exact⟨g,off,ha,k1,by rw[Nat.add_assoc];exact k2⟩
theorem dZ.get {w:World}{v:Value}{l:List AT}(h:dZ w v l)(j:Nat)(hj:j<l.length):∃g off c,v=.slice (some ⟨g,off,none⟩) l.length c∧w.cell? ⟨g,off+j*2,none⟩=some (.string (l[j]).1)∧w.cell? ⟨g,off+j*2+1,none⟩=some (.string (l[j]).2):=by
 obtain⟨a,c,e,hc⟩:=h;obtain⟨g,off,ha,h1,h2⟩:=hc j hj;exact⟨g,off,c,by rw[e,ha],h1,h2⟩
def pA (s:ByteArray):Value:=.string s
theorem mT (v:Value)(zs:List ByteArray)(x:ByteArray)(w:World)(hn:zs.length≤1000000000)(hV:iW w v zs.length (zs.map pA))(b:Bool)(hb:Lib.containsS zs x=b) :
  Calls Tryz.prog 85 #[v,.string x] w fun e w'=>e=.returned (.bool b)∧w=w':=by
 obtain⟨a,c,rfl,hc⟩:=hV;cases zs with
 | nil =>
  refine(Tryz.slices_Contains_string_empty a c x w).mono ?_;rintro e w' ⟨rfl,rfl⟩;exact⟨by rw[←hb];rfl,rfl⟩
 | cons z zs =>
  obtain⟨g,off,rfl,_⟩:=hc 0 (pA z) (by simp);refine(Tryz.slices_Contains_string g off (z :: zs).length c (z :: zs) x w (Nat.le_refl _) (by omega) ?_).mono ?_
  ·intro j hj;obtain⟨g',off',hg,hcell⟩:=hc j (pA ((z :: zs)[j])) (by rw[List.getElem?_map,List.getElem?_eq_getElem hj];rfl);cases hg;rw[hcell];simp[pA,List.getD_eq_getElem?_getD,List.getElem?_eq_getElem hj]
  ·rintro e w' ⟨rfl,rfl⟩;exact⟨by rw[List.take_length,←hb],rfl⟩
theorem Tryz.info39:(Tryz.prog.info? 39).map (fun i=>(i.zero,i.size,i.bytes))=some (some (.agg #[.string ⟨#[]⟩,.string ⟨#[]⟩]),2,32):=by kernel_rfl
open Go.RowKit Go.Shelf Go.Lib Go.Sort
def Tryz.sortAttr_ren:Go.Shelf.Ren:=⟨fun|6=>86|15=>147|14=>146|28=>190|29=>191|20=>182|21=>183|22=>184|23=>185|24=>186|25=>187|26=>188|27=>189|46=>218|47=>219|48=>220|49=>221|50=>222|57=>250|n=>n,fun|22=>33|24=>39|25=>96|3=>3|39=>148|0=>0|53=>177|55=>163|4=>4|46=>171|45=>170|50=>68|5=>5|9=>9|66=>202|70=>206|76=>245|77=>102|n=>n,fun|n=>n⟩
theorem Tryz.sortAttr:Go.Proofs.SlLaysF0.n6 Tryz.prog Tryz.sortAttr_ren:={
 mixed:=by kernel_rfl
 f6:=⟨ "slices.SortFunc[[]colander/api.Attr,colander/api.Attr]",of_decide_eq_true (by kernel_rfl),fV Tryz.func86 (by kernel_rfl)⟩
 f14:=⟨ "slices.pdqsortCmpFunc[colander/api.Attr]",of_decide_eq_true (by kernel_rfl),fV Tryz.func146 (by kernel_rfl)⟩
 f15:=fV Tryz.func147 (by kernel_rfl)
 f20:=⟨ "slices.insertionSortCmpFunc[colander/api.Attr]",of_decide_eq_true (by kernel_rfl),fV Tryz.func182 (by kernel_rfl)⟩
 f21:=⟨ "slices.heapSortCmpFunc[colander/api.Attr]",of_decide_eq_true (by kernel_rfl),fV Tryz.func183 (by kernel_rfl)⟩
 f22:=⟨ "slices.breakPatternsCmpFunc[colander/api.Attr]",of_decide_eq_true (by kernel_rfl),fV Tryz.func184 (by kernel_rfl)⟩
 f23:=⟨ "slices.choosePivotCmpFunc[colander/api.Attr]",of_decide_eq_true (by kernel_rfl),fV Tryz.func185 (by kernel_rfl)⟩
 f24:=⟨ "slices.reverseRangeCmpFunc[colander/api.Attr]",of_decide_eq_true (by kernel_rfl),fV Tryz.func186 (by kernel_rfl)⟩
 f25:=⟨ "slices.partialInsertionSortCmpFunc[colander/api.Attr]",of_decide_eq_true (by kernel_rfl),fV Tryz.func187 (by kernel_rfl)⟩
 f26:=⟨ "slices.partitionEqualCmpFunc[colander/api.Attr]",of_decide_eq_true (by kernel_rfl),fV Tryz.func188 (by kernel_rfl)⟩
 f27:=⟨ "slices.partitionCmpFunc[colander/api.Attr]",of_decide_eq_true (by kernel_rfl),fV Tryz.func189 (by kernel_rfl)⟩
 f28:=fV Tryz.func190 (by kernel_rfl)
 f29:=fV Tryz.func191 (by kernel_rfl)
 f46:=⟨ "slices.siftDownCmpFunc[colander/api.Attr]",of_decide_eq_true (by kernel_rfl),fV Tryz.func218 (by kernel_rfl)⟩
 f47:=fV Tryz.func219 (by kernel_rfl)
 f48:=fV Tryz.func220 (by kernel_rfl)
 f49:=⟨ "slices.medianAdjacentCmpFunc[colander/api.Attr]",of_decide_eq_true (by kernel_rfl),fV Tryz.func221 (by kernel_rfl)⟩
 f50:=⟨ "slices.medianCmpFunc[colander/api.Attr]",of_decide_eq_true (by kernel_rfl),fV Tryz.func222 (by kernel_rfl)⟩
 f57:=⟨ "slices.order2CmpFunc[colander/api.Attr]",of_decide_eq_true (by kernel_rfl),fV Tryz.func250 (by kernel_rfl)⟩
 t0:=Tryz.underlying0
 a0:=Tryz.isAgg0
 z0:=Tryz.sizeOf0
 v0:=Tryz.zeroValue0
 t3:=Tryz.underlying3
 a3:=Tryz.isAgg3
 z3:=Tryz.sizeOf3
 v3:=Tryz.zeroValue3
 t4:=Tryz.underlying4
 a4:=Tryz.isAgg4
 z4:=Tryz.sizeOf4
 v4:=Tryz.zeroValue4
 t5:=Tryz.underlying5
 a5:=Tryz.isAgg5
 z5:=Tryz.sizeOf5
 v5:=Tryz.zeroValue5
 t9:=Tryz.underlying9
 a9:=Tryz.isAgg9
 z9:=Tryz.sizeOf9
 v9:=Tryz.zeroValue9
 t22:=Tryz.underlying33
 a22:=Tryz.isAgg33
 z22:=Tryz.sizeOf33
 v22:=Tryz.zeroValue33
 t25:=Tryz.underlying96
 a25:=Tryz.isAgg96
 z25:=Tryz.sizeOf96
 v25:=Tryz.zeroValue96
 t39:=Tryz.underlying148
 a39:=Tryz.isAgg148
 z39:=Tryz.sizeOf148
 v39:=Tryz.zeroValue148
 t45:=Tryz.underlying170
 a45:=Tryz.isAgg170
 z45:=Tryz.sizeOf170
 v45:=Tryz.zeroValue170
 t46:=Tryz.underlying171
 a46:=Tryz.isAgg171
 z46:=Tryz.sizeOf171
 v46:=Tryz.zeroValue171
 t50:=Tryz.underlying68
 a50:=Tryz.isAgg68
 z50:=Tryz.sizeOf68
 v50:=Tryz.zeroValue68
 t53:=Tryz.underlying177
 a53:=Tryz.isAgg177
 z53:=Tryz.sizeOf177
 v53:=Tryz.zeroValue177
 t55:=Tryz.underlying163
 a55:=Tryz.isAgg163
 z55:=Tryz.sizeOf163
 v55:=Tryz.zeroValue163
 t66:=Tryz.underlying202
 a66:=Tryz.isAgg202
 z66:=Tryz.sizeOf202
 v66:=Tryz.zeroValue202
 t70:=Tryz.underlying206
 a70:=Tryz.isAgg206
 z70:=Tryz.sizeOf206
 v70:=Tryz.zeroValue206
 t76:=Tryz.underlying245
 a76:=Tryz.isAgg245
 z76:=Tryz.sizeOf245
 v76:=Tryz.zeroValue245
 t77:=Tryz.underlying102
 a77:=Tryz.isAgg102
 z77:=Tryz.sizeOf102
 v77:=Tryz.zeroValue102 }
theorem aAj (l:List AT):(flatK jP 2 l.toArray).toList=fG l:=by
 apply List.ext_getElem
 ·simp[oL]
 ·intro i h1 h2;have hi:i<l.length*2:=by rw[oL]at h2;exact h2
  have hj:i / 2<l.length:=by omega
  obtain⟨a1,a2⟩:=yX l (i / 2) hj;have e:(flatK jP 2 l.toArray).toList[i]=(jP l.toArray[i / 2]!)[i%2]! := by
   rw[Array.getElem_toList,←getElem!_pos,get_flatK _ _ _ _ (by simpa using hi)]
  rw[e,getElem!_pos l.toArray (i / 2) (by simpa using hj)];have hl:l.toArray[i / 2]'(by simpa using hj)=l[i / 2]:=by simp
  rw[hl];rcases Nat.mod_two_eq_zero_or_one i with hm|hm
  ·rw[hm];have hii:i / 2*2=i:=by omega
   rw[hii,List.getElem?_eq_getElem h2]at a1
   rw[Option.some.inj a1];rfl
  ·rw[hm];have hii:i / 2*2+1=i:=by omega
   rw[hii,List.getElem?_eq_getElem h2]at a2
   rw[Option.some.inj a2];rfl
theorem aI0 (x:AT):(jP x).length=2:=rfl
theorem aI1 (x:AT):∀v∈jP x,v.oneCell'=true:=by
 intro v hv;simp[jP]at hv
 rcases hv with rfl|rfl<;>rfl
theorem Tryz.closure87 (x y:AT)(W:World):Calls Tryz.prog 87 #[.agg #[.string x.1,.string x.2],.agg #[.string y.1,.string y.2]] W fun e w'=>e=.returned (.int .i64 (gE x y))∧∃q os',w'=grow (W.drewN q) os':=by
 have hcon:=fun W'=>Tryz.strings_Compare x.1 y.1 W'
 unfold gE;generalize compareBytes x.1.data.toList y.1.data.toList=r at hcon ⊢;go_enter Tryz.func87,Tryz.ntmps87
 go_wp2_with (go_at_call 88;refine(hcon _).mono ?_;rintro e w' ⟨rfl,rfl⟩)
 go_ret;exact⟨rfl,0,_,by rw[alloc_eq_grow,alloc_eq_grow,grow_grow];rfl⟩
theorem Tryz.cmp87 (blk off size:Nat)(w:World):CmpLays Tryz.prog 87 #[] jP 2 gE blk off size w :=
 fun _ _ _ _ x y=>Tryz.closure87 x y _
theorem aCe (w:World)(g n:Nat)(d:Array AT)(os:Array Obj)(k:Nat)(hk:k<w.heap.size) :
  (sortWorldK jP 2 w g 0 n d os).heap[k]?=if g=k then w.heap[k]?.map (onCells (putCells id 0 (flatK jP 2 d)))else w.heap[k]?:=by
 unfold sortWorldK grow putRowK putRow mapBlock;simp only;rw[Array.getElem?_append_left (by simp;exact hk),Array.getElem?_modify];rfl
theorem aJO {B:Nat}{v:Value}{l r:List AT}{W0 w w':World}{g cap n:Nat}{cur:Array Value}{os:Array Obj}(hO:bC B 39 2 v l.length (fG l) W0 w)(hv:v=.slice (some ⟨g,0,none⟩) l.length cap)(hB:B≤g)(hg:w.heap[g]?=some (.cells cur 39 (0,0)))
  (hnc:l.length≤cap) (hcm:cap≤maxLen) (hcs:cur.size=cap*2) (hr:r.length=l.length) (hw:w'=sortWorldK jP 2 w g 0 n r.toArray os):bC B 39 2 v r.length (fG r) W0 w':=by
 have hlt:g<w.heap.size:=(Array.getElem?_eq_some_iff.1 hg).1;subst hw;have hsz:w.heap.size≤(sortWorldK jP 2 w g 0 n r.toArray os).heap.size:=by
  unfold sortWorldK grow putRowK putRow mapBlock;simp
 refine⟨⟨by rw[oL],.inr ⟨g,cap,putCells id 0 (flatK jP 2 r.toArray) cur,by rw[hr];exact hv,hB,?_,by omega,hcm,?_,?_⟩⟩,?_,Nat.le_trans hO.base hsz⟩
 ·rw[aCe _ _ _ _ _ _ hlt,if_pos rfl,hg];rfl
 ·unfold putCells;simpa using hcs
 ·rw[←aAj r];apply List.ext_getElem
  ·rw[List.length_take];unfold putCells;simp;omega
  ·intro i h1 h2;have hi:i<(flatK jP 2 r.toArray).size:=by simpa using h2
   rw[List.getElem_take];unfold putCells;rw[Array.getElem_toList,Array.getElem_mapIdx,if_pos ⟨Nat.zero_le _,by rw[Nat.zero_add];exact hi⟩];rw[Nat.sub_zero,getElem!_pos _ i hi];simp
 ·refine hO.bel.trans ⟨rfl,rfl,rfl,hsz,fun k hk=>?_⟩;rw[aCe _ _ _ _ _ _ (by omega),if_neg (by omega)]
theorem aJM (v:Value)(l:List AT)(W0 w:World)(B:Nat)(hO:bC B 39 2 v l.length (fG l) W0 w)(hl:l.length≤1000000000) :
  Calls Tryz.prog 86 #[v,.func (.func 87) #[] #[]] w fun e w'=>e=.returned (.tuple #[])∧∃r:List AT,r.Perm l∧SortedIn (ltOf gE) 0 r.length r.toArray∧bC B 39 2 v r.length (fG r) W0 w':=by
 rcases hO.own.2 with⟨rfl,h0⟩|⟨g,cap,cur,hv,hB,hg,hnc,hcm,hcs,htake⟩
 ·have hnil:l=[]:=List.eq_nil_of_length_eq_zero h0;subst hnil;refine(aJN _ w).mono ?_;rintro e w' ⟨rfl,rfl⟩;exact⟨rfl,[],List.Perm.refl _,fun i j _ _ h=>absurd h (by simp),hO⟩
 ·subst hv;have hlt:g<w.heap.size:=(Array.getElem?_eq_some_iff.1 hg).1;have eg:∀args w,(callFunc 87 args).run Tryz.prog w=.ok (.enter 87 args) w:=enters_of Tryz.func87 (by kernel_rfl) rfl;have hH:HoldsK jP 2 w g 0 l.toArray:=by
   intro j hj;have hj':j<l.length*2:=by simpa using hj
   rw[Nat.zero_add];refine⟨?_,?_⟩
   ·rw[cell_of_row w g j cur 39 (0,0) hg];have e:(flatK jP 2 l.toArray)[j]! = (fG l)[j]'(by rw[oL];exact hj'):=by
     rw[getElem!_pos _ j hj,←Array.getElem_toList];simp only[aAj]
    rw[e];have:(cur.toList.take (l.length*2))[j]?=(fG l)[j]?:=by rw[htake]
    rw[List.getElem?_take,if_pos hj',List.getElem?_eq_getElem (l:=fG l) (by rw[oL];exact hj')]at this
    simpa using this
   ·simp[World.frozen?,hg]
  have hcon:=AnyQ.slices_SortFunc Tryz.sortAttr 2 Tryz.isAgg39 Tryz.sizeOf39 jP aI0 aI1 gE aIT 87 #[] g 0 cap l.toArray w eg (Tryz.cmp87 g 0 _ w) hH hlt (by simp;omega);change Calls Tryz.prog 86 _ _ _ at hcon;simp only[List.size_toArray]at hcon;refine hcon.mono ?_;rintro e w' ⟨rfl,d',n,os,hp,hs,rfl⟩;have hsz:d'.size=l.length:=by simpa using hp.1
  have hperm:d'.toList.Perm l:=by
   have h2:=hp.2.2;have e1:(d'.extract 0 l.length).toList=d'.toList:=by rw[←hsz];simp
   have e2:(l.toArray.extract 0 l.length).toList=l:=by simp
   rw[e1,e2]at h2
   exact h2
  refine⟨rfl,d'.toList,hperm,?_,?_⟩
  ·have:d'.toList.length=l.length:=by simpa using hsz
   rw[this];simpa using hs
  ·exact aJO (n:=n) (os:=os) hO rfl hB hg hnc hcm hcs (by simpa using hsz) (by simp)
open Go.RowKit
structure Phr (w:World) (pv:Value) (ph:List ByteArray):Prop where
 vec:iW w pv ph.length (ph.map pA)
 cap:∃a c,pv=.slice a ph.length c∧ph.length≤c
theorem Phr.below {w w':World}{B:Nat}{pv:Value}{ph:List ByteArray}(h:Phr w pv ph)(hb:Below B w w')(hB:w.heap.size≤B):Phr w' pv ph:=⟨h.vec.below hb hB,h.cap⟩
theorem Phr.nil (w:World):Phr w (.slice none 0 0) []:=⟨⟨none,0,rfl,fun j u hj=>by simp at hj⟩,⟨none,0,rfl,Nat.le_refl _⟩⟩
def gX:List (ByteArray × ByteArray):=[(⟨#[99,104,97,114,115,101,116]⟩,⟨#[117,116,102,45,56]⟩)]
open Go.RowKit
open Go.RowKit
def eC:Nd:=.mk 1 0 aFQ gX ⟨#[]⟩ []
structure aIx (w:World) (gh gm ga:Nat) (a:Option Addr) (n c:Nat):Prop where
 hd:Six w gh 0 (.int .i64 1) (.int .i64 0) (.string ⟨#[104,101,97,100]⟩) (.slice none 0 0) (.string ⟨#[]⟩) (.slice (some ⟨gm,0,none⟩) 1 1)
 bd:Six w gh 6 (.int .i64 1) (.int .i64 0) (.string ⟨#[98,111,100,121]⟩) (.slice none 0 0) (.string ⟨#[]⟩) (.slice a n c)
 mt:Six w gm 0 (.int .i64 1) (.int .i64 0) (.string ⟨#[109,101,116,97]⟩) (.slice (some ⟨ga,0,none⟩) 1 1) (.string ⟨#[]⟩) (.slice none 0 0)
 at':Two w ga 0 (.string ⟨#[99,104,97,114,115,101,116]⟩) (.string ⟨#[117,116,102,45,56]⟩)
theorem aIx.below {w w':World}{B gh gm ga:Nat}{a:Option Addr}{n c:Nat}(h:aIx w gh gm ga a n c)(hb:Below B w w')(hB:w.heap.size≤B):aIx w' gh gm ga a n c :=
 ⟨h.hd.below hb hB,h.bd.below hb hB,h.mt.below hb hB,h.at'.below hb hB⟩
open Go.RowKit
def uH:List Value→Nat→List Value→List Value
 | xs,_,[]=>xs
 | xs,o,c :: r=>uH (xs.set o c) (o+1) r
theorem aHX:∀(cs xs:List Value) (o j:Nat),o+cs.length≤xs.length→(uH xs o cs)[j]?=if o≤j∧j<o+cs.length then cs[j-o]? else xs[j]?:=by
 intro cs;induction cs with
 | nil=>intro xs o j _;unfold uH;rw[if_neg (by simp only[List.length_nil];omega)]
 | cons c r ih =>
  intro xs o j h;simp only[List.length_cons]at h ⊢;unfold uH;rw[ih (xs.set o c) (o+1) j (by rw[List.length_set];omega)];by_cases h1:o+1≤j∧j<o+1+r.length
  ·rw[if_pos h1,if_pos (by omega),show j-o=(j-(o+1))+1 by omega,List.getElem?_cons_succ]
  ·rw[if_neg h1];by_cases h2:j=o
   ·subst h2;rw[if_pos (by omega),Nat.sub_self,List.getElem?_cons_zero,List.getElem?_set_self (by omega)]
   ·rw[if_neg (by omega),List.getElem?_set_ne (fun e=>h2 e.symm)]
theorem aB8 (ys zs cs:List Value)(h:zs.length=cs.length):uH (ys++zs) ys.length cs=ys++cs:=by
 apply List.ext_getElem?;intro j;rw[aHX _ _ _ _ (by simp;omega)];by_cases h1:j<ys.length
 ·rw[if_neg (by omega),List.getElem?_append_left h1,List.getElem?_append_left h1]
 ·by_cases h2:j<ys.length+cs.length
  ·rw[if_pos (by omega),List.getElem?_append_right (by omega)]
  ·rw[if_neg (by omega),List.getElem?_eq_none (by simp;omega),List.getElem?_eq_none (by simp;omega)]
theorem qP (w:World)(p:Addr)(u:Value):(w.setCell p u).heap.size=w.heap.size:=by simp[World.setCell]
theorem bC.setCell {B:Nat}{e:TypeId}{size g n c:Nat}{xs:List Value}{W0 w:World}(h:bC B e size (.slice (some ⟨g,0,none⟩) n c) n xs W0 w)(j:Nat)(u:Value) :
  bC B e size (.slice (some ⟨g,0,none⟩) n c) n (xs.set j u) W0 (w.setCell ⟨g,j,none⟩ u):=by
 rcases h.own.2 with⟨hv,h0⟩|⟨g',cap,cur,hv,hB,hg,hnc,hcm,hcs,htake⟩
 ·cases hv
 ·simp only[Value.slice.injEq,Option.some.injEq,Addr.mk.injEq]at hv;obtain⟨⟨rfl,_⟩,_,rfl⟩:=hv;have e1:=setCell_eq_setRow w g j cur e (0,0) u hg;have hh:=setRow_heap w g cur (cur.setIfInBounds j u) e (0,0) hg;refine⟨⟨by rw[List.length_set];exact h.own.1,.inr ⟨g,c,cur.setIfInBounds j u,rfl,hB,by rw[e1];exact hh,hnc,hcm,by simpa using hcs,?_⟩⟩,h.bel.setCell hB u,by rw[qP];exact h.base⟩;rw[Array.toList_setIfInBounds,List.take_set,htake]
theorem bC.setCells {B:Nat}{e:TypeId}{size g n c:Nat}{W0:World}:∀(cs xs:List Value) (o:Nat) (w:World),bC B e size (.slice (some ⟨g,0,none⟩) n c) n xs W0 w →
  bC B e size (.slice (some ⟨g,0,none⟩) n c) n (uH xs o cs) W0 (w.setCells g o cs):=by
 intro cs;induction cs with
 | nil=>intro xs o w h;exact h
 | cons u r ih =>
  intro xs o w h;unfold uH World.setCells;exact ih _ _ _ (h.setCell o u)
theorem bX (g:Nat):∀(cs:List Value) (o:Nat) (w:World) (k:Nat),k≠g→(w.setCells g o cs).heap[k]?=w.heap[k]?:=by
 intro cs;induction cs with
 | nil=>intro o w k _;rfl
 | cons u r ih =>
  intro o w k hk;unfold World.setCells;rw[ih (o+1) _ k hk,heap_setCell_other w ⟨g,o,none⟩ k u hk]
theorem bC.there {B:Nat}{e:TypeId}{size g n c:Nat}{xs:List Value}{W0 w:World}(h:bC B e size (.slice (some ⟨g,0,none⟩) n c) n xs W0 w)(o k:Nat)(hk:o+k≤xs.length):w.there g o k:=by
 intro j hj;obtain⟨a',c',e1,hc⟩:=h.vec;simp only[Value.slice.injEq]at e1;obtain⟨g',off,e2,hcell⟩:=hc (o+j) _ (List.getElem?_eq_getElem (by omega));rw[←e1.1]at e2
 simp only[Option.some.injEq,Addr.mk.injEq]at e2;obtain⟨rfl,rfl,_⟩:=e2;rw[Nat.zero_add]at hcell
 refine⟨by rw[hcell];rfl,?_⟩;rcases h.own.2 with⟨hv,h0⟩|⟨g',cap,cur,hv,hB,hg,_⟩
 ·cases hv
 ·simp only[Value.slice.injEq,Option.some.injEq,Addr.mk.injEq]at hv;obtain⟨⟨rfl,_⟩,_,rfl⟩:=hv;simp[World.frozen?,hg]
theorem bC.cell {B:Nat}{e:TypeId}{size g n c:Nat}{xs:List Value}{W0 w:World}(h:bC B e size (.slice (some ⟨g,0,none⟩) n c) n xs W0 w)(j:Nat)(u:Value)(hj:xs[j]?=some u):w.cell? ⟨g,j,none⟩=some u:=by
 obtain⟨a',c',e1,hc⟩:=h.vec;simp only[Value.slice.injEq]at e1;obtain⟨g',off,e2,hcell⟩:=hc j u hj;rw[←e1.1]at e2
 simp only[Option.some.injEq,Addr.mk.injEq]at e2;obtain⟨rfl,rfl,_⟩:=e2;rw[Nat.zero_add]at hcell
 exact hcell
theorem bC.atRow {B:Nat}{e:TypeId}{size n:Nat}{v:Value}{xs:List Value}{W0 w:World}(h:bC B e size v n xs W0 w)(hn:0<n):∃g c,v=.slice (some ⟨g,0,none⟩) n c∧B≤g∧g<w.heap.size∧v.ownBlock=some g:=by
 rcases h.own.2 with⟨hv,h0⟩|⟨g,cap,cur,hv,hB,hg,_⟩
 ·omega
 ·exact⟨g,cap,hv,hB,(Array.getElem?_eq_some_iff.1 hg).1,by rw[hv];rfl⟩
open Go.RowKit
structure Sv (p:Nat) (pn:ByteArray) (pv:Value) (ph:List ByteArray) (out:List Nd) (W1 w:World):Prop where
 at':p=W1.heap.size
 row:∃v xs,w.heap[p]?=some (.cells #[.string pn,pv,v] 151 (0,0))∧bC p 45 6 v out.length xs W1 w∧v.ownBlock≠some p∧bU (fun g=>p<g∧v.ownBlock≠some g) w xs out
 phr:Phr W1 pv ph
theorem Sv.below {p:Nat}{pn:ByteArray}{pv:Value}{ph:List ByteArray}{out:List Nd}{W1 w w':World}(h:Sv p pn pv ph out W1 w)(hb:Below w.heap.size w w'):Sv p pn pv ph out W1 w':=by
 obtain⟨v,xs,hr,hO,hne,hC⟩:=h.row;have hlt:p<w.heap.size:=(Array.getElem?_eq_some_iff.1 hr).1;exact⟨h.at',⟨v,xs,by rw[hb.block p hlt];exact hr,hO.keep hb,hne,hC.keep (fun g hg hd=>⟨hb.block g hg,hd⟩)⟩,h.phr⟩
theorem Sv.bel {p:Nat}{pn:ByteArray}{pv:Value}{ph:List ByteArray}{out:List Nd}{W1 w:World}(h:Sv p pn pv ph out W1 w):Below W1.heap.size W1 w:=by
 obtain⟨v,xs,hr,hO,hne,hC⟩:=h.row;have:=hO.bel;rw[←h.at'];exact this
theorem Sv.phrAt {p:Nat}{pn:ByteArray}{pv:Value}{ph:List ByteArray}{out:List Nd}{W1 w:World}(h:Sv p pn pv ph out W1 w):Phr w pv ph:=h.phr.below h.bel (Nat.le_refl _)
theorem aJK (p:Nat)(pn:ByteArray)(pv:Value)(ph:List ByteArray)(out:List Nd)(W1 w:World)(nm:ByteArray)(hph:ph.length≤1000000000)(h:Hid (Sv p pn pv ph out W1 w)) :
  Calls Tryz.prog 197 #[.pointer (some ⟨p,0,none⟩),.string nm] w fun e w'=>e=.returned (.bool (rQ pn ph out nm))∧w=w':=by
 obtain⟨v,xs,hr,hO,hne,hC⟩:=h.out.row;obtain⟨a,c,rfl,_,_⟩:=hO.slice;have c0:w.cell? ⟨p,0,none⟩=some (.string pn):=by rw[cell_of_row _ _ 0 _ 151 (0,0) hr];rfl
 have c1:w.cell? ⟨p,1,none⟩=some pv:=by rw[cell_of_row _ _ 1 _ 151 (0,0) hr];rfl
 have c2:w.cell? ⟨p,2,none⟩=some (.slice a out.length c):=by rw[cell_of_row _ _ 2 _ 151 (0,0) hr];rfl
 have HM:=hid (aE3 pn nm w);have HK:=hid (nI nm w);have HQ:=hid (mT pv ph nm w hph h.out.phrAt.vec _ rfl);obtain⟨R,hR⟩:∃R,R=rQ pn ph out nm:=⟨_,rfl⟩
 rw[←hR];have HR:=hid hR;unfold rQ at hR;have hol:decide (out=[])=((out.length:Int)==0):=by cases out<;>simp<;>omega
 rw[hol]at hR
 have hkl:=nH nm.data.toList;generalize out.length=ol at *
 generalize rP pn.data.toList nm.data.toList=m at *
 generalize bR nm.data.toList=k at *
 generalize Lib.containsS ph nm=q at *
 clear hr hO hne hC hol;go_enter Tryz.func197,Tryz.ntmps197
 go_wp2_with fail
 refine HM.out.mono ?_;rintro e w' ⟨rfl,rfl⟩;cases m with
 | false =>
  have HR2:=hid (show R=false by rw[hR];rfl);clear hR;go_wp2
  go_ret;exact⟨by rw[HR2.out];rfl,rfl⟩
 | true =>
  rw[Bool.true_and]at hR
  go_wp2_with fail
  refine HK.out.mono ?_;rintro e w' ⟨rfl,rfl⟩;by_cases h4:k=4
  ·subst h4;rw[if_pos rfl]at hR
   have HR2:=hid hR;clear hR;go_wp2_with fail
   refine HQ.out.mono ?_;rintro e w' ⟨rfl,rfl⟩;cases q;all_goals
    go_wp2
    go_ret;exact⟨by rw[HR2.out];rfl,rfl⟩
  ·have e4:((k:Int)==4)=false:=by rw[beq_eq_false_iff_ne];omega
   rw[if_neg h4]at hR
   go_wp2_with fail
   refine HK.out.mono ?_;rintro e w' ⟨rfl,rfl⟩;by_cases h10:k=10
   ·subst h10;rw[if_pos rfl]at hR
    have HR2:=hid hR;clear hR;obtain⟨z,hz⟩:∃z,((ol:Int)==0)=z:=⟨_,rfl⟩
    cases z;all_goals
     have HZ:=hid hz;go_wp2
     go_ret;exact⟨by rw[HR2.out,HZ.out];rfl,rfl⟩
   ·have e10:((k:Int)==10)=false:=by rw[beq_eq_false_iff_ne];omega
    rw[if_neg h10]at hR
    have HR2:=hid hR;clear hR;go_wp2
    go_ret;exact⟨by rw[HR2.out];rfl,rfl⟩
open Go.RowKit
def sS:ByteArray:=⟨#[98,111,100,121]⟩
def oD:ByteArray:=⟨#[100,105,118]⟩
def sT:ByteArray:=⟨#[102,111,110,116]⟩
def kQ:ByteArray:=⟨#[115,99,114,105,112,116]⟩
def sBS:ByteArray:=⟨#[98]⟩
def sIS:ByteArray:=⟨#[105]⟩
def sXS:ByteArray:=⟨#[120]⟩
def sYS:ByteArray:=⟨#[121]⟩
def sZS:ByteArray:=⟨#[122]⟩
def aCT:List Nd:=[elN oD [elN sT [aL sXS,elN kQ [aL sYS]],aL sZS]]
def aCU:List Nd:=[elN sBS [elN sIS [elN sBS [aL sXS]]]]
def yU:List Nd:=[elN oD [aL ⟨#[120,122]⟩]]
def yV:List Nd:=[elN sBS [elN sIS [aL sXS]]]
theorem aKM (A:eF):bM A sS [] aCT=[.mk 1 0 oD (A oD []) ⟨#[]⟩ [aL ⟨#[120,122]⟩]]:=by kernel_rfl
theorem aKN (A:eF):bM A sS [] aCU=[.mk 1 0 sBS (A sBS []) ⟨#[]⟩ [.mk 1 0 sIS (A sIS []) ⟨#[]⟩ [aL sXS]]]:=by kernel_rfl
theorem aMe (A:eF)(hA:∀e,A e []=[]):bM A sS [] aCT=yU:=by
 rw[aKM,hA];rfl
theorem aMf (A:eF)(hA:∀e,A e []=[]):bM A sS [] aCU=yV:=by
 rw[aKN,hA,hA];rfl
open Go.RowKit
