/-
The kinds of elements, by name: the program's table and the document's lists. No program in sight.
-/
import Derived.Test.YtcfgbdhpcboikaaGreatDoorTextLaw
import Derived.Lib.SlicesS
import Derived.Shelf.SlSortCmp.Insertion
import Derived.Test.YtcfgbdhpcboikaaGreatDoorBase
namespace Go.Proofs.YtcfgbdhpcboikaaGreatDoor
open Go.Lib (hid)
set_option maxHeartbeats 1000000
set_option maxRecDepth 100000
def gR:List (List UInt8 × Nat):=[([98,111,100,121],14),
 ([100,105,118],2),
 ([98,108,111,99,107,113,117,111,116,101],2),
 ([112],3),
 ([104,49],3),
 ([104,50],3),
 ([104,51],3),
 ([104,52],3),
 ([104,53],3),
 ([104,54],3),
 ([112,114,101],3),
 ([97],4),
 ([98],4),
 ([99,111,100,101],4),
 ([101,109],4),
 ([105],4),
 ([109,101,116,101,114],4),
 ([112,114,111,103,114,101,115,115],4),
 ([115],4),
 ([115,109,97,108,108],4),
 ([115,112,97,110],4),
 ([115,116,114,111,110,103],4),
 ([115,117,98],4),
 ([115,117,112],4),
 ([117],4),
 ([98,114],5),
 ([105,109,103],5),
 ([104,114],6),
 ([111,108],7),
 ([117,108],7),
 ([108,105],8),
 ([116,97,98,108,101],9),
 ([99,97,112,116,105,111,110],10),
 ([116,98,111,100,121],11),
 ([116,102,111,111,116],11),
 ([116,104,101,97,100],11),
 ([116,114],12),
 ([116,100],13),
 ([116,104],13),
 ([97,112,112,108,101,116],1),
 ([97,117,100,105,111],1),
 ([98,97,115,101],1),
 ([98,117,116,116,111,110],1),
 ([99,97,110,118,97,115],1),
 ([101,109,98,101,100],1),
 ([102,114,97,109,101],1),
 ([102,114,97,109,101,115,101,116],1),
 ([104,101,97,100],1),
 ([105,102,114,97,109,101],1),
 ([105,110,112,117,116],1),
 ([108,105,110,107],1),
 ([109,101,116,97],1),
 ([110,111,101,109,98,101,100],1),
 ([110,111,102,114,97,109,101,115],1),
 ([111,98,106,101,99,116],1),
 ([111,112,116,105,111,110],1),
 ([112,97,114,97,109],1),
 ([115,99,114,105,112,116],1),
 ([115,101,108,101,99,116],1),
 ([115,116,121,108,101],1),
 ([116,101,109,112,108,97,116,101],1),
 ([116,101,120,116,97,114,101,97],1),
 ([116,105,116,108,101],1),
 ([118,105,100,101,111],1),
 ([120,109,112],1)]
def aHA:List (List UInt8):=[[],
 [97,112,112,108,101,116,32,97,117,100,105,111,32,98,97,115,101,32,98,117,116,116,111,110,32,99,97,110,118,97,115,32,101,109,98,101,100,32,102,114,97,109,101,32,102,114,97,109,101,115,101,116,32,104,101,97,100,32,105,102,114,97,109,101,32,105,110,112,117,116,32,108,105,110,107,32,109,101,116,97,32,110,111,101,109,98,101,100,32,110,111,102,114,97,109,101,115,32,111,98,106,101,99,116,32,111,112,116,105,111,110,32,112,97,114,97,109,32,115,99,114,105,112,116,32,115,101,108,101,99,116,32,115,116,121,108,101,32,116,101,109,112,108,97,116,101,32,116,101,120,116,97,114,101,97,32,116,105,116,108,101,32,118,105,100,101,111,32,120,109,112],
 [100,105,118,32,98,108,111,99,107,113,117,111,116,101],
 [112,32,104,49,32,104,50,32,104,51,32,104,52,32,104,53,32,104,54,32,112,114,101],
 [97,32,98,32,99,111,100,101,32,101,109,32,105,32,109,101,116,101,114,32,112,114,111,103,114,101,115,115,32,115,32,115,109,97,108,108,32,115,112,97,110,32,115,116,114,111,110,103,32,115,117,98,32,115,117,112,32,117],
 [98,114,32,105,109,103],
 [104,114],
 [111,108,32,117,108],
 [108,105],
 [116,97,98,108,101],
 [99,97,112,116,105,111,110],
 [116,98,111,100,121,32,116,102,111,111,116,32,116,104,101,97,100],
 [116,114],
 [116,100,32,116,104],
 [98,111,100,121]]
def bO (n:List UInt8):Nat:=((gR.find? fun p=>p.1==n).map (·.2)).getD 0
def xH:List UInt8→List UInt8→List (List UInt8)
 | cur,[]=>if cur.isEmpty then []else [cur]
 | cur,c :: l=>if c=32 then (if cur.isEmpty then xH [] l else cur :: xH [] l)else xH (cur++[c]) l
def aOO (l:List UInt8):List (List UInt8):=xH [] l
def inB (w l:List UInt8):Bool:=(aOO l).contains w
def aLq (n:List UInt8):List (List UInt8)→Nat→Nat
 | [],_=>0
 | l :: r,i=>if inB n l then i else aLq n r (i+1)
theorem yW:∀p∈gR,aLq p.1 aHA 0=p.2∧bO p.1=p.2:=by decide +kernel
theorem uL (n:List UInt8)(h:n∉gR.map (·.1)):bO n=0:=by
 unfold bO;have:(gR.find? fun p=>p.1==n)=none:=by
  rw[List.find?_eq_none];intro p hp he;apply h;have e:p.1=n:=by simpa using he
  rw[←e];exact List.mem_map_of_mem hp
 rw[this];rfl
theorem nP (n:List UInt8):bO n≤14:=by
 by_cases h:n∈gR.map (·.1)
 ·obtain⟨p,hp,rfl⟩:=List.mem_map.1 h;rw[(yW p hp).2];have:∀p∈gR,p.2≤14:=by decide +kernel
  exact this p hp
 ·rw[uL n h];omega
def iV (p k:Nat)(same:Bool):Bool :=
 if p=14∨p=2∨p=8∨p=13 then decide (2≤k)&&decide (k≤7)||decide (k=9)
 else if p=3∨p=10 then decide (k=4)||decide (k=5)
 else if p=4 then decide (k=4)&&!same||decide (k=5)
 else if p=7 then decide (k=8)
 else if p=9 then decide (k=10)||decide (k=11)
 else if p=11 then decide (k=12)
 else if p=12 then decide (k=13)
 else false
def aGX (p:Nat):Bool:=decide (p=14∨p=2∨p=8∨p=13∨p=3∨p=10∨p=4)
def rW (p k:List UInt8):Bool:=iV (bO p) (bO k) (k==p)
def jI (p:List UInt8):Bool:=aGX (bO p)
open Go.RowKit
def bT (v:ByteArray):ByteArray:=⟨(cV v.data.toList).toArray⟩
def rP (v:ByteArray):ByteArray:=⟨(dI v.data.toList).toArray⟩
theorem fL {a b:ByteArray}(h:a.data.toList=b.data.toList):a=b:=by
 cases a;cases b;simpa using h
theorem qI (v:ByteArray):(bT v).data.toList=cV v.data.toList:=rfl
theorem qA (v:ByteArray):(rP v).data.toList=dI v.data.toList:=rfl
theorem tQ (v:ByteArray):bT (bT v)=bT v:=fL (by rw[qI,qI,aHJ])
theorem aAS (v:ByteArray):rP (rP v)=rP v:=fL (by rw[qA,qA,vX])
open Go.Sort Go.Lib
theorem tF (a b:UInt8)(x y:List UInt8):compareBytes (a :: x) (b :: y)=if a.toNat<b.toNat then -1 else if b.toNat<a.toNat then 1 else compareBytes x y:=by
 conv=>lhs;unfold compareBytes
 simp only[UInt8.lt_iff_toNat_lt]
theorem aFm:∀a:List UInt8,compareBytes a a=0:=by
 intro a;induction a with
 | nil=>rfl
 | cons c a ih=>rw[tF,if_neg (by omega),if_neg (by omega),ih]
theorem nS:∀a b:List UInt8,compareBytes b a=- compareBytes a b:=by
 intro a;induction a with
 | nil=>intro b;cases b<;>rfl
 | cons c a ih =>
  intro b;cases b with
  | nil=>rfl
  | cons d b =>
   rw[tF,tF];by_cases h1:c.toNat<d.toNat
   ·rw[if_pos h1,if_neg (by omega),if_pos h1];rfl
   ·by_cases h2:d.toNat<c.toNat
    ·rw[if_pos h2,if_neg h1,if_pos h2]
    ·rw[if_neg h2,if_neg h1,if_neg h1,if_neg h2,ih]
theorem xP:∀a b:List UInt8,compareBytes a b=0→a=b:=by
 intro a;induction a with
 | nil=>intro b h;cases b with
  | nil=>rfl
  | cons d b=>simp[compareBytes]at h
 | cons c a ih =>
  intro b h;cases b with
  | nil=>simp[compareBytes]at h
  | cons d b =>
   rw[tF]at h
   split at h
   ·omega
   ·split at h
    ·omega
    ·rw[ih b h,UInt8.toNat_inj.1 (by omega:c.toNat=d.toNat)]
theorem zU:∀a b c:List UInt8,compareBytes a b<0→compareBytes b c<0→compareBytes a c<0:=by
 intro a;induction a with
 | nil =>
  intro b c h1 h2;cases c with
  | nil =>
   rw[nS [] b]at h2
   omega
  | cons d c=>simp[compareBytes]
 | cons x a ih =>
  intro b c h1 h2;cases b with
  | nil=>simp[compareBytes]at h1
  | cons y b =>
   cases c with
   | nil=>simp[compareBytes]at h2
   | cons z c =>
    rw[tF]at h1 h2 ⊢
    by_cases p1:x.toNat<y.toNat
    ·by_cases p2:z.toNat<y.toNat
     ·rw[if_neg (by omega),if_pos p2]at h2;omega
     ·rw[if_pos (by omega)];omega
    ·rw[if_neg p1]at h1
     by_cases p3:y.toNat<x.toNat
     ·rw[if_pos p3]at h1;omega
     ·rw[if_neg p3]at h1
      by_cases p4:y.toNat<z.toNat
      ·rw[if_pos (by omega)];omega
      ·rw[if_neg p4]at h2
       by_cases p5:z.toNat<y.toNat
       ·rw[if_pos p5]at h2;omega
       ·rw[if_neg p5]at h2
        rw[if_neg (by omega),if_neg (by omega)];exact ih b c h1 h2
abbrev AT:=ByteArray × ByteArray
def fX (x y:AT):Int:=compareBytes x.1.data.toList y.1.data.toList
theorem aI2:SWO (ltOf fX) where
 irrefl x:=by unfold ltOf fX;rw[aFm];rfl
 trans x y z h1 h2:=by
  unfold ltOf fX at *
  simp only[decide_eq_true_eq]at *
  exact zU _ _ _ h1 h2
 ntrans x y z h1 h2:=by
  unfold ltOf fX at *
  simp only[decide_eq_false_iff_not,Int.not_lt]at *
  rcases Int.lt_or_eq_of_le h1 with h1|h1
  ·rcases Int.lt_or_eq_of_le h2 with h2|h2
   ·have:=zU z.1.data.toList y.1.data.toList x.1.data.toList (by rw[nS];omega) (by rw[nS];omega);rw[nS]at this
    omega
   ·rw[←xP _ _ h2.symm];omega
  ·rw[xP _ _ h1.symm];exact h2
def cW (V:ByteArray→ByteArray→Option ByteArray):List ByteArray→List AT→List AT
 | _,[]=>[]
 | sn,x :: l=>if containsS sn x.1=true then cW V sn l else (match V x.1 x.2 with|some t=>[(x.1,t)]|none=>[])++cW V (sn++[x.1]) l
def qZ (r:List AT):Prop:=r.Pairwise fun x y=>fX x y<0
def gV (V:ByteArray→ByteArray→Option ByteArray)(l r:List AT):Prop:=r.Perm (cW V [] l)∧qZ r
theorem aCJ:∀(a b:List AT),qZ a→qZ b→a.Perm b→a=b:=by
 intro a;induction a with
 | nil=>intro b _ _ h;exact(List.Perm.nil_eq h)
 | cons x a ih =>
  intro b ha hb h;cases b with
  | nil=>exact absurd h.length_eq (by simp)
  | cons y b =>
   have ha':=List.pairwise_cons.1 ha;have hb':=List.pairwise_cons.1 hb;have e:x=y:=by
    have hx:x∈y :: b:=h.mem_iff.1 (by simp);have hy:y∈x :: a:=h.mem_iff.2 (by simp);rcases List.mem_cons.1 hx with hx|hx
    ·exact hx
    ·rcases List.mem_cons.1 hy with hy|hy
     ·exact hy.symm
     ·have h1:=hb'.1 x hx;have h2:=ha'.1 y hy;unfold fX at h1 h2;rw[nS]at h1
      omega
   subst e;rw[ih b ha'.2 hb'.2 (List.perm_cons x |>.1 h)]
theorem rB {V:ByteArray→ByteArray→Option ByteArray}{l a b:List AT}(h1:gV V l a)(h2:gV V l b):a=b :=
 aCJ a b h1.2 h2.2 (h1.1.trans h2.1.symm)
theorem aIj (V:ByteArray→ByteArray→Option ByteArray):∀(l:List AT) (sn:List ByteArray),∀x∈cW V sn l,x.1∉sn:=by
 intro l;induction l with
 | nil=>intro sn x h;simp[cW]at h
 | cons y l ih =>
  intro sn x h;unfold cW at h;split at h
  ·exact ih sn x h
  ·rename_i hn;rcases List.mem_append.1 h with h|h
   ·cases hv:V y.1 y.2 with
    | none=>rw[hv]at h;simp at h
    | some t =>
     rw[hv]at h
     simp only[List.mem_singleton]at h;subst h;exact fun hm=>hn ((containsS_iff _ _).2 hm)
   ·exact fun hm=>ih _ x h (by simp[hm])
theorem yN (V:ByteArray→ByteArray→Option ByteArray):∀(l:List AT) (sn:List ByteArray),(cW V sn l).Pairwise fun x y=>x.1≠y.1:=by
 intro l;induction l with
 | nil=>intro sn;exact List.Pairwise.nil
 | cons y l ih =>
  intro sn;unfold cW;split
  ·exact ih sn
  ·cases hv:V y.1 y.2 with
   | none=>exact ih _
   | some t =>
    refine List.pairwise_cons.2 ⟨fun x hx=>?_,ih _⟩;have:=aIj V l _ x hx;simp only[List.mem_append,List.mem_singleton,not_or]at this;exact fun e=>this.2 e.symm
theorem aB3 (V:ByteArray→ByteArray→Option ByteArray):∀(l:List AT) (sn:List ByteArray),(cW V sn l).length≤l.length:=by
 intro l;induction l with
 | nil=>intro sn;exact Nat.le_refl _
 | cons y l ih =>
  intro sn;unfold cW;split
  ·have:=ih sn;simp;omega
  ·have:=ih (sn++[y.1]);cases V y.1 y.2<;>simp<;>omega
theorem aGj (V:ByteArray→ByteArray→Option ByteArray):∀(l:List AT) (sn:List ByteArray),(∀x∈l,V x.1 x.2=some x.2)→(∀x∈l,x.1∉sn)→(l.Pairwise fun x y=>x.1≠y.1)→cW V sn l=l:=by
 intro l;induction l with
 | nil=>intro sn _ _ _;rfl
 | cons y l ih =>
  intro sn hv hs hp;have hp':=List.pairwise_cons.1 hp;unfold cW;rw[if_neg (fun h=>hs y (by simp) ((containsS_iff _ _).1 h)),hv y (by simp)];rw[ih (sn++[y.1]) (fun x hx=>hv x (by simp[hx])) (fun x hx=>?_) hp'.2]
  ·rfl
  ·simp only[List.mem_append,List.mem_singleton,not_or];exact⟨hs x (by simp[hx]),fun e=>hp'.1 x hx e.symm⟩
theorem aAt (V:ByteArray→ByteArray→Option ByteArray):∀(l:List AT) (sn:List ByteArray),∀x∈cW V sn l,∃v,(x.1,v)∈l∧V x.1 v=some x.2:=by
 intro l;induction l with
 | nil=>intro sn x h;simp[cW]at h
 | cons y l ih =>
  intro sn x h;unfold cW at h;split at h
  ·obtain⟨v,h1,h2⟩:=ih sn x h;exact⟨v,by simp[h1],h2⟩
  ·rcases List.mem_append.1 h with h|h
   ·cases hv:V y.1 y.2 with
    | none=>rw[hv]at h;simp at h
    | some t =>
     rw[hv]at h
     simp only[List.mem_singleton]at h;subst h;exact⟨y.2,by simp,hv⟩
   ·obtain⟨v,h1,h2⟩:=ih _ x h;exact⟨v,by simp[h1],h2⟩
theorem aIy {r:List AT}(h:qZ r):r.Pairwise fun x y=>x.1≠y.1 :=
 h.imp fun {x y} hxy e=>by
  unfold fX at hxy;rw[e,aFm]at hxy
  omega
theorem aEH {V:ByteArray→ByteArray→Option ByteArray}{l r:List AT}(hV:∀n v t,V n v=some t→V n t=some t)(h:gV V l r):gV V r r:=by
 refine⟨?_,h.2⟩;rw[aGj V r [] (fun x hx=>?_) (fun x _=>by simp) (aIy h.2)];obtain⟨v,_,h2⟩:=aAt V l [] x (h.1.mem_iff.1 hx);exact hV _ _ _ h2
theorem aGY {d:Array AT}(hs:SortedIn (ltOf fX) 0 d.size d)(hn:d.toList.Pairwise fun x y=>x.1≠y.1):qZ d.toList:=by
 unfold qZ;rw[List.pairwise_iff_getElem]at hn ⊢
 intro i j hi hj hij;have h1:=hn i j hi hj hij;have hi':i<d.size:=by simpa using hi
 have hj':j<d.size:=by simpa using hj
 have h2:=hs i j (Nat.zero_le _) hij hj';unfold ltOf at h2;simp only[decide_eq_false_iff_not,Int.not_lt]at h2;rw[getElem!_pos d j hj',getElem!_pos d i hi']at h2
 have e1:d.toList[i]=d[i]:=by simp
 have e2:d.toList[j]=d[j]:=by simp
 rw[e1,e2]at h1 ⊢
 unfold fX at h2 ⊢;rw[nS]at h2
 rcases Int.lt_or_eq_of_le (by omega:compareBytes (d[i]).1.data.toList (d[j]).1.data.toList≤0)with h|h
 ·exact h
 ·exfalso;apply h1;have:=xP _ _ h;cases hx:(d[i]).1;cases hy:(d[j]).1;rw[hx,hy]at this
  simpa using this
open Go.RowKit
abbrev cX:=ByteArray→List AT→List AT
def aV (t:ByteArray):Nd:=.mk 2 0 ⟨#[]⟩ [] t []
def Nd.more (n:Nd)(t:ByteArray):Nd:=.mk n.kind n.space n.name n.attrs (n.text++t) n.kids
def dR (out:List Nd)(t:ByteArray):List Nd :=
 match out.getLast? with
 | none=>out++[aV t]
 | some x=>if x.kind=2 then out.dropLast++[x.more t]else out++[aV t]
def lY (pn:ByteArray)(out:List Nd)(s:ByteArray):List Nd :=
 if bT s=⟨#[]⟩∨jI pn.data.toList=false then out else dR out (bT s)
def qR (pn:ByteArray)(ph:List ByteArray)(out:List Nd)(nm:ByteArray):Bool :=
 rW pn.data.toList nm.data.toList&&(if bO nm.data.toList=4 then !Lib.containsS ph nm else if bO nm.data.toList=10 then decide (out=[])else true)
def mW (nm:ByteArray)(ph:List ByteArray):List ByteArray:=if bO nm.data.toList=4 then ph++[nm]else ph
def sG (nm:ByteArray):Prop:=bO nm.data.toList=5∨bO nm.data.toList=6
instance (nm:ByteArray):Decidable (sG nm):=by unfold sG;exact inferInstance
mutual
def eN (A:cX):ByteArray→List ByteArray→List Nd→Nd→List Nd
 | pn,ph,out,.mk kd sp nm at' tx ks =>
  if kd=2 then lY pn out tx
  else if kd≠1∨sp≠0∨bO nm.data.toList=1 then out
  else if qR pn ph out nm=true then out++[.mk 1 0 nm (A nm at') ⟨#[]⟩ (if sG nm then []else bN A nm (mW nm ph) [] ks)]
  else bN A pn ph out ks
def bN (A:cX):ByteArray→List ByteArray→List Nd→List Nd→List Nd
 | _,_,out,[]=>out
 | pn,ph,out,n :: ns=>bN A pn ph (eN A pn ph out n) ns
end
def aP (A:cX)(pn:ByteArray)(ph:List ByteArray)(l:List Nd):List Nd:=if sG pn then []else bN A pn (mW pn ph) [] l
theorem kO (A:cX)(pn:ByteArray)(ph:List ByteArray)(out:List Nd)(n:Nd):eN A pn ph out n =
  if n.kind=2 then lY pn out n.text
  else if n.kind≠1∨n.space≠0∨bO n.name.data.toList=1 then out
  else if qR pn ph out n.name=true then out++[.mk 1 0 n.name (A n.name n.attrs) ⟨#[]⟩ (aP A n.name ph n.kids)]
  else bN A pn ph out n.kids:=by
 cases n;conv=>lhs;unfold eN
 rfl
theorem fY (A:cX)(pn:ByteArray)(ph:List ByteArray)(out:List Nd):bN A pn ph out []=out:=by unfold bN;rfl
theorem fH (A:cX)(pn:ByteArray)(ph:List ByteArray)(out:List Nd)(n:Nd)(ns:List Nd):bN A pn ph out (n :: ns)=bN A pn ph (eN A pn ph out n) ns:=by
 conv=>lhs;unfold bN
theorem aCC (A:cX)(pn:ByteArray)(ph:List ByteArray):∀(a b out:List Nd),bN A pn ph out (a++b)=bN A pn ph (bN A pn ph out a) b:=by
 intro a;induction a with
 | nil=>intro b out;rw[List.nil_append,fY]
 | cons n a ih=>intro b out;rw[List.cons_append,fH,fH,ih]
theorem iO (out:List Nd)(x:Nd)(t:ByteArray):dR (out++[x]) t=if x.kind=2 then out++[x.more t]else out++[x]++[aV t]:=by
 unfold dR;rw[List.getLast?_append];simp
def elN (nm:ByteArray)(ks:List Nd):Nd:=.mk 1 0 nm [] ⟨#[]⟩ ks
mutual
def aOb (f:List UInt8→List UInt8):Nd→List UInt8
 | .mk kd _ _ _ tx ks=>(if kd=2 then f tx.data.toList else [])++aHh f ks
def aHh (f:List UInt8→List UInt8):List Nd→List UInt8
 | []=>[]
 | n :: ns=>aOb f n++aHh f ns
end
def aFJ (l:List Nd):Prop:=∀x∈l,x.kind=2→x.kids=[]
theorem aFJ.add {out:List Nd}(h:aFJ out)(t:ByteArray):aFJ (dR out t):=by
 unfold dR;have htx:(aV t).kind=2→(aV t).kids=[]:=fun _=>rfl
 split
 ·intro x hx;rcases List.mem_append.1 hx with hx|hx
  ·exact h x hx
  ·rw[List.mem_singleton.1 hx];exact htx
 ·rename_i y hy;split
  ·intro x hx;rcases List.mem_append.1 hx with hx|hx
   ·exact h x (List.dropLast_subset _ hx)
   ·rw[List.mem_singleton.1 hx];exact h y (List.mem_of_getLast? hy)
  ·intro x hx;rcases List.mem_append.1 hx with hx|hx
   ·exact h x hx
   ·rw[List.mem_singleton.1 hx];exact htx
open Go.RowKit
structure gN (s:ByteArray) (k n:Nat) (a:Act):Prop where
 size:a.tmps.size=n
 word:a.tmps[k]?=some (.string s)
 defers:a.defers=[]
theorem gN.put {s:ByteArray}{k n:Nat}{a:Act}(h:gN s k n a)(t:Nat)(v:Value)(ht:t≠k):gN s k n (a.put (some t) v) :=
 ⟨by simp[Act.put,h.size],by simp[Act.put,ht,h.word],h.defers⟩
theorem gN.eval {s:ByteArray}{k n:Nat}{a:Act}(h:gN s k n a):a.eval (.tmp k)=.string s:=by
 simp[Act.eval,Array.getD_eq_getD_getElem?,h.word]
theorem qV {a:Act}{t:Nat}{v:Value}(h:t<a.tmps.size):(a.put (some t) v).eval (.tmp t)=v:=by
 simp[Act.eval,Act.put,Array.getD_eq_getD_getElem?,h]
theorem aJM {P:Program}{Q:Exit→Act→World→Prop}{w:World}(T B:TypeId)(s c:ByteArray)(k n ta tc:Nat)(hta:ta≠k)(htc:tc≠k)(hna:ta<n)(hnc:tc<n)
  {rid:Nat} {p1 p2:String} {f1 f2:Array Edge} {a:Act} (hC:gN s k n a)
  (h:∀a',gN s k n a'→a'.eval (.tmp tc)=.bool (s.toList==c.toList)→Q .normal a' w) :
  (Code.region rid #[{ dst:=some ta,op:=Op.binOp BinOp.eql T (Operand.tmp k) (Operand.const (Value.string c)) T,type:=B,pos:=p1,after:=f1,guard:=none },
   { dst:=some tc,op:=Op.assign (Operand.tmp ta),type:=B,pos:=p2,after:=f2,guard:=none }] false).wp P Q a w:=by
 have h1:=hC.put ta (.bool (s.toList==c.toList)) hta;have e1:=qV (a:=a) (t:=ta) (v:=.bool (s.toList==c.toList)) (by rw[hC.size];exact hna);have h2:=h1.put tc (.bool (s.toList==c.toList)) htc;have e2:=qV (a:=a.put (some ta) (.bool (s.toList==c.toList))) (t:=tc) (v:=.bool (s.toList==c.toList)) (by rw[h1.size];exact hnc);have ev:=hC.eval;have ec:a.eval (.const (.string c))=.string c:=rfl;refine wp_region_lit (l:=[_,_]) ?_;refine wpList_plain rfl fun K hK=>?_
 have hx:=hK _ _ (wpList_plain (P:=P) (w:=w) (rest:=[]) (o:={ dst:=some tc,op:=Op.assign (Operand.tmp ta),type:=B,pos:=p2,after:=f2,guard:=none }) (a:=a.put (some ta) (.bool (s.toList==c.toList))) rfl fun K2 hK2=>by
  have:=hK2 _ _ (wpList_nil (h _ h2 e2));unfold Oper.wp;simp[execOp,e1,Oper.upon];exact this)
 unfold Oper.wp;simp[execOp,eqGuard,ev,ec,binOp_string_eql,Oper.upon];exact hx
theorem zR {P:Program}{Q:Exit→Act→World→Prop}{w:World}(T:TypeId)(s c:ByteArray)(k n:Nat)(hne:(s.toList==c.toList)=false)
  {B:TypeId} {ta tc:Nat} {rid:Nat} {p1 p2:String} {f1 f2:Array Edge} {a:Act} (hC:gN s k n a) (hta:(ta !=k&&tc !=k&&decide (ta<n)&&decide (tc<n))=true)
  (h:∀a',gN s k n a'→a'.eval (.tmp tc)=.bool false→Q .normal a' w) :
  (Code.region rid #[{ dst:=some ta,op:=Op.binOp BinOp.eql T (Operand.tmp k) (Operand.const (Value.string c)) T,type:=B,pos:=p1,after:=f1,guard:=none },
   { dst:=some tc,op:=Op.assign (Operand.tmp ta),type:=B,pos:=p2,after:=f2,guard:=none }] false).wp P Q a w:=by
 simp only[Bool.and_eq_true,bne_iff_ne,ne_eq,decide_eq_true_eq]at hta;exact aJM T B s c k n ta tc hta.1.1.1 hta.1.1.2 hta.1.2 hta.2 hC fun a' h1 h2=>h a' h1 (by rw[h2,hne])
theorem yK {P:Program}{Q:Exit→Act→World→Prop}{w:World}{s:ByteArray}{k n:Nat}{B:TypeId}{t:Nat}{v:Value}{rid:Nat}{p1:String}{f1:Array Edge}{a:Act}(hC:gN s k n a)(ht:(t !=k&&decide (t<n))=true)
  (h:∀a',gN s k n a'→a'.eval (.tmp t)=v→Q .normal a' w) :
  (Code.region rid #[{ dst:=some t,op:=Op.assign (Operand.const v),type:=B,pos:=p1,after:=f1,guard:=none }] false).wp P Q a w:=by
 simp only[Bool.and_eq_true,bne_iff_ne,ne_eq,decide_eq_true_eq]at ht;have h1:=hC.put t v ht.1;have e1:=qV (a:=a) (t:=t) (v:=v) (by rw[hC.size];exact ht.2);have ec:a.eval (.const v)=v:=rfl;refine wp_region_lit (l:=[_]) ?_;refine wpList_plain rfl fun K hK=>?_
 have hx:=hK _ _ (wpList_nil (h _ h1 e1));unfold Oper.wp;simp[execOp,ec,Oper.upon];exact hx
theorem aGk {P:Program}{Q:Exit→Act→World→Prop}{w:World}{s:ByteArray}{k n:Nat}{B:TypeId}{t:Nat}{rid:Nat}{p1:String}{f1:Array Edge}{a:Act}(hC:gN s k n a)(ht:decide (t<n)=true)
  (h:∀a',gN s t n a'→Q .normal a' w) :
  (Code.region rid #[{ dst:=some t,op:=Op.move (Operand.tmp k),type:=B,pos:=p1,after:=f1,guard:=none }] false).wp P Q a w:=by
 simp only[decide_eq_true_eq]at ht;have ev:=hC.eval;have h1:gN s t n (a.put (some t) (.string s)):=⟨by simp[Act.put,hC.size],by simp[Act.put,hC.size,ht],hC.defers⟩
 refine wp_region_lit (l:=[_]) ?_;refine wpList_plain rfl fun K hK=>?_
 have hx:=hK _ _ (wpList_nil (h _ h1));unfold Oper.wp;simp[execOp,ev,Oper.upon];exact hx
theorem lV {next:Act→World→Prop}{Q:Exit→Act→World→Prop}{a:Act}{w:World}(h:next a w):Exit.then next Q .normal a w:=h
theorem wF {id:Nat}{Q:Exit→Act→World→Prop}{a:Act}{w:World}(h:Q .normal a w):Exit.inBlock id Q .normal a w:=h
theorem aET (s:ByteArray)(m:Nat):gN s 0 (m+1) { tmps:=#[Value.string s]++Array.replicate m undef,defers:=[] } :=
 ⟨by simp;omega,by rw[Array.getElem?_append_left (by simp)];rfl,rfl⟩
open Go.RowKit
theorem aDC (bs:ByteArray):∀(k i:Nat) (r:List UInt8),bs.size-i=k→ByteArray.toList.loop bs i r=r.reverse++bs.data.toList.drop i:=by
 intro k;induction k with
 | zero =>
  intro i r h;rw[ByteArray.toList.loop,if_neg (by omega)];have hs:bs.data.toList.length=bs.size:=by simp
  rw[List.drop_eq_nil_of_le (by omega),List.append_nil]
 | succ k ih =>
  intro i r h;have hs:bs.data.toList.length=bs.size:=by simp
  rw[ByteArray.toList.loop,if_pos (by omega),ih _ _ (by omega)];rw[List.drop_eq_getElem_cons (i:=i) (by omega)];have e:bs.get! i=bs.data.toList[i]'(by omega):=by
   unfold ByteArray.get!;have:i<bs.data.size:=by simpa using (by omega:i<bs.size)
   exact getElem!_pos bs.data i this
  rw[e];simp
theorem toList_data (bs:ByteArray):bs.toList=bs.data.toList:=by
 unfold ByteArray.toList;rw[aDC bs _ 0 [] rfl];simp
theorem aMB (w:World):Calls Tryz.prog 24 #[.string { data:=#[98,111,100,121] }] w fun e w'=>e=.returned (.int .i64 14)∧w=w':=by
 go_enter Tryz.func24,Tryz.ntmps24
 go_wp2
 go_ret;exact⟨rfl,rfl⟩
theorem aLW (w:World):Calls Tryz.prog 24 #[.string { data:=#[100,105,118] }] w fun e w'=>e=.returned (.int .i64 2)∧w=w':=by
 go_enter Tryz.func24,Tryz.ntmps24
 go_wp2
 go_ret;exact⟨rfl,rfl⟩
theorem aM5 (w:World):Calls Tryz.prog 24 #[.string { data:=#[98,108,111,99,107,113,117,111,116,101] }] w fun e w'=>e=.returned (.int .i64 2)∧w=w':=by
 go_enter Tryz.func24,Tryz.ntmps24
 go_wp2
 go_ret;exact⟨rfl,rfl⟩
theorem aL3 (w:World):Calls Tryz.prog 24 #[.string { data:=#[112] }] w fun e w'=>e=.returned (.int .i64 3)∧w=w':=by
 go_enter Tryz.func24,Tryz.ntmps24
 go_wp2
 go_ret;exact⟨rfl,rfl⟩
theorem aMT (w:World):Calls Tryz.prog 24 #[.string { data:=#[104,49] }] w fun e w'=>e=.returned (.int .i64 3)∧w=w':=by
 go_enter Tryz.func24,Tryz.ntmps24
 go_wp2
 go_ret;exact⟨rfl,rfl⟩
theorem aMl (w:World):Calls Tryz.prog 24 #[.string { data:=#[104,50] }] w fun e w'=>e=.returned (.int .i64 3)∧w=w':=by
 go_enter Tryz.func24,Tryz.ntmps24
 go_wp2
 go_ret;exact⟨rfl,rfl⟩
theorem aLJ (w:World):Calls Tryz.prog 24 #[.string { data:=#[104,51] }] w fun e w'=>e=.returned (.int .i64 3)∧w=w':=by
 go_enter Tryz.func24,Tryz.ntmps24
 go_wp2
 go_ret;exact⟨rfl,rfl⟩
theorem aLQ (w:World):Calls Tryz.prog 24 #[.string { data:=#[104,52] }] w fun e w'=>e=.returned (.int .i64 3)∧w=w':=by
 go_enter Tryz.func24,Tryz.ntmps24
 go_wp2
 go_ret;exact⟨rfl,rfl⟩
theorem aLM (w:World):Calls Tryz.prog 24 #[.string { data:=#[104,53] }] w fun e w'=>e=.returned (.int .i64 3)∧w=w':=by
 go_enter Tryz.func24,Tryz.ntmps24
 go_wp2
 go_ret;exact⟨rfl,rfl⟩
theorem aML (w:World):Calls Tryz.prog 24 #[.string { data:=#[104,54] }] w fun e w'=>e=.returned (.int .i64 3)∧w=w':=by
 go_enter Tryz.func24,Tryz.ntmps24
 go_wp2
 go_ret;exact⟨rfl,rfl⟩
theorem aJq (w:World):Calls Tryz.prog 24 #[.string { data:=#[112,114,101] }] w fun e w'=>e=.returned (.int .i64 3)∧w=w':=by
 go_enter Tryz.func24,Tryz.ntmps24
 go_wp2
 go_ret;exact⟨rfl,rfl⟩
theorem aLh (w:World):Calls Tryz.prog 24 #[.string { data:=#[97] }] w fun e w'=>e=.returned (.int .i64 4)∧w=w':=by
 go_enter Tryz.func24,Tryz.ntmps24
 go_wp2
 go_ret;exact⟨rfl,rfl⟩
theorem aKc (w:World):Calls Tryz.prog 24 #[.string { data:=#[98] }] w fun e w'=>e=.returned (.int .i64 4)∧w=w':=by
 go_enter Tryz.func24,Tryz.ntmps24
 go_wp2
 go_ret;exact⟨rfl,rfl⟩
theorem aKB (w:World):Calls Tryz.prog 24 #[.string { data:=#[99,111,100,101] }] w fun e w'=>e=.returned (.int .i64 4)∧w=w':=by
 go_enter Tryz.func24,Tryz.ntmps24
 go_wp2
 go_ret;exact⟨rfl,rfl⟩
theorem aJU (w:World):Calls Tryz.prog 24 #[.string { data:=#[101,109] }] w fun e w'=>e=.returned (.int .i64 4)∧w=w':=by
 go_enter Tryz.func24,Tryz.ntmps24
 go_wp2
 go_ret;exact⟨rfl,rfl⟩
theorem aI1 (w:World):Calls Tryz.prog 24 #[.string { data:=#[105] }] w fun e w'=>e=.returned (.int .i64 4)∧w=w':=by
 go_enter Tryz.func24,Tryz.ntmps24
 go_wp2
 go_ret;exact⟨rfl,rfl⟩
theorem aJy (w:World):Calls Tryz.prog 24 #[.string { data:=#[109,101,116,101,114] }] w fun e w'=>e=.returned (.int .i64 4)∧w=w':=by
 go_enter Tryz.func24,Tryz.ntmps24
 go_wp2
 go_ret;exact⟨rfl,rfl⟩
theorem aJg (w:World):Calls Tryz.prog 24 #[.string { data:=#[112,114,111,103,114,101,115,115] }] w fun e w'=>e=.returned (.int .i64 4)∧w=w':=by
 go_enter Tryz.func24,Tryz.ntmps24
 go_wp2
 go_ret;exact⟨rfl,rfl⟩
theorem aJD (w:World):Calls Tryz.prog 24 #[.string { data:=#[115] }] w fun e w'=>e=.returned (.int .i64 4)∧w=w':=by
 go_enter Tryz.func24,Tryz.ntmps24
 go_wp2
 go_ret;exact⟨rfl,rfl⟩
theorem aKK (w:World):Calls Tryz.prog 24 #[.string { data:=#[115,109,97,108,108] }] w fun e w'=>e=.returned (.int .i64 4)∧w=w':=by
 go_enter Tryz.func24,Tryz.ntmps24
 go_wp2
 go_ret;exact⟨rfl,rfl⟩
theorem aIX (w:World):Calls Tryz.prog 24 #[.string { data:=#[115,112,97,110] }] w fun e w'=>e=.returned (.int .i64 4)∧w=w':=by
 go_enter Tryz.func24,Tryz.ntmps24
 go_wp2
 go_ret;exact⟨rfl,rfl⟩
theorem aJh (w:World):Calls Tryz.prog 24 #[.string { data:=#[115,116,114,111,110,103] }] w fun e w'=>e=.returned (.int .i64 4)∧w=w':=by
 go_enter Tryz.func24,Tryz.ntmps24
 go_wp2
 go_ret;exact⟨rfl,rfl⟩
theorem aJB (w:World):Calls Tryz.prog 24 #[.string { data:=#[115,117,98] }] w fun e w'=>e=.returned (.int .i64 4)∧w=w':=by
 go_enter Tryz.func24,Tryz.ntmps24
 go_wp2
 go_ret;exact⟨rfl,rfl⟩
theorem aKC (w:World):Calls Tryz.prog 24 #[.string { data:=#[115,117,112] }] w fun e w'=>e=.returned (.int .i64 4)∧w=w':=by
 go_enter Tryz.func24,Tryz.ntmps24
 go_wp2
 go_ret;exact⟨rfl,rfl⟩
theorem aJR (w:World):Calls Tryz.prog 24 #[.string { data:=#[117] }] w fun e w'=>e=.returned (.int .i64 4)∧w=w':=by
 go_enter Tryz.func24,Tryz.ntmps24
 go_wp2
 go_ret;exact⟨rfl,rfl⟩
theorem aKw (w:World):Calls Tryz.prog 24 #[.string { data:=#[98,114] }] w fun e w'=>e=.returned (.int .i64 5)∧w=w':=by
 go_enter Tryz.func24,Tryz.ntmps24
 go_wp2
 go_ret;exact⟨rfl,rfl⟩
theorem aKf (w:World):Calls Tryz.prog 24 #[.string { data:=#[105,109,103] }] w fun e w'=>e=.returned (.int .i64 5)∧w=w':=by
 go_enter Tryz.func24,Tryz.ntmps24
 go_wp2
 go_ret;exact⟨rfl,rfl⟩
theorem aKW (w:World):Calls Tryz.prog 24 #[.string { data:=#[104,114] }] w fun e w'=>e=.returned (.int .i64 6)∧w=w':=by
 go_enter Tryz.func24,Tryz.ntmps24
 go_wp2
 go_ret;exact⟨rfl,rfl⟩
theorem aJm (w:World):Calls Tryz.prog 24 #[.string { data:=#[111,108] }] w fun e w'=>e=.returned (.int .i64 7)∧w=w':=by
 go_enter Tryz.func24,Tryz.ntmps24
 go_wp2
 go_ret;exact⟨rfl,rfl⟩
theorem aJn (w:World):Calls Tryz.prog 24 #[.string { data:=#[117,108] }] w fun e w'=>e=.returned (.int .i64 7)∧w=w':=by
 go_enter Tryz.func24,Tryz.ntmps24
 go_wp2
 go_ret;exact⟨rfl,rfl⟩
theorem aJs (w:World):Calls Tryz.prog 24 #[.string { data:=#[108,105] }] w fun e w'=>e=.returned (.int .i64 8)∧w=w':=by
 go_enter Tryz.func24,Tryz.ntmps24
 go_wp2
 go_ret;exact⟨rfl,rfl⟩
theorem aJP (w:World):Calls Tryz.prog 24 #[.string { data:=#[116,97,98,108,101] }] w fun e w'=>e=.returned (.int .i64 9)∧w=w':=by
 go_enter Tryz.func24,Tryz.ntmps24
 go_wp2
 go_ret;exact⟨rfl,rfl⟩
theorem aKd (w:World):Calls Tryz.prog 24 #[.string { data:=#[99,97,112,116,105,111,110] }] w fun e w'=>e=.returned (.int .i64 10)∧w=w':=by
 go_enter Tryz.func24,Tryz.ntmps24
 go_wp2
 go_ret;exact⟨rfl,rfl⟩
theorem aKq (w:World):Calls Tryz.prog 24 #[.string { data:=#[116,98,111,100,121] }] w fun e w'=>e=.returned (.int .i64 11)∧w=w':=by
 go_enter Tryz.func24,Tryz.ntmps24
 go_wp2
 go_ret;exact⟨rfl,rfl⟩
theorem aJc (w:World):Calls Tryz.prog 24 #[.string { data:=#[116,102,111,111,116] }] w fun e w'=>e=.returned (.int .i64 11)∧w=w':=by
 go_enter Tryz.func24,Tryz.ntmps24
 go_wp2
 go_ret;exact⟨rfl,rfl⟩
theorem aIU (w:World):Calls Tryz.prog 24 #[.string { data:=#[116,104,101,97,100] }] w fun e w'=>e=.returned (.int .i64 11)∧w=w':=by
 go_enter Tryz.func24,Tryz.ntmps24
 go_wp2
 go_ret;exact⟨rfl,rfl⟩
theorem aJ6 (w:World):Calls Tryz.prog 24 #[.string { data:=#[116,114] }] w fun e w'=>e=.returned (.int .i64 12)∧w=w':=by
 go_enter Tryz.func24,Tryz.ntmps24
 go_wp2
 go_ret;exact⟨rfl,rfl⟩
theorem aLj (w:World):Calls Tryz.prog 24 #[.string { data:=#[116,100] }] w fun e w'=>e=.returned (.int .i64 13)∧w=w':=by
 go_enter Tryz.func24,Tryz.ntmps24
 go_wp2
 go_ret;exact⟨rfl,rfl⟩
theorem aKx (w:World):Calls Tryz.prog 24 #[.string { data:=#[116,104] }] w fun e w'=>e=.returned (.int .i64 13)∧w=w':=by
 go_enter Tryz.func24,Tryz.ntmps24
 go_wp2
 go_ret;exact⟨rfl,rfl⟩
theorem aKo (w:World):Calls Tryz.prog 24 #[.string { data:=#[97,112,112,108,101,116] }] w fun e w'=>e=.returned (.int .i64 1)∧w=w':=by
 go_enter Tryz.func24,Tryz.ntmps24
 go_wp2
 go_ret;exact⟨rfl,rfl⟩
theorem aKG (w:World):Calls Tryz.prog 24 #[.string { data:=#[97,117,100,105,111] }] w fun e w'=>e=.returned (.int .i64 1)∧w=w':=by
 go_enter Tryz.func24,Tryz.ntmps24
 go_wp2
 go_ret;exact⟨rfl,rfl⟩
theorem aKR (w:World):Calls Tryz.prog 24 #[.string { data:=#[98,97,115,101] }] w fun e w'=>e=.returned (.int .i64 1)∧w=w':=by
 go_enter Tryz.func24,Tryz.ntmps24
 go_wp2
 go_ret;exact⟨rfl,rfl⟩
theorem aKA (w:World):Calls Tryz.prog 24 #[.string { data:=#[98,117,116,116,111,110] }] w fun e w'=>e=.returned (.int .i64 1)∧w=w':=by
 go_enter Tryz.func24,Tryz.ntmps24
 go_wp2
 go_ret;exact⟨rfl,rfl⟩
theorem aJa (w:World):Calls Tryz.prog 24 #[.string { data:=#[99,97,110,118,97,115] }] w fun e w'=>e=.returned (.int .i64 1)∧w=w':=by
 go_enter Tryz.func24,Tryz.ntmps24
 go_wp2
 go_ret;exact⟨rfl,rfl⟩
theorem aJw (w:World):Calls Tryz.prog 24 #[.string { data:=#[101,109,98,101,100] }] w fun e w'=>e=.returned (.int .i64 1)∧w=w':=by
 go_enter Tryz.func24,Tryz.ntmps24
 go_wp2
 go_ret;exact⟨rfl,rfl⟩
theorem aJQ (w:World):Calls Tryz.prog 24 #[.string { data:=#[102,114,97,109,101] }] w fun e w'=>e=.returned (.int .i64 1)∧w=w':=by
 go_enter Tryz.func24,Tryz.ntmps24
 go_wp2
 go_ret;exact⟨rfl,rfl⟩
theorem aKM (w:World):Calls Tryz.prog 24 #[.string { data:=#[102,114,97,109,101,115,101,116] }] w fun e w'=>e=.returned (.int .i64 1)∧w=w':=by
 go_enter Tryz.func24,Tryz.ntmps24
 go_wp2
 go_ret;exact⟨rfl,rfl⟩
theorem aKe (w:World):Calls Tryz.prog 24 #[.string { data:=#[104,101,97,100] }] w fun e w'=>e=.returned (.int .i64 1)∧w=w':=by
 go_enter Tryz.func24,Tryz.ntmps24
 go_wp2
 go_ret;exact⟨rfl,rfl⟩
theorem aKD (w:World):Calls Tryz.prog 24 #[.string { data:=#[105,102,114,97,109,101] }] w fun e w'=>e=.returned (.int .i64 1)∧w=w':=by
 go_enter Tryz.func24,Tryz.ntmps24
 go_wp2
 go_ret;exact⟨rfl,rfl⟩
theorem aKT (w:World):Calls Tryz.prog 24 #[.string { data:=#[105,110,112,117,116] }] w fun e w'=>e=.returned (.int .i64 1)∧w=w':=by
 go_enter Tryz.func24,Tryz.ntmps24
 go_wp2
 go_ret;exact⟨rfl,rfl⟩
theorem aI0 (w:World):Calls Tryz.prog 24 #[.string { data:=#[108,105,110,107] }] w fun e w'=>e=.returned (.int .i64 1)∧w=w':=by
 go_enter Tryz.func24,Tryz.ntmps24
 go_wp2
 go_ret;exact⟨rfl,rfl⟩
theorem aKl (w:World):Calls Tryz.prog 24 #[.string { data:=#[109,101,116,97] }] w fun e w'=>e=.returned (.int .i64 1)∧w=w':=by
 go_enter Tryz.func24,Tryz.ntmps24
 go_wp2
 go_ret;exact⟨rfl,rfl⟩
theorem aJ4 (w:World):Calls Tryz.prog 24 #[.string { data:=#[110,111,101,109,98,101,100] }] w fun e w'=>e=.returned (.int .i64 1)∧w=w':=by
 go_enter Tryz.func24,Tryz.ntmps24
 go_wp2
 go_ret;exact⟨rfl,rfl⟩
theorem aJJ (w:World):Calls Tryz.prog 24 #[.string { data:=#[110,111,102,114,97,109,101,115] }] w fun e w'=>e=.returned (.int .i64 1)∧w=w':=by
 go_enter Tryz.func24,Tryz.ntmps24
 go_wp2
 go_ret;exact⟨rfl,rfl⟩
theorem aJ1 (w:World):Calls Tryz.prog 24 #[.string { data:=#[111,98,106,101,99,116] }] w fun e w'=>e=.returned (.int .i64 1)∧w=w':=by
 go_enter Tryz.func24,Tryz.ntmps24
 go_wp2
 go_ret;exact⟨rfl,rfl⟩
theorem aJz (w:World):Calls Tryz.prog 24 #[.string { data:=#[111,112,116,105,111,110] }] w fun e w'=>e=.returned (.int .i64 1)∧w=w':=by
 go_enter Tryz.func24,Tryz.ntmps24
 go_wp2
 go_ret;exact⟨rfl,rfl⟩
theorem aKJ (w:World):Calls Tryz.prog 24 #[.string { data:=#[112,97,114,97,109] }] w fun e w'=>e=.returned (.int .i64 1)∧w=w':=by
 go_enter Tryz.func24,Tryz.ntmps24
 go_wp2
 go_ret;exact⟨rfl,rfl⟩
theorem aJk (w:World):Calls Tryz.prog 24 #[.string { data:=#[115,99,114,105,112,116] }] w fun e w'=>e=.returned (.int .i64 1)∧w=w':=by
 go_enter Tryz.func24,Tryz.ntmps24
 go_wp2
 go_ret;exact⟨rfl,rfl⟩
theorem aI9 (w:World):Calls Tryz.prog 24 #[.string { data:=#[115,101,108,101,99,116] }] w fun e w'=>e=.returned (.int .i64 1)∧w=w':=by
 go_enter Tryz.func24,Tryz.ntmps24
 go_wp2
 go_ret;exact⟨rfl,rfl⟩
theorem aIS (w:World):Calls Tryz.prog 24 #[.string { data:=#[115,116,121,108,101] }] w fun e w'=>e=.returned (.int .i64 1)∧w=w':=by
 go_enter Tryz.func24,Tryz.ntmps24
 go_wp2
 go_ret;exact⟨rfl,rfl⟩
theorem aIV (w:World):Calls Tryz.prog 24 #[.string { data:=#[116,101,109,112,108,97,116,101] }] w fun e w'=>e=.returned (.int .i64 1)∧w=w':=by
 go_enter Tryz.func24,Tryz.ntmps24
 go_wp2
 go_ret;exact⟨rfl,rfl⟩
theorem aJZ (w:World):Calls Tryz.prog 24 #[.string { data:=#[116,101,120,116,97,114,101,97] }] w fun e w'=>e=.returned (.int .i64 1)∧w=w':=by
 go_enter Tryz.func24,Tryz.ntmps24
 go_wp2
 go_ret;exact⟨rfl,rfl⟩
theorem aKi (w:World):Calls Tryz.prog 24 #[.string { data:=#[116,105,116,108,101] }] w fun e w'=>e=.returned (.int .i64 1)∧w=w':=by
 go_enter Tryz.func24,Tryz.ntmps24
 go_wp2
 go_ret;exact⟨rfl,rfl⟩
theorem aKr (w:World):Calls Tryz.prog 24 #[.string { data:=#[118,105,100,101,111] }] w fun e w'=>e=.returned (.int .i64 1)∧w=w':=by
 go_enter Tryz.func24,Tryz.ntmps24
 go_wp2
 go_ret;exact⟨rfl,rfl⟩
theorem aLf (w:World):Calls Tryz.prog 24 #[.string { data:=#[120,109,112] }] w fun e w'=>e=.returned (.int .i64 1)∧w=w':=by
 go_enter Tryz.func24,Tryz.ntmps24
 go_wp2
 go_ret;exact⟨rfl,rfl⟩
open Go.RowKit
theorem aEy {P:Program}{fn:Func}{t:Nat}{tmps:Array Value}{v:Value}(w:World)(h:fn.results=#[.tmp t])(hv:tmps.getD t undef=v):(results fn tmps).run P w=.ok v w:=by
 unfold results;rw[h];rw[Array.getD_eq_getD_getElem?]at hv
 simp[hv]
theorem aIi (s:ByteArray)(hN:∀l:List UInt8,(gR.map (·.1)).contains l=true→(s.toList==(⟨l.toArray⟩:ByteArray).toList)=false)(w:World):Calls Tryz.prog 24 #[.string s] w fun e w'=>e=.returned (.int .i64 0)∧w=w':=by
 refine calls_of_wp Tryz.func24 rfl ?_;have hC:gN s 0 83 { tmps:=#[.string s]++Array.replicate (Tryz.f24.ntmps-(#[Value.string s]).size) undef,defers:=[] }:=aET s 82;refine wp_seq (yK hC rfl ?_);clear hC;intro a hC _;refine wp_seq (wp_seq (aGk hC rfl ?_));clear hC;intro a hC;refine lV (wp_block ?_);repeat' (first
  | (refine zR 9 s _ 3 83 (hN _ (by decide +kernel)) hC rfl ?_;clear hC;intro a hC hb)
  | (with_reducible refine lV ?_)
  | (with_reducible refine wF ?_)
  | (with_reducible refine wp_cond_false hb ?_)
  | (with_reducible refine wp_seq ?_)
  | (with_reducible refine wp_skip ?_))
 refine yK hC rfl ?_;clear hC hb;intro a hC he;refine lV (wp_ret ?_);exact⟨hC.defers,.int .i64 0,aEy w rfl he,rfl,rfl⟩
theorem aKU (w:World):∀p∈gR,Calls Tryz.prog 24 #[.string ⟨p.1.toArray⟩] w fun e w'=>e=.returned (.int .i64 (p.2:Nat))∧w=w' :=
 List.forall_mem_cons.2 ⟨aMB w,List.forall_mem_cons.2 ⟨aLW w,List.forall_mem_cons.2 ⟨aM5 w,List.forall_mem_cons.2 ⟨aL3 w,List.forall_mem_cons.2 ⟨aMT w,List.forall_mem_cons.2 ⟨aMl w,List.forall_mem_cons.2 ⟨aLJ w,List.forall_mem_cons.2 ⟨aLQ w,List.forall_mem_cons.2 ⟨aLM w,List.forall_mem_cons.2 ⟨aML w,List.forall_mem_cons.2 ⟨aJq w,List.forall_mem_cons.2 ⟨aLh w,List.forall_mem_cons.2 ⟨aKc w,List.forall_mem_cons.2 ⟨aKB w,List.forall_mem_cons.2 ⟨aJU w,List.forall_mem_cons.2 ⟨aI1 w,List.forall_mem_cons.2 ⟨aJy w,List.forall_mem_cons.2 ⟨aJg w,List.forall_mem_cons.2 ⟨aJD w,List.forall_mem_cons.2 ⟨aKK w,List.forall_mem_cons.2 ⟨aIX w,List.forall_mem_cons.2 ⟨aJh w,List.forall_mem_cons.2 ⟨aJB w,List.forall_mem_cons.2 ⟨aKC w,List.forall_mem_cons.2 ⟨aJR w,List.forall_mem_cons.2 ⟨aKw w,List.forall_mem_cons.2 ⟨aKf w,List.forall_mem_cons.2 ⟨aKW w,List.forall_mem_cons.2 ⟨aJm w,List.forall_mem_cons.2 ⟨aJn w,List.forall_mem_cons.2 ⟨aJs w,List.forall_mem_cons.2 ⟨aJP w,List.forall_mem_cons.2 ⟨aKd w,List.forall_mem_cons.2 ⟨aKq w,List.forall_mem_cons.2 ⟨aJc w,List.forall_mem_cons.2 ⟨aIU w,List.forall_mem_cons.2 ⟨aJ6 w,List.forall_mem_cons.2 ⟨aLj w,List.forall_mem_cons.2 ⟨aKx w,List.forall_mem_cons.2 ⟨aKo w,List.forall_mem_cons.2 ⟨aKG w,List.forall_mem_cons.2 ⟨aKR w,List.forall_mem_cons.2 ⟨aKA w,List.forall_mem_cons.2 ⟨aJa w,List.forall_mem_cons.2 ⟨aJw w,List.forall_mem_cons.2 ⟨aJQ w,List.forall_mem_cons.2 ⟨aKM w,List.forall_mem_cons.2 ⟨aKe w,List.forall_mem_cons.2 ⟨aKD w,List.forall_mem_cons.2 ⟨aKT w,List.forall_mem_cons.2 ⟨aI0 w,List.forall_mem_cons.2 ⟨aKl w,List.forall_mem_cons.2 ⟨aJ4 w,List.forall_mem_cons.2 ⟨aJJ w,List.forall_mem_cons.2 ⟨aJ1 w,List.forall_mem_cons.2 ⟨aJz w,List.forall_mem_cons.2 ⟨aKJ w,List.forall_mem_cons.2 ⟨aJk w,List.forall_mem_cons.2 ⟨aI9 w,List.forall_mem_cons.2 ⟨aIS w,List.forall_mem_cons.2 ⟨aIV w,List.forall_mem_cons.2 ⟨aJZ w,List.forall_mem_cons.2 ⟨aKi w,List.forall_mem_cons.2 ⟨aKr w,List.forall_mem_cons.2 ⟨aLf w,fun _ h=>by cases h⟩⟩⟩⟩⟩⟩⟩⟩⟩⟩⟩⟩⟩⟩⟩⟩⟩⟩⟩⟩⟩⟩⟩⟩⟩⟩⟩⟩⟩⟩⟩⟩⟩⟩⟩⟩⟩⟩⟩⟩⟩⟩⟩⟩⟩⟩⟩⟩⟩⟩⟩⟩⟩⟩⟩⟩⟩⟩⟩⟩⟩⟩⟩⟩⟩
theorem nR (s:ByteArray)(w:World):Calls Tryz.prog 24 #[.string s] w fun e w'=>e=.returned (.int .i64 (bO s.data.toList:Nat))∧w=w':=by
 by_cases h:s.data.toList∈gR.map (·.1)
 ·obtain⟨p,hp,e⟩:=List.mem_map.1 h;have hk:=aKU w p hp;rw[e]at hk
  rw[←e,(yW p hp).2];exact hk
 ·rw[uL _ h];refine aIi s (fun l hl=>?_) w;rw[beq_eq_false_iff_ne];intro e;rw[toList_data,toList_data]at e
  apply h;have e2:s.data.toList=l:=e;rw[e2];simpa using hl
open Go.RowKit PU8
def cU (w:World)(g off:Nat)(L:List UInt8):Prop:=∀j (h:j<L.length),w.cell? ⟨g,off+j,none⟩=some (.int .u8 (L[j].toNat:Nat))
theorem uS (L:List UInt8)(k:Nat)(h:k<L.length):bE (L.drop k)=L[k].toNat :: bE (L.drop (k+1)):=by
 rw[List.drop_eq_getElem_cons h];rfl
theorem aGI (L:List UInt8)(k:Nat)(h:L.length≤k):bE (L.drop k)=[]:=by
 rw[List.drop_eq_nil_of_le h];rfl
def cT (L:List UInt8)(i need m:Nat)(t:Bool)(n lo hi:Nat):Prop :=
 1≤n∧n≤need+1∧i+n≤L.length∧contU (need+1-n) lo hi n (bE (L.drop (i+n)))=(m,t)
theorem cT.stop {L:List UInt8}{i need m:Nat}{t:Bool}{n lo hi:Nat}(h:cT L i need m t n lo hi)(hn:n=need+1):m=n∧t=true:=by
 obtain⟨_,_,_,h⟩:=h;rw[hn,Nat.sub_self]at h
 unfold contU at h;cases h;exact⟨hn.symm,rfl⟩
theorem cT.short {L:List UInt8}{i need m:Nat}{t:Bool}{n lo hi:Nat}(h:cT L i need m t n lo hi)(hn:n≤need)(he:i+n=L.length):m=n∧t=false:=by
 obtain⟨_,_,_,h⟩:=h;obtain⟨k,hk⟩:∃k,need+1-n=k+1:=⟨need-n,by omega⟩
 rw[hk,aGI _ _ (by omega)]at h
 unfold contU at h;cases h;exact⟨rfl,rfl⟩
theorem cT.bad {L:List UInt8}{i need m:Nat}{t:Bool}{n lo hi:Nat}(h:cT L i need m t n lo hi)(hn:n≤need)(he:i+n<L.length)(hb:L[i+n].toNat<lo∨hi<L[i+n].toNat):m=n∧t=false:=by
 obtain⟨_,_,_,h⟩:=h;obtain⟨k,hk⟩:∃k,need+1-n=k+1:=⟨need-n,by omega⟩
 rw[hk,uS _ _ he]at h
 unfold contU at h;rw[if_pos hb]at h
 cases h;exact⟨rfl,rfl⟩
theorem cT.next {L:List UInt8}{i need m:Nat}{t:Bool}{n lo hi:Nat}(h:cT L i need m t n lo hi)(hn:n≤need)(he:i+n<L.length)(hb:¬(L[i+n].toNat<lo∨hi<L[i+n].toNat)):cT L i need m t (n+1) 128 191:=by
 obtain⟨h1,_,_,h⟩:=h;obtain⟨k,hk⟩:∃k,need+1-n=k+1:=⟨need-n,by omega⟩
 rw[hk,uS _ _ he]at h
 unfold contU at h;rw[if_neg hb]at h
 refine⟨by omega,by omega,by omega,?_⟩;rw[show need+1-(n+1)=k by omega];exact h
theorem aJV (g off cap i m c:Nat)(t:Bool)(L:List UInt8)(w:World)(hB:Hid (cU w g off L))(hi:i<L.length)(hL:L.length≤140737488355328)(hc:w.cell? ⟨g,off+i,none⟩=some (.int .u8 (c:Nat)))(hcc:194≤c∧c<224)
  (hR:Hid (cT L i 1 m t 1 128 191)):Calls Tryz.prog 129 #[.slice (some ⟨g,off,none⟩) L.length cap,.int .i64 i] w fun e w'=>e=.returned (.tuple #[.int .i64 m,.bool t])∧w=w':=by
 have l128:decide ((c:Int)<128)=false:=by simp;omega
 have l194:decide ((c:Int)<194)=false:=by simp;omega
 have l224:decide ((c:Int)<224)=true:=by simp;omega
 have HCC:=hid hcc;clear hcc;go_enter Tryz.func129,Tryz.ntmps129
 go_wp2
 clear hc l128 l194 l224;go_loop [4,5,8,9,10] (fun r4 r5 l h n=>r4=.int .i64 0∧r5=.bool false∧∃n' lo hi:Nat,n=.int .i64 n'∧l=.int .u8 lo∧h=.int .u8 hi∧Hid (cT L i 1 m t n' lo hi)) (fun _ _ _ _ n=>1+1-(intOf n).toNat)
 case atStart=>exact⟨rfl,rfl,1,128,191,rfl,rfl,rfl,hR⟩
 case round =>
  obtain⟨rfl,rfl,n,lo,hi',rfl,rfl,rfl,hQ⟩:=hrel;have n1:1≤n:=hQ.out.1;have n2:n≤1+1:=hQ.out.2.1;have n3:i+n≤L.length:=hQ.out.2.2.1;rcases Nat.lt_or_ge 1 n with hn|hn
  ·have hE:=hQ.out.stop (by omega);have HE:=hid hE;clear hE;go_wp2
   go_ret2;refine⟨?_,rfl⟩;rw[HE.out.1,HE.out.2];rfl
  ·rcases Nat.lt_or_ge (i+n) L.length with hlt|hge
   ·have hcell:=hB.out (i+n) hlt;by_cases hbad:L[i+n].toNat<lo∨hi'<L[i+n].toNat
    ·have HE:=hid (hQ.out.bad hn hlt hbad);have HQ2:=hid hbad;generalize L[i+n].toNat=d at hcell hbad;have hne:((i:Int)+(n:Int)==(L.length:Int))=false:=by rw[beq_eq_false_iff_ne];omega
     rcases Nat.lt_or_ge d lo with hd|hd
     ·clear hbad HQ2;go_wp2
      go_ret2;refine⟨?_,rfl⟩;rw[HE.out.1,HE.out.2];rfl
     ·have hd2:hi'<d:=by omega
      clear hbad HQ2;go_wp2
      go_ret2;refine⟨?_,rfl⟩;rw[HE.out.1,HE.out.2];rfl
    ·have HE:=hid (hQ.out.next hn hlt hbad);generalize L[i+n].toNat=d at hcell hbad;have hne:((i:Int)+(n:Int)==(L.length:Int))=false:=by rw[beq_eq_false_iff_ne];omega
     have hd1:lo≤d:=by omega
     have hd2:d≤hi':=by omega
     clear hbad;go_wp2
     go_round
     case rel=>exact⟨rfl,rfl,n+1,128,191,by go_num,rfl,rfl,HE⟩
     case measure=>simp[intOf];omega
   ·have he:i+n=L.length:=by omega
    have HE:=hid (hQ.out.short hn he);have heq:((i:Int)+(n:Int)==(L.length:Int))=true:=by rw[beq_iff_eq];omega
    clear he;go_wp2
    go_ret2;refine⟨?_,rfl⟩;rw[HE.out.1,HE.out.2];rfl
theorem aNi (g off cap i m c:Nat)(t:Bool)(L:List UInt8)(w:World)(hB:Hid (cU w g off L))(hi:i<L.length)(hL:L.length≤140737488355328)(hc:w.cell? ⟨g,off+i,none⟩=some (.int .u8 (c:Nat)))(hcc:c=224)
  (hR:Hid (cT L i 2 m t 1 160 191)):Calls Tryz.prog 129 #[.slice (some ⟨g,off,none⟩) L.length cap,.int .i64 i] w fun e w'=>e=.returned (.tuple #[.int .i64 m,.bool t])∧w=w':=by
 have l128:decide ((c:Int)<128)=false:=by simp;omega
 have l194:decide ((c:Int)<194)=false:=by simp;omega
 have l224:decide ((c:Int)<224)=false:=by simp;omega
 have q224:((c:Int)==224)=true:=by simp;omega
 have HCC:=hid hcc;clear hcc;go_enter Tryz.func129,Tryz.ntmps129
 go_wp2
 clear hc l128 l194 l224 q224;go_loop [4,5,8,9,10] (fun r4 r5 l h n=>r4=.int .i64 0∧r5=.bool false∧∃n' lo hi:Nat,n=.int .i64 n'∧l=.int .u8 lo∧h=.int .u8 hi∧Hid (cT L i 2 m t n' lo hi)) (fun _ _ _ _ n=>2+1-(intOf n).toNat)
 case atStart=>exact⟨rfl,rfl,1,160,191,rfl,rfl,rfl,hR⟩
 case round =>
  obtain⟨rfl,rfl,n,lo,hi',rfl,rfl,rfl,hQ⟩:=hrel;have n1:1≤n:=hQ.out.1;have n2:n≤2+1:=hQ.out.2.1;have n3:i+n≤L.length:=hQ.out.2.2.1;rcases Nat.lt_or_ge 2 n with hn|hn
  ·have hE:=hQ.out.stop (by omega);have HE:=hid hE;clear hE;go_wp2
   go_ret2;refine⟨?_,rfl⟩;rw[HE.out.1,HE.out.2];rfl
  ·rcases Nat.lt_or_ge (i+n) L.length with hlt|hge
   ·have hcell:=hB.out (i+n) hlt;by_cases hbad:L[i+n].toNat<lo∨hi'<L[i+n].toNat
    ·have HE:=hid (hQ.out.bad hn hlt hbad);have HQ2:=hid hbad;generalize L[i+n].toNat=d at hcell hbad;have hne:((i:Int)+(n:Int)==(L.length:Int))=false:=by rw[beq_eq_false_iff_ne];omega
     rcases Nat.lt_or_ge d lo with hd|hd
     ·clear hbad HQ2;go_wp2
      go_ret2;refine⟨?_,rfl⟩;rw[HE.out.1,HE.out.2];rfl
     ·have hd2:hi'<d:=by omega
      clear hbad HQ2;go_wp2
      go_ret2;refine⟨?_,rfl⟩;rw[HE.out.1,HE.out.2];rfl
    ·have HE:=hid (hQ.out.next hn hlt hbad);generalize L[i+n].toNat=d at hcell hbad;have hne:((i:Int)+(n:Int)==(L.length:Int))=false:=by rw[beq_eq_false_iff_ne];omega
     have hd1:lo≤d:=by omega
     have hd2:d≤hi':=by omega
     clear hbad;go_wp2
     go_round
     case rel=>exact⟨rfl,rfl,n+1,128,191,by go_num,rfl,rfl,HE⟩
     case measure=>simp[intOf];omega
   ·have he:i+n=L.length:=by omega
    have HE:=hid (hQ.out.short hn he);have heq:((i:Int)+(n:Int)==(L.length:Int))=true:=by rw[beq_iff_eq];omega
    clear he;go_wp2
    go_ret2;refine⟨?_,rfl⟩;rw[HE.out.1,HE.out.2];rfl
theorem aMP (g off cap i m c:Nat)(t:Bool)(L:List UInt8)(w:World)(hB:Hid (cU w g off L))(hi:i<L.length)(hL:L.length≤140737488355328)(hc:w.cell? ⟨g,off+i,none⟩=some (.int .u8 (c:Nat)))(hcc:c=237)
  (hR:Hid (cT L i 2 m t 1 128 159)):Calls Tryz.prog 129 #[.slice (some ⟨g,off,none⟩) L.length cap,.int .i64 i] w fun e w'=>e=.returned (.tuple #[.int .i64 m,.bool t])∧w=w':=by
 have l128:decide ((c:Int)<128)=false:=by simp;omega
 have l194:decide ((c:Int)<194)=false:=by simp;omega
 have l224:decide ((c:Int)<224)=false:=by simp;omega
 have q224:((c:Int)==224)=false:=by simp;omega
 have q237:((c:Int)==237)=true:=by simp;omega
 have HCC:=hid hcc;clear hcc;go_enter Tryz.func129,Tryz.ntmps129
 go_wp2
 clear hc l128 l194 l224 q224 q237;go_loop [4,5,8,9,10] (fun r4 r5 l h n=>r4=.int .i64 0∧r5=.bool false∧∃n' lo hi:Nat,n=.int .i64 n'∧l=.int .u8 lo∧h=.int .u8 hi∧Hid (cT L i 2 m t n' lo hi)) (fun _ _ _ _ n=>2+1-(intOf n).toNat)
 case atStart=>exact⟨rfl,rfl,1,128,159,rfl,rfl,rfl,hR⟩
 case round =>
  obtain⟨rfl,rfl,n,lo,hi',rfl,rfl,rfl,hQ⟩:=hrel;have n1:1≤n:=hQ.out.1;have n2:n≤2+1:=hQ.out.2.1;have n3:i+n≤L.length:=hQ.out.2.2.1;rcases Nat.lt_or_ge 2 n with hn|hn
  ·have hE:=hQ.out.stop (by omega);have HE:=hid hE;clear hE;go_wp2
   go_ret2;refine⟨?_,rfl⟩;rw[HE.out.1,HE.out.2];rfl
  ·rcases Nat.lt_or_ge (i+n) L.length with hlt|hge
   ·have hcell:=hB.out (i+n) hlt;by_cases hbad:L[i+n].toNat<lo∨hi'<L[i+n].toNat
    ·have HE:=hid (hQ.out.bad hn hlt hbad);have HQ2:=hid hbad;generalize L[i+n].toNat=d at hcell hbad;have hne:((i:Int)+(n:Int)==(L.length:Int))=false:=by rw[beq_eq_false_iff_ne];omega
     rcases Nat.lt_or_ge d lo with hd|hd
     ·clear hbad HQ2;go_wp2
      go_ret2;refine⟨?_,rfl⟩;rw[HE.out.1,HE.out.2];rfl
     ·have hd2:hi'<d:=by omega
      clear hbad HQ2;go_wp2
      go_ret2;refine⟨?_,rfl⟩;rw[HE.out.1,HE.out.2];rfl
    ·have HE:=hid (hQ.out.next hn hlt hbad);generalize L[i+n].toNat=d at hcell hbad;have hne:((i:Int)+(n:Int)==(L.length:Int))=false:=by rw[beq_eq_false_iff_ne];omega
     have hd1:lo≤d:=by omega
     have hd2:d≤hi':=by omega
     clear hbad;go_wp2
     go_round
     case rel=>exact⟨rfl,rfl,n+1,128,191,by go_num,rfl,rfl,HE⟩
     case measure=>simp[intOf];omega
   ·have he:i+n=L.length:=by omega
    have HE:=hid (hQ.out.short hn he);have heq:((i:Int)+(n:Int)==(L.length:Int))=true:=by rw[beq_iff_eq];omega
    clear he;go_wp2
    go_ret2;refine⟨?_,rfl⟩;rw[HE.out.1,HE.out.2];rfl
theorem aF9 (g off cap i m c:Nat)(t:Bool)(L:List UInt8)(w:World)(hB:Hid (cU w g off L))(hi:i<L.length)(hL:L.length≤140737488355328)(hc:w.cell? ⟨g,off+i,none⟩=some (.int .u8 (c:Nat)))(hcc:225≤c∧c<240∧c≠237)
  (hR:Hid (cT L i 2 m t 1 128 191)):Calls Tryz.prog 129 #[.slice (some ⟨g,off,none⟩) L.length cap,.int .i64 i] w fun e w'=>e=.returned (.tuple #[.int .i64 m,.bool t])∧w=w':=by
 have l128:decide ((c:Int)<128)=false:=by simp;omega
 have l194:decide ((c:Int)<194)=false:=by simp;omega
 have l224:decide ((c:Int)<224)=false:=by simp;omega
 have l240:decide ((c:Int)<240)=true:=by simp;omega
 have q224:((c:Int)==224)=false:=by simp;omega
 have q237:((c:Int)==237)=false:=by simp;omega
 have HCC:=hid hcc;clear hcc;go_enter Tryz.func129,Tryz.ntmps129
 go_wp2
 clear hc l128 l194 l224 l240 q224 q237;go_loop [4,5,8,9,10] (fun r4 r5 l h n=>r4=.int .i64 0∧r5=.bool false∧∃n' lo hi:Nat,n=.int .i64 n'∧l=.int .u8 lo∧h=.int .u8 hi∧Hid (cT L i 2 m t n' lo hi)) (fun _ _ _ _ n=>2+1-(intOf n).toNat)
 case atStart=>exact⟨rfl,rfl,1,128,191,rfl,rfl,rfl,hR⟩
 case round =>
  obtain⟨rfl,rfl,n,lo,hi',rfl,rfl,rfl,hQ⟩:=hrel;have n1:1≤n:=hQ.out.1;have n2:n≤2+1:=hQ.out.2.1;have n3:i+n≤L.length:=hQ.out.2.2.1;rcases Nat.lt_or_ge 2 n with hn|hn
  ·have hE:=hQ.out.stop (by omega);have HE:=hid hE;clear hE;go_wp2
   go_ret2;refine⟨?_,rfl⟩;rw[HE.out.1,HE.out.2];rfl
  ·rcases Nat.lt_or_ge (i+n) L.length with hlt|hge
   ·have hcell:=hB.out (i+n) hlt;by_cases hbad:L[i+n].toNat<lo∨hi'<L[i+n].toNat
    ·have HE:=hid (hQ.out.bad hn hlt hbad);have HQ2:=hid hbad;generalize L[i+n].toNat=d at hcell hbad;have hne:((i:Int)+(n:Int)==(L.length:Int))=false:=by rw[beq_eq_false_iff_ne];omega
     rcases Nat.lt_or_ge d lo with hd|hd
     ·clear hbad HQ2;go_wp2
      go_ret2;refine⟨?_,rfl⟩;rw[HE.out.1,HE.out.2];rfl
     ·have hd2:hi'<d:=by omega
      clear hbad HQ2;go_wp2
      go_ret2;refine⟨?_,rfl⟩;rw[HE.out.1,HE.out.2];rfl
    ·have HE:=hid (hQ.out.next hn hlt hbad);generalize L[i+n].toNat=d at hcell hbad;have hne:((i:Int)+(n:Int)==(L.length:Int))=false:=by rw[beq_eq_false_iff_ne];omega
     have hd1:lo≤d:=by omega
     have hd2:d≤hi':=by omega
     clear hbad;go_wp2
     go_round
     case rel=>exact⟨rfl,rfl,n+1,128,191,by go_num,rfl,rfl,HE⟩
     case measure=>simp[intOf];omega
   ·have he:i+n=L.length:=by omega
    have HE:=hid (hQ.out.short hn he);have heq:((i:Int)+(n:Int)==(L.length:Int))=true:=by rw[beq_iff_eq];omega
    clear he;go_wp2
    go_ret2;refine⟨?_,rfl⟩;rw[HE.out.1,HE.out.2];rfl
theorem aLO (g off cap i m c:Nat)(t:Bool)(L:List UInt8)(w:World)(hB:Hid (cU w g off L))(hi:i<L.length)(hL:L.length≤140737488355328)(hc:w.cell? ⟨g,off+i,none⟩=some (.int .u8 (c:Nat)))(hcc:c=240)
  (hR:Hid (cT L i 3 m t 1 144 191)):Calls Tryz.prog 129 #[.slice (some ⟨g,off,none⟩) L.length cap,.int .i64 i] w fun e w'=>e=.returned (.tuple #[.int .i64 m,.bool t])∧w=w':=by
 have l128:decide ((c:Int)<128)=false:=by simp;omega
 have l194:decide ((c:Int)<194)=false:=by simp;omega
 have l224:decide ((c:Int)<224)=false:=by simp;omega
 have l240:decide ((c:Int)<240)=false:=by simp;omega
 have q224:((c:Int)==224)=false:=by simp;omega
 have q237:((c:Int)==237)=false:=by simp;omega
 have q240:((c:Int)==240)=true:=by simp;omega
 have HCC:=hid hcc;clear hcc;go_enter Tryz.func129,Tryz.ntmps129
 go_wp2
 clear hc l128 l194 l224 l240 q224 q237 q240;go_loop [4,5,8,9,10] (fun r4 r5 l h n=>r4=.int .i64 0∧r5=.bool false∧∃n' lo hi:Nat,n=.int .i64 n'∧l=.int .u8 lo∧h=.int .u8 hi∧Hid (cT L i 3 m t n' lo hi)) (fun _ _ _ _ n=>3+1-(intOf n).toNat)
 case atStart=>exact⟨rfl,rfl,1,144,191,rfl,rfl,rfl,hR⟩
 case round =>
  obtain⟨rfl,rfl,n,lo,hi',rfl,rfl,rfl,hQ⟩:=hrel;have n1:1≤n:=hQ.out.1;have n2:n≤3+1:=hQ.out.2.1;have n3:i+n≤L.length:=hQ.out.2.2.1;rcases Nat.lt_or_ge 3 n with hn|hn
  ·have hE:=hQ.out.stop (by omega);have HE:=hid hE;clear hE;go_wp2
   go_ret2;refine⟨?_,rfl⟩;rw[HE.out.1,HE.out.2];rfl
  ·rcases Nat.lt_or_ge (i+n) L.length with hlt|hge
   ·have hcell:=hB.out (i+n) hlt;by_cases hbad:L[i+n].toNat<lo∨hi'<L[i+n].toNat
    ·have HE:=hid (hQ.out.bad hn hlt hbad);have HQ2:=hid hbad;generalize L[i+n].toNat=d at hcell hbad;have hne:((i:Int)+(n:Int)==(L.length:Int))=false:=by rw[beq_eq_false_iff_ne];omega
     rcases Nat.lt_or_ge d lo with hd|hd
     ·clear hbad HQ2;go_wp2
      go_ret2;refine⟨?_,rfl⟩;rw[HE.out.1,HE.out.2];rfl
     ·have hd2:hi'<d:=by omega
      clear hbad HQ2;go_wp2
      go_ret2;refine⟨?_,rfl⟩;rw[HE.out.1,HE.out.2];rfl
    ·have HE:=hid (hQ.out.next hn hlt hbad);generalize L[i+n].toNat=d at hcell hbad;have hne:((i:Int)+(n:Int)==(L.length:Int))=false:=by rw[beq_eq_false_iff_ne];omega
     have hd1:lo≤d:=by omega
     have hd2:d≤hi':=by omega
     clear hbad;go_wp2
     go_round
     case rel=>exact⟨rfl,rfl,n+1,128,191,by go_num,rfl,rfl,HE⟩
     case measure=>simp[intOf];omega
   ·have he:i+n=L.length:=by omega
    have HE:=hid (hQ.out.short hn he);have heq:((i:Int)+(n:Int)==(L.length:Int))=true:=by rw[beq_iff_eq];omega
    clear he;go_wp2
    go_ret2;refine⟨?_,rfl⟩;rw[HE.out.1,HE.out.2];rfl
theorem aIm (g off cap i m c:Nat)(t:Bool)(L:List UInt8)(w:World)(hB:Hid (cU w g off L))(hi:i<L.length)(hL:L.length≤140737488355328)(hc:w.cell? ⟨g,off+i,none⟩=some (.int .u8 (c:Nat)))(hcc:241≤c∧c<244)
  (hR:Hid (cT L i 3 m t 1 128 191)):Calls Tryz.prog 129 #[.slice (some ⟨g,off,none⟩) L.length cap,.int .i64 i] w fun e w'=>e=.returned (.tuple #[.int .i64 m,.bool t])∧w=w':=by
 have l128:decide ((c:Int)<128)=false:=by simp;omega
 have l194:decide ((c:Int)<194)=false:=by simp;omega
 have l224:decide ((c:Int)<224)=false:=by simp;omega
 have l240:decide ((c:Int)<240)=false:=by simp;omega
 have l244:decide ((c:Int)<244)=true:=by simp;omega
 have q224:((c:Int)==224)=false:=by simp;omega
 have q237:((c:Int)==237)=false:=by simp;omega
 have q240:((c:Int)==240)=false:=by simp;omega
 have HCC:=hid hcc;clear hcc;go_enter Tryz.func129,Tryz.ntmps129
 go_wp2
 clear hc l128 l194 l224 l240 l244 q224 q237 q240;go_loop [4,5,8,9,10] (fun r4 r5 l h n=>r4=.int .i64 0∧r5=.bool false∧∃n' lo hi:Nat,n=.int .i64 n'∧l=.int .u8 lo∧h=.int .u8 hi∧Hid (cT L i 3 m t n' lo hi)) (fun _ _ _ _ n=>3+1-(intOf n).toNat)
 case atStart=>exact⟨rfl,rfl,1,128,191,rfl,rfl,rfl,hR⟩
 case round =>
  obtain⟨rfl,rfl,n,lo,hi',rfl,rfl,rfl,hQ⟩:=hrel;have n1:1≤n:=hQ.out.1;have n2:n≤3+1:=hQ.out.2.1;have n3:i+n≤L.length:=hQ.out.2.2.1;rcases Nat.lt_or_ge 3 n with hn|hn
  ·have hE:=hQ.out.stop (by omega);have HE:=hid hE;clear hE;go_wp2
   go_ret2;refine⟨?_,rfl⟩;rw[HE.out.1,HE.out.2];rfl
  ·rcases Nat.lt_or_ge (i+n) L.length with hlt|hge
   ·have hcell:=hB.out (i+n) hlt;by_cases hbad:L[i+n].toNat<lo∨hi'<L[i+n].toNat
    ·have HE:=hid (hQ.out.bad hn hlt hbad);have HQ2:=hid hbad;generalize L[i+n].toNat=d at hcell hbad;have hne:((i:Int)+(n:Int)==(L.length:Int))=false:=by rw[beq_eq_false_iff_ne];omega
     rcases Nat.lt_or_ge d lo with hd|hd
     ·clear hbad HQ2;go_wp2
      go_ret2;refine⟨?_,rfl⟩;rw[HE.out.1,HE.out.2];rfl
     ·have hd2:hi'<d:=by omega
      clear hbad HQ2;go_wp2
      go_ret2;refine⟨?_,rfl⟩;rw[HE.out.1,HE.out.2];rfl
    ·have HE:=hid (hQ.out.next hn hlt hbad);generalize L[i+n].toNat=d at hcell hbad;have hne:((i:Int)+(n:Int)==(L.length:Int))=false:=by rw[beq_eq_false_iff_ne];omega
     have hd1:lo≤d:=by omega
     have hd2:d≤hi':=by omega
     clear hbad;go_wp2
     go_round
     case rel=>exact⟨rfl,rfl,n+1,128,191,by go_num,rfl,rfl,HE⟩
     case measure=>simp[intOf];omega
   ·have he:i+n=L.length:=by omega
    have HE:=hid (hQ.out.short hn he);have heq:((i:Int)+(n:Int)==(L.length:Int))=true:=by rw[beq_iff_eq];omega
    clear he;go_wp2
    go_ret2;refine⟨?_,rfl⟩;rw[HE.out.1,HE.out.2];rfl
theorem aMo (g off cap i m c:Nat)(t:Bool)(L:List UInt8)(w:World)(hB:Hid (cU w g off L))(hi:i<L.length)(hL:L.length≤140737488355328)(hc:w.cell? ⟨g,off+i,none⟩=some (.int .u8 (c:Nat)))(hcc:c=244)
  (hR:Hid (cT L i 3 m t 1 128 143)):Calls Tryz.prog 129 #[.slice (some ⟨g,off,none⟩) L.length cap,.int .i64 i] w fun e w'=>e=.returned (.tuple #[.int .i64 m,.bool t])∧w=w':=by
 have l128:decide ((c:Int)<128)=false:=by simp;omega
 have l194:decide ((c:Int)<194)=false:=by simp;omega
 have l224:decide ((c:Int)<224)=false:=by simp;omega
 have l240:decide ((c:Int)<240)=false:=by simp;omega
 have l244:decide ((c:Int)<244)=false:=by simp;omega
 have q224:((c:Int)==224)=false:=by simp;omega
 have q237:((c:Int)==237)=false:=by simp;omega
 have q240:((c:Int)==240)=false:=by simp;omega
 have q244:((c:Int)==244)=true:=by simp;omega
 have HCC:=hid hcc;clear hcc;go_enter Tryz.func129,Tryz.ntmps129
 go_wp2
 clear hc l128 l194 l224 l240 l244 q224 q237 q240 q244;go_loop [4,5,8,9,10] (fun r4 r5 l h n=>r4=.int .i64 0∧r5=.bool false∧∃n' lo hi:Nat,n=.int .i64 n'∧l=.int .u8 lo∧h=.int .u8 hi∧Hid (cT L i 3 m t n' lo hi)) (fun _ _ _ _ n=>3+1-(intOf n).toNat)
 case atStart=>exact⟨rfl,rfl,1,128,143,rfl,rfl,rfl,hR⟩
 case round =>
  obtain⟨rfl,rfl,n,lo,hi',rfl,rfl,rfl,hQ⟩:=hrel;have n1:1≤n:=hQ.out.1;have n2:n≤3+1:=hQ.out.2.1;have n3:i+n≤L.length:=hQ.out.2.2.1;rcases Nat.lt_or_ge 3 n with hn|hn
  ·have hE:=hQ.out.stop (by omega);have HE:=hid hE;clear hE;go_wp2
   go_ret2;refine⟨?_,rfl⟩;rw[HE.out.1,HE.out.2];rfl
  ·rcases Nat.lt_or_ge (i+n) L.length with hlt|hge
   ·have hcell:=hB.out (i+n) hlt;by_cases hbad:L[i+n].toNat<lo∨hi'<L[i+n].toNat
    ·have HE:=hid (hQ.out.bad hn hlt hbad);have HQ2:=hid hbad;generalize L[i+n].toNat=d at hcell hbad;have hne:((i:Int)+(n:Int)==(L.length:Int))=false:=by rw[beq_eq_false_iff_ne];omega
     rcases Nat.lt_or_ge d lo with hd|hd
     ·clear hbad HQ2;go_wp2
      go_ret2;refine⟨?_,rfl⟩;rw[HE.out.1,HE.out.2];rfl
     ·have hd2:hi'<d:=by omega
      clear hbad HQ2;go_wp2
      go_ret2;refine⟨?_,rfl⟩;rw[HE.out.1,HE.out.2];rfl
    ·have HE:=hid (hQ.out.next hn hlt hbad);generalize L[i+n].toNat=d at hcell hbad;have hne:((i:Int)+(n:Int)==(L.length:Int))=false:=by rw[beq_eq_false_iff_ne];omega
     have hd1:lo≤d:=by omega
     have hd2:d≤hi':=by omega
     clear hbad;go_wp2
     go_round
     case rel=>exact⟨rfl,rfl,n+1,128,191,by go_num,rfl,rfl,HE⟩
     case measure=>simp[intOf];omega
   ·have he:i+n=L.length:=by omega
    have HE:=hid (hQ.out.short hn he);have heq:((i:Int)+(n:Int)==(L.length:Int))=true:=by rw[beq_iff_eq];omega
    clear he;go_wp2
    go_ret2;refine⟨?_,rfl⟩;rw[HE.out.1,HE.out.2];rfl
open Go.RowKit
def sJ:ByteArray:=⟨#[98,111,100,121]⟩
def oP:ByteArray:=⟨#[100,105,118]⟩
def tI:ByteArray:=⟨#[102,111,110,116]⟩
def kU:ByteArray:=⟨#[115,99,114,105,112,116]⟩
def sBS:ByteArray:=⟨#[98]⟩
def sIS:ByteArray:=⟨#[105]⟩
def sXS:ByteArray:=⟨#[120]⟩
def sYS:ByteArray:=⟨#[121]⟩
def sZS:ByteArray:=⟨#[122]⟩
def aC1:List Nd:=[elN oP [elN tI [aV sXS,elN kU [aV sYS]],aV sZS]]
def aCZ:List Nd:=[elN sBS [elN sIS [elN sBS [aV sXS]]]]
def zE:List Nd:=[elN oP [aV ⟨#[120,122]⟩]]
def zB:List Nd:=[elN sBS [elN sIS [aV sXS]]]
theorem aLS (A:cX):aP A sJ [] aC1=[.mk 1 0 oP (A oP []) ⟨#[]⟩ [aV ⟨#[120,122]⟩]]:=by kernel_rfl
theorem aL7 (A:cX):aP A sJ [] aCZ=[.mk 1 0 sBS (A sBS []) ⟨#[]⟩ [.mk 1 0 sIS (A sIS []) ⟨#[]⟩ [aV sXS]]]:=by kernel_rfl
theorem aNl (A:cX)(hA:∀e,A e []=[]):aP A sJ [] aC1=zE:=by
 rw[aLS,hA];rfl
theorem aOg (A:cX)(hA:∀e,A e []=[]):aP A sJ [] aCZ=zB:=by
 rw[aL7,hA,hA];rfl
end Go.Proofs.YtcfgbdhpcboikaaGreatDoor
