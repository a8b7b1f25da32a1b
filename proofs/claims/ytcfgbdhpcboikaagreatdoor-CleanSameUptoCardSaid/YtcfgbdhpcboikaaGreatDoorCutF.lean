/-
A cut of all elements; append onto a slice that is full.
-/
import Derived.Test.YtcfgbdhpcboikaaGreatDoorValueX
import Derived.Test.YtcfgbdhpcboikaaGreatDoorLaidA
import Derived.Test.YtcfgbdhpcboikaaGreatDoorSchedE
namespace Go.Proofs.YtcfgbdhpcboikaaGreatDoor
open Go.Lib (hid)
set_option maxHeartbeats 4000000
set_option maxRecDepth 100000
open Go.RowKit
theorem dM {n:Nat}:n≤n:=Nat.le_refl n
section
variable {P:Program} {w:World} {ops:Array Oper} {rest:List Oper} {o:Oper} {a:Act} {Q:Exit→Act→World→Prop}
theorem vY (T E:TypeId)(ht:P.underlying T=some (.slice E))(i:TypeInfo)(hi:P.info? E=some i)(w:World)(x:Option Addr)(n c:Nat)(hn:n≤c) :
  (Instr.slice T (.slice x n c) none (some (.int .i64 n)) (some (.int .i64 n))).run P w=.ok (.slice x n n) w:=by
 simp[Instr.slice,run_underlying ht,Instr.sliceBounds,run_sliceBound,sizeOf,typeInfo,hi,hn,Addr.add]
theorem aCm (w:World)(e:TypeId)(cap:Nat)(n:Nat)(xs:List Value)(zs:Array Value) :
  iW (w.drew.alloc (.cells (xs.toArray++zs) e)) (.slice (some ⟨w.heap.size,0,none⟩) n cap) n xs∧Below w.heap.size w (w.drew.alloc (.cells (xs.toArray++zs) e)):=by
 refine⟨⟨_,_,rfl,fun j u hj=>⟨_,_,rfl,?_⟩⟩,?_⟩
 ·show(w.drew.alloc (.cells (xs.toArray++zs) e)).cell? ⟨w.drew.heap.size,0+j,none⟩=some u;rw[Nat.zero_add,cell_of_row _ _ j (xs.toArray++zs) e (0,0) (heap_alloc_new w.drew _)];have hl:j<xs.length:=(List.getElem?_eq_some_iff.1 hj).1;rw[Array.getElem?_append_left (by simpa using hl)];simpa using hj
 ·exact(Below.refl w.heap.size w).drew.alloc dM _
theorem oU (hgd:o.guard=none)(s x:Operand)(t:TypeId)
  (ho:o.op=.call { callee:=.builtin .append,args:=#[s,x],argTypes:=#[t,t] })
  (e:TypeId) (i:TypeInfo) (z:Value) (bytes:Nat) (ht:P.underlying t=some (.slice e)) (hi:P.info? e=some i) (hz:i.zero=some z) (hsize:i.size=1) (hby:i.bytes=bytes)
  (v:Value) (n:Nat) (xs:List Value) (hs:a.eval s=v) (hv:∃y,v=.slice y n n) (hV:iW w v n xs) (hl:xs.length=n) (u:Value)
  (ad:Addr) (c:Nat) (hx:a.eval x=.slice (some ad) 1 c) (hnews:w.cell? ad=some u) (hb:(n+1)*bytes≤140737488355328) (hn:n≤1000000000)
  (h:∀v' w',Hid (iW w' v' (n+1) (xs++[u]))→Hid (∃y c,v'=.slice y (n+1) c∧n+1≤c)→Hid (Below w.heap.size w w')→wpList P ops Q rest (a.put o.dst v') w'):wpList P ops Q (o :: rest) a w:=by
 refine wpList_plain hgd fun K hK=>?_
 obtain⟨y,rfl⟩:=hv;have hnews':∀j q,[u][j]?=some q→w.cell? (ad.add j)=some q:=by
  intro j q hj;match j,hj with
  | 0,hj =>
   simp at hj;subst hj;simpa [Addr.add]using hnews
 have key:∃v' w',(Builtin.append_ #[t,t] o.type #[.slice y n n,.slice (some ad) 1 c]).run P w=.ok v' w'∧iW w' v' (n+1) (xs++[u])∧(∃y c,v'=.slice y (n+1) c∧n+1≤c)∧Below w.heap.size w w':=by
  subst hby;cases y with
  | none =>
   have hn0:n=0:=by
    rcases Nat.eq_zero_or_pos n with h0|h0
    ·exact h0
    ·obtain⟨a',c',e',h'⟩:=hV;obtain⟨g,off,ha,_⟩:=h' 0 _ (List.getElem?_eq_getElem (by omega));simp only[Value.slice.injEq]at e';rw[←e'.1]at ha
     cases ha
   subst hn0;have hx0:xs=[]:=List.eq_nil_of_length_eq_zero hl;subst hx0;have hr:=run_append_nil (P:=P) (w:=w) t o.type e i z ht hi hz ad 1 c [u] (by simp[hsize]) hnews' (by omega) (by omega) (by omega);obtain⟨h1,h2⟩:=aCm w e (grownCap w 1 0 e) 1 [u] (Builtin.zeroCells z.cells (grownCap w 1 0 e-1));exact⟨_,_,hr,h1,⟨_,_,rfl,grownCap_ge w 1 0 e⟩,h2⟩
  | some b =>
   have holds:∀j q,xs[j]?=some q→w.cell? (b.add j)=some q:=by
    obtain⟨a',c',e',h'⟩:=hV;intro j q hj;obtain⟨g,off,ha,hc⟩:=h' j q hj;simp only[Value.slice.injEq]at e';rw[←e'.1]at ha
    cases ha;have hadd:(⟨g,off,none⟩:Addr).add j=⟨g,off+j,none⟩:=by unfold Addr.add;split<;>simp_all
    rw[hadd];exact hc
   have hr:=run_append_grow (P:=P) (w:=w) t o.type e i z ht hi hz b n n xs (by rw[hsize];omega) holds ad 1 c [u] (by simp[hsize]) hnews' (by omega) (by omega) (growslice_fits (by omega) hb);obtain⟨h1,h2⟩:=aCm w e (grownCap w (n+1) n e) (n+1) (xs++[u]) (Builtin.zeroCells z.cells (grownCap w (n+1) n e-(n+1)));refine⟨_,_,hr,?_,⟨_,_,rfl,grownCap_ge w (n+1) n e⟩,?_⟩
   ·simpa using h1
   ·simpa using h2
 obtain⟨v',w',hr,h1,hcap,h2⟩:=key;unfold Oper.wp execOp;simp only[ho,resolve,invoke,builtin,Sem.run_bind,Sem.run_pure,Result.andThen_ok,List.map_toArray,List.map_cons,List.map_nil,hs,hx,hr];exact hK _ _ (h v' w' h1 hcap h2)
end
open Go.RowKit
def kN:ByteArray:=⟨#[99,97,112,116,105,111,110]⟩
abbrev fP:=ByteArray→ByteArray→ByteArray→Option ByteArray
def eE (n:Nd):Bool:=aAX n.kind n.space n.name n.text n.attrs.length n.kids.length
def nV (n:Nd):Bool:=pI n.kind n.space n.text
def qL:Option Nd→Bool
 | some n=>decide (n.kind=2)
 | none=>false
def pM (VV:fP)(pn:ByteArray)(ph:List ByteArray)(prev:Option Nd)(k:Nd):Prop :=
 (eE k=true∧lO pn.data.toList=true∧qL prev=false) ∨
 (eE k=false∧nV k=true∧rP pn.data.toList k.name.data.toList=true∧k.name∉ph∧¬(k.name=kN∧prev.isSome=true)∧jW (VV k.name) k.attrs k.attrs)
mutual
def eJ (VV:fP):List ByteArray→Nd→Prop
 | ph,.mk _ _ nm _ _ ks=>HoldsK VV nm (if bR nm.data.toList=4 then ph++[nm]else ph) none ks
def HoldsK (VV:fP)(pn:ByteArray)(ph:List ByteArray):Option Nd→List Nd→Prop
 | _,[]=>True
 | prev,k :: ks=>(pM VV pn ph prev k∧(eE k=false→eJ VV ph k))∧HoldsK VV pn ph (some k) ks
end
def iO (ks:List Nd)(j:Nat):Option Nd:=if j=0 then none else ks[j-1]?
theorem xZ (VV:fP)(pn:ByteArray)(ph:List ByteArray)(ks:List Nd)(j:Nat)(h:j<ks.length) :
  HoldsK VV pn ph (iO ks j) (ks.drop j)↔(pM VV pn ph (iO ks j) ks[j]∧(eE ks[j]=false→eJ VV ph ks[j]))∧HoldsK VV pn ph (iO ks (j+1)) (ks.drop (j+1)):=by
 rw[List.drop_eq_getElem_cons h];conv=>lhs;unfold HoldsK
 have:iO ks (j+1)=some ks[j]:=by
  unfold iO;rw[if_neg (by omega),Nat.add_sub_cancel,List.getElem?_eq_getElem h]
 rw[this]
theorem aHG (ks:List Nd)(j:Nat)(hj:j≤ks.length):(iO ks j).isSome=decide (0<j):=by
 unfold iO;by_cases h:j=0
 ·rw[if_pos h,h];rfl
 ·rw[if_neg h,List.getElem?_eq_getElem (by omega)];simp;omega
theorem aHH (ks:List Nd)(q:Nat)(hq:q<ks.length):qL (iO ks (q+1))=decide (ks[q].kind=2):=by
 unfold iO qL;rw[if_neg (by omega),Nat.add_sub_cancel,List.getElem?_eq_getElem hq]
open Go.RowKit
mutual
def SmN:Nd→Prop
 | .mk _ _ nm at' tx ks=>nm.size≤1048576∧tx.size≤100000000∧at'.length≤1048576∧(∀x∈at',x.1.size≤1048576∧x.2.size≤1048576)∧SmK ks
def SmK:List Nd→Prop
 | []=>True
 | n :: ks=>SmN n∧SmK ks
end
theorem SmK.get:∀(ks:List Nd) (j:Nat) (h:j<ks.length),SmK ks→SmN ks[j]:=by
 intro ks;induction ks with
 | nil=>intro j h;simp at h
 | cons n ks ih =>
  intro j h hs;unfold SmK at hs;cases j with
  | zero=>exact hs.1
  | succ j=>exact ih j (by simpa using h) hs.2
theorem SmN.get {n:Nd}(h:SmN n):n.name.size≤1048576∧n.text.size≤100000000∧n.attrs.length≤1048576∧(∀x∈n.attrs,x.1.size≤1048576∧x.2.size≤1048576)∧SmK n.kids:=by
 cases n;unfold SmN at h;exact h
open Go.RowKit
def aIz (VV:fP):Prop:=∀e n v,e.size≤1048576→n.size≤1048576→v.size≤1048576→jZ e n v (VV e n v)
structure jX (VV:fP) (ks:List Nd) (nm:ByteArray) (ph:List ByteArray) (r:Bool) (k:Nat):Prop where
 le:k≤ks.length
 iff:r=true↔HoldsK VV nm ph (iO ks k) (ks.drop k)
theorem jX.start {VV:fP}{ks:List Nd}{nm:ByteArray}{ph:List ByteArray}{r:Bool}(h:r=true↔HoldsK VV nm ph none ks):jX VV ks nm ph r 0:=⟨Nat.zero_le _,h⟩
theorem jX.done {VV:fP}{ks:List Nd}{nm:ByteArray}{ph:List ByteArray}{r:Bool}{k:Nat}(h:jX VV ks nm ph r k)(hk:ks.length≤k):r=true:=by
 rw[h.iff,List.drop_eq_nil_of_le hk];unfold HoldsK;trivial
theorem jX.no {VV:fP}{ks:List Nd}{nm:ByteArray}{ph:List ByteArray}{r:Bool}{k:Nat}(h:jX VV ks nm ph r k)(hk:k<ks.length)(hn:¬(pM VV nm ph (iO ks k) ks[k]∧(eE ks[k]=false→eJ VV ph ks[k]))):r=false:=by
 cases hr:r with
 | false=>rfl
 | true=>exact absurd ((xZ VV nm ph ks k hk).1 (h.iff.1 hr)).1 hn
theorem jX.yes {VV:fP}{ks:List Nd}{nm:ByteArray}{ph:List ByteArray}{r:Bool}{k:Nat}(h:jX VV ks nm ph r k)(hk:k<ks.length)(hn:pM VV nm ph (iO ks k) ks[k]∧(eE ks[k]=false→eJ VV ph ks[k])):jX VV ks nm ph r (k+1):=by
 refine⟨hk,?_⟩;rw[h.iff,xZ VV nm ph ks k hk];exact⟨fun x=>x.2,fun x=>⟨hn,x⟩⟩
theorem aBW {VV:fP}{pn:ByteArray}{ph:List ByteArray}{prev:Option Nd}{q:Nd}(hw:eE q=true)(h:lO pn.data.toList=true)(hp:qL prev=false):pM VV pn ph prev q∧(eE q=false→eJ VV ph q) :=
 ⟨.inl ⟨hw,h,hp⟩,fun e=>by rw[hw]at e;cases e⟩
theorem vK {VV:fP}{pn:ByteArray}{ph:List ByteArray}{prev:Option Nd}{q:Nd}(hw:eE q=true)(h:lO pn.data.toList=false∨qL prev=true):¬(pM VV pn ph prev q∧(eE q=false→eJ VV ph q)):=by
 rintro⟨h1|h1,_⟩
 ·rcases h with h|h
  ·rw[h1.2.1]at h;cases h
  ·rw[h1.2.2]at h;cases h
 ·rw[hw]at h1;cases h1.1
theorem aJf {VV:fP}{pn:ByteArray}{ph:List ByteArray}{prev:Option Nd}{q:Nd}(hw:eE q=false)(h1:nV q=true)(h2:rP pn.data.toList q.name.data.toList=true)(h3:q.name∉ph)(h4:¬(q.name=kN∧prev.isSome=true))(h5:jW (VV q.name) q.attrs q.attrs)(h6:eJ VV ph q):pM VV pn ph prev q∧(eE q=false→eJ VV ph q) :=
 ⟨.inr ⟨hw,h1,h2,h3,h4,h5⟩,fun _=>h6⟩
theorem jK {VV:fP}{pn:ByteArray}{ph:List ByteArray}{prev:Option Nd}{q:Nd}(hw:eE q=false)(h:nV q=false∨rP pn.data.toList q.name.data.toList=false∨q.name∈ph∨(q.name=kN∧prev.isSome=true)∨¬jW (VV q.name) q.attrs q.attrs∨¬eJ VV ph q):¬(pM VV pn ph prev q∧(eE q=false→eJ VV ph q)):=by
 rintro⟨h1|h1,h2⟩
 ·rw[hw]at h1;cases h1.1
 ·obtain⟨_,a1,a2,a3,a4,a5⟩:=h1;rcases h with h|h|h|h|h|h
  ·rw[a1]at h;cases h
  ·rw[a2]at h;cases h
  ·exact a3 h
  ·exact a4 h
  ·exact h a5
  ·exact h (h2 hw)
theorem aBV (VV:fP)(n:Nd)(ph:List ByteArray):eJ VV ph n↔HoldsK VV n.name (if bR n.name.data.toList=4 then ph++[n.name]else ph) none n.kids:=by
 cases n;conv=>lhs;unfold eJ
 exact Iff.rfl
theorem aG.attrs {w:World}{n:Nd}{c0 c1 c2 c4 c5:Value}{a:Option Addr}{m b:Nat}(h:aG w n (.agg #[c0,c1,c2,.slice a m b,c4,c5])):dZ w (.slice a m b) n.attrs:=by
 obtain⟨av,a',c',e,hA,_,_⟩:=h.get;simp only[Value.agg.injEq]at e;have e3:=congrArg (fun x:Array Value=>x[3]?) e;simp at e3;rw[e3];exact hA
open Go.RowKit
theorem aFk (n:Nd):n.bk=2+n.name.size+n.text.size+oV n.attrs+eN n.kids:=by
 cases n;conv=>lhs;unfold Nd.bk
 rfl
theorem tF (n:Nd)(ns:List Nd):eN (n :: ns)=n.bk+eN ns:=by conv=>lhs;unfold eN
theorem iD (n:Nd)(ns:List Nd):SmK (n :: ns)↔SmN n∧SmK ns:=by
 conv=>lhs;unfold SmK
theorem lD:SmK []:=by unfold SmK;trivial
theorem xH (n:Nd):SmN n↔n.name.size≤1048576∧n.text.size≤100000000∧n.attrs.length≤1048576∧(∀x∈n.attrs,x.1.size≤1048576∧x.2.size≤1048576)∧SmK n.kids:=by
 cases n;conv=>lhs;unfold SmN
 exact Iff.rfl
theorem wS:(∀n:Nd,n.bk≤1048576→SmN n)∧∀l:List Nd,eN l≤1048576→SmK l:=by
 refine oN (P:=fun n=>n.bk≤1048576→SmN n) (Q:=fun l=>eN l≤1048576→SmK l) ?_ ?_ ?_
 ·intro n ih h;rw[aFk]at h
  have h1:=aIF n.attrs;refine(xH n).2 ⟨by omega,by omega,by omega,fun x hx=>?_,ih (by omega)⟩;have:=aIG n.attrs x hx;omega
 ·intro _;exact lD
 ·intro n ns h1 h2 h;rw[tF]at h
  exact(iD n ns).2 ⟨h1 (by omega),h2 (by omega)⟩
theorem aJ7:(∀n:Nd,2*n.sz≤n.bk)∧∀l:List Nd,2*aC l≤eN l:=by
 refine oN (P:=fun n=>2*n.sz≤n.bk) (Q:=fun l=>2*aC l≤eN l) ?_ ?_ ?_
 ·intro n ih;rw[aFk,cJ];omega
 ·unfold aC eN;omega
 ·intro n ns h1 h2;rw[tF];unfold aC;omega
open Go.RowKit
mutual
def Nd.tk:Nd→Nat
 | .mk _ _ _ _ tx ks=>1+tx.size+bI ks
def bI:List Nd→Nat
 | []=>0
 | k :: ks=>k.tk+bI ks
end
theorem fY (n:Nd):n.tk=1+n.text.size+bI n.kids:=by
 cases n;conv=>lhs;unfold Nd.tk
 rfl
theorem cP (n:Nd)(ns:List Nd):bI (n :: ns)=n.tk+bI ns:=by conv=>lhs;unfold bI
theorem aF6:(∀n:Nd,n.tk≤n.bk)∧∀l:List Nd,bI l≤eN l:=by
 refine oN (P:=fun n=>n.tk≤n.bk) (Q:=fun l=>bI l≤eN l) ?_ ?_ ?_
 ·intro n ih;rw[fY,aFk];omega
 ·unfold bI eN;omega
 ·intro n ns h1 h2;rw[cP,tF];omega
theorem aCX:(∀n:Nd,n.sz≤n.tk)∧∀l:List Nd,aC l≤bI l:=by
 refine oN (P:=fun n=>n.sz≤n.tk) (Q:=fun l=>aC l≤bI l) ?_ ?_ ?_
 ·intro n ih;rw[fY,cJ];omega
 ·unfold bI aC;omega
 ·intro n ns h1 h2;rw[cP];unfold aC;omega
def wtK:List Nd→Nat
 | []=>0
 | n :: ns=>1+n.text.size+wtK ns
theorem pY:∀a b:List Nd,wtK (a++b)=wtK a+wtK b:=by
 intro a;induction a with
 | nil=>intro b;rw[List.nil_append];simp[wtK]
 | cons n a ih=>intro b;rw[List.cons_append];simp only[wtK];rw[ih];omega
theorem tB:∀l:List Nd,l.length≤wtK l∧∀x∈l,x.text.size≤wtK l:=by
 intro l;induction l with
 | nil=>exact⟨Nat.le_refl _,fun x h=>by simp at h⟩
 | cons n l ih =>
  refine⟨by simp only[wtK,List.length_cons];omega,fun x h=>?_⟩;simp only[wtK];rcases List.mem_cons.1 h with rfl|h
  ·omega
  ·have:=ih.2 x h;omega
theorem aMN (out:List Nd)(t:ByteArray):wtK (fI out t)≤wtK out+1+t.size:=by
 have hnew:wtK (out++[aL t])=wtK out+1+t.size:=by rw[pY];simp only[wtK];show _+(1+t.size+0)=_;omega
 by_cases h:out=[]
 ·subst h;unfold fI;show wtK ([]++[aL t])≤_;rw[hnew];exact Nat.le_refl _
 ·obtain⟨ys,x,rfl⟩:=xI h;rw[qF];split
  ·rw[pY,pY];simp only[wtK];have:(x.more t).text.size=x.text.size+t.size:=by show(x.text++t).size=_;rw[ByteArray.size_append]
   omega
  ·rw[hnew];exact Nat.le_refl _
theorem aD8 (s:ByteArray):(cL s).size≤3*s.size:=by
 have h1:=oR s.data.toList;have h2:(cL s).size=(cT s.data.toList).length:=rfl;have h3:s.data.toList.length=s.size:=rfl;omega
theorem zO (A:eF) :
  (∀(n:Nd) (pn:ByteArray) (ph:List ByteArray) (out:List Nd),wtK (hJ A pn ph out n)≤wtK out+4*n.tk) ∧
  (∀(l:List Nd) (pn:ByteArray) (ph:List ByteArray) (out:List Nd),wtK (cB A pn ph out l)≤wtK out+4*bI l):=by
 refine oN (P:=fun n=>∀(pn:ByteArray) (ph:List ByteArray) (out:List Nd),wtK (hJ A pn ph out n)≤wtK out+4*n.tk)
  (Q:=fun l=>∀(pn:ByteArray) (ph:List ByteArray) (out:List Nd),wtK (cB A pn ph out l)≤wtK out+4*bI l) ?_ ?_ ?_
 ·intro n ih pn ph out;rw[rF,fY];split
  ·unfold pW;split
   ·omega
   ·have h1:=aMN out (cL n.text);have h2:=aD8 n.text;omega
  ·split
   ·omega
   ·split
    ·rw[pY];simp only[wtK];have:(Nd.mk 1 0 n.name (A n.name n.attrs) ⟨#[]⟩ (bM A n.name ph n.kids)).text.size=0:=rfl;omega
    ·have:=ih pn ph out;omega
 ·intro pn ph out;rw[lC];omega
 ·intro n ns h1 h2 pn ph out;rw[jM,cP];have a1:=h1 pn ph out;have a2:=h2 pn ph (hJ A pn ph out n);omega
def aCL (A:eF)(m:Nat):Prop:=∀(l:List Nd),aC l≤m→∀(p:Nat) (pn:ByteArray) (pv:Value) (ph:List ByteArray) (out:List Nd) (W1 w:World) (a:Option Addr) (c:Nat),Hid (aB W1)→Hid (SmK l) →
 wtK out+4*bI l≤100000000→ph.length+aC l≤10000000→Hid (Sv p pn pv ph out W1 w)→Hid (aI W1 a 0 l) →
 Calls Tryz.prog 155 #[.pointer (some ⟨p,0,none⟩),.slice a l.length c] w fun e w'=>e=.returned (.tuple #[])∧Sv p pn pv ph (cB A pn ph out l) W1 w'
def oH (w:World)(r:List Nd)(e:Ending)(w':World):Prop:=∃a c,e=.returned (.slice a r.length c)∧r.length≤140737488355328∧aD (fun g=>w.heap.size≤g) w' a 0 r∧Below w.heap.size w w'
theorem Tryz.info9':(Tryz.prog.info? 9).map (fun i=>(i.zero,i.size,i.bytes))=some (some (.string ⟨#[]⟩),1,16):=by kernel_rfl
theorem aAg (A:eF)(m:Nat)(HA:Hid (aCL A m))(l:List Nd)(hm:aC l≤m)(pn:ByteArray)(pv:Value)(ph:List ByteArray)(w:World)(a:Option Addr)(c:Nat)(HT:Hid (aB w))(HS:Hid (SmK l))(hb:4*bI l≤100000000)
  (hph:ph.length+1+aC l≤10000000) (hP:Hid (Phr w pv ph)) (hK:Hid (aI w a 0 l)) :
  Calls Tryz.prog 101 #[.string pn,.slice a l.length c,pv] w (oH w (bM A pn ph l)):=by
 obtain⟨i9,hi9,hz9,hs9,hb9⟩:=info_parts Tryz.info9';obtain⟨pa,pc,rfl,hpc⟩:=hP.out.cap;have HKD:=hid (nI pn w);have hkl:=nH pn.data.toList;have hF:bM A pn ph l=if bR pn.data.toList=5∨bR pn.data.toList=6 then []else cB A pn (if bR pn.data.toList=4 then ph++[pn]else ph) [] l:=rfl
 generalize bM A pn ph l=R at *
 have HF:=hid hF;clear hF;generalize bR pn.data.toList=K at *
 have hll:l.length≤10000000:=by have:=(iV l).2;omega
 have HWT:=hid (show wtK []+4*bI l≤100000000 by unfold wtK;omega);have HM:=hid hm;have HPH:=hid hph;clear hb hm;generalize hlen:l.length=ll at *
 have HLL:=hid hlen;clear hlen;go_enter Tryz.func101,Tryz.ntmps101
 go_wp2_with fail
 refine HKD.out.mono ?_;rintro e w' ⟨rfl,rfl⟩;by_cases h5:K=5∨K=6
 ·have HR:Hid (R=[]):=by show _=_;rw[HF.out,if_pos h5]
  have hnil:oH w R (.returned (.slice none 0 0)) w:=by
   rw[HR.out];exact⟨none,0,rfl,by simp,by unfold aD;trivial,Below.refl _ _⟩
  have HNIL:=hid hnil;clear hnil;rcases h5 with rfl|rfl
  all_goals
   go_wp2
   go_ret;exact HNIL.out
 ·have e5:((K:Int)==5)=false:=by rw[beq_eq_false_iff_ne];omega
  have e6:((K:Int)==6)=false:=by rw[beq_eq_false_iff_ne];omega
  have HR:Hid (R=cB A pn (if K=4 then ph++[pn]else ph) [] l):=by show _=_;rw[HF.out,if_neg h5]
  clear h5;go_wp2_with fail
  refine HKD.out.mono ?_;rintro e w' ⟨rfl,rfl⟩;clear HKD e5 e6;go_upto_if 19 with fail
  go_cut [2] (fun p2 wx=>Hid (Phr wx p2 (if K=4 then ph++[pn]else ph))∧Hid (Below w.heap.size w wx))
  case first =>
   by_cases hk:K=4
   ·have e1:((K:Int)==4)=true:=by rw[beq_iff_eq];omega
    have HKK:=hid hk;have hcut':∀W,(Instr.slice 55 (.slice pa ph.length pc) none (some (.int .i64 ph.length)) (some (.int .i64 ph.length))).run Tryz.prog W=.ok (.slice pa ph.length ph.length) W:=fun W=>vY 55 9 Tryz.underlying55 i9 hi9 W pa ph.length pc hpc
    have hB1:Below w.heap.size w (w.alloc (.cells #[.string pn] 9)):=(Below.refl _ w).alloc dM _;have hnew:(w.alloc (.cells #[.string pn] 9)).cell? ⟨w.heap.size,0,none⟩=some (.string pn):=by rw[cell_of_row _ w.heap.size 0 _ 9 (0,0) (heap_alloc_new w _)];rfl
    have HPH1:=hid (hP.out.below hB1 dM);have hvec:iW (w.alloc (.cells #[.string pn] 9)) (.slice pa ph.length ph.length) ph.length (ph.map pA):=by
     obtain⟨a',c',e',h'⟩:=HPH1.out.vec;simp only[Value.slice.injEq]at e';exact⟨a',_,by rw[e'.1],h'⟩
    have HVEC:=hid hvec;have HNEW:=hid hnew;have HB1:=hid hB1;clear hvec hnew hB1 hk;go_wp2_with (at_builtin;refine oU rfl _ _ 55 rfl 9 i9 (.string ⟨#[]⟩) 16 Tryz.underlying55 hi9 hz9 hs9 hb9 _ ph.length (ph.map pA) rfl ⟨_,rfl⟩ HVEC.out (List.length_map ..) _ _ _ rfl HNEW.out (by omega) (by omega) ?_)
    intro v' w' hv' hc' hb';have HB2:=hid (HB1.out.trans (hb'.out.mono (by simp)));go_wp2_with fail
    go_meet
    case rel =>
     refine⟨?_,HB2⟩;rw[if_pos HKK.out];obtain⟨y',c',e1,e2⟩:=hc'.out;exact hid ⟨by rw[List.length_append,List.map_append];exact hv'.out,⟨y',c',by rw[List.length_append];exact e1,by rw[List.length_append];exact e2⟩⟩
   ·have e1:((K:Int)==4)=false:=by rw[beq_eq_false_iff_ne];omega
    have HKK:=hid hk;clear hk;go_wp2_with fail
    go_meet
    case rel =>
     refine⟨?_,hid (Below.refl _ _)⟩;rw[if_neg HKK.out];exact hP
  case rest =>
   obtain⟨HPX,HBX⟩:=hcut;have HPL:Hid ((if K=4 then ph++[pn]else ph).length+aC l≤10000000):=by
    show _≤_;have h1:=HPH.out;split
    ·rw[List.length_append,List.length_singleton];omega
    ·omega
   generalize (if K=4 then ph++[pn]else ph)=ph2 at *
   obtain⟨pa2,pc2,rfl,_⟩:=HPX.out.cap;have hB3:Below wc.heap.size wc (wc.alloc (.cells #[.string pn,.slice pa2 ph2.length pc2,.slice none 0 0] 151)):=(Below.refl _ wc).alloc dM _;have hrow:=heap_alloc_new wc (.cells #[.string pn,.slice pa2 ph2.length pc2,.slice none 0 0] 151);have hsv:Sv wc.heap.size pn (.slice pa2 ph2.length pc2) ph2 [] wc (wc.alloc (.cells #[.string pn,.slice pa2 ph2.length pc2,.slice none 0 0] 151)) :=
    ⟨rfl,⟨.slice none 0 0,[],hrow,bC.of 45 6 hB3 hB3.size,(fun e=>by cases e),bU.nil _ _⟩,HPX.out⟩
   have HSV:=hid hsv;have HB3:=hid (HBX.out.trans (hB3.mono HBX.out.size));clear hB3 hrow hsv;go_wp2_with fail
   have hcall:=HA.out l HM.out wc.heap.size pn (.slice pa2 ph2.length pc2) ph2 [] wc _ a c (hid (HT.out.below HBX.out dM)) HS HWT.out HPL.out HSV (hid (hK.out.below HBX.out dM));rw[HLL.out]at hcall
   refine hcall.mono ?_;rintro e W3 ⟨rfl,h3⟩;rw[←HR.out]at h3
   clear hcall;obtain⟨v3,xs3,hr3,hO3,hne3,hC3⟩:=h3.row;obtain⟨a3,c3,rfl,_,hlo3⟩:=hO3.slice;have hc3:W3.cell? ⟨wc.heap.size,2,none⟩=some (.slice a3 R.length c3):=by rw[cell_of_row _ _ 2 _ 151 (0,0) hr3];rfl
   have hfin:oH w R (.returned (.slice a3 R.length c3)) W3:=by
    have hs:=HBX.out.size;refine⟨a3,c3,rfl,?_,nG hO3.vec hC3 (fun g hg=>by omega) (fun y hy=>by have:=(hlo3 y hy).1;omega),HBX.out.trans (hO3.bel.mono hs)⟩;rw[HR.out];have h1:=(zO A).2 l pn ph2 [];have h2:=(tB (cB A pn ph2 [] l)).1;have h4:=HWT.out;omega
   have HFIN:=hid hfin;clear hfin hr3 hO3 hne3 hC3 h3 hlo3;go_wp2
   go_ret;exact HFIN.out
open Go.RowKit
theorem aME:∀(m:Nat) (n:Nd),n.sz≤m→∀(v v':Value) (w:World),Hid (SmN n)→Hid (aG w n v)→Hid (aG w n v') →
  Calls Tryz.prog 60 #[v,v'] w (bA true w):=by
 intro m;induction m with
 | zero=>intro n hn;exact absurd (eD n) (by omega)
 | succ m ih =>
  intro n hn v v' w HS hN hN';obtain⟨av,a,c,rfl,hA,hK,hlen⟩:=hN.out.get;obtain⟨av',a',c',rfl,hA',hK',_⟩:=hN'.out.get;obtain⟨aa,ca,rfl,hAA⟩:=hA;obtain⟨aa',ca',rfl,hAA'⟩:=hA';have HA:=hid (show dZ w (.slice aa n.attrs.length ca) n.attrs from⟨aa,ca,rfl,hAA⟩);have HA':=hid (show dZ w (.slice aa' n.attrs.length ca') n.attrs from⟨aa',ca',rfl,hAA'⟩);have HK:=hid hK;have HK':=hid hK';have HIH:=hid ih;have HN:=hid (show ∀k∈n.kids,k.sz≤m by
   intro k hk;have h1:=cJ n;have h2:=(iV n.kids).1 k hk;omega)
  have HSN:=hid HS.out.get;have hal:n.attrs.length≤1048576:=HS.out.get.2.2.1;clear hK hK' ih hn hN hN' HS hAA hAA';generalize n.kids=ks at *
  generalize n.name=nm at *
  generalize n.kind=kd at *
  generalize n.space=sp at *
  generalize n.text=tx at *
  generalize n.attrs=at' at *
  have e0:(kd !=kd)=false:=by simp
  have e1:(sp !=sp)=false:=by simp
  have e2:(nm.toList !=nm.toList)=false:=by simp
  have e3:(tx.toList !=tx.toList)=false:=by simp
  go_enter Tryz.func60,Tryz.ntmps60
  obtain⟨W0,hW0⟩:∃W0,W0=(w.alloc (.cells #[.int .i64 kd,.int .i64 sp,.string nm,.slice aa at'.length ca,.string tx,.slice a ks.length c] 45)).alloc (.cells #[.int .i64 kd,.int .i64 sp,.string nm,.slice aa' at'.length ca',.string tx,.slice a' ks.length c'] 45):=⟨_,rfl⟩
  have hB0:Below w.heap.size w W0:=by rw[hW0];exact((Below.refl _ w).alloc dM _).alloc (by simp) _
  have hP0:Six W0 w.heap.size 0 (.int .i64 kd) (.int .i64 sp) (.string nm) (.slice aa at'.length ca) (.string tx) (.slice a ks.length c):=by
   rw[hW0];exact(aP w _ _ _ _ _ _).below ((Below.refl (w.alloc _).heap.size _).alloc dM _) dM
  have hP1:Six W0 (w.heap.size+1) 0 (.int .i64 kd) (.int .i64 sp) (.string nm) (.slice aa' at'.length ca') (.string tx) (.slice a' ks.length c'):=by
   have h:=aP (w.alloc (.cells #[.int .i64 kd,.int .i64 sp,.string nm,.slice aa at'.length ca,.string tx,.slice a ks.length c] 45)) (.int .i64 kd) (.int .i64 sp) (.string nm) (.slice aa' at'.length ca') (.string tx) (.slice a' ks.length c');rw[←hW0]at h
   simpa using h
  have HP0:=hid hP0;have HP1:=hid hP1;have HB0:=hid hB0;have HW0:=hid hW0;clear hP0 hP1 hB0 hW0;obtain⟨y0,y1,y2,y3,y4,y5⟩:=HP0.out.zero;obtain⟨z0,z1,z2,z3,z4,z5⟩:=HP1.out.zero;go_upto_region 1 with fail
  rw[←HW0.out];go_wp2_with fail
  clear y0 y1 y2 y3 y4 y5 z0 z1 z2 z3 z4 z5;go_loopw [56] (fun i wx=>∃k:Nat,i=.int .i64 k∧Hid (k≤at'.length∧Below W0.heap.size W0 wx)) (fun i _=>at'.length-(intOf i).toNat)
  case atStart=>exact⟨0,rfl,hid ⟨Nat.zero_le _,Below.refl _ _⟩⟩
  case round =>
   obtain⟨k,rfl,hK⟩:=hrel;have hk:=hK.out.1;have hBw:Below w.heap.size w wr:=HB0.out.trans (hK.out.2.mono HB0.out.size);have HBw:=hid hBw;clear hBw;rcases Nat.lt_or_ge k at'.length with hlt|hge
   ·obtain⟨g1,o1,c1,hv1,a1,a2⟩:=(HA.out.below HBw.out dM).get k hlt;obtain⟨g2,o2,c2,hv2,b1,b2⟩:=(HA'.out.below HBw.out dM).get k hlt;simp only[Value.slice.injEq,true_and]at hv1 hv2;obtain⟨rfl,rfl⟩:=hv1;obtain⟨rfl,rfl⟩:=hv2;generalize at'[k]=q at *
    obtain⟨qn,qv⟩:=q;simp only at a1 a2 b1 b2;have e1:(qn.toList==qn.toList)=true:=by simp
    have e2:(qv.toList==qv.toList)=true:=by simp
    obtain⟨V,hV⟩:∃V,V=wr.alloc (.cells #[.string qn,.string qv] 39):=⟨_,rfl⟩
    have hbV:Below wr.heap.size wr V:=by rw[hV];exact(Below.refl _ wr).alloc dM _
    have HV:=hid hV;have HBV:=hid hbV;obtain⟨z0,z1,z2,z3,z4,z5⟩:=((HP1.out.below hK.out.2 dM).below hbV dM).zero;have b1':V.cell? _=_:=(hbV.cell (World.block_lt_of_cell? _ _ b1)).trans b1;have b2':V.cell? _=_:=(hbV.cell (World.block_lt_of_cell? _ _ b2)).trans b2;have v1:V.cell? ⟨wr.heap.size,0,none⟩=some (.string qn):=by rw[hV];exact cell_of_row _ wr.heap.size 0 _ 39 (0,0) (heap_alloc_new wr _)
    have v2:V.cell? ⟨wr.heap.size,1,none⟩=some (.string qv):=by rw[hV];exact cell_of_row _ wr.heap.size 1 _ 39 (0,0) (heap_alloc_new wr _)
    clear hV hbV b1 b2;go_upto_region 6 with fail
    rw[←HV.out];clear a1 a2;go_quiet (fail)
    go_wp2
    go_roundw
    case rel=>exact⟨k+1,by go_num,hid ⟨hlt,hK.out.2.trans ((HBV.out.trans ((below_drewNm V nq).mono HBV.out.size)).mono hK.out.2.size)⟩⟩
    case measure=>simp[intOf];omega
   ·have HPa:=hid (HP0.out.below hK.out.2 dM);have HPb:=hid (HP1.out.below hK.out.2 dM);have hb1:w.heap.size<W0.heap.size:=World.block_lt_of_cell? _ _ HP0.out.x0;have hb2:w.heap.size+1<W0.heap.size:=World.block_lt_of_cell? _ _ HP1.out.x0;have HSZ:=hid (show w.heap.size+1<wr.heap.size by have:=hK.out.2.size;omega);obtain⟨y0,y1,y2,y3,y4,y5⟩:=HPa.out.zero;clear hK hk hb1 hb2 HW0;go_wp2_with fail
    rw[show decide (k<at'.length)=false from decide_eq_false (by omega)];clear hge y0 y1 y2 y3 y4 y5;rename World=>W2
    go_loopw [72] (fun i wx=>∃k:Nat,i=.int .i64 k∧Hid (k≤ks.length∧Below W2.heap.size W2 wx)) (fun i _=>ks.length-(intOf i).toNat)
    case atStart=>exact⟨0,rfl,hid ⟨Nat.zero_le _,Below.refl _ _⟩⟩
    case round =>
     obtain⟨k,rfl,hK⟩:=hrel;have hk:=hK.out.1;have hBw:Below w.heap.size w wr:=HBw.out.trans (hK.out.2.mono HBw.out.size);rcases Nat.lt_or_ge k ks.length with hlt|hge
     ·obtain⟨g,off,c0,c1,c2,c3,c4,c5,rfl,h6,hn⟩:=HK.out.get ks 0 k hlt;obtain⟨g',off',d0,d1,d2,d3,d4,d5,rfl,h6',hn'⟩:=HK'.out.get ks 0 k hlt;rw[Nat.zero_add]at h6 h6'
      have hQ:=h6.below hBw dM;have HNN:=hid (HIH.out ks[k] (HN.out _ (List.getElem_mem hlt)));have HSQ:=hid (SmK.get ks k hlt HSN.out.2.2.2.2);obtain⟨l1,l2,l3,l4,rfl,rfl,rfl,rfl,rfl,rfl⟩:=hn.cells;obtain⟨m1,m2,m3,m4,rfl,rfl,rfl,rfl,rfl,rfl⟩:=hn'.cells;obtain⟨x0,x1,x2,x3,x4,x5⟩:=hQ;obtain⟨V,hV⟩:∃V,V=wr.alloc (.cells #[.int .i64 ks[k].kind,.int .i64 ks[k].space,.string ks[k].name,.slice l1 ks[k].attrs.length l2,.string ks[k].text,.slice l3 ks[k].kids.length l4] 45):=⟨_,rfl⟩
      have hbV:Below wr.heap.size wr V:=by rw[hV];exact(Below.refl _ wr).alloc dM _
      have hBV:Below w.heap.size w V:=hBw.trans (hbV.mono hBw.size);have hQ:=aP wr (.int .i64 ks[k].kind) (.int .i64 ks[k].space) (.string ks[k].name) (.slice l1 ks[k].attrs.length l2) (.string ks[k].text) (.slice l3 ks[k].kids.length l4);rw[←hV]at hQ
      have hQ':=h6'.below hBV dM;have HNa:=hid (hn.below hBV dM);have HNb:=hid (hn'.below hBV dM);obtain⟨S,hS⟩:∃S:World→Prop,∀u,S u↔Below V.heap.size V u:=⟨_,fun _=>Iff.rfl⟩
      have HKV:=hid (hK.out.2.trans (hbV.mono hK.out.2.size));obtain⟨bn,hbn⟩:∃bn,bn=wr.heap.size:=⟨_,rfl⟩
      rw[←hbn]at hQ
      have f0:∀s:WIn S,s.w.cell? ⟨bn,0,none⟩=some (.int .i64 ks[k].kind):=fun s=>(hQ.below ((hS _).1 s.h) dM).x0
      have f1:∀s:WIn S,s.w.cell? ⟨bn,1,none⟩=some (.int .i64 ks[k].space):=fun s=>(hQ.below ((hS _).1 s.h) dM).x1
      have f2:∀s:WIn S,s.w.cell? ⟨bn,2,none⟩=some (.string ks[k].name):=fun s=>(hQ.below ((hS _).1 s.h) dM).x2
      have f3:∀s:WIn S,s.w.cell? ⟨bn,3,none⟩=some (.slice l1 ks[k].attrs.length l2):=fun s=>(hQ.below ((hS _).1 s.h) dM).x3
      have f4:∀s:WIn S,s.w.cell? ⟨bn,4,none⟩=some (.string ks[k].text):=fun s=>(hQ.below ((hS _).1 s.h) dM).x4
      have f5:∀s:WIn S,s.w.cell? ⟨bn,5,none⟩=some (.slice l3 ks[k].kids.length l4):=fun s=>(hQ.below ((hS _).1 s.h) dM).x5
      have g0:∀s:WIn S,s.w.cell? ⟨g',off'+k*6,none⟩=some (.int .i64 ks[k].kind):=fun s=>(hQ'.below ((hS _).1 s.h) dM).x0
      have g1:∀s:WIn S,s.w.cell? ⟨g',off'+k*6+1,none⟩=some (.int .i64 ks[k].space):=fun s=>(hQ'.below ((hS _).1 s.h) dM).x1
      have g2:∀s:WIn S,s.w.cell? ⟨g',off'+k*6+2,none⟩=some (.string ks[k].name):=fun s=>(hQ'.below ((hS _).1 s.h) dM).x2
      have g3:∀s:WIn S,s.w.cell? ⟨g',off'+k*6+3,none⟩=some (.slice m1 ks[k].attrs.length m2):=fun s=>(hQ'.below ((hS _).1 s.h) dM).x3
      have g4:∀s:WIn S,s.w.cell? ⟨g',off'+k*6+4,none⟩=some (.string ks[k].text):=fun s=>(hQ'.below ((hS _).1 s.h) dM).x4
      have g5:∀s:WIn S,s.w.cell? ⟨g',off'+k*6+5,none⟩=some (.slice m3 ks[k].kids.length m4):=fun s=>(hQ'.below ((hS _).1 s.h) dM).x5
      have hy:∀s:WIn S,s.w.cell? ⟨w.heap.size+1,5,none⟩=some (.slice (some ⟨g',off',none⟩) ks.length c'):=fun s=>((HPb.out.below HKV.out dM).below ((hS _).1 s.h) dM).x5
      haveI:Nonempty (WIn S):=⟨⟨V,(hS _).2 (Below.refl _ _)⟩⟩
      have HSS:=hid hS;have HV:=hid hV;clear hn hn' h6 h6' hBw hQ hQ' hS hV hbV hBV;generalize ks[k]=q at *
      go_upto_region 12 with fail
      rw[←HV.out,←hbn];clear hbn;clear x0 x1 x2 x3 x4 x5 HV;refine eK 7 [([0,1,2,3,4,5],6)] [] S (by kernel_rfl) (by kernel_rfl) ((HSS.out _).2 (below_drewNm V 1)) ?_;refine aZ (fun K' hK'=>?_);simp only[pick,pickZ,pickS,pickG];repeat (go_big_quiet_step (fail))
      refine wpQuiet_nil (hK' _ (fun Q1 hQ1=>?_));clear hK' K';simp only[pick,pickZ,pickS,pickG];go_wp2_with fail
      have hBd:=below_drewNm V 1;refine(HNN.out _ _ (V.drewN 1) HSQ (hid (HNa.out.below hBd dM)) (hid (HNb.out.below hBd dM))).mono ?_;unfold bA;rintro e W4 ⟨rfl,B4⟩;have hB4:Below V.heap.size V W4:=hBd.trans (B4.mono hBd.size);have HB4:=hid hB4;clear hBd B4 hB4;go_wp2_with fail
      refine hQ1 _ _ ((HSS.out _).2 HB4.out) (fE (fun K' hK'=>wpQuiet_nil (hK' _ (fun Q4 hQ4=>?_))));clear hQ1 Q1 hK' K' f0 f1 f2 f3 f4 f5 g0 g1 g2 g3 g4 g5 hy;simp only[List.drop_succ_cons,List.drop_zero];go_wp2
      go_roundw
      case rel=>exact⟨k+1,by go_num,hid ⟨hlt,HKV.out.trans (HB4.out.mono HKV.out.size)⟩⟩
      case measure=>simp[intOf];omega
     ·go_wp2
      go_ret;exact⟨rfl,hBw⟩
