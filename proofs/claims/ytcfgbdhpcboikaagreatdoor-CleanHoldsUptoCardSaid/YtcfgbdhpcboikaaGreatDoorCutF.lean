/-
A cut of all elements; append onto a slice that is full.
-/
import Derived.Test.YtcfgbdhpcboikaaGreatDoorValueX
import Derived.Test.YtcfgbdhpcboikaaGreatDoorLaidA
import Derived.Test.YtcfgbdhpcboikaaGreatDoorSchedE
namespace Go.Proofs.YtcfgbdhpcboikaaGreatDoor
open Go.Lib (hid)
set_option maxHeartbeats 8000000
set_option maxRecDepth 100000
open Go.RowKit
theorem dH {n:Nat}:n≤n:=Nat.le_refl n
theorem zC {a w v:World}(h:Hid (Below a.heap.size a w))(b:Below w.heap.size w v):Hid (Below a.heap.size a v):=hid (h.out.trans (b.mono h.out.size))
section
variable {P:Program} {w:World} {ops:Array Oper} {rest:List Oper} {o:Oper} {a:Act} {Q:Exit→Act→World→Prop}
theorem vC (T E:TypeId)(ht:P.underlying T=some (.slice E))(i:TypeInfo)(hi:P.info? E=some i)(w:World)(x:Option Addr)(n c:Nat)(hn:n≤c) :
  (Instr.slice T (.slice x n c) none (some (.int .i64 n)) (some (.int .i64 n))).run P w=.ok (.slice x n n) w:=by
 simp[Instr.slice,run_underlying ht,Instr.sliceBounds,run_sliceBound,sizeOf,typeInfo,hi,hn,Addr.add]
theorem aB1 (w:World)(e:TypeId)(cap:Nat)(n:Nat)(xs:List Value)(zs:Array Value) :
  jE (w.drew.alloc (.cells (xs.toArray++zs) e)) (.slice (some ⟨w.heap.size,0,none⟩) n cap) n xs∧Below w.heap.size w (w.drew.alloc (.cells (xs.toArray++zs) e)):=by
 refine⟨⟨_,_,rfl,fun j u hj=>⟨_,_,rfl,?_⟩⟩,?_⟩
 ·show(w.drew.alloc (.cells (xs.toArray++zs) e)).cell? ⟨w.drew.heap.size,0+j,none⟩=some u;rw[Nat.zero_add,cell_of_row _ _ j (xs.toArray++zs) e (0,0) (heap_alloc_new w.drew _)];have hl:j<xs.length:=(List.getElem?_eq_some_iff.1 hj).1;rw[Array.getElem?_append_left (by simpa using hl)];simpa using hj
 ·exact(Below.refl w.heap.size w).drew.alloc dH _
theorem oW (hgd:o.guard=none)(s x:Operand)(t:TypeId)
  (ho:o.op=.call { callee:=.builtin .append,args:=#[s,x],argTypes:=#[t,t] })
  (e:TypeId) (i:TypeInfo) (z:Value) (bytes:Nat) (ht:P.underlying t=some (.slice e)) (hi:P.info? e=some i) (hz:i.zero=some z) (hsize:i.size=1) (hby:i.bytes=bytes)
  (v:Value) (n:Nat) (xs:List Value) (hs:a.eval s=v) (hv:∃y,v=.slice y n n) (hV:jE w v n xs) (hl:xs.length=n) (u:Value)
  (ad:Addr) (c:Nat) (hx:a.eval x=.slice (some ad) 1 c) (hnews:w.cell? ad=some u) (hb:(n+1)*bytes≤140737488355328) (hn:n≤1000000000)
  (h:∀v' w',Hid (jE w' v' (n+1) (xs++[u]))→Hid (∃y c,v'=.slice y (n+1) c∧n+1≤c)→Hid (Below w.heap.size w w')→wpList P ops Q rest (a.put o.dst v') w'):wpList P ops Q (o :: rest) a w:=by
 refine wpList_plain hgd fun K hK=>?_
 obtain⟨y,rfl⟩:=hv;have hnews':∀j q,[u][j]?=some q→w.cell? (ad.add j)=some q:=by
  intro j q hj;match j,hj with
  | 0,hj =>
   simp at hj;subst hj;simpa [Addr.add]using hnews
 have key:∃v' w',(Builtin.append_ #[t,t] o.type #[.slice y n n,.slice (some ad) 1 c]).run P w=.ok v' w'∧jE w' v' (n+1) (xs++[u])∧(∃y c,v'=.slice y (n+1) c∧n+1≤c)∧Below w.heap.size w w':=by
  subst hby;cases y with
  | none =>
   have hn0:n=0:=by
    rcases Nat.eq_zero_or_pos n with h0|h0
    ·exact h0
    ·obtain⟨a',c',e',h'⟩:=hV;obtain⟨g,off,ha,_⟩:=h' 0 _ (List.getElem?_eq_getElem (by omega));simp only[Value.slice.injEq]at e';rw[←e'.1]at ha
     cases ha
   subst hn0;have hx0:xs=[]:=List.eq_nil_of_length_eq_zero hl;subst hx0;have hr:=run_append_nil (P:=P) (w:=w) t o.type e i z ht hi hz ad 1 c [u] (by simp[hsize]) hnews' (by omega) (by omega) (by omega);obtain⟨h1,h2⟩:=aB1 w e (grownCap w 1 0 e) 1 [u] (Builtin.zeroCells z.cells (grownCap w 1 0 e-1));exact⟨_,_,hr,h1,⟨_,_,rfl,grownCap_ge w 1 0 e⟩,h2⟩
  | some b =>
   have holds:∀j q,xs[j]?=some q→w.cell? (b.add j)=some q:=by
    obtain⟨a',c',e',h'⟩:=hV;intro j q hj;obtain⟨g,off,ha,hc⟩:=h' j q hj;simp only[Value.slice.injEq]at e';rw[←e'.1]at ha
    cases ha;have hadd:(⟨g,off,none⟩:Addr).add j=⟨g,off+j,none⟩:=by unfold Addr.add;split<;>simp_all
    rw[hadd];exact hc
   have hr:=run_append_grow (P:=P) (w:=w) t o.type e i z ht hi hz b n n xs (by rw[hsize];omega) holds ad 1 c [u] (by simp[hsize]) hnews' (by omega) (by omega) (growslice_fits (by omega) hb);obtain⟨h1,h2⟩:=aB1 w e (grownCap w (n+1) n e) (n+1) (xs++[u]) (Builtin.zeroCells z.cells (grownCap w (n+1) n e-(n+1)));refine⟨_,_,hr,?_,⟨_,_,rfl,grownCap_ge w (n+1) n e⟩,?_⟩
   ·simpa using h1
   ·simpa using h2
 obtain⟨v',w',hr,h1,hcap,h2⟩:=key;unfold Oper.wp execOp;simp only[ho,resolve,invoke,builtin,Sem.run_bind,Sem.run_pure,Result.andThen_ok,List.map_toArray,List.map_cons,List.map_nil,hs,hx,hr];exact hK _ _ (h v' w' h1 hcap h2)
end
open Go.RowKit
def iA:ByteArray:=⟨#[99,97,112,116,105,111,110]⟩
abbrev dQ:=ByteArray→ByteArray→ByteArray→Option ByteArray
def dB (n:Nd):Bool:=vD n.kind n.space n.name n.text n.attrs.length n.kids.length
def mZ (n:Nd):Bool:=pX n.kind n.space n.text
def lR:Option Nd→Bool
 | some n=>decide (n.kind=2)
 | none=>false
def oQ (VV:dQ)(pn:ByteArray)(ph:List ByteArray)(prev:Option Nd)(k:Nd):Prop :=
 (dB k=true∧jI pn.data.toList=true∧lR prev=false) ∨
 (dB k=false∧mZ k=true∧rW pn.data.toList k.name.data.toList=true∧k.name∉ph∧¬(k.name=iA∧prev.isSome=true)∧gV (VV k.name) k.attrs k.attrs)
mutual
def eF (VV:dQ):List ByteArray→Nd→Prop
 | ph,.mk _ _ nm _ _ ks=>bX VV nm (if bO nm.data.toList=4 then ph++[nm]else ph) none ks
def bX (VV:dQ)(pn:ByteArray)(ph:List ByteArray):Option Nd→List Nd→Prop
 | _,[]=>True
 | prev,k :: ks=>(oQ VV pn ph prev k∧(dB k=false→eF VV ph k))∧bX VV pn ph (some k) ks
end
def iM (ks:List Nd)(j:Nat):Option Nd:=if j=0 then none else ks[j-1]?
theorem yA (VV:dQ)(pn:ByteArray)(ph:List ByteArray)(ks:List Nd)(j:Nat)(h:j<ks.length) :
  bX VV pn ph (iM ks j) (ks.drop j)↔(oQ VV pn ph (iM ks j) ks[j]∧(dB ks[j]=false→eF VV ph ks[j]))∧bX VV pn ph (iM ks (j+1)) (ks.drop (j+1)):=by
 rw[List.drop_eq_getElem_cons h];conv=>lhs;unfold bX
 have:iM ks (j+1)=some ks[j]:=by
  unfold iM;rw[if_neg (by omega),Nat.add_sub_cancel,List.getElem?_eq_getElem h]
 rw[this]
theorem aG6 (ks:List Nd)(j:Nat)(hj:j≤ks.length):(iM ks j).isSome=decide (0<j):=by
 unfold iM;by_cases h:j=0
 ·rw[if_pos h,h];rfl
 ·rw[if_neg h,List.getElem?_eq_getElem (by omega)];simp;omega
theorem aH7 (ks:List Nd)(q:Nat)(hq:q<ks.length):lR (iM ks (q+1))=decide (ks[q].kind=2):=by
 unfold iM lR;rw[if_neg (by omega),Nat.add_sub_cancel,List.getElem?_eq_getElem hq]
open Go.RowKit
mutual
def SmN:Nd→Prop
 | .mk _ _ nm at' tx ks=>nm.size≤1048576∧tx.size≤100000000∧at'.length≤1048576∧(∀x∈at',x.1.size≤1048576∧x.2.size≤1048576)∧SmK ks
def SmK:List Nd→Prop
 | []=>True
 | n :: ks=>SmN n∧SmK ks
end
theorem SmK.get:∀(ks:List Nd) (j:Nat) (h:j<ks.length),SmK ks→SmN ks[j]:=by
 intro ks;induction ks with
 | nil=>intro j h;simp at h
 | cons n ks ih =>
  intro j h hs;unfold SmK at hs;cases j with
  | zero=>exact hs.1
  | succ j=>exact ih j (by simpa using h) hs.2
theorem SmN.get {n:Nd}(h:SmN n):n.name.size≤1048576∧n.text.size≤100000000∧n.attrs.length≤1048576∧(∀x∈n.attrs,x.1.size≤1048576∧x.2.size≤1048576)∧SmK n.kids:=by
 cases n;unfold SmN at h;exact h
open Go.RowKit
def zJ (VV:dQ):Prop:=∀e n v,e.size≤1048576→n.size≤1048576→v.size≤1048576→kG e n v (VV e n v)
structure kL (VV:dQ) (ks:List Nd) (nm:ByteArray) (ph:List ByteArray) (r:Bool) (k:Nat):Prop where
 le:k≤ks.length
 iff:r=true↔bX VV nm ph (iM ks k) (ks.drop k)
theorem kL.start {VV:dQ}{ks:List Nd}{nm:ByteArray}{ph:List ByteArray}{r:Bool}(h:r=true↔bX VV nm ph none ks):kL VV ks nm ph r 0:=⟨Nat.zero_le _,h⟩
theorem kL.done {VV:dQ}{ks:List Nd}{nm:ByteArray}{ph:List ByteArray}{r:Bool}{k:Nat}(h:kL VV ks nm ph r k)(hk:ks.length≤k):r=true:=by
 rw[h.iff,List.drop_eq_nil_of_le hk];unfold bX;trivial
theorem kL.no {VV:dQ}{ks:List Nd}{nm:ByteArray}{ph:List ByteArray}{r:Bool}{k:Nat}(h:kL VV ks nm ph r k)(hk:k<ks.length)(hn:¬(oQ VV nm ph (iM ks k) ks[k]∧(dB ks[k]=false→eF VV ph ks[k]))):r=false:=by
 cases hr:r with
 | false=>rfl
 | true=>exact absurd ((yA VV nm ph ks k hk).1 (h.iff.1 hr)).1 hn
theorem kL.yes {VV:dQ}{ks:List Nd}{nm:ByteArray}{ph:List ByteArray}{r:Bool}{k:Nat}(h:kL VV ks nm ph r k)(hk:k<ks.length)(hn:oQ VV nm ph (iM ks k) ks[k]∧(dB ks[k]=false→eF VV ph ks[k])):kL VV ks nm ph r (k+1):=by
 refine⟨hk,?_⟩;rw[h.iff,yA VV nm ph ks k hk];exact⟨fun x=>x.2,fun x=>⟨hn,x⟩⟩
theorem aBW {VV:dQ}{pn:ByteArray}{ph:List ByteArray}{prev:Option Nd}{q:Nd}(hw:dB q=true)(h:jI pn.data.toList=true)(hp:lR prev=false):oQ VV pn ph prev q∧(dB q=false→eF VV ph q) :=
 ⟨.inl ⟨hw,h,hp⟩,fun e=>by rw[hw]at e;cases e⟩
theorem wC {VV:dQ}{pn:ByteArray}{ph:List ByteArray}{prev:Option Nd}{q:Nd}(hw:dB q=true)(h:jI pn.data.toList=false∨lR prev=true):¬(oQ VV pn ph prev q∧(dB q=false→eF VV ph q)):=by
 rintro⟨h1|h1,_⟩
 ·rcases h with h|h
  ·rw[h1.2.1]at h;cases h
  ·rw[h1.2.2]at h;cases h
 ·rw[hw]at h1;cases h1.1
theorem aJd {VV:dQ}{pn:ByteArray}{ph:List ByteArray}{prev:Option Nd}{q:Nd}(hw:dB q=false)(h1:mZ q=true)(h2:rW pn.data.toList q.name.data.toList=true)(h3:q.name∉ph)(h4:¬(q.name=iA∧prev.isSome=true))(h5:gV (VV q.name) q.attrs q.attrs)(h6:eF VV ph q):oQ VV pn ph prev q∧(dB q=false→eF VV ph q) :=
 ⟨.inr ⟨hw,h1,h2,h3,h4,h5⟩,fun _=>h6⟩
theorem jR {VV:dQ}{pn:ByteArray}{ph:List ByteArray}{prev:Option Nd}{q:Nd}(hw:dB q=false)(h:mZ q=false∨rW pn.data.toList q.name.data.toList=false∨q.name∈ph∨(q.name=iA∧prev.isSome=true)∨¬gV (VV q.name) q.attrs q.attrs∨¬eF VV ph q):¬(oQ VV pn ph prev q∧(dB q=false→eF VV ph q)):=by
 rintro⟨h1|h1,h2⟩
 ·rw[hw]at h1;cases h1.1
 ·obtain⟨_,a1,a2,a3,a4,a5⟩:=h1;rcases h with h|h|h|h|h|h
  ·rw[a1]at h;cases h
  ·rw[a2]at h;cases h
  ·exact a3 h
  ·exact a4 h
  ·exact h a5
  ·exact h (h2 hw)
theorem rO (VV:dQ)(n:Nd)(ph:List ByteArray):eF VV ph n↔bX VV n.name (if bO n.name.data.toList=4 then ph++[n.name]else ph) none n.kids:=by
 cases n;conv=>lhs;unfold eF
 exact Iff.rfl
theorem aL.attrs {w:World}{n:Nd}{c0 c1 c2 c4 c5:Value}{a:Option Addr}{m b:Nat}(h:aL w n (.agg #[c0,c1,c2,.slice a m b,c4,c5])):eI w (.slice a m b) n.attrs:=by
 obtain⟨av,a',c',e,hA,_,_⟩:=h.get;simp only[Value.agg.injEq]at e;have e3:=congrArg (fun x:Array Value=>x[3]?) e;simp at e3;rw[e3];exact hA
open Go.RowKit
theorem aHu (VV:dQ)(hV:Hid (zJ VV)):∀(m:Nat) (n:Nd),n.sz≤m→∀(v pv:Value) (ph:List ByteArray) (r:Bool) (w:World),Hid (aC w)→Hid (SmN n)→Hid (ph.length+n.sz≤2000000)→Hid (aL w n v)→Hid (Phr w pv ph)→Hid (r=true↔eF VV ph n) →
  Calls Tryz.prog 92 #[v,pv] w (bA r w):=by
 intro m;induction m with
 | zero=>intro n hn;exact absurd (eG n) (by omega)
 | succ m ih =>
  intro n hn v pv ph r w HT HS HL hN hP hr;obtain⟨i9,hi9,hz9,hs9,hb9⟩:=info_parts Tryz.info9;obtain⟨av,a,c,rfl,hA,hK,hlen⟩:=hN.out.get;obtain⟨pa,pc,rfl,hpc⟩:=hP.out.cap;have HK:=hid hK;have HIH:=hid ih;have hsz:=eE n;have hm:=iZ n.kids;have HN:=hid (show ∀k∈n.kids,k.sz≤m∧ph.length+1+k.sz≤2000000 by intro k hk;have h1:=hm.1 k hk;have h2:=HL.out;omega);have hkl:n.kids.length≤2000000:=by have h2:=HL.out;omega
  have hpl:ph.length≤2000000:=by have h2:=HL.out;omega
  have HSN:=hid HS.out.get;have hr2:=hr.out;rw[rO]at hr2
  have HR:=hid hr2;clear hA hK ih hn hN hr hr2 hsz hm HL HS;generalize n.kids=ks at *
  generalize n.name=nm at *
  generalize n.kind=kd at *
  generalize n.space=sp at *
  generalize n.text=tx at *
  generalize n.attrs=at' at *
  have HKA:=hid (fun W=>nR nm W);generalize bO nm.data.toList=K at *
  obtain⟨W0,hW0⟩:∃W0,W0=w.alloc (.cells #[.int .i64 kd,.int .i64 sp,.string nm,av,.string tx,.slice a ks.length c] 45):=⟨_,rfl⟩
  have hB0:Below w.heap.size w W0:=by rw[hW0];exact(Below.refl _ w).alloc dH _
  have hz:W0.heap.size=w.heap.size+1:=by rw[hW0];simp
  have hP0:=(bG w (.int .i64 kd) (.int .i64 sp) (.string nm) av (.string tx) (.slice a ks.length c))
  rw[←hW0]at hP0
  obtain⟨y0,y1,y2,y3,y4,y5⟩:=hP0.zero;have HP0:=hid hP0;have HB0:=hid hB0;have HZ:=hid hz;have HW0:=hid hW0;have HPH:=hid (hP.out.below hB0 dH);clear hP0 hB0 hz hW0 hP;go_enter Tryz.func92,Tryz.ntmps92
  go_wp2_with fail
  rw[←HW0.out];refine(HKA.out _).mono ?_;rintro e w' ⟨rfl,rfl⟩;go_upto_if 10 with fail
  go_cut [1] (fun p wx=>Hid (Phr wx p (if K=4 then ph++[nm]else ph))∧Hid (Below W0.heap.size W0 wx))
  case first =>
   by_cases hk:K=4
   ·have e1:((K:Int)==4)=true:=by rw[beq_iff_eq];omega
    have HKK:=hid hk;clear hk;go_wp2_with fail
    obtain⟨S,hS⟩:∃S:World→Prop,∀u,S u↔Below W0.heap.size W0 u:=⟨_,fun _=>Iff.rfl⟩
    have f1:∀s:WIn S,s.w.cell? ⟨w.heap.size,2,none⟩=some (.string nm):=fun s=>(HP0.out.below ((hS _).1 s.h) dH).x2
    haveI:Nonempty (WIn S):=⟨⟨W0,(hS _).2 (Below.refl _ _)⟩⟩
    have HSS:=hid hS;clear hS y0 y1 y2 y3 y4 y5;refine eV 10 [([0,1,2,3,4,5,6,7],8),([],9)] [] S (by kernel_rfl) (by kernel_rfl) ((HSS.out _).2 (below_drewNm W0 1)) ?_;refine bJ (fun K' hK'=>?_);simp only[pick,pickZ,pickS,pickG];repeat (go_big_quiet_step (first|rw[vC 55 9 Tryz.underlying55 i9 hi9]|fail))
    refine wpQuiet_nil (hK' _ (fun Q1 hQ1=>?_));clear hK' K';simp only[pick,pickZ,pickS,pickG];go_wp2
    have hB1:Below W0.heap.size W0 ((W0.drewN 1).alloc (.cells #[.string nm] 9)):=(below_drewNm W0 1).alloc dH _;have HB1:=hid hB1;have hnew:((W0.drewN 1).alloc (.cells #[.string nm] 9)).cell? ⟨W0.heap.size,0,none⟩=some (.string nm):=by rw[cell_of_row _ W0.heap.size 0 _ 9 (0,0) (heap_alloc_new (W0.drewN 1) _)];rfl
    refine hQ1 _ _ ((HSS.out _).2 hB1) (bJ (fun K' hK'=>wpQuiet_nil (hK' _ (fun Q2 hQ2=>?_))));clear hK' K' hQ1 Q1 hB1;simp only[pick,pickZ,pickS,pickG];have HPH1:=hid (HPH.out.below HB1.out dH);have hvec:jE ((W0.drewN 1).alloc (.cells #[.string nm] 9)) (.slice pa ph.length ph.length) ph.length (ph.map pM):=by
     obtain⟨a',c',e',h'⟩:=HPH1.out.vec;simp only[Value.slice.injEq]at e';exact⟨a',_,by rw[e'.1],h'⟩
    have HVEC:=hid hvec;have HNEW:=hid hnew;clear hvec hnew;go_wp2_with (at_builtin;refine oW rfl _ _ 55 rfl 9 i9 (.string ⟨#[]⟩) 16 Tryz.underlying55 hi9 hz9 hs9 hb9 _ ph.length (ph.map pM) rfl ⟨_,rfl⟩ HVEC.out (List.length_map ..) _ _ _ rfl HNEW.out (by omega) (by omega) ?_)
    intro v' w' hv' hc' hb';have hB2:Below W0.heap.size W0 w':=HB1.out.trans (hb'.out.mono (by omega));have HB2:=hid hB2;clear hB2;go_wp2_with fail
    refine hQ2 _ _ ((HSS.out _).2 HB2.out) (fJ (fun K' hK'=>wpQuiet_nil (hK' _ (fun Q4 hQ4=>?_))));clear hQ2 Q2 hK' K' f1;simp only[List.drop_succ_cons,List.drop_zero];go_wp2_with fail
    go_meet
    case rel =>
     refine⟨?_,HB2⟩;rw[if_pos HKK.out];obtain⟨y',c',e1,e2⟩:=hc'.out;exact hid ⟨by rw[List.length_append,List.map_append];exact hv'.out,⟨y',c',by rw[List.length_append];exact e1,by rw[List.length_append];exact e2⟩⟩
   ·have e1:((K:Int)==4)=false:=by rw[beq_eq_false_iff_ne];omega
    have HKK:=hid hk;clear hk;go_wp2_with fail
    go_meet
    case rel=>exact⟨by rw[if_neg HKK.out];exact HPH,hid (Below.refl _ _)⟩
  case rest =>
   obtain⟨hPh,hBc⟩:=hcut;obtain⟨ph2,hph2⟩:∃ph2,ph2=if K=4 then ph++[nm]else ph:=⟨_,rfl⟩
   rw[←hph2]at hPh HR
   have hpl2:ph2.length≤2000001:=by
    rw[hph2];split
    ·rw[List.length_append,List.length_singleton];omega
    ·omega
   have HN2:=hid (show ∀k∈ks,k.sz≤m∧ph2.length+k.sz≤2000000 by
    intro k hk;have h1:=HN.out k hk;refine⟨h1.1,?_⟩;rw[hph2];split
    ·rw[List.length_append,List.length_singleton];omega
    ·omega)
   clear hph2 HN HPH y0 y1 y2 y3 y4 y5;have hBw:Below w.heap.size w wc:=HB0.out.trans (hBc.out.mono HB0.out.size);have HBw:=hid hBw;obtain⟨y0,y1,y2,y3,y4,y5⟩:=(HP0.out.below hBc.out dH).zero;have HHA:=hid (kL.start HR.out);clear hBw;go_wp2_with fail
   go_loopw [4,24] (fun _ i wx=>∃k:Nat,i=.int .i64 k∧Hid (kL VV ks nm ph2 r k)∧Hid (Below wc.heap.size wc wx)) (fun _ i _=>ks.length-(intOf i).toNat)
   case atStart=>exact⟨0,rfl,HHA,hid (Below.refl _ _)⟩
   case round =>
    obtain⟨k,rfl,hHA,hB⟩:=hrel;have hk:=hHA.out.le;rcases Nat.lt_or_ge k ks.length with hlt|hge
    ·have hst:=HHA;obtain⟨g,off,c0,c1,c2,c3,c4,c5,rfl,h6,hn⟩:=HK.out.get ks 0 k hlt;rw[Nat.zero_add]at h6
     have HPV:=hid (show 0<k→∃hj:k-1<ks.length,wr.cell? ⟨g,off+(k-1)*6,none⟩=some (.int .i64 (ks[k-1]'hj).kind) by
      intro h0;have hj:k-1<ks.length:=by omega
      obtain⟨g',off',d0,d1,d2,d3,d4,d5,e',h6',hn'⟩:=HK.out.get ks 0 (k-1) hj;rw[Nat.zero_add]at h6'
      cases e';obtain⟨_,_,_,_,rfl,_⟩:=hn'.cells;exact⟨hj,(h6'.below (HBw.out.trans (hB.out.mono HBw.out.size)) dH).x0⟩)
     have hBr:Below w.heap.size w wr:=HBw.out.trans (hB.out.mono HBw.out.size);obtain⟨x0,x1,x2,x3,x4,x5⟩:=h6.below hBr dH;obtain⟨a1,b1,a2,b2,rfl,rfl,rfl,rfl,rfl,rfl⟩:=hn.cells;have HND:=hid (hn.below hBr dH);have HSQ:=hid (SmK.get ks k hlt HSN.out.2.2.2.2);have HIQ:=hid (HIH.out ks[k] (HN2.out _ (List.getElem_mem hlt)).1);have HLQ:=hid (HN2.out _ (List.getElem_mem hlt)).2;have HNO:=hid (hHA.out.no hlt);have HYES:=hid (hHA.out.yes hlt);have HBr:=hid hBr;clear hst hn h6 hBr;generalize ks[k]=q at *
     obtain⟨W1,hW1⟩:∃W1,W1=wr.alloc (.cells #[.int .i64 q.kind,.int .i64 q.space,.string q.name,.slice a1 q.attrs.length b1,.string q.text,.slice a2 q.kids.length b2] 45):=⟨_,rfl⟩
     have hB1:Below wr.heap.size wr W1:=by rw[hW1];exact(Below.refl _ wr).alloc dH _
     have hP1:=bG wr (.int .i64 q.kind) (.int .i64 q.space) (.string q.name) (.slice a1 q.attrs.length b1) (.string q.text) (.slice a2 q.kids.length b2);rw[←hW1]at hP1
     have HP1:=hid hP1;have HB1:=hid hB1;have HW1:=hid hW1;have HND1:=hid (HND.out.below hB1 dH);clear hB1 hP1 hW1 HND;go_wp2_with fail
     rw[←HW1.out];have hBw1:Below w.heap.size w W1:=HBr.out.trans (HB1.out.mono HBr.out.size);refine(aBU q.kind q.space q.name q.text (by have:=HSQ.out.get.2.1;omega) a1 q.attrs.length b1 a2 q.kids.length b2 W1 (HT.out.below hBw1 dH) (dB q) (hid rfl)).mono ?_;unfold bA;rintro e W2 ⟨rfl,B2⟩;have HP2:=hid (HP1.out.below B2 dH);have HND2:=hid (HND1.out.below B2 dH);have hB12:Below wr.heap.size wr W2:=HB1.out.trans (B2.mono HB1.out.size);have HB2:=hid hB12;have HBw2:=zC HBr hB12;have HBc2:=zC hB hB12;clear HP1 HND1 HB1 hBw1 B2 hB12;obtain⟨y0,y1,y2,y3,y4,y5⟩:=((HP0.out.below hBc.out dH).below HBc2.out dH).zero;cases hw:dB q with
     | true =>
      have HWQ:=hid hw;clear hw;go_wp2_with fail
      refine(aBT nm W2).mono ?_;rintro e w' ⟨rfl,rfl⟩;cases ht:jI nm.data.toList with
      | false =>
       have HF:=hid (HNO.out (wC HWQ.out (.inl ht)));clear ht;go_wp2
       go_ret;exact⟨by rw[HF.out];rfl,HBw2.out⟩
      | true =>
       rcases Nat.eq_zero_or_pos k with h0|h0
       ·subst h0;have HF:=hid (HYES.out (aBW HWQ.out ht rfl));clear ht;go_wp2
        go_roundw
        case rel=>exact⟨1,rfl,HF,HBc2⟩
        case measure=>simp[intOf];omega
       ·obtain⟨hj,hc⟩:=HPV.out h0;have hpt:=aH7 ks (k-1) hj;rw[show k-1+1=k by omega]at hpt
        have hc2:W2.cell? ⟨g,off+(k-1)*6,none⟩=some (.int .i64 (ks[k-1]).kind):=by
         rw[HB2.out.cell (p:=⟨g,off+(k-1)*6,none⟩) (World.block_lt_of_cell? _ _ hc)];exact hc
        have HPT:=hid hpt;have HTT:=hid ht;clear hc hpt ht;generalize ks[k-1].kind=pk at *
        by_cases hp2:pk=2
        ·have e1:(pk==2)=true:=by rw[beq_iff_eq];exact hp2
         have HF:=hid (HNO.out (wC HWQ.out (.inr (HPT.out.trans (decide_eq_true hp2)))));clear hp2;go_wp2
         go_ret;exact⟨by rw[HF.out];rfl,HBw2.out⟩
        ·have e1:(pk==2)=false:=by rw[beq_eq_false_iff_ne];exact hp2
         have HF:=hid (HYES.out (aBW HWQ.out HTT.out (HPT.out.trans (decide_eq_false hp2))));clear hp2;go_wp2
         go_roundw
         case rel=>exact⟨k+1,by go_num,HF,HBc2⟩
         case measure=>simp[intOf];omega
     | false =>
      have HWQ:=hid hw;clear hw;obtain⟨z0,z1,z2,z3,z4,z5⟩:=HP2.out.zero;go_wp2_with fail
      refine(zA q.kind q.space q.name q.text (.slice a1 q.attrs.length b1) (.slice a2 q.kids.length b2) W2 (mZ q) (hid rfl)).mono ?_;unfold bA;rintro e W3 ⟨rfl,B3⟩;have HP3:=hid (HP2.out.below B3 dH);have HND3:=hid (HND2.out.below B3 dH);have hB13:Below wr.heap.size wr W3:=HB2.out.trans (B3.mono HB2.out.size);have HB3:=hid hB13;have HBw3:=zC HBr hB13;have HBc3:=zC hB hB13;clear y0 y1 y2 y3 y4 y5 z0 z1 z2 z3 z4 z5 HP2 HND2 HB2 HBw2 HBc2 B3 hB13;obtain⟨y0,y1,y2,y3,y4,y5⟩:=((HP0.out.below hBc.out dH).below HBc3.out dH).zero;obtain⟨z0,z1,z2,z3,z4,z5⟩:=HP3.out.zero;cases he:mZ q with
      | false =>
       have HF:=hid (HNO.out (jR HWQ.out (.inl he)));clear he;go_wp2
       go_ret;exact⟨by rw[HF.out];rfl,HBw3.out⟩
      | true =>
       have HE:=hid he;clear he;go_wp2_with fail
       refine(aFu nm q.name W3).mono ?_;rintro e w' ⟨rfl,rfl⟩;cases hm:rW nm.data.toList q.name.data.toList with
       | false =>
        have HF:=hid (HNO.out (jR HWQ.out (.inr (.inl hm))));clear hm;go_wp2
        go_ret;exact⟨by rw[HF.out];rfl,HBw3.out⟩
       | true =>
        have HM:=hid hm;clear hm;have hPh3:=hPh.out.below HBc3.out dH;have C:=nF u1 ph2 q.name W3 (by omega) hPh3.vec _ rfl;have HC:=hid C;have HPh3:=hid hPh3;clear C hPh3;go_wp2_with fail
        refine HC.out.mono ?_;rintro e w' ⟨rfl,rfl⟩;clear HC;cases hct:Lib.containsS ph2 q.name with
        | true =>
         have HF:=hid (HNO.out (jR HWQ.out (.inr (.inr (.inl ((Lib.containsS_iff _ _).1 hct))))));clear hct;go_wp2
         go_ret;exact⟨by rw[HF.out];rfl,HBw3.out⟩
        | false =>
         have HCT:=hid (show q.name∉ph2 from fun h=>by rw[(Lib.containsS_iff _ _).2 h]at hct;cases hct);clear hct;have HPS:=hid (aG6 ks k hk);obtain⟨c1,hc1⟩:∃c1:Bool,(q.name.toList==[99,97,112,116,105,111,110])=c1:=⟨_,rfl⟩
         have hcap:q.name=iA→c1=true:=fun h=>by rw[←hc1,h];decide +kernel
         have hcap2:c1=true→q.name=iA:=fun h=>by
          rw[h]at hc1
          exact fL (by rw[←toList_data,eq_of_beq hc1];rfl)
         have hways:(c1=true∧0<k)∨(c1=true∧¬ 0<k)∨c1=false:=by
          cases c1
          ·exact .inr (.inr rfl)
          ·by_cases h:0<k
           ·exact .inl ⟨rfl,h⟩
           ·exact .inr (.inl ⟨rfl,h⟩)
         rcases hways with⟨rfl,hpos⟩|hways
         ·have HF:=hid (HNO.out (jR HWQ.out (.inr (.inr (.inr (.inl ⟨hcap2 rfl,HPS.out.trans (decide_eq_true hpos)⟩))))));clear hcap hcap2;go_wp2
          go_ret;exact⟨by rw[HF.out];rfl,HBw3.out⟩
         have HCAP:Hid (¬(q.name=iA∧(iM ks k).isSome=true)):=by
          rintro⟨h1,h2⟩;have h3:=hcap h1;rw[HPS.out]at h2
          have h4:=of_decide_eq_true h2;rcases hways with⟨_,h5⟩|h5
          ·exact h5 h4
          ·rw[h5]at h3;cases h3
         clear hcap hcap2;rcases hways with hways|hways
         all_goals (first|obtain⟨rfl,_⟩:=hways|obtain rfl:=hways)
         all_goals go_upto_region 11 with fail
         all_goals (
          clear hc1;obtain⟨S,hS⟩:∃S:World→Prop,∀u,S u↔Below W3.heap.size W3 u:=⟨_,fun _=>Iff.rfl⟩
          have g0:∀s:WIn S,s.w.cell? ⟨wr.heap.size,0,none⟩=some (.int .i64 q.kind):=fun s=>(HP3.out.below ((hS _).1 s.h) dH).x0
          have g1:∀s:WIn S,s.w.cell? ⟨wr.heap.size,1,none⟩=some (.int .i64 q.space):=fun s=>(HP3.out.below ((hS _).1 s.h) dH).x1
          have g2:∀s:WIn S,s.w.cell? ⟨wr.heap.size,2,none⟩=some (.string q.name):=fun s=>(HP3.out.below ((hS _).1 s.h) dH).x2
          have g3:∀s:WIn S,s.w.cell? ⟨wr.heap.size,3,none⟩=some (.slice a1 q.attrs.length b1):=fun s=>(HP3.out.below ((hS _).1 s.h) dH).x3
          have g4:∀s:WIn S,s.w.cell? ⟨wr.heap.size,4,none⟩=some (.string q.text):=fun s=>(HP3.out.below ((hS _).1 s.h) dH).x4
          have g5:∀s:WIn S,s.w.cell? ⟨wr.heap.size,5,none⟩=some (.slice a2 q.kids.length b2):=fun s=>(HP3.out.below ((hS _).1 s.h) dH).x5
          haveI:Nonempty (WIn S):=⟨⟨W3,(hS _).2 (Below.refl _ _)⟩⟩
          have HSS:=hid hS;clear hS y0 y1 y2 y3 y4 y5 z0 z1 z2 z3 z4 z5;refine eV 14 [([0,1,2,3,5,6],4),([],7),([8,9,10,11],12)] [13] S (by kernel_rfl) (by kernel_rfl) ((HSS.out _).2 (below_drewNm W3 1)) ?_;refine bJ (fun K' hK'=>?_);simp only[pick,pickZ,pickS,pickG];repeat (go_big_quiet_step (fail))
          refine wpQuiet_nil (hK' _ (fun Q1 hQ1=>?_));clear hK' K';simp only[pick,pickZ,pickS,pickG];go_wp2_with fail
          have hB3d:Below W3.heap.size W3 (W3.drewN 1):=below_drewNm W3 1;have hA3:=HND3.out.attrs;have HA3:=hid hA3;have hBd:Below w.heap.size w (W3.drewN 1):=HBw3.out.trans (hB3d.mono HBw3.out.size);refine(aAY q.name (by have:=HSQ.out.get.1;omega) (VV q.name) (hid (fun n v h1 h2=>hV.out q.name n v HSQ.out.get.1 h1 h2)) q.attrs HSQ.out.get.2.2.1 (hid HSQ.out.get.2.2.2.1) (.slice a1 q.attrs.length b1) (W3.drewN 1) (HT.out.below hBd dH) (hid (HA3.out.below hB3d dH))).mono ?_;unfold aCu;rintro e W4 ⟨v4,r4,rfl,hr4,hO4⟩;have hB34:Below W3.heap.size W3 W4:=hB3d.trans (hO4.bel.mono hB3d.size);have HB34:=hid hB34;have HR4:=hid hr4;have HV4:=hid hO4.attrs;have HA4:=hid (HA3.out.below hB34 dH);have HL4:=hid (show r4.length≤1000000000 by
           have h1:=hr4.1.length_eq;have h2:=aB3 (VV q.name) q.attrs [];have h3:=HSQ.out.get.2.2.1;omega)
          clear hB34 hr4 hO4 hA3 hB3d hBd;go_wp2_with fail
          refine hQ1 _ _ ((HSS.out _).2 HB34.out) (bJ (fun K' hK'=>wpQuiet_nil (hK' _ (fun Q2 hQ2=>?_))));clear hK' K' hQ1 Q1;simp only[pick,pickZ,pickS,pickG];go_wp2_with fail
          obtain⟨be,hbe⟩:∃be:Bool,decide (r4=q.attrs)=be:=⟨_,rfl⟩
          refine(aCe v4 (.slice a1 q.attrs.length b1) r4 q.attrs HL4.out (by have:=HSQ.out.get.2.2.1;omega) W4 HV4 HA4 be (hid hbe)).mono ?_;unfold bA;rintro e W5 ⟨rfl,B5⟩;have hB35:Below W3.heap.size W3 W5:=HB34.out.trans (B5.mono HB34.out.size);have HB35:=hid hB35;have hBw5:Below w.heap.size w W5:=HBw3.out.trans (hB35.mono HBw3.out.size);have HBw5:=hid hBw5;clear hB35 hBw5 B5;cases be with
          | false =>
           have HF:=hid (HNO.out (jR HWQ.out (.inr (.inr (.inr (.inr (.inl (fun h=>of_decide_eq_false hbe (rB HR4.out h)))))))));clear hbe;go_wp2_with fail
           refine hQ2 _ _ ((HSS.out _).2 HB35.out) (bJ (fun K' hK'=>?_));clear hQ2 Q2;simp only[pick,pickZ,pickS,pickG];repeat (go_big_quiet_step (fail))
           refine wpQuiet_nil (hK' _ (fun Q3 hQ3=>?_));clear hK' K';simp only[pick,pickZ,pickS,pickG];go_wp2_with fail
           refine hQ3 _ _ ((HSS.out _).2 HB35.out) (fJ (fun K' hK'=>?_));clear hQ3 Q3;simp only[pick,pickZ,pickS,pickG];repeat (go_big_quiet_step (fail))
           refine wpQuiet_nil (hK' _ (fun Q4 hQ4=>?_));clear hK' K';simp only[List.drop_succ_cons,List.drop_zero];clear g0 g1 g2 g3 g4 g5;go_wp2
           go_ret;exact⟨by rw[HF.out];rfl,HBw5.out⟩
          | true =>
           have HEQ:=hid (show gV (VV q.name) q.attrs q.attrs by
            have h1:=HR4.out;rw[of_decide_eq_true hbe]at h1
            exact h1)
           clear hbe;obtain⟨b5,hb5⟩:∃b5:Bool,b5=true↔eF VV ph2 q:=by
            by_cases h:eF VV ph2 q
            ·exact⟨true,fun _=>h,fun _=>rfl⟩
            ·exact⟨false,⟨fun e=>(by cases e),fun e=>absurd e h⟩⟩
           have HB5:=hid hb5;clear hb5;go_wp2_with fail
           refine hQ2 _ _ ((HSS.out _).2 HB35.out) (bJ (fun K' hK'=>?_));clear hQ2 Q2;simp only[pick,pickZ,pickS,pickG];repeat (go_big_quiet_step (fail))
           refine wpQuiet_nil (hK' _ (fun Q3 hQ3=>?_));clear hK' K';simp only[pick,pickZ,pickS,pickG];go_wp2_with fail
           refine(HIQ.out _ u1 ph2 b5 W5 (hid (HT.out.below HBw5.out dH)) HSQ HLQ (hid (HND3.out.below HB35.out dH)) (hid (HPh3.out.below HB35.out dH)) HB5).mono ?_;unfold bA;rintro e W6 ⟨rfl,B6⟩;have hB36:Below W3.heap.size W3 W6:=HB35.out.trans (B6.mono HB35.out.size);have HB36:=hid hB36;have HBw6:=zC HBw3 hB36;have HBc6:=zC HBc3 hB36;clear hB36 B6;go_wp2_with fail
           refine hQ3 _ _ ((HSS.out _).2 HB36.out) (fJ (fun K' hK'=>?_));clear hQ3 Q3;simp only[pick,pickZ,pickS,pickG];repeat (go_big_quiet_step (fail))
           refine wpQuiet_nil (hK' _ (fun Q4 hQ4=>?_));clear hK' K';simp only[List.drop_succ_cons,List.drop_zero];clear g0 g1 g2 g3 g4 g5;cases b5 with
           | false =>
            have HF:=hid (HNO.out (jR HWQ.out (.inr (.inr (.inr (.inr (.inr (fun h=>by have:=HB5.out.2 h;cases this))))))));go_wp2
            go_ret;exact⟨by rw[HF.out];rfl,HBw6.out⟩
           | true =>
            have HF:=hid (HYES.out (aJd HWQ.out HE.out HM.out HCT.out HCAP.out HEQ.out (HB5.out.1 rfl)));go_wp2
            go_roundw
            case rel=>exact⟨k+1,by go_num,HF,HBc6⟩
            case measure=>simp[intOf];omega)
    ·have HRR:=hid (hHA.out.done hge);go_wp2
     go_ret;exact⟨by rw[HRR.out];rfl,HBw.out.trans (hB.out.mono HBw.out.size)⟩
open Go.RowKit
theorem aLs (n:Nd):n.bk=2+n.name.size+n.text.size+pI n.attrs+fW n.kids:=by
 cases n;conv=>lhs;unfold Nd.bk
 rfl
theorem aAr (n:Nd)(ns:List Nd):fW (n :: ns)=n.bk+fW ns:=by conv=>lhs;unfold fW
theorem dX (n:Nd)(ns:List Nd):SmK (n :: ns)↔SmN n∧SmK ns:=by
 conv=>lhs;unfold SmK
theorem eC:SmK []:=by unfold SmK;trivial
theorem lB (n:Nd):SmN n↔n.name.size≤1048576∧n.text.size≤100000000∧n.attrs.length≤1048576∧(∀x∈n.attrs,x.1.size≤1048576∧x.2.size≤1048576)∧SmK n.kids:=by
 cases n;conv=>lhs;unfold SmN
 exact Iff.rfl
theorem aAB:(∀n:Nd,n.bk≤1048576→SmN n)∧∀l:List Nd,fW l≤1048576→SmK l:=by
 refine lT (P:=fun n=>n.bk≤1048576→SmN n) (Q:=fun l=>fW l≤1048576→SmK l) ?_ ?_ ?_
 ·intro n ih h;rw[aLs]at h
  have h1:=aIZ n.attrs;refine(lB n).2 ⟨by omega,by omega,by omega,fun x hx=>?_,ih (by omega)⟩;have:=aI7 n.attrs x hx;omega
 ·intro _;exact eC
 ·intro n ns h1 h2 h;rw[aAr]at h
  exact(dX n ns).2 ⟨h1 (by omega),h2 (by omega)⟩
open Go.RowKit
mutual
def Nd.tk:Nd→Nat
 | .mk _ _ _ _ tx ks=>1+tx.size+aH ks
def aH:List Nd→Nat
 | []=>0
 | k :: ks=>k.tk+aH ks
end
theorem dT (n:Nd):n.tk=1+n.text.size+aH n.kids:=by
 cases n;conv=>lhs;unfold Nd.tk
 rfl
theorem cF (n:Nd)(ns:List Nd):aH (n :: ns)=n.tk+aH ns:=by conv=>lhs;unfold aH
theorem aLr:(∀n:Nd,n.tk≤n.bk)∧∀l:List Nd,aH l≤fW l:=by
 refine lT (P:=fun n=>n.tk≤n.bk) (Q:=fun l=>aH l≤fW l) ?_ ?_ ?_
 ·intro n ih;rw[dT,aLs];omega
 ·unfold aH fW;omega
 ·intro n ns h1 h2;rw[cF,aAr];omega
theorem aC2:(∀n:Nd,n.sz≤n.tk)∧∀l:List Nd,aD l≤aH l:=by
 refine lT (P:=fun n=>n.sz≤n.tk) (Q:=fun l=>aD l≤aH l) ?_ ?_ ?_
 ·intro n ih;rw[dT,eE];omega
 ·unfold aH aD;omega
 ·intro n ns h1 h2;rw[cF];unfold aD;omega
def wtK:List Nd→Nat
 | []=>0
 | n :: ns=>1+n.text.size+wtK ns
theorem pV:∀a b:List Nd,wtK (a++b)=wtK a+wtK b:=by
 intro a;induction a with
 | nil=>intro b;rw[List.nil_append];simp[wtK]
 | cons n a ih=>intro b;rw[List.cons_append];simp only[wtK];rw[ih];omega
theorem qN:∀l:List Nd,l.length≤wtK l∧∀x∈l,x.text.size≤wtK l:=by
 intro l;induction l with
 | nil=>exact⟨Nat.le_refl _,fun x h=>by simp at h⟩
 | cons n l ih =>
  refine⟨by simp only[wtK,List.length_cons];omega,fun x h=>?_⟩;simp only[wtK];rcases List.mem_cons.1 h with rfl|h
  ·omega
  ·have:=ih.2 x h;omega
theorem aNV (out:List Nd)(t:ByteArray):wtK (dR out t)≤wtK out+1+t.size:=by
 have hnew:wtK (out++[aV t])=wtK out+1+t.size:=by rw[pV];simp only[wtK];show _+(1+t.size+0)=_;omega
 by_cases h:out=[]
 ·subst h;unfold dR;show wtK ([]++[aV t])≤_;rw[hnew];exact Nat.le_refl _
 ·obtain⟨ys,x,rfl⟩:=qO h;rw[iO];split
  ·rw[pV,pV];simp only[wtK];have:(x.more t).text.size=x.text.size+t.size:=by show(x.text++t).size=_;rw[ByteArray.size_append]
   omega
  ·rw[hnew];exact Nat.le_refl _
theorem qT (s:ByteArray):(bT s).size≤3*s.size:=by
 have h1:=pE s.data.toList;have h2:(bT s).size=(cV s.data.toList).length:=rfl;have h3:s.data.toList.length=s.size:=rfl;omega
theorem uC (A:cX) :
  (∀(n:Nd) (pn:ByteArray) (ph:List ByteArray) (out:List Nd),wtK (eN A pn ph out n)≤wtK out+4*n.tk) ∧
  (∀(l:List Nd) (pn:ByteArray) (ph:List ByteArray) (out:List Nd),wtK (bN A pn ph out l)≤wtK out+4*aH l):=by
 refine lT (P:=fun n=>∀(pn:ByteArray) (ph:List ByteArray) (out:List Nd),wtK (eN A pn ph out n)≤wtK out+4*n.tk)
  (Q:=fun l=>∀(pn:ByteArray) (ph:List ByteArray) (out:List Nd),wtK (bN A pn ph out l)≤wtK out+4*aH l) ?_ ?_ ?_
 ·intro n ih pn ph out;rw[kO,dT];split
  ·unfold lY;split
   ·omega
   ·have h1:=aNV out (bT n.text);have h2:=qT n.text;omega
  ·split
   ·omega
   ·split
    ·rw[pV];simp only[wtK];have:(Nd.mk 1 0 n.name (A n.name n.attrs) ⟨#[]⟩ (aP A n.name ph n.kids)).text.size=0:=rfl;omega
    ·have:=ih pn ph out;omega
 ·intro pn ph out;rw[fY];omega
 ·intro n ns h1 h2 pn ph out;rw[fH,cF];have a1:=h1 pn ph out;have a2:=h2 pn ph (eN A pn ph out n);omega
def aC7 (A:cX)(m:Nat):Prop:=∀(l:List Nd),aD l≤m→∀(p:Nat) (pn:ByteArray) (pv:Value) (ph:List ByteArray) (out:List Nd) (W1 w:World) (a:Option Addr) (c:Nat),Hid (aC W1)→Hid (SmK l) →
 wtK out+4*aH l≤100000000→ph.length+aD l≤10000000→Hid (Sv p pn pv ph out W1 w)→Hid (aT W1 a 0 l) →
 Calls Tryz.prog 155 #[.pointer (some ⟨p,0,none⟩),.slice a l.length c] w fun e w'=>e=.returned (.tuple #[])∧Sv p pn pv ph (bN A pn ph out l) W1 w'
def pC (w:World)(r:List Nd)(e:Ending)(w':World):Prop:=∃a c,e=.returned (.slice a r.length c)∧r.length≤140737488355328∧aF (fun g=>w.heap.size≤g) w' a 0 r∧Below w.heap.size w w'
theorem Tryz.info9':(Tryz.prog.info? 9).map (fun i=>(i.zero,i.size,i.bytes))=some (some (.string ⟨#[]⟩),1,16):=by kernel_rfl
theorem aAI (A:cX)(m:Nat)(HA:Hid (aC7 A m))(l:List Nd)(hm:aD l≤m)(pn:ByteArray)(pv:Value)(ph:List ByteArray)(w:World)(a:Option Addr)(c:Nat)(HT:Hid (aC w))(HS:Hid (SmK l))(hb:4*aH l≤100000000)
  (hph:ph.length+1+aD l≤10000000) (hP:Hid (Phr w pv ph)) (hK:Hid (aT w a 0 l)) :
  Calls Tryz.prog 101 #[.string pn,.slice a l.length c,pv] w (pC w (aP A pn ph l)):=by
 obtain⟨i9,hi9,hz9,hs9,hb9⟩:=info_parts Tryz.info9';obtain⟨pa,pc,rfl,hpc⟩:=hP.out.cap;have HKD:=hid (nR pn w);have hkl:=nP pn.data.toList;have hF:aP A pn ph l=if bO pn.data.toList=5∨bO pn.data.toList=6 then []else bN A pn (if bO pn.data.toList=4 then ph++[pn]else ph) [] l:=rfl
 generalize aP A pn ph l=R at *
 have HF:=hid hF;clear hF;generalize bO pn.data.toList=K at *
 have hll:l.length≤10000000:=by have:=(iZ l).2;omega
 have HWT:=hid (show wtK []+4*aH l≤100000000 by unfold wtK;omega);have HM:=hid hm;have HPH:=hid hph;clear hb hm;generalize hlen:l.length=ll at *
 have HLL:=hid hlen;clear hlen;go_enter Tryz.func101,Tryz.ntmps101
 go_wp2_with fail
 refine HKD.out.mono ?_;rintro e w' ⟨rfl,rfl⟩;by_cases h5:K=5∨K=6
 ·have HR:Hid (R=[]):=by show _=_;rw[HF.out,if_pos h5]
  have hnil:pC w R (.returned (.slice none 0 0)) w:=by
   rw[HR.out];exact⟨none,0,rfl,by simp,by unfold aF;trivial,Below.refl _ _⟩
  have HNIL:=hid hnil;clear hnil;rcases h5 with rfl|rfl
  all_goals
   go_wp2
   go_ret;exact HNIL.out
 ·have e5:((K:Int)==5)=false:=by rw[beq_eq_false_iff_ne];omega
  have e6:((K:Int)==6)=false:=by rw[beq_eq_false_iff_ne];omega
  have HR:Hid (R=bN A pn (if K=4 then ph++[pn]else ph) [] l):=by show _=_;rw[HF.out,if_neg h5]
  clear h5;go_wp2_with fail
  refine HKD.out.mono ?_;rintro e w' ⟨rfl,rfl⟩;clear HKD e5 e6;go_upto_if 19 with fail
  go_cut [2] (fun p2 wx=>Hid (Phr wx p2 (if K=4 then ph++[pn]else ph))∧Hid (Below w.heap.size w wx))
  case first =>
   by_cases hk:K=4
   ·have e1:((K:Int)==4)=true:=by rw[beq_iff_eq];omega
    have HKK:=hid hk;have hcut':∀W,(Instr.slice 55 (.slice pa ph.length pc) none (some (.int .i64 ph.length)) (some (.int .i64 ph.length))).run Tryz.prog W=.ok (.slice pa ph.length ph.length) W:=fun W=>vC 55 9 Tryz.underlying55 i9 hi9 W pa ph.length pc hpc
    have hB1:Below w.heap.size w (w.alloc (.cells #[.string pn] 9)):=(Below.refl _ w).alloc dH _;have hnew:(w.alloc (.cells #[.string pn] 9)).cell? ⟨w.heap.size,0,none⟩=some (.string pn):=by rw[cell_of_row _ w.heap.size 0 _ 9 (0,0) (heap_alloc_new w _)];rfl
    have HPH1:=hid (hP.out.below hB1 dH);have hvec:jE (w.alloc (.cells #[.string pn] 9)) (.slice pa ph.length ph.length) ph.length (ph.map pM):=by
     obtain⟨a',c',e',h'⟩:=HPH1.out.vec;simp only[Value.slice.injEq]at e';exact⟨a',_,by rw[e'.1],h'⟩
    have HVEC:=hid hvec;have HNEW:=hid hnew;have HB1:=hid hB1;clear hvec hnew hB1 hk;go_wp2_with (at_builtin;refine oW rfl _ _ 55 rfl 9 i9 (.string ⟨#[]⟩) 16 Tryz.underlying55 hi9 hz9 hs9 hb9 _ ph.length (ph.map pM) rfl ⟨_,rfl⟩ HVEC.out (List.length_map ..) _ _ _ rfl HNEW.out (by omega) (by omega) ?_)
    intro v' w' hv' hc' hb';have HB2:=hid (HB1.out.trans (hb'.out.mono (by simp)));go_wp2_with fail
    go_meet
    case rel =>
     refine⟨?_,HB2⟩;rw[if_pos HKK.out];obtain⟨y',c',e1,e2⟩:=hc'.out;exact hid ⟨by rw[List.length_append,List.map_append];exact hv'.out,⟨y',c',by rw[List.length_append];exact e1,by rw[List.length_append];exact e2⟩⟩
   ·have e1:((K:Int)==4)=false:=by rw[beq_eq_false_iff_ne];omega
    have HKK:=hid hk;clear hk;go_wp2_with fail
    go_meet
    case rel =>
     refine⟨?_,hid (Below.refl _ _)⟩;rw[if_neg HKK.out];exact hP
  case rest =>
   obtain⟨HPX,HBX⟩:=hcut;have HPL:Hid ((if K=4 then ph++[pn]else ph).length+aD l≤10000000):=by
    show _≤_;have h1:=HPH.out;split
    ·rw[List.length_append,List.length_singleton];omega
    ·omega
   generalize (if K=4 then ph++[pn]else ph)=ph2 at *
   obtain⟨pa2,pc2,rfl,_⟩:=HPX.out.cap;have hB3:Below wc.heap.size wc (wc.alloc (.cells #[.string pn,.slice pa2 ph2.length pc2,.slice none 0 0] 151)):=(Below.refl _ wc).alloc dH _;have hrow:=heap_alloc_new wc (.cells #[.string pn,.slice pa2 ph2.length pc2,.slice none 0 0] 151);have hsv:Sv wc.heap.size pn (.slice pa2 ph2.length pc2) ph2 [] wc (wc.alloc (.cells #[.string pn,.slice pa2 ph2.length pc2,.slice none 0 0] 151)) :=
    ⟨rfl,⟨.slice none 0 0,[],hrow,bC.of 45 6 hB3 hB3.size,(fun e=>by cases e),cG.nil _ _⟩,HPX.out⟩
   have HSV:=hid hsv;have HB3:=zC HBX hB3;clear hB3 hrow hsv;go_wp2_with fail
   have hcall:=HA.out l HM.out wc.heap.size pn (.slice pa2 ph2.length pc2) ph2 [] wc _ a c (hid (HT.out.below HBX.out dH)) HS HWT.out HPL.out HSV (hid (hK.out.below HBX.out dH));rw[HLL.out]at hcall
   refine hcall.mono ?_;rintro e W3 ⟨rfl,h3⟩;rw[←HR.out]at h3
   clear hcall;obtain⟨v3,xs3,hr3,hO3,hne3,hC3⟩:=h3.row;obtain⟨a3,c3,rfl,_,hlo3⟩:=hO3.slice;have hc3:W3.cell? ⟨wc.heap.size,2,none⟩=some (.slice a3 R.length c3):=by rw[cell_of_row _ _ 2 _ 151 (0,0) hr3];rfl
   have hfin:pC w R (.returned (.slice a3 R.length c3)) W3:=by
    have hs:=HBX.out.size;refine⟨a3,c3,rfl,?_,oD hO3.vec hC3 (fun g hg=>by omega) (fun y hy=>by have:=(hlo3 y hy).1;omega),HBX.out.trans (hO3.bel.mono hs)⟩;rw[HR.out];have h1:=(uC A).2 l pn ph2 [];have h2:=(qN (bN A pn ph2 [] l)).1;have h4:=HWT.out;omega
   have HFIN:=hid hfin;clear hfin hr3 hO3 hne3 hC3 h3 hlo3;go_wp2
   go_ret;exact HFIN.out
end Go.Proofs.YtcfgbdhpcboikaaGreatDoor
