/-
policy.elem, plain, text and slices.Equal of attributes, of every node: what they answer.
-/
import Derived.Test.YtcfgbdhpcboikaaGreatDoorHoldF
import Derived.Test.YtcfgbdhpcboikaaGreatDoorLaidA
namespace Go.Proofs.YtcfgbdhpcboikaaGreatDoor
open Go.Lib (hid)
set_option maxHeartbeats 2000000
set_option maxRecDepth 100000
open Go.RowKit
theorem iL {n:Nat}:n≤n:=Nat.le_refl n
def pA (kd sp:Int)(tx:ByteArray):Bool:=decide (kd=1)&&(decide (sp=0)&&tx.data.toList.isEmpty)
theorem mT {t:ByteArray}(h:t.data.toList.isEmpty=true):t=⟨#[]⟩:=fI (by simpa using h)
theorem uB {t:ByteArray}(h:t.data.toList.isEmpty=false):¬t.toList=[]:=by rw[toList_data];intro e;rw[e]at h;cases h
theorem qU {t:ByteArray}(h:t.data.toList.isEmpty=false):t.toList.isEmpty=false:=by rw[toList_data];exact h
theorem aAt (kd sp:Int)(nm tx:ByteArray)(av kv:Value)(w:World)(b:Bool)(hb:Hid (pA kd sp tx=b)) :
  Calls Tryz.prog 149 #[.agg #[.int .i64 kd,.int .i64 sp,.string nm,av,.string tx,kv]] w (aB b w):=by
 by_cases h1:kd=1
 ·subst h1;by_cases h2:sp=0
  ·subst h2;cases h3:tx.data.toList.isEmpty with
   | true =>
    obtain rfl:=mT h3;have HB:Hid (b=true):=by show _=_;rw[←hb.out];rfl
    clear hb h3;go_enter Tryz.func149,Tryz.ntmps149
    go_wp2
    go_ret;exact⟨by rw[HB.out];rfl,(Below.refl _ w).alloc iL _⟩
   | false =>
    have k1:=uB h3;have k2:=qU h3;have HB:Hid (b=false):=by show _=_;rw[←hb.out];unfold pA;rw[h3];rfl
    clear hb h3;go_enter Tryz.func149,Tryz.ntmps149
    go_wp2
    go_ret;exact⟨by rw[HB.out];rfl,(Below.refl _ w).alloc iL _⟩
  ·have k1:(sp==0)=false:=by rw[beq_eq_false_iff_ne];exact h2
   have HB:Hid (b=false):=by show _=_;rw[←hb.out];unfold pA;rw[decide_eq_false h2];rfl
   clear hb h2;go_enter Tryz.func149,Tryz.ntmps149
   go_wp2
   go_ret;exact⟨by rw[HB.out];rfl,(Below.refl _ w).alloc iL _⟩
 ·have k1:(kd==1)=false:=by rw[beq_eq_false_iff_ne];exact h1
  have HB:Hid (b=false):=by show _=_;rw[←hb.out];unfold pA;rw[decide_eq_false h1];rfl
  clear hb h1;go_enter Tryz.func149,Tryz.ntmps149
  go_wp2
  go_ret;exact⟨by rw[HB.out];rfl,(Below.refl _ w).alloc iL _⟩
def mF (kd sp:Int)(nm tx:ByteArray)(na:Nat)(name:ByteArray):Bool:=pA kd sp tx&&(decide (nm=name)&&decide (na=0))
theorem sS (kd sp:Int)(nm tx:ByteArray)(a:Option Addr)(na c:Nat)(kv:Value)(name:ByteArray)(w:World)(b:Bool)(hb:Hid (mF kd sp nm tx na name=b)) :
  Calls Tryz.prog 90 #[.agg #[.int .i64 kd,.int .i64 sp,.string nm,.slice a na c,.string tx,kv],.string name] w (aB b w):=by
 have hE:=fun W=>aAt kd sp nm tx (.slice a na c) kv W (pA kd sp tx) (hid rfl)
 have hb2:=hb.out;unfold mF at hb2;generalize pA kd sp tx=q at hE hb2;have HE:=hid hE;have HB2:=hid hb2;clear hE hb hb2;go_enter Tryz.func90,Tryz.ntmps90
 go_wp2_with fail
 refine(HE.out _).mono ?_;unfold aB;rintro e W1 ⟨rfl,B1⟩;have hB:=(Below.refl w.heap.size w).alloc iL (.cells #[.int .i64 kd,.int .i64 sp,.string nm,.slice a na c,.string tx,kv] 45);have x2:W1.cell? ⟨w.heap.size,2,none⟩=some (.string nm):=by rw[B1.cell (p:=⟨w.heap.size,2,none⟩) (by simp),cell_of_row _ w.heap.size 2 _ 45 (0,0) (heap_alloc_new w _)];rfl
 have x3:W1.cell? ⟨w.heap.size,3,none⟩=some (.slice a na c):=by rw[B1.cell (p:=⟨w.heap.size,3,none⟩) (by simp),cell_of_row _ w.heap.size 3 _ 45 (0,0) (heap_alloc_new w _)];rfl
 have HB1:=hid (hB.trans (B1.mono (by simp)));clear B1 hB;cases q with
 | false =>
  have HF:Hid (b=false):=by show _=_;rw[←HB2.out];rfl
  go_wp2
  go_ret;exact⟨by rw[HF.out];rfl,HB1.out⟩
 | true =>
  by_cases h1:nm=name
  ·subst h1;have e1:(nm.toList==nm.toList)=true:=by simp
   have HF:Hid (b=decide (na=0)):=by show _=_;rw[←HB2.out];simp
   by_cases h2:na=0
   ·subst h2;go_wp2
    go_ret;exact⟨by rw[HF.out];rfl,HB1.out⟩
   ·have e2:((na:Int)==0)=false:=by rw[beq_eq_false_iff_ne];omega
    go_wp2
    go_ret;exact⟨by rw[HF.out,decide_eq_false h2];rfl,HB1.out⟩
  ·have e1:(nm.toList==name.toList)=false:=by rw[beq_eq_false_iff_ne];exact pQ h1
   have HF:Hid (b=false):=by show _=_;rw[←HB2.out,decide_eq_false h1];rfl
   clear h1;go_wp2
   go_ret;exact⟨by rw[HF.out];rfl,HB1.out⟩
def uS (kd sp:Int)(nm tx:ByteArray)(na nk:Nat):Bool:=decide (kd=2)&&(decide (sp=0)&&(nm.data.toList.isEmpty&&(decide (na=0)&&(decide (nk=0)&&(!tx.data.toList.isEmpty&&decide (gE tx=tx))))))
theorem oT (kd sp:Int)(nm tx:ByteArray)(a:Option Addr)(na c:Nat)(a':Option Addr)(nk c':Nat)(w:World)
  (h:(kd==2)=false∨(kd=2∧(sp==0)=false)∨(kd=2∧sp=0∧(nm.toList.isEmpty=false∧¬nm.toList=[]))∨(kd=2∧sp=0∧nm=⟨#[]⟩∧((na:Int)==0)=false)∨(kd=2∧sp=0∧nm=⟨#[]⟩∧na=0∧((nk:Int)==0)=false)∨(kd=2∧sp=0∧nm=⟨#[]⟩∧na=0∧nk=0∧tx=⟨#[]⟩)) :
  Calls Tryz.prog 151 #[.agg #[.int .i64 kd,.int .i64 sp,.string nm,.slice a na c,.string tx,.slice a' nk c']] w (aB false w):=by
 go_enter Tryz.func151,Tryz.ntmps151
 rcases h with h|⟨rfl,h⟩|⟨rfl,rfl,h,h'⟩|⟨rfl,rfl,rfl,h⟩|⟨rfl,rfl,rfl,rfl,h⟩|⟨rfl,rfl,rfl,rfl,rfl,rfl⟩
 all_goals
  go_wp2
  go_quiet (fail)
  go_wp2
  go_ret;exact⟨rfl,((Below.refl _ w).alloc iL _).trans ((below_drewNm _ nq).mono (by simp))⟩
theorem aJV (tx:ByteArray)(hz:tx.size≤1000000000)(_k1:¬tx.toList=[])(k2:tx.toList.isEmpty=false)(a:Option Addr)(c:Nat)(a':Option Addr)(c':Nat)(w:World)(T:aA w)(b:Bool)(hb:Hid (decide (gE tx=tx)=b)) :
  Calls Tryz.prog 151 #[.agg #[.int .i64 2,.int .i64 0,.string ⟨#[]⟩,.slice a 0 c,.string tx,.slice a' 0 c']] w (aB b w):=by
 have HT:=hid T;have X:=fun W TW=>wA tx hz W TW
 have ht:(⟨(cT tx.data.toList).toArray⟩:ByteArray)=gE tx:=rfl;rw[ht]at X
 have hcmp:((gE tx).toList==tx.toList)=b:=by
  rw[←hb.out];by_cases h:gE tx=tx
  ·rw[h];simp
  ·rw[decide_eq_false h,beq_eq_false_iff_ne];exact pQ h
 have HX:=hid X;generalize gE tx=y at *
 clear T X ht hb;go_enter Tryz.func151,Tryz.ntmps151
 go_wp2_with fail
 obtain⟨W0,hW0⟩:∃W0,W0=w.alloc (.cells #[.int .i64 2,.int .i64 0,.string ⟨#[]⟩,.slice a 0 c,.string tx,.slice a' 0 c'] 45):=⟨_,rfl⟩
 have hB0:Below w.heap.size w W0:=by rw[hW0];exact(Below.refl _ w).alloc iL _
 have hP:=bC w (.int .i64 2) (.int .i64 0) (.string ⟨#[]⟩) (.slice a 0 c) (.string tx) (.slice a' 0 c');rw[←hW0]at hP
 try rw[←hW0]
 have HP:=hid hP;have HB0:=hid hB0;clear hP hB0 hW0;obtain⟨S,hS⟩:∃S:World→Prop,∀u,S u↔Below W0.heap.size W0 u:=⟨_,fun _=>Iff.rfl⟩
 have g0:∀s:WIn S,s.w.cell? ⟨w.heap.size,0,none⟩=some (.int .i64 2):=fun s=>(HP.out.below ((hS _).1 s.h) iL).x0
 have g1:∀s:WIn S,s.w.cell? ⟨w.heap.size,1,none⟩=some (.int .i64 0):=fun s=>(HP.out.below ((hS _).1 s.h) iL).x1
 have g2:∀s:WIn S,s.w.cell? ⟨w.heap.size,2,none⟩=some (.string ⟨#[]⟩):=fun s=>(HP.out.below ((hS _).1 s.h) iL).x2
 have g3:∀s:WIn S,s.w.cell? ⟨w.heap.size,3,none⟩=some (.slice a 0 c):=fun s=>(HP.out.below ((hS _).1 s.h) iL).x3
 have g4:∀s:WIn S,s.w.cell? ⟨w.heap.size,4,none⟩=some (.string tx):=fun s=>(HP.out.below ((hS _).1 s.h) iL).x4
 have g5:∀s:WIn S,s.w.cell? ⟨w.heap.size,5,none⟩=some (.slice a' 0 c'):=fun s=>(HP.out.below ((hS _).1 s.h) iL).x5
 haveI:Nonempty (WIn S):=⟨⟨W0,(hS _).2 (Below.refl _ _)⟩⟩
 have HS:=hid hS;clear hS;refine dI 38 [([0,1,2,3,4,5,6,7,8,9,10,11,12,13,14,15,16,17,18,19,20,21,22,23,24,25,26,27,28,29,30,31,32,34,35],33)] [36,37] S (by kernel_rfl) (by kernel_rfl) ((HS.out _).2 (below_drewNm W0 1)) ?_;refine bE (fun K' hK'=>?_);simp only[pick,pickZ,pickS,pickG];repeat (go_big_quiet_step (fail))
 refine wpQuiet_nil (hK' _ (fun Q1 hQ1=>?_));clear hK' K';simp only[pick,pickZ,pickS,pickG];go_wp2_with fail
 have hBw:Below w.heap.size w (W0.drewN 1):=HB0.out.trans ((below_drewNm W0 1).mono HB0.out.size);refine(HX.out _ (HT.out.below hBw iL)).mono ?_;rintro e W1 ⟨rfl,B1⟩;have hB01:Below W0.heap.size W0 W1:=(below_drewNm W0 1).trans (B1.mono (below_drewNm W0 1).size);have HB1:=hid (hBw.trans (B1.mono hBw.size));have HB01:=hid hB01;clear B1 hB01 hBw;go_wp2_with fail
 refine hQ1 _ _ ((HS.out _).2 HB01.out) (dP (fun K' hK'=>?_));clear hQ1 Q1;simp only[pick,pickZ,pickS,pickG];repeat (go_big_quiet_step (fail))
 refine wpQuiet_nil (hK' _ (fun Q4 hQ4=>?_));clear hK' K';simp only[List.drop_succ_cons,List.drop_zero];clear g0 g1 g2 g3 g4 g5;go_wp2
 go_ret;exact⟨rfl,HB1.out⟩
theorem aC4 (kd sp:Int)(nm tx:ByteArray)(hz:tx.size≤1000000000)(a:Option Addr)(na c:Nat)(a':Option Addr)(nk c':Nat)(w:World)(T:aA w)(b:Bool)(hb:Hid (uS kd sp nm tx na nk=b)) :
  Calls Tryz.prog 151 #[.agg #[.int .i64 kd,.int .i64 sp,.string nm,.slice a na c,.string tx,.slice a' nk c']] w (aB b w):=by
 have hb':=hb.out;unfold uS at hb';by_cases h1:kd=2
 ·by_cases h2:sp=0
  ·cases h3:nm.data.toList.isEmpty with
   | false =>
    obtain rfl:false=b:=by rw[←hb',decide_eq_true h1,decide_eq_true h2,h3];rfl
    exact oT kd sp nm tx a na c a' nk c' w (.inr (.inr (.inl ⟨h1,h2,qU h3,uB h3⟩)))
   | true =>
    have hnm:=mT h3;by_cases h4:na=0
    ·by_cases h5:nk=0
     ·cases h6:tx.data.toList.isEmpty with
      | true =>
       obtain rfl:false=b:=by rw[←hb',h6];simp
       exact oT kd sp nm tx a na c a' nk c' w (.inr (.inr (.inr (.inr (.inr ⟨h1,h2,hnm,h4,h5,mT h6⟩)))))
      | false =>
       subst h1 h2 hnm h4 h5;refine aJV tx hz (uB h6) (qU h6) a c a' c' w T b ?_;show _=_;rw[←hb',h6];simp
     ·obtain rfl:false=b:=by rw[←hb',decide_eq_false h5];simp
      exact oT kd sp nm tx a na c a' nk c' w (.inr (.inr (.inr (.inr (.inl ⟨h1,h2,hnm,h4,by rw[beq_eq_false_iff_ne];omega⟩)))))
    ·obtain rfl:false=b:=by rw[←hb',decide_eq_false h4];simp
     exact oT kd sp nm tx a na c a' nk c' w (.inr (.inr (.inr (.inl ⟨h1,h2,hnm,by rw[beq_eq_false_iff_ne];omega⟩))))
  ·obtain rfl:false=b:=by rw[←hb',decide_eq_false h2];simp
   exact oT kd sp nm tx a na c a' nk c' w (.inr (.inl ⟨h1,by rw[beq_eq_false_iff_ne];exact h2⟩))
 ·obtain rfl:false=b:=by rw[←hb',decide_eq_false h1];rfl
  exact oT kd sp nm tx a na c a' nk c' w (.inl (by rw[beq_eq_false_iff_ne];exact h1))
theorem aCN (va vb:Value)(l m:List AT)(hl:l.length≤1000000000)(hm:m.length≤1000000000)(w:World)(hA:Hid (eI w va l))(hB:Hid (eI w vb m))(b:Bool)(hb:Hid (decide (l=m)=b)) :
  Calls Tryz.prog 150 #[va,vb] w (aB b w):=by
 obtain⟨aa,ca,rfl,_⟩:=hA.out;obtain⟨ab,cb,rfl,_⟩:=hB.out;by_cases hlen:l.length=m.length
 ·have e0:((l.length:Int) !=(m.length:Int))=false:=by simp;omega
  have HLEN:=hid hlen;clear hlen;go_enter Tryz.func150,Tryz.ntmps150
  go_wp2
  go_loopw [4,13] (fun r i wx=>r=.bool false∧∃k:Nat,i=.int .i64 k∧Hid (k≤l.length∧l.take k=m.take k∧Below w.heap.size w wx)) (fun _ i _=>l.length-(intOf i).toNat)
  case atStart=>exact⟨rfl,0,rfl,hid ⟨Nat.zero_le _,by simp,Below.refl _ _⟩⟩
  case round =>
   obtain⟨rfl,k,rfl,hK⟩:=hrel;have hk:=hK.out.1;rcases Nat.lt_or_ge k l.length with hlt|hge
   ·have hlt2:k<m.length:=by have:=HLEN.out;omega
    obtain⟨g1,o1,c1,hv1,a1,a2⟩:=(hA.out.below hK.out.2.2 iL).get k hlt;obtain⟨g2,o2,c2,hv2,b1,b2⟩:=(hB.out.below hK.out.2.2 iL).get k hlt2;simp only[Value.slice.injEq,true_and]at hv1 hv2;obtain⟨rfl,rfl⟩:=hv1;obtain⟨rfl,rfl⟩:=hv2;have HNE:Hid (l[k]≠m[k]→b=false):=fun h=>by
     rw[←hb.out,decide_eq_false (fun e=>h (by subst e;rfl))]
    have HEQ:Hid (l[k]=m[k]→l.take (k+1)=m.take (k+1)):=fun h=>by
     rw[List.take_succ_eq_append_getElem hlt,List.take_succ_eq_append_getElem hlt2,hK.out.2.1,h]
    generalize l[k]=q at *
    generalize m[k]=u at *
    obtain⟨qn,qv⟩:=q;obtain⟨un,uv⟩:=u;simp only at a1 a2 b1 b2;by_cases h1:qn=un
    ·subst h1;have e1:(qn.toList==qn.toList)=true:=by simp
     by_cases h2:qv=uv
     ·subst h2;have e2:(qv.toList==qv.toList)=true:=by simp
      have HT:=hid (HEQ.out rfl);go_wp2_with fail
      go_quiet (fail)
      go_wp2
      refine⟨⟨rfl,k+1,by congr 1,hid ⟨hlt,HT.out,⟨hK.out.2.2.os,hK.out.2.2.tape,hK.out.2.2.output,hK.out.2.2.size,hK.out.2.2.block⟩⟩⟩,?_⟩;simp[intOf];omega
     ·have e2:(qv.toList==uv.toList)=false:=by rw[beq_eq_false_iff_ne];exact pQ h2
      have HF:=hid (HNE.out (fun e=>h2 (by injection e)));clear h2;go_wp2_with fail
      go_quiet (fail)
      go_wp2
      go_ret;exact⟨by rw[HF.out];rfl,⟨hK.out.2.2.os,hK.out.2.2.tape,hK.out.2.2.output,hK.out.2.2.size,hK.out.2.2.block⟩⟩
    ·have e1:(qn.toList==un.toList)=false:=by rw[beq_eq_false_iff_ne];exact pQ h1
     have HF:=hid (HNE.out (fun e=>h1 (by injection e)));clear h1;go_wp2_with fail
     go_quiet (fail)
     go_wp2
     go_ret;exact⟨by rw[HF.out];rfl,⟨hK.out.2.2.os,hK.out.2.2.tape,hK.out.2.2.output,hK.out.2.2.size,hK.out.2.2.block⟩⟩
   ·have HF:Hid (b=true):=by
     show _=_;rw[←hb.out];have h:=hK.out.2.1;rw[List.take_of_length_le hge,List.take_of_length_le (by have:=HLEN.out;omega)]at h
     rw[h];simp
    go_wp2
    go_ret;exact⟨by rw[HF.out];rfl,hK.out.2.2⟩
 ·have e0:((l.length:Int) !=(m.length:Int))=true:=by rw[bne_iff_ne];omega
  have HF:Hid (b=false):=by
   show _=_;rw[←hb.out,decide_eq_false (fun e=>hlen (by rw[e]))]
  go_enter Tryz.func150,Tryz.ntmps150
  go_wp2
  go_ret;exact⟨by rw[HF.out];rfl,Below.refl _ _⟩
open Go.RowKit
section
variable {P:Program} {w:World} {ops:Array Oper} {rest:List Oper} {o:Oper} {a:Act} {Q:Exit→Act→World→Prop}
theorem aE2 (T E:TypeId)(ht:P.underlying T=some (.slice E))(i:TypeInfo)(hi:P.info? E=some i)(w:World)(x:Option Addr)(n c:Nat)(hn:n≤c) :
  (Instr.slice T (.slice x n c) none (some (.int .i64 n)) (some (.int .i64 n))).run P w=.ok (.slice x n n) w:=by
 simp[Instr.slice,run_underlying ht,Instr.sliceBounds,run_sliceBound,sizeOf,typeInfo,hi,hn,Addr.add]
theorem aDj (w:World)(e:TypeId)(cap:Nat)(n:Nat)(xs:List Value)(zs:Array Value) :
  jN (w.drew.alloc (.cells (xs.toArray++zs) e)) (.slice (some ⟨w.heap.size,0,none⟩) n cap) n xs∧Below w.heap.size w (w.drew.alloc (.cells (xs.toArray++zs) e)):=by
 refine⟨⟨_,_,rfl,fun j u hj=>⟨_,_,rfl,?_⟩⟩,?_⟩
 ·show(w.drew.alloc (.cells (xs.toArray++zs) e)).cell? ⟨w.drew.heap.size,0+j,none⟩=some u;rw[Nat.zero_add,cell_of_row _ _ j (xs.toArray++zs) e (0,0) (heap_alloc_new w.drew _)];have hl:j<xs.length:=(List.getElem?_eq_some_iff.1 hj).1;rw[Array.getElem?_append_left (by simpa using hl)];simpa using hj
 ·exact(Below.refl w.heap.size w).drew.alloc iL _
theorem yX (hgd:o.guard=none)(s x:Operand)(t:TypeId)
  (ho:o.op=.call { callee:=.builtin .append,args:=#[s,x],argTypes:=#[t,t] })
  (e:TypeId) (i:TypeInfo) (z:Value) (bytes:Nat) (ht:P.underlying t=some (.slice e)) (hi:P.info? e=some i) (hz:i.zero=some z) (hsize:i.size=1) (hby:i.bytes=bytes)
  (v:Value) (n:Nat) (xs:List Value) (hs:a.eval s=v) (hv:∃y,v=.slice y n n) (hV:jN w v n xs) (hl:xs.length=n) (u:Value)
  (ad:Addr) (c:Nat) (hx:a.eval x=.slice (some ad) 1 c) (hnews:w.cell? ad=some u) (hb:(n+1)*bytes≤140737488355328) (hn:n≤1000000000)
  (h:∀v' w',Hid (jN w' v' (n+1) (xs++[u]))→Hid (∃y c,v'=.slice y (n+1) c∧n+1≤c)→Hid (Below w.heap.size w w')→wpList P ops Q rest (a.put o.dst v') w'):wpList P ops Q (o :: rest) a w:=by
 refine wpList_plain hgd fun K hK=>?_
 obtain⟨y,rfl⟩:=hv;have hnews':∀j q,[u][j]?=some q→w.cell? (ad.add j)=some q:=by
  intro j q hj;match j,hj with
  | 0,hj =>
   simp at hj;subst hj;simpa [Addr.add]using hnews
 have key:∃v' w',(Builtin.append_ #[t,t] o.type #[.slice y n n,.slice (some ad) 1 c]).run P w=.ok v' w'∧jN w' v' (n+1) (xs++[u])∧(∃y c,v'=.slice y (n+1) c∧n+1≤c)∧Below w.heap.size w w':=by
  subst hby;cases y with
  | none =>
   have hn0:n=0:=by
    rcases Nat.eq_zero_or_pos n with h0|h0
    ·exact h0
    ·obtain⟨a',c',e',h'⟩:=hV;obtain⟨g,off,ha,_⟩:=h' 0 _ (List.getElem?_eq_getElem (by omega));simp only[Value.slice.injEq]at e';rw[←e'.1]at ha
     cases ha
   subst hn0;have hx0:xs=[]:=List.eq_nil_of_length_eq_zero hl;subst hx0;have hr:=run_append_nil (P:=P) (w:=w) t o.type e i z ht hi hz ad 1 c [u] (by simp[hsize]) hnews' (by omega) (by omega) (by omega);obtain⟨h1,h2⟩:=aDj w e (grownCap w 1 0 e) 1 [u] (Builtin.zeroCells z.cells (grownCap w 1 0 e-1));exact⟨_,_,hr,h1,⟨_,_,rfl,grownCap_ge w 1 0 e⟩,h2⟩
  | some b =>
   have holds:∀j q,xs[j]?=some q→w.cell? (b.add j)=some q:=by
    obtain⟨a',c',e',h'⟩:=hV;intro j q hj;obtain⟨g,off,ha,hc⟩:=h' j q hj;simp only[Value.slice.injEq]at e';rw[←e'.1]at ha
    cases ha;have hadd:(⟨g,off,none⟩:Addr).add j=⟨g,off+j,none⟩:=by unfold Addr.add;split<;>simp_all
    rw[hadd];exact hc
   have hr:=run_append_grow (P:=P) (w:=w) t o.type e i z ht hi hz b n n xs (by rw[hsize];omega) holds ad 1 c [u] (by simp[hsize]) hnews' (by omega) (by omega) (growslice_fits (by omega) hb);obtain⟨h1,h2⟩:=aDj w e (grownCap w (n+1) n e) (n+1) (xs++[u]) (Builtin.zeroCells z.cells (grownCap w (n+1) n e-(n+1)));refine⟨_,_,hr,?_,⟨_,_,rfl,grownCap_ge w (n+1) n e⟩,?_⟩
   ·simpa using h1
   ·simpa using h2
 obtain⟨v',w',hr,h1,hcap,h2⟩:=key;unfold Oper.wp execOp;simp only[ho,resolve,invoke,builtin,Sem.run_bind,Sem.run_pure,Result.andThen_ok,List.map_toArray,List.map_cons,List.map_nil,hs,hx,hr];exact hK _ _ (h v' w' h1 hcap h2)
end
open Go.RowKit
def lB:ByteArray:=⟨#[99,97,112,116,105,111,110]⟩
abbrev fY:=ByteArray→ByteArray→ByteArray→Option ByteArray
def cN (n:Nd):Bool:=uS n.kind n.space n.name n.text n.attrs.length n.kids.length
def fF (n:Nd):Bool:=pA n.kind n.space n.text
def xI:Option Nd→Bool
 | some n=>decide (n.kind=2)
 | none=>false
def sN (VV:fY)(pn:ByteArray)(ph:List ByteArray)(prev:Option Nd)(k:Nd):Prop :=
 (cN k=true∧mI pn.data.toList=true∧xI prev=false) ∨
 (cN k=false∧fF k=true∧mY pn.data.toList k.name.data.toList=true∧k.name∉ph∧¬(k.name=lB∧prev.isSome=true)∧kM (VV k.name) k.attrs k.attrs)
mutual
def cQ (VV:fY):List ByteArray→Nd→Prop
 | ph,.mk _ _ nm _ _ ks=>HoldsK VV nm (if aW nm.data.toList=4 then ph++[nm]else ph) none ks
def HoldsK (VV:fY)(pn:ByteArray)(ph:List ByteArray):Option Nd→List Nd→Prop
 | _,[]=>True
 | prev,k :: ks=>(sN VV pn ph prev k∧(cN k=false→cQ VV ph k))∧HoldsK VV pn ph (some k) ks
end
def jE (ks:List Nd)(j:Nat):Option Nd:=if j=0 then none else ks[j-1]?
theorem aAa (VV:fY)(pn:ByteArray)(ph:List ByteArray)(ks:List Nd)(j:Nat)(h:j<ks.length) :
  HoldsK VV pn ph (jE ks j) (ks.drop j)↔(sN VV pn ph (jE ks j) ks[j]∧(cN ks[j]=false→cQ VV ph ks[j]))∧HoldsK VV pn ph (jE ks (j+1)) (ks.drop (j+1)):=by
 rw[List.drop_eq_getElem_cons h];conv=>lhs;unfold HoldsK
 have:jE ks (j+1)=some ks[j]:=by
  unfold jE;rw[if_neg (by omega),Nat.add_sub_cancel,List.getElem?_eq_getElem h]
 rw[this]
theorem aC2 (ks:List Nd)(j:Nat)(hj:j≤ks.length):(jE ks j).isSome=decide (0<j):=by
 unfold jE;by_cases h:j=0
 ·rw[if_pos h,h];rfl
 ·rw[if_neg h,List.getElem?_eq_getElem (by omega)];simp;omega
theorem aC3 (ks:List Nd)(q:Nat)(hq:q<ks.length):xI (jE ks (q+1))=decide (ks[q].kind=2):=by
 unfold jE xI;rw[if_neg (by omega),Nat.add_sub_cancel,List.getElem?_eq_getElem hq]
open Go.RowKit
mutual
def SmN:Nd→Prop
 | .mk _ _ nm at' tx ks=>nm.size≤1048576∧tx.size≤100000000∧at'.length≤1048576∧(∀x∈at',x.1.size≤1048576∧x.2.size≤1048576)∧SmK ks
def SmK:List Nd→Prop
 | []=>True
 | n :: ks=>SmN n∧SmK ks
end
theorem SmK.get:∀(ks:List Nd) (j:Nat) (h:j<ks.length),SmK ks→SmN ks[j]:=by
 intro ks;induction ks with
 | nil=>intro j h;simp at h
 | cons n ks ih =>
  intro j h hs;unfold SmK at hs;cases j with
  | zero=>exact hs.1
  | succ j=>exact ih j (by simpa using h) hs.2
theorem SmN.get {n:Nd}(h:SmN n):n.name.size≤1048576∧n.text.size≤100000000∧n.attrs.length≤1048576∧(∀x∈n.attrs,x.1.size≤1048576∧x.2.size≤1048576)∧SmK n.kids:=by
 cases n;unfold SmN at h;exact h
open Go.RowKit
def aG0 (VV:fY):Prop:=∀e n v,e.size≤1048576→n.size≤1048576→v.size≤1048576→mC e n v (VV e n v)
structure iH (VV:fY) (ks:List Nd) (nm:ByteArray) (ph:List ByteArray) (r:Bool) (k:Nat):Prop where
 le:k≤ks.length
 iff:r=true↔HoldsK VV nm ph (jE ks k) (ks.drop k)
theorem iH.start {VV:fY}{ks:List Nd}{nm:ByteArray}{ph:List ByteArray}{r:Bool}(h:r=true↔HoldsK VV nm ph none ks):iH VV ks nm ph r 0:=⟨Nat.zero_le _,h⟩
theorem iH.done {VV:fY}{ks:List Nd}{nm:ByteArray}{ph:List ByteArray}{r:Bool}{k:Nat}(h:iH VV ks nm ph r k)(hk:ks.length≤k):r=true:=by
 rw[h.iff,List.drop_eq_nil_of_le hk];unfold HoldsK;trivial
theorem iH.no {VV:fY}{ks:List Nd}{nm:ByteArray}{ph:List ByteArray}{r:Bool}{k:Nat}(h:iH VV ks nm ph r k)(hk:k<ks.length)(hn:¬(sN VV nm ph (jE ks k) ks[k]∧(cN ks[k]=false→cQ VV ph ks[k]))):r=false:=by
 cases hr:r with
 | false=>rfl
 | true=>exact absurd ((aAa VV nm ph ks k hk).1 (h.iff.1 hr)).1 hn
theorem iH.yes {VV:fY}{ks:List Nd}{nm:ByteArray}{ph:List ByteArray}{r:Bool}{k:Nat}(h:iH VV ks nm ph r k)(hk:k<ks.length)(hn:sN VV nm ph (jE ks k) ks[k]∧(cN ks[k]=false→cQ VV ph ks[k])):iH VV ks nm ph r (k+1):=by
 refine⟨hk,?_⟩;rw[h.iff,aAa VV nm ph ks k hk];exact⟨fun x=>x.2,fun x=>⟨hn,x⟩⟩
theorem sO {VV:fY}{pn:ByteArray}{ph:List ByteArray}{prev:Option Nd}{q:Nd}(hw:cN q=true)(h:mI pn.data.toList=true)(hp:xI prev=false):sN VV pn ph prev q∧(cN q=false→cQ VV ph q) :=
 ⟨.inl ⟨hw,h,hp⟩,fun e=>by rw[hw]at e;cases e⟩
theorem oA {VV:fY}{pn:ByteArray}{ph:List ByteArray}{prev:Option Nd}{q:Nd}(hw:cN q=true)(h:mI pn.data.toList=false∨xI prev=true):¬(sN VV pn ph prev q∧(cN q=false→cQ VV ph q)):=by
 rintro⟨h1|h1,_⟩
 ·rcases h with h|h
  ·rw[h1.2.1]at h;cases h
  ·rw[h1.2.2]at h;cases h
 ·rw[hw]at h1;cases h1.1
theorem aEr {VV:fY}{pn:ByteArray}{ph:List ByteArray}{prev:Option Nd}{q:Nd}(hw:cN q=false)(h1:fF q=true)(h2:mY pn.data.toList q.name.data.toList=true)(h3:q.name∉ph)(h4:¬(q.name=lB∧prev.isSome=true))(h5:kM (VV q.name) q.attrs q.attrs)(h6:cQ VV ph q):sN VV pn ph prev q∧(cN q=false→cQ VV ph q) :=
 ⟨.inr ⟨hw,h1,h2,h3,h4,h5⟩,fun _=>h6⟩
theorem dH {VV:fY}{pn:ByteArray}{ph:List ByteArray}{prev:Option Nd}{q:Nd}(hw:cN q=false)(h:fF q=false∨mY pn.data.toList q.name.data.toList=false∨q.name∈ph∨(q.name=lB∧prev.isSome=true)∨¬kM (VV q.name) q.attrs q.attrs∨¬cQ VV ph q):¬(sN VV pn ph prev q∧(cN q=false→cQ VV ph q)):=by
 rintro⟨h1|h1,h2⟩
 ·rw[hw]at h1;cases h1.1
 ·obtain⟨_,a1,a2,a3,a4,a5⟩:=h1;rcases h with h|h|h|h|h|h
  ·rw[a1]at h;cases h
  ·rw[a2]at h;cases h
  ·exact a3 h
  ·exact a4 h
  ·exact h a5
  ·exact h (h2 hw)
theorem sM (VV:fY)(n:Nd)(ph:List ByteArray):cQ VV ph n↔HoldsK VV n.name (if aW n.name.data.toList=4 then ph++[n.name]else ph) none n.kids:=by
 cases n;conv=>lhs;unfold cQ
 exact Iff.rfl
theorem aQ.attrs {w:World}{n:Nd}{c0 c1 c2 c4 c5:Value}{a:Option Addr}{m b:Nat}(h:aQ w n (.agg #[c0,c1,c2,.slice a m b,c4,c5])):eI w (.slice a m b) n.attrs:=by
 obtain⟨av,a',c',e,hA,_,_⟩:=h.get;simp only[Value.agg.injEq]at e;have e3:=congrArg (fun x:Array Value=>x[3]?) e;simp at e3;rw[e3];exact hA
open Go.RowKit
theorem aMK (n:Nd):n.bk=2+n.name.size+n.text.size+pZ n.attrs+fM n.kids:=by
 cases n;conv=>lhs;unfold Nd.bk
 rfl
theorem aA5 (n:Nd)(ns:List Nd):fM (n :: ns)=n.bk+fM ns:=by conv=>lhs;unfold fM
theorem aAN (n:Nd)(ns:List Nd):SmK (n :: ns)↔SmN n∧SmK ns:=by
 conv=>lhs;unfold SmK
theorem aGO:SmK []:=by unfold SmK;trivial
theorem aGP (n:Nd):SmN n↔n.name.size≤1048576∧n.text.size≤100000000∧n.attrs.length≤1048576∧(∀x∈n.attrs,x.1.size≤1048576∧x.2.size≤1048576)∧SmK n.kids:=by
 cases n;conv=>lhs;unfold SmN
 exact Iff.rfl
theorem aG5:(∀n:Nd,n.bk≤1048576→SmN n)∧∀l:List Nd,fM l≤1048576→SmK l:=by
 refine aEA (P:=fun n=>n.bk≤1048576→SmN n) (Q:=fun l=>fM l≤1048576→SmK l) ?_ ?_ ?_
 ·intro n ih h;rw[aMK]at h
  have h1:=aKV n.attrs;refine(aGP n).2 ⟨by omega,by omega,by omega,fun x hx=>?_,ih (by omega)⟩;have:=aKW n.attrs x hx;omega
 ·intro _;exact aGO
 ·intro n ns h1 h2 h;rw[aA5]at h
  exact(aAN n ns).2 ⟨h1 (by omega),h2 (by omega)⟩
theorem aG6:(∀n:Nd,2*n.sz≤n.bk)∧∀l:List Nd,2*aG l≤fM l:=by
 refine aEA (P:=fun n=>2*n.sz≤n.bk) (Q:=fun l=>2*aG l≤fM l) ?_ ?_ ?_
 ·intro n ih;rw[aMK,gJ];omega
 ·unfold aG fM;omega
 ·intro n ns h1 h2;rw[aA5];unfold aG;omega
end Go.Proofs.YtcfgbdhpcboikaaGreatDoor
