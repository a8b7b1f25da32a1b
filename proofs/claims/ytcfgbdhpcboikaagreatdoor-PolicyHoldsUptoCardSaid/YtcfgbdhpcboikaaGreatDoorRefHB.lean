/-
The document's below: what it answers at every node.
-/
import Derived.Test.YtcfgbdhpcboikaaGreatDoorSchedT
import Derived.Test.YtcfgbdhpcboikaaGreatDoorRPrint
namespace Go.Proofs.YtcfgbdhpcboikaaGreatDoor
open Go.Lib (hid)
set_option maxHeartbeats 16000000
set_option maxRecDepth 100000
open Go.RowKit
theorem eE {n:Nat}:n<=n:=Nat.le_refl n
theorem fE {a w v:World}(h:Go.RowKit.Hid (Go.RowKit.Below a.heap.size a w))(b:Go.RowKit.Below w.heap.size w v):Go.RowKit.Hid (Go.RowKit.Below a.heap.size a v):=hid (h.out.trans (b.mono h.out.size))
def aBo (ph:List ByteArray):List UInt8:=32 :: ph.flatMap fun p=>p.data.toList++[32]
theorem aJl:∀p∈eS,p.2=4->p.1≠[]/\(32:UInt8)∉p.1/\p.1.length<=8:=by decide +kernel
structure jW (ins:ByteArray) (ph:List ByteArray):Prop where
  eq:ins.data.toList=aBo ph
  kd:∀p∈ph,aW p.data.toList=4
theorem jW.none:jW ⟨#[32]⟩ []:=⟨rfl,fun p h=>by simp at h⟩
theorem jW.push {ins nm:ByteArray}{ph:List ByteArray}(h:jW ins ph)(hk:aW nm.data.toList=4):jW (ins++nm++⟨#[32]⟩) (ph++[nm]):=by
 refine⟨?_,fun p hp=>?_⟩;{have:(ins++nm++⟨#[32]⟩).data.toList=ins.data.toList++nm.data.toList++[32]:=by{simp};rw[this,h.eq];unfold aBo;simp};{rcases List.mem_append.1 hp with hp|hp;{exact h.kd p hp};{rw[List.mem_singleton]at hp;rw[hp];exact hk}}
theorem aNP:∀ph:List ByteArray,(∀p∈ph,aW p.data.toList=4)->(aBo ph).length<=1+9*ph.length:=by
 intro ph;induction ph with|nil=>{intro _;decide}|cons p ph ih=>{intro h;have h1:=(aJl _ (xJ (h p List.mem_cons_self) (by omega)) rfl).2.2;have h2:=ih (fun x hx=>h x (List.mem_cons_of_mem _ hx));unfold aBo at *;simp only[List.flatMap_cons,List.length_cons,List.length_append,List.length_nil]at *;omega}
theorem jW.size {ins:ByteArray}{ph:List ByteArray}(h:jW ins ph):ins.size<=1+9*ph.length:=by
 have h1:=aNP ph h.kd;rw[<-h.eq]at h1;exact h1
theorem aMG:∀(p cur l:List UInt8),(32:UInt8)∉p->cur++p≠[]->dR cur (p++32 :: l)=(cur++p) :: dR [] l:=by
 intro p;induction p with|nil=>{intro cur l _ h;rw[List.append_nil]at h ⊢;rw[List.nil_append,mK,if_neg];rw[List.isEmpty_iff];exact h}|cons c p ih=>{intro cur l h1 h2;rw[List.cons_append,aB4 _ _ _ (fun e=>h1 (by rw[e];exact List.mem_cons_self)),ih _ _ (fun hm=>h1 (List.mem_cons_of_mem _ hm)) (by simp),List.append_assoc];rfl}
theorem aKJ:∀ph:List ByteArray,(∀p∈ph,aW p.data.toList=4)->dR [] (ph.flatMap fun p=>p.data.toList++[32])=ph.map (fun p=>p.data.toList):=by
 intro ph;induction ph with|nil=>{intro _;rfl}|cons p ph ih=>{intro h;obtain⟨h1,h2,_⟩:=aJl _ (xJ (h p List.mem_cons_self) (by omega)) rfl;rw[List.flatMap_cons,List.append_assoc];show dR [] (p.data.toList++32 :: ph.flatMap fun p=>p.data.toList++[32])=_;rw[aMG _ _ _ h2 (by rw[List.nil_append];exact h1),ih (fun x hx=>h x (List.mem_cons_of_mem _ hx))];rfl}
theorem jW.has {ins:ByteArray}{ph:List ByteArray}(h:jW ins ph)(n:ByteArray):inB n.data.toList ins.data.toList=Lib.containsS ph n:=by
 unfold inB wE;rw[h.eq];unfold aBo;rw[mK];simp only[List.isEmpty_nil,if_true];rw[aKJ ph h.kd,Bool.eq_iff_iff,List.contains_iff_mem,Lib.containsS_iff,List.mem_map];exact⟨fun⟨p,hp,e⟩=>by rw[<-fI e];exact hp,fun hp=>⟨n,hp,rfl⟩⟩
def nV (q:Nd):Nd:=.mk q.kind q.space q.name [] q.text q.kids
theorem aCG (q:Nd):(nV q).sz=q.sz:=by rw[gJ,gJ q];rfl
theorem wU (VV:fY)(q:Nd)(ph:List ByteArray):cQ VV ph (nV q)↔cQ VV ph q:=by rw[sM,sM VV q];exact Iff.rfl
theorem aIx (q:Nd)(h:SmN q):SmN (nV q):=by
 have g:=h.get;unfold nV;unfold SmN;exact⟨g.1,g.2.1,Nat.zero_le _,fun x hx=>by simp at hx,g.2.2.2.2⟩
theorem aFx {w:World}{q:Nd} {a1 b1 a2 b2}(h:aQ w q (.agg #[.int .i64 q.kind,.int .i64 q.space,.string q.name,.slice a1 q.attrs.length b1,.string q.text,.slice a2 q.kids.length b2])) :
    aQ w (nV q) (.agg #[.int .i64 q.kind,.int .i64 q.space,.string q.name,.slice none 0 0,.string q.text,.slice a2 q.kids.length b2]):=by
 have hK:=h.kidsV;obtain⟨_,_,_,_,_,_,hl⟩:=h.get;unfold nV aQ;exact⟨_,a2,b2,rfl,hl,⟨none,0,rfl,fun j hj=>absurd hj (by simp)⟩,hK⟩
def aAl (VV:fY):Prop:=∀(nm:ByteArray) (at':List AT),nm.size<=1048576->at'.length<=1048576->(∀x∈at',x.1.size<=1048576/\x.2.size<=1048576)->∀v W,aA W->eI W v at'->Calls Tryz.prog 45 #[.string nm,v] W (pI (VV nm) at' W)
theorem uQ {w:World}{g:Nat}{c0 c1 c2 c3 c4 c5:Value}(h:w.heap[g]?=some (.cells #[c0,c1,c2,c3,c4,c5] 45 (0,0))):Six w g 0 c0 c1 c2 c3 c4 c5:=by
 have k:∀j,_:=fun j=>cell_of_row w g j _ 45 (0,0) h;exact⟨k 0,k 1,k 2,k 3,k 4,k 5⟩
theorem aK5 {w:World}{g:Nat}{c0 c1 c2 c3 c4 c5:Value}(h:w.heap[g]?=some (.cells #[c0,c1,c2,c3,c4,c5] 45 (0,0))) :
    (w.setCell ⟨g,3,none⟩ (.slice none 0 0)).heap[g]?=some (.cells #[c0,c1,c2,.slice none 0 0,c4,c5] 45 (0,0)):=by
 rw[setCell_eq_setRow w g 3 _ 45 (0,0) _ h];exact setRow_heap w g _ _ 45 (0,0) h
theorem aFS (q:Nd):mF q.kind q.space q.name q.text 0 q.name=fF q:=by
 unfold mF fF;simp
theorem aLl {q:Nd}(h:q.kind≠1):fF q=false:=by
 unfold fF pA;rw[decide_eq_false h];rfl
theorem aKK {q:Nd}(h:q.kind≠2):cN q=false:=by
 unfold cN uS;rw[decide_eq_false h];rfl
theorem aIz (VV:fY)(HRA:Hid (aAl VV)):∀(m:Nat) (n:Nd),n.sz<=m->∀(v:Value) (ins:ByteArray) (ph:List ByteArray) (r:Bool) (w:World),Hid (aA w)->Hid (SmN n)->Hid (ph.length+n.sz<=2000000)->Hid (aQ w n v)->Hid (jW ins ph)->Hid (r=true↔cQ VV ph n) ->
    Calls Tryz.prog 100 #[v,.string ins] w (aB r w):=by
 intro m;induction m with
 | zero=>intro n hn;exact absurd (eY n) (by omega)
 | succ m ih =>
   intro n hn v ins ph r w HT HS HL hN hI hr;obtain⟨av,a,c,rfl,hA,hK,hlen⟩:=hN.out.get;have HK:=hid hK;have HIH:=hid ih;have hsz:=gJ n;have hm:=nL n.kids;have HN:=hid (show ∀k∈n.kids,k.sz<=m/\ph.length+1+k.sz<=2000000 by intro k hk;have h1:=hm.1 k hk;have h2:=HL.out;omega);have hkl:n.kids.length<=2000000:=by have h2:=HL.out;omega
   have hpl:ph.length<=2000000:=by have h2:=HL.out;omega
   have HSN:=hid HS.out.get;have hnz:n.name.size<=1048576:=HS.out.get.1;have hiz:ins.size<=18000001:=by have:=hI.out.size;omega
   have hr2:=hr.out;rw[sM]at hr2
   have HR:=hid hr2;clear hA hK ih hn hN hr hr2 hsz hm HL HS;generalize n.kids=ks at *
   generalize hnm:n.name=nm at *
   generalize n.kind=kd at *
   generalize n.space=sp at *
   generalize n.text=tx at *
   generalize n.attrs=at' at *
   have HKA:=hid (fun W=>iO nm W);have HPUSH:=hid (fun h=>hI.out.push (nm:=nm) h);clear hnm;generalize aW nm.data.toList=K at *
   obtain⟨W0,hW0⟩:∃W0,W0=w.alloc (.cells #[.int .i64 kd,.int .i64 sp,.string nm,av,.string tx,.slice a ks.length c] 45):=⟨_,rfl⟩
   have hB0:Below w.heap.size w W0:=by rw[hW0];exact(Below.refl _ w).alloc eE _
   have hP0:=(bC w (.int .i64 kd) (.int .i64 sp) (.string nm) av (.string tx) (.slice a ks.length c))
   rw[<-hW0]at hP0
   obtain⟨y0,y1,y2,y3,y4,y5⟩:=hP0.zero;have HP0:=hid hP0;have HB0:=hid hB0;have HW0:=hid hW0;clear hP0 hB0 hW0;go_enter Tryz.func100,Tryz.ntmps100
   go_wp2_with fail
   rw[<-HW0.out];go_wp2_with fail
   refine(HKA.out _).mono ?_;rintro x W1 ⟨rfl,B1⟩;have HB01:=hid B1;have HBw1:=fE HB0 B1;clear y0 y1 y2 y3 y4 y5 B1;obtain⟨y0,y1,y2,y3,y4,y5⟩:=(HP0.out.below HB01.out eE).zero;go_upto_if 15 with fail
   go_cut [1] (fun p wx=>∃i2:ByteArray,p=.string i2/\Hid (jW i2 (if K=4 then ph++[nm]else ph))/\wx=W1)
   case first =>
     by_cases hk:K=4
     · have e1:((K:Int)==4)=true:=by rw[beq_iff_eq];omega
       have HKK:=hid hk;clear hk;go_wp2_with fail
       go_meet
       case rel=>exact⟨_,rfl,by rw[if_pos HKK.out];exact hid (HPUSH.out HKK.out),rfl⟩
     · have e1:((K:Int)==4)=false:=by rw[beq_eq_false_iff_ne];omega
       have HKK:=hid hk;clear hk;go_wp2_with fail
       go_meet
       case rel=>exact⟨_,rfl,by rw[if_neg HKK.out];exact hI,rfl⟩
   case rest =>
     obtain⟨i2,rfl,hI2,hwe⟩:=hcut;have hwe':=hwe.symm;subst hwe';obtain⟨ph2,hph2⟩:∃ph2,ph2=if K=4 then ph++[nm]else ph:=⟨_,rfl⟩
     rw[<-hph2]at hI2 HR
     have hpl2:ph2.length<=2000001:=by
       rw[hph2];split
       · rw[List.length_append,List.length_singleton];omega
       · omega
     have HN2:=hid (show ∀k∈ks,k.sz<=m/\ph2.length+k.sz<=2000000 by
       intro k hk;have h1:=HN.out k hk;refine⟨h1.1,?_⟩;rw[hph2];split
       · rw[List.length_append,List.length_singleton];omega
       · omega)
     have hi2:i2.size<=20000000:=by have:=hI2.out.size;omega
     clear hph2 HN HPUSH HKA hI hiz;have HHA:=hid (iH.start HR.out);go_wp2_with fail
     go_loopw [5] (fun i wx=>∃k:Nat,i=.int .i64 k/\Hid (iH VV ks nm ph2 r k)/\Hid (Below W1.heap.size W1 wx)) (fun i _=>ks.length-(intOf i).toNat)
     case atStart=>exact⟨0,rfl,HHA,hid (Below.refl _ _)⟩
     case round =>
       obtain⟨k,rfl,hHA,hB⟩:=hrel;have hk:=hHA.out.le;have HBw:=fE HBw1 hB.out;have HB0r:=fE HB01 hB.out;clear y0 y1 y2 y3 y4 y5;obtain⟨y0,y1,y2,y3,y4,y5⟩:=(HP0.out.below HB0r.out eE).zero;rcases Nat.lt_or_ge k ks.length with hlt|hge
       · obtain⟨g,off,c0,c1,c2,c3,c4,c5,rfl,h6,hn⟩:=HK.out.get ks 0 k hlt
         rw[Nat.zero_add]at h6
         have HPV:=hid (show 0<k->∃hj:k-1<ks.length,wr.cell? ⟨g,off+(k-1)*6,none⟩=some (.int .i64 (ks[k-1]'hj).kind) by
           intro h0;have hj:k-1<ks.length:=by omega
           obtain⟨g',off',d0,d1,d2,d3,d4,d5,e',h6',hn'⟩:=HK.out.get ks 0 (k-1) hj;rw[Nat.zero_add]at h6'
           cases e';obtain⟨_,_,_,_,rfl,_⟩:=hn'.cells;exact⟨hj,(h6'.below HBw.out eE).x0⟩)
         obtain⟨x0,x1,x2,x3,x4,x5⟩:=h6.below HBw.out eE;obtain⟨a1,b1,a2,b2,rfl,rfl,rfl,rfl,rfl,rfl⟩:=hn.cells;have HND:=hid (hn.below HBw.out eE);have HSQ:=hid (SmK.get ks k hlt HSN.out.2.2.2.2);have HIQ:=hid (HIH.out (nV ks[k]) (by rw[aCG];exact(HN2.out _ (List.getElem_mem hlt)).1));have HLQ:=hid (HN2.out _ (List.getElem_mem hlt)).2;have HNO:=hid (hHA.out.no hlt);have HYES:=hid (hHA.out.yes hlt);clear hn h6;generalize ks[k]=q at *
         obtain⟨W2,hW2⟩:∃W2,W2=wr.alloc (.cells #[.int .i64 q.kind,.int .i64 q.space,.string q.name,.slice a1 q.attrs.length b1,.string q.text,.slice a2 q.kids.length b2] 45):=⟨_,rfl⟩
         have hB2:Below wr.heap.size wr W2:=by rw[hW2];exact(Below.refl _ wr).alloc eE _
         have HR2:Hid (W2.heap[wr.heap.size]?=some (.cells #[.int .i64 q.kind,.int .i64 q.space,.string q.name,.slice a1 q.attrs.length b1,.string q.text,.slice a2 q.kids.length b2] 45 (0,0))):=by rw[hW2];exact heap_alloc_new wr _
         have HB2:=hid hB2;have hz2:W2.heap.size=wr.heap.size+1:=by rw[hW2];simp
         have HZ2:=hid hz2;have HW2:=hid hW2;clear hB2 hW2 hz2;have HBw2:=fE HBw HB2.out;have HBc2:=fE hB HB2.out;have HT2:=hid (HT.out.below HBw2.out eE);by_cases hq2:q.kind=2
         · have e2:(q.kind==2)=true:=by rw[beq_iff_eq];exact hq2
           have HNE:=hid (aLl (q:=q) (by omega));clear hq2;go_wp2_with fail
           rw[<-HW2.out];clear y0 y1 y2 y3 y4 y5;refine(aBO q.kind q.space q.name q.text (by have:=HSQ.out.get.2.1;omega) a1 q.attrs.length b1 a2 q.kids.length b2 W2 (cN q) (hid rfl)).mono ?_;unfold aB;rintro e W3 ⟨rfl,B3⟩;have hB03:Below wr.heap.size wr W3:=HB2.out.trans (B3.mono HB2.out.size);have HB3:=hid hB03;have HBw3:=fE HBw hB03;have HBc3:=fE hB hB03;clear B3 hB03;obtain⟨y0,y1,y2,y3,y4,y5⟩:=(HP0.out.below (HB0r.out.trans (HB3.out.mono HB0r.out.size)) eE).zero;cases hw:cN q with
           | false =>
             have HF:=hid (HNO.out (dH hw (.inl HNE.out)));clear hw;go_wp2
             go_ret;exact⟨by rw[HF.out];rfl,HBw3.out⟩
           | true =>
             have HWQ:=hid hw;clear hw;go_wp2_with fail
             refine(aEX nm W3).mono ?_;rintro e W4 ⟨rfl,B4⟩;have hB04:Below wr.heap.size wr W4:=HB3.out.trans (B4.mono HB3.out.size);have HB4:=hid hB04;have HBw4:=fE HBw hB04;have HBc4:=fE hB hB04;clear B4 hB04 y0 y1 y2 y3 y4 y5;obtain⟨y0,y1,y2,y3,y4,y5⟩:=(HP0.out.below (HB0r.out.trans (HB4.out.mono HB0r.out.size)) eE).zero;cases ht:mI nm.data.toList with
             | false =>
               have HF:=hid (HNO.out (oA HWQ.out (.inl ht)));clear ht;go_wp2
               go_ret;exact⟨by rw[HF.out];rfl,HBw4.out⟩
             | true =>
               rcases Nat.eq_zero_or_pos k with h0|h0
               · subst h0
                 have HF:=hid (HYES.out (sO HWQ.out ht rfl));clear ht;go_wp2
                 go_roundw
                 case rel=>exact⟨1,rfl,HF,HBc4⟩
                 case measure=>simp[intOf];omega
               · obtain⟨hj,hc⟩:=HPV.out h0
                 have hpt:=aC3 ks (k-1) hj;rw[show k-1+1=k by omega]at hpt
                 have hc2:W4.cell? ⟨g,off+(k-1)*6,none⟩=some (.int .i64 (ks[k-1]).kind):=by
                   rw[HB4.out.cell (p:=⟨g,off+(k-1)*6,none⟩) (World.block_lt_of_cell? _ _ hc)];exact hc
                 have HPT:=hid hpt;have HTT:=hid ht;clear hc hpt ht;generalize ks[k-1].kind=pk at *
                 by_cases hp2:pk=2
                 · have e1:(pk==2)=true:=by rw[beq_iff_eq];exact hp2
                   have HF:=hid (HNO.out (oA HWQ.out (.inr (HPT.out.trans (decide_eq_true hp2)))));clear hp2;go_wp2
                   go_ret;exact⟨by rw[HF.out];rfl,HBw4.out⟩
                 · have e1:(pk==2)=false:=by rw[beq_eq_false_iff_ne];exact hp2
                   have HF:=hid (HYES.out (sO HWQ.out HTT.out (HPT.out.trans (decide_eq_false hp2))));clear hp2;go_wp2
                   go_roundw
                   case rel=>exact⟨k+1,by go_num,HF,HBc4⟩
                   case measure=>simp[intOf];omega
         · have e2:(q.kind==2)=false:=by rw[beq_eq_false_iff_ne];exact hq2
           have HWQ:=hid (aKK hq2);have HAQ:=hid (HND.out.attrs);go_wp2_with fail
           rw[<-HW2.out];refine(HRA.out q.name q.attrs HSQ.out.get.1 HSQ.out.get.2.2.1 HSQ.out.get.2.2.2.1 _ W2 HT2.out (HAQ.out.below HB2.out eE)).mono ?_;unfold pI;rintro e W3 ⟨v3,r3,rfl,hr3,hO3⟩;have hB03:Below wr.heap.size wr W3:=HB2.out.trans (hO3.bel.mono HB2.out.size);have HB3:=hid hB03;have HR3:Hid (W3.heap[wr.heap.size]?=some (.cells #[.int .i64 q.kind,.int .i64 q.space,.string q.name,.slice a1 q.attrs.length b1,.string q.text,.slice a2 q.kids.length b2] 45 (0,0))):=by rw[hO3.bel.block wr.heap.size (by have:=HZ2.out;omega)];exact HR2.out
           have HBw3:=fE HBw hB03;have HV3:=hid hO3.attrs;have HRR:=hid hr3;have hl3:r3.length<=1048576:=by
             have h1:=hr3.1.length_eq;have h2:=aCF (VV q.name) q.attrs [];have h3:=HSQ.out.get.2.2.1;omega
           clear hB03 hr3 hO3 y0 y1 y2 y3 y4 y5 HB2 HR2 HZ2 HW2 HBw2 HBc2 HT2;obtain⟨va,vc,rfl,_⟩:=HV3.out;obtain⟨z0,z1,z2,z3,z4,z5⟩:=(uQ HR3.out).zero;have HAL:Hid (r3≠q.attrs->r=false):=fun h=>HNO.out (dH HWQ.out (.inr (.inr (.inr (.inr (.inl (fun h'=>h (wT HRR.out h'))))))))
           by_cases hal:r3.length=q.attrs.length
           · have e3:((r3.length:Int) !=(q.attrs.length:Int))=false:=by simp;omega
             have HALL:=hid hal;clear hal;obtain⟨wo,rfl⟩:∃wo:World,wo=wr:=⟨_,rfl⟩
             clear HPV;go_wp2_with fail
             go_loopw [9] (fun x wx=>∃j:Nat,x=.int .i64 j/\Hid (j<=r3.length/\r3.take j=q.attrs.take j/\Below W3.heap.size W3 wx)) (fun x _=>r3.length-(intOf x).toNat)
             case atStart=>exact⟨0,rfl,hid ⟨Nat.zero_le _,by simp,Below.refl _ _⟩⟩
             case round =>
               obtain⟨j,rfl,hJ⟩:=hrel;have hj:=hJ.out.1;have HB4:=hid (HB3.out.trans (hJ.out.2.2.mono HB3.out.size));have HBw4:=fE HBw HB4.out;have HR4:Hid (wr.heap[wo.heap.size]?=some (.cells #[.int .i64 q.kind,.int .i64 q.space,.string q.name,.slice a1 q.attrs.length b1,.string q.text,.slice a2 q.kids.length b2] 45 (0,0))):=by
                 rw[hJ.out.2.2.block wo.heap.size (Array.getElem?_eq_some_iff.1 HR3.out).1];exact HR3.out
               clear z0 z1 z2 z3 z4 z5;obtain⟨z0,z1,z2,z3,z4,z5⟩:=(uQ HR4.out).zero;rcases Nat.lt_or_ge j r3.length with hlt3|hge3
               · have hlt4:j<q.attrs.length:=by have:=HALL.out;omega
                 obtain⟨g1,o1,c1,hv1,s1,s2⟩:=(HV3.out.below hJ.out.2.2 eE).get j hlt3;obtain⟨g2,o2,c2,hv2,t1,t2⟩:=(HAQ.out.below HB4.out eE).get j hlt4;simp only[Value.slice.injEq,true_and]at hv1 hv2;obtain⟨rfl,rfl⟩:=hv1;obtain⟨rfl,rfl⟩:=hv2;have HNE:Hid (r3[j]≠q.attrs[j]->r=false):=fun h=>HAL.out (fun e=>h (by simp only[e]))
                 have HEQ:Hid (r3[j]=q.attrs[j]->r3.take (j+1)=q.attrs.take (j+1)):=fun h=>by
                   rw[List.take_succ_eq_append_getElem hlt3,List.take_succ_eq_append_getElem hlt4,hJ.out.2.1,h]
                 have HBJ:=hid hJ.out.2.2;generalize r3[j]=p3 at *
                 generalize q.attrs[j]=p4 at *
                 obtain⟨un,uv⟩:=p3;obtain⟨tn,tv⟩:=p4;simp only at s1 s2 t1 t2;by_cases h1:un=tn
                 · subst h1
                   have e4:(un.toList==un.toList)=true:=by simp
                   by_cases h2:uv=tv
                   · subst h2
                     have e5:(uv.toList==uv.toList)=true:=by simp
                     have HTK:=hid (HEQ.out rfl);go_wp2_with fail
                     go_quiet (fail)
                     go_wp2
                     go_roundw
                     case rel=>exact⟨j+1,by go_num,hid ⟨hlt3,HTK.out,⟨HBJ.out.os,HBJ.out.tape,HBJ.out.output,HBJ.out.size,HBJ.out.block⟩⟩⟩
                     case measure=>simp[intOf];omega
                   · have e5:(uv.toList==tv.toList)=false:=by rw[beq_eq_false_iff_ne];exact pQ h2
                     have HF:=hid (HNE.out (fun e=>h2 (by injection e)));clear h2;go_wp2_with fail
                     go_quiet (fail)
                     go_wp2
                     go_ret;exact⟨by rw[HF.out];rfl,⟨HBw4.out.os,HBw4.out.tape,HBw4.out.output,HBw4.out.size,HBw4.out.block⟩⟩
                 · have e4:(un.toList==tn.toList)=false:=by rw[beq_eq_false_iff_ne];exact pQ h1
                   have HF:=hid (HNE.out (fun e=>h1 (by injection e)));clear h1;go_wp2_with fail
                   go_quiet (fail)
                   go_wp2
                   go_ret;exact⟨by rw[HF.out];rfl,⟨HBw4.out.os,HBw4.out.tape,HBw4.out.output,HBw4.out.size,HBw4.out.block⟩⟩
               · have HEQ:Hid (kM (VV q.name) q.attrs q.attrs):=by
                   have h:=hJ.out.2.1;rw[List.take_of_length_le hge3,List.take_of_length_le (by have:=HALL.out;omega)]at h
                   have h2:=HRR.out;rw[h]at h2
                   exact h2
                 have hfr:wr.frozen? ⟨wo.heap.size,3,none⟩=false:=by simp[World.frozen?,HR4.out]
                 obtain⟨W5,hW5⟩:∃W5,W5=wr.setCell ⟨wo.heap.size,3,none⟩ (.slice none 0 0):=⟨_,rfl⟩
                 have HR5:Hid (W5.heap[wo.heap.size]?=some (.cells #[.int .i64 q.kind,.int .i64 q.space,.string q.name,.slice none 0 0,.string q.text,.slice a2 q.kids.length b2] 45 (0,0))):=by rw[hW5];exact aK5 HR4.out
                 have HB5:Hid (Below wo.heap.size wo W5):=by rw[hW5];exact HB4.out.setCell eE _
                 have HW5:=hid hW5;clear hW5;go_upto_region 21 with fail
                 rw[<-HW5.out];have HYY:=hid (HP0.out.below (HB0r.out.trans (HB5.out.mono HB0r.out.size)) eE);have HBw5:=fE HBw HB5.out;clear z0 z1 z2 z3 z4 z5 hfr HR4 HB4 HBw4 hJ;obtain⟨y0,y1,y2,y3,y4,y5⟩:=HYY.out.zero;obtain⟨z0,z1,z2,z3,z4,z5⟩:=(uQ HR5.out).zero;obtain⟨okb,hokb⟩:∃okb:Bool,okb=(fF q&&mY nm.data.toList q.name.data.toList):=⟨_,rfl⟩
                 have HOKB:=hid hokb;clear hokb;go_cut [10] (fun x wx=>x=.bool okb/\Hid (Below W5.heap.size W5 wx))
                 case first =>
                   go_wp2_with fail
                   refine(nH q.kind q.space q.name q.text none 0 0 (.slice a2 q.kids.length b2) q.name W5 (fF q) (aFS q)).mono ?_;unfold aB;rintro e W6 ⟨rfl,B6⟩;have HB6:=hid B6;clear B6 y0 y1 y2 y3 y4 y5 z0 z1 z2 z3 z4 z5;obtain⟨y0,y1,y2,y3,y4,y5⟩:=(HYY.out.below HB6.out eE).zero;obtain⟨z0,z1,z2,z3,z4,z5⟩:=((uQ HR5.out).below HB6.out eE).zero;cases he:fF q with
                   | false =>
                     have HO:Hid (false=okb):=by show _=_;rw[HOKB.out,he];rfl
                     clear he;go_wp2_with fail
                     go_meet
                     case rel=>exact⟨by rw[HO.out],HB6⟩
                   | true =>
                     have HO:Hid (mY nm.data.toList q.name.data.toList=okb):=by show _=_;rw[HOKB.out,he];rfl
                     clear he;go_wp2_with fail
                     refine(aHJ nm q.name W6).mono ?_;rintro e W7 ⟨rfl,B7⟩;have HB7:=fE HB6 B7;clear B7;go_wp2_with fail
                     go_meet
                     case rel=>exact⟨by rw[HO.out],HB7⟩
                 case rest =>
                   obtain⟨rfl,hBc⟩:=hcut;have HBwc:=fE HBw5 hBc.out;have HBoc:=fE HB5 hBc.out;have HYc:=hid (HYY.out.below hBc.out eE);have HZc:=hid ((uQ HR5.out).below hBc.out eE);clear y0 y1 y2 y3 y4 y5 z0 z1 z2 z3 z4 z5;obtain⟨z0,z1,z2,z3,z4,z5⟩:=HZc.out.zero;obtain⟨b5,hb5⟩:∃b5:Bool,b5=true↔cQ VV ph2 (nV q):=by
                     by_cases h:cQ VV ph2 (nV q)
                     · exact⟨true,fun _=>h,fun _=>rfl⟩
                     · exact⟨false,⟨fun e=>(by cases e),fun e=>absurd e h⟩⟩
                   have HB5':=hid hb5;clear hb5;go_wp2_with fail
                   refine(HIQ.out (.agg #[.int .i64 q.kind,.int .i64 q.space,.string q.name,.slice none 0 0,.string q.text,.slice a2 q.kids.length b2]) i2 ph2 b5 wc (hid (HT.out.below HBwc.out eE)) (hid (aIx q HSQ.out)) (hid (by rw[aCG];exact HLQ.out)) (hid (aFx (HND.out.below HBoc.out eE))) hI2 HB5').mono ?_;unfold aB;rintro e W8 ⟨rfl,B8⟩;have HBw8:=fE HBwc B8;have HBo8:=fE HBoc B8;have HZ8:=hid (HZc.out.below B8 eE);clear B8 z0 z1 z2 z3 z4 z5 HYc HZc HYY HR5;obtain⟨z0,z1,z2,z3,z4,z5⟩:=HZ8.out.zero;cases okb with
                   | false =>
                     have HF:=hid (HNO.out (dH HWQ.out (by
                       have h:=HOKB.out;cases he:fF q with
                       | false=>exact .inl rfl
                       | true=>rw[he]at h;exact .inr (.inl h.symm))))
                     go_wp2
                     go_ret;exact⟨by rw[HF.out];rfl,HBw8.out⟩
                   | true =>
                     have HEM:=hid (Bool.and_eq_true_iff.1 HOKB.out.symm);cases b5 with
                     | false =>
                       have HF:=hid (HNO.out (dH HWQ.out (.inr (.inr (.inr (.inr (.inr (fun h=>by
                         have:=HB5'.out.2 ((wU VV q ph2).2 h);cases this))))))))
                       go_wp2
                       go_ret;exact⟨by rw[HF.out];rfl,HBw8.out⟩
                     | true =>
                       have HHQ:=hid ((wU VV q ph2).1 (HB5'.out.1 rfl));have hKQ:=fun W=>iO q.name W
                       have hIN:=fun W=>mE q.name i2 _ (hid (hI2.out.has q.name)) (by omega) W
                       have hnot:aW q.name.data.toList≠4->Lib.containsS ph2 q.name=false:=fun h=>by
                         cases hc:Lib.containsS ph2 q.name with
                         | false=>rfl
                         | true=>exact absurd (hI2.out.kd _ ((Lib.containsS_iff _ _).1 hc)) h
                       obtain⟨cb,hcb⟩:∃cb,Lib.containsS ph2 q.name=cb:=⟨_,rfl⟩
                       obtain⟨K2,hK2⟩:∃K2,aW q.name.data.toList=K2:=⟨_,rfl⟩
                       rw[hcb]at hIN hnot
                       rw[hK2]at hKQ hnot
                       have HKQ:=hid hKQ;have HIN:=hid hIN;have HCB:=hid hcb;have hwk:(K2=4/\cb=true)\/(K2=4/\cb=false)\/(((K2:Int)==4)=false/\cb=false):=by
                         by_cases h:K2=4
                         · cases cb
                           · exact .inr (.inl ⟨h,rfl⟩)
                           · exact .inl ⟨h,rfl⟩
                         · exact .inr (.inr ⟨by rw[beq_eq_false_iff_ne];omega,hnot h⟩)
                       clear hKQ hIN hnot hcb hK2;have HPS:=hid (aC2 ks k hk);obtain⟨c1,hc1⟩:∃c1:Bool,(q.name.toList==[99,97,112,116,105,111,110])=c1:=⟨_,rfl⟩
                       have hcap:q.name=lB->c1=true:=fun h=>by rw[<-hc1,h];decide +kernel
                       have hcap2:c1=true->q.name=lB:=fun h=>by
                         rw[h]at hc1
                         exact fI (by rw[<-toList_data,eq_of_beq hc1];rfl)
                       have hways:(c1=true/\0<k)\/(c1=true/\¬ 0<k)\/c1=false:=by
                         cases c1
                         · exact .inr (.inr rfl)
                         · by_cases h:0<k
                           · exact .inl ⟨rfl,h⟩
                           · exact .inr (.inl ⟨rfl,h⟩)
                       have HCA:Hid (c1=true/\0<k->r=false):=fun h=>HNO.out (dH HWQ.out (.inr (.inr (.inr (.inl ⟨hcap2 h.1,HPS.out.trans (decide_eq_true h.2)⟩)))))
                       have HCN:Hid (¬(c1=true/\0<k)->cb=false->iH VV ks nm ph2 r (k+1)):=fun h h'=>HYES.out (aEr HWQ.out HEM.out.1 HEM.out.2 (fun hm=>by have h6:=HCB.out;rw[(Lib.containsS_iff _ _).2 hm,h']at h6;cases h6) (fun⟨h1,h2⟩=>h ⟨hcap h1,by rw[HPS.out]at h2;exact of_decide_eq_true h2⟩) HEQ.out HHQ.out)
                       have HBc8:=fE hB HBo8.out;clear hcap hcap2;rcases hwk with⟨rfl,rfl⟩|⟨rfl,rfl⟩|⟨h4,rfl⟩
                       · have HF:=hid (HNO.out (dH HWQ.out (.inr (.inr (.inl ((Lib.containsS_iff _ _).1 HCB.out))))))
                         clear hways;go_wp2_with fail
                         refine(HKQ.out _).mono ?_;rintro e W9 ⟨rfl,B9⟩;have HBw9:=fE HBw8 B9;have HZ9:=hid (HZ8.out.below B9 eE);clear B9 z0 z1 z2 z3 z4 z5;obtain⟨z0,z1,z2,z3,z4,z5⟩:=HZ9.out.zero;go_wp2_with fail
                         refine(HIN.out _).mono ?_;rintro e w' ⟨rfl,rfl⟩;go_wp2
                         go_ret;exact⟨by rw[HF.out];rfl,HBw9.out⟩
                       all_goals
                         rcases hways with⟨rfl,hpos⟩|⟨rfl,hpos⟩|rfl
                       all_goals
                         first
                         | have HF:=hid (HCA.out ⟨rfl,hpos⟩)
                         | have HF:=hid (HCN.out (fun h=>by first|exact hpos h.2|cases h.1) rfl)
                       all_goals
                         go_wp2_with fail
                         refine(HKQ.out _).mono ?_;rintro e W9 ⟨rfl,B9⟩;have HBw9:=fE HBw8 B9;have HBc9:=fE HBc8 B9;have HZ9:=hid (HZ8.out.below B9 eE);clear B9 z0 z1 z2 z3 z4 z5;obtain⟨z0,z1,z2,z3,z4,z5⟩:=HZ9.out.zero;go_wp2_with (go_at_call 69;refine(HIN.out _).mono ?_;rintro e w' ⟨rfl,rfl⟩)
                         first
                         | (go_ret
                            exact ⟨by rw [HF.out]; rfl, HBw9.out⟩)
                         | (go_roundw
                            case rel => exact ⟨k + 1, by go_num, HF, HBc9⟩
                            case measure => simp [intOf]; omega)
           · have e3:((r3.length:Int) !=(q.attrs.length:Int))=true:=by rw[bne_iff_ne];omega
             have HF:=hid (HAL.out (fun h=>hal (by rw[h])));clear hal;go_wp2
             go_ret;exact⟨by rw[HF.out];rfl,HBw3.out⟩
       · have HF:=hid (hHA.out.done hge)
         go_wp2
         go_ret;exact⟨by rw[HF.out];rfl,HBw.out⟩
