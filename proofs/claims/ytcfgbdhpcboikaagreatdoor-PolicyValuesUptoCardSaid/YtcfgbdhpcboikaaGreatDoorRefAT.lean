/-
The document's Attrs: what it answers.
-/
import Derived.Test.YtcfgbdhpcboikaaGreatDoorSortA
namespace Go.Proofs.YtcfgbdhpcboikaaGreatDoor
open Go.Lib (hid)
set_option maxHeartbeats 8000000
set_option maxRecDepth 100000
open Go.RowKit
structure lP (l:List AT) (k q:Nat) (d:Bool):Prop where
 le:q≤k
 lt:k<l.length
 iff:d=true↔∃j,∃hj:j<q,(l[j]'(by omega)).1=l[k].1
theorem lP.start {l:List AT}{k:Nat}(h:k<l.length):lP l k 0 false:=⟨Nat.zero_le _,h,⟨fun x=>(by cases x),fun⟨j,hj,_⟩=>absurd hj (by omega)⟩⟩
theorem lP.yes {l:List AT}{k q:Nat}{d:Bool}(h:lP l k q d)(hq:q<k)(hd:d=true∨(l[q]'(by have:=h.lt;omega)).1=(l[k]'h.lt).1):lP l k (q+1) true:=by
 refine⟨hq,h.lt,⟨fun _=>?_,fun _=>rfl⟩⟩;rcases hd with hd|hd
 ·obtain⟨j,hj,e⟩:=h.iff.1 hd;exact⟨j,by omega,e⟩
 ·exact⟨q,by omega,hd⟩
theorem lP.no {l:List AT}{k q:Nat}(h:lP l k q false)(hq:q<k)(hd:(l[q]'(by have:=h.lt;omega)).1≠(l[k]'h.lt).1):lP l k (q+1) false:=by
 refine⟨hq,h.lt,⟨fun x=>(by cases x),fun⟨j,hj,e⟩=>?_⟩⟩;rcases Nat.lt_or_ge j q with h1|h1
 ·exact h.iff.2 ⟨j,h1,e⟩
 ·obtain rfl:j=q:=by omega
  exact absurd e hd
structure pP (done:List AT) (n:ByteArray) (p:Nat):Prop where
 le:p≤done.length
 hi:∀j,∀hj:j<done.length,p≤j→Lib.compareBytes n.data.toList (done[j]).1.data.toList<0
theorem pP.start (done:List AT)(n:ByteArray):pP done n done.length:=⟨Nat.le_refl _,fun j hj h=>absurd hj (by omega)⟩
theorem pP.next {done:List AT}{n:ByteArray}{q:Nat}(h:pP done n (q+1))(hq:q<done.length)(hc:Lib.compareBytes n.data.toList (done[q]).1.data.toList<0):pP done n q:=by
 refine⟨by omega,fun j hj hjq=>?_⟩;by_cases e:j=q
 ·subst e;exact hc
 ·exact h.hi j hj (by omega)
def fS (done:List AT)(q:Nat)(x:AT):List AT:=done.take q++x :: done.drop q
theorem aEA (done:List AT)(x:AT):fS done done.length x=done++[x]:=by unfold fS;rw[List.take_length,List.drop_length]
theorem uY (done:List AT)(q:Nat)(x:AT)(h:q≤done.length):(fS done q x).length=done.length+1:=by
 unfold fS;rw[List.length_append,List.length_cons,List.length_take,List.length_drop];omega
theorem aFN (a b:List AT)(x y:AT):nF (bD (a++x :: b)) (a.length*2) [.string y.1,.string y.2]=bD (a++y :: b):=by
 rw[pX,pX];have e1:bD (x :: b)=[.string x.1,.string x.2]++bD b:=rfl;have e2:bD (y :: b)=[.string y.1,.string y.2]++bD b:=rfl;rw[e1,e2,←cS];generalize bD a=A;generalize bD b=B;apply List.ext_getElem?;intro j;rw[aIw _ _ _ _ (by simp)];by_cases h1:j<A.length
 ·rw[if_neg (by omega),List.getElem?_append_left h1,List.getElem?_append_left h1]
 ·have hA:∀C:List Value,(A++C)[j]?=C[j-A.length]?:=fun C=>List.getElem?_append_right (by omega)
  by_cases h2:j-A.length<2
  ·rw[if_pos (by simp;omega),hA,List.getElem?_append_left (by simpa using h2)]
  ·rw[if_neg (by simp;omega),hA,hA,List.getElem?_append_right (by simp;omega),List.getElem?_append_right (by simp;omega)];rfl
theorem aAG (done:List AT)(q:Nat)(x y:AT)(h:q≤done.length):nF (bD (fS done q x)) (q*2) [.string y.1,.string y.2]=bD (fS done q y):=by
 unfold fS;have:=aFN (done.take q) (done.drop q) x y;rw[List.length_take,Nat.min_eq_left h]at this
 exact this
theorem aGk (done:List AT)(q:Nat)(h:q<done.length):fS done (q+1) done[q]=fS done q done[q]:=by
 unfold fS;rw[List.take_succ_eq_append_getElem h,List.drop_eq_getElem_cons h,List.append_assoc];rfl
theorem aIy (done:List AT)(q:Nat)(x:AT)(h:q<done.length):(fS done (q+1) x)[q]?=some done[q]:=by
 unfold fS;rw[List.getElem?_append_left (by rw[List.length_take];omega),List.getElem?_take,if_pos (by omega),List.getElem?_eq_getElem h]
theorem aM.attr {B:Nat}{v:Value}{n:Nat}{r:List AT}{W0 w:World}(h:aM B 39 2 v n (bD r) W0 w)(j:Nat)(x:AT)(hx:r[j]?=some x) :
  ∃g c,v=.slice (some ⟨g,0,none⟩) n c∧w.cell? ⟨g,j*2,none⟩=some (.string x.1)∧w.cell? ⟨g,j*2+1,none⟩=some (.string x.2):=by
 obtain⟨hj,e⟩:=List.getElem?_eq_some_iff.1 hx;obtain⟨c1,c2⟩:=pD r j hj;rw[e]at c1 c2
 have hn:0<n:=by
  have h1:=h.own.1;rw[cS]at h1
  omega
 obtain⟨g,c,rfl,_⟩:=h.atRow hn;exact⟨g,c,rfl,h.cell _ _ c1,h.cell _ _ c2⟩
theorem aHz (n d:ByteArray):(Lib.compareBytes n.data.toList d.data.toList<0∧Op.bytesLess d.toList n.toList=false∧(d.toList==n.toList)=false) ∨
  (¬Lib.compareBytes n.data.toList d.data.toList<0∧Op.bytesLess d.toList n.toList=true∧(d.toList==n.toList)=false)∨(¬Lib.compareBytes n.data.toList d.data.toList<0∧Op.bytesLess d.toList n.toList=false∧(d.toList==n.toList)=true):=by
 rw[less_iff,toList_data,toList_data,lF n.data.toList d.data.toList];have he:(d.data.toList==n.data.toList)=true→Lib.compareBytes n.data.toList d.data.toList=0:=fun h=>by
  rw[beq_iff_eq]at h
  rw[h,aEU]
 have hn:Lib.compareBytes n.data.toList d.data.toList=0→(d.data.toList==n.data.toList)=true:=fun h=>by rw[beq_iff_eq];exact(zJ _ _ h).symm
 generalize Lib.compareBytes n.data.toList d.data.toList=c at *
 generalize (d.data.toList==n.data.toList)=b at *
 rcases Int.lt_trichotomy c 0 with h|h|h
 ·exact .inl ⟨h,decide_eq_false (by omega),by cases b;rfl;exact absurd (he rfl) (by omega)⟩
 ·exact .inr (.inr ⟨by omega,decide_eq_false (by omega),hn h⟩)
 ·exact .inr (.inl ⟨by omega,decide_eq_true (by omega),by cases b;rfl;exact absurd (he rfl) (by omega)⟩)
theorem aF7 (e:ByteArray)(V:ByteArray→ByteArray→Option ByteArray)(hV:Hid (∀n v,n.size≤1048576→v.size≤1048576→∀W,aA W→Calls Tryz.prog 44 #[.string e,.string n,.string v] W fun x w'=>x=.returned (fU (V n v))∧Below W.heap.size W w'))
  (l:List AT) (hl:l.length≤1048576) (hs:Hid (∀x∈l,x.1.size≤1048576∧x.2.size≤1048576)) (av:Value) (w:World) (T:aA w) (hA:Hid (dL w av l)):Calls Tryz.prog 45 #[.string e,av] w (tQ V l w):=by
 have HT:=hid T;clear T;obtain⟨i39,hi39,hz39,hs39,hb39⟩:=info_parts Tryz.info39;obtain⟨a,c,rfl,_⟩:=hA.out;go_enter Tryz.func45,Tryz.ntmps45
 go_wp2
 go_loopw [5,6] (fun o i wx=>∃(k:Nat) (done:List AT),i=.int .i64 k∧Hid (iB V l k done)∧Hid (aM w.heap.size 39 2 o done.length (bD done) w wx)) (fun _ i _=>l.length-(intOf i).toNat)
 case atStart=>exact⟨0,[],rfl,hid (iB.start V l),hid (aM.nil w 39 2)⟩
 case round =>
  obtain⟨k,done,rfl,hK,hO⟩:=hrel;have hk:=hK.out.le;have hdl:=hK.out.dl;rcases Nat.lt_or_ge k l.length with hlt|hge
  ·obtain⟨g,off,c',hva,_,_⟩:=hA.out.get k hlt;simp only[Value.slice.injEq,true_and]at hva;obtain⟨rfl,rfl⟩:=hva;have HG:Hid (∀j (hj:j<l.length),w.cell? ⟨g,off+j*2,none⟩=some (.string (l[j]).1)∧w.cell? ⟨g,off+j*2+1,none⟩=some (.string (l[j]).2)):=fun j hj=>by
    obtain⟨g',off',c'',hva',k1,k2⟩:=hA.out.get j hj;simp only[Value.slice.injEq,Option.some.injEq,Addr.mk.injEq,true_and,and_true]at hva';obtain⟨⟨rfl,rfl⟩,_⟩:=hva';exact⟨k1,k2⟩
   have hgl:g<w.heap.size:=World.block_lt_of_cell? _ _ (HG.out k hlt).1;have HOLD:=hid (hK.out.old hlt);have HYES:=hid (fun t=>hK.out.yes (t:=t) hlt);have HNO:=hid (hK.out.no hlt);have HSZ:=hid (hs.out l[k] (List.getElem_mem hlt));have HS0:=hid (lP.start hlt);have HGK:=hid (HG.out k hlt);obtain⟨wo,hwo⟩:∃wo,wo=wr:=⟨_,rfl⟩
   have HWO:=hid hwo;clear hwo;go_wp2_with fail
   go_loopw [7,8] (fun b j wx=>∃(q:Nat) (d:Bool),b=.bool d∧j=.int .i64 q∧Hid (lP l k q d)∧Hid (Below wo.heap.size wo wx)) (fun _ j _=>k-(intOf j).toNat)
   case atStart=>exact⟨0,false,rfl,rfl,HS0,by rw[HWO.out];exact hid (Below.refl _ _)⟩
   case round =>
    obtain⟨q,d,rfl,rfl,hD,hB⟩:=hrel;have hqk:=hD.out.le;rcases Nat.lt_or_ge q k with hq|hq
    ·have HGQ:=hid (HG.out q (by omega));have HY:=hid (hD.out.yes hq);have hx:Hid (∀b,((l[q]'(by omega)).1.toList==(l[k]'hlt).1.toList)=b→lP l k (q+1) (d||b)):=fun b hb=>by
      cases d with
      | true=>exact hD.out.yes hq (.inl rfl)
      | false =>
       cases b with
       | true=>exact hD.out.yes hq (.inr (gE (by rw[←toList_data,←toList_data];simpa using hb)))
       | false=>exact hD.out.no hq (fun e=>by rw[e]at hb;simp at hb)
     have hB2:Below w.heap.size w wr:=hO.out.bel.trans ((HWO.out▸hB.out).mono hO.out.bel.size);have z1:wr.cell? ⟨g,off+q*2,none⟩=some (.string (l[q]'(by omega)).1):=by rw[hB2.cell (p:=⟨g,off+q*2,none⟩) hgl];exact HGQ.out.1
     have z2:wr.cell? ⟨g,off+k*2,none⟩=some (.string (l[k]'hlt).1):=by rw[hB2.cell (p:=⟨g,off+k*2,none⟩) hgl];exact HGK.out.1
     clear hB2;generalize hb:((l[q]'(by omega)).1.toList==(l[k]'hlt).1.toList)=b at *
     have HF:=hid (hx.out b rfl);clear hx HY;generalize (l[q]'(by omega)).1=nq at *
     generalize (l[k]'hlt).1=nk at *
     cases d with
     | true =>
      go_wp2_with fail
      go_quiet (fail)
      go_wp2
      go_roundw
      case rel=>exact⟨q+1,true,rfl,by go_num,HF,hid ⟨hB.out.os,hB.out.tape,hB.out.output,hB.out.size,hB.out.block⟩⟩
      case measure=>simp[intOf];omega
     | false =>
      go_wp2_with fail
      go_quiet (fail)
      go_wp2
      go_roundw
      case rel=>exact⟨q+1,b,rfl,by go_num,HF,hid ⟨hB.out.os,hB.out.tape,hB.out.output,hB.out.size,hB.out.block⟩⟩
      case measure=>simp[intOf];omega
    ·obtain rfl:q=k:=by omega
     have HO1:Hid (aM w.heap.size 39 2 u5 done.length (bD done) w wr):=hO.out.keep (HWO.out▸hB.out);have HIF:=hid hD.out.iff;have HT1:=hid (HT.out.below HO1.out.bel (Nat.le_refl _));clear hqk hq;obtain⟨S,hS⟩:∃S:World→Prop,∀u,S u↔Below wr.heap.size wr u:=⟨_,fun _=>Iff.rfl⟩
     have hgw:g<wr.heap.size:=Nat.lt_of_lt_of_le hgl HO1.out.bel.size;have z1:wr.cell? ⟨g,off+q*2,none⟩=some (.string (l[q]'hlt).1):=by rw[HO1.out.bel.cell (p:=⟨g,off+q*2,none⟩) hgl];exact HGK.out.1
     have z2:wr.cell? ⟨g,off+q*2+1,none⟩=some (.string (l[q]'hlt).2):=by rw[HO1.out.bel.cell (p:=⟨g,off+q*2+1,none⟩) hgl];exact HGK.out.2
     have f1:∀s:WIn S,s.w.cell? ⟨g,off+q*2,none⟩=some (.string (l[q]'hlt).1):=fun s=>by rw[((hS _).1 s.h).cell (p:=⟨g,off+q*2,none⟩) hgw];exact z1
     have f2:∀s:WIn S,s.w.cell? ⟨g,off+q*2+1,none⟩=some (.string (l[q]'hlt).2):=fun s=>by rw[((hS _).1 s.h).cell (p:=⟨g,off+q*2+1,none⟩) hgw];exact z2
     haveI:Nonempty (WIn S):=⟨⟨wr,(hS _).2 (Below.refl _ _)⟩⟩
     have HSS:=hid hS;have HC1:Hid (∀w',Below wr.heap.size wr w'→w'.cell? ⟨g,off+q*2,none⟩=some (.string (l[q]'hlt).1)):=fun w' hb=>by rw[hb.cell (p:=⟨g,off+q*2,none⟩) hgw];exact z1
     have HVV:=hid (hV.out _ _ HSZ.out.1 HSZ.out.2);obtain⟨nk,hnk⟩:∃nk,(l[q]'hlt).1=nk:=⟨_,rfl⟩
     obtain⟨vk,hvk⟩:∃vk,(l[q]'hlt).2=vk:=⟨_,rfl⟩
     have HNK:=hid hnk;have HVK:=hid hvk;rw[hnk]at f1 z1 HC1 HVV
     rw[hvk]at f2 z2 HVV
     clear hS z1 z2 hnk hvk hB;go_wp2_with fail
     refine gJ 16 [([0,1,2,3,4,5,6,7,8,9,10],11)] [12,13,14,15] S (by kernel_rfl) (by kernel_rfl) ((HSS.out _).2 (below_drewNm wr 1)) ?_;refine dD (fun K' hK'=>?_);simp only[pick,pickZ,pickS,pickG];repeat (go_big_quiet_step (fail))
     refine wpQuiet_nil (hK' _ (fun Q1 hQ1=>?_));clear hK' K';simp only[pick,pickZ,pickS,pickG];go_wp2_with fail
     have hBd:=below_drewNm wr 1;refine(HVV.out _ (HT1.out.below hBd (Nat.le_refl _))).mono ?_;rintro x W4 ⟨rfl,B4⟩;have hB4:Below wr.heap.size wr W4:=hBd.trans (B4.mono hBd.size);have HB4:=hid hB4;have HO4:=hid (HO1.out.keep hB4);have d1:W4.cell? ⟨g,off+q*2,none⟩=some (.string nk):=HC1.out _ hB4;clear hBd B4 hB4 f1 f2;cases hv:V nk vk with
     | none =>
      have HF:=hid (HNO.out (by rw[HNK.out,HVK.out];exact hv));unfold fU;clear hv;go_wp2_with fail
      refine hQ1 _ _ ((HSS.out _).2 HB4.out) (gZ (fun K' hK'=>?_));simp only[pick,pickZ,pickS,pickG];repeat (go_big_quiet_step (fail))
      refine wpQuiet_nil (hK' _ (fun Q4 hQ4=>?_));clear hQ1 Q1 hK' K';simp only[List.drop_succ_cons,List.drop_zero];cases d;all_goals
       go_wp2
       go_roundw
       case rel=>exact⟨q+1,done,by go_num,HF,HO4⟩
       case measure=>simp[intOf];omega
     | some t =>
      unfold fU;go_wp2_with fail
      refine hQ1 _ _ ((HSS.out _).2 HB4.out) (gZ (fun K' hK'=>?_));simp only[pick,pickZ,pickS,pickG];repeat (go_big_quiet_step (fail))
      refine wpQuiet_nil (hK' _ (fun Q4 hQ4=>?_));clear hQ1 Q1 hK' K';simp only[List.drop_succ_cons,List.drop_zero];have HVT:=hid hv;clear hv;cases d with
      | true =>
       have HF:=hid (HOLD.out (by
        obtain⟨j,hj,e⟩:=HIF.out.1 rfl;exact⟨j,hj,e⟩))
       go_wp2
       go_roundw
       case rel=>exact⟨q+1,done,by go_num,HF,HO4⟩
       case measure=>simp[intOf];omega
      | false =>
       have HY2:=hid (HYES.out t (fun j hj e=>by
        have:=HIF.out.2 ⟨j,hj,e⟩;cases this) (by rw[HNK.out,HVK.out];exact HVT.out))
       rw[HNK.out]at HY2
       clear HIF HYES HNO HOLD HS0;have hd0:done.length≤1048576:=by omega
       obtain⟨a5,c5,rfl,_⟩:=HO4.out.slice;go_upto_block 4 with fail
       go_cut [11] (fun x wx=>∃p:Nat,x=.int .i64 p∧Hid (pP done nk p)∧Hid (∀h0:0<p,∀h:p-1<done.length,¬Lib.compareBytes nk.data.toList (done[p-1]).1.data.toList<0)∧Hid (Below W4.heap.size W4 wx))
       case first =>
        go_wp2_with fail
        go_loopw [11] (fun x wx=>∃p:Nat,x=.int .i64 p∧Hid (pP done nk p)∧Hid (Below W4.heap.size W4 wx)) (fun x _=>(intOf x).toNat)
        case atStart=>exact⟨done.length,rfl,hid (pP.start done nk),hid (Below.refl _ _)⟩
        case round =>
         obtain⟨p,rfl,hP,hB5⟩:=hrel;have hpl:=hP.out.le;have d2:wr.cell? ⟨g,off+q*2,none⟩=some (.string nk):=by rw[hB5.out.cell (p:=⟨g,off+q*2,none⟩) (Nat.lt_of_lt_of_le hgl HO4.out.bel.size)];exact d1
         cases p with
         | zero =>
          go_wp2_with fail
          go_quiet (fail)
          go_wp2_with fail
          go_meet
          case rel=>exact⟨0,rfl,hP,hid (fun h0=>absurd h0 (by omega)),hid ⟨hB5.out.os,hB5.out.tape,hB5.out.output,hB5.out.size,hB5.out.block⟩⟩
         | succ m =>
          have hml:m<done.length:=by omega
          obtain⟨g1,c1,hv5,y1,_⟩:=(HO4.out.keep hB5.out).attr m _ (List.getElem?_eq_getElem hml);simp only[Value.slice.injEq,true_and]at hv5;obtain⟨rfl,rfl⟩:=hv5;have HPN:=hid (hP.out.next hml);have HLE:=hid (aHz nk (done[m]).1);generalize hdn:(done[m]).1=dn at *
          have HDN:=hid hdn;have e0:decide ((0:Int)<((m:Nat):Int)+1)=true:=decide_eq_true (by omega);have hmb:m≤1048576:=by omega
          clear hdn hK hdl hd0;rcases HLE.out with⟨hc,f1,f2⟩|⟨hc,f1,f2⟩|⟨hc,f1,f2⟩
          ·have HF:=hid (HPN.out hc);clear hc;go_wp2_with fail
           go_quiet (fail)
           go_wp2
           go_roundw
           case rel=>exact⟨m,by go_num,HF,hid ⟨hB5.out.os,hB5.out.tape,hB5.out.output,hB5.out.size,hB5.out.block⟩⟩
           case measure=>simp[intOf]
          ·have HF:=hid hc;clear hc;go_wp2_with fail
           go_quiet (fail)
           go_wp2_with fail
           go_meet
           case rel=>exact⟨m+1,by go_num,hP,hid (fun _ h=>by
            have e:(done[m+1-1]'h)=done[m]'hml:=by simp
            rw[e,HDN.out];exact HF.out),hid ⟨hB5.out.os,hB5.out.tape,hB5.out.output,hB5.out.size,hB5.out.block⟩⟩
          ·have HF:=hid hc;clear hc;go_wp2_with fail
           go_quiet (fail)
           go_wp2_with fail
           go_meet
           case rel=>exact⟨m+1,by go_num,hP,hid (fun _ h=>by
            have e:(done[m+1-1]'h)=done[m]'hml:=by simp
            rw[e,HDN.out];exact HF.out),hid ⟨hB5.out.os,hB5.out.tape,hB5.out.output,hB5.out.size,hB5.out.block⟩⟩
       case rest =>
        obtain⟨p,rfl,hP,hPN,hB5⟩:=hcut;have HO5:=hid (HO4.out.keep hB5.out);have hpl:=hP.out.le;have HFIN:=hid (HY2.out p hpl (fun j hj h=>hP.out.hi j hj h) (fun h0=>by have:=hPN.out h0 (by omega);omega));clear d1;go_wp2_with (at_builtin;refine bC (by rfl) _ _ 33 (by rfl) 39 i39 (.agg #[.string ⟨#[]⟩,.string ⟨#[]⟩]) 2 32 Tryz.underlying33 hi39 hz39 hs39 hb39 rfl (by decide) _ _ _ rfl HO5.out #[.string ⟨#[]⟩,.string ⟨#[]⟩] rfl rfl rfl rfl (by omega) (by omega) ?_)
        intro v6 W6 hO6 hG6;have HO6:Hid (aM w.heap.size 39 2 v6 (done.length+1) (bD (fS done done.length (⟨#[]⟩,⟨#[]⟩))) w W6):=hO6.out.cast rfl (by rw[aEA,pX];rfl);clear hO6 hG6;obtain⟨g1,c1,rfl,_⟩:=HO6.out.atRow (by omega);go_wp2_with fail
        go_loopw [12] (fun x wx=>∃(m:Nat) (y:AT),x=.int .i64 m∧p≤m∧m≤done.length∧Hid (aM w.heap.size 39 2 (.slice (some ⟨g1,0,none⟩) (done.length+1) c1) (done.length+1) (bD (fS done m y)) w wx)) (fun x _=>(intOf x).toNat)
        case atStart=>exact⟨done.length,_,by go_num,hpl,Nat.le_refl _,HO6⟩
        case round =>
         obtain⟨m,y,rfl,hpm,hmd,hO7⟩:=hrel;rcases Nat.lt_or_ge p m with hlt2|hge2
         ·obtain⟨r,rfl⟩:∃r,m=r+1:=⟨m-1,by omega⟩
          have hr:r<done.length:=by omega
          obtain⟨g2,c2,hv7,y1,y2⟩:=hO7.out.attr r _ (aIy done r y hr);simp only[Value.slice.injEq,Option.some.injEq,Addr.mk.injEq,true_and,and_true]at hv7;obtain⟨rfl,rfl⟩:=hv7;have HTH:=hid (hO7.out.there ((r+1)*2) 2 (by rw[cS,uY done _ _ hmd];omega));have hO8:=hO7.out.setCells [.string done[r].1,.string done[r].2] _ ((r+1)*2) _;rw[aAG done (r+1) y done[r] hmd,aGk done r hr]at hO8
          have HO8:=hid hO8;have HSH:=hid (show ∃z,z=done[r]from⟨_,rfl⟩);clear hO8 hO7;obtain⟨z,hz⟩:=HSH.out;rw[←hz]at y1 y2 HO8
          clear hz HSH;go_wp2_with (refine wpList_store_mid (by rfl) 39 (.tmp 97) (.tmp 96) rfl g1 ((r+1)*2) #[.string z.1,.string z.2] rfl rfl HTH.out (by rw[hi39];simp[hs39]) (by simp[Value.oneCell']) ?_)
          go_roundw
          case rel=>exact⟨r,z,by go_num,by omega,by omega,HO8⟩
          case measure=>simp[intOf]
         ·obtain rfl:m=p:=by omega
          have y1:wr.cell? ⟨g,off+q*2,none⟩=some (.string nk):=by rw[hO7.out.bel.cell (p:=⟨g,off+q*2,none⟩) hgl,←HNK.out];exact HGK.out.1
          have HTH:=hid (hO7.out.there (m*2) 2 (by rw[cS,uY done _ _ hmd];omega));have hO8:=hO7.out.setCells [.string nk,.string t] _ (m*2) _;rw[aAG done m y (nk,t) hmd]at hO8
          have HO8:=hid (hO8.cast (uY done m (nk,t) hmd).symm rfl);clear hO8 hO7;go_wp2_with (refine wpList_store_mid (by rfl) 39 (.tmp 107) (.tmp 106) rfl g1 (m*2) #[.string nk,.string t] rfl rfl HTH.out (by rw[hi39];simp[hs39]) (by simp[Value.oneCell']) ?_)
          go_roundw
          case rel=>exact⟨q+1,fS done m (nk,t),by go_num,HFIN,HO8⟩
          case measure=>simp[intOf];omega
  ·have HR:=hid (hK.out.done hge);go_wp2
   go_ret;exact⟨_,done,rfl,HR.out,hO.out⟩
end Go.Proofs.YtcfgbdhpcboikaaGreatDoor
