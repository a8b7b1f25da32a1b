/-
policy.holds at every node: the walk.
-/
import Derived.Test.YtcfgbdhpcboikaaGreatDoorCutF
namespace Go.Proofs.YtcfgbdhpcboikaaGreatDoor
open Go.Lib (hid)
set_option maxHeartbeats 8000000
set_option maxRecDepth 100000
open Go.RowKit
theorem cY {n:Nat}:n≤n:=Nat.le_refl n
theorem aG4 (VV:fP)(hV:Hid (aIz VV)):∀(m:Nat) (n:Nd),n.sz≤m→∀(v pv:Value) (ph:List ByteArray) (r:Bool) (w:World),Hid (aB w)→Hid (SmN n)→Hid (ph.length+n.sz≤2000000)→Hid (aG w n v)→Hid (Phr w pv ph)→Hid (r=true↔eJ VV ph n) →
  Calls Tryz.prog 92 #[v,pv] w (bA r w):=by
 intro m;induction m with
 | zero=>intro n hn;exact absurd (eD n) (by omega)
 | succ m ih =>
  intro n hn v pv ph r w HT HS HL hN hP hr;obtain⟨i9,hi9,hz9,hs9,hb9⟩:=info_parts Tryz.info9;obtain⟨av,a,c,rfl,hA,hK,hlen⟩:=hN.out.get;obtain⟨pa,pc,rfl,hpc⟩:=hP.out.cap;have HK:=hid hK;have HIH:=hid ih;have hsz:=cJ n;have hm:=iV n.kids;have HN:=hid (show ∀k∈n.kids,k.sz≤m∧ph.length+1+k.sz≤2000000 by intro k hk;have h1:=hm.1 k hk;have h2:=HL.out;omega);have hkl:n.kids.length≤2000000:=by have h2:=HL.out;omega
  have hpl:ph.length≤2000000:=by have h2:=HL.out;omega
  have HSN:=hid HS.out.get;have hr2:=hr.out;rw[aBV]at hr2
  have HR:=hid hr2;clear hA hK ih hn hN hr hr2 hsz hm HL HS;generalize n.kids=ks at *
  generalize n.name=nm at *
  generalize n.kind=kd at *
  generalize n.space=sp at *
  generalize n.text=tx at *
  generalize n.attrs=at' at *
  have HKA:=hid (fun W=>nI nm W);generalize bR nm.data.toList=K at *
  obtain⟨W0,hW0⟩:∃W0,W0=w.alloc (.cells #[.int .i64 kd,.int .i64 sp,.string nm,av,.string tx,.slice a ks.length c] 45):=⟨_,rfl⟩
  have hB0:Below w.heap.size w W0:=by rw[hW0];exact(Below.refl _ w).alloc cY _
  have hz:W0.heap.size=w.heap.size+1:=by rw[hW0];simp
  have hP0:=(aP w (.int .i64 kd) (.int .i64 sp) (.string nm) av (.string tx) (.slice a ks.length c))
  rw[←hW0]at hP0
  obtain⟨y0,y1,y2,y3,y4,y5⟩:=hP0.zero;have HP0:=hid hP0;have HB0:=hid hB0;have HZ:=hid hz;have HW0:=hid hW0;have HPH:=hid (hP.out.below hB0 cY);clear hP0 hB0 hz hW0 hP;go_enter Tryz.func92,Tryz.ntmps92
  go_wp2_with fail
  rw[←HW0.out];refine(HKA.out _).mono ?_;rintro e w' ⟨rfl,rfl⟩;go_upto_if 10 with fail
  go_cut [1] (fun p wx=>Hid (Phr wx p (if K=4 then ph++[nm]else ph))∧Hid (Below W0.heap.size W0 wx))
  case first =>
   by_cases hk:K=4
   ·have e1:((K:Int)==4)=true:=by rw[beq_iff_eq];omega
    have HKK:=hid hk;clear hk;go_wp2_with fail
    obtain⟨S,hS⟩:∃S:World→Prop,∀u,S u↔Below W0.heap.size W0 u:=⟨_,fun _=>Iff.rfl⟩
    have f1:∀s:WIn S,s.w.cell? ⟨w.heap.size,2,none⟩=some (.string nm):=fun s=>(HP0.out.below ((hS _).1 s.h) cY).x2
    haveI:Nonempty (WIn S):=⟨⟨W0,(hS _).2 (Below.refl _ _)⟩⟩
    have HSS:=hid hS;clear hS y0 y1 y2 y3 y4 y5;refine eK 10 [([0,1,2,3,4,5,6,7],8),([],9)] [] S (by kernel_rfl) (by kernel_rfl) ((HSS.out _).2 (below_drewNm W0 1)) ?_;refine aZ (fun K' hK'=>?_);simp only[pick,pickZ,pickS,pickG];repeat (go_big_quiet_step (first|rw[vY 55 9 Tryz.underlying55 i9 hi9]|fail))
    refine wpQuiet_nil (hK' _ (fun Q1 hQ1=>?_));clear hK' K';simp only[pick,pickZ,pickS,pickG];go_wp2
    have hB1:Below W0.heap.size W0 ((W0.drewN 1).alloc (.cells #[.string nm] 9)):=(below_drewNm W0 1).alloc cY _;have HB1:=hid hB1;have hnew:((W0.drewN 1).alloc (.cells #[.string nm] 9)).cell? ⟨W0.heap.size,0,none⟩=some (.string nm):=by rw[cell_of_row _ W0.heap.size 0 _ 9 (0,0) (heap_alloc_new (W0.drewN 1) _)];rfl
    refine hQ1 _ _ ((HSS.out _).2 hB1) (aZ (fun K' hK'=>wpQuiet_nil (hK' _ (fun Q2 hQ2=>?_))));clear hK' K' hQ1 Q1 hB1;simp only[pick,pickZ,pickS,pickG];have HPH1:=hid (HPH.out.below HB1.out cY);have hvec:iW ((W0.drewN 1).alloc (.cells #[.string nm] 9)) (.slice pa ph.length ph.length) ph.length (ph.map pA):=by
     obtain⟨a',c',e',h'⟩:=HPH1.out.vec;simp only[Value.slice.injEq]at e';exact⟨a',_,by rw[e'.1],h'⟩
    have HVEC:=hid hvec;have HNEW:=hid hnew;clear hvec hnew;go_wp2_with (at_builtin;refine oU rfl _ _ 55 rfl 9 i9 (.string ⟨#[]⟩) 16 Tryz.underlying55 hi9 hz9 hs9 hb9 _ ph.length (ph.map pA) rfl ⟨_,rfl⟩ HVEC.out (List.length_map ..) _ _ _ rfl HNEW.out (by omega) (by omega) ?_)
    intro v' w' hv' hc' hb';have hB2:Below W0.heap.size W0 w':=HB1.out.trans (hb'.out.mono (by omega));have HB2:=hid hB2;clear hB2;go_wp2_with fail
    refine hQ2 _ _ ((HSS.out _).2 HB2.out) (fE (fun K' hK'=>wpQuiet_nil (hK' _ (fun Q4 hQ4=>?_))));clear hQ2 Q2 hK' K' f1;simp only[List.drop_succ_cons,List.drop_zero];go_wp2_with fail
    go_meet
    case rel =>
     refine⟨?_,HB2⟩;rw[if_pos HKK.out];obtain⟨y',c',e1,e2⟩:=hc'.out;exact hid ⟨by rw[List.length_append,List.map_append];exact hv'.out,⟨y',c',by rw[List.length_append];exact e1,by rw[List.length_append];exact e2⟩⟩
   ·have e1:((K:Int)==4)=false:=by rw[beq_eq_false_iff_ne];omega
    have HKK:=hid hk;clear hk;go_wp2_with fail
    go_meet
    case rel=>exact⟨by rw[if_neg HKK.out];exact HPH,hid (Below.refl _ _)⟩
  case rest =>
   obtain⟨hPh,hBc⟩:=hcut;obtain⟨ph2,hph2⟩:∃ph2,ph2=if K=4 then ph++[nm]else ph:=⟨_,rfl⟩
   rw[←hph2]at hPh HR
   have hpl2:ph2.length≤2000001:=by
    rw[hph2];split
    ·rw[List.length_append,List.length_singleton];omega
    ·omega
   have HN2:=hid (show ∀k∈ks,k.sz≤m∧ph2.length+k.sz≤2000000 by
    intro k hk;have h1:=HN.out k hk;refine⟨h1.1,?_⟩;rw[hph2];split
    ·rw[List.length_append,List.length_singleton];omega
    ·omega)
   clear hph2 HN HPH y0 y1 y2 y3 y4 y5;have hBw:Below w.heap.size w wc:=HB0.out.trans (hBc.out.mono HB0.out.size);have HBw:=hid hBw;obtain⟨y0,y1,y2,y3,y4,y5⟩:=(HP0.out.below hBc.out cY).zero;have HHA:=hid (jX.start HR.out);clear hBw;go_wp2_with fail
   go_loopw [4,24] (fun _ i wx=>∃k:Nat,i=.int .i64 k∧Hid (jX VV ks nm ph2 r k)∧Hid (Below wc.heap.size wc wx)) (fun _ i _=>ks.length-(intOf i).toNat)
   case atStart=>exact⟨0,rfl,HHA,hid (Below.refl _ _)⟩
   case round =>
    obtain⟨k,rfl,hHA,hB⟩:=hrel;have hk:=hHA.out.le;rcases Nat.lt_or_ge k ks.length with hlt|hge
    ·have hst:=HHA;obtain⟨g,off,c0,c1,c2,c3,c4,c5,rfl,h6,hn⟩:=HK.out.get ks 0 k hlt;rw[Nat.zero_add]at h6
     have HPV:=hid (show 0<k→∃hj:k-1<ks.length,wr.cell? ⟨g,off+(k-1)*6,none⟩=some (.int .i64 (ks[k-1]'hj).kind) by
      intro h0;have hj:k-1<ks.length:=by omega
      obtain⟨g',off',d0,d1,d2,d3,d4,d5,e',h6',hn'⟩:=HK.out.get ks 0 (k-1) hj;rw[Nat.zero_add]at h6'
      cases e';obtain⟨_,_,_,_,rfl,_⟩:=hn'.cells;exact⟨hj,(h6'.below (HBw.out.trans (hB.out.mono HBw.out.size)) cY).x0⟩)
     have hBr:Below w.heap.size w wr:=HBw.out.trans (hB.out.mono HBw.out.size);obtain⟨x0,x1,x2,x3,x4,x5⟩:=h6.below hBr cY;obtain⟨a1,b1,a2,b2,rfl,rfl,rfl,rfl,rfl,rfl⟩:=hn.cells;have HND:=hid (hn.below hBr cY);have HSQ:=hid (SmK.get ks k hlt HSN.out.2.2.2.2);have HIQ:=hid (HIH.out ks[k] (HN2.out _ (List.getElem_mem hlt)).1);have HLQ:=hid (HN2.out _ (List.getElem_mem hlt)).2;have HNO:=hid (hHA.out.no hlt);have HYES:=hid (hHA.out.yes hlt);have HBr:=hid hBr;clear hst hn h6 hBr;generalize ks[k]=q at *
     obtain⟨W1,hW1⟩:∃W1,W1=wr.alloc (.cells #[.int .i64 q.kind,.int .i64 q.space,.string q.name,.slice a1 q.attrs.length b1,.string q.text,.slice a2 q.kids.length b2] 45):=⟨_,rfl⟩
     have hB1:Below wr.heap.size wr W1:=by rw[hW1];exact(Below.refl _ wr).alloc cY _
     have hP1:=aP wr (.int .i64 q.kind) (.int .i64 q.space) (.string q.name) (.slice a1 q.attrs.length b1) (.string q.text) (.slice a2 q.kids.length b2);rw[←hW1]at hP1
     have HP1:=hid hP1;have HB1:=hid hB1;have HW1:=hid hW1;have HND1:=hid (HND.out.below hB1 cY);clear hB1 hP1 hW1 HND;go_wp2_with fail
     rw[←HW1.out];have hBw1:Below w.heap.size w W1:=HBr.out.trans (HB1.out.mono HBr.out.size);refine(aB2 q.kind q.space q.name q.text (by have:=HSQ.out.get.2.1;omega) a1 q.attrs.length b1 a2 q.kids.length b2 W1 (HT.out.below hBw1 cY) (eE q) (hid rfl)).mono ?_;unfold bA;rintro e W2 ⟨rfl,B2⟩;have HP2:=hid (HP1.out.below B2 cY);have HND2:=hid (HND1.out.below B2 cY);have hB12:Below wr.heap.size wr W2:=HB1.out.trans (B2.mono HB1.out.size);have HB2:=hid hB12;have HBw2:=hid (HBr.out.trans (hB12.mono HBr.out.size));have HBc2:=hid (hB.out.trans (hB12.mono hB.out.size));clear HP1 HND1 HB1 hBw1 B2 hB12;obtain⟨y0,y1,y2,y3,y4,y5⟩:=((HP0.out.below hBc.out cY).below HBc2.out cY).zero;cases hw:eE q with
     | true =>
      have HWQ:=hid hw;clear hw;go_wp2_with fail
      refine(aCh nm W2).mono ?_;rintro e w' ⟨rfl,rfl⟩;cases ht:lO nm.data.toList with
      | false =>
       have HF:=hid (HNO.out (vK HWQ.out (.inl ht)));clear ht;go_wp2
       go_ret;exact⟨by rw[HF.out];rfl,HBw2.out⟩
      | true =>
       rcases Nat.eq_zero_or_pos k with h0|h0
       ·subst h0;have HF:=hid (HYES.out (aBW HWQ.out ht rfl));clear ht;go_wp2
        go_roundw
        case rel=>exact⟨1,rfl,HF,HBc2⟩
        case measure=>simp[intOf];omega
       ·obtain⟨hj,hc⟩:=HPV.out h0;have hpt:=aHH ks (k-1) hj;rw[show k-1+1=k by omega]at hpt
        have hc2:W2.cell? ⟨g,off+(k-1)*6,none⟩=some (.int .i64 (ks[k-1]).kind):=by
         rw[HB2.out.cell (p:=⟨g,off+(k-1)*6,none⟩) (World.block_lt_of_cell? _ _ hc)];exact hc
        have HPT:=hid hpt;have HTT:=hid ht;clear hc hpt ht;generalize ks[k-1].kind=pk at *
        by_cases hp2:pk=2
        ·have e1:(pk==2)=true:=by rw[beq_iff_eq];exact hp2
         have HF:=hid (HNO.out (vK HWQ.out (.inr (HPT.out.trans (decide_eq_true hp2)))));clear hp2;go_wp2
         go_ret;exact⟨by rw[HF.out];rfl,HBw2.out⟩
        ·have e1:(pk==2)=false:=by rw[beq_eq_false_iff_ne];exact hp2
         have HF:=hid (HYES.out (aBW HWQ.out HTT.out (HPT.out.trans (decide_eq_false hp2))));clear hp2;go_wp2
         go_roundw
         case rel=>exact⟨k+1,by go_num,HF,HBc2⟩
         case measure=>simp[intOf];omega
     | false =>
      have HWQ:=hid hw;clear hw;obtain⟨z0,z1,z2,z3,z4,z5⟩:=HP2.out.zero;go_wp2_with fail
      refine(yR q.kind q.space q.name q.text (.slice a1 q.attrs.length b1) (.slice a2 q.kids.length b2) W2 (nV q) (hid rfl)).mono ?_;unfold bA;rintro e W3 ⟨rfl,B3⟩;have HP3:=hid (HP2.out.below B3 cY);have HND3:=hid (HND2.out.below B3 cY);have hB13:Below wr.heap.size wr W3:=HB2.out.trans (B3.mono HB2.out.size);have HB3:=hid hB13;have HBw3:=hid (HBr.out.trans (hB13.mono HBr.out.size));have HBc3:=hid (hB.out.trans (hB13.mono hB.out.size));clear y0 y1 y2 y3 y4 y5 z0 z1 z2 z3 z4 z5 HP2 HND2 HB2 HBw2 HBc2 B3 hB13;obtain⟨y0,y1,y2,y3,y4,y5⟩:=((HP0.out.below hBc.out cY).below HBc3.out cY).zero;obtain⟨z0,z1,z2,z3,z4,z5⟩:=HP3.out.zero;cases he:nV q with
      | false =>
       have HF:=hid (HNO.out (jK HWQ.out (.inl he)));clear he;go_wp2
       go_ret;exact⟨by rw[HF.out];rfl,HBw3.out⟩
      | true =>
       have HE:=hid he;clear he;go_wp2_with fail
       refine(aE3 nm q.name W3).mono ?_;rintro e w' ⟨rfl,rfl⟩;cases hm:rP nm.data.toList q.name.data.toList with
       | false =>
        have HF:=hid (HNO.out (jK HWQ.out (.inr (.inl hm))));clear hm;go_wp2
        go_ret;exact⟨by rw[HF.out];rfl,HBw3.out⟩
       | true =>
        have HM:=hid hm;clear hm;have hPh3:=hPh.out.below HBc3.out cY;have C:=mT u1 ph2 q.name W3 (by omega) hPh3.vec _ rfl;have HC:=hid C;have HPh3:=hid hPh3;clear C hPh3;go_wp2_with fail
        refine HC.out.mono ?_;rintro e w' ⟨rfl,rfl⟩;clear HC;cases hct:Lib.containsS ph2 q.name with
        | true =>
         have HF:=hid (HNO.out (jK HWQ.out (.inr (.inr (.inl ((Lib.containsS_iff _ _).1 hct))))));clear hct;go_wp2
         go_ret;exact⟨by rw[HF.out];rfl,HBw3.out⟩
        | false =>
         have HCT:=hid (show q.name∉ph2 from fun h=>by rw[(Lib.containsS_iff _ _).2 h]at hct;cases hct);clear hct;have HPS:=hid (aHG ks k hk);obtain⟨c1,hc1⟩:∃c1:Bool,(q.name.toList==[99,97,112,116,105,111,110])=c1:=⟨_,rfl⟩
         have hcap:q.name=kN→c1=true:=fun h=>by rw[←hc1,h];decide +kernel
         have hcap2:c1=true→q.name=kN:=fun h=>by
          rw[h]at hc1
          exact gU (by rw[←toList_data,eq_of_beq hc1];rfl)
         have hways:(c1=true∧0<k)∨(c1=true∧¬ 0<k)∨c1=false:=by
          cases c1
          ·exact .inr (.inr rfl)
          ·by_cases h:0<k
           ·exact .inl ⟨rfl,h⟩
           ·exact .inr (.inl ⟨rfl,h⟩)
         rcases hways with⟨rfl,hpos⟩|hways
         ·have HF:=hid (HNO.out (jK HWQ.out (.inr (.inr (.inr (.inl ⟨hcap2 rfl,HPS.out.trans (decide_eq_true hpos)⟩))))));clear hcap hcap2;go_wp2
          go_ret;exact⟨by rw[HF.out];rfl,HBw3.out⟩
         have HCAP:Hid (¬(q.name=kN∧(iO ks k).isSome=true)):=by
          rintro⟨h1,h2⟩;have h3:=hcap h1;rw[HPS.out]at h2
          have h4:=of_decide_eq_true h2;rcases hways with⟨_,h5⟩|h5
          ·exact h5 h4
          ·rw[h5]at h3;cases h3
         clear hcap hcap2;rcases hways with hways|hways
         all_goals (first|obtain⟨rfl,_⟩:=hways|obtain rfl:=hways)
         all_goals go_upto_region 11 with fail
         all_goals (
          clear hc1;obtain⟨S,hS⟩:∃S:World→Prop,∀u,S u↔Below W3.heap.size W3 u:=⟨_,fun _=>Iff.rfl⟩
          have g0:∀s:WIn S,s.w.cell? ⟨wr.heap.size,0,none⟩=some (.int .i64 q.kind):=fun s=>(HP3.out.below ((hS _).1 s.h) cY).x0
          have g1:∀s:WIn S,s.w.cell? ⟨wr.heap.size,1,none⟩=some (.int .i64 q.space):=fun s=>(HP3.out.below ((hS _).1 s.h) cY).x1
          have g2:∀s:WIn S,s.w.cell? ⟨wr.heap.size,2,none⟩=some (.string q.name):=fun s=>(HP3.out.below ((hS _).1 s.h) cY).x2
          have g3:∀s:WIn S,s.w.cell? ⟨wr.heap.size,3,none⟩=some (.slice a1 q.attrs.length b1):=fun s=>(HP3.out.below ((hS _).1 s.h) cY).x3
          have g4:∀s:WIn S,s.w.cell? ⟨wr.heap.size,4,none⟩=some (.string q.text):=fun s=>(HP3.out.below ((hS _).1 s.h) cY).x4
          have g5:∀s:WIn S,s.w.cell? ⟨wr.heap.size,5,none⟩=some (.slice a2 q.kids.length b2):=fun s=>(HP3.out.below ((hS _).1 s.h) cY).x5
          haveI:Nonempty (WIn S):=⟨⟨W3,(hS _).2 (Below.refl _ _)⟩⟩
          have HSS:=hid hS;clear hS y0 y1 y2 y3 y4 y5 z0 z1 z2 z3 z4 z5;refine eK 14 [([0,1,2,3,5,6],4),([],7),([8,9,10,11],12)] [13] S (by kernel_rfl) (by kernel_rfl) ((HSS.out _).2 (below_drewNm W3 1)) ?_;refine aZ (fun K' hK'=>?_);simp only[pick,pickZ,pickS,pickG];repeat (go_big_quiet_step (fail))
          refine wpQuiet_nil (hK' _ (fun Q1 hQ1=>?_));clear hK' K';simp only[pick,pickZ,pickS,pickG];go_wp2_with fail
          have hB3d:Below W3.heap.size W3 (W3.drewN 1):=below_drewNm W3 1;have hA3:=HND3.out.attrs;have HA3:=hid hA3;have hBd:Below w.heap.size w (W3.drewN 1):=HBw3.out.trans (hB3d.mono HBw3.out.size);refine(aAE q.name (by have:=HSQ.out.get.1;omega) (VV q.name) (hid (fun n v h1 h2=>hV.out q.name n v HSQ.out.get.1 h1 h2)) q.attrs HSQ.out.get.2.2.1 (hid HSQ.out.get.2.2.2.1) (.slice a1 q.attrs.length b1) (W3.drewN 1) (HT.out.below hBd cY) (hid (HA3.out.below hB3d cY))).mono ?_;unfold aBE;rintro e W4 ⟨v4,r4,rfl,hr4,hO4⟩;have hB34:Below W3.heap.size W3 W4:=hB3d.trans (hO4.bel.mono hB3d.size);have HB34:=hid hB34;have HR4:=hid hr4;have HV4:=hid hO4.attrs;have HA4:=hid (HA3.out.below hB34 cY);have HL4:=hid (show r4.length≤1000000000 by
           have h1:=hr4.1.length_eq;have h2:=aGu (VV q.name) q.attrs [];have h3:=HSQ.out.get.2.2.1;omega)
          clear hB34 hr4 hO4 hA3 hB3d hBd;go_wp2_with fail
          refine hQ1 _ _ ((HSS.out _).2 HB34.out) (aZ (fun K' hK'=>wpQuiet_nil (hK' _ (fun Q2 hQ2=>?_))));clear hK' K' hQ1 Q1;simp only[pick,pickZ,pickS,pickG];go_wp2_with fail
          obtain⟨be,hbe⟩:∃be:Bool,decide (r4=q.attrs)=be:=⟨_,rfl⟩
          refine(aBN v4 (.slice a1 q.attrs.length b1) r4 q.attrs HL4.out (by have:=HSQ.out.get.2.2.1;omega) W4 HV4 HA4 be (hid hbe)).mono ?_;unfold bA;rintro e W5 ⟨rfl,B5⟩;have hB35:Below W3.heap.size W3 W5:=HB34.out.trans (B5.mono HB34.out.size);have HB35:=hid hB35;have hBw5:Below w.heap.size w W5:=HBw3.out.trans (hB35.mono HBw3.out.size);have HBw5:=hid hBw5;clear hB35 hBw5 B5;cases be with
          | false =>
           have HF:=hid (HNO.out (jK HWQ.out (.inr (.inr (.inr (.inr (.inl (fun h=>of_decide_eq_false hbe (qG HR4.out h)))))))));clear hbe;go_wp2_with fail
           refine hQ2 _ _ ((HSS.out _).2 HB35.out) (aZ (fun K' hK'=>?_));clear hQ2 Q2;simp only[pick,pickZ,pickS,pickG];repeat (go_big_quiet_step (fail))
           refine wpQuiet_nil (hK' _ (fun Q3 hQ3=>?_));clear hK' K';simp only[pick,pickZ,pickS,pickG];go_wp2_with fail
           refine hQ3 _ _ ((HSS.out _).2 HB35.out) (fE (fun K' hK'=>?_));clear hQ3 Q3;simp only[pick,pickZ,pickS,pickG];repeat (go_big_quiet_step (fail))
           refine wpQuiet_nil (hK' _ (fun Q4 hQ4=>?_));clear hK' K';simp only[List.drop_succ_cons,List.drop_zero];clear g0 g1 g2 g3 g4 g5;go_wp2
           go_ret;exact⟨by rw[HF.out];rfl,HBw5.out⟩
          | true =>
           have HEQ:=hid (show jW (VV q.name) q.attrs q.attrs by
            have h1:=HR4.out;rw[of_decide_eq_true hbe]at h1
            exact h1)
           clear hbe;obtain⟨b5,hb5⟩:∃b5:Bool,b5=true↔eJ VV ph2 q:=by
            by_cases h:eJ VV ph2 q
            ·exact⟨true,fun _=>h,fun _=>rfl⟩
            ·exact⟨false,⟨fun e=>(by cases e),fun e=>absurd e h⟩⟩
           have HB5:=hid hb5;clear hb5;go_wp2_with fail
           refine hQ2 _ _ ((HSS.out _).2 HB35.out) (aZ (fun K' hK'=>?_));clear hQ2 Q2;simp only[pick,pickZ,pickS,pickG];repeat (go_big_quiet_step (fail))
           refine wpQuiet_nil (hK' _ (fun Q3 hQ3=>?_));clear hK' K';simp only[pick,pickZ,pickS,pickG];go_wp2_with fail
           refine(HIQ.out _ u1 ph2 b5 W5 (hid (HT.out.below HBw5.out cY)) HSQ HLQ (hid (HND3.out.below HB35.out cY)) (hid (HPh3.out.below HB35.out cY)) HB5).mono ?_;unfold bA;rintro e W6 ⟨rfl,B6⟩;have hB36:Below W3.heap.size W3 W6:=HB35.out.trans (B6.mono HB35.out.size);have HB36:=hid hB36;have HBw6:=hid (HBw3.out.trans (hB36.mono HBw3.out.size));have HBc6:=hid (HBc3.out.trans (hB36.mono HBc3.out.size));clear hB36 B6;go_wp2_with fail
           refine hQ3 _ _ ((HSS.out _).2 HB36.out) (fE (fun K' hK'=>?_));clear hQ3 Q3;simp only[pick,pickZ,pickS,pickG];repeat (go_big_quiet_step (fail))
           refine wpQuiet_nil (hK' _ (fun Q4 hQ4=>?_));clear hK' K';simp only[List.drop_succ_cons,List.drop_zero];clear g0 g1 g2 g3 g4 g5;cases b5 with
           | false =>
            have HF:=hid (HNO.out (jK HWQ.out (.inr (.inr (.inr (.inr (.inr (fun h=>by have:=HB5.out.2 h;cases this))))))));go_wp2
            go_ret;exact⟨by rw[HF.out];rfl,HBw6.out⟩
           | true =>
            have HF:=hid (HYES.out (aJf HWQ.out HE.out HM.out HCT.out HCAP.out HEQ.out (HB5.out.1 rfl)));go_wp2
            go_roundw
            case rel=>exact⟨k+1,by go_num,HF,HBc6⟩
            case measure=>simp[intOf];omega)
    ·have HRR:=hid (hHA.out.done hge);go_wp2
     go_ret;exact⟨by rw[HRR.out];rfl,HBw.out.trans (hB.out.mono HBw.out.size)⟩
