/-
The document's SameNode at a node and itself.
-/
import Derived.Test.YtcfgbdhpcboikaaGreatDoorSmF
namespace Go.Proofs.YtcfgbdhpcboikaaGreatDoor
open Go.Lib (hid)
set_option maxHeartbeats 4000000
set_option maxRecDepth 100000
open Go.RowKit
theorem aJ {n:Nat}:n≤n:=Nat.le_refl n
theorem cM {a w v:World}(h:Go.RowKit.Hid (Go.RowKit.Below a.heap.size a w))(b:Go.RowKit.Below w.heap.size w v):Go.RowKit.Hid (Go.RowKit.Below a.heap.size a v):=hid (h.out.trans (b.mono h.out.size))
theorem aB6:∀(m:Nat) (n:Nd),n.sz≤m→∀(v v':Value) (w:World),Hid (SmN n)→Hid (aG w n v)→Hid (aG w n v') →
  Calls Tryz.prog 43 #[v,v'] w (bA true w):=by
 intro m;induction m with
 | zero=>intro n hn;exact absurd (eD n) (by omega)
 | succ m ih =>
  intro n hn v v' w HS hN hN';obtain⟨av,a,c,rfl,hA,hK,hlen⟩:=hN.out.get;obtain⟨av',a',c',rfl,hA',hK',_⟩:=hN'.out.get;obtain⟨aa,ca,rfl,hAA⟩:=hA;obtain⟨aa',ca',rfl,hAA'⟩:=hA';have HA:=hid (show dZ w (.slice aa n.attrs.length ca) n.attrs from⟨aa,ca,rfl,hAA⟩);have HA':=hid (show dZ w (.slice aa' n.attrs.length ca') n.attrs from⟨aa',ca',rfl,hAA'⟩);have HK:=hid hK;have HK':=hid hK';have HIH:=hid ih;have HN:=hid (show ∀k∈n.kids,k.sz≤m by
   intro k hk;have h1:=cJ n;have h2:=(iV n.kids).1 k hk;omega)
  have HSN:=hid HS.out.get;have hal:n.attrs.length≤1048576:=HS.out.get.2.2.1;clear hK hK' ih hn hN hN' HS hAA hAA';generalize n.kids=ks at *
  generalize n.name=nm at *
  generalize n.kind=kd at *
  generalize n.space=sp at *
  generalize n.text=tx at *
  generalize n.attrs=at' at *
  have e0:(kd !=kd)=false:=by simp
  have e1:(sp !=sp)=false:=by simp
  have e2:(nm.toList !=nm.toList)=false:=by simp
  have e3:(tx.toList !=tx.toList)=false:=by simp
  go_enter Tryz.func43,Tryz.ntmps43
  obtain⟨W0,hW0⟩:∃W0,W0=(w.alloc (.cells #[.int .i64 kd,.int .i64 sp,.string nm,.slice aa at'.length ca,.string tx,.slice a ks.length c] 45)).alloc (.cells #[.int .i64 kd,.int .i64 sp,.string nm,.slice aa' at'.length ca',.string tx,.slice a' ks.length c'] 45):=⟨_,rfl⟩
  have hB0:Below w.heap.size w W0:=by rw[hW0];exact((Below.refl _ w).alloc aJ _).alloc (by simp) _
  have hP0:Six W0 w.heap.size 0 (.int .i64 kd) (.int .i64 sp) (.string nm) (.slice aa at'.length ca) (.string tx) (.slice a ks.length c):=by
   rw[hW0];exact(aP w _ _ _ _ _ _).below ((Below.refl (w.alloc _).heap.size _).alloc aJ _) aJ
  have hP1:Six W0 (w.heap.size+1) 0 (.int .i64 kd) (.int .i64 sp) (.string nm) (.slice aa' at'.length ca') (.string tx) (.slice a' ks.length c'):=by
   have h:=aP (w.alloc (.cells #[.int .i64 kd,.int .i64 sp,.string nm,.slice aa at'.length ca,.string tx,.slice a ks.length c] 45)) (.int .i64 kd) (.int .i64 sp) (.string nm) (.slice aa' at'.length ca') (.string tx) (.slice a' ks.length c');rw[←hW0]at h
   simpa using h
  have HP0:=hid hP0;have HP1:=hid hP1;have HB0:=hid hB0;have HW0:=hid hW0;clear hP0 hP1 hB0 hW0;go_wp2_with fail
  rw[←HW0.out];go_loopw [4,5] (fun r i wx=>r=.bool false∧∃k:Nat,i=.int .i64 k∧Hid (k≤at'.length∧Below W0.heap.size W0 wx)) (fun _ i _=>at'.length-(intOf i).toNat)
  case atStart=>exact⟨rfl,0,rfl,hid ⟨Nat.zero_le _,Below.refl _ _⟩⟩
  case round =>
   obtain⟨rfl,k,rfl,hK⟩:=hrel;have hk:=hK.out.1;obtain⟨y0,y1,y2,y3,y4,y5⟩:=(HP0.out.below hK.out.2 aJ).zero;obtain⟨z0,z1,z2,z3,z4,z5⟩:=(HP1.out.below hK.out.2 aJ).zero;have hBw:Below w.heap.size w wr:=HB0.out.trans (hK.out.2.mono HB0.out.size);have HBw:=hid hBw;clear hBw;rcases Nat.lt_or_ge k at'.length with hlt|hge
   ·obtain⟨g1,o1,c1,hv1,a1,a2⟩:=(HA.out.below HBw.out aJ).get k hlt;obtain⟨g2,o2,c2,hv2,b1,b2⟩:=(HA'.out.below HBw.out aJ).get k hlt;simp only[Value.slice.injEq,true_and]at hv1 hv2;obtain⟨rfl,rfl⟩:=hv1;obtain⟨rfl,rfl⟩:=hv2;generalize at'[k]=q at *
    obtain⟨qn,qv⟩:=q;simp only at a1 a2 b1 b2;have e1:(qn.toList==qn.toList)=true:=by simp
    have e2:(qv.toList==qv.toList)=true:=by simp
    go_wp2_with fail
    go_quiet (fail)
    go_wp2
    go_roundw
    case rel=>exact⟨rfl,k+1,by go_num,hid ⟨hlt,hK.out.2.trans ((below_drewNm wr nq).mono hK.out.2.size)⟩⟩
    case measure=>simp[intOf];omega
   ·have HPa:=hid (HP0.out.below hK.out.2 aJ);have HPb:=hid (HP1.out.below hK.out.2 aJ);have hb1:w.heap.size<W0.heap.size:=World.block_lt_of_cell? _ _ HP0.out.x0;have hb2:w.heap.size+1<W0.heap.size:=World.block_lt_of_cell? _ _ HP1.out.x0;have HSZ:=hid (show w.heap.size+1<wr.heap.size by have:=hK.out.2.size;omega);clear hK hk hb1 hb2 HW0;go_wp2_with fail
    rw[show decide (k<at'.length)=false from decide_eq_false (by omega)];clear hge y0 y1 y2 y3 y4 y5 z0 z1 z2 z3 z4 z5;rename World=>W2
    go_loopw [4,6,7] (fun r i _ wx=>r=.bool false∧∃k:Nat,i=.int .i64 k∧Hid (k≤ks.length∧Below W2.heap.size W2 wx)) (fun _ i _ _=>ks.length-(intOf i).toNat)
    case atStart=>exact⟨rfl,0,rfl,hid ⟨Nat.zero_le _,Below.refl _ _⟩⟩
    case round =>
     obtain⟨rfl,k,rfl,hK⟩:=hrel;have hk:=hK.out.1;have hBw:Below w.heap.size w wr:=HBw.out.trans (hK.out.2.mono HBw.out.size);obtain⟨y0,y1,y2,y3,y4,y5⟩:=(HPa.out.below hK.out.2 aJ).zero;obtain⟨z0,z1,z2,z3,z4,z5⟩:=(HPb.out.below hK.out.2 aJ).zero;rcases Nat.lt_or_ge k ks.length with hlt|hge
     ·obtain⟨g,off,c0,c1,c2,c3,c4,c5,rfl,h6,hn⟩:=HK.out.get ks 0 k hlt;obtain⟨g',off',d0,d1,d2,d3,d4,d5,rfl,h6',hn'⟩:=HK'.out.get ks 0 k hlt;rw[Nat.zero_add]at h6 h6'
      have hQ:=h6.below hBw aJ;have hQ':=h6'.below hBw aJ;have HNN:=hid (HIH.out ks[k] (HN.out _ (List.getElem_mem hlt)));have HSQ:=hid (SmK.get ks k hlt HSN.out.2.2.2.2);obtain⟨l1,l2,l3,l4,rfl,rfl,rfl,rfl,rfl,rfl⟩:=hn.cells;obtain⟨m1,m2,m3,m4,rfl,rfl,rfl,rfl,rfl,rfl⟩:=hn'.cells;have HNa:=hid (hn.below hBw aJ);have HNb:=hid (hn'.below hBw aJ);obtain⟨S,hS⟩:∃S:World→Prop,∀u,S u↔Below wr.heap.size wr u:=⟨_,fun _=>Iff.rfl⟩
      have f0:∀s:WIn S,s.w.cell? ⟨g,off+k*6,none⟩=some (.int .i64 ks[k].kind):=fun s=>(hQ.below ((hS _).1 s.h) aJ).x0
      have f1:∀s:WIn S,s.w.cell? ⟨g,off+k*6+1,none⟩=some (.int .i64 ks[k].space):=fun s=>(hQ.below ((hS _).1 s.h) aJ).x1
      have f2:∀s:WIn S,s.w.cell? ⟨g,off+k*6+2,none⟩=some (.string ks[k].name):=fun s=>(hQ.below ((hS _).1 s.h) aJ).x2
      have f3:∀s:WIn S,s.w.cell? ⟨g,off+k*6+3,none⟩=some (.slice l1 ks[k].attrs.length l2):=fun s=>(hQ.below ((hS _).1 s.h) aJ).x3
      have f4:∀s:WIn S,s.w.cell? ⟨g,off+k*6+4,none⟩=some (.string ks[k].text):=fun s=>(hQ.below ((hS _).1 s.h) aJ).x4
      have f5:∀s:WIn S,s.w.cell? ⟨g,off+k*6+5,none⟩=some (.slice l3 ks[k].kids.length l4):=fun s=>(hQ.below ((hS _).1 s.h) aJ).x5
      have g0:∀s:WIn S,s.w.cell? ⟨g',off'+k*6,none⟩=some (.int .i64 ks[k].kind):=fun s=>(hQ'.below ((hS _).1 s.h) aJ).x0
      have g1:∀s:WIn S,s.w.cell? ⟨g',off'+k*6+1,none⟩=some (.int .i64 ks[k].space):=fun s=>(hQ'.below ((hS _).1 s.h) aJ).x1
      have g2:∀s:WIn S,s.w.cell? ⟨g',off'+k*6+2,none⟩=some (.string ks[k].name):=fun s=>(hQ'.below ((hS _).1 s.h) aJ).x2
      have g3:∀s:WIn S,s.w.cell? ⟨g',off'+k*6+3,none⟩=some (.slice m1 ks[k].attrs.length m2):=fun s=>(hQ'.below ((hS _).1 s.h) aJ).x3
      have g4:∀s:WIn S,s.w.cell? ⟨g',off'+k*6+4,none⟩=some (.string ks[k].text):=fun s=>(hQ'.below ((hS _).1 s.h) aJ).x4
      have g5:∀s:WIn S,s.w.cell? ⟨g',off'+k*6+5,none⟩=some (.slice m3 ks[k].kids.length m4):=fun s=>(hQ'.below ((hS _).1 s.h) aJ).x5
      have hx:∀s:WIn S,s.w.cell? ⟨w.heap.size,5,none⟩=some (.slice (some ⟨g,off,none⟩) ks.length c):=fun s=>((HPa.out.below hK.out.2 aJ).below ((hS _).1 s.h) aJ).x5
      have hy:∀s:WIn S,s.w.cell? ⟨w.heap.size+1,5,none⟩=some (.slice (some ⟨g',off',none⟩) ks.length c'):=fun s=>((HPb.out.below hK.out.2 aJ).below ((hS _).1 s.h) aJ).x5
      haveI:Nonempty (WIn S):=⟨⟨wr,(hS _).2 (Below.refl _ _)⟩⟩
      have HSS:=hid hS;have HBwr:=hid hBw;clear hn hn' h6 h6' hBw hQ hQ' hS;generalize ks[k]=q at *
      go_wp2_with fail
      refine eK 11 [([0,1,2,3,4,5,6,7,8,9],10)] [] S (by kernel_rfl) (by kernel_rfl) ((HSS.out _).2 (below_drewNm wr 1)) ?_;refine aZ (fun K' hK'=>?_);simp only[pick,pickZ,pickS,pickG];repeat (go_big_quiet_step (fail))
      refine wpQuiet_nil (hK' _ (fun Q1 hQ1=>?_));clear hK' K';simp only[pick,pickZ,pickS,pickG];go_wp2_with fail
      have hBd:=below_drewNm wr 1;refine(HNN.out _ _ (wr.drewN 1) HSQ (hid (HNa.out.below hBd aJ)) (hid (HNb.out.below hBd aJ))).mono ?_;unfold bA;rintro e W4 ⟨rfl,B4⟩;have hB4:Below wr.heap.size wr W4:=hBd.trans (B4.mono hBd.size);have HB4:=hid hB4;clear hBd B4 hB4;go_wp2_with fail
      refine hQ1 _ _ ((HSS.out _).2 HB4.out) (fE (fun K' hK'=>wpQuiet_nil (hK' _ (fun Q4 hQ4=>?_))));clear hQ1 Q1 hK' K' f0 f1 f2 f3 f4 f5 g0 g1 g2 g3 g4 g5 hx hy;simp only[List.drop_succ_cons,List.drop_zero];go_wp2
      go_roundw
      case rel=>exact⟨rfl,k+1,by go_num,hid ⟨hlt,hK.out.2.trans (HB4.out.mono hK.out.2.size)⟩⟩
      case measure=>simp[intOf];omega
     ·go_wp2
      go_ret;exact⟨rfl,hBw⟩
open Go.RowKit
open Go.RowKit
theorem eO {w:World}{g:Nat}{n:Nd}{c0 c1 c2 c3 c4 c5:Value}(h:Six w g 0 c0 c1 c2 c3 c4 c5)(hn:aG w n (.agg #[c0,c1,c2,c3,c4,c5])):aI w (some ⟨g,0,none⟩) 0 [n]:=by
 unfold aI;exact⟨⟨g,0,_,_,_,_,_,_,rfl,h,hn⟩,by unfold aI;trivial⟩
theorem fM (w:World)(c0 c1 c2 c3 c4 c5 d0 d1 d2 d3 d4 d5:Value):Six (w.alloc (.cells #[c0,c1,c2,c3,c4,c5,d0,d1,d2,d3,d4,d5] 45)) w.heap.size 0 c0 c1 c2 c3 c4 c5∧Six (w.alloc (.cells #[c0,c1,c2,c3,c4,c5,d0,d1,d2,d3,d4,d5] 45)) w.heap.size 6 d0 d1 d2 d3 d4 d5:=by
 have h:∀j,(w.alloc (.cells #[c0,c1,c2,c3,c4,c5,d0,d1,d2,d3,d4,d5] 45)).cell? ⟨w.heap.size,j,none⟩=(#[c0,c1,c2,c3,c4,c5,d0,d1,d2,d3,d4,d5]:Array Value)[j]?:=fun j=>cell_of_row _ w.heap.size j _ 45 (0,0) (heap_alloc_new w _)
 exact⟨⟨h 0,h 1,h 2,h 3,h 4,h 5⟩,⟨h 6,h 7,h 8,h 9,h 10,h 11⟩⟩
theorem zA {w:World}{g:Nat}{n m:Nd}{c0 c1 c2 c3 c4 c5 d0 d1 d2 d3 d4 d5:Value}(h:Six w g 0 c0 c1 c2 c3 c4 c5)(hn:aG w n (.agg #[c0,c1,c2,c3,c4,c5]))(h':Six w g 6 d0 d1 d2 d3 d4 d5)(hm:aG w m (.agg #[d0,d1,d2,d3,d4,d5])):aI w (some ⟨g,0,none⟩) 0 [n,m]:=by
 unfold aI;refine⟨⟨g,0,_,_,_,_,_,_,rfl,h,hn⟩,?_⟩;unfold aI;exact⟨⟨g,0,_,_,_,_,_,_,rfl,h',hm⟩,by unfold aI;trivial⟩
theorem aLt (A:eF)(HA:Hid (mA A))(hA:∀e,A e []=[])(w:World)(HT:Hid (aB w)):Calls Tryz.prog 47 #[] w (bA true w):=by
 go_enter Tryz.func47,Tryz.ntmps47
 go_wp2_with fail
 refine(pV sXS w).mono ?_;rintro e W1 ⟨⟨v1,rfl,rfl,n1⟩,B1⟩;have HN1:=hid n1;have HB1:=hid B1;clear n1 B1;go_wp2_with fail
 refine(pV sYS W1).mono ?_;rintro e W2 ⟨⟨v2,rfl,rfl,n2⟩,B2⟩;have HN2:=hid n2;have HB2:=hid B2;clear n2 B2;go_wp2_with fail
 obtain⟨W3,hW3⟩:∃W3,W3=W2.alloc (.cells #[.int .i64 2,.int .i64 0,.string ⟨#[]⟩,.slice none 0 0,.string sYS,.slice none 0 0] 45):=⟨_,rfl⟩
 have hb3:Below W2.heap.size W2 W3:=by rw[hW3];exact(Below.refl _ _).alloc aJ _
 have hk3:aI W3 (some ⟨W2.heap.size,0,none⟩) 0 [aL sYS]:=eO (by rw[hW3];exact aP W2 _ _ _ _ _ _) (HN2.out.below hb3 aJ);rw[←hW3];have HK3:=hid hk3;have HB3:=hid (HB1.out.trans ((HB2.out.trans (hb3.mono HB2.out.size)).mono HB1.out.size));have HN1b:=hid ((HN1.out.below HB2.out aJ).below hb3 aJ);clear hb3 hk3 hW3;refine(gM kQ [aL sYS] _ 1 W3 (by simp) HK3).mono ?_;rintro e W4 ⟨⟨v4,rfl,rfl,n4⟩,B4⟩;have HN4:=hid n4;have HB4:=cM HB3 B4;have HN1c:=hid (HN1b.out.below B4 aJ);clear n4 B4;go_wp2_with fail
 obtain⟨W5,hW5⟩:∃W5,W5=W4.alloc (.cells #[.int .i64 2,.int .i64 0,.string ⟨#[]⟩,.slice none 0 0,.string sXS,.slice none 0 0,.int .i64 1,.int .i64 0,.string kQ,.slice none 0 0,.string ⟨#[]⟩,.slice (some ⟨W2.heap.size,0,none⟩) 1 1] 45):=⟨_,rfl⟩
 have hb5:Below W4.heap.size W4 W5:=by rw[hW5];exact(Below.refl _ _).alloc aJ _
 have hk5:aI W5 (some ⟨W4.heap.size,0,none⟩) 0 [aL sXS,elN kQ [aL sYS]]:=by
  obtain⟨s1,s2⟩:=fM W4 (.int .i64 2) (.int .i64 0) (.string ⟨#[]⟩) (.slice none 0 0) (.string sXS) (.slice none 0 0) (.int .i64 1) (.int .i64 0) (.string kQ) (.slice none 0 0) (.string ⟨#[]⟩) (.slice (some ⟨W2.heap.size,0,none⟩) 1 1);rw[←hW5]at s1 s2
  exact zA s1 (HN1c.out.below hb5 aJ) s2 (HN4.out.below hb5 aJ)
 rw[←hW5];have HK5:=hid hk5;have HB5:=cM HB4 hb5;clear hb5 hk5 hW5;refine(gM sT [aL sXS,elN kQ [aL sYS]] _ 2 W5 (by simp) HK5).mono ?_;rintro e W6 ⟨⟨v6,rfl,rfl,n6⟩,B6⟩;have HN6:=hid n6;have HB6:=cM HB5 B6;clear n6 B6;go_wp2_with fail
 refine(pV sZS W6).mono ?_;rintro e W7 ⟨⟨v7,rfl,rfl,n7⟩,B7⟩;have HN7:=hid n7;have HN6b:=hid (HN6.out.below B7 aJ);have HB7:=cM HB6 B7;clear n7 B7;go_wp2_with fail
 obtain⟨W8,hW8⟩:∃W8,W8=W7.alloc (.cells #[.int .i64 1,.int .i64 0,.string sT,.slice none 0 0,.string ⟨#[]⟩,.slice (some ⟨W4.heap.size,0,none⟩) 2 2,.int .i64 2,.int .i64 0,.string ⟨#[]⟩,.slice none 0 0,.string sZS,.slice none 0 0] 45):=⟨_,rfl⟩
 have hb8:Below W7.heap.size W7 W8:=by rw[hW8];exact(Below.refl _ _).alloc aJ _
 have hk8:aI W8 (some ⟨W7.heap.size,0,none⟩) 0 [elN sT [aL sXS,elN kQ [aL sYS]],aL sZS]:=by
  obtain⟨s1,s2⟩:=fM W7 (.int .i64 1) (.int .i64 0) (.string sT) (.slice none 0 0) (.string ⟨#[]⟩) (.slice (some ⟨W4.heap.size,0,none⟩) 2 2) (.int .i64 2) (.int .i64 0) (.string ⟨#[]⟩) (.slice none 0 0) (.string sZS) (.slice none 0 0);rw[←hW8]at s1 s2
  exact zA s1 (HN6b.out.below hb8 aJ) s2 (HN7.out.below hb8 aJ)
 rw[←hW8];have HK8:=hid hk8;have HB8:=cM HB7 hb8;clear hb8 hk8 hW8;refine(gM oD [elN sT [aL sXS,elN kQ [aL sYS]],aL sZS] _ 2 W8 (by simp) HK8).mono ?_;rintro e W9 ⟨⟨v9,rfl,rfl,n9⟩,B9⟩;have HN9:=hid n9;have HB9:=cM HB8 B9;clear n9 B9;go_wp2_with fail
 obtain⟨W10,hW10⟩:∃W10,W10=W9.alloc (.cells #[.int .i64 1,.int .i64 0,.string oD,.slice none 0 0,.string ⟨#[]⟩,.slice (some ⟨W7.heap.size,0,none⟩) 2 2] 45):=⟨_,rfl⟩
 have hb10:Below W9.heap.size W9 W10:=by rw[hW10];exact(Below.refl _ _).alloc aJ _
 have hk10:aI W10 (some ⟨W9.heap.size,0,none⟩) 0 aCT:=eO (by rw[hW10];exact aP W9 _ _ _ _ _ _) (HN9.out.below hb10 aJ);rw[←hW10];have HK10:=hid hk10;have HB10:=cM HB9 hb10;clear hb10 hk10 hW10;have hF:=xQ A HA aCT sS W10 (some ⟨W9.heap.size,0,none⟩) 1 (hid (HT.out.below HB10.out aJ)) (by decide +kernel) HK10;rw[aMe A hA]at hF
 refine hF.mono ?_;clear hF;rintro e W11 ⟨ka,kc,rfl,_,hk11,hb11⟩;have HK11:=hid hk11;have HB11:=cM HB10 hb11;clear hk11 hb11;go_wp2_with fail
 refine(pV sXS W11).mono ?_;rintro e W12 ⟨⟨v12,rfl,rfl,n12⟩,B12⟩;have HN12:=hid n12;have HB12:=cM HB11 B12;have HC12:=hid B12;clear n12 B12;go_wp2_with fail
 obtain⟨W13,hW13⟩:∃W13,W13=W12.alloc (.cells #[.int .i64 2,.int .i64 0,.string ⟨#[]⟩,.slice none 0 0,.string sXS,.slice none 0 0] 45):=⟨_,rfl⟩
 have hb13:Below W12.heap.size W12 W13:=by rw[hW13];exact(Below.refl _ _).alloc aJ _
 have hk13:aI W13 (some ⟨W12.heap.size,0,none⟩) 0 [aL sXS]:=eO (by rw[hW13];exact aP W12 _ _ _ _ _ _) (HN12.out.below hb13 aJ);rw[←hW13];have HK13:=hid hk13;have HB13:=cM HB12 hb13;have HC13:=cM HC12 hb13;clear hb13 hk13 hW13;refine(gM sBS [aL sXS] _ 1 W13 (by simp) HK13).mono ?_;rintro e W14 ⟨⟨v14,rfl,rfl,n14⟩,B14⟩;have HN14:=hid n14;have HB14:=cM HB13 B14;have HC14:=cM HC13 B14;clear n14 B14;go_wp2_with fail
 obtain⟨W15,hW15⟩:∃W15,W15=W14.alloc (.cells #[.int .i64 1,.int .i64 0,.string sBS,.slice none 0 0,.string ⟨#[]⟩,.slice (some ⟨W12.heap.size,0,none⟩) 1 1] 45):=⟨_,rfl⟩
 have hb15:Below W14.heap.size W14 W15:=by rw[hW15];exact(Below.refl _ _).alloc aJ _
 have hk15:aI W15 (some ⟨W14.heap.size,0,none⟩) 0 [elN sBS [aL sXS]]:=eO (by rw[hW15];exact aP W14 _ _ _ _ _ _) (HN14.out.below hb15 aJ);rw[←hW15];have HK15:=hid hk15;have HB15:=cM HB14 hb15;have HC15:=cM HC14 hb15;clear hb15 hk15 hW15;refine(gM sIS [elN sBS [aL sXS]] _ 1 W15 (by simp) HK15).mono ?_;rintro e W16 ⟨⟨v16,rfl,rfl,n16⟩,B16⟩;have HN16:=hid n16;have HB16:=cM HB15 B16;have HC16:=cM HC15 B16;clear n16 B16;go_wp2_with fail
 obtain⟨W17,hW17⟩:∃W17,W17=W16.alloc (.cells #[.int .i64 1,.int .i64 0,.string sIS,.slice none 0 0,.string ⟨#[]⟩,.slice (some ⟨W14.heap.size,0,none⟩) 1 1] 45):=⟨_,rfl⟩
 have hb17:Below W16.heap.size W16 W17:=by rw[hW17];exact(Below.refl _ _).alloc aJ _
 have hk17:aI W17 (some ⟨W16.heap.size,0,none⟩) 0 [elN sIS [elN sBS [aL sXS]]]:=eO (by rw[hW17];exact aP W16 _ _ _ _ _ _) (HN16.out.below hb17 aJ);rw[←hW17];have HK17:=hid hk17;have HB17:=cM HB16 hb17;have HC17:=cM HC16 hb17;clear hb17 hk17 hW17;refine(gM sBS [elN sIS [elN sBS [aL sXS]]] _ 1 W17 (by simp) HK17).mono ?_;rintro e W18 ⟨⟨v18,rfl,rfl,n18⟩,B18⟩;have HN18:=hid n18;have HB18:=cM HB17 B18;have HC18:=cM HC17 B18;clear n18 B18;go_wp2_with fail
 obtain⟨W19,hW19⟩:∃W19,W19=W18.alloc (.cells #[.int .i64 1,.int .i64 0,.string sBS,.slice none 0 0,.string ⟨#[]⟩,.slice (some ⟨W16.heap.size,0,none⟩) 1 1] 45):=⟨_,rfl⟩
 have hb19:Below W18.heap.size W18 W19:=by rw[hW19];exact(Below.refl _ _).alloc aJ _
 have hk19:aI W19 (some ⟨W18.heap.size,0,none⟩) 0 aCU:=eO (by rw[hW19];exact aP W18 _ _ _ _ _ _) (HN18.out.below hb19 aJ);rw[←hW19];have HK19:=hid hk19;have HB19:=cM HB18 hb19;have HC19:=cM HC18 hb19;clear hb19 hk19 hW19;have hF:=xQ A HA aCU sS W19 (some ⟨W18.heap.size,0,none⟩) 1 (hid (HT.out.below HB19.out aJ)) (by decide +kernel) HK19;rw[aMf A hA]at hF
 refine hF.mono ?_;clear hF;rintro e W20 ⟨kb,kd,rfl,_,hk20,hb20⟩;have HK20:=hid hk20;have HB20:=cM HB19 hb20;have HC20:=cM HC19 hb20;clear hk20 hb20;rw[show yU.length=1 from rfl,show yV.length=1 from rfl];go_wp2_with fail
 obtain⟨ga,oa,a0,a1,a2,a3,a4,a5,rfl,sa,na⟩:=(HK11.out.kids.below HC20.out aJ).get yU 0 0 (by decide);obtain⟨gb,ob,b0,b1,b2,b3,b4,b5,rfl,sb,nb⟩:=HK20.out.kids.get yV 0 0 (by decide);simp only[Nat.zero_mul,Nat.add_zero]at sa sb;have SA:=hid sa;have SB:=hid sb;have NA:=hid (show aG W20 (elN oD [aL ⟨#[120,122]⟩]) _ from na);have NB:=hid (show aG W20 (elN sBS [elN sIS [aL sXS]]) _ from nb);clear sa sb na nb;obtain⟨S,hS⟩:∃S:World→Prop,∀u,S u↔Below W20.heap.size W20 u:=⟨_,fun _=>Iff.rfl⟩
 have f0:∀s:WIn S,s.w.cell? ⟨ga,oa,none⟩=some a0:=fun s=>(SA.out.below ((hS _).1 s.h) aJ).x0
 have f1:∀s:WIn S,s.w.cell? ⟨ga,oa+1,none⟩=some a1:=fun s=>(SA.out.below ((hS _).1 s.h) aJ).x1
 have f2:∀s:WIn S,s.w.cell? ⟨ga,oa+2,none⟩=some a2:=fun s=>(SA.out.below ((hS _).1 s.h) aJ).x2
 have f3:∀s:WIn S,s.w.cell? ⟨ga,oa+3,none⟩=some a3:=fun s=>(SA.out.below ((hS _).1 s.h) aJ).x3
 have f4:∀s:WIn S,s.w.cell? ⟨ga,oa+4,none⟩=some a4:=fun s=>(SA.out.below ((hS _).1 s.h) aJ).x4
 have f5:∀s:WIn S,s.w.cell? ⟨ga,oa+5,none⟩=some a5:=fun s=>(SA.out.below ((hS _).1 s.h) aJ).x5
 have g0:∀s:WIn S,s.w.cell? ⟨gb,ob,none⟩=some b0:=fun s=>(SB.out.below ((hS _).1 s.h) aJ).x0
 have g1:∀s:WIn S,s.w.cell? ⟨gb,ob+1,none⟩=some b1:=fun s=>(SB.out.below ((hS _).1 s.h) aJ).x1
 have g2:∀s:WIn S,s.w.cell? ⟨gb,ob+2,none⟩=some b2:=fun s=>(SB.out.below ((hS _).1 s.h) aJ).x2
 have g3:∀s:WIn S,s.w.cell? ⟨gb,ob+3,none⟩=some b3:=fun s=>(SB.out.below ((hS _).1 s.h) aJ).x3
 have g4:∀s:WIn S,s.w.cell? ⟨gb,ob+4,none⟩=some b4:=fun s=>(SB.out.below ((hS _).1 s.h) aJ).x4
 have g5:∀s:WIn S,s.w.cell? ⟨gb,ob+5,none⟩=some b5:=fun s=>(SB.out.below ((hS _).1 s.h) aJ).x5
 haveI:Nonempty (WIn S):=⟨⟨W20,(hS _).2 (Below.refl _ _)⟩⟩
 have HSS:=hid hS;clear hS;refine eK 28 [([0,1,2,3,4,5,6],7),([],8),([],9),([],10),([11,12,13,14,15,16,17,18,19,20],21),([],22),([],23),([],24),([],25),([],26)] [27] S (by kernel_rfl) (by kernel_rfl) ((HSS.out _).2 (below_drewNm W20 1)) ?_;have HBd:=hid (below_drewNm W20 1);generalize W20.drewN 1=Wd at *
 refine aZ (fun K' hK'=>?_);simp only[pick,pickZ,pickS,pickG];repeat (go_big_quiet_step (fail))
 refine wpQuiet_nil (hK' _ (fun Q1 hQ1=>?_));clear hK' K';simp only[pick,pickZ,pickS,pickG];go_wp2_with fail
 refine(pV ⟨#[120,122]⟩ Wd).mono ?_;rintro e V1 ⟨⟨v1,rfl,rfl,n1⟩,B1⟩;have HM1:=hid n1;have HD1:=cM HBd B1;clear n1 B1;go_wp2_with fail
 refine hQ1 _ _ ((HSS.out _).2 HD1.out) (aZ (fun K' hK'=>wpQuiet_nil (hK' _ (fun Q2 hQ2=>?_))));clear hK' K' hQ1 Q1;simp only[pick,pickZ,pickS,pickG];go_wp2_with fail
 obtain⟨V2,hV2⟩:∃V2,V2=V1.alloc (.cells #[.int .i64 2,.int .i64 0,.string ⟨#[]⟩,.slice none 0 0,.string ⟨#[120,122]⟩,.slice none 0 0] 45):=⟨_,rfl⟩
 have hb2:Below V1.heap.size V1 V2:=by rw[hV2];exact(Below.refl _ _).alloc aJ _
 have hk2:aI V2 (some ⟨V1.heap.size,0,none⟩) 0 [aL ⟨#[120,122]⟩]:=eO (by rw[hV2];exact aP V1 _ _ _ _ _ _) (HM1.out.below hb2 aJ);rw[←hV2];have HL2:=hid hk2;have HD2:=cM HD1 hb2;clear hb2 hk2 hV2;go_wp2_with fail
 refine hQ2 _ _ ((HSS.out _).2 HD2.out) (aZ (fun K' hK'=>wpQuiet_nil (hK' _ (fun Q3 hQ3=>?_))));clear hK' K' hQ2 Q2;simp only[pick,pickZ,pickS,pickG];go_wp2_with fail
 refine(gM oD [aL ⟨#[120,122]⟩] _ 1 V2 (by simp) HL2).mono ?_;rintro e V3 ⟨⟨v3,rfl,rfl,n3⟩,B3⟩;have HM3:=hid n3;have HD3:=cM HD2 B3;clear n3 B3;go_wp2_with fail
 refine hQ3 _ _ ((HSS.out _).2 HD3.out) (aZ (fun K' hK'=>wpQuiet_nil (hK' _ (fun Q4 hQ4=>?_))));clear hK' K' hQ3 Q3;simp only[pick,pickZ,pickS,pickG];go_wp2_with fail
 refine(aB6 (elN oD [aL ⟨#[120,122]⟩]).sz (elN oD [aL ⟨#[120,122]⟩]) aJ _ _ V3 (hid (wS.1 _ (by decide +kernel))) (hid (NA.out.below HD3.out aJ)) HM3).mono ?_;unfold bA;rintro e V4 ⟨rfl,B4⟩;have HD4:=cM HD3 B4;clear B4;go_wp2_with fail
 refine hQ4 _ _ ((HSS.out _).2 HD4.out) (aZ (fun K' hK'=>?_));clear hQ4 Q4;simp only[pick,pickZ,pickS,pickG];repeat (go_big_quiet_step (fail))
 refine wpQuiet_nil (hK' _ (fun Q5 hQ5=>?_));clear hK' K';simp only[pick,pickZ,pickS,pickG];go_wp2_with fail
 refine(pV sXS V4).mono ?_;rintro e V5 ⟨⟨v5,rfl,rfl,n5⟩,B5⟩;have HM5:=hid n5;have HD5:=cM HD4 B5;clear n5 B5;go_wp2_with fail
 refine hQ5 _ _ ((HSS.out _).2 HD5.out) (aZ (fun K' hK'=>wpQuiet_nil (hK' _ (fun Q6 hQ6=>?_))));clear hK' K' hQ5 Q5;simp only[pick,pickZ,pickS,pickG];go_wp2_with fail
 obtain⟨V6,hV6⟩:∃V6,V6=V5.alloc (.cells #[.int .i64 2,.int .i64 0,.string ⟨#[]⟩,.slice none 0 0,.string sXS,.slice none 0 0] 45):=⟨_,rfl⟩
 have hb6:Below V5.heap.size V5 V6:=by rw[hV6];exact(Below.refl _ _).alloc aJ _
 have hk6:aI V6 (some ⟨V5.heap.size,0,none⟩) 0 [aL sXS]:=eO (by rw[hV6];exact aP V5 _ _ _ _ _ _) (HM5.out.below hb6 aJ);rw[←hV6];have HL6:=hid hk6;have HD6:=cM HD5 hb6;clear hb6 hk6 hV6;go_wp2_with fail
 refine hQ6 _ _ ((HSS.out _).2 HD6.out) (aZ (fun K' hK'=>wpQuiet_nil (hK' _ (fun Q7 hQ7=>?_))));clear hK' K' hQ6 Q6;simp only[pick,pickZ,pickS,pickG];go_wp2_with fail
 refine(gM sIS [aL sXS] _ 1 V6 (by simp) HL6).mono ?_;rintro e V7 ⟨⟨v7,rfl,rfl,n7⟩,B7⟩;have HM7:=hid n7;have HD7:=cM HD6 B7;clear n7 B7;go_wp2_with fail
 refine hQ7 _ _ ((HSS.out _).2 HD7.out) (aZ (fun K' hK'=>wpQuiet_nil (hK' _ (fun Q8 hQ8=>?_))));clear hK' K' hQ7 Q7;simp only[pick,pickZ,pickS,pickG];go_wp2_with fail
 obtain⟨V8,hV8⟩:∃V8,V8=V7.alloc (.cells #[.int .i64 1,.int .i64 0,.string sIS,.slice none 0 0,.string ⟨#[]⟩,.slice (some ⟨V5.heap.size,0,none⟩) 1 1] 45):=⟨_,rfl⟩
 have hb8:Below V7.heap.size V7 V8:=by rw[hV8];exact(Below.refl _ _).alloc aJ _
 have hk8:aI V8 (some ⟨V7.heap.size,0,none⟩) 0 [elN sIS [aL sXS]]:=eO (by rw[hV8];exact aP V7 _ _ _ _ _ _) (HM7.out.below hb8 aJ);rw[←hV8];have HL8:=hid hk8;have HD8:=cM HD7 hb8;clear hb8 hk8 hV8;go_wp2_with fail
 refine hQ8 _ _ ((HSS.out _).2 HD8.out) (aZ (fun K' hK'=>wpQuiet_nil (hK' _ (fun Q9 hQ9=>?_))));clear hK' K' hQ8 Q8;simp only[pick,pickZ,pickS,pickG];go_wp2_with fail
 refine(gM sBS [elN sIS [aL sXS]] _ 1 V8 (by simp) HL8).mono ?_;rintro e V9 ⟨⟨v9,rfl,rfl,n9⟩,B9⟩;have HM9:=hid n9;have HD9:=cM HD8 B9;clear n9 B9;go_wp2_with fail
 refine hQ9 _ _ ((HSS.out _).2 HD9.out) (aZ (fun K' hK'=>wpQuiet_nil (hK' _ (fun Q10 hQ10=>?_))));clear hK' K' hQ9 Q9;simp only[pick,pickZ,pickS,pickG];go_wp2_with fail
 refine(aB6 (elN sBS [elN sIS [aL sXS]]).sz (elN sBS [elN sIS [aL sXS]]) aJ _ _ V9 (hid (wS.1 _ (by decide +kernel))) (hid (NB.out.below HD9.out aJ)) HM9).mono ?_;unfold bA;rintro e V10 ⟨rfl,B10⟩;have HD10:=cM HD9 B10;clear B10;go_wp2_with fail
 refine hQ10 _ _ ((HSS.out _).2 HD10.out) (fE (fun K' hK'=>?_));simp only[pick,pickZ,pickS,pickG];repeat (go_big_quiet_step (fail))
 refine wpQuiet_nil (hK' _ (fun Qz hQz=>?_));clear hK' K';clear hQ10 Q10;simp only[List.drop_succ_cons,List.drop_zero];go_wp2
 go_ret;exact⟨rfl,HB20.out.trans (HD10.out.mono HB20.out.size)⟩
