/-
clean.Clean.
-/
import Derived.Test.YtcfgbdhpcboikaaGreatDoorSameN
namespace Go.Proofs.YtcfgbdhpcboikaaGreatDoor
open Go.Lib (hid)
set_option maxHeartbeats 4000000
set_option maxRecDepth 100000
open Go.RowKit
theorem aQ {n:Nat}:n≤n:=Nat.le_refl n
theorem dG {a w v:World}(h:Hid (Below a.heap.size a w))(b:Below w.heap.size w v):Hid (Below a.heap.size a v):=hid (h.out.trans (b.mono h.out.size))
theorem aBZ (A:cX)(HA:Hid (mN A))(n:Nd)(v:Value)(w:World)(hb:n.tk≤7000000)(HT:Hid (aC w))(HS:Hid (SmN n))(HN:Hid (aL w n v)) :
  Calls Tryz.prog 56 #[v] w (zW w (fC A n)):=by
 obtain⟨av,a,c,rfl,⟨aa,ca,rfl,hAA⟩,hK,hlen⟩:=HN.out.get;have HK:=hid hK;have HTI:=hid (fun(W:World) (hT:Hid (aC W)) (h:Hid (aL W n (.agg #[.int .i64 n.kind,.int .i64 n.space,.string n.name,.slice aa n.attrs.length ca,.string n.text,.slice a n.kids.length c])))=>aIr n _ W (by omega) hT h);clear hAA hK;have HEM:=hid (fun W=>(gM ⟨#[109,101,116,97]⟩ [] none 0 W (by simp) (hid (by unfold aT;trivial)):Calls Tryz.prog 103 #[.string ⟨#[109,101,116,97]⟩,.slice none 0 0] W _));obtain⟨W0,hW0⟩:∃W0,W0=(w.alloc (.cells #[.int .i64 n.kind,.int .i64 n.space,.string n.name,.slice aa n.attrs.length ca,.string n.text,.slice a n.kids.length c] 45)).alloc (.cells #[.int .i64 0,.int .i64 0,.string ⟨#[]⟩,.slice none 0 0,.string ⟨#[]⟩,.slice none 0 0] 45):=⟨_,rfl⟩
 have HB0:=hid (show Below w.heap.size w W0 by rw[hW0];exact((Below.refl _ w).alloc aQ _).alloc (by simp) _);have HX0:=hid (show Six W0 w.heap.size 0 (.int .i64 n.kind) (.int .i64 n.space) (.string n.name) (.slice aa n.attrs.length ca) (.string n.text) (.slice a n.kids.length c) by
  rw[hW0];exact(bG w _ _ _ _ _ _).below ((Below.refl (w.alloc _).heap.size _).alloc aQ _) aQ)
 have HZ0:=hid (show W0.heap[w.heap.size+1]?=some (.cells #[.int .i64 0,.int .i64 0,.string ⟨#[]⟩,.slice none 0 0,.string ⟨#[]⟩,.slice none 0 0] 45 (0,0)) by
  have h:=heap_alloc_new (w.alloc (.cells #[.int .i64 n.kind,.int .i64 n.space,.string n.name,.slice aa n.attrs.length ca,.string n.text,.slice a n.kids.length c] 45)) (.cells #[.int .i64 0,.int .i64 0,.string ⟨#[]⟩,.slice none 0 0,.string ⟨#[]⟩,.slice none 0 0] 45);rw[←hW0]at h
  simpa using h)
 have HS0:=hid (show w.heap.size+2=W0.heap.size by rw[hW0];simp);have HW0:=hid hW0;clear hW0;go_enter Tryz.func56,Tryz.ntmps56
 go_wp2_with fail
 rw[←HW0.out];refine(HEM.out W0).mono ?_;rintro e W1 ⟨⟨v1,rfl,rfl,_⟩,B1⟩;have HB1:=hid B1;clear B1 HW0;go_wp2_with fail
 have hP3:=aK6 W1;obtain⟨W3,hW3⟩:∃W3,W3=((W1.alloc (.cells #[.int .i64 1,.int .i64 0,.string ⟨#[109,101,116,97]⟩,.slice (some ⟨W1.heap.size+1,0,none⟩) 1 1,.string ⟨#[]⟩,.slice none 0 0] 45)).alloc (.cells #[.string ⟨#[99,104,97,114,115,101,116]⟩,.string ⟨#[117,116,102,45,56]⟩] 39)).alloc (.cells #[.int .i64 1,.int .i64 0,.string ⟨#[109,101,116,97]⟩,.slice (some ⟨W1.heap.size+1,0,none⟩) 1 1,.string ⟨#[]⟩,.slice none 0 0] 45):=⟨_,rfl⟩
 rw[←hW3]at hP3
 have hs3:W1.heap.size+1+1<W3.heap.size:=by rw[hW3];simp
 have HM1:=hid (show w.heap.size+2≤W1.heap.size by have h1:=HS0.out;have h2:=HB1.out.size;omega);rw[←hW3];clear hW3;have HP3:=hid hP3;have HS3:=hid hs3;have HK3:=hid ((hP3 (fun _=>False) (fun h=>h) (fun h=>h)).kidsD (by omega)).kids;have HB3:=hid (HB1.out.trans ((hP3 (fun _=>False) (fun h=>h) (fun h=>h)).bel.mono HB1.out.size));clear hP3 hs3;generalize W1.heap.size=m1 at *
 refine(gM ⟨#[104,101,97,100]⟩ [fF] (some ⟨m1+1+1,0,none⟩) 1 W3 (by simp) HK3).mono ?_;rintro e W4 ⟨⟨v4,rfl,rfl,_⟩,B4⟩;have HM:=hid (Nat.lt_of_lt_of_le HS3.out B4.size);have HP4:=hid ((HP3.out (fun g=>g=W4.heap.size∨g=w.heap.size+1) (fun h=>by have h1:=HM.out;have h2:=HM1.out;omega) (fun h=>by have h1:=HM.out;have h2:=HM1.out;omega)).keep B4);have HB4:=dG HB3 B4;clear B4 HP3 HB3 HK3 HS3;obtain⟨W5,hW5⟩:∃W5,W5=W4.alloc (.cells #[.int .i64 1,.int .i64 0,.string ⟨#[104,101,97,100]⟩,.slice none 0 0,.string ⟨#[]⟩,.slice (some ⟨m1+1+1,0,none⟩) 1 1] 45):=⟨_,rfl⟩
 have hb5:Below W4.heap.size W4 W5:=by rw[hW5];exact(Below.refl _ _).alloc aQ _
 have HR5:=hid (show W5.heap[W4.heap.size]?=some (.cells #[.int .i64 1,.int .i64 0,.string ⟨#[104,101,97,100]⟩,.slice none 0 0,.string ⟨#[]⟩,.slice (some ⟨m1+1+1,0,none⟩) 1 1] 45 (0,0)) by rw[hW5];exact heap_alloc_new W4 _);have HL5:=hid (show W4.heap.size<W5.heap.size by rw[hW5];simp);have HP5:=hid (HP4.out.keep hb5);have HB5:=dG HB4 hb5;have HG5:=hid HB4.out.size;have HW5:=hid hW5;clear hW5 hb5 HP4 HB4;go_upto_region 4 with fail
 rw[←HW5.out];clear HW5;obtain⟨x0,x1,x2,x3,x4,x5⟩:=(HX0.out.below HB5.out aQ).zero;generalize W4.heap.size=hb4 at *
 go_wp2_with fail
 refine(HTI.out W5 (hid (HT.out.below (HB0.out.trans (HB5.out.mono HB0.out.size)) aQ)) (hid (HN.out.below (HB0.out.trans (HB5.out.mono HB0.out.size)) aQ))).mono ?_;rintro e W6 ⟨rfl,B6⟩;have HR6:=hid ((B6.block hb4 HL5.out).trans HR5.out);have HP6:=hid (HP5.out.keep B6);have HB6:=dG HB5 B6;have HL6:=hid (Nat.lt_of_lt_of_le HL5.out B6.size);clear B6 HR5 HL5 HP5 HB5 HTI x0 x1 x2 x3 x4 x5;generalize htit:fV n=tit at *
 have HTIT:=hid htit;clear htit;have HTS:Hid (tit.size≤30000000):=by
  show _≤_;rw[←HTIT.out];unfold fV;have h1:=qT ⟨(dJ (aM bB (aM cH n.kids).kids).kids).toArray⟩;have h2:=xQ (aM bB (aM cH n.kids).kids).kids;have h3:=dT n;have h4:=nV cH n.kids;have h5:=dT (aM cH n.kids);have h6:=nV bB (aM cH n.kids).kids;have h7:=dT (aM bB (aM cH n.kids).kids);have h8:(⟨(dJ (aM bB (aM cH n.kids).kids).kids).toArray⟩:ByteArray).size=(dJ (aM bB (aM cH n.kids).kids).kids).length:=by simp[ByteArray.size]
  omega
 obtain⟨q,hq⟩:∃q,tit.toList.isEmpty=q:=⟨_,rfl⟩
 have HTQ:=hid (show q=true↔tit=⟨#[]⟩ by
  have h0:(⟨#[]⟩:ByteArray).toList=[]:=by decide +kernel
  rw[←hq,List.isEmpty_iff];constructor
  ·intro h;by_cases e:tit=⟨#[]⟩
   ·exact e
   ·exact absurd (h.trans h0.symm) (sO e)
  ·intro h;rw[h];exact h0)
 go_upto_if 21 with fail
 clear hq;go_cut [6] (fun t wx=>t=.string tit∧∃(a:Option Addr) (c:Nat),Hid (wx.heap[hb4]?=some (.cells #[.int .i64 1,.int .i64 0,.string ⟨#[104,101,97,100]⟩,.slice none 0 0,.string ⟨#[]⟩,.slice a (bP tit).kids.length c] 45 (0,0)))∧Hid (aF (fun g=>g≠w.heap.size+1) wx a 0 (bP tit).kids)∧Hid (Below W0.heap.size W0 wx))
 case first =>
  cases q with
  | true =>
   have HE:=hid (HTQ.out.1 rfl);go_wp2
   go_meet
   case rel=>exact⟨rfl,some ⟨m1+1+1,0,none⟩,1,hid (by rw[HE.out];exact HR6.out),hid (by rw[HE.out];exact aF.keep (HP6.out.kidsD (by omega)) (w':=W6) (fun g _ hd=>⟨rfl,fun e=>hd (.inr e)⟩)),HB6⟩
  | false =>
   have HE:=hid (show(bP tit).kids=[fF,elN bB [aV tit]] by
    unfold bP;rw[if_neg (fun h=>by have:=HTQ.out.2 h;cases this)];rfl)
   obtain⟨S,hS⟩:∃S:World→Prop,∀u,S u↔(Below W0.heap.size W0 u∧u.heap[hb4]?=some (.cells #[.int .i64 1,.int .i64 0,.string ⟨#[104,101,97,100]⟩,.slice none 0 0,.string ⟨#[]⟩,.slice (some ⟨m1+1+1,0,none⟩) 1 1] 45 (0,0))):=⟨_,fun _=>Iff.rfl⟩
   have HSO:=hid (fun u (h:Below W6.heap.size W6 u)=>(hS u).2 ⟨HB6.out.trans (h.mono HB6.out.size),(h.block hb4 HL6.out).trans HR6.out⟩);have f5:∀s:WIn S,s.w.cell? ⟨hb4,5,none⟩=some (.slice (some ⟨m1+1+1,0,none⟩) 1 1):=fun s=>cell_of_row s.w hb4 5 _ 45 (0,0) ((hS _).1 s.h).2
   haveI:Nonempty (WIn S):=⟨⟨W6,HSO.out W6 (Below.refl _ _)⟩⟩
   have HSS:=hid hS;clear hS;go_upto_region 6 with fail
   have HD0:=hid (below_drewNm W6 1);refine eV 9 [([0,1,2],3),([],4),([],5),([],6),([],7)] [8] S (by kernel_rfl) (by kernel_rfl) (HSO.out _ HD0.out) ?_;generalize W6.drewN 1=V0 at *
   refine bJ (fun K' hK'=>?_);simp only[pick,pickZ,pickS,pickG];repeat (go_big_quiet_step (fail))
   refine wpQuiet_nil (hK' _ (fun Q1 hQ1=>?_));clear hK' K' f5;simp only[pick,pickZ,pickS,pickG];go_wp2_with fail
   refine hQ1 _ _ (HSO.out _ HD0.out) (bJ (fun K' hK'=>wpQuiet_nil (hK' _ (fun Q2 hQ2=>?_))));clear hK' K' hQ1 Q1;simp only[pick,pickZ,pickS,pickG];go_wp2_with fail
   have hb1:Below V0.heap.size V0 (V0.alloc (.cells #[.int .i64 2,.int .i64 0,.string ⟨#[]⟩,.slice none 0 0,.string tit,.slice none 0 0] 45)):=(Below.refl _ _).alloc aQ _;have hx1:=bG V0 (.int .i64 2) (.int .i64 0) (.string ⟨#[]⟩) (.slice none 0 0) (.string tit) (.slice none 0 0);obtain⟨V1,hV1⟩:∃V1,V1=V0.alloc (.cells #[.int .i64 2,.int .i64 0,.string ⟨#[]⟩,.slice none 0 0,.string tit,.slice none 0 0] 45):=⟨_,rfl⟩
   rw[←hV1]at hb1 hx1 ⊢
   have HX1:=hid hx1;have HD1:=dG HD0 hb1;have HV0:=hid HD0.out.size;have HK1:=hid (show aT V1 (some ⟨V0.heap.size,0,none⟩) 0 [aV tit]from iD hx1 (by unfold aV aL;exact⟨_,none,0,rfl,by simp,iC _,by unfold aT;trivial⟩));clear hV1 hb1 hx1;generalize V0.heap.size=g1 at *
   refine hQ2 _ _ (HSO.out _ HD1.out) (bJ (fun K' hK'=>wpQuiet_nil (hK' _ (fun Q3 hQ3=>?_))));clear hK' K' hQ2 Q2;simp only[pick,pickZ,pickS,pickG];go_wp2_with fail
   refine(gM ⟨#[116,105,116,108,101]⟩ [aV tit] (some ⟨g1,0,none⟩) 1 V1 (by simp) HK1).mono ?_;rintro e V2 ⟨⟨v2,rfl,rfl,_⟩,B2⟩;have HX2:=hid (HX1.out.below B2 aQ);have HD2:=dG HD1 B2;clear B2 HX1 HK1;go_wp2_with fail
   refine hQ3 _ _ (HSO.out _ HD2.out) (bJ (fun K' hK'=>wpQuiet_nil (hK' _ (fun Q4 hQ4=>?_))));clear hK' K' hQ3 Q3;simp only[pick,pickZ,pickS,pickG];go_wp2_with fail
   have hb3:Below V2.heap.size V2 (V2.alloc (.cells #[.int .i64 1,.int .i64 0,.string ⟨#[116,105,116,108,101]⟩,.slice none 0 0,.string ⟨#[]⟩,.slice (some ⟨g1,0,none⟩) 1 1] 45)):=(Below.refl _ _).alloc aQ _;have hx3:=bG V2 (.int .i64 1) (.int .i64 0) (.string ⟨#[116,105,116,108,101]⟩) (.slice none 0 0) (.string ⟨#[]⟩) (.slice (some ⟨g1,0,none⟩) 1 1);obtain⟨V3,hV3⟩:∃V3,V3=V2.alloc (.cells #[.int .i64 1,.int .i64 0,.string ⟨#[116,105,116,108,101]⟩,.slice none 0 0,.string ⟨#[]⟩,.slice (some ⟨g1,0,none⟩) 1 1] 45):=⟨_,rfl⟩
   rw[←hV3]at hb3 hx3 ⊢
   have HD3:=dG HD2 hb3;have HKD:=hid (aFx (B:=W6.heap.size) HD2.out.size HV0.out hx3 (HX2.out.below hb3 aQ));have HKE:=hid (aF.keep HKD.out (D':=fun g=>lS (.slice (some ⟨m1+1+1,0,none⟩) 1 1) g∧¬(g=hb4∨g=w.heap.size+1)) (w':=V3) (fun g hg hd=>⟨rfl,fun e=>by
    have h1:m1+1+1=g:=Option.some.inj e;have h2:=HM.out;have h3:=HL6.out;omega,by have h3:=HL6.out;have h4:=HM.out;have h5:=HM1.out;omega⟩))
   have HP3:=hid (HP6.out.keep HD3.out);have HLV:=hid (Nat.lt_of_lt_of_le HL6.out HD3.out.size);clear hV3 hb3 hx3 HX2 HKD;generalize V2.heap.size=g3 at *
   refine hQ4 _ _ (HSO.out _ HD3.out) (bJ (fun K' hK'=>wpQuiet_nil (hK' _ (fun Q5 hQ5=>?_))));clear hK' K' hQ4 Q4;simp only[pick,pickZ,pickS,pickG];go_wp2_with (at_builtin;refine vB rfl _ _ rfl (fun g hg=>by have h1:=HLV.out;have h2:=HM.out;have h3:=HM1.out;omega) _ _ _ rfl HP3 (some ⟨g3,0,none⟩) 1 1 [elN bB [aV tit]] rfl (hid rfl) HKE (by omega) ?_)
   intro v4 V4 hP4 hH4;obtain⟨a4,c4,rfl,hk4⟩:=hP4.out.slice (by omega);have HK4:=hid hk4;have HR4:=hid (hH4.out.1.trans ((HD3.out.block hb4 HL6.out).trans HR6.out));have HB4:=hid (HB1.out.trans (hP4.out.bel.mono HB1.out.size));clear hk4 hP4 hH4 HP3 HKE HD3 HLV;go_wp2_with fail
   refine hQ5 _ _ ((HSS.out _).2 ⟨HB4.out,HR4.out⟩) (fJ (fun K' hK'=>?_));clear hQ5 Q5;simp only[pick,pickZ,pickS,pickG];repeat (go_big_quiet_step (fail))
   refine wpQuiet_nil (hK' _ (fun Qz hQz=>?_));clear hK' K';simp only[List.drop_succ_cons,List.drop_zero];have z5:V4.cell? ⟨hb4,5,none⟩=some (.slice (some ⟨m1+1+1,0,none⟩) 1 1):=cell_of_row V4 hb4 5 _ 45 (0,0) HR4.out;have zf:V4.frozen? ⟨hb4,5,none⟩=false:=Lib.frozen_of_heap HR4.out 5;go_wp2_with fail
   go_meet
   case rel=>exact⟨rfl,a4,c4,hid (by rw[HE.out];exact heap_setCell_same V4 hb4 5 _ 45 _ HR4.out),hid (by rw[HE.out];exact aF.keep HK4.out (fun g hg hd=>⟨heap_setCell_other _ _ g _ (fun e=>hd (.inl e)),fun e=>hd (.inr e)⟩)),hid (HB4.out.setCell (p:=⟨hb4,5,none⟩) HG5.out _)⟩
 case rest =>
  obtain⟨rfl,ah,ch,HR7,HK7,HB7⟩:=hcut;have HBW:=dG HB0 HB7.out;obtain⟨x0,x1,x2,x3,x4,x5⟩:=(HX0.out.below HB7.out aQ).zero;have HKN:=hid (HK.out.below HBW.out aQ);clear HR6 HP6 HB6 HL6 HTQ;generalize hks:n.kids=ks at *
  have HKS:=hid hks;clear hks;go_wp2
  clear x0 x1 x2 x3 x4 x5;go_loopw [7,34] (fun v i wx=>∃k:Nat,i=.int .i64 k∧Hid (k≤ks.length∧PSt wc wx v (bZ (ks.take k)).length (bZ (ks.take k)))) (fun _ i _=>ks.length-(intOf i).toNat)
  case atStart=>exact⟨0,rfl,hid ⟨Nat.zero_le _,PSt.nil (Below.refl _ _)⟩⟩
  case round =>
   obtain⟨k,rfl,hR⟩:=hrel;have hk:=hR.out.1;have HBR:=hid hR.out.2.bel;rcases Nat.lt_or_ge k ks.length with hlt|hge
   ·obtain⟨g,off,c0,c1,c2,c3,c4,c5,rfl,h6,hn⟩:=HKN.out.get ks 0 k hlt;rw[Nat.zero_add]at h6
    obtain⟨x0,x1,x2,x3,x4,x5⟩:=h6.below HBR.out aQ;obtain⟨p1,q1,p2,q2,rfl,rfl,rfl,rfl,rfl,rfl⟩:=hn.cells;have HKQ:=hid hn.partsV.2;have HST:=hid (aFU ks k hlt);have hbl:=aDG ks (k+1);have hbl0:=aDG ks k;have hbn:aH ks≤7000000:=by have h1:=dT n;rw[HKS.out]at h1;omega
    clear hn h6;generalize ks[k]=q at *
    obtain⟨V,hV⟩:∃V,V=wr.alloc (.cells #[.int .i64 q.kind,.int .i64 q.space,.string q.name,.slice p1 q.attrs.length q1,.string q.text,.slice p2 q.kids.length q2] 45):=⟨_,rfl⟩
    have hbV:Below wr.heap.size wr V:=by rw[hV];exact(Below.refl _ wr).alloc aQ _
    have hQ:=bG wr (.int .i64 q.kind) (.int .i64 q.space) (.string q.name) (.slice p1 q.attrs.length q1) (.string q.text) (.slice p2 q.kids.length q2);rw[←hV]at hQ
    have HV:=hid hV;have HPV:=hid (hR.out.2.keep hbV);clear hbV hV;go_upto_region 11 with fail
    rw[←HV.out];clear x0 x1 x2 x3 x4 x5;obtain⟨x0,x1,x2,x3,x4,x5⟩:=hQ.zero;clear hQ HV;by_cases hnb:oY cB q
    ·obtain⟨h1,h2,h3⟩:=hnb;have e1:(q.kind==1)=true:=by rw[h1];rfl
     have e2:(q.space==0)=true:=by rw[h2];rfl
     have e3:(q.name.toList==[98,111,100,121])=true:=by rw[h3];decide +kernel
     have hst2:=HST.out;rw[if_pos ⟨h1,h2,h3⟩]at hst2
     rw[hst2,List.length_append]at hbl
     have HS2:=hid hst2;clear hst2 h1 h2 h3;go_wp2_with (at_builtin;refine vM rfl _ _ rfl _ _ _ rfl HPV p2 q.kids.length q2 q.kids rfl (hid rfl) (hid (Src.old HPV.out HKQ.out)) (by omega) ?_)
     intro v5 V5 hP hG;have HP5:=hid (show PSt wc V5 v5 (bZ (ks.take (k+1))).length (bZ (ks.take (k+1))) by rw[HS2.out,List.length_append];exact hP.out);clear hP hG;go_wp2
     go_roundw
     case rel=>exact⟨k+1,by go_num,hid ⟨hlt,HP5.out⟩⟩
     case measure=>simp[intOf];omega
    ·have HP5:=hid (show PSt wc V _ (bZ (ks.take (k+1))).length (bZ (ks.take (k+1))) by rw[HST.out,if_neg hnb,List.append_nil];exact HPV.out);by_cases h1:q.kind=1
     ·have e1:(q.kind==1)=true:=by rw[h1];rfl
      by_cases h2:q.space=0
      ·have e2:(q.space==0)=true:=by rw[h2];rfl
       have e3:(q.name.toList==[98,111,100,121])=false:=by
        rw[beq_eq_false_iff_ne];intro h;exact hnb ⟨h1,h2,fL (by rw[←toList_data,h];rfl)⟩
       clear h1 h2 hnb;go_wp2
       go_roundw
       case rel=>exact⟨k+1,by go_num,hid ⟨hlt,HP5.out⟩⟩
       case measure=>simp[intOf];omega
      ·have e2:(q.space==0)=false:=by rw[beq_eq_false_iff_ne];exact h2
       clear h2 hnb;go_wp2
       go_roundw
       case rel=>exact⟨k+1,by go_num,hid ⟨hlt,HP5.out⟩⟩
       case measure=>simp[intOf];omega
     ·have e1:(q.kind==1)=false:=by rw[beq_eq_false_iff_ne];exact h1
      clear h1 hnb;go_wp2
      go_roundw
      case rel=>exact⟨k+1,by go_num,hid ⟨hlt,HP5.out⟩⟩
      case measure=>simp[intOf];omega
   ·have hBK:bZ (ks.take k)=bZ ks:=by rw[List.take_of_length_le hge]
    obtain⟨a7,c7,rfl,_,hk7,_⟩:=hR.out.2.slice;have hk7':=hk7.kids;rw[hBK]at hk7'
    rw[hBK];have HK7b:=hid hk7';have HR8:=hid ((HBR.out.block hb4 (by
     have:=HR7.out;rcases Nat.lt_or_ge hb4 wc.heap.size with h|h
     ·exact h
     ·rw[Array.getElem?_eq_none h]at this
      cases this)).trans HR7.out)
    have HK8:=hid (aF.keep HK7.out (D':=(fun g=>g≠w.heap.size+1)) (w':=wr) (fun g hg hd=>⟨HBR.out.block g hg,hd⟩));have HB8:=dG HB7 HBR.out;clear hk7 hk7' hBK hR HBR HR7 HK7 HB7;obtain⟨x0,x1,x2,x3,x4,x5⟩:=(show Six wr hb4 0 _ _ _ _ _ _ from⟨cell_of_row wr hb4 0 _ 45 (0,0) HR8.out,cell_of_row wr hb4 1 _ 45 (0,0) HR8.out,cell_of_row wr hb4 2 _ 45 (0,0) HR8.out,cell_of_row wr hb4 3 _ 45 (0,0) HR8.out,cell_of_row wr hb4 4 _ 45 (0,0) HR8.out,cell_of_row wr hb4 5 _ 45 (0,0) HR8.out⟩).zero;have HHL:=hid (show(bP tit).kids.length≤140737488355328 by have:=(aBi tit (by have:=HTS.out;omega)).2.2;omega);have hbn:aH ks≤7000000:=by have h1:=dT n;rw[HKS.out]at h1;omega
    have HSMB:=hid (aFa ks (by have:=HS.out.get.2.2.2.2;rw[HKS.out]at this;exact this));have HFT:=hid (HT.out.below (HB0.out.trans (HB8.out.mono HB0.out.size)) aQ);have HFIL:=hid (fun W (h:Below wr.heap.size wr W)=>show Calls Tryz.prog 50 #[.string ⟨#[98,111,100,121]⟩,.slice a7 (bZ ks).length c7] W (pC W (aP A cB [] (bZ ks)))from yC A HA (bZ ks) cB W a7 c7 (hid (HFT.out.below h aQ)) (hid HSMB.out.1) (by have:=HSMB.out.2;omega) (hid (HK7b.out.below h aQ)));have HRL:=hid (show(aP A cB [] (bZ ks)).length≤1000000000 by have h1:=aF2 A cB [] (l:=bZ ks) (by have:=HSMB.out.2;omega);omega);have HRZ:=hid (show aD (aP A cB [] (bZ ks))≤7000000 by have h1:=aHv A cB [] (bZ ks);have h2:=aC2.2 (bZ ks);have h3:=HSMB.out.2;omega);have HCP:Hid (fC A n=elN rR [bP tit,elN cB (aP A cB [] (bZ ks))]):=by
     show _=_;unfold fC;rw[HTIT.out,HKS.out]
    have HRB:=hid (show w.heap.size+1<wr.heap.size by have h1:=HS0.out;have h2:=HB8.out.size;omega);clear hbn HSMB HFT HK7b;generalize aP A cB [] (bZ ks)=R at *
    go_upto_region 14 with fail
    go_cut [10] (fun p wx=>∃(bx gk:Nat),p=.pointer (some ⟨bx,0,none⟩)∧Hid (wx.heap[bx]?=some (.cells #[.int .i64 1,.int .i64 0,.string ⟨#[104,116,109,108]⟩,.slice none 0 0,.string ⟨#[]⟩,.slice (some ⟨gk,0,none⟩) 2 2] 45 (0,0)))∧Hid (aF (fun g=>g≠w.heap.size+1) wx (some ⟨gk,0,none⟩) 0 [bP tit,elN cB R])∧Hid (Below wr.heap.size wr wx))
    case first =>
     obtain⟨i45,hi45,hz45,hs45,hb45⟩:=info_parts Tryz.info45;obtain⟨S,hS⟩:∃S:World→Prop,∀u,S u↔Below wr.heap.size wr u:=⟨_,fun _=>Iff.rfl⟩
     have HX8:=hid (show Six wr hb4 0 (.int .i64 1) (.int .i64 0) (.string ⟨#[104,101,97,100]⟩) (.slice none 0 0) (.string ⟨#[]⟩) (.slice ah (bP tit).kids.length ch)from⟨x0,x1,x2,x3,x4,x5⟩);clear x0 x1 x2 x3 x4 x5;have f0:∀s:WIn S,s.w.cell? ⟨hb4,0,none⟩=some (.int .i64 1):=fun s=>(HX8.out.below ((hS _).1 s.h) aQ).x0
     have f1:∀s:WIn S,s.w.cell? ⟨hb4,1,none⟩=some (.int .i64 0):=fun s=>(HX8.out.below ((hS _).1 s.h) aQ).x1
     have f2:∀s:WIn S,s.w.cell? ⟨hb4,2,none⟩=some (.string ⟨#[104,101,97,100]⟩):=fun s=>(HX8.out.below ((hS _).1 s.h) aQ).x2
     have f3:∀s:WIn S,s.w.cell? ⟨hb4,3,none⟩=some (.slice none 0 0):=fun s=>(HX8.out.below ((hS _).1 s.h) aQ).x3
     have f4:∀s:WIn S,s.w.cell? ⟨hb4,4,none⟩=some (.string ⟨#[]⟩):=fun s=>(HX8.out.below ((hS _).1 s.h) aQ).x4
     have f5:∀s:WIn S,s.w.cell? ⟨hb4,5,none⟩=some (.slice ah (bP tit).kids.length ch):=fun s=>(HX8.out.below ((hS _).1 s.h) aQ).x5
     haveI:Nonempty (WIn S):=⟨⟨wr,(hS _).2 (Below.refl _ _)⟩⟩
     have HSS:=hid hS;clear hS;have HD0:=hid (below_drewNm wr 1);have HKH0:=hid (aF.keep HK8.out (D':=(fun g=>g≠w.heap.size+1)) (w':=wr.drewN 1) (fun g hg hd=>⟨HD0.out.block g hg,hd⟩));refine wB 7 (.two [0,1] 2 (.two [] 3 (.two [] 4 (.two [] 5 (.one [] 6 (.fin [])) 6 (.one [] 5 (.fin []))) 6 (.one [] 4 (.one [] 5 (.fin [])))) 6 (.one [] 3 (.one [] 4 (.one [] 5 (.fin []))))) 6 (.one [] 2 (.one [] 3 (.one [] 4 (.one [] 5 (.fin [])))))) S (by kernel_rfl) (by kernel_rfl) ((HSS.out _).2 HD0.out) ?_;generalize wr.drewN 1=V0 at *
     refine iH (fun K' hK'=>?_);simp only[pick,pickZ,pickS,pickG];repeat (go_big_quiet_step (fail))
     clear f0 f1 f2 f3 f4 f5;refine wpQuiet_nil (hK' _ ?_ ?_)
     ·clear hK' K';intro Q1 hQ1;simp only[pick,pickZ,pickS,pickG];go_wp2_with fail
      refine(HFIL.out V0 HD0.out).mono ?_;rintro e V1 ⟨ar,cr,rfl,_,hrk,hB⟩;have HKR1:=hid (aF.keep hrk (D':=(fun g=>g≠w.heap.size+1)) (w':=V1) (fun g hg hd=>⟨rfl,by have h1:=HD0.out.size;have h2:=HRB.out;omega⟩));have HKH1:=hid (aF.keep HKH0.out (D':=(fun g=>g≠w.heap.size+1)) (w':=V1) (fun g hg hd=>⟨hB.block g hg,hd⟩));have HD1:=dG HD0 hB;clear hrk hB;go_wp2_with fail
      refine hQ1 _ _ ((HSS.out _).2 HD1.out) (iH (fun K' hK'=>wpQuiet_nil (hK' _ ?_ ?_)))
      ·clear hK' K';intro Q2 hQ2;simp only[pick,pickZ,pickS,pickG];go_wp2_with fail
       refine(gM ⟨#[98,111,100,121]⟩ R ar cr V1 HRL.out (hid HKR1.out.kids)).mono ?_;rintro e V2 ⟨⟨_,rfl,rfl,_⟩,hB⟩;have HKH2:=hid (aF.keep HKH1.out (D':=(fun g=>g≠w.heap.size+1)) (w':=V2) (fun g hg hd=>⟨hB.block g hg,hd⟩));have HKR2:=hid (aF.keep HKR1.out (D':=(fun g=>g≠w.heap.size+1)) (w':=V2) (fun g hg hd=>⟨hB.block g hg,hd⟩));have HD2:=dG HD1 hB;clear hB;go_wp2_with fail
       refine hQ2 _ _ ((HSS.out _).2 HD2.out) (iH (fun K' hK'=>wpQuiet_nil (hK' _ ?_ ?_)))
       ·clear hK' K';intro Q3 hQ3;simp only[pick,pickZ,pickS,pickG];go_wp2_with fail
        obtain⟨s1,s2⟩:=iW V2 (.int .i64 1) (.int .i64 0) (.string ⟨#[104,101,97,100]⟩) (.slice none 0 0) (.string ⟨#[]⟩) (.slice ah (bP tit).kids.length ch) (.int .i64 1) (.int .i64 0) (.string ⟨#[98,111,100,121]⟩) (.slice none 0 0) (.string ⟨#[]⟩) (.slice ar R.length cr);obtain⟨V3,hV⟩:∃V3,V3=V2.alloc (.cells #[.int .i64 1,.int .i64 0,.string ⟨#[104,101,97,100]⟩,.slice none 0 0,.string ⟨#[]⟩,.slice ah (bP tit).kids.length ch,.int .i64 1,.int .i64 0,.string ⟨#[98,111,100,121]⟩,.slice none 0 0,.string ⟨#[]⟩,.slice ar R.length cr] 45):=⟨_,rfl⟩
        have hB:Below V2.heap.size V2 V3:=by rw[hV];exact(Below.refl _ _).alloc aQ _
        rw[←hV]at s1 s2 ⊢
        have HKH3:=hid (aF.keep HKH2.out (D':=(fun g=>g≠w.heap.size+1)) (w':=V3) (fun g hg hd=>⟨hB.block g hg,hd⟩));have HKR3:=hid (aF.keep HKR2.out (D':=(fun g=>g≠w.heap.size+1)) (w':=V3) (fun g hg hd=>⟨hB.block g hg,hd⟩));have HKP3:=hid (rK (D:=(fun g=>g≠w.heap.size+1)) (show V2.heap.size≠w.heap.size+1 by have h1:=HD2.out.size;have h2:=HRB.out;omega) HHL.out (by have:=HRL.out;omega) s1 s2 HKH3.out HKR3.out);have HD3:=dG HD2 hB;clear s1 s2 hV hB HKH3 HKR3;refine hQ3 _ _ ((HSS.out _).2 HD3.out) (iH (fun K' hK'=>wpQuiet_nil (hK' _ ?_ ?_)))
        ·clear hK' K';intro Q4 hQ4;simp only[pick,pickZ,pickS,pickG];go_wp2_with fail
         refine(gM ⟨#[104,116,109,108]⟩ [bP tit,elN cB R] (some ⟨V2.heap.size,0,none⟩) 2 V3 (by simp) (hid HKP3.out.kids)).mono ?_;rintro e V4 ⟨⟨_,rfl,rfl,_⟩,hB⟩;have HKP4:=hid (aF.keep HKP3.out (D':=(fun g=>g≠w.heap.size+1)) (w':=V4) (fun g hg hd=>⟨hB.block g hg,hd⟩));have HD4:=dG HD3 hB;clear hB;go_wp2_with fail
         refine hQ4 _ _ ((HSS.out _).2 HD4.out) (bV (fun K' hK'=>wpQuiet_nil (hK' _ ?_)));clear hK' K';intro Q5 hQ5;simp only[pick,pickZ,pickS,pickG];go_wp2_with fail
         obtain⟨V5,hV⟩:∃V5,V5=V4.alloc (.cells #[.int .i64 0,.int .i64 0,.string ⟨#[]⟩,.slice none 0 0,.string ⟨#[]⟩,.slice none 0 0] 45):=⟨_,rfl⟩
         have hB:Below V4.heap.size V4 V5:=by rw[hV];exact(Below.refl _ _).alloc aQ _
         have HROW5:=hid (show V5.heap[V4.heap.size]?=some (.cells #[.int .i64 0,.int .i64 0,.string ⟨#[]⟩,.slice none 0 0,.string ⟨#[]⟩,.slice none 0 0] 45 (0,0)) by rw[hV];exact heap_alloc_new V4 _);have HBX5:=hid (show V4.heap.size<V5.heap.size by rw[hV];simp);rw[←hV];have HKP5:=hid (aF.keep HKP4.out (D':=(fun g=>g≠w.heap.size+1∧g≠V4.heap.size)) (w':=V5) (fun g hg hd=>⟨hB.block g hg,⟨hd,Nat.ne_of_lt hg⟩⟩));have HD5:=dG HD4 hB;clear hV hB;refine hQ5 _ _ ((HSS.out _).2 HD5.out) (dV (fun K' hK'=>wpQuiet_nil (hK' _ (fun Qz hQz=>?_))));clear hK' K' hQ5 Q5;simp only[List.drop_succ_cons,List.drop_zero];refine wpList_store_row (by rfl) 45 (.tmp 10) (.tmp 61) rfl V4.heap.size #[.int .i64 1,.int .i64 0,.string ⟨#[104,116,109,108]⟩,.slice none 0 0,.string ⟨#[]⟩,.slice (some ⟨V2.heap.size,0,none⟩) 2 2] rfl rfl 45 _ HROW5.out (by rw[hi45];simp[hs45]) rfl (by simp[Value.oneCell']) ?_;go_wp2_with fail
         go_meet
         case rel=>exact⟨_,_,rfl,hid (setRow_heap V5 V4.heap.size _ _ 45 (0,0) HROW5.out),hid (aF.keep HKP5.out (D':=(fun g=>g≠w.heap.size+1)) (fun g hg hd=>⟨setRow_other V5 V4.heap.size g _ hd.2,hd.1⟩)),hid (cJ HD5.out _ (by exact HD4.out.size) _)⟩
        ·clear hK' K';intro Q4 hQ4;simp only[pick,pickZ,pickS,pickG];go_wp2_with fail
         obtain⟨V4,hV⟩:∃V4,V4=V3.alloc (.cells #[.int .i64 0,.int .i64 0,.string ⟨#[]⟩,.slice none 0 0,.string ⟨#[]⟩,.slice none 0 0] 45):=⟨_,rfl⟩
         have hB:Below V3.heap.size V3 V4:=by rw[hV];exact(Below.refl _ _).alloc aQ _
         have HROW4:=hid (show V4.heap[V3.heap.size]?=some (.cells #[.int .i64 0,.int .i64 0,.string ⟨#[]⟩,.slice none 0 0,.string ⟨#[]⟩,.slice none 0 0] 45 (0,0)) by rw[hV];exact heap_alloc_new V3 _);have HBX4:=hid (show V3.heap.size<V4.heap.size by rw[hV];simp);rw[←hV];have HKP4:=hid (aF.keep HKP3.out (D':=(fun g=>g≠w.heap.size+1∧g≠V3.heap.size)) (w':=V4) (fun g hg hd=>⟨hB.block g hg,⟨hd,Nat.ne_of_lt hg⟩⟩));have HD4:=dG HD3 hB;clear hV hB;refine hQ4 _ _ ((HSS.out _).2 HD4.out) (bV (fun K' hK'=>wpQuiet_nil (hK' _ ?_)));clear hK' K';intro Q5 hQ5;simp only[pick,pickZ,pickS,pickG];go_wp2_with fail
         refine(gM ⟨#[104,116,109,108]⟩ [bP tit,elN cB R] (some ⟨V2.heap.size,0,none⟩) 2 V4 (by simp) (hid HKP4.out.kids)).mono ?_;rintro e V5 ⟨⟨_,rfl,rfl,_⟩,hB⟩;have HKP5:=hid (aF.keep HKP4.out (D':=(fun g=>g≠w.heap.size+1∧g≠V3.heap.size)) (w':=V5) (fun g hg hd=>⟨hB.block g hg,hd⟩));have HROW5:=hid ((hB.block V3.heap.size HBX4.out).trans HROW4.out);have HBX5:=hid (Nat.lt_of_lt_of_le HBX4.out hB.size);have HD5:=dG HD4 hB;clear hB;go_wp2_with fail
         refine hQ5 _ _ ((HSS.out _).2 HD5.out) (dV (fun K' hK'=>wpQuiet_nil (hK' _ (fun Qz hQz=>?_))));clear hK' K' hQ5 Q5;simp only[List.drop_succ_cons,List.drop_zero];refine wpList_store_row (by rfl) 45 (.tmp 10) (.tmp 61) rfl V3.heap.size #[.int .i64 1,.int .i64 0,.string ⟨#[104,116,109,108]⟩,.slice none 0 0,.string ⟨#[]⟩,.slice (some ⟨V2.heap.size,0,none⟩) 2 2] rfl rfl 45 _ HROW5.out (by rw[hi45];simp[hs45]) rfl (by simp[Value.oneCell']) ?_;go_wp2_with fail
         go_meet
         case rel=>exact⟨_,_,rfl,hid (setRow_heap V5 V3.heap.size _ _ 45 (0,0) HROW5.out),hid (aF.keep HKP5.out (D':=(fun g=>g≠w.heap.size+1)) (fun g hg hd=>⟨setRow_other V5 V3.heap.size g _ hd.2,hd.1⟩)),hid (cJ HD5.out _ (by exact HD3.out.size) _)⟩
       ·clear hK' K';intro Q3 hQ3;simp only[pick,pickZ,pickS,pickG];go_wp2_with fail
        obtain⟨V3,hV⟩:∃V3,V3=V2.alloc (.cells #[.int .i64 0,.int .i64 0,.string ⟨#[]⟩,.slice none 0 0,.string ⟨#[]⟩,.slice none 0 0] 45):=⟨_,rfl⟩
        have hB:Below V2.heap.size V2 V3:=by rw[hV];exact(Below.refl _ _).alloc aQ _
        have HROW3:=hid (show V3.heap[V2.heap.size]?=some (.cells #[.int .i64 0,.int .i64 0,.string ⟨#[]⟩,.slice none 0 0,.string ⟨#[]⟩,.slice none 0 0] 45 (0,0)) by rw[hV];exact heap_alloc_new V2 _);have HBX3:=hid (show V2.heap.size<V3.heap.size by rw[hV];simp);rw[←hV];have HKH3:=hid (aF.keep HKH2.out (D':=(fun g=>g≠w.heap.size+1∧g≠V2.heap.size)) (w':=V3) (fun g hg hd=>⟨hB.block g hg,⟨hd,Nat.ne_of_lt hg⟩⟩));have HKR3:=hid (aF.keep HKR2.out (D':=(fun g=>g≠w.heap.size+1∧g≠V2.heap.size)) (w':=V3) (fun g hg hd=>⟨hB.block g hg,⟨hd,Nat.ne_of_lt hg⟩⟩));have HD3:=dG HD2 hB;clear hV hB;refine hQ3 _ _ ((HSS.out _).2 HD3.out) (bV (fun K' hK'=>wpQuiet_nil (hK' _ ?_)));clear hK' K';intro Q4 hQ4;simp only[pick,pickZ,pickS,pickG];go_wp2_with fail
        obtain⟨s1,s2⟩:=iW V3 (.int .i64 1) (.int .i64 0) (.string ⟨#[104,101,97,100]⟩) (.slice none 0 0) (.string ⟨#[]⟩) (.slice ah (bP tit).kids.length ch) (.int .i64 1) (.int .i64 0) (.string ⟨#[98,111,100,121]⟩) (.slice none 0 0) (.string ⟨#[]⟩) (.slice ar R.length cr);obtain⟨V4,hV⟩:∃V4,V4=V3.alloc (.cells #[.int .i64 1,.int .i64 0,.string ⟨#[104,101,97,100]⟩,.slice none 0 0,.string ⟨#[]⟩,.slice ah (bP tit).kids.length ch,.int .i64 1,.int .i64 0,.string ⟨#[98,111,100,121]⟩,.slice none 0 0,.string ⟨#[]⟩,.slice ar R.length cr] 45):=⟨_,rfl⟩
        have hB:Below V3.heap.size V3 V4:=by rw[hV];exact(Below.refl _ _).alloc aQ _
        rw[←hV]at s1 s2 ⊢
        have HKH4:=hid (aF.keep HKH3.out (D':=(fun g=>g≠w.heap.size+1∧g≠V2.heap.size)) (w':=V4) (fun g hg hd=>⟨hB.block g hg,hd⟩));have HKR4:=hid (aF.keep HKR3.out (D':=(fun g=>g≠w.heap.size+1∧g≠V2.heap.size)) (w':=V4) (fun g hg hd=>⟨hB.block g hg,hd⟩));have HKP4:=hid (rK (D:=(fun g=>g≠w.heap.size+1∧g≠V2.heap.size)) ⟨show V3.heap.size≠w.heap.size+1 by have h1:=HD3.out.size;have h2:=HRB.out;omega,show V3.heap.size≠V2.heap.size by have h1:=HBX3.out;omega⟩ HHL.out (by have:=HRL.out;omega) s1 s2 HKH4.out HKR4.out);have HROW4:=hid ((hB.block V2.heap.size HBX3.out).trans HROW3.out);have HBX4:=hid (Nat.lt_of_lt_of_le HBX3.out hB.size);have HD4:=dG HD3 hB;clear s1 s2 hV hB HKH4 HKR4;refine hQ4 _ _ ((HSS.out _).2 HD4.out) (bV (fun K' hK'=>wpQuiet_nil (hK' _ ?_)));clear hK' K';intro Q5 hQ5;simp only[pick,pickZ,pickS,pickG];go_wp2_with fail
        refine(gM ⟨#[104,116,109,108]⟩ [bP tit,elN cB R] (some ⟨V3.heap.size,0,none⟩) 2 V4 (by simp) (hid HKP4.out.kids)).mono ?_;rintro e V5 ⟨⟨_,rfl,rfl,_⟩,hB⟩;have HKP5:=hid (aF.keep HKP4.out (D':=(fun g=>g≠w.heap.size+1∧g≠V2.heap.size)) (w':=V5) (fun g hg hd=>⟨hB.block g hg,hd⟩));have HROW5:=hid ((hB.block V2.heap.size HBX4.out).trans HROW4.out);have HBX5:=hid (Nat.lt_of_lt_of_le HBX4.out hB.size);have HD5:=dG HD4 hB;clear hB;go_wp2_with fail
        refine hQ5 _ _ ((HSS.out _).2 HD5.out) (dV (fun K' hK'=>wpQuiet_nil (hK' _ (fun Qz hQz=>?_))));clear hK' K' hQ5 Q5;simp only[List.drop_succ_cons,List.drop_zero];refine wpList_store_row (by rfl) 45 (.tmp 10) (.tmp 61) rfl V2.heap.size #[.int .i64 1,.int .i64 0,.string ⟨#[104,116,109,108]⟩,.slice none 0 0,.string ⟨#[]⟩,.slice (some ⟨V3.heap.size,0,none⟩) 2 2] rfl rfl 45 _ HROW5.out (by rw[hi45];simp[hs45]) rfl (by simp[Value.oneCell']) ?_;go_wp2_with fail
        go_meet
        case rel=>exact⟨_,_,rfl,hid (setRow_heap V5 V2.heap.size _ _ 45 (0,0) HROW5.out),hid (aF.keep HKP5.out (D':=(fun g=>g≠w.heap.size+1)) (fun g hg hd=>⟨setRow_other V5 V2.heap.size g _ hd.2,hd.1⟩)),hid (cJ HD5.out _ (by exact HD2.out.size) _)⟩
      ·clear hK' K';intro Q2 hQ2;simp only[pick,pickZ,pickS,pickG];go_wp2_with fail
       obtain⟨V2,hV⟩:∃V2,V2=V1.alloc (.cells #[.int .i64 0,.int .i64 0,.string ⟨#[]⟩,.slice none 0 0,.string ⟨#[]⟩,.slice none 0 0] 45):=⟨_,rfl⟩
       have hB:Below V1.heap.size V1 V2:=by rw[hV];exact(Below.refl _ _).alloc aQ _
       have HROW2:=hid (show V2.heap[V1.heap.size]?=some (.cells #[.int .i64 0,.int .i64 0,.string ⟨#[]⟩,.slice none 0 0,.string ⟨#[]⟩,.slice none 0 0] 45 (0,0)) by rw[hV];exact heap_alloc_new V1 _);have HBX2:=hid (show V1.heap.size<V2.heap.size by rw[hV];simp);rw[←hV];have HKH2:=hid (aF.keep HKH1.out (D':=(fun g=>g≠w.heap.size+1∧g≠V1.heap.size)) (w':=V2) (fun g hg hd=>⟨hB.block g hg,⟨hd,Nat.ne_of_lt hg⟩⟩));have HKR2:=hid (aF.keep HKR1.out (D':=(fun g=>g≠w.heap.size+1∧g≠V1.heap.size)) (w':=V2) (fun g hg hd=>⟨hB.block g hg,⟨hd,Nat.ne_of_lt hg⟩⟩));have HD2:=dG HD1 hB;clear hV hB;refine hQ2 _ _ ((HSS.out _).2 HD2.out) (bV (fun K' hK'=>wpQuiet_nil (hK' _ ?_)));clear hK' K';intro Q3 hQ3;simp only[pick,pickZ,pickS,pickG];go_wp2_with fail
       refine(gM ⟨#[98,111,100,121]⟩ R ar cr V2 HRL.out (hid HKR2.out.kids)).mono ?_;rintro e V3 ⟨⟨_,rfl,rfl,_⟩,hB⟩;have HKH3:=hid (aF.keep HKH2.out (D':=(fun g=>g≠w.heap.size+1∧g≠V1.heap.size)) (w':=V3) (fun g hg hd=>⟨hB.block g hg,hd⟩));have HKR3:=hid (aF.keep HKR2.out (D':=(fun g=>g≠w.heap.size+1∧g≠V1.heap.size)) (w':=V3) (fun g hg hd=>⟨hB.block g hg,hd⟩));have HROW3:=hid ((hB.block V1.heap.size HBX2.out).trans HROW2.out);have HBX3:=hid (Nat.lt_of_lt_of_le HBX2.out hB.size);have HD3:=dG HD2 hB;clear hB;go_wp2_with fail
       refine hQ3 _ _ ((HSS.out _).2 HD3.out) (bV (fun K' hK'=>wpQuiet_nil (hK' _ ?_)));clear hK' K';intro Q4 hQ4;simp only[pick,pickZ,pickS,pickG];go_wp2_with fail
       obtain⟨s1,s2⟩:=iW V3 (.int .i64 1) (.int .i64 0) (.string ⟨#[104,101,97,100]⟩) (.slice none 0 0) (.string ⟨#[]⟩) (.slice ah (bP tit).kids.length ch) (.int .i64 1) (.int .i64 0) (.string ⟨#[98,111,100,121]⟩) (.slice none 0 0) (.string ⟨#[]⟩) (.slice ar R.length cr);obtain⟨V4,hV⟩:∃V4,V4=V3.alloc (.cells #[.int .i64 1,.int .i64 0,.string ⟨#[104,101,97,100]⟩,.slice none 0 0,.string ⟨#[]⟩,.slice ah (bP tit).kids.length ch,.int .i64 1,.int .i64 0,.string ⟨#[98,111,100,121]⟩,.slice none 0 0,.string ⟨#[]⟩,.slice ar R.length cr] 45):=⟨_,rfl⟩
       have hB:Below V3.heap.size V3 V4:=by rw[hV];exact(Below.refl _ _).alloc aQ _
       rw[←hV]at s1 s2 ⊢
       have HKH4:=hid (aF.keep HKH3.out (D':=(fun g=>g≠w.heap.size+1∧g≠V1.heap.size)) (w':=V4) (fun g hg hd=>⟨hB.block g hg,hd⟩));have HKR4:=hid (aF.keep HKR3.out (D':=(fun g=>g≠w.heap.size+1∧g≠V1.heap.size)) (w':=V4) (fun g hg hd=>⟨hB.block g hg,hd⟩));have HKP4:=hid (rK (D:=(fun g=>g≠w.heap.size+1∧g≠V1.heap.size)) ⟨show V3.heap.size≠w.heap.size+1 by have h1:=HD3.out.size;have h2:=HRB.out;omega,show V3.heap.size≠V1.heap.size by have h1:=HBX3.out;omega⟩ HHL.out (by have:=HRL.out;omega) s1 s2 HKH4.out HKR4.out);have HROW4:=hid ((hB.block V1.heap.size HBX3.out).trans HROW3.out);have HBX4:=hid (Nat.lt_of_lt_of_le HBX3.out hB.size);have HD4:=dG HD3 hB;clear s1 s2 hV hB HKH4 HKR4;refine hQ4 _ _ ((HSS.out _).2 HD4.out) (bV (fun K' hK'=>wpQuiet_nil (hK' _ ?_)));clear hK' K';intro Q5 hQ5;simp only[pick,pickZ,pickS,pickG];go_wp2_with fail
       refine(gM ⟨#[104,116,109,108]⟩ [bP tit,elN cB R] (some ⟨V3.heap.size,0,none⟩) 2 V4 (by simp) (hid HKP4.out.kids)).mono ?_;rintro e V5 ⟨⟨_,rfl,rfl,_⟩,hB⟩;have HKP5:=hid (aF.keep HKP4.out (D':=(fun g=>g≠w.heap.size+1∧g≠V1.heap.size)) (w':=V5) (fun g hg hd=>⟨hB.block g hg,hd⟩));have HROW5:=hid ((hB.block V1.heap.size HBX4.out).trans HROW4.out);have HBX5:=hid (Nat.lt_of_lt_of_le HBX4.out hB.size);have HD5:=dG HD4 hB;clear hB;go_wp2_with fail
       refine hQ5 _ _ ((HSS.out _).2 HD5.out) (dV (fun K' hK'=>wpQuiet_nil (hK' _ (fun Qz hQz=>?_))));clear hK' K' hQ5 Q5;simp only[List.drop_succ_cons,List.drop_zero];refine wpList_store_row (by rfl) 45 (.tmp 10) (.tmp 61) rfl V1.heap.size #[.int .i64 1,.int .i64 0,.string ⟨#[104,116,109,108]⟩,.slice none 0 0,.string ⟨#[]⟩,.slice (some ⟨V3.heap.size,0,none⟩) 2 2] rfl rfl 45 _ HROW5.out (by rw[hi45];simp[hs45]) rfl (by simp[Value.oneCell']) ?_;go_wp2_with fail
       go_meet
       case rel=>exact⟨_,_,rfl,hid (setRow_heap V5 V1.heap.size _ _ 45 (0,0) HROW5.out),hid (aF.keep HKP5.out (D':=(fun g=>g≠w.heap.size+1)) (fun g hg hd=>⟨setRow_other V5 V1.heap.size g _ hd.2,hd.1⟩)),hid (cJ HD5.out _ (by exact HD1.out.size) _)⟩
     ·clear hK' K';intro Q1 hQ1;simp only[pick,pickZ,pickS,pickG];go_wp2_with fail
      obtain⟨V1,hV⟩:∃V1,V1=V0.alloc (.cells #[.int .i64 0,.int .i64 0,.string ⟨#[]⟩,.slice none 0 0,.string ⟨#[]⟩,.slice none 0 0] 45):=⟨_,rfl⟩
      have hB:Below V0.heap.size V0 V1:=by rw[hV];exact(Below.refl _ _).alloc aQ _
      have HROW1:=hid (show V1.heap[V0.heap.size]?=some (.cells #[.int .i64 0,.int .i64 0,.string ⟨#[]⟩,.slice none 0 0,.string ⟨#[]⟩,.slice none 0 0] 45 (0,0)) by rw[hV];exact heap_alloc_new V0 _);have HBX1:=hid (show V0.heap.size<V1.heap.size by rw[hV];simp);rw[←hV];have HKH1:=hid (aF.keep HKH0.out (D':=(fun g=>g≠w.heap.size+1∧g≠V0.heap.size)) (w':=V1) (fun g hg hd=>⟨hB.block g hg,⟨hd,Nat.ne_of_lt hg⟩⟩));have HD1:=dG HD0 hB;clear hV hB;refine hQ1 _ _ ((HSS.out _).2 HD1.out) (bV (fun K' hK'=>wpQuiet_nil (hK' _ ?_)));clear hK' K';intro Q2 hQ2;simp only[pick,pickZ,pickS,pickG];go_wp2_with fail
      refine(HFIL.out V1 HD1.out).mono ?_;rintro e V2 ⟨ar,cr,rfl,_,hrk,hB⟩;have HKR2:=hid (aF.keep hrk (D':=(fun g=>g≠w.heap.size+1∧g≠V0.heap.size)) (w':=V2) (fun g hg hd=>⟨rfl,⟨by have h1:=HD1.out.size;have h2:=HRB.out;omega,by have h1:=HBX1.out;omega⟩⟩));have HKH2:=hid (aF.keep HKH1.out (D':=(fun g=>g≠w.heap.size+1∧g≠V0.heap.size)) (w':=V2) (fun g hg hd=>⟨hB.block g hg,hd⟩));have HROW2:=hid ((hB.block V0.heap.size HBX1.out).trans HROW1.out);have HBX2:=hid (Nat.lt_of_lt_of_le HBX1.out hB.size);have HD2:=dG HD1 hB;clear hrk hB;go_wp2_with fail
      refine hQ2 _ _ ((HSS.out _).2 HD2.out) (bV (fun K' hK'=>wpQuiet_nil (hK' _ ?_)));clear hK' K';intro Q3 hQ3;simp only[pick,pickZ,pickS,pickG];go_wp2_with fail
      refine(gM ⟨#[98,111,100,121]⟩ R ar cr V2 HRL.out (hid HKR2.out.kids)).mono ?_;rintro e V3 ⟨⟨_,rfl,rfl,_⟩,hB⟩;have HKH3:=hid (aF.keep HKH2.out (D':=(fun g=>g≠w.heap.size+1∧g≠V0.heap.size)) (w':=V3) (fun g hg hd=>⟨hB.block g hg,hd⟩));have HKR3:=hid (aF.keep HKR2.out (D':=(fun g=>g≠w.heap.size+1∧g≠V0.heap.size)) (w':=V3) (fun g hg hd=>⟨hB.block g hg,hd⟩));have HROW3:=hid ((hB.block V0.heap.size HBX2.out).trans HROW2.out);have HBX3:=hid (Nat.lt_of_lt_of_le HBX2.out hB.size);have HD3:=dG HD2 hB;clear hB;go_wp2_with fail
      refine hQ3 _ _ ((HSS.out _).2 HD3.out) (bV (fun K' hK'=>wpQuiet_nil (hK' _ ?_)));clear hK' K';intro Q4 hQ4;simp only[pick,pickZ,pickS,pickG];go_wp2_with fail
      obtain⟨s1,s2⟩:=iW V3 (.int .i64 1) (.int .i64 0) (.string ⟨#[104,101,97,100]⟩) (.slice none 0 0) (.string ⟨#[]⟩) (.slice ah (bP tit).kids.length ch) (.int .i64 1) (.int .i64 0) (.string ⟨#[98,111,100,121]⟩) (.slice none 0 0) (.string ⟨#[]⟩) (.slice ar R.length cr);obtain⟨V4,hV⟩:∃V4,V4=V3.alloc (.cells #[.int .i64 1,.int .i64 0,.string ⟨#[104,101,97,100]⟩,.slice none 0 0,.string ⟨#[]⟩,.slice ah (bP tit).kids.length ch,.int .i64 1,.int .i64 0,.string ⟨#[98,111,100,121]⟩,.slice none 0 0,.string ⟨#[]⟩,.slice ar R.length cr] 45):=⟨_,rfl⟩
      have hB:Below V3.heap.size V3 V4:=by rw[hV];exact(Below.refl _ _).alloc aQ _
      rw[←hV]at s1 s2 ⊢
      have HKH4:=hid (aF.keep HKH3.out (D':=(fun g=>g≠w.heap.size+1∧g≠V0.heap.size)) (w':=V4) (fun g hg hd=>⟨hB.block g hg,hd⟩));have HKR4:=hid (aF.keep HKR3.out (D':=(fun g=>g≠w.heap.size+1∧g≠V0.heap.size)) (w':=V4) (fun g hg hd=>⟨hB.block g hg,hd⟩));have HKP4:=hid (rK (D:=(fun g=>g≠w.heap.size+1∧g≠V0.heap.size)) ⟨show V3.heap.size≠w.heap.size+1 by have h1:=HD3.out.size;have h2:=HRB.out;omega,show V3.heap.size≠V0.heap.size by have h1:=HBX3.out;omega⟩ HHL.out (by have:=HRL.out;omega) s1 s2 HKH4.out HKR4.out);have HROW4:=hid ((hB.block V0.heap.size HBX3.out).trans HROW3.out);have HBX4:=hid (Nat.lt_of_lt_of_le HBX3.out hB.size);have HD4:=dG HD3 hB;clear s1 s2 hV hB HKH4 HKR4;refine hQ4 _ _ ((HSS.out _).2 HD4.out) (bV (fun K' hK'=>wpQuiet_nil (hK' _ ?_)));clear hK' K';intro Q5 hQ5;simp only[pick,pickZ,pickS,pickG];go_wp2_with fail
      refine(gM ⟨#[104,116,109,108]⟩ [bP tit,elN cB R] (some ⟨V3.heap.size,0,none⟩) 2 V4 (by simp) (hid HKP4.out.kids)).mono ?_;rintro e V5 ⟨⟨_,rfl,rfl,_⟩,hB⟩;have HKP5:=hid (aF.keep HKP4.out (D':=(fun g=>g≠w.heap.size+1∧g≠V0.heap.size)) (w':=V5) (fun g hg hd=>⟨hB.block g hg,hd⟩));have HROW5:=hid ((hB.block V0.heap.size HBX4.out).trans HROW4.out);have HBX5:=hid (Nat.lt_of_lt_of_le HBX4.out hB.size);have HD5:=dG HD4 hB;clear hB;go_wp2_with fail
      refine hQ5 _ _ ((HSS.out _).2 HD5.out) (dV (fun K' hK'=>wpQuiet_nil (hK' _ (fun Qz hQz=>?_))));clear hK' K' hQ5 Q5;simp only[List.drop_succ_cons,List.drop_zero];refine wpList_store_row (by rfl) 45 (.tmp 10) (.tmp 61) rfl V0.heap.size #[.int .i64 1,.int .i64 0,.string ⟨#[104,116,109,108]⟩,.slice none 0 0,.string ⟨#[]⟩,.slice (some ⟨V3.heap.size,0,none⟩) 2 2] rfl rfl 45 _ HROW5.out (by rw[hi45];simp[hs45]) rfl (by simp[Value.oneCell']) ?_;go_wp2_with fail
      go_meet
      case rel=>exact⟨_,_,rfl,hid (setRow_heap V5 V0.heap.size _ _ 45 (0,0) HROW5.out),hid (aF.keep HKP5.out (D':=(fun g=>g≠w.heap.size+1)) (fun g hg hd=>⟨setRow_other V5 V0.heap.size g _ hd.2,hd.1⟩)),hid (cJ HD5.out _ (by exact HD0.out.size) _)⟩
    case rest =>
     obtain⟨i45,hi45,hz45,hs45,hb45⟩:=info_parts Tryz.info45;obtain⟨bx,gk,rfl,HRX,HKX,HBX⟩:=hcut;rename World=>Wc
     have HBC:=dG HB8 HBX.out;have HZC:=hid ((HBC.out.block (w.heap.size+1) (by have:=HS0.out;omega)).trans HZ0.out);obtain⟨P,hP⟩:∃P,P=elN rR [bP tit,elN cB R]:=⟨_,rfl⟩
     have HNP:=hid (show aL Wc P (.agg #[.int .i64 1,.int .i64 0,.string ⟨#[104,116,109,108]⟩,.slice none 0 0,.string ⟨#[]⟩,.slice (some ⟨gk,0,none⟩) 2 2]) by
      rw[hP];unfold elN aL;exact⟨_,_,2,rfl,by simp,iC _,HKX.out.kids⟩)
     have hsz:P.sz≤1000000000:=by
      have h1:=aBi tit (by have:=HTS.out;omega);have h2:=aC2.2 (bP tit).kids;have h3:=HRZ.out;have h4:=HTS.out;have e:P.sz=1+((1+aD (bP tit).kids)+(1+aD R)):=by
       rw[hP,eE];show 1+aD [bP tit,elN cB R]=_;rw[gY,gY,pF,eE,eE];rfl
      omega
     have HPP:=hid hP;rw[←hP]at HCP
     have HX9:=hid (show Six Wc bx 0 (.int .i64 1) (.int .i64 0) (.string ⟨#[104,116,109,108]⟩) (.slice none 0 0) (.string ⟨#[]⟩) (.slice (some ⟨gk,0,none⟩) 2 2)from⟨cell_of_row Wc bx 0 _ 45 (0,0) HRX.out,cell_of_row Wc bx 1 _ 45 (0,0) HRX.out,cell_of_row Wc bx 2 _ 45 (0,0) HRX.out,cell_of_row Wc bx 3 _ 45 (0,0) HRX.out,cell_of_row Wc bx 4 _ 45 (0,0) HRX.out,cell_of_row Wc bx 5 _ 45 (0,0) HRX.out⟩);have HCT:=hid (aGE P.sz P aQ _ Wc hsz HNP);have HDT:=hid (fun(W:World) (h:Below Wc.heap.size Wc W)=>aHO P.sz P aQ _ W hsz (hid (HNP.out.below h aQ)));clear hP HRL HRZ HHL HFIL HRB HRX x0 x1 x2 x3 x4 x5;obtain⟨x0,x1,x2,x3,x4,x5⟩:=HX9.out.zero;generalize hz:P.sz=z at *
     generalize hd:fR P=d at *
     have HPZ:=hid hz;have HPD:=hid hd;clear hz hd;go_wp2_with fail
     refine HCT.out.mono ?_;rintro e Wd ⟨rfl,Bd⟩;have HBd:=hid Bd;clear Bd HCT x0 x1 x2 x3 x4 x5;have HLB:=hid (show w.heap.size+1<Wc.heap.size by have h1:=HS0.out;have h2:=HBC.out.size;omega);have HZD:=hid ((HBd.out.block (w.heap.size+1) HLB.out).trans HZC.out);have HBD:=hid (HB0.out.trans ((HBC.out.trans (HBd.out.mono HBC.out.size)).mono HB0.out.size));rcases Nat.lt_or_ge 1000 z with hz|hz
     ·have HZ1:=hid hz;go_wp2_with (refine wpList_store_row (by rfl) 45 (.tmp 2) (.tmp 66) rfl (w.heap.size+1) #[.int .i64 0,.int .i64 0,.string ⟨#[]⟩,.slice none 0 0,.string ⟨#[]⟩,.slice none 0 0] rfl rfl 45 _ HZD.out (by rw[hi45];simp[hs45]) rfl (by simp[Value.oneCell']) ?_)
      refine bodyPost_ret (nL rfl _ _ (w.heap.size+1) _ _ _ _ _ _ (.int .i64 43) rfl rfl (setRow_heap Wd (w.heap.size+1) _ _ 45 (0,0) HZD.out)) rfl ?_;rw[HCP.out];exact⟨.inl ⟨by rw[HPZ.out];exact HZ1.out,_,rfl,rfl⟩,cJ HBD.out (w.heap.size+1) (Nat.le_succ _) _⟩
     ·have HZ1:=hid hz;obtain⟨x0,x1,x2,x3,x4,x5⟩:=(HX9.out.below HBd.out aQ).zero;go_wp2_with fail
      refine(HDT.out Wd HBd.out).mono ?_;rintro e We ⟨rfl,Be⟩;have HBe:=dG HBd Be;have HBE:=dG HBD Be;have HZE:=hid ((HBe.out.block (w.heap.size+1) HLB.out).trans HZC.out);clear Be hz x0 x1 x2 x3 x4 x5;rcases Nat.lt_or_ge 32 d with hd|hd
      ·have HD1:=hid hd;go_wp2_with (refine wpList_store_row (by rfl) 45 (.tmp 2) (.tmp 71) rfl (w.heap.size+1) #[.int .i64 0,.int .i64 0,.string ⟨#[]⟩,.slice none 0 0,.string ⟨#[]⟩,.slice none 0 0] rfl rfl 45 _ HZE.out (by rw[hi45];simp[hs45]) rfl (by simp[Value.oneCell']) ?_)
       refine bodyPost_ret (nL rfl _ _ (w.heap.size+1) _ _ _ _ _ _ (.int .i64 44) rfl rfl (setRow_heap We (w.heap.size+1) _ _ 45 (0,0) HZE.out)) rfl ?_;rw[HCP.out];exact⟨.inr (.inl ⟨by rw[HPZ.out];exact HZ1.out,by rw[HPD.out];exact HD1.out,_,rfl,rfl⟩),cJ HBE.out (w.heap.size+1) (Nat.le_succ _) _⟩
      ·have HD1:=hid hd;obtain⟨x0,x1,x2,x3,x4,x5⟩:=(HX9.out.below HBe.out aQ).zero;go_wp2_with (refine wpList_store_row (by rfl) 45 (.tmp 2) (.tmp 72) rfl (w.heap.size+1) #[.int .i64 1,.int .i64 0,.string ⟨#[104,116,109,108]⟩,.slice none 0 0,.string ⟨#[]⟩,.slice (some ⟨gk,0,none⟩) 2 2] rfl rfl 45 _ HZE.out (by rw[hi45];simp[hs45]) rfl (by simp[Value.oneCell']) ?_)
       refine bodyPost_ret (nL rfl _ _ (w.heap.size+1) _ _ _ _ _ _ (.int .i64 0) rfl rfl (setRow_heap We (w.heap.size+1) _ _ 45 (0,0) HZE.out)) rfl ?_;rw[HCP.out];refine⟨.inr (.inr ⟨by rw[HPZ.out];exact HZ1.out,by rw[HPD.out];exact HD1.out,_,rfl,?_⟩),cJ HBE.out (w.heap.size+1) (Nat.le_succ _) _⟩;rw[HPP.out];unfold elN aL;exact⟨_,_,2,rfl,by simp,iC _,(aF.keep HKX.out (D':=fun _=>True) (w':=We.setRow (w.heap.size+1) _) (fun g hg hd=>⟨(setRow_other We (w.heap.size+1) g _ hd).trans (HBe.out.block g hg),trivial⟩)).kids⟩
open Go.RowKit
theorem aNu:∀(m:Nat) (n:Nd),n.sz≤m→∀(v v':Value) (w:World),Hid (SmN n)→Hid (aL w n v)→Hid (aL w n v') →
  Calls Tryz.prog 60 #[v,v'] w (bA true w):=by
 intro m;induction m with
 | zero=>intro n hn;exact absurd (eG n) (by omega)
 | succ m ih =>
  intro n hn v v' w HS hN hN';obtain⟨av,a,c,rfl,hA,hK,hlen⟩:=hN.out.get;obtain⟨av',a',c',rfl,hA',hK',_⟩:=hN'.out.get;obtain⟨aa,ca,rfl,hAA⟩:=hA;obtain⟨aa',ca',rfl,hAA'⟩:=hA';have HA:=hid (show eI w (.slice aa n.attrs.length ca) n.attrs from⟨aa,ca,rfl,hAA⟩);have HA':=hid (show eI w (.slice aa' n.attrs.length ca') n.attrs from⟨aa',ca',rfl,hAA'⟩);have HK:=hid hK;have HK':=hid hK';have HIH:=hid ih;have HN:=hid (show ∀k∈n.kids,k.sz≤m by
   intro k hk;have h1:=eE n;have h2:=(iZ n.kids).1 k hk;omega)
  have HSN:=hid HS.out.get;have hal:n.attrs.length≤1048576:=HS.out.get.2.2.1;clear hK hK' ih hn hN hN' HS hAA hAA';generalize n.kids=ks at *
  generalize n.name=nm at *
  generalize n.kind=kd at *
  generalize n.space=sp at *
  generalize n.text=tx at *
  generalize n.attrs=at' at *
  have e0:(kd !=kd)=false:=by simp
  have e1:(sp !=sp)=false:=by simp
  have e2:(nm.toList !=nm.toList)=false:=by simp
  have e3:(tx.toList !=tx.toList)=false:=by simp
  go_enter Tryz.func60,Tryz.ntmps60
  obtain⟨W0,hW0⟩:∃W0,W0=(w.alloc (.cells #[.int .i64 kd,.int .i64 sp,.string nm,.slice aa at'.length ca,.string tx,.slice a ks.length c] 45)).alloc (.cells #[.int .i64 kd,.int .i64 sp,.string nm,.slice aa' at'.length ca',.string tx,.slice a' ks.length c'] 45):=⟨_,rfl⟩
  have hB0:Below w.heap.size w W0:=by rw[hW0];exact((Below.refl _ w).alloc aQ _).alloc (by simp) _
  have hP0:Six W0 w.heap.size 0 (.int .i64 kd) (.int .i64 sp) (.string nm) (.slice aa at'.length ca) (.string tx) (.slice a ks.length c):=by
   rw[hW0];exact(bG w _ _ _ _ _ _).below ((Below.refl (w.alloc _).heap.size _).alloc aQ _) aQ
  have hP1:Six W0 (w.heap.size+1) 0 (.int .i64 kd) (.int .i64 sp) (.string nm) (.slice aa' at'.length ca') (.string tx) (.slice a' ks.length c'):=by
   have h:=bG (w.alloc (.cells #[.int .i64 kd,.int .i64 sp,.string nm,.slice aa at'.length ca,.string tx,.slice a ks.length c] 45)) (.int .i64 kd) (.int .i64 sp) (.string nm) (.slice aa' at'.length ca') (.string tx) (.slice a' ks.length c');rw[←hW0]at h
   simpa using h
  have HP0:=hid hP0;have HP1:=hid hP1;have HB0:=hid hB0;have HW0:=hid hW0;clear hP0 hP1 hB0 hW0;obtain⟨y0,y1,y2,y3,y4,y5⟩:=HP0.out.zero;obtain⟨z0,z1,z2,z3,z4,z5⟩:=HP1.out.zero;go_upto_region 1 with fail
  rw[←HW0.out];go_wp2_with fail
  clear y0 y1 y2 y3 y4 y5 z0 z1 z2 z3 z4 z5;go_loopw [56] (fun i wx=>∃k:Nat,i=.int .i64 k∧Hid (k≤at'.length∧Below W0.heap.size W0 wx)) (fun i _=>at'.length-(intOf i).toNat)
  case atStart=>exact⟨0,rfl,hid ⟨Nat.zero_le _,Below.refl _ _⟩⟩
  case round =>
   obtain⟨k,rfl,hK⟩:=hrel;have hk:=hK.out.1;have hBw:Below w.heap.size w wr:=HB0.out.trans (hK.out.2.mono HB0.out.size);have HBw:=hid hBw;clear hBw;rcases Nat.lt_or_ge k at'.length with hlt|hge
   ·obtain⟨g1,o1,c1,hv1,a1,a2⟩:=(HA.out.below HBw.out aQ).get k hlt;obtain⟨g2,o2,c2,hv2,b1,b2⟩:=(HA'.out.below HBw.out aQ).get k hlt;simp only[Value.slice.injEq,true_and]at hv1 hv2;obtain⟨rfl,rfl⟩:=hv1;obtain⟨rfl,rfl⟩:=hv2;generalize at'[k]=q at *
    obtain⟨qn,qv⟩:=q;simp only at a1 a2 b1 b2;have e1:(qn.toList==qn.toList)=true:=by simp
    have e2:(qv.toList==qv.toList)=true:=by simp
    obtain⟨V,hV⟩:∃V,V=wr.alloc (.cells #[.string qn,.string qv] 39):=⟨_,rfl⟩
    have hbV:Below wr.heap.size wr V:=by rw[hV];exact(Below.refl _ wr).alloc aQ _
    have HV:=hid hV;have HBV:=hid hbV;obtain⟨z0,z1,z2,z3,z4,z5⟩:=((HP1.out.below hK.out.2 aQ).below hbV aQ).zero;have b1':V.cell? _=_:=(hbV.cell (World.block_lt_of_cell? _ _ b1)).trans b1;have b2':V.cell? _=_:=(hbV.cell (World.block_lt_of_cell? _ _ b2)).trans b2;have v1:V.cell? ⟨wr.heap.size,0,none⟩=some (.string qn):=by rw[hV];exact cell_of_row _ wr.heap.size 0 _ 39 (0,0) (heap_alloc_new wr _)
    have v2:V.cell? ⟨wr.heap.size,1,none⟩=some (.string qv):=by rw[hV];exact cell_of_row _ wr.heap.size 1 _ 39 (0,0) (heap_alloc_new wr _)
    clear hV hbV b1 b2;go_upto_region 6 with fail
    rw[←HV.out];clear a1 a2;go_quiet (fail)
    go_wp2
    go_roundw
    case rel=>exact⟨k+1,by go_num,hid ⟨hlt,hK.out.2.trans ((HBV.out.trans ((below_drewNm V nq).mono HBV.out.size)).mono hK.out.2.size)⟩⟩
    case measure=>simp[intOf];omega
   ·have HPa:=hid (HP0.out.below hK.out.2 aQ);have HPb:=hid (HP1.out.below hK.out.2 aQ);have hb1:w.heap.size<W0.heap.size:=World.block_lt_of_cell? _ _ HP0.out.x0;have hb2:w.heap.size+1<W0.heap.size:=World.block_lt_of_cell? _ _ HP1.out.x0;have HSZ:=hid (show w.heap.size+1<wr.heap.size by have:=hK.out.2.size;omega);obtain⟨y0,y1,y2,y3,y4,y5⟩:=HPa.out.zero;clear hK hk hb1 hb2 HW0;go_wp2_with fail
    rw[show decide (k<at'.length)=false from decide_eq_false (by omega)];clear hge y0 y1 y2 y3 y4 y5;rename World=>W2
    go_loopw [72] (fun i wx=>∃k:Nat,i=.int .i64 k∧Hid (k≤ks.length∧Below W2.heap.size W2 wx)) (fun i _=>ks.length-(intOf i).toNat)
    case atStart=>exact⟨0,rfl,hid ⟨Nat.zero_le _,Below.refl _ _⟩⟩
    case round =>
     obtain⟨k,rfl,hK⟩:=hrel;have hk:=hK.out.1;have hBw:Below w.heap.size w wr:=HBw.out.trans (hK.out.2.mono HBw.out.size);rcases Nat.lt_or_ge k ks.length with hlt|hge
     ·obtain⟨g,off,c0,c1,c2,c3,c4,c5,rfl,h6,hn⟩:=HK.out.get ks 0 k hlt;obtain⟨g',off',d0,d1,d2,d3,d4,d5,rfl,h6',hn'⟩:=HK'.out.get ks 0 k hlt;rw[Nat.zero_add]at h6 h6'
      have hQ:=h6.below hBw aQ;have HNN:=hid (HIH.out ks[k] (HN.out _ (List.getElem_mem hlt)));have HSQ:=hid (SmK.get ks k hlt HSN.out.2.2.2.2);obtain⟨l1,l2,l3,l4,rfl,rfl,rfl,rfl,rfl,rfl⟩:=hn.cells;obtain⟨m1,m2,m3,m4,rfl,rfl,rfl,rfl,rfl,rfl⟩:=hn'.cells;obtain⟨x0,x1,x2,x3,x4,x5⟩:=hQ;obtain⟨V,hV⟩:∃V,V=wr.alloc (.cells #[.int .i64 ks[k].kind,.int .i64 ks[k].space,.string ks[k].name,.slice l1 ks[k].attrs.length l2,.string ks[k].text,.slice l3 ks[k].kids.length l4] 45):=⟨_,rfl⟩
      have hbV:Below wr.heap.size wr V:=by rw[hV];exact(Below.refl _ wr).alloc aQ _
      have hBV:Below w.heap.size w V:=hBw.trans (hbV.mono hBw.size);have hQ:=bG wr (.int .i64 ks[k].kind) (.int .i64 ks[k].space) (.string ks[k].name) (.slice l1 ks[k].attrs.length l2) (.string ks[k].text) (.slice l3 ks[k].kids.length l4);rw[←hV]at hQ
      have hQ':=h6'.below hBV aQ;have HNa:=hid (hn.below hBV aQ);have HNb:=hid (hn'.below hBV aQ);obtain⟨S,hS⟩:∃S:World→Prop,∀u,S u↔Below V.heap.size V u:=⟨_,fun _=>Iff.rfl⟩
      have HKV:=hid (hK.out.2.trans (hbV.mono hK.out.2.size));obtain⟨bn,hbn⟩:∃bn,bn=wr.heap.size:=⟨_,rfl⟩
      rw[←hbn]at hQ
      have f0:∀s:WIn S,s.w.cell? ⟨bn,0,none⟩=some (.int .i64 ks[k].kind):=fun s=>(hQ.below ((hS _).1 s.h) aQ).x0
      have f1:∀s:WIn S,s.w.cell? ⟨bn,1,none⟩=some (.int .i64 ks[k].space):=fun s=>(hQ.below ((hS _).1 s.h) aQ).x1
      have f2:∀s:WIn S,s.w.cell? ⟨bn,2,none⟩=some (.string ks[k].name):=fun s=>(hQ.below ((hS _).1 s.h) aQ).x2
      have f3:∀s:WIn S,s.w.cell? ⟨bn,3,none⟩=some (.slice l1 ks[k].attrs.length l2):=fun s=>(hQ.below ((hS _).1 s.h) aQ).x3
      have f4:∀s:WIn S,s.w.cell? ⟨bn,4,none⟩=some (.string ks[k].text):=fun s=>(hQ.below ((hS _).1 s.h) aQ).x4
      have f5:∀s:WIn S,s.w.cell? ⟨bn,5,none⟩=some (.slice l3 ks[k].kids.length l4):=fun s=>(hQ.below ((hS _).1 s.h) aQ).x5
      have g0:∀s:WIn S,s.w.cell? ⟨g',off'+k*6,none⟩=some (.int .i64 ks[k].kind):=fun s=>(hQ'.below ((hS _).1 s.h) aQ).x0
      have g1:∀s:WIn S,s.w.cell? ⟨g',off'+k*6+1,none⟩=some (.int .i64 ks[k].space):=fun s=>(hQ'.below ((hS _).1 s.h) aQ).x1
      have g2:∀s:WIn S,s.w.cell? ⟨g',off'+k*6+2,none⟩=some (.string ks[k].name):=fun s=>(hQ'.below ((hS _).1 s.h) aQ).x2
      have g3:∀s:WIn S,s.w.cell? ⟨g',off'+k*6+3,none⟩=some (.slice m1 ks[k].attrs.length m2):=fun s=>(hQ'.below ((hS _).1 s.h) aQ).x3
      have g4:∀s:WIn S,s.w.cell? ⟨g',off'+k*6+4,none⟩=some (.string ks[k].text):=fun s=>(hQ'.below ((hS _).1 s.h) aQ).x4
      have g5:∀s:WIn S,s.w.cell? ⟨g',off'+k*6+5,none⟩=some (.slice m3 ks[k].kids.length m4):=fun s=>(hQ'.below ((hS _).1 s.h) aQ).x5
      have hy:∀s:WIn S,s.w.cell? ⟨w.heap.size+1,5,none⟩=some (.slice (some ⟨g',off',none⟩) ks.length c'):=fun s=>((HPb.out.below HKV.out aQ).below ((hS _).1 s.h) aQ).x5
      haveI:Nonempty (WIn S):=⟨⟨V,(hS _).2 (Below.refl _ _)⟩⟩
      have HSS:=hid hS;have HV:=hid hV;clear hn hn' h6 h6' hBw hQ hQ' hS hV hbV hBV;generalize ks[k]=q at *
      go_upto_region 12 with fail
      rw[←HV.out,←hbn];clear hbn;clear x0 x1 x2 x3 x4 x5 HV;refine eV 7 [([0,1,2,3,4,5],6)] [] S (by kernel_rfl) (by kernel_rfl) ((HSS.out _).2 (below_drewNm V 1)) ?_;refine bJ (fun K' hK'=>?_);simp only[pick,pickZ,pickS,pickG];repeat (go_big_quiet_step (fail))
      refine wpQuiet_nil (hK' _ (fun Q1 hQ1=>?_));clear hK' K';simp only[pick,pickZ,pickS,pickG];go_wp2_with fail
      have hBd:=below_drewNm V 1;refine(HNN.out _ _ (V.drewN 1) HSQ (hid (HNa.out.below hBd aQ)) (hid (HNb.out.below hBd aQ))).mono ?_;unfold bA;rintro e W4 ⟨rfl,B4⟩;have hB4:Below V.heap.size V W4:=hBd.trans (B4.mono hBd.size);have HB4:=hid hB4;clear hBd B4 hB4;go_wp2_with fail
      refine hQ1 _ _ ((HSS.out _).2 HB4.out) (fJ (fun K' hK'=>wpQuiet_nil (hK' _ (fun Q4 hQ4=>?_))));clear hQ1 Q1 hK' K' f0 f1 f2 f3 f4 f5 g0 g1 g2 g3 g4 g5 hy;simp only[List.drop_succ_cons,List.drop_zero];go_wp2
      go_roundw
      case rel=>exact⟨k+1,by go_num,hid ⟨hlt,HKV.out.trans (HB4.out.mono HKV.out.size)⟩⟩
      case measure=>simp[intOf];omega
     ·go_wp2
      go_ret;exact⟨rfl,hBw⟩
open Go.ChangeShapes Go.WideShapes Go.ChangeAt Go.RowKit
variable {H:Type} {enc:TypeId × Value→H} {W:World}
theorem aKL {cs:Array Value}{d:DataW H}{p:List MemPlace}(h:DataW.Trod enc Tryz.prog W 0 (fun _=>true) true 45 (.agg cs) d p)(hd:Rows.uptoBulk d≤1048576) :
  ∃n:Nd,aL W n (.agg cs)∧n.bk≤Rows.uptoBulk d:=by
 obtain⟨fuel,hf⟩:=h;obtain⟨c0,c1,c2,c3,c4,c5,nd,e,hN,hb⟩:=(aKS (enc:=enc) (W:=W) _ hd).1 _ _ _ aQ hf;have e':cs.toList=[c0,c1,c2,c3,c4,c5]:=e;obtain rfl:cs=#[c0,c1,c2,c3,c4,c5]:=by rw[←Array.toList_inj];exact e'
 exact⟨nd,hN,hb⟩
open Go.RowKit
theorem aFy (n:Nd):(fV n).size≤3*n.tk:=by
 unfold fV;have h1:=qT ⟨(dJ (aM bB (aM cH n.kids).kids).kids).toArray⟩;have h2:=xQ (aM bB (aM cH n.kids).kids).kids;have h3:=dT n;have h4:=nV cH n.kids;have h5:=dT (aM cH n.kids);have h6:=nV bB (aM cH n.kids).kids;have h7:=dT (aM bB (aM cH n.kids).kids);have h8:(⟨(dJ (aM bB (aM cH n.kids).kids).kids).toArray⟩:ByteArray).size=(dJ (aM bB (aM cH n.kids).kids).kids).length:=by simp[ByteArray.size]
 omega
theorem aMf {VV:dQ}{A:cX}(hA:AOk VV A)(hV:zJ VV){n:Nd}(hs:SmN n)(ht:n.tk≤1048576):SmN (fC A n)∧(fC A n).tk≤7000000:=by
 have h0:=dT n;obtain⟨b1,b2⟩:=aFa n.kids ((lB n).1 hs).2.2.2.2;have h1:=aFy n;obtain⟨c1,c2,_⟩:=aBi (fV n) (by omega);have d1:=aHG hA hV cB [] b1 (by omega);have d2:=aHN A cB [] (bZ n.kids);refine⟨aAV (by decide) ((dX _ _).2 ⟨aAV (by decide) c1,(dX _ _).2 ⟨aAV (by decide) d1,eC⟩⟩),?_⟩;show(elN rR [bP (fV n),elN cB (aP A cB [] (bZ n.kids))]).tk≤_;have e1:(bP (fV n)).tk=1+aH (bP (fV n)).kids:=by
  show(elN cH (bP (fV n)).kids).tk=_;rw[aAL]
 rw[aAL,cF,gT,aAL,e1];omega
theorem aEX (n p:Nd)(v:Value)(w:World)(HN:Hid (aL w n v))
  (HHEAD:Hid (∀W,Below w.heap.size w W→Calls Tryz.prog 47 #[] W (bA true W)))
  (HC1:Hid (∀W,Below w.heap.size w W→Calls Tryz.prog 56 #[v] W (zW W p)))
  (HC2:Hid (p.sz≤1000→fR p≤32→∀W u,Below w.heap.size w W→Hid (aL W p u)→Calls Tryz.prog 56 #[u] W (zW W p)))
  (HHO:Hid (p.sz≤1000→fR p≤32→∀W u,Below w.heap.size w W→Hid (aL W p u)→Calls Tryz.prog 41 #[u] W (bA true W)))
  (HSA:Hid (∀W u u',Hid (aL W p u)→Hid (aL W p u')→Calls Tryz.prog 60 #[u,u'] W (bA true W))) :
  Calls Tryz.prog 17 #[v] w (bA true w):=by
 obtain⟨av,a,c,rfl,⟨aa,ca,rfl,_⟩,_,_⟩:=HN.out.get;obtain⟨W0,hW0⟩:∃W0,W0=w.alloc (.cells #[.int .i64 n.kind,.int .i64 n.space,.string n.name,.slice aa n.attrs.length ca,.string n.text,.slice a n.kids.length c] 45):=⟨_,rfl⟩
 have HB0:=hid (show Below w.heap.size w W0 by rw[hW0];exact(Below.refl _ w).alloc aQ _);have HX0:=hid (show Six W0 w.heap.size 0 (.int .i64 n.kind) (.int .i64 n.space) (.string n.name) (.slice aa n.attrs.length ca) (.string n.text) (.slice a n.kids.length c) by
  rw[hW0];exact bG w _ _ _ _ _ _)
 have HW0:=hid hW0;clear hW0;go_enter Tryz.func17,Tryz.ntmps17
 go_wp2_with fail
 rw[←HW0.out];refine(HHEAD.out W0 HB0.out).mono ?_;unfold bA;rintro e W1 ⟨rfl,B1⟩;have HB1:=dG HB0 B1;obtain⟨x0,x1,x2,x3,x4,x5⟩:=(HX0.out.below B1 aQ).zero;clear B1 HW0 HX0;go_wp2_with fail
 refine(HC1.out W1 HB1.out).mono ?_;clear x0 x1 x2 x3 x4 x5;rintro e W2 ⟨⟨_,v1,rfl,rfl⟩|⟨_,_,v1,rfl,rfl⟩|⟨hz,hd,v1,rfl,hn1⟩,B2⟩
 ·have HB2:=dG HB1 B2;clear B2;go_wp2
  go_ret;exact⟨rfl,HB2.out.alloc HB2.out.size _⟩
 ·have HB2:=dG HB1 B2;clear B2;go_wp2
  go_ret;exact⟨rfl,HB2.out.alloc HB2.out.size _⟩
 ·have HB2:=dG HB1 B2;have HN1:=hid hn1;replace HC2:=hid (HC2.out hz hd);replace HHO:=hid (HHO.out hz hd);obtain⟨av1,a1,c1,rfl,⟨aa1,ca1,rfl,_⟩,_,_⟩:=hn1.get;have HZ:=hid hz;have HD:=hid hd;clear B2 hn1 hz hd;obtain⟨W3,hW3⟩:∃W3,W3=W2.alloc (.cells #[.int .i64 p.kind,.int .i64 p.space,.string p.name,.slice aa1 p.attrs.length ca1,.string p.text,.slice a1 p.kids.length c1] 45):=⟨_,rfl⟩
  have hB3:Below W2.heap.size W2 W3:=by rw[hW3];exact(Below.refl _ _).alloc aQ _
  have hX3:=bG W2 (.int .i64 p.kind) (.int .i64 p.space) (.string p.name) (.slice aa1 p.attrs.length ca1) (.string p.text) (.slice a1 p.kids.length c1);rw[←hW3]at hX3
  have HX3:=hid hX3;have HB3:=dG HB2 hB3;have HN3:=hid (HN1.out.below hB3 aQ);have HW3:=hid hW3;clear hW3 hB3 hX3;go_upto_region 5 with fail
  rw[←HW3.out];clear HW3;obtain⟨x0,x1,x2,x3,x4,x5⟩:=HX3.out.zero;generalize W2.heap.size=b4 at *
  go_wp2_with fail
  refine(HC2.out W3 _ HB3.out HN3).mono ?_;clear x0 x1 x2 x3 x4 x5;rintro e W4 ⟨⟨h,_⟩|⟨_,h,_⟩|⟨_,_,v2,rfl,hn2⟩,B4⟩
  ·exact absurd h (by have:=HZ.out;omega)
  ·exact absurd h (by have:=HD.out;omega)
  obtain⟨av2,a2,c2,rfl,⟨aa2,ca2,rfl,_⟩,_,_⟩:=hn2.get;have HN4:=hid hn2;have HX4:=hid (HX3.out.below B4 aQ);have HM4:=hid (HN3.out.below B4 aQ);have HB4:=dG HB3 B4;clear B4 hn2 HX3 HN3;obtain⟨W5,hW5⟩:∃W5,W5=W4.alloc (.cells #[.int .i64 p.kind,.int .i64 p.space,.string p.name,.slice aa2 p.attrs.length ca2,.string p.text,.slice a2 p.kids.length c2] 45):=⟨_,rfl⟩
  have hB5:Below W4.heap.size W4 W5:=by rw[hW5];exact(Below.refl _ _).alloc aQ _
  have hX5:=bG W4 (.int .i64 p.kind) (.int .i64 p.space) (.string p.name) (.slice aa2 p.attrs.length ca2) (.string p.text) (.slice a2 p.kids.length c2);rw[←hW5]at hX5
  have HY5:=hid hX5;have HX5:=hid (HX4.out.below hB5 aQ);have HN5:=hid (HN4.out.below hB5 aQ);have HM5:=hid (HM4.out.below hB5 aQ);have HB5:=dG HB4 hB5;have HW5:=hid hW5;clear hW5 hB5 hX5 HX4 HN4 HM4;go_upto_region 6 with fail
  rw[←HW5.out];clear HW5;obtain⟨x0,x1,x2,x3,x4,x5⟩:=HX5.out.zero;generalize W4.heap.size=b6 at *
  go_wp2_with fail
  refine(HHO.out W5 _ HB5.out HM5).mono ?_;clear x0 x1 x2 x3 x4 x5;unfold bA;rintro e W6 ⟨rfl,B6⟩;have HB6:=dG HB5 B6;have HN6:=hid (HN5.out.below B6 aQ);have HM6:=hid (HM5.out.below B6 aQ);obtain⟨x0,x1,x2,x3,x4,x5⟩:=(HX5.out.below B6 aQ).zero;obtain⟨y0,y1,y2,y3,y4,y5⟩:=(HY5.out.below B6 aQ).zero;clear B6;go_wp2_with fail
  refine(HSA.out W6 _ _ HM6 HN6).mono ?_;unfold bA;rintro e W7 ⟨rfl,B7⟩;have HB7:=dG HB6 B7;clear B7 x0 x1 x2 x3 x4 x5 y0 y1 y2 y3 y4 y5;go_wp2
  go_ret;exact⟨rfl,HB7.out⟩
theorem aGC (n:Nd)(v:Value)(hb:n.bk≤1048576)(W:World)(T:aC W)(hN:aL W n v):Calls Tryz.prog 17 #[v] W (bA true W):=by
 obtain⟨VV,A,hV,hA,hO,hag⟩:=aHs W T;have hs:=aAB.1 n hb;have ht:=aLr.1 n;obtain⟨p1,p2⟩:=aMf hA hV hs (by omega);exact aEX n (fC A n) v W (hid hN)
  (hid fun V h=>aLK A (hid hO) (aMI hA) V (hid (T.below h aQ)))
  (hid fun V h=>aBZ A (hid hO) n v V (by omega) (hid (T.below h aQ)) (hid hs) (hid (hN.below h aQ)))
  (hid fun hz hd V u h hu=>by
   have:=aBZ A (hid hO) (fC A n) u V p2 (hid (T.below h aQ)) (hid p1) hu;rw[aEF VV A hA hag n hd hz]at this
   exact this)
  (hid fun hz hd V u h hu=>aIx VV (hid hV) (fC A n) (by omega) u true V (hid (T.below h aQ)) (hid p1) hu (hid ⟨fun _=>xW VV A hA hag n hd hz,fun _=>rfl⟩))
  (hid fun V u u' h h'=>aNu (fC A n).sz _ aQ u u' V (hid p1) h h')
end Go.Proofs.YtcfgbdhpcboikaaGreatDoor
