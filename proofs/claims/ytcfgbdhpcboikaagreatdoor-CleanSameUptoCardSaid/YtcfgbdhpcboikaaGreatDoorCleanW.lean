/-
clean.Clean.
-/
import Derived.Test.YtcfgbdhpcboikaaGreatDoorSameN
namespace Go.Proofs.YtcfgbdhpcboikaaGreatDoor
open Go.Lib (hid)
set_option maxHeartbeats 4000000
set_option maxRecDepth 100000
open Go.RowKit
theorem dE {n:Nat}:n≤n:=Nat.le_refl n
theorem eW {a w v:World}(h:Go.RowKit.Hid (Go.RowKit.Below a.heap.size a w))(b:Go.RowKit.Below w.heap.size w v):Go.RowKit.Hid (Go.RowKit.Below a.heap.size a v):=hid (h.out.trans (b.mono h.out.size))
theorem aGC (A:eF)(HA:Hid (mA A))(n:Nd)(v:Value)(w:World)(hb:n.tk≤7000000)(HT:Hid (aB w))(HS:Hid (SmN n))(HN:Hid (aG w n v)) :
  Calls Tryz.prog 56 #[v] w (aCY w (vD A n)):=by
 obtain⟨av,a,c,rfl,⟨aa,ca,rfl,hAA⟩,hK,hlen⟩:=HN.out.get;have HK:=hid hK;have HTI:=hid (fun(W:World) (hT:Hid (aB W)) (h:Hid (aG W n (.agg #[.int .i64 n.kind,.int .i64 n.space,.string n.name,.slice aa n.attrs.length ca,.string n.text,.slice a n.kids.length c])))=>aIc n _ W (by omega) hT h);clear hAA hK;have HEM:=hid (fun W=>(gH ⟨#[109,101,116,97]⟩ [] none 0 W (by simp) (hid (by unfold aI;trivial)):Calls Tryz.prog 103 #[.string ⟨#[109,101,116,97]⟩,.slice none 0 0] W _));obtain⟨W0,hW0⟩:∃W0,W0=(w.alloc (.cells #[.int .i64 n.kind,.int .i64 n.space,.string n.name,.slice aa n.attrs.length ca,.string n.text,.slice a n.kids.length c] 45)).alloc (.cells #[.int .i64 0,.int .i64 0,.string ⟨#[]⟩,.slice none 0 0,.string ⟨#[]⟩,.slice none 0 0] 45):=⟨_,rfl⟩
 have HB0:=hid (show Below w.heap.size w W0 by rw[hW0];exact((Below.refl _ w).alloc dE _).alloc (by simp) _);have HX0:=hid (show Six W0 w.heap.size 0 (.int .i64 n.kind) (.int .i64 n.space) (.string n.name) (.slice aa n.attrs.length ca) (.string n.text) (.slice a n.kids.length c) by
  rw[hW0];exact(aP w _ _ _ _ _ _).below ((Below.refl (w.alloc _).heap.size _).alloc dE _) dE)
 have HZ0:=hid (show W0.heap[w.heap.size+1]?=some (.cells #[.int .i64 0,.int .i64 0,.string ⟨#[]⟩,.slice none 0 0,.string ⟨#[]⟩,.slice none 0 0] 45 (0,0)) by
  have h:=heap_alloc_new (w.alloc (.cells #[.int .i64 n.kind,.int .i64 n.space,.string n.name,.slice aa n.attrs.length ca,.string n.text,.slice a n.kids.length c] 45)) (.cells #[.int .i64 0,.int .i64 0,.string ⟨#[]⟩,.slice none 0 0,.string ⟨#[]⟩,.slice none 0 0] 45);rw[←hW0]at h
  simpa using h)
 have HS0:=hid (show w.heap.size+2=W0.heap.size by rw[hW0];simp);have HW0:=hid hW0;clear hW0;go_enter Tryz.func56,Tryz.ntmps56
 go_wp2_with fail
 rw[←HW0.out];refine(HEM.out W0).mono ?_;rintro e W1 ⟨⟨v1,rfl,rfl,_⟩,B1⟩;have HB1:=hid B1;clear B1 HW0;go_wp2_with fail
 have hP3:=aDp W1;obtain⟨W3,hW3⟩:∃W3,W3=((W1.alloc (.cells #[.int .i64 1,.int .i64 0,.string ⟨#[109,101,116,97]⟩,.slice (some ⟨W1.heap.size+1,0,none⟩) 1 1,.string ⟨#[]⟩,.slice none 0 0] 45)).alloc (.cells #[.string ⟨#[99,104,97,114,115,101,116]⟩,.string ⟨#[117,116,102,45,56]⟩] 39)).alloc (.cells #[.int .i64 1,.int .i64 0,.string ⟨#[109,101,116,97]⟩,.slice (some ⟨W1.heap.size+1,0,none⟩) 1 1,.string ⟨#[]⟩,.slice none 0 0] 45):=⟨_,rfl⟩
 rw[←hW3]at hP3
 have hs3:W1.heap.size+1+1<W3.heap.size:=by rw[hW3];simp
 have HM1:=hid (show w.heap.size+2≤W1.heap.size by have h1:=HS0.out;have h2:=HB1.out.size;omega);rw[←hW3];clear hW3;have HP3:=hid hP3;have HS3:=hid hs3;have HK3:=hid ((hP3 (fun _=>False) (fun h=>h) (fun h=>h)).kidsD (by omega)).kids;have HB3:=hid (HB1.out.trans ((hP3 (fun _=>False) (fun h=>h) (fun h=>h)).bel.mono HB1.out.size));clear hP3 hs3;generalize W1.heap.size=m1 at *
 refine(gH ⟨#[104,101,97,100]⟩ [eC] (some ⟨m1+1+1,0,none⟩) 1 W3 (by simp) HK3).mono ?_;rintro e W4 ⟨⟨v4,rfl,rfl,_⟩,B4⟩;have HM:=hid (Nat.lt_of_lt_of_le HS3.out B4.size);have HP4:=hid ((HP3.out (fun g=>g=W4.heap.size∨g=w.heap.size+1) (fun h=>by have h1:=HM.out;have h2:=HM1.out;omega) (fun h=>by have h1:=HM.out;have h2:=HM1.out;omega)).keep B4);have HB4:=eW HB3 B4;clear B4 HP3 HB3 HK3 HS3;obtain⟨W5,hW5⟩:∃W5,W5=W4.alloc (.cells #[.int .i64 1,.int .i64 0,.string ⟨#[104,101,97,100]⟩,.slice none 0 0,.string ⟨#[]⟩,.slice (some ⟨m1+1+1,0,none⟩) 1 1] 45):=⟨_,rfl⟩
 have hb5:Below W4.heap.size W4 W5:=by rw[hW5];exact(Below.refl _ _).alloc dE _
 have HR5:=hid (show W5.heap[W4.heap.size]?=some (.cells #[.int .i64 1,.int .i64 0,.string ⟨#[104,101,97,100]⟩,.slice none 0 0,.string ⟨#[]⟩,.slice (some ⟨m1+1+1,0,none⟩) 1 1] 45 (0,0)) by rw[hW5];exact heap_alloc_new W4 _);have HL5:=hid (show W4.heap.size<W5.heap.size by rw[hW5];simp);have HP5:=hid (HP4.out.keep hb5);have HB5:=eW HB4 hb5;have HG5:=hid HB4.out.size;have HW5:=hid hW5;clear hW5 hb5 HP4 HB4;go_upto_region 4 with fail
 rw[←HW5.out];clear HW5;obtain⟨x0,x1,x2,x3,x4,x5⟩:=(HX0.out.below HB5.out dE).zero;generalize W4.heap.size=hb4 at *
 go_wp2_with fail
 refine(HTI.out W5 (hid (HT.out.below (HB0.out.trans (HB5.out.mono HB0.out.size)) dE)) (hid (HN.out.below (HB0.out.trans (HB5.out.mono HB0.out.size)) dE))).mono ?_;rintro e W6 ⟨rfl,B6⟩;have HR6:=hid ((B6.block hb4 HL5.out).trans HR5.out);have HP6:=hid (HP5.out.keep B6);have HB6:=eW HB5 B6;have HL6:=hid (Nat.lt_of_lt_of_le HL5.out B6.size);clear B6 HR5 HL5 HP5 HB5 HTI x0 x1 x2 x3 x4 x5;generalize htit:oS n=tit at *
 have HTIT:=hid htit;clear htit;have HTS:Hid (tit.size≤30000000):=by
  show _≤_;rw[←HTIT.out];unfold oS;have h1:=aD8 ⟨(dV (aW aX (aW dD n.kids).kids).kids).toArray⟩;have h2:=aBo (aW aX (aW dD n.kids).kids).kids;have h3:=fY n;have h4:=tN dD n.kids;have h5:=fY (aW dD n.kids);have h6:=tN aX (aW dD n.kids).kids;have h7:=fY (aW aX (aW dD n.kids).kids);have h8:(⟨(dV (aW aX (aW dD n.kids).kids).kids).toArray⟩:ByteArray).size=(dV (aW aX (aW dD n.kids).kids).kids).length:=by simp[ByteArray.size]
  omega
 obtain⟨q,hq⟩:∃q,tit.toList.isEmpty=q:=⟨_,rfl⟩
 have HTQ:=hid (show q=true↔tit=⟨#[]⟩ by
  have h0:(⟨#[]⟩:ByteArray).toList=[]:=by decide +kernel
  rw[←hq,List.isEmpty_iff];constructor
  ·intro h;by_cases e:tit=⟨#[]⟩
   ·exact e
   ·exact absurd (h.trans h0.symm) (qI e)
  ·intro h;rw[h];exact h0)
 go_upto_if 21 with fail
 clear hq;go_cut [6] (fun t wx=>t=.string tit∧∃(a:Option Addr) (c:Nat),Hid (wx.heap[hb4]?=some (.cells #[.int .i64 1,.int .i64 0,.string ⟨#[104,101,97,100]⟩,.slice none 0 0,.string ⟨#[]⟩,.slice a (bG tit).kids.length c] 45 (0,0)))∧Hid (aD (fun g=>g≠w.heap.size+1) wx a 0 (bG tit).kids)∧Hid (Below W0.heap.size W0 wx))
 case first =>
  cases q with
  | true =>
   have HE:=hid (HTQ.out.1 rfl);go_wp2
   go_meet
   case rel=>exact⟨rfl,some ⟨m1+1+1,0,none⟩,1,hid (by rw[HE.out];exact HR6.out),hid (by rw[HE.out];exact aD.keep (HP6.out.kidsD (by omega)) (w':=W6) (fun g _ hd=>⟨rfl,fun e=>hd (.inr e)⟩)),HB6⟩
  | false =>
   have HE:=hid (show(bG tit).kids=[eC,elN aX [aL tit]] by
    unfold bG;rw[if_neg (fun h=>by have:=HTQ.out.2 h;cases this)];rfl)
   obtain⟨S,hS⟩:∃S:World→Prop,∀u,S u↔(Below W0.heap.size W0 u∧u.heap[hb4]?=some (.cells #[.int .i64 1,.int .i64 0,.string ⟨#[104,101,97,100]⟩,.slice none 0 0,.string ⟨#[]⟩,.slice (some ⟨m1+1+1,0,none⟩) 1 1] 45 (0,0))):=⟨_,fun _=>Iff.rfl⟩
   have HSO:=hid (fun u (h:Below W6.heap.size W6 u)=>(hS u).2 ⟨HB6.out.trans (h.mono HB6.out.size),(h.block hb4 HL6.out).trans HR6.out⟩);have f5:∀s:WIn S,s.w.cell? ⟨hb4,5,none⟩=some (.slice (some ⟨m1+1+1,0,none⟩) 1 1):=fun s=>cell_of_row s.w hb4 5 _ 45 (0,0) ((hS _).1 s.h).2
   haveI:Nonempty (WIn S):=⟨⟨W6,HSO.out W6 (Below.refl _ _)⟩⟩
   have HSS:=hid hS;clear hS;go_upto_region 6 with fail
   have HD0:=hid (below_drewNm W6 1);refine eK 9 [([0,1,2],3),([],4),([],5),([],6),([],7)] [8] S (by kernel_rfl) (by kernel_rfl) (HSO.out _ HD0.out) ?_;generalize W6.drewN 1=V0 at *
   refine aZ (fun K' hK'=>?_);simp only[pick,pickZ,pickS,pickG];repeat (go_big_quiet_step (fail))
   refine wpQuiet_nil (hK' _ (fun Q1 hQ1=>?_));clear hK' K' f5;simp only[pick,pickZ,pickS,pickG];go_wp2_with fail
   refine hQ1 _ _ (HSO.out _ HD0.out) (aZ (fun K' hK'=>wpQuiet_nil (hK' _ (fun Q2 hQ2=>?_))));clear hK' K' hQ1 Q1;simp only[pick,pickZ,pickS,pickG];go_wp2_with fail
   have hb1:Below V0.heap.size V0 (V0.alloc (.cells #[.int .i64 2,.int .i64 0,.string ⟨#[]⟩,.slice none 0 0,.string tit,.slice none 0 0] 45)):=(Below.refl _ _).alloc dE _;have hx1:=aP V0 (.int .i64 2) (.int .i64 0) (.string ⟨#[]⟩) (.slice none 0 0) (.string tit) (.slice none 0 0);obtain⟨V1,hV1⟩:∃V1,V1=V0.alloc (.cells #[.int .i64 2,.int .i64 0,.string ⟨#[]⟩,.slice none 0 0,.string tit,.slice none 0 0] 45):=⟨_,rfl⟩
   rw[←hV1]at hb1 hx1 ⊢
   have HX1:=hid hx1;have HD1:=eW HD0 hb1;have HV0:=hid HD0.out.size;have HK1:=hid (show aI V1 (some ⟨V0.heap.size,0,none⟩) 0 [aL tit]from eO hx1 (by unfold aL aG;exact⟨_,none,0,rfl,by simp,dR _,by unfold aI;trivial⟩));clear hV1 hb1 hx1;generalize V0.heap.size=g1 at *
   refine hQ2 _ _ (HSO.out _ HD1.out) (aZ (fun K' hK'=>wpQuiet_nil (hK' _ (fun Q3 hQ3=>?_))));clear hK' K' hQ2 Q2;simp only[pick,pickZ,pickS,pickG];go_wp2_with fail
   refine(gH ⟨#[116,105,116,108,101]⟩ [aL tit] (some ⟨g1,0,none⟩) 1 V1 (by simp) HK1).mono ?_;rintro e V2 ⟨⟨v2,rfl,rfl,_⟩,B2⟩;have HX2:=hid (HX1.out.below B2 dE);have HD2:=eW HD1 B2;clear B2 HX1 HK1;go_wp2_with fail
   refine hQ3 _ _ (HSO.out _ HD2.out) (aZ (fun K' hK'=>wpQuiet_nil (hK' _ (fun Q4 hQ4=>?_))));clear hK' K' hQ3 Q3;simp only[pick,pickZ,pickS,pickG];go_wp2_with fail
   have hb3:Below V2.heap.size V2 (V2.alloc (.cells #[.int .i64 1,.int .i64 0,.string ⟨#[116,105,116,108,101]⟩,.slice none 0 0,.string ⟨#[]⟩,.slice (some ⟨g1,0,none⟩) 1 1] 45)):=(Below.refl _ _).alloc dE _;have hx3:=aP V2 (.int .i64 1) (.int .i64 0) (.string ⟨#[116,105,116,108,101]⟩) (.slice none 0 0) (.string ⟨#[]⟩) (.slice (some ⟨g1,0,none⟩) 1 1);obtain⟨V3,hV3⟩:∃V3,V3=V2.alloc (.cells #[.int .i64 1,.int .i64 0,.string ⟨#[116,105,116,108,101]⟩,.slice none 0 0,.string ⟨#[]⟩,.slice (some ⟨g1,0,none⟩) 1 1] 45):=⟨_,rfl⟩
   rw[←hV3]at hb3 hx3 ⊢
   have HD3:=eW HD2 hb3;have HKD:=hid (aAW (B:=W6.heap.size) HD2.out.size HV0.out hx3 (HX2.out.below hb3 dE));have HKE:=hid (aD.keep HKD.out (D':=fun g=>bN (.slice (some ⟨m1+1+1,0,none⟩) 1 1) g∧¬(g=hb4∨g=w.heap.size+1)) (w':=V3) (fun g hg hd=>⟨rfl,fun e=>by
    have h1:m1+1+1=g:=Option.some.inj e;have h2:=HM.out;have h3:=HL6.out;omega,by have h3:=HL6.out;have h4:=HM.out;have h5:=HM1.out;omega⟩))
   have HP3:=hid (HP6.out.keep HD3.out);have HLV:=hid (Nat.lt_of_lt_of_le HL6.out HD3.out.size);clear hV3 hb3 hx3 HX2 HKD;generalize V2.heap.size=g3 at *
   refine hQ4 _ _ (HSO.out _ HD3.out) (aZ (fun K' hK'=>wpQuiet_nil (hK' _ (fun Q5 hQ5=>?_))));clear hK' K' hQ4 Q4;simp only[pick,pickZ,pickS,pickG];go_wp2_with (at_builtin;refine nC rfl _ _ rfl (fun g hg=>by have h1:=HLV.out;have h2:=HM.out;have h3:=HM1.out;omega) _ _ _ rfl HP3 (some ⟨g3,0,none⟩) 1 1 [elN aX [aL tit]] rfl (hid rfl) HKE (by omega) ?_)
   intro v4 V4 hP4 hH4;obtain⟨a4,c4,rfl,hk4⟩:=hP4.out.slice (by omega);have HK4:=hid hk4;have HR4:=hid (hH4.out.1.trans ((HD3.out.block hb4 HL6.out).trans HR6.out));have HB4:=hid (HB1.out.trans (hP4.out.bel.mono HB1.out.size));clear hk4 hP4 hH4 HP3 HKE HD3 HLV;go_wp2_with fail
   refine hQ5 _ _ ((HSS.out _).2 ⟨HB4.out,HR4.out⟩) (fE (fun K' hK'=>?_));clear hQ5 Q5;simp only[pick,pickZ,pickS,pickG];repeat (go_big_quiet_step (fail))
   refine wpQuiet_nil (hK' _ (fun Qz hQz=>?_));clear hK' K';simp only[List.drop_succ_cons,List.drop_zero];have z5:V4.cell? ⟨hb4,5,none⟩=some (.slice (some ⟨m1+1+1,0,none⟩) 1 1):=cell_of_row V4 hb4 5 _ 45 (0,0) HR4.out;have zf:V4.frozen? ⟨hb4,5,none⟩=false:=Lib.frozen_of_heap HR4.out 5;go_wp2_with fail
   go_meet
   case rel=>exact⟨rfl,a4,c4,hid (by rw[HE.out];exact heap_setCell_same V4 hb4 5 _ 45 _ HR4.out),hid (by rw[HE.out];exact aD.keep HK4.out (fun g hg hd=>⟨heap_setCell_other _ _ g _ (fun e=>hd (.inl e)),fun e=>hd (.inr e)⟩)),hid (HB4.out.setCell (p:=⟨hb4,5,none⟩) HG5.out _)⟩
 case rest =>
  obtain⟨rfl,ah,ch,HR7,HK7,HB7⟩:=hcut;have HBW:=eW HB0 HB7.out;obtain⟨x0,x1,x2,x3,x4,x5⟩:=(HX0.out.below HB7.out dE).zero;have HKN:=hid (HK.out.below HBW.out dE);clear HR6 HP6 HB6 HL6 HTQ;generalize hks:n.kids=ks at *
  have HKS:=hid hks;clear hks;go_wp2
  clear x0 x1 x2 x3 x4 x5;go_loopw [7,34] (fun v i wx=>∃k:Nat,i=.int .i64 k∧Hid (k≤ks.length∧PSt wc wx v (cF (ks.take k)).length (cF (ks.take k)))) (fun _ i _=>ks.length-(intOf i).toNat)
  case atStart=>exact⟨0,rfl,hid ⟨Nat.zero_le _,PSt.nil (Below.refl _ _)⟩⟩
  case round =>
   obtain⟨k,rfl,hR⟩:=hrel;have hk:=hR.out.1;have HBR:=hid hR.out.2.bel;rcases Nat.lt_or_ge k ks.length with hlt|hge
   ·obtain⟨g,off,c0,c1,c2,c3,c4,c5,rfl,h6,hn⟩:=HKN.out.get ks 0 k hlt;rw[Nat.zero_add]at h6
    obtain⟨x0,x1,x2,x3,x4,x5⟩:=h6.below HBR.out dE;obtain⟨p1,q1,p2,q2,rfl,rfl,rfl,rfl,rfl,rfl⟩:=hn.cells;have HKQ:=hid hn.partsV.2;have HST:=hid (aFl ks k hlt);have hbl:=aC9 ks (k+1);have hbl0:=aC9 ks k;have hbn:bI ks≤7000000:=by have h1:=fY n;rw[HKS.out]at h1;omega
    clear hn h6;generalize ks[k]=q at *
    obtain⟨V,hV⟩:∃V,V=wr.alloc (.cells #[.int .i64 q.kind,.int .i64 q.space,.string q.name,.slice p1 q.attrs.length q1,.string q.text,.slice p2 q.kids.length q2] 45):=⟨_,rfl⟩
    have hbV:Below wr.heap.size wr V:=by rw[hV];exact(Below.refl _ wr).alloc dE _
    have hQ:=aP wr (.int .i64 q.kind) (.int .i64 q.space) (.string q.name) (.slice p1 q.attrs.length q1) (.string q.text) (.slice p2 q.kids.length q2);rw[←hV]at hQ
    have HV:=hid hV;have HPV:=hid (hR.out.2.keep hbV);clear hbV hV;go_upto_region 11 with fail
    rw[←HV.out];clear x0 x1 x2 x3 x4 x5;obtain⟨x0,x1,x2,x3,x4,x5⟩:=hQ.zero;clear hQ HV;by_cases hnb:oM bT q
    ·obtain⟨h1,h2,h3⟩:=hnb;have e1:(q.kind==1)=true:=by rw[h1];rfl
     have e2:(q.space==0)=true:=by rw[h2];rfl
     have e3:(q.name.toList==[98,111,100,121])=true:=by rw[h3];decide +kernel
     have hst2:=HST.out;rw[if_pos ⟨h1,h2,h3⟩]at hst2
     rw[hst2,List.length_append]at hbl
     have HS2:=hid hst2;clear hst2 h1 h2 h3;go_wp2_with (at_builtin;refine wM rfl _ _ rfl _ _ _ rfl HPV p2 q.kids.length q2 q.kids rfl (hid rfl) (hid (Src.old HPV.out HKQ.out)) (by omega) ?_)
     intro v5 V5 hP hG;have HP5:=hid (show PSt wc V5 v5 (cF (ks.take (k+1))).length (cF (ks.take (k+1))) by rw[HS2.out,List.length_append];exact hP.out);clear hP hG;go_wp2
     go_roundw
     case rel=>exact⟨k+1,by go_num,hid ⟨hlt,HP5.out⟩⟩
     case measure=>simp[intOf];omega
    ·have HP5:=hid (show PSt wc V _ (cF (ks.take (k+1))).length (cF (ks.take (k+1))) by rw[HST.out,if_neg hnb,List.append_nil];exact HPV.out);by_cases h1:q.kind=1
     ·have e1:(q.kind==1)=true:=by rw[h1];rfl
      by_cases h2:q.space=0
      ·have e2:(q.space==0)=true:=by rw[h2];rfl
       have e3:(q.name.toList==[98,111,100,121])=false:=by
        rw[beq_eq_false_iff_ne];intro h;exact hnb ⟨h1,h2,gU (by rw[←toList_data,h];rfl)⟩
       clear h1 h2 hnb;go_wp2
       go_roundw
       case rel=>exact⟨k+1,by go_num,hid ⟨hlt,HP5.out⟩⟩
       case measure=>simp[intOf];omega
      ·have e2:(q.space==0)=false:=by rw[beq_eq_false_iff_ne];exact h2
       clear h2 hnb;go_wp2
       go_roundw
       case rel=>exact⟨k+1,by go_num,hid ⟨hlt,HP5.out⟩⟩
       case measure=>simp[intOf];omega
     ·have e1:(q.kind==1)=false:=by rw[beq_eq_false_iff_ne];exact h1
      clear h1 hnb;go_wp2
      go_roundw
      case rel=>exact⟨k+1,by go_num,hid ⟨hlt,HP5.out⟩⟩
      case measure=>simp[intOf];omega
   ·have hBK:cF (ks.take k)=cF ks:=by rw[List.take_of_length_le hge]
    obtain⟨a7,c7,rfl,_,hk7,_⟩:=hR.out.2.slice;have hk7':=hk7.kids;rw[hBK]at hk7'
    rw[hBK];have HK7b:=hid hk7';have HR8:=hid ((HBR.out.block hb4 (by
     have:=HR7.out;rcases Nat.lt_or_ge hb4 wc.heap.size with h|h
     ·exact h
     ·rw[Array.getElem?_eq_none h]at this
      cases this)).trans HR7.out)
    have HK8:=hid (aD.keep HK7.out (D':=(fun g=>g≠w.heap.size+1)) (w':=wr) (fun g hg hd=>⟨HBR.out.block g hg,hd⟩));have HB8:=eW HB7 HBR.out;clear hk7 hk7' hBK hR HBR HR7 HK7 HB7;obtain⟨x0,x1,x2,x3,x4,x5⟩:=(show Six wr hb4 0 _ _ _ _ _ _ from⟨cell_of_row wr hb4 0 _ 45 (0,0) HR8.out,cell_of_row wr hb4 1 _ 45 (0,0) HR8.out,cell_of_row wr hb4 2 _ 45 (0,0) HR8.out,cell_of_row wr hb4 3 _ 45 (0,0) HR8.out,cell_of_row wr hb4 4 _ 45 (0,0) HR8.out,cell_of_row wr hb4 5 _ 45 (0,0) HR8.out⟩).zero;have HHL:=hid (show(bG tit).kids.length≤140737488355328 by have:=(wY tit (by have:=HTS.out;omega)).2.2;omega);have hbn:bI ks≤7000000:=by have h1:=fY n;rw[HKS.out]at h1;omega
    have HSMB:=hid (aKt ks (by have:=HS.out.get.2.2.2.2;rw[HKS.out]at this;exact this));have HFT:=hid (HT.out.below (HB0.out.trans (HB8.out.mono HB0.out.size)) dE);have HFIL:=hid (fun W (h:Below wr.heap.size wr W)=>show Calls Tryz.prog 50 #[.string ⟨#[98,111,100,121]⟩,.slice a7 (cF ks).length c7] W (oH W (bM A bT [] (cF ks)))from xR A HA (cF ks) bT W a7 c7 (hid (HFT.out.below h dE)) (hid HSMB.out.1) (by have:=HSMB.out.2;omega) (hid (HK7b.out.below h dE)));have HRL:=hid (show(bM A bT [] (cF ks)).length≤1000000000 by have h1:=aFv A bT [] (l:=cF ks) (by have:=HSMB.out.2;omega);omega);have HRZ:=hid (show aC (bM A bT [] (cF ks))≤7000000 by have h1:=aGU A bT [] (cF ks);have h2:=aCX.2 (cF ks);have h3:=HSMB.out.2;omega);have HCP:Hid (vD A n=elN jU [bG tit,elN bT (bM A bT [] (cF ks))]):=by
     show _=_;unfold vD;rw[HTIT.out,HKS.out]
    have HRB:=hid (show w.heap.size+1<wr.heap.size by have h1:=HS0.out;have h2:=HB8.out.size;omega);clear hbn HSMB HFT HK7b;generalize bM A bT [] (cF ks)=R at *
    go_upto_region 14 with fail
    go_cut [10] (fun p wx=>∃(bx gk:Nat),p=.pointer (some ⟨bx,0,none⟩)∧Hid (wx.heap[bx]?=some (.cells #[.int .i64 1,.int .i64 0,.string ⟨#[104,116,109,108]⟩,.slice none 0 0,.string ⟨#[]⟩,.slice (some ⟨gk,0,none⟩) 2 2] 45 (0,0)))∧Hid (aD (fun g=>g≠w.heap.size+1) wx (some ⟨gk,0,none⟩) 0 [bG tit,elN bT R])∧Hid (Below wr.heap.size wr wx))
    case first =>
     obtain⟨i45,hi45,hz45,hs45,hb45⟩:=info_parts Tryz.info45;obtain⟨S,hS⟩:∃S:World→Prop,∀u,S u↔Below wr.heap.size wr u:=⟨_,fun _=>Iff.rfl⟩
     have HX8:=hid (show Six wr hb4 0 (.int .i64 1) (.int .i64 0) (.string ⟨#[104,101,97,100]⟩) (.slice none 0 0) (.string ⟨#[]⟩) (.slice ah (bG tit).kids.length ch)from⟨x0,x1,x2,x3,x4,x5⟩);clear x0 x1 x2 x3 x4 x5;have f0:∀s:WIn S,s.w.cell? ⟨hb4,0,none⟩=some (.int .i64 1):=fun s=>(HX8.out.below ((hS _).1 s.h) dE).x0
     have f1:∀s:WIn S,s.w.cell? ⟨hb4,1,none⟩=some (.int .i64 0):=fun s=>(HX8.out.below ((hS _).1 s.h) dE).x1
     have f2:∀s:WIn S,s.w.cell? ⟨hb4,2,none⟩=some (.string ⟨#[104,101,97,100]⟩):=fun s=>(HX8.out.below ((hS _).1 s.h) dE).x2
     have f3:∀s:WIn S,s.w.cell? ⟨hb4,3,none⟩=some (.slice none 0 0):=fun s=>(HX8.out.below ((hS _).1 s.h) dE).x3
     have f4:∀s:WIn S,s.w.cell? ⟨hb4,4,none⟩=some (.string ⟨#[]⟩):=fun s=>(HX8.out.below ((hS _).1 s.h) dE).x4
     have f5:∀s:WIn S,s.w.cell? ⟨hb4,5,none⟩=some (.slice ah (bG tit).kids.length ch):=fun s=>(HX8.out.below ((hS _).1 s.h) dE).x5
     haveI:Nonempty (WIn S):=⟨⟨wr,(hS _).2 (Below.refl _ _)⟩⟩
     have HSS:=hid hS;clear hS;have HD0:=hid (below_drewNm wr 1);have HKH0:=hid (aD.keep HK8.out (D':=(fun g=>g≠w.heap.size+1)) (w':=wr.drewN 1) (fun g hg hd=>⟨HD0.out.block g hg,hd⟩));refine qN 7 (.two [0,1] 2 (.two [] 3 (.two [] 4 (.two [] 5 (.one [] 6 (.fin [])) 6 (.one [] 5 (.fin []))) 6 (.one [] 4 (.one [] 5 (.fin [])))) 6 (.one [] 3 (.one [] 4 (.one [] 5 (.fin []))))) 6 (.one [] 2 (.one [] 3 (.one [] 4 (.one [] 5 (.fin [])))))) S (by kernel_rfl) (by kernel_rfl) ((HSS.out _).2 HD0.out) ?_;generalize wr.drewN 1=V0 at *
     refine fJ (fun K' hK'=>?_);simp only[pick,pickZ,pickS,pickG];repeat (go_big_quiet_step (fail))
     clear f0 f1 f2 f3 f4 f5;refine wpQuiet_nil (hK' _ ?_ ?_)
     ·clear hK' K';intro Q1 hQ1;simp only[pick,pickZ,pickS,pickG];go_wp2_with fail
      refine(HFIL.out V0 HD0.out).mono ?_;rintro e V1 ⟨ar,cr,rfl,_,hrk,hB⟩;have HKR1:=hid (aD.keep hrk (D':=(fun g=>g≠w.heap.size+1)) (w':=V1) (fun g hg hd=>⟨rfl,by have h1:=HD0.out.size;have h2:=HRB.out;omega⟩));have HKH1:=hid (aD.keep HKH0.out (D':=(fun g=>g≠w.heap.size+1)) (w':=V1) (fun g hg hd=>⟨hB.block g hg,hd⟩));have HD1:=eW HD0 hB;clear hrk hB;go_wp2_with fail
      refine hQ1 _ _ ((HSS.out _).2 HD1.out) (fJ (fun K' hK'=>wpQuiet_nil (hK' _ ?_ ?_)))
      ·clear hK' K';intro Q2 hQ2;simp only[pick,pickZ,pickS,pickG];go_wp2_with fail
       refine(gH ⟨#[98,111,100,121]⟩ R ar cr V1 HRL.out (hid HKR1.out.kids)).mono ?_;rintro e V2 ⟨⟨_,rfl,rfl,_⟩,hB⟩;have HKH2:=hid (aD.keep HKH1.out (D':=(fun g=>g≠w.heap.size+1)) (w':=V2) (fun g hg hd=>⟨hB.block g hg,hd⟩));have HKR2:=hid (aD.keep HKR1.out (D':=(fun g=>g≠w.heap.size+1)) (w':=V2) (fun g hg hd=>⟨hB.block g hg,hd⟩));have HD2:=eW HD1 hB;clear hB;go_wp2_with fail
       refine hQ2 _ _ ((HSS.out _).2 HD2.out) (fJ (fun K' hK'=>wpQuiet_nil (hK' _ ?_ ?_)))
       ·clear hK' K';intro Q3 hQ3;simp only[pick,pickZ,pickS,pickG];go_wp2_with fail
        obtain⟨s1,s2⟩:=fM V2 (.int .i64 1) (.int .i64 0) (.string ⟨#[104,101,97,100]⟩) (.slice none 0 0) (.string ⟨#[]⟩) (.slice ah (bG tit).kids.length ch) (.int .i64 1) (.int .i64 0) (.string ⟨#[98,111,100,121]⟩) (.slice none 0 0) (.string ⟨#[]⟩) (.slice ar R.length cr);obtain⟨V3,hV⟩:∃V3,V3=V2.alloc (.cells #[.int .i64 1,.int .i64 0,.string ⟨#[104,101,97,100]⟩,.slice none 0 0,.string ⟨#[]⟩,.slice ah (bG tit).kids.length ch,.int .i64 1,.int .i64 0,.string ⟨#[98,111,100,121]⟩,.slice none 0 0,.string ⟨#[]⟩,.slice ar R.length cr] 45):=⟨_,rfl⟩
        have hB:Below V2.heap.size V2 V3:=by rw[hV];exact(Below.refl _ _).alloc dE _
        rw[←hV]at s1 s2 ⊢
        have HKH3:=hid (aD.keep HKH2.out (D':=(fun g=>g≠w.heap.size+1)) (w':=V3) (fun g hg hd=>⟨hB.block g hg,hd⟩));have HKR3:=hid (aD.keep HKR2.out (D':=(fun g=>g≠w.heap.size+1)) (w':=V3) (fun g hg hd=>⟨hB.block g hg,hd⟩));have HKP3:=hid (kJ (D:=(fun g=>g≠w.heap.size+1)) (show V2.heap.size≠w.heap.size+1 by have h1:=HD2.out.size;have h2:=HRB.out;omega) HHL.out (by have:=HRL.out;omega) s1 s2 HKH3.out HKR3.out);have HD3:=eW HD2 hB;clear s1 s2 hV hB HKH3 HKR3;refine hQ3 _ _ ((HSS.out _).2 HD3.out) (fJ (fun K' hK'=>wpQuiet_nil (hK' _ ?_ ?_)))
        ·clear hK' K';intro Q4 hQ4;simp only[pick,pickZ,pickS,pickG];go_wp2_with fail
         refine(gH ⟨#[104,116,109,108]⟩ [bG tit,elN bT R] (some ⟨V2.heap.size,0,none⟩) 2 V3 (by simp) (hid HKP3.out.kids)).mono ?_;rintro e V4 ⟨⟨_,rfl,rfl,_⟩,hB⟩;have HKP4:=hid (aD.keep HKP3.out (D':=(fun g=>g≠w.heap.size+1)) (w':=V4) (fun g hg hd=>⟨hB.block g hg,hd⟩));have HD4:=eW HD3 hB;clear hB;go_wp2_with fail
         refine hQ4 _ _ ((HSS.out _).2 HD4.out) (bB (fun K' hK'=>wpQuiet_nil (hK' _ ?_)));clear hK' K';intro Q5 hQ5;simp only[pick,pickZ,pickS,pickG];go_wp2_with fail
         obtain⟨V5,hV⟩:∃V5,V5=V4.alloc (.cells #[.int .i64 0,.int .i64 0,.string ⟨#[]⟩,.slice none 0 0,.string ⟨#[]⟩,.slice none 0 0] 45):=⟨_,rfl⟩
         have hB:Below V4.heap.size V4 V5:=by rw[hV];exact(Below.refl _ _).alloc dE _
         have HROW5:=hid (show V5.heap[V4.heap.size]?=some (.cells #[.int .i64 0,.int .i64 0,.string ⟨#[]⟩,.slice none 0 0,.string ⟨#[]⟩,.slice none 0 0] 45 (0,0)) by rw[hV];exact heap_alloc_new V4 _);have HBX5:=hid (show V4.heap.size<V5.heap.size by rw[hV];simp);rw[←hV];have HKP5:=hid (aD.keep HKP4.out (D':=(fun g=>g≠w.heap.size+1∧g≠V4.heap.size)) (w':=V5) (fun g hg hd=>⟨hB.block g hg,⟨hd,Nat.ne_of_lt hg⟩⟩));have HD5:=eW HD4 hB;clear hV hB;refine hQ5 _ _ ((HSS.out _).2 HD5.out) (cQ (fun K' hK'=>wpQuiet_nil (hK' _ (fun Qz hQz=>?_))));clear hK' K' hQ5 Q5;simp only[List.drop_succ_cons,List.drop_zero];refine wpList_store_row (by rfl) 45 (.tmp 10) (.tmp 61) rfl V4.heap.size #[.int .i64 1,.int .i64 0,.string ⟨#[104,116,109,108]⟩,.slice none 0 0,.string ⟨#[]⟩,.slice (some ⟨V2.heap.size,0,none⟩) 2 2] rfl rfl 45 _ HROW5.out (by rw[hi45];simp[hs45]) rfl (by simp[Value.oneCell']) ?_;go_wp2_with fail
         go_meet
         case rel=>exact⟨_,_,rfl,hid (setRow_heap V5 V4.heap.size _ _ 45 (0,0) HROW5.out),hid (aD.keep HKP5.out (D':=(fun g=>g≠w.heap.size+1)) (fun g hg hd=>⟨setRow_other V5 V4.heap.size g _ hd.2,hd.1⟩)),hid (cD HD5.out _ (by exact HD4.out.size) _)⟩
        ·clear hK' K';intro Q4 hQ4;simp only[pick,pickZ,pickS,pickG];go_wp2_with fail
         obtain⟨V4,hV⟩:∃V4,V4=V3.alloc (.cells #[.int .i64 0,.int .i64 0,.string ⟨#[]⟩,.slice none 0 0,.string ⟨#[]⟩,.slice none 0 0] 45):=⟨_,rfl⟩
         have hB:Below V3.heap.size V3 V4:=by rw[hV];exact(Below.refl _ _).alloc dE _
         have HROW4:=hid (show V4.heap[V3.heap.size]?=some (.cells #[.int .i64 0,.int .i64 0,.string ⟨#[]⟩,.slice none 0 0,.string ⟨#[]⟩,.slice none 0 0] 45 (0,0)) by rw[hV];exact heap_alloc_new V3 _);have HBX4:=hid (show V3.heap.size<V4.heap.size by rw[hV];simp);rw[←hV];have HKP4:=hid (aD.keep HKP3.out (D':=(fun g=>g≠w.heap.size+1∧g≠V3.heap.size)) (w':=V4) (fun g hg hd=>⟨hB.block g hg,⟨hd,Nat.ne_of_lt hg⟩⟩));have HD4:=eW HD3 hB;clear hV hB;refine hQ4 _ _ ((HSS.out _).2 HD4.out) (bB (fun K' hK'=>wpQuiet_nil (hK' _ ?_)));clear hK' K';intro Q5 hQ5;simp only[pick,pickZ,pickS,pickG];go_wp2_with fail
         refine(gH ⟨#[104,116,109,108]⟩ [bG tit,elN bT R] (some ⟨V2.heap.size,0,none⟩) 2 V4 (by simp) (hid HKP4.out.kids)).mono ?_;rintro e V5 ⟨⟨_,rfl,rfl,_⟩,hB⟩;have HKP5:=hid (aD.keep HKP4.out (D':=(fun g=>g≠w.heap.size+1∧g≠V3.heap.size)) (w':=V5) (fun g hg hd=>⟨hB.block g hg,hd⟩));have HROW5:=hid ((hB.block V3.heap.size HBX4.out).trans HROW4.out);have HBX5:=hid (Nat.lt_of_lt_of_le HBX4.out hB.size);have HD5:=eW HD4 hB;clear hB;go_wp2_with fail
         refine hQ5 _ _ ((HSS.out _).2 HD5.out) (cQ (fun K' hK'=>wpQuiet_nil (hK' _ (fun Qz hQz=>?_))));clear hK' K' hQ5 Q5;simp only[List.drop_succ_cons,List.drop_zero];refine wpList_store_row (by rfl) 45 (.tmp 10) (.tmp 61) rfl V3.heap.size #[.int .i64 1,.int .i64 0,.string ⟨#[104,116,109,108]⟩,.slice none 0 0,.string ⟨#[]⟩,.slice (some ⟨V2.heap.size,0,none⟩) 2 2] rfl rfl 45 _ HROW5.out (by rw[hi45];simp[hs45]) rfl (by simp[Value.oneCell']) ?_;go_wp2_with fail
         go_meet
         case rel=>exact⟨_,_,rfl,hid (setRow_heap V5 V3.heap.size _ _ 45 (0,0) HROW5.out),hid (aD.keep HKP5.out (D':=(fun g=>g≠w.heap.size+1)) (fun g hg hd=>⟨setRow_other V5 V3.heap.size g _ hd.2,hd.1⟩)),hid (cD HD5.out _ (by exact HD3.out.size) _)⟩
       ·clear hK' K';intro Q3 hQ3;simp only[pick,pickZ,pickS,pickG];go_wp2_with fail
        obtain⟨V3,hV⟩:∃V3,V3=V2.alloc (.cells #[.int .i64 0,.int .i64 0,.string ⟨#[]⟩,.slice none 0 0,.string ⟨#[]⟩,.slice none 0 0] 45):=⟨_,rfl⟩
        have hB:Below V2.heap.size V2 V3:=by rw[hV];exact(Below.refl _ _).alloc dE _
        have HROW3:=hid (show V3.heap[V2.heap.size]?=some (.cells #[.int .i64 0,.int .i64 0,.string ⟨#[]⟩,.slice none 0 0,.string ⟨#[]⟩,.slice none 0 0] 45 (0,0)) by rw[hV];exact heap_alloc_new V2 _);have HBX3:=hid (show V2.heap.size<V3.heap.size by rw[hV];simp);rw[←hV];have HKH3:=hid (aD.keep HKH2.out (D':=(fun g=>g≠w.heap.size+1∧g≠V2.heap.size)) (w':=V3) (fun g hg hd=>⟨hB.block g hg,⟨hd,Nat.ne_of_lt hg⟩⟩));have HKR3:=hid (aD.keep HKR2.out (D':=(fun g=>g≠w.heap.size+1∧g≠V2.heap.size)) (w':=V3) (fun g hg hd=>⟨hB.block g hg,⟨hd,Nat.ne_of_lt hg⟩⟩));have HD3:=eW HD2 hB;clear hV hB;refine hQ3 _ _ ((HSS.out _).2 HD3.out) (bB (fun K' hK'=>wpQuiet_nil (hK' _ ?_)));clear hK' K';intro Q4 hQ4;simp only[pick,pickZ,pickS,pickG];go_wp2_with fail
        obtain⟨s1,s2⟩:=fM V3 (.int .i64 1) (.int .i64 0) (.string ⟨#[104,101,97,100]⟩) (.slice none 0 0) (.string ⟨#[]⟩) (.slice ah (bG tit).kids.length ch) (.int .i64 1) (.int .i64 0) (.string ⟨#[98,111,100,121]⟩) (.slice none 0 0) (.string ⟨#[]⟩) (.slice ar R.length cr);obtain⟨V4,hV⟩:∃V4,V4=V3.alloc (.cells #[.int .i64 1,.int .i64 0,.string ⟨#[104,101,97,100]⟩,.slice none 0 0,.string ⟨#[]⟩,.slice ah (bG tit).kids.length ch,.int .i64 1,.int .i64 0,.string ⟨#[98,111,100,121]⟩,.slice none 0 0,.string ⟨#[]⟩,.slice ar R.length cr] 45):=⟨_,rfl⟩
        have hB:Below V3.heap.size V3 V4:=by rw[hV];exact(Below.refl _ _).alloc dE _
        rw[←hV]at s1 s2 ⊢
        have HKH4:=hid (aD.keep HKH3.out (D':=(fun g=>g≠w.heap.size+1∧g≠V2.heap.size)) (w':=V4) (fun g hg hd=>⟨hB.block g hg,hd⟩));have HKR4:=hid (aD.keep HKR3.out (D':=(fun g=>g≠w.heap.size+1∧g≠V2.heap.size)) (w':=V4) (fun g hg hd=>⟨hB.block g hg,hd⟩));have HKP4:=hid (kJ (D:=(fun g=>g≠w.heap.size+1∧g≠V2.heap.size)) ⟨show V3.heap.size≠w.heap.size+1 by have h1:=HD3.out.size;have h2:=HRB.out;omega,show V3.heap.size≠V2.heap.size by have h1:=HBX3.out;omega⟩ HHL.out (by have:=HRL.out;omega) s1 s2 HKH4.out HKR4.out);have HROW4:=hid ((hB.block V2.heap.size HBX3.out).trans HROW3.out);have HBX4:=hid (Nat.lt_of_lt_of_le HBX3.out hB.size);have HD4:=eW HD3 hB;clear s1 s2 hV hB HKH4 HKR4;refine hQ4 _ _ ((HSS.out _).2 HD4.out) (bB (fun K' hK'=>wpQuiet_nil (hK' _ ?_)));clear hK' K';intro Q5 hQ5;simp only[pick,pickZ,pickS,pickG];go_wp2_with fail
        refine(gH ⟨#[104,116,109,108]⟩ [bG tit,elN bT R] (some ⟨V3.heap.size,0,none⟩) 2 V4 (by simp) (hid HKP4.out.kids)).mono ?_;rintro e V5 ⟨⟨_,rfl,rfl,_⟩,hB⟩;have HKP5:=hid (aD.keep HKP4.out (D':=(fun g=>g≠w.heap.size+1∧g≠V2.heap.size)) (w':=V5) (fun g hg hd=>⟨hB.block g hg,hd⟩));have HROW5:=hid ((hB.block V2.heap.size HBX4.out).trans HROW4.out);have HBX5:=hid (Nat.lt_of_lt_of_le HBX4.out hB.size);have HD5:=eW HD4 hB;clear hB;go_wp2_with fail
        refine hQ5 _ _ ((HSS.out _).2 HD5.out) (cQ (fun K' hK'=>wpQuiet_nil (hK' _ (fun Qz hQz=>?_))));clear hK' K' hQ5 Q5;simp only[List.drop_succ_cons,List.drop_zero];refine wpList_store_row (by rfl) 45 (.tmp 10) (.tmp 61) rfl V2.heap.size #[.int .i64 1,.int .i64 0,.string ⟨#[104,116,109,108]⟩,.slice none 0 0,.string ⟨#[]⟩,.slice (some ⟨V3.heap.size,0,none⟩) 2 2] rfl rfl 45 _ HROW5.out (by rw[hi45];simp[hs45]) rfl (by simp[Value.oneCell']) ?_;go_wp2_with fail
        go_meet
        case rel=>exact⟨_,_,rfl,hid (setRow_heap V5 V2.heap.size _ _ 45 (0,0) HROW5.out),hid (aD.keep HKP5.out (D':=(fun g=>g≠w.heap.size+1)) (fun g hg hd=>⟨setRow_other V5 V2.heap.size g _ hd.2,hd.1⟩)),hid (cD HD5.out _ (by exact HD2.out.size) _)⟩
      ·clear hK' K';intro Q2 hQ2;simp only[pick,pickZ,pickS,pickG];go_wp2_with fail
       obtain⟨V2,hV⟩:∃V2,V2=V1.alloc (.cells #[.int .i64 0,.int .i64 0,.string ⟨#[]⟩,.slice none 0 0,.string ⟨#[]⟩,.slice none 0 0] 45):=⟨_,rfl⟩
       have hB:Below V1.heap.size V1 V2:=by rw[hV];exact(Below.refl _ _).alloc dE _
       have HROW2:=hid (show V2.heap[V1.heap.size]?=some (.cells #[.int .i64 0,.int .i64 0,.string ⟨#[]⟩,.slice none 0 0,.string ⟨#[]⟩,.slice none 0 0] 45 (0,0)) by rw[hV];exact heap_alloc_new V1 _);have HBX2:=hid (show V1.heap.size<V2.heap.size by rw[hV];simp);rw[←hV];have HKH2:=hid (aD.keep HKH1.out (D':=(fun g=>g≠w.heap.size+1∧g≠V1.heap.size)) (w':=V2) (fun g hg hd=>⟨hB.block g hg,⟨hd,Nat.ne_of_lt hg⟩⟩));have HKR2:=hid (aD.keep HKR1.out (D':=(fun g=>g≠w.heap.size+1∧g≠V1.heap.size)) (w':=V2) (fun g hg hd=>⟨hB.block g hg,⟨hd,Nat.ne_of_lt hg⟩⟩));have HD2:=eW HD1 hB;clear hV hB;refine hQ2 _ _ ((HSS.out _).2 HD2.out) (bB (fun K' hK'=>wpQuiet_nil (hK' _ ?_)));clear hK' K';intro Q3 hQ3;simp only[pick,pickZ,pickS,pickG];go_wp2_with fail
       refine(gH ⟨#[98,111,100,121]⟩ R ar cr V2 HRL.out (hid HKR2.out.kids)).mono ?_;rintro e V3 ⟨⟨_,rfl,rfl,_⟩,hB⟩;have HKH3:=hid (aD.keep HKH2.out (D':=(fun g=>g≠w.heap.size+1∧g≠V1.heap.size)) (w':=V3) (fun g hg hd=>⟨hB.block g hg,hd⟩));have HKR3:=hid (aD.keep HKR2.out (D':=(fun g=>g≠w.heap.size+1∧g≠V1.heap.size)) (w':=V3) (fun g hg hd=>⟨hB.block g hg,hd⟩));have HROW3:=hid ((hB.block V1.heap.size HBX2.out).trans HROW2.out);have HBX3:=hid (Nat.lt_of_lt_of_le HBX2.out hB.size);have HD3:=eW HD2 hB;clear hB;go_wp2_with fail
       refine hQ3 _ _ ((HSS.out _).2 HD3.out) (bB (fun K' hK'=>wpQuiet_nil (hK' _ ?_)));clear hK' K';intro Q4 hQ4;simp only[pick,pickZ,pickS,pickG];go_wp2_with fail
       obtain⟨s1,s2⟩:=fM V3 (.int .i64 1) (.int .i64 0) (.string ⟨#[104,101,97,100]⟩) (.slice none 0 0) (.string ⟨#[]⟩) (.slice ah (bG tit).kids.length ch) (.int .i64 1) (.int .i64 0) (.string ⟨#[98,111,100,121]⟩) (.slice none 0 0) (.string ⟨#[]⟩) (.slice ar R.length cr);obtain⟨V4,hV⟩:∃V4,V4=V3.alloc (.cells #[.int .i64 1,.int .i64 0,.string ⟨#[104,101,97,100]⟩,.slice none 0 0,.string ⟨#[]⟩,.slice ah (bG tit).kids.length ch,.int .i64 1,.int .i64 0,.string ⟨#[98,111,100,121]⟩,.slice none 0 0,.string ⟨#[]⟩,.slice ar R.length cr] 45):=⟨_,rfl⟩
       have hB:Below V3.heap.size V3 V4:=by rw[hV];exact(Below.refl _ _).alloc dE _
       rw[←hV]at s1 s2 ⊢
       have HKH4:=hid (aD.keep HKH3.out (D':=(fun g=>g≠w.heap.size+1∧g≠V1.heap.size)) (w':=V4) (fun g hg hd=>⟨hB.block g hg,hd⟩));have HKR4:=hid (aD.keep HKR3.out (D':=(fun g=>g≠w.heap.size+1∧g≠V1.heap.size)) (w':=V4) (fun g hg hd=>⟨hB.block g hg,hd⟩));have HKP4:=hid (kJ (D:=(fun g=>g≠w.heap.size+1∧g≠V1.heap.size)) ⟨show V3.heap.size≠w.heap.size+1 by have h1:=HD3.out.size;have h2:=HRB.out;omega,show V3.heap.size≠V1.heap.size by have h1:=HBX3.out;omega⟩ HHL.out (by have:=HRL.out;omega) s1 s2 HKH4.out HKR4.out);have HROW4:=hid ((hB.block V1.heap.size HBX3.out).trans HROW3.out);have HBX4:=hid (Nat.lt_of_lt_of_le HBX3.out hB.size);have HD4:=eW HD3 hB;clear s1 s2 hV hB HKH4 HKR4;refine hQ4 _ _ ((HSS.out _).2 HD4.out) (bB (fun K' hK'=>wpQuiet_nil (hK' _ ?_)));clear hK' K';intro Q5 hQ5;simp only[pick,pickZ,pickS,pickG];go_wp2_with fail
       refine(gH ⟨#[104,116,109,108]⟩ [bG tit,elN bT R] (some ⟨V3.heap.size,0,none⟩) 2 V4 (by simp) (hid HKP4.out.kids)).mono ?_;rintro e V5 ⟨⟨_,rfl,rfl,_⟩,hB⟩;have HKP5:=hid (aD.keep HKP4.out (D':=(fun g=>g≠w.heap.size+1∧g≠V1.heap.size)) (w':=V5) (fun g hg hd=>⟨hB.block g hg,hd⟩));have HROW5:=hid ((hB.block V1.heap.size HBX4.out).trans HROW4.out);have HBX5:=hid (Nat.lt_of_lt_of_le HBX4.out hB.size);have HD5:=eW HD4 hB;clear hB;go_wp2_with fail
       refine hQ5 _ _ ((HSS.out _).2 HD5.out) (cQ (fun K' hK'=>wpQuiet_nil (hK' _ (fun Qz hQz=>?_))));clear hK' K' hQ5 Q5;simp only[List.drop_succ_cons,List.drop_zero];refine wpList_store_row (by rfl) 45 (.tmp 10) (.tmp 61) rfl V1.heap.size #[.int .i64 1,.int .i64 0,.string ⟨#[104,116,109,108]⟩,.slice none 0 0,.string ⟨#[]⟩,.slice (some ⟨V3.heap.size,0,none⟩) 2 2] rfl rfl 45 _ HROW5.out (by rw[hi45];simp[hs45]) rfl (by simp[Value.oneCell']) ?_;go_wp2_with fail
       go_meet
       case rel=>exact⟨_,_,rfl,hid (setRow_heap V5 V1.heap.size _ _ 45 (0,0) HROW5.out),hid (aD.keep HKP5.out (D':=(fun g=>g≠w.heap.size+1)) (fun g hg hd=>⟨setRow_other V5 V1.heap.size g _ hd.2,hd.1⟩)),hid (cD HD5.out _ (by exact HD1.out.size) _)⟩
     ·clear hK' K';intro Q1 hQ1;simp only[pick,pickZ,pickS,pickG];go_wp2_with fail
      obtain⟨V1,hV⟩:∃V1,V1=V0.alloc (.cells #[.int .i64 0,.int .i64 0,.string ⟨#[]⟩,.slice none 0 0,.string ⟨#[]⟩,.slice none 0 0] 45):=⟨_,rfl⟩
      have hB:Below V0.heap.size V0 V1:=by rw[hV];exact(Below.refl _ _).alloc dE _
      have HROW1:=hid (show V1.heap[V0.heap.size]?=some (.cells #[.int .i64 0,.int .i64 0,.string ⟨#[]⟩,.slice none 0 0,.string ⟨#[]⟩,.slice none 0 0] 45 (0,0)) by rw[hV];exact heap_alloc_new V0 _);have HBX1:=hid (show V0.heap.size<V1.heap.size by rw[hV];simp);rw[←hV];have HKH1:=hid (aD.keep HKH0.out (D':=(fun g=>g≠w.heap.size+1∧g≠V0.heap.size)) (w':=V1) (fun g hg hd=>⟨hB.block g hg,⟨hd,Nat.ne_of_lt hg⟩⟩));have HD1:=eW HD0 hB;clear hV hB;refine hQ1 _ _ ((HSS.out _).2 HD1.out) (bB (fun K' hK'=>wpQuiet_nil (hK' _ ?_)));clear hK' K';intro Q2 hQ2;simp only[pick,pickZ,pickS,pickG];go_wp2_with fail
      refine(HFIL.out V1 HD1.out).mono ?_;rintro e V2 ⟨ar,cr,rfl,_,hrk,hB⟩;have HKR2:=hid (aD.keep hrk (D':=(fun g=>g≠w.heap.size+1∧g≠V0.heap.size)) (w':=V2) (fun g hg hd=>⟨rfl,⟨by have h1:=HD1.out.size;have h2:=HRB.out;omega,by have h1:=HBX1.out;omega⟩⟩));have HKH2:=hid (aD.keep HKH1.out (D':=(fun g=>g≠w.heap.size+1∧g≠V0.heap.size)) (w':=V2) (fun g hg hd=>⟨hB.block g hg,hd⟩));have HROW2:=hid ((hB.block V0.heap.size HBX1.out).trans HROW1.out);have HBX2:=hid (Nat.lt_of_lt_of_le HBX1.out hB.size);have HD2:=eW HD1 hB;clear hrk hB;go_wp2_with fail
      refine hQ2 _ _ ((HSS.out _).2 HD2.out) (bB (fun K' hK'=>wpQuiet_nil (hK' _ ?_)));clear hK' K';intro Q3 hQ3;simp only[pick,pickZ,pickS,pickG];go_wp2_with fail
      refine(gH ⟨#[98,111,100,121]⟩ R ar cr V2 HRL.out (hid HKR2.out.kids)).mono ?_;rintro e V3 ⟨⟨_,rfl,rfl,_⟩,hB⟩;have HKH3:=hid (aD.keep HKH2.out (D':=(fun g=>g≠w.heap.size+1∧g≠V0.heap.size)) (w':=V3) (fun g hg hd=>⟨hB.block g hg,hd⟩));have HKR3:=hid (aD.keep HKR2.out (D':=(fun g=>g≠w.heap.size+1∧g≠V0.heap.size)) (w':=V3) (fun g hg hd=>⟨hB.block g hg,hd⟩));have HROW3:=hid ((hB.block V0.heap.size HBX2.out).trans HROW2.out);have HBX3:=hid (Nat.lt_of_lt_of_le HBX2.out hB.size);have HD3:=eW HD2 hB;clear hB;go_wp2_with fail
      refine hQ3 _ _ ((HSS.out _).2 HD3.out) (bB (fun K' hK'=>wpQuiet_nil (hK' _ ?_)));clear hK' K';intro Q4 hQ4;simp only[pick,pickZ,pickS,pickG];go_wp2_with fail
      obtain⟨s1,s2⟩:=fM V3 (.int .i64 1) (.int .i64 0) (.string ⟨#[104,101,97,100]⟩) (.slice none 0 0) (.string ⟨#[]⟩) (.slice ah (bG tit).kids.length ch) (.int .i64 1) (.int .i64 0) (.string ⟨#[98,111,100,121]⟩) (.slice none 0 0) (.string ⟨#[]⟩) (.slice ar R.length cr);obtain⟨V4,hV⟩:∃V4,V4=V3.alloc (.cells #[.int .i64 1,.int .i64 0,.string ⟨#[104,101,97,100]⟩,.slice none 0 0,.string ⟨#[]⟩,.slice ah (bG tit).kids.length ch,.int .i64 1,.int .i64 0,.string ⟨#[98,111,100,121]⟩,.slice none 0 0,.string ⟨#[]⟩,.slice ar R.length cr] 45):=⟨_,rfl⟩
      have hB:Below V3.heap.size V3 V4:=by rw[hV];exact(Below.refl _ _).alloc dE _
      rw[←hV]at s1 s2 ⊢
      have HKH4:=hid (aD.keep HKH3.out (D':=(fun g=>g≠w.heap.size+1∧g≠V0.heap.size)) (w':=V4) (fun g hg hd=>⟨hB.block g hg,hd⟩));have HKR4:=hid (aD.keep HKR3.out (D':=(fun g=>g≠w.heap.size+1∧g≠V0.heap.size)) (w':=V4) (fun g hg hd=>⟨hB.block g hg,hd⟩));have HKP4:=hid (kJ (D:=(fun g=>g≠w.heap.size+1∧g≠V0.heap.size)) ⟨show V3.heap.size≠w.heap.size+1 by have h1:=HD3.out.size;have h2:=HRB.out;omega,show V3.heap.size≠V0.heap.size by have h1:=HBX3.out;omega⟩ HHL.out (by have:=HRL.out;omega) s1 s2 HKH4.out HKR4.out);have HROW4:=hid ((hB.block V0.heap.size HBX3.out).trans HROW3.out);have HBX4:=hid (Nat.lt_of_lt_of_le HBX3.out hB.size);have HD4:=eW HD3 hB;clear s1 s2 hV hB HKH4 HKR4;refine hQ4 _ _ ((HSS.out _).2 HD4.out) (bB (fun K' hK'=>wpQuiet_nil (hK' _ ?_)));clear hK' K';intro Q5 hQ5;simp only[pick,pickZ,pickS,pickG];go_wp2_with fail
      refine(gH ⟨#[104,116,109,108]⟩ [bG tit,elN bT R] (some ⟨V3.heap.size,0,none⟩) 2 V4 (by simp) (hid HKP4.out.kids)).mono ?_;rintro e V5 ⟨⟨_,rfl,rfl,_⟩,hB⟩;have HKP5:=hid (aD.keep HKP4.out (D':=(fun g=>g≠w.heap.size+1∧g≠V0.heap.size)) (w':=V5) (fun g hg hd=>⟨hB.block g hg,hd⟩));have HROW5:=hid ((hB.block V0.heap.size HBX4.out).trans HROW4.out);have HBX5:=hid (Nat.lt_of_lt_of_le HBX4.out hB.size);have HD5:=eW HD4 hB;clear hB;go_wp2_with fail
      refine hQ5 _ _ ((HSS.out _).2 HD5.out) (cQ (fun K' hK'=>wpQuiet_nil (hK' _ (fun Qz hQz=>?_))));clear hK' K' hQ5 Q5;simp only[List.drop_succ_cons,List.drop_zero];refine wpList_store_row (by rfl) 45 (.tmp 10) (.tmp 61) rfl V0.heap.size #[.int .i64 1,.int .i64 0,.string ⟨#[104,116,109,108]⟩,.slice none 0 0,.string ⟨#[]⟩,.slice (some ⟨V3.heap.size,0,none⟩) 2 2] rfl rfl 45 _ HROW5.out (by rw[hi45];simp[hs45]) rfl (by simp[Value.oneCell']) ?_;go_wp2_with fail
      go_meet
      case rel=>exact⟨_,_,rfl,hid (setRow_heap V5 V0.heap.size _ _ 45 (0,0) HROW5.out),hid (aD.keep HKP5.out (D':=(fun g=>g≠w.heap.size+1)) (fun g hg hd=>⟨setRow_other V5 V0.heap.size g _ hd.2,hd.1⟩)),hid (cD HD5.out _ (by exact HD0.out.size) _)⟩
    case rest =>
     obtain⟨i45,hi45,hz45,hs45,hb45⟩:=info_parts Tryz.info45;obtain⟨bx,gk,rfl,HRX,HKX,HBX⟩:=hcut;rename World=>Wc
     have HBC:=eW HB8 HBX.out;have HZC:=hid ((HBC.out.block (w.heap.size+1) (by have:=HS0.out;omega)).trans HZ0.out);obtain⟨P,hP⟩:∃P,P=elN jU [bG tit,elN bT R]:=⟨_,rfl⟩
     have HNP:=hid (show aG Wc P (.agg #[.int .i64 1,.int .i64 0,.string ⟨#[104,116,109,108]⟩,.slice none 0 0,.string ⟨#[]⟩,.slice (some ⟨gk,0,none⟩) 2 2]) by
      rw[hP];unfold elN aG;exact⟨_,_,2,rfl,by simp,dR _,HKX.out.kids⟩)
     have hsz:P.sz≤1000000000:=by
      have h1:=wY tit (by have:=HTS.out;omega);have h2:=aCX.2 (bG tit).kids;have h3:=HRZ.out;have h4:=HTS.out;have e:P.sz=1+((1+aC (bG tit).kids)+(1+aC R)):=by
       rw[hP,cJ];show 1+aC [bG tit,elN bT R]=_;rw[dX,dX,iA,cJ,cJ];rfl
      omega
     have HPP:=hid hP;rw[←hP]at HCP
     have HX9:=hid (show Six Wc bx 0 (.int .i64 1) (.int .i64 0) (.string ⟨#[104,116,109,108]⟩) (.slice none 0 0) (.string ⟨#[]⟩) (.slice (some ⟨gk,0,none⟩) 2 2)from⟨cell_of_row Wc bx 0 _ 45 (0,0) HRX.out,cell_of_row Wc bx 1 _ 45 (0,0) HRX.out,cell_of_row Wc bx 2 _ 45 (0,0) HRX.out,cell_of_row Wc bx 3 _ 45 (0,0) HRX.out,cell_of_row Wc bx 4 _ 45 (0,0) HRX.out,cell_of_row Wc bx 5 _ 45 (0,0) HRX.out⟩);have HCT:=hid (aGE P.sz P dE _ Wc hsz HNP);have HDT:=hid (fun(W:World) (h:Below Wc.heap.size Wc W)=>aGI P.sz P dE _ W hsz (hid (HNP.out.below h dE)));clear hP HRL HRZ HHL HFIL HRB HRX x0 x1 x2 x3 x4 x5;obtain⟨x0,x1,x2,x3,x4,x5⟩:=HX9.out.zero;generalize hz:P.sz=z at *
     generalize hd:gQ P=d at *
     have HPZ:=hid hz;have HPD:=hid hd;clear hz hd;go_wp2_with fail
     refine HCT.out.mono ?_;rintro e Wd ⟨rfl,Bd⟩;have HBd:=hid Bd;clear Bd HCT x0 x1 x2 x3 x4 x5;have HLB:=hid (show w.heap.size+1<Wc.heap.size by have h1:=HS0.out;have h2:=HBC.out.size;omega);have HZD:=hid ((HBd.out.block (w.heap.size+1) HLB.out).trans HZC.out);have HBD:=hid (HB0.out.trans ((HBC.out.trans (HBd.out.mono HBC.out.size)).mono HB0.out.size));rcases Nat.lt_or_ge 1000 z with hz|hz
     ·have HZ1:=hid hz;go_wp2_with (refine wpList_store_row (by rfl) 45 (.tmp 2) (.tmp 66) rfl (w.heap.size+1) #[.int .i64 0,.int .i64 0,.string ⟨#[]⟩,.slice none 0 0,.string ⟨#[]⟩,.slice none 0 0] rfl rfl 45 _ HZD.out (by rw[hi45];simp[hs45]) rfl (by simp[Value.oneCell']) ?_)
      refine bodyPost_ret (mS rfl _ _ (w.heap.size+1) _ _ _ _ _ _ (.int .i64 43) rfl rfl (setRow_heap Wd (w.heap.size+1) _ _ 45 (0,0) HZD.out)) rfl ?_;rw[HCP.out];exact⟨.inl ⟨by rw[HPZ.out];exact HZ1.out,_,rfl,rfl⟩,cD HBD.out (w.heap.size+1) (Nat.le_succ _) _⟩
     ·have HZ1:=hid hz;obtain⟨x0,x1,x2,x3,x4,x5⟩:=(HX9.out.below HBd.out dE).zero;go_wp2_with fail
      refine(HDT.out Wd HBd.out).mono ?_;rintro e We ⟨rfl,Be⟩;have HBe:=eW HBd Be;have HBE:=eW HBD Be;have HZE:=hid ((HBe.out.block (w.heap.size+1) HLB.out).trans HZC.out);clear Be hz x0 x1 x2 x3 x4 x5;rcases Nat.lt_or_ge 32 d with hd|hd
      ·have HD1:=hid hd;go_wp2_with (refine wpList_store_row (by rfl) 45 (.tmp 2) (.tmp 71) rfl (w.heap.size+1) #[.int .i64 0,.int .i64 0,.string ⟨#[]⟩,.slice none 0 0,.string ⟨#[]⟩,.slice none 0 0] rfl rfl 45 _ HZE.out (by rw[hi45];simp[hs45]) rfl (by simp[Value.oneCell']) ?_)
       refine bodyPost_ret (mS rfl _ _ (w.heap.size+1) _ _ _ _ _ _ (.int .i64 44) rfl rfl (setRow_heap We (w.heap.size+1) _ _ 45 (0,0) HZE.out)) rfl ?_;rw[HCP.out];exact⟨.inr (.inl ⟨by rw[HPZ.out];exact HZ1.out,by rw[HPD.out];exact HD1.out,_,rfl,rfl⟩),cD HBE.out (w.heap.size+1) (Nat.le_succ _) _⟩
      ·have HD1:=hid hd;obtain⟨x0,x1,x2,x3,x4,x5⟩:=(HX9.out.below HBe.out dE).zero;go_wp2_with (refine wpList_store_row (by rfl) 45 (.tmp 2) (.tmp 72) rfl (w.heap.size+1) #[.int .i64 1,.int .i64 0,.string ⟨#[104,116,109,108]⟩,.slice none 0 0,.string ⟨#[]⟩,.slice (some ⟨gk,0,none⟩) 2 2] rfl rfl 45 _ HZE.out (by rw[hi45];simp[hs45]) rfl (by simp[Value.oneCell']) ?_)
       refine bodyPost_ret (mS rfl _ _ (w.heap.size+1) _ _ _ _ _ _ (.int .i64 0) rfl rfl (setRow_heap We (w.heap.size+1) _ _ 45 (0,0) HZE.out)) rfl ?_;rw[HCP.out];refine⟨.inr (.inr ⟨by rw[HPZ.out];exact HZ1.out,by rw[HPD.out];exact HD1.out,_,rfl,?_⟩),cD HBE.out (w.heap.size+1) (Nat.le_succ _) _⟩;rw[HPP.out];unfold elN aG;exact⟨_,_,2,rfl,by simp,dR _,(aD.keep HKX.out (D':=fun _=>True) (w':=We.setRow (w.heap.size+1) _) (fun g hg hd=>⟨(setRow_other We (w.heap.size+1) g _ hd).trans (HBe.out.block g hg),trivial⟩)).kids⟩
