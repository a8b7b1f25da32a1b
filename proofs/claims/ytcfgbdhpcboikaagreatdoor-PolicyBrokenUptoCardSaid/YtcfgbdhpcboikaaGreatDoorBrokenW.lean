/-
  PolicyBroken: the walk, over the contracts of what it calls.
-/
import Derived.Test.YtcfgbdhpcboikaaGreatDoorPageW
import Derived.Test.YtcfgbdhpcboikaaGreatDoorBrkB
import Derived.Test.YtcfgbdhpcboikaaGreatDoorBrkN
import Derived.Test.YtcfgbdhpcboikaaGreatDoorTabs
namespace Go.Proofs.YtcfgbdhpcboikaaGreatDoor
set_option maxHeartbeats 4000000
set_option maxRecDepth 100000
open Go.RowKit
theorem below_drw9 (w:World):Below w.heap.size w (w.drewN 1):=below_drw w 1
theorem six_setRow (w:World)(g:Nat)(old:Array Value)(hg:w.heap[g]?=some (.cells old 45 (0,0)))(c0 c1 c2 c3 c4 c5:Value):Six (w.setRow g #[c0,c1,c2,c3,c4,c5]) g 0 c0 c1 c2 c3 c4 c5:=by
 have h:∀ j,_:=fun j=>cell_of_row _ g j _ 45 (0,0) (setRow_heap w g old #[c0,c1,c2,c3,c4,c5] 45 (0,0) hg)
 exact⟨h 0,h 1,h 2,h 3,h 4,h 5⟩
theorem below_setRow {B:Nat}{a w:World}(h:Below B a w)(g:Nat)(hg:B≤g)(cs:Array Value):Below B a (w.setRow g cs) :=
 { os:=h.os,tape:=h.tape,output:=h.output,size:=by rw[setRow_size];exact h.size,block:=fun k hk=>by rw[setRow_other w g k cs (by omega)];exact h.block k hk }
theorem twelve_box (w:World)(c0 c1 c2 c3 c4 c5 d0 d1 d2 d3 d4 d5:Value):Six (w.alloc (.cells #[c0,c1,c2,c3,c4,c5,d0,d1,d2,d3,d4,d5] 45)) w.heap.size 0 c0 c1 c2 c3 c4 c5∧Six (w.alloc (.cells #[c0,c1,c2,c3,c4,c5,d0,d1,d2,d3,d4,d5] 45)) w.heap.size 6 d0 d1 d2 d3 d4 d5∧Below w.heap.size w (w.alloc (.cells #[c0,c1,c2,c3,c4,c5,d0,d1,d2,d3,d4,d5] 45)):=by
 have h:∀ j,_:=fun j=>cell_of_row _ w.heap.size j _ 45 (0,0) (heap_alloc_new w (.cells #[c0,c1,c2,c3,c4,c5,d0,d1,d2,d3,d4,d5] 45))
 exact⟨⟨h 0,h 1,h 2,h 3,h 4,h 5⟩,⟨h 6,h 7,h 8,h 9,h 10,h 11⟩,(Below.refl _ w).alloc (Nat.le_refl _) _⟩
theorem six_box (w:World)(c0 c1 c2 c3 c4 c5:Value):Six (w.alloc (.cells #[c0,c1,c2,c3,c4,c5] 45)) w.heap.size 0 c0 c1 c2 c3 c4 c5∧Below w.heap.size w (w.alloc (.cells #[c0,c1,c2,c3,c4,c5] 45)):=by
 have h:∀ j,_:=fun j=>cell_of_row _ w.heap.size j _ 45 (0,0) (heap_alloc_new w (.cells #[c0,c1,c2,c3,c4,c5] 45))
 exact⟨⟨h 0,h 1,h 2,h 3,h 4,h 5⟩,(Below.refl _ w).alloc (Nat.le_refl _) _⟩
theorem broken_walk (ks:List Nd)(a:Option Addr)(c:Nat)(D J:Int)(d j:Nat)(HO:Nd→Bool)(w:World)(hkl:ks.length≤1048576)(hj:j<8)(hd:d≤16)(hJ:bits .and .i64 J 7=(j:Int))(hD:bits .and .i64 D 15=(d:Int))(hz:szAll ks≤600000)
  (HT:Hid (Tabs w)) (HK:Hid (KidsV w a 0 ks))
  (HS:Hid (Calls Tryz.prog 23 #[] w (SomeBool true w)))
  (ok:Nd→Prop) (ok0:Hid (ok (pageOf ks))) (ok1:Hid (ok (htmlNd [headNd,brokenN (badNd j) d (bodyNd ks)]))) (ok2:Hid (ok (htmlNd [headNd,tBody ⟨#[116,105,116,108,101]⟩ ⟨#[120]⟩ ks]))) (ok3:Hid (ok (htmlNd [headNd,bodyNd ks,badNd j])))
  (no1:Hid (HO (htmlNd [headNd,brokenN (badNd j) d (bodyNd ks)])=false)) (no2:Hid (HO (htmlNd [headNd,tBody ⟨#[116,105,116,108,101]⟩ ⟨#[120]⟩ ks])=false)) (no3:Hid (HO (htmlNd [headNd,bodyNd ks,badNd j])=false))
  (SN:Hid (∀ v v' W,NodeV W (pageOf ks) v→NodeV W (pageOf ks) v'→Calls Tryz.prog 43 #[v,v'] W (SomeBool true W)))
  (HH:Hid (∀ n v W,ok n→Tabs W→NodeV W n v→Calls Tryz.prog 41 #[v] W (SomeBool (HO n) W))) :
  Calls Tryz.prog 9 #[.slice a ks.length c,.int .i64 D,.int .i64 J] w (SomeBool true w):=by
 go_enter Tryz.func9,Tryz.ntmps9
 go_wp2_with fail
 refine HS.out.mono ?_
 unfold SomeBool
 rintro x W1 ⟨rfl,B1⟩
 have HB1:=Lib.hid B1
 clear B1
 go_wp2_with fail
 refine(page_any a ks.length c W1).mono ?_
 rintro x W2 ⟨gh,gm,ga,rfl,hP,B2,_,_⟩
 have HB2:=Lib.hid (HB1.out.trans (B2.mono HB1.out.size))
 have HPN:=Lib.hid (page_nodeA hP (by omega) (HK.out.below HB2.out (Nat.le_refl _)))
 have HP:=Lib.hid hP
 clear B2 hP
 unfold elV at *
 go_upto_region 3 with fail
 obtain⟨hx3,hb3⟩:=six_box W2 (.int .i64 1) (.int .i64 0) (.string sHtml) (.slice none 0 0) (.string ⟨#[]⟩) (.slice (some ⟨gh,0,none⟩) 2 2)
 obtain⟨W3,hW3⟩:∃ W3,W3=W2.alloc (.cells #[.int .i64 1,.int .i64 0,.string sHtml,.slice none 0 0,.string ⟨#[]⟩,.slice (some ⟨gh,0,none⟩) 2 2] 45):=⟨_,rfl⟩
 rw[← hW3] at hx3 hb3 ⊢
 obtain⟨b8,hb8⟩:∃ b8,b8=W2.heap.size:=⟨_,rfl⟩
 rw[← hb8] at hx3 ⊢
 have HX8:=Lib.hid hx3
 have HB3:=Lib.hid (HB2.out.trans (hb3.mono HB2.out.size))
 have HP3:=Lib.hid (HP.out.below hb3 (Nat.le_refl _))
 have HPN3:=Lib.hid (HPN.out.below hb3 (Nat.le_refl _))
 clear hx3 hb3 hW3 hb8 HP HPN HB2 HB1
 obtain⟨q0,q1,q2,q3,q4,q5⟩:=HX8.out.zero
 go_wp2_with fail
 refine(HH.out _ _ W3 ok0.out (HT.out.below HB3.out (Nat.le_refl _)) HPN3.out).mono ?_
 unfold SomeBool
 rintro x W4 ⟨rfl,B4⟩
 have HX4:=Lib.hid (HX8.out.below B4 (Nat.le_refl _))
 have HB4:=Lib.hid (HB3.out.trans (B4.mono HB3.out.size))
 have HP4:=Lib.hid (HP3.out.below B4 (Nat.le_refl _))
 have HPN4:=Lib.hid (HPN3.out.below B4 (Nat.le_refl _))
 clear B4 HP3 HPN3 HB3 HX8 q0 q1 q2 q3 q4 q5
 obtain⟨r,hr⟩:∃ r,HO (pageOf ks)=r:=⟨_,rfl⟩
 rw[hr]
 have HR:=Lib.hid hr
 clear hr
 cases r with
 | false =>
  go_wp2
  go_ret
  exact⟨rfl,HB4.out⟩
 | true =>
  go_upto_region 6 with fail
  show Code.wp Tryz.prog _ _ _ (badWorld W4)
  obtain⟨e1,e2,e3,e4,h6,hbn⟩:=bad_row W4 j hj
  have hb5:=bad_below W4
  generalize badWorld W4=W5 at *
  generalize badNd j=bd at *
  have HX5:=Lib.hid (HX4.out.below hb5 (Nat.le_refl _))
  have HB5:=Lib.hid (HB4.out.trans (hb5.mono HB4.out.size))
  have HP5:=Lib.hid (HP4.out.below hb5 (Nat.le_refl _))
  have HPN5:=Lib.hid (HPN4.out.below hb5 (Nat.le_refl _))
  have HBN5:=Lib.hid hbn
  clear hb5 hbn HX4 HB4 HP4 HPN4
  obtain⟨y0,y1,y2,y3,y4,y5⟩:=h6
  go_upto_region 7 with fail
  obtain⟨hx6,hb6⟩:=six_box W5 (.int .i64 bd.kind) (.int .i64 bd.space) (.string bd.name) (.slice e1 bd.attrs.length e2) (.string bd.text) (.slice e3 bd.kids.length e4)
  obtain⟨W6,hW6⟩:∃ W6,W6=W5.alloc (.cells #[.int .i64 bd.kind,.int .i64 bd.space,.string bd.name,.slice e1 bd.attrs.length e2,.string bd.text,.slice e3 bd.kids.length e4] 45):=⟨_,rfl⟩
  rw[← hW6] at hx6 hb6 ⊢
  obtain⟨b10,hb10⟩:∃ b10,b10=W5.heap.size:=⟨_,rfl⟩
  rw[← hb10] at hx6 ⊢
  have HX10:=Lib.hid hx6
  have HX8:=Lib.hid (HX5.out.below hb6 (Nat.le_refl _))
  have HB6:=Lib.hid (HB5.out.trans (hb6.mono HB5.out.size))
  have HP6:=Lib.hid (HP5.out.below hb6 (Nat.le_refl _))
  have HPN6:=Lib.hid (HPN5.out.below hb6 (Nat.le_refl _))
  have HBN6:=Lib.hid (HBN5.out.below hb6 (Nat.le_refl _))
  have HKV6:=Lib.hid (HK.out.below HB6.out (Nat.le_refl _))
  clear hx6 hb6 hW6 hb10 HX5 HB5 HP5 HPN5 HBN5 y0 y1 y2 y3 y4 y5 hJ
  obtain⟨i45,hi45,hz45,hs45,hb45⟩:=info_parts Tryz.info45
  go_cut [11] (fun p11 wx=>∃ b11,p11=.pointer (some ⟨b11,0,none⟩)∧Hid (NodeAt wx b11 0 (brokenN bd d (bodyNd ks)))∧Hid (Below W6.heap.size W6 wx))
  case first =>
   obtain⟨S,hS⟩:∃ S:World→Prop,∀ u,S u↔Below W6.heap.size W6 u:=⟨_,fun _=>Iff.rfl⟩
   have x5:∀ s:WIn S,s.w.cell? ⟨b8,5,none⟩=some (.slice (some ⟨gh,0,none⟩) 2 2):=fun s=>(HX8.out.below ((hS _).1 s.h) (Nat.le_refl _)).x5
   have f0:∀ s:WIn S,s.w.cell? ⟨gh,6,none⟩=some (.int .i64 1):=fun s=>(HP6.out.bd.below ((hS _).1 s.h) (Nat.le_refl _)).x0
   have f1:∀ s:WIn S,s.w.cell? ⟨gh,7,none⟩=some (.int .i64 0):=fun s=>(HP6.out.bd.below ((hS _).1 s.h) (Nat.le_refl _)).x1
   have f2:∀ s:WIn S,s.w.cell? ⟨gh,8,none⟩=some (.string sBody):=fun s=>(HP6.out.bd.below ((hS _).1 s.h) (Nat.le_refl _)).x2
   have f3:∀ s:WIn S,s.w.cell? ⟨gh,9,none⟩=some (.slice none 0 0):=fun s=>(HP6.out.bd.below ((hS _).1 s.h) (Nat.le_refl _)).x3
   have f4:∀ s:WIn S,s.w.cell? ⟨gh,10,none⟩=some (.string ⟨#[]⟩):=fun s=>(HP6.out.bd.below ((hS _).1 s.h) (Nat.le_refl _)).x4
   have f5:∀ s:WIn S,s.w.cell? ⟨gh,11,none⟩=some (.slice a ks.length c):=fun s=>(HP6.out.bd.below ((hS _).1 s.h) (Nat.le_refl _)).x5
   have g0:∀ s:WIn S,s.w.cell? ⟨b10,0,none⟩=some (.int .i64 bd.kind):=fun s=>(HX10.out.below ((hS _).1 s.h) (Nat.le_refl _)).x0
   have g1:∀ s:WIn S,s.w.cell? ⟨b10,1,none⟩=some (.int .i64 bd.space):=fun s=>(HX10.out.below ((hS _).1 s.h) (Nat.le_refl _)).x1
   have g2:∀ s:WIn S,s.w.cell? ⟨b10,2,none⟩=some (.string bd.name):=fun s=>(HX10.out.below ((hS _).1 s.h) (Nat.le_refl _)).x2
   have g3:∀ s:WIn S,s.w.cell? ⟨b10,3,none⟩=some (.slice e1 bd.attrs.length e2):=fun s=>(HX10.out.below ((hS _).1 s.h) (Nat.le_refl _)).x3
   have g4:∀ s:WIn S,s.w.cell? ⟨b10,4,none⟩=some (.string bd.text):=fun s=>(HX10.out.below ((hS _).1 s.h) (Nat.le_refl _)).x4
   have g5:∀ s:WIn S,s.w.cell? ⟨b10,5,none⟩=some (.slice e3 bd.kids.length e4):=fun s=>(HX10.out.below ((hS _).1 s.h) (Nat.le_refl _)).x5
   haveI:Nonempty (WIn S):=⟨⟨W6,(hS _).2 (Below.refl _ _)⟩⟩
   have HSS:=Lib.hid hS
   clear hS
   go_wp2_with fail
   refine region_forks 9 (.two [0,1,2,3,4,5,6] 7 (.one [] 8 (.fin [])) 8 (.one [] 7 (.fin []))) S (by kernel_rfl) (by kernel_rfl) ((HSS.out _).2 (below_drw9 W6)) ?_
   refine segT_two (fun K' hK'=>?_)
   simp only[pick,List.getElem?_cons_zero,List.getElem?_cons_succ,Option.getD_some]
   repeat (go_big_quiet_step (fail))
   clear x5 f0 f1 f2 f3 f4 f5 g0 g1 g2 g3 g4 g5
   have hbody:=body_node (w:=W6) (ks:=ks) (a:=a) (c:=c) (by omega) HKV6.out
   have HBODY:=Lib.hid hbody
   have HSZB:=Lib.hid (show(bodyNd ks).sz≤1000000 by have:(bodyNd ks).sz=1+szAll ks:=rfl;omega)
   clear hbody
   refine wpQuiet_nil (hK' _ ?_ ?_)
   ·intro Q1 hQ1
    clear hK' K'
    simp only[pick,List.getElem?_cons_zero,List.getElem?_cons_succ,Option.getD_some]
    go_wp2_with fail
    have hBd:=below_drw9 W6
    refine(brk_any bd (W6.drewN 1).heap.size d hd (bodyNd ks) _ _ (W6.drewN 1) (Nat.le_refl _) HSZB (Lib.hid (HBODY.out.below hBd (Nat.le_refl _)).deep) (Lib.hid (HBN6.out.below hBd (Nat.le_refl _)).deep)).mono ?_
    rintro x W7 ⟨v7,rfl,hn7,B7⟩
    generalize brokenN bd d (bodyNd ks)=m at *
    obtain⟨m1,m2,m3,m4,rfl⟩:=hn7.cells
    have HN7:=Lib.hid hn7.node
    have HB7:=Lib.hid (hBd.trans (B7.mono hBd.size))
    clear hBd B7 hn7
    go_wp2_with fail
    refine hQ1 _ _ ((HSS.out _).2 HB7.out) (segT_one (fun K' hK'=>wpQuiet_nil (hK' _ ?_)))
    clear hK' K' hQ1 Q1
    intro Q2 hQ2
    simp only[pick,List.getElem?_cons_zero,List.getElem?_cons_succ,Option.getD_some]
    go_wp2_with fail
    have hal:Below W7.heap.size W7 (W7.alloc (.cells #[.int .i64 0,.int .i64 0,.string ⟨#[]⟩,.slice none 0 0,.string ⟨#[]⟩,.slice none 0 0] 45)):=(Below.refl W7.heap.size W7).alloc (Nat.le_refl _) _
    have hrow:=heap_alloc_new W7 (.cells #[.int .i64 0,.int .i64 0,.string ⟨#[]⟩,.slice none 0 0,.string ⟨#[]⟩,.slice none 0 0] 45)
    obtain⟨W8,hW8⟩:∃ W8,W8=W7.alloc (.cells #[.int .i64 0,.int .i64 0,.string ⟨#[]⟩,.slice none 0 0,.string ⟨#[]⟩,.slice none 0 0] 45):=⟨_,rfl⟩
    rw[← hW8] at hal hrow ⊢
    have HAL:=Lib.hid hal
    have HROW:=Lib.hid hrow
    clear hal hrow hW8
    have HB8:=Lib.hid (HB7.out.trans (HAL.out.mono HB7.out.size))
    refine hQ2 _ _ ((HSS.out _).2 HB8.out) (segT_fin (fun K' hK'=>wpQuiet_nil (hK' _ (fun Q5 hQ5=>?_))))
    clear hK' K' hQ2 Q2
    simp only[List.drop_succ_cons,List.drop_zero]
    refine wpList_store_row (by rfl) 45 (.tmp 11) (.tmp 50) rfl W7.heap.size #[.int .i64 m.kind,.int .i64 m.space,.string m.name,.slice m1 m.attrs.length m2,.string m.text,.slice m3 m.kids.length m4] rfl rfl 45 _ HROW.out (by rw[hi45];simp[hs45]) rfl (by simp[Value.oneCell']) ?_
    go_wp2_with fail
    go_meet
    case rel=>exact⟨W7.heap.size,rfl,Lib.hid ⟨m1,m2,m3,m4,six_setRow W8 W7.heap.size _ HROW.out (.int .i64 m.kind) (.int .i64 m.space) (.string m.name) (.slice m1 m.attrs.length m2) (.string m.text) (.slice m3 m.kids.length m4),HN7.out.below (below_setRow HAL.out _ (Nat.le_refl _) _) (Nat.le_refl _)⟩,Lib.hid (below_setRow HB8.out _ HB7.out.size _)⟩
   ·intro Q1 hQ1
    clear hK' K'
    simp only[pick,List.getElem?_cons_zero,List.getElem?_cons_succ,Option.getD_some]
    go_wp2_with fail
    have hBd:Below W6.heap.size W6 ((W6.drewN 1).alloc (.cells #[.int .i64 0,.int .i64 0,.string ⟨#[]⟩,.slice none 0 0,.string ⟨#[]⟩,.slice none 0 0] 45)):=(below_drw9 W6).alloc (Nat.le_refl _) _
    have hrow:((W6.drewN 1).alloc (.cells #[.int .i64 0,.int .i64 0,.string ⟨#[]⟩,.slice none 0 0,.string ⟨#[]⟩,.slice none 0 0] 45)).heap[W6.heap.size]?=some (.cells #[.int .i64 0,.int .i64 0,.string ⟨#[]⟩,.slice none 0 0,.string ⟨#[]⟩,.slice none 0 0] 45 (0,0)):=heap_alloc_new (W6.drewN 1) (.cells #[.int .i64 0,.int .i64 0,.string ⟨#[]⟩,.slice none 0 0,.string ⟨#[]⟩,.slice none 0 0] 45)
    have hlt:W6.heap.size<((W6.drewN 1).alloc (.cells #[.int .i64 0,.int .i64 0,.string ⟨#[]⟩,.slice none 0 0,.string ⟨#[]⟩,.slice none 0 0] 45)).heap.size:=by simp[World.drewN]
    obtain⟨Wa,hWa⟩:∃ Wa,Wa=(W6.drewN 1).alloc (.cells #[.int .i64 0,.int .i64 0,.string ⟨#[]⟩,.slice none 0 0,.string ⟨#[]⟩,.slice none 0 0] 45):=⟨_,rfl⟩
    rw[← hWa] at hBd hrow hlt ⊢
    have HBA:=Lib.hid hBd
    have HROW:=Lib.hid hrow
    have HLT:=Lib.hid hlt
    clear hBd hrow hlt hWa
    refine hQ1 _ _ ((HSS.out _).2 HBA.out) (segT_one (fun K' hK'=>wpQuiet_nil (hK' _ ?_)))
    clear hK' K' hQ1 Q1
    intro Q2 hQ2
    simp only[pick,List.getElem?_cons_zero,List.getElem?_cons_succ,Option.getD_some]
    go_wp2_with fail
    have keepA:∀ g,g<W6.heap.size→g<W6.heap.size→Wa.heap[g]?=W6.heap[g]?∧g<W6.heap.size:=fun g hg _=>⟨HBA.out.block g hg,hg⟩
    refine(brk_any bd W6.heap.size d hd (bodyNd ks) _ _ Wa HBA.out.size HSZB (Lib.hid (HBODY.out.deep.keep keepA)) (Lib.hid (HBN6.out.deep.keep keepA))).mono ?_
    clear keepA
    rintro x W7 ⟨v7,rfl,hn7,B7⟩
    generalize brokenN bd d (bodyNd ks)=m at *
    obtain⟨m1,m2,m3,m4,rfl⟩:=hn7.cells
    have HN7:=Lib.hid hn7
    have HB8:=Lib.hid (HBA.out.trans (B7.mono HBA.out.size))
    have HROW7:=Lib.hid ((B7.block W6.heap.size HLT.out).trans HROW.out)
    clear B7 hn7
    go_wp2_with fail
    refine hQ2 _ _ ((HSS.out _).2 HB8.out) (segT_fin (fun K' hK'=>wpQuiet_nil (hK' _ (fun Q5 hQ5=>?_))))
    clear hK' K' hQ2 Q2
    simp only[List.drop_succ_cons,List.drop_zero]
    refine wpList_store_row (by rfl) 45 (.tmp 11) (.tmp 50) rfl W6.heap.size #[.int .i64 m.kind,.int .i64 m.space,.string m.name,.slice m1 m.attrs.length m2,.string m.text,.slice m3 m.kids.length m4] rfl rfl 45 _ HROW7.out (by rw[hi45];simp[hs45]) rfl (by simp[Value.oneCell']) ?_
    go_wp2_with fail
    go_meet
    case rel =>
     refine⟨W6.heap.size,rfl,Lib.hid ⟨m1,m2,m3,m4,six_setRow W7 W6.heap.size _ HROW7.out (.int .i64 m.kind) (.int .i64 m.space) (.string m.name) (.slice m1 m.attrs.length m2) (.string m.text) (.slice m3 m.kids.length m4),?_⟩,Lib.hid (below_setRow HB8.out _ (Nat.le_refl _) _)⟩
     refine NodeD.node (D:=fun _=>True) (HN7.out.keep (fun g _ hg=>⟨setRow_other W7 _ g _ ?_,trivial⟩))
     have h1:=HLT.out
     rcases hg with hg|hg<;>omega
  case rest =>
   obtain⟨b11,rfl,HM,HBc⟩:=hcut
   have HX8:=Lib.hid (HX8.out.below HBc.out (Nat.le_refl _))
   have HX10:=Lib.hid (HX10.out.below HBc.out (Nat.le_refl _))
   have HP7:=Lib.hid (HP6.out.below HBc.out (Nat.le_refl _))
   have HPN7:=Lib.hid (HPN6.out.below HBc.out (Nat.le_refl _))
   have HBN7:=Lib.hid (HBN6.out.below HBc.out (Nat.le_refl _))
   have HB7:=Lib.hid (HB6.out.trans (HBc.out.mono HB6.out.size))
   clear HBc HP6 HPN6 HBN6 HB6 HKV6
   generalize brokenN bd d (bodyNd ks)=m at *
   obtain⟨m1,m2,m3,m4,hm6,hmn⟩:=HM.out
   have HM6:=Lib.hid hm6
   have HMN:=Lib.hid hmn
   clear HM hm6 hmn hD hz hd
   obtain⟨S,hS⟩:∃ S:World→Prop,∀ u,S u↔Below wc.heap.size wc u:=⟨_,fun _=>Iff.rfl⟩
   have x5:∀ s:WIn S,s.w.cell? ⟨b8,5,none⟩=some (.slice (some ⟨gh,0,none⟩) 2 2):=fun s=>(HX8.out.below ((hS _).1 s.h) (Nat.le_refl _)).x5
   have f0:∀ s:WIn S,s.w.cell? ⟨gh,0,none⟩=some (.int .i64 1):=fun s=>(HP7.out.hd.below ((hS _).1 s.h) (Nat.le_refl _)).x0
   have f1:∀ s:WIn S,s.w.cell? ⟨gh,1,none⟩=some (.int .i64 0):=fun s=>(HP7.out.hd.below ((hS _).1 s.h) (Nat.le_refl _)).x1
   have f2:∀ s:WIn S,s.w.cell? ⟨gh,2,none⟩=some (.string sHead):=fun s=>(HP7.out.hd.below ((hS _).1 s.h) (Nat.le_refl _)).x2
   have f3:∀ s:WIn S,s.w.cell? ⟨gh,3,none⟩=some (.slice none 0 0):=fun s=>(HP7.out.hd.below ((hS _).1 s.h) (Nat.le_refl _)).x3
   have f4:∀ s:WIn S,s.w.cell? ⟨gh,4,none⟩=some (.string ⟨#[]⟩):=fun s=>(HP7.out.hd.below ((hS _).1 s.h) (Nat.le_refl _)).x4
   have f5:∀ s:WIn S,s.w.cell? ⟨gh,5,none⟩=some (.slice (some ⟨gm,0,none⟩) 1 1):=fun s=>(HP7.out.hd.below ((hS _).1 s.h) (Nat.le_refl _)).x5
   have g0:∀ s:WIn S,s.w.cell? ⟨b11,0,none⟩=some (.int .i64 m.kind):=fun s=>(HM6.out.below ((hS _).1 s.h) (Nat.le_refl _)).x0
   have g1:∀ s:WIn S,s.w.cell? ⟨b11,1,none⟩=some (.int .i64 m.space):=fun s=>(HM6.out.below ((hS _).1 s.h) (Nat.le_refl _)).x1
   have g2:∀ s:WIn S,s.w.cell? ⟨b11,2,none⟩=some (.string m.name):=fun s=>(HM6.out.below ((hS _).1 s.h) (Nat.le_refl _)).x2
   have g3:∀ s:WIn S,s.w.cell? ⟨b11,3,none⟩=some (.slice m1 m.attrs.length m2):=fun s=>(HM6.out.below ((hS _).1 s.h) (Nat.le_refl _)).x3
   have g4:∀ s:WIn S,s.w.cell? ⟨b11,4,none⟩=some (.string m.text):=fun s=>(HM6.out.below ((hS _).1 s.h) (Nat.le_refl _)).x4
   have g5:∀ s:WIn S,s.w.cell? ⟨b11,5,none⟩=some (.slice m3 m.kids.length m4):=fun s=>(HM6.out.below ((hS _).1 s.h) (Nat.le_refl _)).x5
   haveI:Nonempty (WIn S):=⟨⟨wc,(hS _).2 (Below.refl _ _)⟩⟩
   have HSS:=Lib.hid hS
   clear hS
   go_upto_region 8 with fail
   go_cut [12] (fun p12 wx=>∃ b12 g12,p12=.pointer (some ⟨b12,0,none⟩)∧Hid (Six wx b12 0 (.int .i64 1) (.int .i64 0) (.string sHtml) (.slice none 0 0) (.string ⟨#[]⟩) (.slice (some ⟨g12,0,none⟩) 2 2)) ∧
    Hid (Six wx g12 0 (.int .i64 1) (.int .i64 0) (.string sHead) (.slice none 0 0) (.string ⟨#[]⟩) (.slice (some ⟨gm,0,none⟩) 1 1)) ∧
    Hid (Six wx g12 6 (.int .i64 m.kind) (.int .i64 m.space) (.string m.name) (.slice m1 m.attrs.length m2) (.string m.text) (.slice m3 m.kids.length m4))∧Hid (Below wc.heap.size wc wx))
   case first =>
    refine region_forks 8 (.two [0,1,2,3,4] 5 (.two [] 6 (.one [] 7 (.fin [])) 7 (.one [] 6 (.fin []))) 7 (.one [] 5 (.one [] 6 (.fin [])))) S (by kernel_rfl) (by kernel_rfl) ((HSS.out _).2 (below_drw9 wc)) ?_
    refine segT_two (fun K' hK'=>?_)
    simp only[pick,List.getElem?_cons_zero,List.getElem?_cons_succ,Option.getD_some]
    repeat (go_big_quiet_step (fail))
    clear x5 f0 f1 f2 f3 f4 f5 g0 g1 g2 g3 g4 g5
    refine wpQuiet_nil (hK' _ ?_ ?_)
    ·intro Q1 hQ1
     clear hK' K'
     simp only[pick,List.getElem?_cons_zero,List.getElem?_cons_succ,Option.getD_some]
     go_wp2_with fail
     obtain⟨t1,t2,t3⟩:=twelve_box (wc.drewN 1) (.int .i64 1) (.int .i64 0) (.string sHead) (.slice none 0 0) (.string ⟨#[]⟩) (.slice (some ⟨gm,0,none⟩) 1 1) (.int .i64 m.kind) (.int .i64 m.space) (.string m.name) (.slice m1 m.attrs.length m2) (.string m.text) (.slice m3 m.kids.length m4)
     obtain⟨Wa,hWa⟩:∃ Wa,Wa=(wc.drewN 1).alloc (.cells #[.int .i64 1,.int .i64 0,.string sHead,.slice none 0 0,.string ⟨#[]⟩,.slice (some ⟨gm,0,none⟩) 1 1,.int .i64 m.kind,.int .i64 m.space,.string m.name,.slice m1 m.attrs.length m2,.string m.text,.slice m3 m.kids.length m4] 45):=⟨_,rfl⟩
     have hBa:Below wc.heap.size wc Wa:=by rw[hWa];exact(below_drw9 wc).alloc (Nat.le_refl _) _
     rw[← hWa] at t1 t2 ⊢
     have T1:Hid (Six Wa wc.heap.size 0 (.int .i64 1) (.int .i64 0) (.string sHead) (.slice none 0 0) (.string ⟨#[]⟩) (.slice (some ⟨gm,0,none⟩) 1 1)):=t1
     have T2:Hid (Six Wa wc.heap.size 6 (.int .i64 m.kind) (.int .i64 m.space) (.string m.name) (.slice m1 m.attrs.length m2) (.string m.text) (.slice m3 m.kids.length m4)):=t2
     have HBA:=Lib.hid hBa
     clear t1 t2 t3 hWa hBa
     refine hQ1 _ _ ((HSS.out _).2 HBA.out) (segT_two (fun K' hK'=>wpQuiet_nil (hK' _ ?_ ?_)))
     ·clear hK' K' hQ1 Q1
      intro Q2 hQ2
      simp only[pick,List.getElem?_cons_zero,List.getElem?_cons_succ,Option.getD_some]
      go_wp2_with fail
      refine hQ2 _ _ ((HSS.out _).2 HBA.out) (segT_one (fun K' hK'=>wpQuiet_nil (hK' _ ?_)))
      clear hK' K' hQ2 Q2
      intro Q3 hQ3
      simp only[pick,List.getElem?_cons_zero,List.getElem?_cons_succ,Option.getD_some]
      go_wp2_with fail
      have hal:Below Wa.heap.size Wa (Wa.alloc (.cells #[.int .i64 0,.int .i64 0,.string ⟨#[]⟩,.slice none 0 0,.string ⟨#[]⟩,.slice none 0 0] 45)):=(Below.refl Wa.heap.size Wa).alloc (Nat.le_refl _) _
      have hrow:=heap_alloc_new Wa (.cells #[.int .i64 0,.int .i64 0,.string ⟨#[]⟩,.slice none 0 0,.string ⟨#[]⟩,.slice none 0 0] 45)
      obtain⟨Wb,hWb⟩:∃ Wb,Wb=Wa.alloc (.cells #[.int .i64 0,.int .i64 0,.string ⟨#[]⟩,.slice none 0 0,.string ⟨#[]⟩,.slice none 0 0] 45):=⟨_,rfl⟩
      rw[← hWb] at hal hrow ⊢
      have HAL:=Lib.hid hal
      have HROW:=Lib.hid hrow
      have HBB:=Lib.hid (HBA.out.trans (HAL.out.mono HBA.out.size))
      clear hal hrow hWb
      refine hQ3 _ _ ((HSS.out _).2 HBB.out) (segT_fin (fun K' hK'=>wpQuiet_nil (hK' _ (fun Q5 hQ5=>?_))))
      clear hK' K' hQ3 Q3
      simp only[List.drop_succ_cons,List.drop_zero]
      refine wpList_store_row (by rfl) 45 (.tmp 12) (.tmp 57) rfl Wa.heap.size #[.int .i64 1,.int .i64 0,.string sHtml,.slice none 0 0,.string ⟨#[]⟩,.slice (some ⟨wc.heap.size,0,none⟩) 2 2] rfl rfl 45 _ HROW.out (by rw[hi45];simp[hs45]) rfl (by simp[Value.oneCell']) ?_
      have hbs:=below_setRow HAL.out Wa.heap.size (Nat.le_refl _) #[.int .i64 1,.int .i64 0,.string sHtml,.slice none 0 0,.string ⟨#[]⟩,.slice (some ⟨wc.heap.size,0,none⟩) 2 2]
      go_wp2_with fail
      go_meet
      case rel=>exact⟨Wa.heap.size,wc.heap.size,rfl,Lib.hid (six_setRow Wb Wa.heap.size _ HROW.out (.int .i64 1) (.int .i64 0) (.string sHtml) (.slice none 0 0) (.string ⟨#[]⟩) (.slice (some ⟨wc.heap.size,0,none⟩) 2 2)),Lib.hid (T1.out.below hbs (Nat.le_refl _)),Lib.hid (T2.out.below hbs (Nat.le_refl _)),Lib.hid (below_setRow HBB.out _ HBA.out.size _)⟩
     ·clear hK' K' hQ1 Q1
      intro Q2 hQ2
      simp only[pick,List.getElem?_cons_zero,List.getElem?_cons_succ,Option.getD_some]
      go_wp2_with fail
      have hal:Below Wa.heap.size Wa (Wa.alloc (.cells #[.int .i64 0,.int .i64 0,.string ⟨#[]⟩,.slice none 0 0,.string ⟨#[]⟩,.slice none 0 0] 45)):=(Below.refl Wa.heap.size Wa).alloc (Nat.le_refl _) _
      have hrow:=heap_alloc_new Wa (.cells #[.int .i64 0,.int .i64 0,.string ⟨#[]⟩,.slice none 0 0,.string ⟨#[]⟩,.slice none 0 0] 45)
      obtain⟨Wb,hWb⟩:∃ Wb,Wb=Wa.alloc (.cells #[.int .i64 0,.int .i64 0,.string ⟨#[]⟩,.slice none 0 0,.string ⟨#[]⟩,.slice none 0 0] 45):=⟨_,rfl⟩
      rw[← hWb] at hal hrow ⊢
      have HAL:=Lib.hid hal
      have HROW:=Lib.hid hrow
      have HBB:=Lib.hid (HBA.out.trans (HAL.out.mono HBA.out.size))
      clear hal hrow hWb
      refine hQ2 _ _ ((HSS.out _).2 HBB.out) (segT_one (fun K' hK'=>wpQuiet_nil (hK' _ ?_)))
      clear hK' K' hQ2 Q2
      intro Q3 hQ3
      simp only[pick,List.getElem?_cons_zero,List.getElem?_cons_succ,Option.getD_some]
      go_wp2_with fail
      refine hQ3 _ _ ((HSS.out _).2 HBB.out) (segT_fin (fun K' hK'=>wpQuiet_nil (hK' _ (fun Q5 hQ5=>?_))))
      clear hK' K' hQ3 Q3
      simp only[List.drop_succ_cons,List.drop_zero]
      refine wpList_store_row (by rfl) 45 (.tmp 12) (.tmp 57) rfl Wa.heap.size #[.int .i64 1,.int .i64 0,.string sHtml,.slice none 0 0,.string ⟨#[]⟩,.slice (some ⟨wc.heap.size,0,none⟩) 2 2] rfl rfl 45 _ HROW.out (by rw[hi45];simp[hs45]) rfl (by simp[Value.oneCell']) ?_
      have hbs:=below_setRow HAL.out Wa.heap.size (Nat.le_refl _) #[.int .i64 1,.int .i64 0,.string sHtml,.slice none 0 0,.string ⟨#[]⟩,.slice (some ⟨wc.heap.size,0,none⟩) 2 2]
      go_wp2_with fail
      go_meet
      case rel=>exact⟨Wa.heap.size,wc.heap.size,rfl,Lib.hid (six_setRow Wb Wa.heap.size _ HROW.out (.int .i64 1) (.int .i64 0) (.string sHtml) (.slice none 0 0) (.string ⟨#[]⟩) (.slice (some ⟨wc.heap.size,0,none⟩) 2 2)),Lib.hid (T1.out.below hbs (Nat.le_refl _)),Lib.hid (T2.out.below hbs (Nat.le_refl _)),Lib.hid (below_setRow HBB.out _ HBA.out.size _)⟩
    ·intro Q1 hQ1
     clear hK' K'
     simp only[pick,List.getElem?_cons_zero,List.getElem?_cons_succ,Option.getD_some]
     go_wp2_with fail
     have hBa:Below wc.heap.size wc ((wc.drewN 1).alloc (.cells #[.int .i64 0,.int .i64 0,.string ⟨#[]⟩,.slice none 0 0,.string ⟨#[]⟩,.slice none 0 0] 45)):=(below_drw9 wc).alloc (Nat.le_refl _) _
     have hrow:((wc.drewN 1).alloc (.cells #[.int .i64 0,.int .i64 0,.string ⟨#[]⟩,.slice none 0 0,.string ⟨#[]⟩,.slice none 0 0] 45)).heap[wc.heap.size]?=some (.cells #[.int .i64 0,.int .i64 0,.string ⟨#[]⟩,.slice none 0 0,.string ⟨#[]⟩,.slice none 0 0] 45 (0,0)):=heap_alloc_new (wc.drewN 1) (.cells #[.int .i64 0,.int .i64 0,.string ⟨#[]⟩,.slice none 0 0,.string ⟨#[]⟩,.slice none 0 0] 45)
     have hlt:wc.heap.size<((wc.drewN 1).alloc (.cells #[.int .i64 0,.int .i64 0,.string ⟨#[]⟩,.slice none 0 0,.string ⟨#[]⟩,.slice none 0 0] 45)).heap.size:=by simp[World.drewN]
     obtain⟨Wa,hWa⟩:∃ Wa,Wa=(wc.drewN 1).alloc (.cells #[.int .i64 0,.int .i64 0,.string ⟨#[]⟩,.slice none 0 0,.string ⟨#[]⟩,.slice none 0 0] 45):=⟨_,rfl⟩
     rw[← hWa] at hBa hrow hlt ⊢
     have HBA:=Lib.hid hBa
     have HROWA:=Lib.hid hrow
     have HLT:=Lib.hid hlt
     clear hBa hrow hlt hWa
     refine hQ1 _ _ ((HSS.out _).2 HBA.out) (segT_one (fun K' hK'=>wpQuiet_nil (hK' _ ?_)))
     clear hK' K' hQ1 Q1
     intro Q2 hQ2
     simp only[pick,List.getElem?_cons_zero,List.getElem?_cons_succ,Option.getD_some]
     go_wp2_with fail
     obtain⟨t1,t2,t3⟩:=twelve_box Wa (.int .i64 1) (.int .i64 0) (.string sHead) (.slice none 0 0) (.string ⟨#[]⟩) (.slice (some ⟨gm,0,none⟩) 1 1) (.int .i64 m.kind) (.int .i64 m.space) (.string m.name) (.slice m1 m.attrs.length m2) (.string m.text) (.slice m3 m.kids.length m4)
     obtain⟨Wb,hWb⟩:∃ Wb,Wb=Wa.alloc (.cells #[.int .i64 1,.int .i64 0,.string sHead,.slice none 0 0,.string ⟨#[]⟩,.slice (some ⟨gm,0,none⟩) 1 1,.int .i64 m.kind,.int .i64 m.space,.string m.name,.slice m1 m.attrs.length m2,.string m.text,.slice m3 m.kids.length m4] 45):=⟨_,rfl⟩
     rw[← hWb] at t1 t2 t3 ⊢
     have T1:=Lib.hid t1
     have T2:=Lib.hid t2
     have HBB:=Lib.hid (HBA.out.trans (t3.mono HBA.out.size))
     have HROW:=Lib.hid ((t3.block wc.heap.size HLT.out).trans HROWA.out)
     clear t1 t2 t3 hWb
     refine hQ2 _ _ ((HSS.out _).2 HBB.out) (segT_one (fun K' hK'=>wpQuiet_nil (hK' _ ?_)))
     clear hK' K' hQ2 Q2
     intro Q3 hQ3
     simp only[pick,List.getElem?_cons_zero,List.getElem?_cons_succ,Option.getD_some]
     go_wp2_with fail
     refine hQ3 _ _ ((HSS.out _).2 HBB.out) (segT_fin (fun K' hK'=>wpQuiet_nil (hK' _ (fun Q5 hQ5=>?_))))
     clear hK' K' hQ3 Q3
     simp only[List.drop_succ_cons,List.drop_zero]
     refine wpList_store_row (by rfl) 45 (.tmp 12) (.tmp 57) rfl wc.heap.size #[.int .i64 1,.int .i64 0,.string sHtml,.slice none 0 0,.string ⟨#[]⟩,.slice (some ⟨Wa.heap.size,0,none⟩) 2 2] rfl rfl 45 _ HROW.out (by rw[hi45];simp[hs45]) rfl (by simp[Value.oneCell']) ?_
     have hsm:∀ c0 c1 c2 c3 c4 c5 o,Six Wb Wa.heap.size o c0 c1 c2 c3 c4 c5→Six (Wb.setRow wc.heap.size #[.int .i64 1,.int .i64 0,.string sHtml,.slice none 0 0,.string ⟨#[]⟩,.slice (some ⟨Wa.heap.size,0,none⟩) 2 2]) Wa.heap.size o c0 c1 c2 c3 c4 c5:=fun _ _ _ _ _ _ _ h=>h.same (setRow_other Wb _ _ _ (by have:=HLT.out;omega))
     go_wp2_with fail
     go_meet
     case rel=>exact⟨wc.heap.size,Wa.heap.size,rfl,Lib.hid (six_setRow Wb wc.heap.size _ HROW.out (.int .i64 1) (.int .i64 0) (.string sHtml) (.slice none 0 0) (.string ⟨#[]⟩) (.slice (some ⟨Wa.heap.size,0,none⟩) 2 2)),Lib.hid (hsm _ _ _ _ _ _ _ T1.out),Lib.hid (hsm _ _ _ _ _ _ _ T2.out),Lib.hid (below_setRow HBB.out _ (Nat.le_refl _) _)⟩
   case rest =>
    obtain⟨b12,g12,rfl,H12,HG1,HG2,HBc⟩:=hcut
    have HX8:=Lib.hid (HX8.out.below HBc.out (Nat.le_refl _))
    have HX10:=Lib.hid (HX10.out.below HBc.out (Nat.le_refl _))
    have HPN9:=Lib.hid (HPN7.out.below HBc.out (Nat.le_refl _))
    have HBN9:=Lib.hid (HBN7.out.below HBc.out (Nat.le_refl _))
    have HN12:=Lib.hid (html_node (c:=2) HG1.out HG2.out (head_node (HP7.out.below HBc.out (Nat.le_refl _))) (HMN.out.below HBc.out (Nat.le_refl _)))
    have HB9:=Lib.hid (HB7.out.trans (HBc.out.mono HB7.out.size))
    clear HBc HPN7 HBN7 HMN HM6 HP7 HB7 HG1 HG2
    go_wp2_with fail
    refine(page_any a ks.length c wc).mono ?_
    rintro x W10 ⟨gh2,gm2,ga2,rfl,hP2,B10,hne2,hr2⟩
    unfold elV at *
    go_upto_region 10 with fail
    obtain⟨hx13,hb11⟩:=six_box W10 (.int .i64 1) (.int .i64 0) (.string sHtml) (.slice none 0 0) (.string ⟨#[]⟩) (.slice (some ⟨gh2,0,none⟩) 2 2)
    have hrow2:=hr2
    obtain⟨W11,hW11⟩:∃ W11,W11=W10.alloc (.cells #[.int .i64 1,.int .i64 0,.string sHtml,.slice none 0 0,.string ⟨#[]⟩,.slice (some ⟨gh2,0,none⟩) 2 2] 45):=⟨_,rfl⟩
    rw[← hW11] at hx13 hb11 ⊢
    obtain⟨b13,hb13⟩:∃ b13,b13=W10.heap.size:=⟨_,rfl⟩
    rw[← hb13] at hx13 ⊢
    have hg2lt:gh2<W10.heap.size:=(Array.getElem?_eq_some_iff.1 hr2).1
    have hal:Below W11.heap.size W11 (W11.alloc (.cells #[.string ⟨#[116,105,116,108,101]⟩,.string ⟨#[120]⟩] 39)):=(Below.refl _ W11).alloc (Nat.le_refl _) _
    have hrA:(W11.alloc (.cells #[.string ⟨#[116,105,116,108,101]⟩,.string ⟨#[120]⟩] 39)).heap[W11.heap.size]?=some (.cells #[.string ⟨#[116,105,116,108,101]⟩,.string ⟨#[120]⟩] 39 (0,0)):=heap_alloc_new W11 _
    have hr12:(W11.alloc (.cells #[.string ⟨#[116,105,116,108,101]⟩,.string ⟨#[120]⟩] 39)).heap[gh2]?=W10.heap[gh2]?:=by rw[hal.block gh2 (Nat.lt_of_lt_of_le hg2lt hb11.size),hb11.block gh2 hg2lt]
    have hP12:PgAt (W11.alloc (.cells #[.string ⟨#[116,105,116,108,101]⟩,.string ⟨#[120]⟩] 39)) gh2 gm2 ga2 a ks.length c:=(hP2.below hb11 (Nat.le_refl _)).below hal (Nat.le_refl _)
    have hB12:Below wc.heap.size wc (W11.alloc (.cells #[.string ⟨#[116,105,116,108,101]⟩,.string ⟨#[120]⟩] 39)):=B10.trans ((hb11.trans (hal.mono hb11.size)).mono B10.size)
    have h9:(W11.alloc (.cells #[.string ⟨#[116,105,116,108,101]⟩,.string ⟨#[120]⟩] 39)).cell? ⟨gh2,9,none⟩=some (.slice none 0 0):=hP12.bd.x3
    have fr9:(W11.alloc (.cells #[.string ⟨#[116,105,116,108,101]⟩,.string ⟨#[120]⟩] 39)).frozen? ⟨gh2,9,none⟩=false:=by simp only[World.frozen?,hr12,hr2];simp
    have x5:W11.cell? ⟨b13,5,none⟩=some (.slice (some ⟨gh2,0,none⟩) 2 2):=hx13.x5
    have hlt11:W10.heap.size<W11.heap.size:=by rw[hW11];simp
    have HP12:=Lib.hid hP12
    have HB12:=Lib.hid hB12
    have HRA:=Lib.hid hrA
    have HX13:=Lib.hid (hx13.below hal (Nat.le_refl _))
    have HNE2:=Lib.hid hne2
    have HLT11:=Lib.hid hlt11
    have HG2LT:=Lib.hid hg2lt
    have HB13:=Lib.hid hb13
    clear hal hrA hr12 hP12 hB12 hr2 hrow2 hP2 B10 hb11 hne2 hlt11 hg2lt hW11 hx13 hb13
    go_upto_region 11 with fail
    clear x5
    have hbody0:=body_node (w:=w) (ks:=ks) (a:=a) (c:=c) (by omega) HK.out
    have HBODY:=Lib.hid hbody0
    have hkd:KidsD (fun g=>g≠gh2) (W11.alloc (.cells #[.string ⟨#[116,105,116,108,101]⟩,.string ⟨#[120]⟩] 39)) a 0 ks:=HK.out.deep.keep (fun g _ hg=>⟨((HB9.out.trans (HB12.out.mono HB9.out.size)).block g hg),by
     have h1:=HNE2.out.1
     have h2:=HB9.out.size
     intro e
     omega⟩)
    have hn13:=page_titled HP12.out HNE2.out.2.2.2.1 HNE2.out.2.2.2.2 (gt:=W11.heap.size) (by have:=HLT11.out;have:=HG2LT.out;omega) ⟨#[116,105,116,108,101]⟩ ⟨#[120]⟩ ⟨by rw[cell_of_row _ _ 0 _ 39 (0,0) HRA.out];rfl,by rw[cell_of_row _ _ 1 _ 39 (0,0) HRA.out];rfl⟩ (by omega) hkd
    have hx13':Six ((W11.alloc (.cells #[.string ⟨#[116,105,116,108,101]⟩,.string ⟨#[120]⟩] 39)).setCell ⟨gh2,9,none⟩ (.slice (some ⟨W11.heap.size,0,none⟩) 1 1)) b13 0 (.int .i64 1) (.int .i64 0) (.string sHtml) (.slice none 0 0) (.string ⟨#[]⟩) (.slice (some ⟨gh2,0,none⟩) 2 2):=HX13.out.same (heap_setCell_other _ ⟨gh2,9,none⟩ b13 _ (by have:=HG2LT.out;have:=HB13.out;show b13≠gh2;omega))
    have hB13:Below wc.heap.size wc ((W11.alloc (.cells #[.string ⟨#[116,105,116,108,101]⟩,.string ⟨#[120]⟩] 39)).setCell ⟨gh2,9,none⟩ (.slice (some ⟨W11.heap.size,0,none⟩) 1 1)):=HB12.out.setCell HNE2.out.1 _
    clear h9 fr9 hkd hbody0
    generalize (W11.alloc (.cells #[.string ⟨#[116,105,116,108,101]⟩,.string ⟨#[120]⟩] 39)).setCell ⟨gh2,9,none⟩ (.slice (some ⟨W11.heap.size,0,none⟩) 1 1)=W13 at *
    have HX8:=Lib.hid (HX8.out.below hB13 (Nat.le_refl _))
    have HX10:=Lib.hid (HX10.out.below hB13 (Nat.le_refl _))
    have HX12:=Lib.hid (H12.out.below hB13 (Nat.le_refl _))
    have HX13:=Lib.hid hx13'
    have HPN13:=Lib.hid (HPN9.out.below hB13 (Nat.le_refl _))
    have HBN13:=Lib.hid (HBN9.out.below hB13 (Nat.le_refl _))
    have HN12':=Lib.hid (HN12.out.below hB13 (Nat.le_refl _))
    have HN13:=Lib.hid hn13
    have HB13':=Lib.hid (HB9.out.trans (hB13.mono HB9.out.size))
    clear hB13 hx13' hn13 HPN9 HBN9 HN12 H12 HB9 HP12 HB12 HRA HNE2 HLT11 HG2LT HB13
    go_wp2_with fail
    refine(page_any a ks.length c W13).mono ?_
    rintro x W14 ⟨gh3,gm3,ga3,rfl,hP3,B14,hne3,hr3⟩
    unfold elV at *
    go_upto_region 12 with fail
    obtain⟨hx14,hb15⟩:=six_box W14 (.int .i64 1) (.int .i64 0) (.string sHtml) (.slice none 0 0) (.string ⟨#[]⟩) (.slice (some ⟨gh3,0,none⟩) 2 2)
    have hrb:=heap_alloc_new W14 (.cells #[.int .i64 1,.int .i64 0,.string sHtml,.slice none 0 0,.string ⟨#[]⟩,.slice (some ⟨gh3,0,none⟩) 2 2] 45)
    obtain⟨W15,hW15⟩:∃ W15,W15=W14.alloc (.cells #[.int .i64 1,.int .i64 0,.string sHtml,.slice none 0 0,.string ⟨#[]⟩,.slice (some ⟨gh3,0,none⟩) 2 2] 45):=⟨_,rfl⟩
    rw[← hW15] at hx14 hb15 hrb ⊢
    obtain⟨b14,hb14⟩:∃ b14,b14=W14.heap.size:=⟨_,rfl⟩
    rw[← hb14] at hx14 hrb ⊢
    have hg3lt:gh3<W14.heap.size:=(Array.getElem?_eq_some_iff.1 hr3).1
    have hrow3:W15.heap[gh3]?=_:=(hb15.block gh3 hg3lt).trans hr3
    have hO:OwnV W13.heap.size 45 6 (.slice (some ⟨gh3,0,none⟩) 2 2) 2 ([]++[.int .i64 1,.int .i64 0,.string ⟨#[104,101,97,100]⟩,.slice none 0 0,.string ⟨#[]⟩,.slice (some ⟨gm3,0,none⟩) 1 1]++[.int .i64 1,.int .i64 0,.string ⟨#[98,111,100,121]⟩,.slice none 0 0,.string ⟨#[]⟩,.slice a ks.length c]) W13 W15 :=
     ⟨⟨by simp,.inr ⟨gh3,2,_,rfl,hne3.1,hrow3,Nat.le_refl _,by decide,by simp,by simp⟩⟩,B14.trans (hb15.mono B14.size),Nat.le_trans B14.size hb15.size⟩
    have HO:=Lib.hid hO
    have HX15:=Lib.hid hx14
    have HRB:=Lib.hid hrb
    have HB15:=Lib.hid hb15
    have HB14:=Lib.hid B14
    have HP3:=Lib.hid hP3
    have HNE3:=Lib.hid hne3
    have HG3:=Lib.hid hg3lt
    have HEQ:=Lib.hid hb14
    have hx10:=HX10.out.below hO.bel (Nat.le_refl _)
    obtain⟨z0,z1,z2,z3,z4,z5⟩:=hx10.zero
    have hq5:W15.cell? ⟨b14,5,none⟩=some (.slice (some ⟨gh3,0,none⟩) 2 2):=hx14.x5
    clear hx14 hrb hb15 B14 hP3 hne3 hr3 hrow3 hO hW15 hg3lt hb14 hx10
    go_wp2_with (at_builtin;refine wpList_append_one (by rfl) _ _ 43 (by rfl) 45 i45 _ 6 96 Tryz.underlying43 hi45 hz45 hs45 hb45 rfl (by decide) _ _ _ rfl HO.out #[.int .i64 bd.kind,.int .i64 bd.space,.string bd.name,.slice e1 bd.attrs.length e2,.string bd.text,.slice e3 bd.kids.length e4] rfl rfl rfl rfl (by omega) (by omega) ?_)
    intro v17 W17 hO17 hG17
    have hr17:W17.heap[b14]?=_:=(hG17.out.gr.block b14 (by have:=HB15.out.size;have h1:=HEQ.out;have h2:b14<W15.heap.size:=(Array.getElem?_eq_some_iff.1 HRB.out).1;simp;omega) (by
     have h1:=HEQ.out
     have h2:=HG3.out
     intro e
     have e':b14=gh3:=Option.some.inj e
     omega)).trans ((Below.heap_alloc W15 _ b14 (Array.getElem?_eq_some_iff.1 HRB.out).1).trans HRB.out)
    have hc17:W17.cell? ⟨b14,5,none⟩=some (.slice (some ⟨gh3,0,none⟩) 2 2):=by rw[cell_of_row _ _ 5 _ 45 (0,0) hr17];rfl
    have fr17:W17.frozen? ⟨b14,5,none⟩=false:=by simp[World.frozen?,hr17]
    have HR17:=Lib.hid hr17
    obtain⟨a17,k17,rfl,_,_⟩:=hO17.out.slice
    clear hr17 z0 z1 z2 z3 z4 z5 hq5
    go_upto_region 13 with fail
    have ez:W17.setCell ⟨b14,5,none⟩ (.slice a17 3 k17)=W17.setRow b14 #[.int .i64 1,.int .i64 0,.string sHtml,.slice none 0 0,.string ⟨#[]⟩,.slice a17 3 k17]:=by rw[setCell_eq_setRow W17 b14 5 _ 45 (0,0) (.slice a17 3 k17) HR17.out];rfl
    have hx14z:Six (W17.setCell ⟨b14,5,none⟩ (.slice a17 3 k17)) b14 0 (.int .i64 1) (.int .i64 0) (.string sHtml) (.slice none 0 0) (.string ⟨#[]⟩) (.slice a17 3 k17):=by rw[ez];exact six_setRow W17 b14 _ HR17.out (.int .i64 1) (.int .i64 0) (.string sHtml) (.slice none 0 0) (.string ⟨#[]⟩) (.slice a17 3 k17)
    have hb14:W13.heap.size≤b14:=by have h1:=HEQ.out;have h2:=HB14.out.size;omega
    have hBz:Below W13.heap.size W13 (W17.setCell ⟨b14,5,none⟩ (.slice a17 3 k17)):=hO17.out.bel.setCell hb14 _
    have keepZ:∀ g,g<W14.heap.size→g≠gh3→(W17.setCell ⟨b14,5,none⟩ (.slice a17 3 k17)).heap[g]?=W14.heap[g]?:=fun g hg hne=>by
     have h1:=HEQ.out
     have h2:=HB15.out.size
     rw[heap_setCell_other W17 ⟨b14,5,none⟩ g _ (by show g≠b14;omega),hG17.out.gr.block g (by simp;omega) (fun e=>hne (Option.some.inj e)),Below.heap_alloc W15 _ g (by omega),HB15.out.block g hg]
    have hvz:VecAt (W17.setCell ⟨b14,5,none⟩ (.slice a17 3 k17)) (.slice a17 3 k17) 3 ([]++[.int .i64 1,.int .i64 0,.string ⟨#[104,101,97,100]⟩,.slice none 0 0,.string ⟨#[]⟩,.slice (some ⟨gm3,0,none⟩) 1 1]++[.int .i64 1,.int .i64 0,.string ⟨#[98,111,100,121]⟩,.slice none 0 0,.string ⟨#[]⟩,.slice a ks.length c]++[.int .i64 bd.kind,.int .i64 bd.space,.string bd.name,.slice e1 bd.attrs.length e2,.string bd.text,.slice e3 bd.kids.length e4]):=by
     obtain⟨a',c',e',hv⟩:=hO17.out.vec
     refine⟨a',c',e',fun i u hi=>?_⟩
     obtain⟨g,off,ha,hc⟩:=hv i u hi
     refine⟨g,off,ha,cell_same (heap_setCell_other W17 ⟨b14,5,none⟩ g _ ?_) hc⟩
     have h1:=HEQ.out
     have h2:=HG3.out
     have h3:=HB15.out.size
     have h4:b14<W15.heap.size:=(Array.getElem?_eq_some_iff.1 HRB.out).1
     simp only[Value.slice.injEq] at e'
     have hob:(Value.slice a17 3 k17).ownBlock=some g:=by
      rcases hO17.out.own.2 with⟨hn,_⟩|⟨g',cap,cur,hn,_⟩
      ·rw[← e'.1] at ha;cases hn
      ·rw[hn]
       simp only[Value.slice.injEq] at hn
       rw[← e'.1,hn.1] at ha
       simp only[Option.some.injEq,Addr.mk.injEq] at ha
       rw[← ha.1]
       rfl
     show g≠b14
     rcases hG17.out.loc with hl|⟨k,hk,hle⟩
     ·rw[hob] at hl
      have:g=gh3:=Option.some.inj hl
      omega
     ·rw[hob] at hk
      have:g=k:=Option.some.inj hk
      simp at hle
      omega
    have hBw:Below w.heap.size w (W17.setCell ⟨b14,5,none⟩ (.slice a17 3 k17)):=HB13'.out.trans (hBz.mono HB13'.out.size)
    have hnz:=page_three hvz rfl ((head_nodeD HP3.out).keep (D':=fun _=>True) (fun g hg hd=>⟨keepZ g hg (by rcases hd with rfl|rfl;exact Ne.symm HNE3.out.2.2.2.1;exact Ne.symm HNE3.out.2.2.2.2),trivial⟩)).node (HBODY.out.below hBw (Nat.le_refl _)) (HBN13.out.below hBz (Nat.le_refl _))
    clear hc17 fr17 ez keepZ hvz
    generalize W17.setCell ⟨b14,5,none⟩ (.slice a17 3 k17)=Wz at *
    have HX8:=Lib.hid (HX8.out.below hBz (Nat.le_refl _))
    have HX12:=Lib.hid (HX12.out.below hBz (Nat.le_refl _))
    have HX13:=Lib.hid (HX13.out.below hBz (Nat.le_refl _))
    have HX14:=Lib.hid hx14z
    have HPNz:=Lib.hid (HPN13.out.below hBz (Nat.le_refl _))
    have HN12z:=Lib.hid (HN12'.out.below hBz (Nat.le_refl _))
    have HN13z:=Lib.hid (HN13.out.below hBz (Nat.le_refl _))
    have HNZ:=Lib.hid hnz
    have HBZ:=Lib.hid hBw
    clear hBw hBz hnz hx14z hb14 HX10 HPN13 HN12' HN13 HB13' HBN13 hO17 hG17 HR17 HO HX15 HRB HB15 HB14 HP3 HNE3 HG3 HEQ HBODY
    obtain⟨S,hS⟩:∃ S:World→Prop,∀ u,S u↔Below Wz.heap.size Wz u:=⟨_,fun _=>Iff.rfl⟩
    have x0:∀ s:WIn S,s.w.cell? ⟨b8,0,none⟩=some (.int .i64 1):=fun s=>(HX8.out.below ((hS _).1 s.h) (Nat.le_refl _)).x0
    have x1:∀ s:WIn S,s.w.cell? ⟨b8,1,none⟩=some (.int .i64 0):=fun s=>(HX8.out.below ((hS _).1 s.h) (Nat.le_refl _)).x1
    have x2:∀ s:WIn S,s.w.cell? ⟨b8,2,none⟩=some (.string sHtml):=fun s=>(HX8.out.below ((hS _).1 s.h) (Nat.le_refl _)).x2
    have x3:∀ s:WIn S,s.w.cell? ⟨b8,3,none⟩=some (.slice none 0 0):=fun s=>(HX8.out.below ((hS _).1 s.h) (Nat.le_refl _)).x3
    have x4:∀ s:WIn S,s.w.cell? ⟨b8,4,none⟩=some (.string ⟨#[]⟩):=fun s=>(HX8.out.below ((hS _).1 s.h) (Nat.le_refl _)).x4
    have x5:∀ s:WIn S,s.w.cell? ⟨b8,5,none⟩=some (.slice (some ⟨gh,0,none⟩) 2 2):=fun s=>(HX8.out.below ((hS _).1 s.h) (Nat.le_refl _)).x5
    haveI:Nonempty (WIn S):=⟨⟨Wz,(hS _).2 (Below.refl _ _)⟩⟩
    have HSS:=Lib.hid hS
    clear hS
    refine region_segs 4 [([0,1],2),([],3)] [] S (by kernel_rfl) (by kernel_rfl) ((HSS.out _).2 (below_drw9 Wz)) ?_
    refine segs_step (fun K' hK'=>?_)
    simp only[pick,List.getElem?_cons_zero,List.getElem?_cons_succ,Option.getD_some]
    repeat (go_big_quiet_step (fail))
    refine wpQuiet_nil (hK' _ (fun Q1 hQ1=>?_))
    clear hK' K' x0 x1 x2 x3 x4 x5
    simp only[pick,List.getElem?_cons_zero,List.getElem?_cons_succ,Option.getD_some]
    go_wp2_with fail
    refine(page_any a ks.length c (Wz.drewN 1)).mono ?_
    rintro x W18 ⟨gh4,gm4,ga4,rfl,hP4,B18,_,_⟩
    have hB18:Below Wz.heap.size Wz W18:=(below_drw9 Wz).trans (B18.mono (below_drw9 Wz).size)
    have HB18:=Lib.hid hB18
    have HP4:=Lib.hid (page_nodeA hP4 (by omega) (HK.out.below (HBZ.out.trans (hB18.mono HBZ.out.size)) (Nat.le_refl _)))
    clear B18 hP4 hB18
    unfold elV at *
    go_wp2_with fail
    refine hQ1 _ _ ((HSS.out _).2 HB18.out) (segs_step (fun K' hK'=>wpQuiet_nil (hK' _ (fun Q2 hQ2=>?_))))
    clear hK' K' hQ1 Q1
    simp only[pick,List.getElem?_cons_zero,List.getElem?_cons_succ,Option.getD_some]
    go_wp2_with fail
    refine(SN.out _ _ W18 (HPNz.out.below HB18.out (Nat.le_refl _)) HP4.out).mono ?_
    unfold SomeBool
    rintro x W19 ⟨rfl,B19⟩
    have HB19:=Lib.hid (HB18.out.trans (B19.mono HB18.out.size))
    clear B19 HB18 HP4 HPNz
    go_wp2_with fail
    refine hQ2 _ _ ((HSS.out _).2 HB19.out) (segs_last (fun K' hK'=>wpQuiet_nil (hK' _ (fun Q3 hQ3=>?_))))
    clear hK' K' hQ2 Q2
    simp only[List.drop_succ_cons,List.drop_zero]
    obtain⟨x0,x1,x2,x3,x4,x5⟩:=(HX12.out.below HB19.out (Nat.le_refl _)).zero
    go_wp2_with fail
    have H1:=HH.out _ _ W19 ok1.out (HT.out.below (HBZ.out.trans (HB19.out.mono HBZ.out.size)) (Nat.le_refl _)) (HN12z.out.below HB19.out (Nat.le_refl _))
    rw[no1.out] at H1
    refine H1.mono ?_
    unfold SomeBool
    rintro x W20 ⟨rfl,B20⟩
    have HB20:=Lib.hid (HB19.out.trans (B20.mono HB19.out.size))
    clear B20 HB19 H1 x0 x1 x2 x3 x4 x5
    obtain⟨x0,x1,x2,x3,x4,x5⟩:=(HX13.out.below HB20.out (Nat.le_refl _)).zero
    go_wp2_with fail
    have H1:=HH.out _ _ W20 ok2.out (HT.out.below (HBZ.out.trans (HB20.out.mono HBZ.out.size)) (Nat.le_refl _)) (HN13z.out.below HB20.out (Nat.le_refl _))
    rw[no2.out] at H1
    refine H1.mono ?_
    unfold SomeBool
    rintro x W21 ⟨rfl,B21⟩
    have HB21:=Lib.hid (HB20.out.trans (B21.mono HB20.out.size))
    clear B21 HB20 H1 x0 x1 x2 x3 x4 x5
    obtain⟨x0,x1,x2,x3,x4,x5⟩:=(HX14.out.below HB21.out (Nat.le_refl _)).zero
    go_wp2_with fail
    have H1:=HH.out _ _ W21 ok3.out (HT.out.below (HBZ.out.trans (HB21.out.mono HBZ.out.size)) (Nat.le_refl _)) (HNZ.out.below HB21.out (Nat.le_refl _))
    rw[no3.out] at H1
    refine H1.mono ?_
    unfold SomeBool
    rintro x W22 ⟨rfl,B22⟩
    have HB22:=Lib.hid (HB21.out.trans (B22.mono HB21.out.size))
    clear B22 HB21 H1 x0 x1 x2 x3 x4 x5
    go_wp2
    go_ret
    exact⟨rfl,HBZ.out.trans (HB22.out.mono HBZ.out.size)⟩
end Go.Proofs.YtcfgbdhpcboikaaGreatDoor
