/-
  The law's t and e: a text; an element with kids.
  The document's SameNode at a node and itself.
  The law's same: two lists that hold the same nodes.
  law19.shown: true.
-/
import Derived.Test.YtcfgbdhpcboikaaGreatDoorSieveD
import Derived.Test.YtcfgbdhpcboikaaGreatDoorHoldF
import Derived.Test.YtcfgbdhpcboikaaGreatDoorAttrL
import Derived.Test.YtcfgbdhpcboikaaGreatDoorTxtB
namespace Go.Proofs.YtcfgbdhpcboikaaGreatDoor
set_option maxHeartbeats 4000000
set_option maxRecDepth 100000
open Go.RowKit
theorem attrs_noneT (w:World):AttrsV w (.slice none 0 0) []:=⟨none,0,rfl,fun j h=>absurd h (by simp)⟩
theorem Tryz.struct45:(match Tryz.prog.underlying 45 with|some (.struct _)=>true|_=>false)=true:=by kernel_rfl
theorem cell_back {fn:Func}{p:Tmp}(h:fn.results=#[.cell p 45])(tmps:Array Value)(w:World)(g:Nat)(c0 c1 c2 c3 c4 c5:Value)
  (hp:tmps.getD p undef=.pointer (some ⟨g,0,none⟩)) (hg:w.heap[g]?=some (.cells #[c0,c1,c2,c3,c4,c5] 45 (0,0))) :
  (results fn tmps).run Tryz.prog w=.ok (.agg #[c0,c1,c2,c3,c4,c5]) w:=by
 have hs:=Tryz.struct45
 obtain⟨i0,hi,hz0,hz1,hz2⟩:=info_parts Tryz.info45
 split at hs
 ·rename_i fs hu
  exact results_cell_row h tmps w g 45 _ (0,0) _ hp hg hu rfl (by rw[hi];simp[hz1])
 ·exact absurd hs (by simp)
theorem t_any (s:ByteArray)(w:World):Calls Tryz.prog 61 #[.string s] w fun e w' =>
  (∃ v,e=.returned v∧v=.agg #[.int .i64 2,.int .i64 0,.string ⟨#[]⟩,.slice none 0 0,.string s,.slice none 0 0]∧NodeV w' (txtN s) v)∧Below w.heap.size w w':=by
 go_enter Tryz.func61,Tryz.ntmps61
 go_wp2
 refine bodyPost_ret (cell_back rfl _ _ w.heap.size _ _ _ _ _ _ rfl (heap_alloc_new w _)) rfl ?_
 refine⟨⟨_,rfl,rfl,?_⟩,(Below.refl _ w).alloc (Nat.le_refl _) _⟩
 unfold txtN NodeV
 exact⟨_,none,0,rfl,by simp,attrs_noneT _,by unfold KidsV;trivial⟩
theorem e_any (nm:ByteArray)(ks:List Nd)(a:Option Addr)(c:Nat)(w:World)(hl:ks.length≤1000000000)(HK:Hid (KidsV w a 0 ks)):Calls Tryz.prog 51 #[.string nm,.slice a ks.length c] w fun e w' =>
  (∃ v,e=.returned v∧v=.agg #[.int .i64 1,.int .i64 0,.string nm,.slice none 0 0,.string ⟨#[]⟩,.slice a ks.length c]∧NodeV w' (elN nm ks) v)∧Below w.heap.size w w':=by
 go_enter Tryz.func51,Tryz.ntmps51
 go_wp2
 refine bodyPost_ret (cell_back rfl _ _ w.heap.size _ _ _ _ _ _ rfl (heap_alloc_new w _)) rfl ?_
 have hb:=(Below.refl w.heap.size w).alloc (Nat.le_refl _) (.cells #[.int .i64 1,.int .i64 0,.string nm,.slice none 0 0,.string ⟨#[]⟩,.slice a ks.length c] 45)
 refine⟨⟨_,rfl,rfl,?_⟩,hb⟩
 unfold elN NodeV
 exact⟨_,a,c,rfl,by omega,attrs_noneT _,HK.out.below hb (Nat.le_refl _)⟩
open Go.RowKit
theorem same_node:∀ (m:Nat) (n:Nd),n.sz≤m→∀ (v v':Value) (w:World),Hid (SmN n)→Hid (NodeV w n v)→Hid (NodeV w n v') →
  Calls Tryz.prog 43 #[v,v'] w (SomeBool true w):=by
 intro m
 induction m with
 | zero=>intro n hn;exact absurd (sz_pos n) (by omega)
 | succ m ih =>
  intro n hn v v' w HS hN hN'
  obtain⟨av,a,c,rfl,hA,hK,hlen⟩:=hN.out.get
  obtain⟨av',a',c',rfl,hA',hK',_⟩:=hN'.out.get
  obtain⟨aa,ca,rfl,hAA⟩:=hA
  obtain⟨aa',ca',rfl,hAA'⟩:=hA'
  have HA:=Lib.hid (show AttrsV w (.slice aa n.attrs.length ca) n.attrs from⟨aa,ca,rfl,hAA⟩)
  have HA':=Lib.hid (show AttrsV w (.slice aa' n.attrs.length ca') n.attrs from⟨aa',ca',rfl,hAA'⟩)
  have HK:=Lib.hid hK
  have HK':=Lib.hid hK'
  have HIH:=Lib.hid ih
  have HN:=Lib.hid (show ∀ k∈n.kids,k.sz≤m by
   intro k hk
   have h1:=sz_kids n
   have h2:=(szAll_mem n.kids).1 k hk
   omega)
  have HSN:=Lib.hid HS.out.get
  have hal:n.attrs.length≤1048576:=HS.out.get.2.2.1
  clear hK hK' ih hn hN hN' HS hAA hAA'
  generalize n.kids=ks at *
  generalize n.name=nm at *
  generalize n.kind=kd at *
  generalize n.space=sp at *
  generalize n.text=tx at *
  generalize n.attrs=at' at *
  have e0:(kd !=kd)=false:=by simp
  have e1:(sp !=sp)=false:=by simp
  have e2:(nm.toList !=nm.toList)=false:=by simp
  have e3:(tx.toList !=tx.toList)=false:=by simp
  go_enter Tryz.func43,Tryz.ntmps43
  obtain⟨W0,hW0⟩:∃ W0,W0=(w.alloc (.cells #[.int .i64 kd,.int .i64 sp,.string nm,.slice aa at'.length ca,.string tx,.slice a ks.length c] 45)).alloc (.cells #[.int .i64 kd,.int .i64 sp,.string nm,.slice aa' at'.length ca',.string tx,.slice a' ks.length c'] 45):=⟨_,rfl⟩
  have hB0:Below w.heap.size w W0:=by rw[hW0];exact((Below.refl _ w).alloc (Nat.le_refl _) _).alloc (by simp) _
  have hP0:Six W0 w.heap.size 0 (.int .i64 kd) (.int .i64 sp) (.string nm) (.slice aa at'.length ca) (.string tx) (.slice a ks.length c):=by
   rw[hW0]
   exact(six_alloc w _ _ _ _ _ _).below ((Below.refl (w.alloc _).heap.size _).alloc (Nat.le_refl _) _) (Nat.le_refl _)
  have hP1:Six W0 (w.heap.size+1) 0 (.int .i64 kd) (.int .i64 sp) (.string nm) (.slice aa' at'.length ca') (.string tx) (.slice a' ks.length c'):=by
   have h:=six_alloc (w.alloc (.cells #[.int .i64 kd,.int .i64 sp,.string nm,.slice aa at'.length ca,.string tx,.slice a ks.length c] 45)) (.int .i64 kd) (.int .i64 sp) (.string nm) (.slice aa' at'.length ca') (.string tx) (.slice a' ks.length c')
   rw[← hW0] at h
   simpa using h
  have HP0:=Lib.hid hP0
  have HP1:=Lib.hid hP1
  have HB0:=Lib.hid hB0
  have HW0:=Lib.hid hW0
  clear hP0 hP1 hB0 hW0
  go_wp2_with fail
  rw[← HW0.out]
  go_loopw [4,5] (fun r i wx=>r=.bool false∧∃ k:Nat,i=.int .i64 k∧Hid (k≤at'.length∧Below W0.heap.size W0 wx)) (fun _ i _=>at'.length-(intOf i).toNat)
  case atStart=>exact⟨rfl,0,rfl,Lib.hid ⟨Nat.zero_le _,Below.refl _ _⟩⟩
  case round =>
   obtain⟨rfl,k,rfl,hK⟩:=hrel
   have hk:=hK.out.1
   obtain⟨y0,y1,y2,y3,y4,y5⟩:=(HP0.out.below hK.out.2 (Nat.le_refl _)).zero
   obtain⟨z0,z1,z2,z3,z4,z5⟩:=(HP1.out.below hK.out.2 (Nat.le_refl _)).zero
   have hBw:Below w.heap.size w wr:=HB0.out.trans (hK.out.2.mono HB0.out.size)
   have HBw:=Lib.hid hBw
   clear hBw
   rcases Nat.lt_or_ge k at'.length with hlt|hge
   ·obtain⟨g1,o1,c1,hv1,a1,a2⟩:=(HA.out.below HBw.out (Nat.le_refl _)).get k hlt
    obtain⟨g2,o2,c2,hv2,b1,b2⟩:=(HA'.out.below HBw.out (Nat.le_refl _)).get k hlt
    simp only[Value.slice.injEq,true_and] at hv1 hv2
    obtain⟨rfl,rfl⟩:=hv1
    obtain⟨rfl,rfl⟩:=hv2
    generalize at'[k]=q at *
    obtain⟨qn,qv⟩:=q
    simp only at a1 a2 b1 b2
    have e1:(qn.toList==qn.toList)=true:=by simp
    have e2:(qv.toList==qv.toList)=true:=by simp
    go_wp2_with fail
    go_quiet (fail)
    go_wp2
    go_roundw
    case rel=>exact⟨rfl,k+1,by go_num,Lib.hid ⟨hlt,hK.out.2.trans ((below_drewNm wr nq).mono hK.out.2.size)⟩⟩
    case measure=>simp[intOf];omega
   ·have HPa:=Lib.hid (HP0.out.below hK.out.2 (Nat.le_refl _))
    have HPb:=Lib.hid (HP1.out.below hK.out.2 (Nat.le_refl _))
    have hb1:w.heap.size<W0.heap.size:=World.block_lt_of_cell? _ _ HP0.out.x0
    have hb2:w.heap.size+1<W0.heap.size:=World.block_lt_of_cell? _ _ HP1.out.x0
    have HSZ:=Lib.hid (show w.heap.size+1<wr.heap.size by have:=hK.out.2.size;omega)
    clear hK hk hb1 hb2 HW0
    go_wp2_with fail
    rw[show decide (k<at'.length)=false from decide_eq_false (by omega)]
    clear hge y0 y1 y2 y3 y4 y5 z0 z1 z2 z3 z4 z5
    rename World=>W2
    go_loopw [4,6,7] (fun r i _ wx=>r=.bool false∧∃ k:Nat,i=.int .i64 k∧Hid (k≤ks.length∧Below W2.heap.size W2 wx)) (fun _ i _ _=>ks.length-(intOf i).toNat)
    case atStart=>exact⟨rfl,0,rfl,Lib.hid ⟨Nat.zero_le _,Below.refl _ _⟩⟩
    case round =>
     obtain⟨rfl,k,rfl,hK⟩:=hrel
     have hk:=hK.out.1
     have hBw:Below w.heap.size w wr:=HBw.out.trans (hK.out.2.mono HBw.out.size)
     obtain⟨y0,y1,y2,y3,y4,y5⟩:=(HPa.out.below hK.out.2 (Nat.le_refl _)).zero
     obtain⟨z0,z1,z2,z3,z4,z5⟩:=(HPb.out.below hK.out.2 (Nat.le_refl _)).zero
     rcases Nat.lt_or_ge k ks.length with hlt|hge
     ·obtain⟨g,off,c0,c1,c2,c3,c4,c5,rfl,h6,hn⟩:=HK.out.get ks 0 k hlt
      obtain⟨g',off',d0,d1,d2,d3,d4,d5,rfl,h6',hn'⟩:=HK'.out.get ks 0 k hlt
      rw[Nat.zero_add] at h6 h6'
      have hQ:=h6.below hBw (Nat.le_refl _)
      have hQ':=h6'.below hBw (Nat.le_refl _)
      have HNN:=Lib.hid (HIH.out ks[k] (HN.out _ (List.getElem_mem hlt)))
      have HSQ:=Lib.hid (SmK.get ks k hlt HSN.out.2.2.2.2)
      obtain⟨l1,l2,l3,l4,rfl,rfl,rfl,rfl,rfl,rfl⟩:=hn.cells
      obtain⟨m1,m2,m3,m4,rfl,rfl,rfl,rfl,rfl,rfl⟩:=hn'.cells
      have HNa:=Lib.hid (hn.below hBw (Nat.le_refl _))
      have HNb:=Lib.hid (hn'.below hBw (Nat.le_refl _))
      obtain⟨S,hS⟩:∃ S:World→Prop,∀ u,S u↔Below wr.heap.size wr u:=⟨_,fun _=>Iff.rfl⟩
      have f0:∀ s:WIn S,s.w.cell? ⟨g,off+k*6,none⟩=some (.int .i64 ks[k].kind):=fun s=>(hQ.below ((hS _).1 s.h) (Nat.le_refl _)).x0
      have f1:∀ s:WIn S,s.w.cell? ⟨g,off+k*6+1,none⟩=some (.int .i64 ks[k].space):=fun s=>(hQ.below ((hS _).1 s.h) (Nat.le_refl _)).x1
      have f2:∀ s:WIn S,s.w.cell? ⟨g,off+k*6+2,none⟩=some (.string ks[k].name):=fun s=>(hQ.below ((hS _).1 s.h) (Nat.le_refl _)).x2
      have f3:∀ s:WIn S,s.w.cell? ⟨g,off+k*6+3,none⟩=some (.slice l1 ks[k].attrs.length l2):=fun s=>(hQ.below ((hS _).1 s.h) (Nat.le_refl _)).x3
      have f4:∀ s:WIn S,s.w.cell? ⟨g,off+k*6+4,none⟩=some (.string ks[k].text):=fun s=>(hQ.below ((hS _).1 s.h) (Nat.le_refl _)).x4
      have f5:∀ s:WIn S,s.w.cell? ⟨g,off+k*6+5,none⟩=some (.slice l3 ks[k].kids.length l4):=fun s=>(hQ.below ((hS _).1 s.h) (Nat.le_refl _)).x5
      have g0:∀ s:WIn S,s.w.cell? ⟨g',off'+k*6,none⟩=some (.int .i64 ks[k].kind):=fun s=>(hQ'.below ((hS _).1 s.h) (Nat.le_refl _)).x0
      have g1:∀ s:WIn S,s.w.cell? ⟨g',off'+k*6+1,none⟩=some (.int .i64 ks[k].space):=fun s=>(hQ'.below ((hS _).1 s.h) (Nat.le_refl _)).x1
      have g2:∀ s:WIn S,s.w.cell? ⟨g',off'+k*6+2,none⟩=some (.string ks[k].name):=fun s=>(hQ'.below ((hS _).1 s.h) (Nat.le_refl _)).x2
      have g3:∀ s:WIn S,s.w.cell? ⟨g',off'+k*6+3,none⟩=some (.slice m1 ks[k].attrs.length m2):=fun s=>(hQ'.below ((hS _).1 s.h) (Nat.le_refl _)).x3
      have g4:∀ s:WIn S,s.w.cell? ⟨g',off'+k*6+4,none⟩=some (.string ks[k].text):=fun s=>(hQ'.below ((hS _).1 s.h) (Nat.le_refl _)).x4
      have g5:∀ s:WIn S,s.w.cell? ⟨g',off'+k*6+5,none⟩=some (.slice m3 ks[k].kids.length m4):=fun s=>(hQ'.below ((hS _).1 s.h) (Nat.le_refl _)).x5
      have hx:∀ s:WIn S,s.w.cell? ⟨w.heap.size,5,none⟩=some (.slice (some ⟨g,off,none⟩) ks.length c):=fun s=>((HPa.out.below hK.out.2 (Nat.le_refl _)).below ((hS _).1 s.h) (Nat.le_refl _)).x5
      have hy:∀ s:WIn S,s.w.cell? ⟨w.heap.size+1,5,none⟩=some (.slice (some ⟨g',off',none⟩) ks.length c'):=fun s=>((HPb.out.below hK.out.2 (Nat.le_refl _)).below ((hS _).1 s.h) (Nat.le_refl _)).x5
      haveI:Nonempty (WIn S):=⟨⟨wr,(hS _).2 (Below.refl _ _)⟩⟩
      have HSS:=Lib.hid hS
      have HBwr:=Lib.hid hBw
      clear hn hn' h6 h6' hBw hQ hQ' hS
      generalize ks[k]=q at *
      go_wp2_with fail
      refine region_segs 11 [([0,1,2,3,4,5,6,7,8,9],10)] [] S (by kernel_rfl) (by kernel_rfl) ((HSS.out _).2 (below_drewNm wr 1)) ?_
      refine segs_step (fun K' hK'=>?_)
      simp only[pick,List.getElem?_cons_zero,List.getElem?_cons_succ,Option.getD_some]
      repeat (go_big_quiet_step (fail))
      refine wpQuiet_nil (hK' _ (fun Q1 hQ1=>?_))
      clear hK' K'
      simp only[pick,List.getElem?_cons_zero,List.getElem?_cons_succ,Option.getD_some]
      go_wp2_with fail
      have hBd:=below_drewNm wr 1
      refine(HNN.out _ _ (wr.drewN 1) HSQ (Lib.hid (HNa.out.below hBd (Nat.le_refl _))) (Lib.hid (HNb.out.below hBd (Nat.le_refl _)))).mono ?_
      unfold SomeBool
      rintro e W4 ⟨rfl,B4⟩
      have hB4:Below wr.heap.size wr W4:=hBd.trans (B4.mono hBd.size)
      have HB4:=Lib.hid hB4
      clear hBd B4 hB4
      go_wp2_with fail
      refine hQ1 _ _ ((HSS.out _).2 HB4.out) (segs_last (fun K' hK'=>wpQuiet_nil (hK' _ (fun Q4 hQ4=>?_))))
      clear hQ1 Q1 hK' K' f0 f1 f2 f3 f4 f5 g0 g1 g2 g3 g4 g5 hx hy
      simp only[List.drop_succ_cons,List.drop_zero]
      go_wp2
      go_roundw
      case rel=>exact⟨rfl,k+1,by go_num,Lib.hid ⟨hlt,hK.out.2.trans (HB4.out.mono hK.out.2.size)⟩⟩
      case measure=>simp[intOf];omega
     ·go_wp2
      go_ret
      exact⟨rfl,hBw⟩
open Go.RowKit
def bareN (ks:List Nd):Nd:=.mk 0 0 ⟨#[]⟩ [] ⟨#[]⟩ ks
theorem bare_node {w:World}{a:Option Addr}{ks:List Nd}{c:Nat}(hl:ks.length≤1000000000)(h:KidsV w a 0 ks) :
  NodeV w (bareN ks) (.agg #[.int .i64 0,.int .i64 0,.string ⟨#[]⟩,.slice none 0 0,.string ⟨#[]⟩,.slice a ks.length c]):=by
 unfold bareN NodeV
 exact⟨_,a,c,rfl,by omega,⟨none,0,rfl,fun j h=>absurd h (by simp)⟩,h⟩
theorem bare_sm {ks:List Nd}(h:SmK ks):SmN (bareN ks):=by
 unfold bareN SmN
 exact⟨by decide,by decide,by simp,fun x hx=>by simp at hx,h⟩
theorem same_any (ks:List Nd)(a a':Option Addr)(c c':Nat)(w:World)(hl:ks.length≤1000000000)(HS:Hid (SmK ks))(HK:Hid (KidsV w a 0 ks))(HK':Hid (KidsV w a' 0 ks)) :
  Calls Tryz.prog 52 #[.slice a ks.length c,.slice a' ks.length c'] w (SomeBool true w):=by
 have HC:=Lib.hid (same_node (bareN ks).sz (bareN ks) (Nat.le_refl _) _ _ w (Lib.hid (bare_sm HS.out)) (Lib.hid (bare_node (c:=c) hl HK.out)) (Lib.hid (bare_node (c:=c') hl HK'.out)))
 go_enter Tryz.func52,Tryz.ntmps52
 go_wp2_with fail
 refine HC.out.mono ?_
 rintro e W2 h2
 have H2:=Lib.hid h2
 obtain⟨rfl,B2⟩:=h2
 clear B2
 go_wp2
 go_ret
 exact H2.out
open Go.RowKit
theorem kids_one {w:World}{g:Nat}{n:Nd}{c0 c1 c2 c3 c4 c5:Value}(h:Six w g 0 c0 c1 c2 c3 c4 c5)(hn:NodeV w n (.agg #[c0,c1,c2,c3,c4,c5])):KidsV w (some ⟨g,0,none⟩) 0 [n]:=by
 unfold KidsV
 exact⟨⟨g,0,_,_,_,_,_,_,rfl,h,hn⟩,by unfold KidsV;trivial⟩
theorem twelve_alloc (w:World)(c0 c1 c2 c3 c4 c5 d0 d1 d2 d3 d4 d5:Value):Six (w.alloc (.cells #[c0,c1,c2,c3,c4,c5,d0,d1,d2,d3,d4,d5] 45)) w.heap.size 0 c0 c1 c2 c3 c4 c5∧Six (w.alloc (.cells #[c0,c1,c2,c3,c4,c5,d0,d1,d2,d3,d4,d5] 45)) w.heap.size 6 d0 d1 d2 d3 d4 d5:=by
 have h:∀ j,(w.alloc (.cells #[c0,c1,c2,c3,c4,c5,d0,d1,d2,d3,d4,d5] 45)).cell? ⟨w.heap.size,j,none⟩=(#[c0,c1,c2,c3,c4,c5,d0,d1,d2,d3,d4,d5]:Array Value)[j]?:=fun j=>cell_of_row _ w.heap.size j _ 45 (0,0) (heap_alloc_new w _)
 exact⟨⟨h 0,h 1,h 2,h 3,h 4,h 5⟩,⟨h 6,h 7,h 8,h 9,h 10,h 11⟩⟩
theorem kids_two {w:World}{g:Nat}{n m:Nd}{c0 c1 c2 c3 c4 c5 d0 d1 d2 d3 d4 d5:Value}(h:Six w g 0 c0 c1 c2 c3 c4 c5)(hn:NodeV w n (.agg #[c0,c1,c2,c3,c4,c5]))(h':Six w g 6 d0 d1 d2 d3 d4 d5)(hm:NodeV w m (.agg #[d0,d1,d2,d3,d4,d5])):KidsV w (some ⟨g,0,none⟩) 0 [n,m]:=by
 unfold KidsV
 refine⟨⟨g,0,_,_,_,_,_,_,rfl,h,hn⟩,?_⟩
 unfold KidsV
 exact⟨⟨g,0,_,_,_,_,_,_,rfl,h',hm⟩,by unfold KidsV;trivial⟩
theorem shown19 (A:AFam)(HA:Hid (AttrsOk A))(hA:∀ e,A e []=[])(w:World)(HT:Hid (Tabs w)):Calls Tryz.prog 47 #[] w (SomeBool true w):=by
 go_enter Tryz.func47,Tryz.ntmps47
 go_wp2_with fail
 refine(t_any sXS w).mono ?_
 rintro e W1 ⟨⟨v1,rfl,rfl,n1⟩,B1⟩
 have HN1:=Lib.hid n1
 have HB1:=Lib.hid B1
 clear n1 B1
 go_wp2_with fail
 refine(t_any sYS W1).mono ?_
 rintro e W2 ⟨⟨v2,rfl,rfl,n2⟩,B2⟩
 have HN2:=Lib.hid n2
 have HB2:=Lib.hid B2
 clear n2 B2
 go_wp2_with fail
 obtain⟨W3,hW3⟩:∃ W3,W3=W2.alloc (.cells #[.int .i64 2,.int .i64 0,.string ⟨#[]⟩,.slice none 0 0,.string sYS,.slice none 0 0] 45):=⟨_,rfl⟩
 have hb3:Below W2.heap.size W2 W3:=by rw[hW3];exact(Below.refl _ _).alloc (Nat.le_refl _) _
 have hk3:KidsV W3 (some ⟨W2.heap.size,0,none⟩) 0 [txtN sYS]:=kids_one (by rw[hW3];exact six_alloc W2 _ _ _ _ _ _) (HN2.out.below hb3 (Nat.le_refl _))
 rw[← hW3]
 have HK3:=Lib.hid hk3
 have HB3:=Lib.hid (HB1.out.trans ((HB2.out.trans (hb3.mono HB2.out.size)).mono HB1.out.size))
 have HN1b:=Lib.hid ((HN1.out.below HB2.out (Nat.le_refl _)).below hb3 (Nat.le_refl _))
 clear hb3 hk3 hW3
 refine(e_any sScriptS [txtN sYS] _ 1 W3 (by simp) HK3).mono ?_
 rintro e W4 ⟨⟨v4,rfl,rfl,n4⟩,B4⟩
 have HN4:=Lib.hid n4
 have HB4:=Lib.hid (HB3.out.trans (B4.mono HB3.out.size))
 have HN1c:=Lib.hid (HN1b.out.below B4 (Nat.le_refl _))
 clear n4 B4
 go_wp2_with fail
 obtain⟨W5,hW5⟩:∃ W5,W5=W4.alloc (.cells #[.int .i64 2,.int .i64 0,.string ⟨#[]⟩,.slice none 0 0,.string sXS,.slice none 0 0,.int .i64 1,.int .i64 0,.string sScriptS,.slice none 0 0,.string ⟨#[]⟩,.slice (some ⟨W2.heap.size,0,none⟩) 1 1] 45):=⟨_,rfl⟩
 have hb5:Below W4.heap.size W4 W5:=by rw[hW5];exact(Below.refl _ _).alloc (Nat.le_refl _) _
 have hk5:KidsV W5 (some ⟨W4.heap.size,0,none⟩) 0 [txtN sXS,elN sScriptS [txtN sYS]]:=by
  obtain⟨s1,s2⟩:=twelve_alloc W4 (.int .i64 2) (.int .i64 0) (.string ⟨#[]⟩) (.slice none 0 0) (.string sXS) (.slice none 0 0) (.int .i64 1) (.int .i64 0) (.string sScriptS) (.slice none 0 0) (.string ⟨#[]⟩) (.slice (some ⟨W2.heap.size,0,none⟩) 1 1)
  rw[← hW5] at s1 s2
  exact kids_two s1 (HN1c.out.below hb5 (Nat.le_refl _)) s2 (HN4.out.below hb5 (Nat.le_refl _))
 rw[← hW5]
 have HK5:=Lib.hid hk5
 have HB5:=Lib.hid (HB4.out.trans (hb5.mono HB4.out.size))
 clear hb5 hk5 hW5
 refine(e_any sFontS [txtN sXS,elN sScriptS [txtN sYS]] _ 2 W5 (by simp) HK5).mono ?_
 rintro e W6 ⟨⟨v6,rfl,rfl,n6⟩,B6⟩
 have HN6:=Lib.hid n6
 have HB6:=Lib.hid (HB5.out.trans (B6.mono HB5.out.size))
 clear n6 B6
 go_wp2_with fail
 refine(t_any sZS W6).mono ?_
 rintro e W7 ⟨⟨v7,rfl,rfl,n7⟩,B7⟩
 have HN7:=Lib.hid n7
 have HN6b:=Lib.hid (HN6.out.below B7 (Nat.le_refl _))
 have HB7:=Lib.hid (HB6.out.trans (B7.mono HB6.out.size))
 clear n7 B7
 go_wp2_with fail
 obtain⟨W8,hW8⟩:∃ W8,W8=W7.alloc (.cells #[.int .i64 1,.int .i64 0,.string sFontS,.slice none 0 0,.string ⟨#[]⟩,.slice (some ⟨W4.heap.size,0,none⟩) 2 2,.int .i64 2,.int .i64 0,.string ⟨#[]⟩,.slice none 0 0,.string sZS,.slice none 0 0] 45):=⟨_,rfl⟩
 have hb8:Below W7.heap.size W7 W8:=by rw[hW8];exact(Below.refl _ _).alloc (Nat.le_refl _) _
 have hk8:KidsV W8 (some ⟨W7.heap.size,0,none⟩) 0 [elN sFontS [txtN sXS,elN sScriptS [txtN sYS]],txtN sZS]:=by
  obtain⟨s1,s2⟩:=twelve_alloc W7 (.int .i64 1) (.int .i64 0) (.string sFontS) (.slice none 0 0) (.string ⟨#[]⟩) (.slice (some ⟨W4.heap.size,0,none⟩) 2 2) (.int .i64 2) (.int .i64 0) (.string ⟨#[]⟩) (.slice none 0 0) (.string sZS) (.slice none 0 0)
  rw[← hW8] at s1 s2
  exact kids_two s1 (HN6b.out.below hb8 (Nat.le_refl _)) s2 (HN7.out.below hb8 (Nat.le_refl _))
 rw[← hW8]
 have HK8:=Lib.hid hk8
 have HB8:=Lib.hid (HB7.out.trans (hb8.mono HB7.out.size))
 clear hb8 hk8 hW8
 refine(e_any sDivS [elN sFontS [txtN sXS,elN sScriptS [txtN sYS]],txtN sZS] _ 2 W8 (by simp) HK8).mono ?_
 rintro e W9 ⟨⟨v9,rfl,rfl,n9⟩,B9⟩
 have HN9:=Lib.hid n9
 have HB9:=Lib.hid (HB8.out.trans (B9.mono HB8.out.size))
 clear n9 B9
 go_wp2_with fail
 obtain⟨W10,hW10⟩:∃ W10,W10=W9.alloc (.cells #[.int .i64 1,.int .i64 0,.string sDivS,.slice none 0 0,.string ⟨#[]⟩,.slice (some ⟨W7.heap.size,0,none⟩) 2 2] 45):=⟨_,rfl⟩
 have hb10:Below W9.heap.size W9 W10:=by rw[hW10];exact(Below.refl _ _).alloc (Nat.le_refl _) _
 have hk10:KidsV W10 (some ⟨W9.heap.size,0,none⟩) 0 exOne:=kids_one (by rw[hW10];exact six_alloc W9 _ _ _ _ _ _) (HN9.out.below hb10 (Nat.le_refl _))
 rw[← hW10]
 have HK10:=Lib.hid hk10
 have HB10:=Lib.hid (HB9.out.trans (hb10.mono HB9.out.size))
 clear hb10 hk10 hW10
 have hF:=cfilter_any A HA exOne sBodyS W10 (some ⟨W9.heap.size,0,none⟩) 1 (Lib.hid (HT.out.below HB10.out (Nat.le_refl _))) (by decide +kernel) HK10
 rw[ex_one A hA] at hF
 refine hF.mono ?_
 clear hF
 rintro e W11 ⟨ka,kc,rfl,_,hk11,hb11⟩
 have HK11:=Lib.hid hk11
 have HB11:=Lib.hid (HB10.out.trans (hb11.mono HB10.out.size))
 clear hk11 hb11
 go_wp2_with fail
 refine(t_any sXS W11).mono ?_
 rintro e W12 ⟨⟨v12,rfl,rfl,n12⟩,B12⟩
 have HN12:=Lib.hid n12
 have HB12:=Lib.hid (HB11.out.trans (B12.mono HB11.out.size))
 have HC12:=Lib.hid B12
 clear n12 B12
 go_wp2_with fail
 obtain⟨W13,hW13⟩:∃ W13,W13=W12.alloc (.cells #[.int .i64 2,.int .i64 0,.string ⟨#[]⟩,.slice none 0 0,.string sXS,.slice none 0 0] 45):=⟨_,rfl⟩
 have hb13:Below W12.heap.size W12 W13:=by rw[hW13];exact(Below.refl _ _).alloc (Nat.le_refl _) _
 have hk13:KidsV W13 (some ⟨W12.heap.size,0,none⟩) 0 [txtN sXS]:=kids_one (by rw[hW13];exact six_alloc W12 _ _ _ _ _ _) (HN12.out.below hb13 (Nat.le_refl _))
 rw[← hW13]
 have HK13:=Lib.hid hk13
 have HB13:=Lib.hid (HB12.out.trans (hb13.mono HB12.out.size))
 have HC13:=Lib.hid (HC12.out.trans (hb13.mono HC12.out.size))
 clear hb13 hk13 hW13
 refine(e_any sBS [txtN sXS] _ 1 W13 (by simp) HK13).mono ?_
 rintro e W14 ⟨⟨v14,rfl,rfl,n14⟩,B14⟩
 have HN14:=Lib.hid n14
 have HB14:=Lib.hid (HB13.out.trans (B14.mono HB13.out.size))
 have HC14:=Lib.hid (HC13.out.trans (B14.mono HC13.out.size))
 clear n14 B14
 go_wp2_with fail
 obtain⟨W15,hW15⟩:∃ W15,W15=W14.alloc (.cells #[.int .i64 1,.int .i64 0,.string sBS,.slice none 0 0,.string ⟨#[]⟩,.slice (some ⟨W12.heap.size,0,none⟩) 1 1] 45):=⟨_,rfl⟩
 have hb15:Below W14.heap.size W14 W15:=by rw[hW15];exact(Below.refl _ _).alloc (Nat.le_refl _) _
 have hk15:KidsV W15 (some ⟨W14.heap.size,0,none⟩) 0 [elN sBS [txtN sXS]]:=kids_one (by rw[hW15];exact six_alloc W14 _ _ _ _ _ _) (HN14.out.below hb15 (Nat.le_refl _))
 rw[← hW15]
 have HK15:=Lib.hid hk15
 have HB15:=Lib.hid (HB14.out.trans (hb15.mono HB14.out.size))
 have HC15:=Lib.hid (HC14.out.trans (hb15.mono HC14.out.size))
 clear hb15 hk15 hW15
 refine(e_any sIS [elN sBS [txtN sXS]] _ 1 W15 (by simp) HK15).mono ?_
 rintro e W16 ⟨⟨v16,rfl,rfl,n16⟩,B16⟩
 have HN16:=Lib.hid n16
 have HB16:=Lib.hid (HB15.out.trans (B16.mono HB15.out.size))
 have HC16:=Lib.hid (HC15.out.trans (B16.mono HC15.out.size))
 clear n16 B16
 go_wp2_with fail
 obtain⟨W17,hW17⟩:∃ W17,W17=W16.alloc (.cells #[.int .i64 1,.int .i64 0,.string sIS,.slice none 0 0,.string ⟨#[]⟩,.slice (some ⟨W14.heap.size,0,none⟩) 1 1] 45):=⟨_,rfl⟩
 have hb17:Below W16.heap.size W16 W17:=by rw[hW17];exact(Below.refl _ _).alloc (Nat.le_refl _) _
 have hk17:KidsV W17 (some ⟨W16.heap.size,0,none⟩) 0 [elN sIS [elN sBS [txtN sXS]]]:=kids_one (by rw[hW17];exact six_alloc W16 _ _ _ _ _ _) (HN16.out.below hb17 (Nat.le_refl _))
 rw[← hW17]
 have HK17:=Lib.hid hk17
 have HB17:=Lib.hid (HB16.out.trans (hb17.mono HB16.out.size))
 have HC17:=Lib.hid (HC16.out.trans (hb17.mono HC16.out.size))
 clear hb17 hk17 hW17
 refine(e_any sBS [elN sIS [elN sBS [txtN sXS]]] _ 1 W17 (by simp) HK17).mono ?_
 rintro e W18 ⟨⟨v18,rfl,rfl,n18⟩,B18⟩
 have HN18:=Lib.hid n18
 have HB18:=Lib.hid (HB17.out.trans (B18.mono HB17.out.size))
 have HC18:=Lib.hid (HC17.out.trans (B18.mono HC17.out.size))
 clear n18 B18
 go_wp2_with fail
 obtain⟨W19,hW19⟩:∃ W19,W19=W18.alloc (.cells #[.int .i64 1,.int .i64 0,.string sBS,.slice none 0 0,.string ⟨#[]⟩,.slice (some ⟨W16.heap.size,0,none⟩) 1 1] 45):=⟨_,rfl⟩
 have hb19:Below W18.heap.size W18 W19:=by rw[hW19];exact(Below.refl _ _).alloc (Nat.le_refl _) _
 have hk19:KidsV W19 (some ⟨W18.heap.size,0,none⟩) 0 exTwo:=kids_one (by rw[hW19];exact six_alloc W18 _ _ _ _ _ _) (HN18.out.below hb19 (Nat.le_refl _))
 rw[← hW19]
 have HK19:=Lib.hid hk19
 have HB19:=Lib.hid (HB18.out.trans (hb19.mono HB18.out.size))
 have HC19:=Lib.hid (HC18.out.trans (hb19.mono HC18.out.size))
 clear hb19 hk19 hW19
 have hF:=cfilter_any A HA exTwo sBodyS W19 (some ⟨W18.heap.size,0,none⟩) 1 (Lib.hid (HT.out.below HB19.out (Nat.le_refl _))) (by decide +kernel) HK19
 rw[ex_two A hA] at hF
 refine hF.mono ?_
 clear hF
 rintro e W20 ⟨kb,kd,rfl,_,hk20,hb20⟩
 have HK20:=Lib.hid hk20
 have HB20:=Lib.hid (HB19.out.trans (hb20.mono HB19.out.size))
 have HC20:=Lib.hid (HC19.out.trans (hb20.mono HC19.out.size))
 clear hk20 hb20
 rw[show exOneOut.length=1 from rfl,show exTwoOut.length=1 from rfl]
 go_wp2_with fail
 obtain⟨ga,oa,a0,a1,a2,a3,a4,a5,rfl,sa,na⟩:=(HK11.out.kids.below HC20.out (Nat.le_refl _)).get exOneOut 0 0 (by decide)
 obtain⟨gb,ob,b0,b1,b2,b3,b4,b5,rfl,sb,nb⟩:=HK20.out.kids.get exTwoOut 0 0 (by decide)
 simp only[Nat.zero_mul,Nat.add_zero] at sa sb
 have SA:=Lib.hid sa
 have SB:=Lib.hid sb
 have NA:=Lib.hid (show NodeV W20 (elN sDivS [txtN ⟨#[120,122]⟩]) _ from na)
 have NB:=Lib.hid (show NodeV W20 (elN sBS [elN sIS [txtN sXS]]) _ from nb)
 clear sa sb na nb
 obtain⟨S,hS⟩:∃ S:World→Prop,∀ u,S u↔Below W20.heap.size W20 u:=⟨_,fun _=>Iff.rfl⟩
 have f0:∀ s:WIn S,s.w.cell? ⟨ga,oa,none⟩=some a0:=fun s=>(SA.out.below ((hS _).1 s.h) (Nat.le_refl _)).x0
 have f1:∀ s:WIn S,s.w.cell? ⟨ga,oa+1,none⟩=some a1:=fun s=>(SA.out.below ((hS _).1 s.h) (Nat.le_refl _)).x1
 have f2:∀ s:WIn S,s.w.cell? ⟨ga,oa+2,none⟩=some a2:=fun s=>(SA.out.below ((hS _).1 s.h) (Nat.le_refl _)).x2
 have f3:∀ s:WIn S,s.w.cell? ⟨ga,oa+3,none⟩=some a3:=fun s=>(SA.out.below ((hS _).1 s.h) (Nat.le_refl _)).x3
 have f4:∀ s:WIn S,s.w.cell? ⟨ga,oa+4,none⟩=some a4:=fun s=>(SA.out.below ((hS _).1 s.h) (Nat.le_refl _)).x4
 have f5:∀ s:WIn S,s.w.cell? ⟨ga,oa+5,none⟩=some a5:=fun s=>(SA.out.below ((hS _).1 s.h) (Nat.le_refl _)).x5
 have g0:∀ s:WIn S,s.w.cell? ⟨gb,ob,none⟩=some b0:=fun s=>(SB.out.below ((hS _).1 s.h) (Nat.le_refl _)).x0
 have g1:∀ s:WIn S,s.w.cell? ⟨gb,ob+1,none⟩=some b1:=fun s=>(SB.out.below ((hS _).1 s.h) (Nat.le_refl _)).x1
 have g2:∀ s:WIn S,s.w.cell? ⟨gb,ob+2,none⟩=some b2:=fun s=>(SB.out.below ((hS _).1 s.h) (Nat.le_refl _)).x2
 have g3:∀ s:WIn S,s.w.cell? ⟨gb,ob+3,none⟩=some b3:=fun s=>(SB.out.below ((hS _).1 s.h) (Nat.le_refl _)).x3
 have g4:∀ s:WIn S,s.w.cell? ⟨gb,ob+4,none⟩=some b4:=fun s=>(SB.out.below ((hS _).1 s.h) (Nat.le_refl _)).x4
 have g5:∀ s:WIn S,s.w.cell? ⟨gb,ob+5,none⟩=some b5:=fun s=>(SB.out.below ((hS _).1 s.h) (Nat.le_refl _)).x5
 haveI:Nonempty (WIn S):=⟨⟨W20,(hS _).2 (Below.refl _ _)⟩⟩
 have HSS:=Lib.hid hS
 clear hS
 refine region_segs 28 [([0,1,2,3,4,5,6],7),([],8),([],9),([],10),([11,12,13,14,15,16,17,18,19,20],21),([],22),([],23),([],24),([],25),([],26)] [27] S (by kernel_rfl) (by kernel_rfl) ((HSS.out _).2 (below_drewNm W20 1)) ?_
 have HBd:=Lib.hid (below_drewNm W20 1)
 generalize W20.drewN 1=Wd at *
 refine segs_step (fun K' hK'=>?_)
 simp only[pick,List.getElem?_cons_zero,List.getElem?_cons_succ,Option.getD_some]
 repeat (go_big_quiet_step (fail))
 refine wpQuiet_nil (hK' _ (fun Q1 hQ1=>?_))
 clear hK' K'
 simp only[pick,List.getElem?_cons_zero,List.getElem?_cons_succ,Option.getD_some]
 go_wp2_with fail
 refine(t_any ⟨#[120,122]⟩ Wd).mono ?_
 rintro e V1 ⟨⟨v1,rfl,rfl,n1⟩,B1⟩
 have HM1:=Lib.hid n1
 have HD1:=Lib.hid (HBd.out.trans (B1.mono HBd.out.size))
 clear n1 B1
 go_wp2_with fail
 refine hQ1 _ _ ((HSS.out _).2 HD1.out) (segs_step (fun K' hK'=>wpQuiet_nil (hK' _ (fun Q2 hQ2=>?_))))
 clear hK' K' hQ1 Q1
 simp only[pick,List.getElem?_cons_zero,List.getElem?_cons_succ,Option.getD_some]
 go_wp2_with fail
 obtain⟨V2,hV2⟩:∃ V2,V2=V1.alloc (.cells #[.int .i64 2,.int .i64 0,.string ⟨#[]⟩,.slice none 0 0,.string ⟨#[120,122]⟩,.slice none 0 0] 45):=⟨_,rfl⟩
 have hb2:Below V1.heap.size V1 V2:=by rw[hV2];exact(Below.refl _ _).alloc (Nat.le_refl _) _
 have hk2:KidsV V2 (some ⟨V1.heap.size,0,none⟩) 0 [txtN ⟨#[120,122]⟩]:=kids_one (by rw[hV2];exact six_alloc V1 _ _ _ _ _ _) (HM1.out.below hb2 (Nat.le_refl _))
 rw[← hV2]
 have HL2:=Lib.hid hk2
 have HD2:=Lib.hid (HD1.out.trans (hb2.mono HD1.out.size))
 clear hb2 hk2 hV2
 go_wp2_with fail
 refine hQ2 _ _ ((HSS.out _).2 HD2.out) (segs_step (fun K' hK'=>wpQuiet_nil (hK' _ (fun Q3 hQ3=>?_))))
 clear hK' K' hQ2 Q2
 simp only[pick,List.getElem?_cons_zero,List.getElem?_cons_succ,Option.getD_some]
 go_wp2_with fail
 refine(e_any sDivS [txtN ⟨#[120,122]⟩] _ 1 V2 (by simp) HL2).mono ?_
 rintro e V3 ⟨⟨v3,rfl,rfl,n3⟩,B3⟩
 have HM3:=Lib.hid n3
 have HD3:=Lib.hid (HD2.out.trans (B3.mono HD2.out.size))
 clear n3 B3
 go_wp2_with fail
 refine hQ3 _ _ ((HSS.out _).2 HD3.out) (segs_step (fun K' hK'=>wpQuiet_nil (hK' _ (fun Q4 hQ4=>?_))))
 clear hK' K' hQ3 Q3
 simp only[pick,List.getElem?_cons_zero,List.getElem?_cons_succ,Option.getD_some]
 go_wp2_with fail
 refine(same_node (elN sDivS [txtN ⟨#[120,122]⟩]).sz (elN sDivS [txtN ⟨#[120,122]⟩]) (Nat.le_refl _) _ _ V3 (Lib.hid (bk_sm.1 _ (by decide +kernel))) (Lib.hid (NA.out.below HD3.out (Nat.le_refl _))) HM3).mono ?_
 unfold SomeBool
 rintro e V4 ⟨rfl,B4⟩
 have HD4:=Lib.hid (HD3.out.trans (B4.mono HD3.out.size))
 clear B4
 go_wp2_with fail
 refine hQ4 _ _ ((HSS.out _).2 HD4.out) (segs_step (fun K' hK'=>?_))
 clear hQ4 Q4
 simp only[pick,List.getElem?_cons_zero,List.getElem?_cons_succ,Option.getD_some]
 repeat (go_big_quiet_step (fail))
 refine wpQuiet_nil (hK' _ (fun Q5 hQ5=>?_))
 clear hK' K'
 simp only[pick,List.getElem?_cons_zero,List.getElem?_cons_succ,Option.getD_some]
 go_wp2_with fail
 refine(t_any sXS V4).mono ?_
 rintro e V5 ⟨⟨v5,rfl,rfl,n5⟩,B5⟩
 have HM5:=Lib.hid n5
 have HD5:=Lib.hid (HD4.out.trans (B5.mono HD4.out.size))
 clear n5 B5
 go_wp2_with fail
 refine hQ5 _ _ ((HSS.out _).2 HD5.out) (segs_step (fun K' hK'=>wpQuiet_nil (hK' _ (fun Q6 hQ6=>?_))))
 clear hK' K' hQ5 Q5
 simp only[pick,List.getElem?_cons_zero,List.getElem?_cons_succ,Option.getD_some]
 go_wp2_with fail
 obtain⟨V6,hV6⟩:∃ V6,V6=V5.alloc (.cells #[.int .i64 2,.int .i64 0,.string ⟨#[]⟩,.slice none 0 0,.string sXS,.slice none 0 0] 45):=⟨_,rfl⟩
 have hb6:Below V5.heap.size V5 V6:=by rw[hV6];exact(Below.refl _ _).alloc (Nat.le_refl _) _
 have hk6:KidsV V6 (some ⟨V5.heap.size,0,none⟩) 0 [txtN sXS]:=kids_one (by rw[hV6];exact six_alloc V5 _ _ _ _ _ _) (HM5.out.below hb6 (Nat.le_refl _))
 rw[← hV6]
 have HL6:=Lib.hid hk6
 have HD6:=Lib.hid (HD5.out.trans (hb6.mono HD5.out.size))
 clear hb6 hk6 hV6
 go_wp2_with fail
 refine hQ6 _ _ ((HSS.out _).2 HD6.out) (segs_step (fun K' hK'=>wpQuiet_nil (hK' _ (fun Q7 hQ7=>?_))))
 clear hK' K' hQ6 Q6
 simp only[pick,List.getElem?_cons_zero,List.getElem?_cons_succ,Option.getD_some]
 go_wp2_with fail
 refine(e_any sIS [txtN sXS] _ 1 V6 (by simp) HL6).mono ?_
 rintro e V7 ⟨⟨v7,rfl,rfl,n7⟩,B7⟩
 have HM7:=Lib.hid n7
 have HD7:=Lib.hid (HD6.out.trans (B7.mono HD6.out.size))
 clear n7 B7
 go_wp2_with fail
 refine hQ7 _ _ ((HSS.out _).2 HD7.out) (segs_step (fun K' hK'=>wpQuiet_nil (hK' _ (fun Q8 hQ8=>?_))))
 clear hK' K' hQ7 Q7
 simp only[pick,List.getElem?_cons_zero,List.getElem?_cons_succ,Option.getD_some]
 go_wp2_with fail
 obtain⟨V8,hV8⟩:∃ V8,V8=V7.alloc (.cells #[.int .i64 1,.int .i64 0,.string sIS,.slice none 0 0,.string ⟨#[]⟩,.slice (some ⟨V5.heap.size,0,none⟩) 1 1] 45):=⟨_,rfl⟩
 have hb8:Below V7.heap.size V7 V8:=by rw[hV8];exact(Below.refl _ _).alloc (Nat.le_refl _) _
 have hk8:KidsV V8 (some ⟨V7.heap.size,0,none⟩) 0 [elN sIS [txtN sXS]]:=kids_one (by rw[hV8];exact six_alloc V7 _ _ _ _ _ _) (HM7.out.below hb8 (Nat.le_refl _))
 rw[← hV8]
 have HL8:=Lib.hid hk8
 have HD8:=Lib.hid (HD7.out.trans (hb8.mono HD7.out.size))
 clear hb8 hk8 hV8
 go_wp2_with fail
 refine hQ8 _ _ ((HSS.out _).2 HD8.out) (segs_step (fun K' hK'=>wpQuiet_nil (hK' _ (fun Q9 hQ9=>?_))))
 clear hK' K' hQ8 Q8
 simp only[pick,List.getElem?_cons_zero,List.getElem?_cons_succ,Option.getD_some]
 go_wp2_with fail
 refine(e_any sBS [elN sIS [txtN sXS]] _ 1 V8 (by simp) HL8).mono ?_
 rintro e V9 ⟨⟨v9,rfl,rfl,n9⟩,B9⟩
 have HM9:=Lib.hid n9
 have HD9:=Lib.hid (HD8.out.trans (B9.mono HD8.out.size))
 clear n9 B9
 go_wp2_with fail
 refine hQ9 _ _ ((HSS.out _).2 HD9.out) (segs_step (fun K' hK'=>wpQuiet_nil (hK' _ (fun Q10 hQ10=>?_))))
 clear hK' K' hQ9 Q9
 simp only[pick,List.getElem?_cons_zero,List.getElem?_cons_succ,Option.getD_some]
 go_wp2_with fail
 refine(same_node (elN sBS [elN sIS [txtN sXS]]).sz (elN sBS [elN sIS [txtN sXS]]) (Nat.le_refl _) _ _ V9 (Lib.hid (bk_sm.1 _ (by decide +kernel))) (Lib.hid (NB.out.below HD9.out (Nat.le_refl _))) HM9).mono ?_
 unfold SomeBool
 rintro e V10 ⟨rfl,B10⟩
 have HD10:=Lib.hid (HD9.out.trans (B10.mono HD9.out.size))
 clear B10
 go_wp2_with fail
 refine hQ10 _ _ ((HSS.out _).2 HD10.out) (segs_last (fun K' hK'=>?_))
 simp only[pick,List.getElem?_cons_zero,List.getElem?_cons_succ,Option.getD_some]
 repeat (go_big_quiet_step (fail))
 refine wpQuiet_nil (hK' _ (fun Qz hQz=>?_))
 clear hK' K'
 clear hQ10 Q10
 simp only[List.drop_succ_cons,List.drop_zero]
 go_wp2
 go_ret
 exact⟨rfl,HB20.out.trans (HD10.out.mono HB20.out.size)⟩
end Go.Proofs.YtcfgbdhpcboikaaGreatDoor
