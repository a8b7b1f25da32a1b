/-
  The law's broken node, plainly.
  The law's eight bad nodes, and the row in which they lie.
  policy.Holds of every node.
  The law's broken page: what it is, plainly; kids as cells in a row.
  What the law says of pages.
  The law's eight bad kids may stand nowhere.
-/
import Derived.Test.YtcfgbdhpcboikaaGreatDoorNodes
import Derived.Laws.Tables
import Derived.Test.YtcfgbdhpcboikaaGreatDoorHeldD
import Derived.Test.YtcfgbdhpcboikaaGreatDoorPageW
import Derived.RegionTactic
import Derived.BigRegion
import Derived.Test.YtcfgbdhpcboikaaGreatDoorHeldB
import Derived.Test.YtcfgbdhpcboikaaGreatDoorCellsA
namespace Go.Proofs.YtcfgbdhpcboikaaGreatDoor
set_option maxHeartbeats 8000000
set_option maxRecDepth 100000
open Go.RowKit
def Nd.put (n:Nd)(ks:List Nd):Nd:=.mk n.kind n.space n.name n.attrs n.text ks
theorem put_kids (n:Nd)(ks:List Nd):(n.put ks).kids=ks:=rfl
def brokenN (bad:Nd):Nat→Nd→Nd
 | 0,n=>n.put (n.kids++[bad])
 | d+1,n=>if h:n.kids=[] then n.put (n.kids++[bad]) else n.put (n.kids.dropLast++[brokenN bad d (n.kids.getLast h)])
open Go.RowKit
def bd0:Nd:=.mk 1 0 ⟨#[115,99,114,105,112,116]⟩ [] ⟨#[]⟩ []
def bd1:Nd:=.mk 1 1 ⟨#[97]⟩ [] ⟨#[]⟩ []
def bd2:Nd:=.mk 2 0 ⟨#[]⟩ [] ⟨#[]⟩ []
def bd3:Nd:=.mk 2 0 ⟨#[]⟩ [] ⟨#[97,0]⟩ []
def bd4:Nd:=.mk 1 0 ⟨#[120]⟩ [] ⟨#[]⟩ []
def bd5:Nd:=.mk 0 0 ⟨#[98]⟩ [] ⟨#[]⟩ []
def bd6:Nd:=.mk 2 0 ⟨#[]⟩ [] ⟨#[13]⟩ []
def onclickA:List (ByteArray × ByteArray):=[(⟨#[111,110,99,108,105,99,107]⟩,⟨#[]⟩)]
def bd7:Nd:=.mk 1 0 ⟨#[98]⟩ onclickA ⟨#[]⟩ []
def badNd (j:Nat):Nd:=(#[bd0,bd1,bd2,bd3,bd4,bd5,bd6,bd7]:Array Nd).getD j bd0
theorem bad_leaf (w:World)(k s:Int)(nm tx:ByteArray):NodeV w (.mk k s nm [] tx []) (.agg #[.int .i64 k,.int .i64 s,.string nm,.slice none 0 0,.string tx,.slice none 0 0]):=by
 unfold NodeV
 exact⟨_,none,0,rfl,by simp,⟨none,0,rfl,fun j h=>absurd h (by simp)⟩,by unfold KidsV;trivial⟩
def NodeAt (w:World)(g o:Nat)(n:Nd):Prop :=
 ∃ a1 c1 a2 c2,Six w g o (.int .i64 n.kind) (.int .i64 n.space) (.string n.name) (.slice a1 n.attrs.length c1) (.string n.text) (.slice a2 n.kids.length c2) ∧
  NodeV w n (.agg #[.int .i64 n.kind,.int .i64 n.space,.string n.name,.slice a1 n.attrs.length c1,.string n.text,.slice a2 n.kids.length c2])
def badRow (w:World):Array Value:=#[.int .i64 1,.int .i64 0,.string ⟨#[115,99,114,105,112,116]⟩,.slice none 0 0,.string ⟨#[]⟩,.slice none 0 0,.int .i64 1,.int .i64 1,.string ⟨#[97]⟩,.slice none 0 0,.string ⟨#[]⟩,.slice none 0 0,.int .i64 2,.int .i64 0,.string ⟨#[]⟩,.slice none 0 0,.string ⟨#[]⟩,.slice none 0 0,.int .i64 2,.int .i64 0,.string ⟨#[]⟩,.slice none 0 0,.string ⟨#[97,0]⟩,.slice none 0 0,.int .i64 1,.int .i64 0,.string ⟨#[120]⟩,.slice none 0 0,.string ⟨#[]⟩,.slice none 0 0,.int .i64 0,.int .i64 0,.string ⟨#[98]⟩,.slice none 0 0,.string ⟨#[]⟩,.slice none 0 0,.int .i64 2,.int .i64 0,.string ⟨#[]⟩,.slice none 0 0,.string ⟨#[13]⟩,.slice none 0 0,.int .i64 1,.int .i64 0,.string ⟨#[98]⟩,.slice (some ⟨w.heap.size,0,none⟩) 1 1,.string ⟨#[]⟩,.slice none 0 0]
def badWorld (w:World):World:=(w.alloc (.cells #[.string ⟨#[111,110,99,108,105,99,107]⟩,.string ⟨#[]⟩] 39)).alloc (.cells (badRow w) 45)
theorem bad_below (w:World):Below w.heap.size w (badWorld w):=((Below.refl _ w).alloc (Nat.le_refl _) _).alloc (by simp) _
theorem bad_row (w:World)(j:Nat)(hj:j<8):NodeAt (badWorld w) (w.heap.size+1) (j*6) (badNd j):=by
 have hrow:(badWorld w).heap[w.heap.size+1]?=some (.cells (badRow w) 45 (0,0)):=by
  have h:=heap_alloc_new (w.alloc (.cells #[.string ⟨#[111,110,99,108,105,99,107]⟩,.string ⟨#[]⟩] 39)) (.cells (badRow w) 45)
  simpa [badWorld] using h
 have ha:(badWorld w).heap[w.heap.size]?=some (.cells #[.string ⟨#[111,110,99,108,105,99,107]⟩,.string ⟨#[]⟩] 39 (0,0)):=by
  unfold badWorld
  rw[Below.heap_alloc _ _ _ (by simp)]
  exact heap_alloc_new w _
 have h:∀ i u,(badRow w)[i]?=some u→(badWorld w).cell? ⟨w.heap.size+1,i,none⟩=some u:=fun i u hi=>by rw[cell_of_row _ _ i _ 45 (0,0) hrow];exact hi
 generalize badWorld w=W at h ha
 match j,hj with
 | 0,_=>exact⟨none,0,none,0,⟨h _ _ rfl,h _ _ rfl,h _ _ rfl,h _ _ rfl,h _ _ rfl,h _ _ rfl⟩,bad_leaf W _ _ _ _⟩
 | 1,_=>exact⟨none,0,none,0,⟨h _ _ rfl,h _ _ rfl,h _ _ rfl,h _ _ rfl,h _ _ rfl,h _ _ rfl⟩,bad_leaf W _ _ _ _⟩
 | 2,_=>exact⟨none,0,none,0,⟨h _ _ rfl,h _ _ rfl,h _ _ rfl,h _ _ rfl,h _ _ rfl,h _ _ rfl⟩,bad_leaf W _ _ _ _⟩
 | 3,_=>exact⟨none,0,none,0,⟨h _ _ rfl,h _ _ rfl,h _ _ rfl,h _ _ rfl,h _ _ rfl,h _ _ rfl⟩,bad_leaf W _ _ _ _⟩
 | 4,_=>exact⟨none,0,none,0,⟨h _ _ rfl,h _ _ rfl,h _ _ rfl,h _ _ rfl,h _ _ rfl,h _ _ rfl⟩,bad_leaf W _ _ _ _⟩
 | 5,_=>exact⟨none,0,none,0,⟨h _ _ rfl,h _ _ rfl,h _ _ rfl,h _ _ rfl,h _ _ rfl,h _ _ rfl⟩,bad_leaf W _ _ _ _⟩
 | 6,_=>exact⟨none,0,none,0,⟨h _ _ rfl,h _ _ rfl,h _ _ rfl,h _ _ rfl,h _ _ rfl,h _ _ rfl⟩,bad_leaf W _ _ _ _⟩
 | 7,_ =>
  refine⟨some ⟨w.heap.size,0,none⟩,1,none,0,⟨h _ _ rfl,h _ _ rfl,h _ _ rfl,h _ _ rfl,h _ _ rfl,h _ _ rfl⟩,?_⟩
  show NodeV W bd7 _
  unfold bd7 NodeV
  refine⟨_,none,0,rfl,by simp,⟨some ⟨w.heap.size,0,none⟩,1,rfl,fun i hi=>?_⟩,by unfold KidsV;trivial⟩
  have:i=0:=by simp[onclickA] at hi;omega
  subst this
  exact⟨w.heap.size,0,rfl,by rw[cell_of_row _ _ _ _ 39 (0,0) ha];rfl,by rw[cell_of_row _ _ _ _ 39 (0,0) ha];rfl⟩
open Go.RowKit
def pageHolds (VV:VFam)(n:Nd):Prop :=
 0≤fewL 32 n 1000∧plainN n sHtml=true∧∃ h b,n.kids=[h,b]∧plainN h sHead=true∧headsB h.kids=true∧plainN b sBody=true∧HoldsN VV [] b
theorem two_boxes (w:World)(c0 c1 c2 c3 c4 c5 d0 d1 d2 d3 d4 d5:Value) :
  Six (((w.alloc (.cells #[c0,c1,c2,c3,c4,c5] 45)).alloc (.cells #[d0,d1,d2,d3,d4,d5] 45)).drew) w.heap.size 0 c0 c1 c2 c3 c4 c5 ∧
  Six (((w.alloc (.cells #[c0,c1,c2,c3,c4,c5] 45)).alloc (.cells #[d0,d1,d2,d3,d4,d5] 45)).drew) (w.heap.size+1) 0 d0 d1 d2 d3 d4 d5 ∧
  Below w.heap.size w (((w.alloc (.cells #[c0,c1,c2,c3,c4,c5] 45)).alloc (.cells #[d0,d1,d2,d3,d4,d5] 45)).drew):=by
 refine⟨?_,?_,(((Below.refl _ w).alloc (Nat.le_refl _) _).alloc (by simp) _).drew⟩
 ·exact(six_alloc w c0 c1 c2 c3 c4 c5).below ((Below.refl _ (w.alloc _)).alloc (Nat.le_refl _) _).drew (Nat.le_refl _)
 ·have h:=(six_alloc (w.alloc (.cells #[c0,c1,c2,c3,c4,c5] 45)) d0 d1 d2 d3 d4 d5).below (Below.refl _ _).drew (Nat.le_refl _)
  rw[show(w.alloc (.cells #[c0,c1,c2,c3,c4,c5] 45)).heap.size=w.heap.size+1 by simp] at h
  exact h
theorem holds_all (VV:VFam)(hV:Hid (VFok VV))(n:Nd)(hz:n.sz≤1000000)(v:Value)(r:Bool)(w:World)(HT:Hid (Tabs w))(HS:Hid (SmN n))(hN:Hid (NodeV w n v))(hr:Hid (r=true↔pageHolds VV n)) :
  Calls Tryz.prog 41 #[v] w (SomeBool r w):=by
 obtain⟨av,a,c,rfl,hA,hK,hlen⟩:=hN.out.get
 obtain⟨aa,ca,rfl,hAA⟩:=hA
 have HK:=Lib.hid hK
 have HSZ:=Lib.hid (show n.sz=1+szAll n.kids from sz_kids n)
 have HSN:=Lib.hid HS.out.get
 have HZ:=Lib.hid hz
 have NO:=fun(h:¬ pageHolds VV n)=>(show r=false by cases hrr:r with|false=>rfl|true=>exact absurd (hr.out.1 hrr) h)
 have HNO:=Lib.hid NO
 clear hK hAA hz NO
 obtain⟨L,hL⟩:∃ L,fewL 32 n 1000=L:=⟨_,rfl⟩
 have HL:=Lib.hid hL
 have HF:=Lib.hid (fun W hW=>few_any n.sz n (Nat.le_refl _) (.agg #[.int .i64 n.kind,.int .i64 n.space,.string n.name,.slice aa n.attrs.length ca,.string n.text,.slice a n.kids.length c]) 32 32 1000 L W (Lib.hid rfl) (by omega) (by omega) (by omega) hW HL)
 have HP:=Lib.hid (fun W=>plain_any n.kind n.space n.name n.text aa n.attrs.length ca (.slice a n.kids.length c) sHtml W (plainN n sHtml) (Lib.hid rfl))
 clear hL
 generalize hkl:n.kids.length=kl at *
 generalize hal:n.attrs.length=al at *
 have HKL:=Lib.hid hkl
 clear hkl hal
 obtain⟨W0,hW0⟩:∃ W0,W0=w.alloc (.cells #[.int .i64 n.kind,.int .i64 n.space,.string n.name,.slice aa al ca,.string n.text,.slice a kl c] 45):=⟨_,rfl⟩
 have hB0:Below w.heap.size w W0:=by rw[hW0];exact(Below.refl _ w).alloc (Nat.le_refl _) _
 have hQ:=six_alloc w (.int .i64 n.kind) (.int .i64 n.space) (.string n.name) (.slice aa al ca) (.string n.text) (.slice a kl c)
 rw[← hW0] at hQ
 have HQ:=Lib.hid hQ
 have HB0:=Lib.hid hB0
 have HW0:=Lib.hid hW0
 clear hQ hB0 hW0
 go_enter Tryz.func41,Tryz.ntmps41
 go_wp2_with fail
 rw[← HW0.out]
 refine(HF.out W0 (Lib.hid (hN.out.below HB0.out (Nat.le_refl _)))).mono ?_
 rintro e W1 ⟨rfl,B1⟩
 obtain⟨q0,q1,q2,q3,q4,q5⟩:=(HQ.out.below B1 (Nat.le_refl _)).zero
 have HQ1:=Lib.hid (HQ.out.below B1 (Nat.le_refl _))
 have HB1:=Lib.hid (HB0.out.trans (B1.mono HB0.out.size))
 clear B1 HF HQ HB0 HW0
 rcases Int.lt_or_le L 0 with hneg|hpos
 ·have HR:=Lib.hid (HNO.out (fun h=>absurd h.1 (by rw[HL.out];omega)))
  have e0:decide (L<0)=true:=decide_eq_true hneg
  go_wp2
  go_ret
  exact⟨by rw[HR.out];rfl,HB1.out⟩
 ·have e0:decide (L<0)=false:=decide_eq_false (by omega)
  have HPOS:=Lib.hid hpos
  clear hpos
  go_wp2_with fail
  refine(HP.out _).mono ?_
  unfold SomeBool
  rintro e W2 ⟨rfl,B2⟩
  have HQ2:=Lib.hid (HQ1.out.below B2 (Nat.le_refl _))
  have HB2:=Lib.hid (HB1.out.trans (B2.mono HB1.out.size))
  clear B2 HP HQ1 HB1 e0 q0 q1 q2 q3 q4 q5
  obtain⟨q0,q1,q2,q3,q4,q5⟩:=HQ2.out.zero
  cases hp:plainN n sHtml with
  | false =>
   have HR:=Lib.hid (HNO.out (fun h=>by have h1:=h.2.1;rw[hp] at h1;cases h1))
   clear hp
   go_wp2
   go_ret
   exact⟨by rw[HR.out];rfl,HB2.out⟩
  | true =>
   have HPP:=Lib.hid hp
   clear hp
   by_cases h2:kl=2
   ·subst h2
    obtain⟨kh,kb,hk2⟩:∃ h b,n.kids=[h,b]:=by
     have h:=HKL.out
     match hkk:n.kids with
     | []=>rw[hkk] at h;simp at h
     | [_]=>rw[hkk] at h;simp at h
     | [x,y]=>exact⟨x,y,rfl⟩
     | _ :: _ :: _ :: _=>rw[hkk] at h;simp at h
    have hkk:=HK.out
    have hss:=HSN.out.2.2.2.2
    have hzz:=HSZ.out
    have hnn:∀ x,x∈n.kids→x.sz≤szAll n.kids:=(szAll_mem n.kids).1
    rw[hk2] at hkk hss hzz hnn
    obtain⟨g,off,c0,c1,c2,c3,c4,c5,rfl,h6,hn6⟩:=hkk.get [kh,kb] 0 0 (by simp)
    obtain⟨g',off',d0,d1,d2,d3,d4,d5,e,h7,hn7⟩:=hkk.get [kh,kb] 0 1 (by simp)
    cases e
    simp only[List.getElem_cons_succ,List.getElem_cons_zero,Nat.zero_add,Nat.zero_mul,Nat.one_mul,Nat.add_zero] at h6 h7 hn6 hn7
    obtain⟨a1,b1,a2,b2,rfl,rfl,rfl,rfl,rfl,rfl⟩:=hn6.cells
    obtain⟨l1,l2,l3,l4,rfl,rfl,rfl,rfl,rfl,rfl⟩:=hn7.cells
    have HN6:=Lib.hid hn6
    have HN7:=Lib.hid hn7
    have HSH:=Lib.hid (show SmN kh by unfold SmK at hss;exact hss.1)
    have HSB:=Lib.hid (show SmN kb by unfold SmK at hss;obtain⟨_,h⟩:=hss;unfold SmK at h;exact h.1)
    have HZB:=Lib.hid (show kb.sz≤1000000 by have h1:=hnn kb (by simp);have h2:=HZ.out;omega)
    have hzh:kh.kids.length≤2000000:=by
     have h1:=hnn kh (by simp)
     have h2:=HZ.out
     have h3:=sz_kids kh
     have h4:=(szAll_mem kh.kids).2
     omega
    have HK2:=Lib.hid hk2
    obtain⟨x0,x1,x2,x3,x4,x5⟩:=h6.below HB2.out (Nat.le_refl _)
    obtain⟨z0,z1,z2,z3,z4,z5⟩:=h7.below HB2.out (Nat.le_refl _)
    have hg1:g<W2.heap.size:=World.block_lt_of_cell? W2 _ x0
    have hg2:w.heap.size<W2.heap.size:=World.block_lt_of_cell? W2 _ q5
    have hg3:¬ g=W2.heap.size:=by omega
    have hg4:¬ w.heap.size=W2.heap.size:=by omega
    have hg5:¬ g=W2.heap.size+1:=by omega
    have hg6:¬ w.heap.size=W2.heap.size+1:=by omega
    have hg7:¬ W2.heap.size=g:=by omega
    have hg8:¬ W2.heap.size=w.heap.size:=by omega
    have HZH:=Lib.hid hzh
    clear hkk hss hzz hnn hk2 hn6 hn7 h6 h7 hzh
    go_upto_region 3 with fail
    go_cut [3,4] (fun p3 p4 wx=>∃ gh gb,p3=.pointer (some ⟨gh,0,none⟩)∧p4=.pointer (some ⟨gb,0,none⟩)∧Hid (Six wx gh 0 (.int .i64 kh.kind) (.int .i64 kh.space) (.string kh.name) (.slice a1 kh.attrs.length b1) (.string kh.text) (.slice a2 kh.kids.length b2))∧Hid (Six wx gb 0 (.int .i64 kb.kind) (.int .i64 kb.space) (.string kb.name) (.slice l1 kb.attrs.length l2) (.string kb.text) (.slice l3 kb.kids.length l4))∧Hid (Below W2.heap.size W2 wx))
    case first =>
     go_region
     all_goals (
      clear x0 x1 x2 x3 x4 x5 z0 z1 z2 z3 z4 z5 q0 q1 q2 q3 q4 q5 hg1 hg2 hg3 hg4 hg5 hg6 hg7 hg8
      go_wp2_with fail
      go_meet)
     all_goals first
      | exact⟨_,_,rfl,rfl,Lib.hid (two_boxes W2 _ _ _ _ _ _ _ _ _ _ _ _).1,Lib.hid (two_boxes W2 _ _ _ _ _ _ _ _ _ _ _ _).2.1,Lib.hid (two_boxes W2 _ _ _ _ _ _ _ _ _ _ _ _).2.2⟩
      | exact⟨_,_,rfl,rfl,Lib.hid (two_boxes W2 _ _ _ _ _ _ _ _ _ _ _ _).2.1,Lib.hid (two_boxes W2 _ _ _ _ _ _ _ _ _ _ _ _).1,Lib.hid (two_boxes W2 _ _ _ _ _ _ _ _ _ _ _ _).2.2⟩
    case rest =>
     obtain⟨gh,gb,rfl,rfl,SH,SB,hBc⟩:=hcut
     clear x0 x1 x2 x3 x4 x5 z0 z1 z2 z3 z4 z5 q0 q1 q2 q3 q4 q5 hg1 hg2 hg3 hg4 hg5 hg6 hg7 hg8
     have HBc:=Lib.hid (HB2.out.trans (hBc.out.mono HB2.out.size))
     have HPH:=Lib.hid (fun W=>plain_any kh.kind kh.space kh.name kh.text a1 kh.attrs.length b1 (.slice a2 kh.kids.length b2) sHead W (plainN kh sHead) (Lib.hid rfl))
     have HPB:=Lib.hid (fun W=>plain_any kb.kind kb.space kb.name kb.text l1 kb.attrs.length l2 (.slice l3 kb.kids.length l4) sBody W (plainN kb sBody) (Lib.hid rfl))
     have HHD:=Lib.hid (fun W hT hK=>heads_any kh.kids a2 b2 HZH.out W hT (Lib.hid HSH.out.get.2.2.2.2) hK (headsB kh.kids) (Lib.hid rfl))
     have HKH:=Lib.hid HN6.out.kidsV
     obtain⟨br,hbr⟩:∃ br:Bool,br=true↔HoldsN VV [] kb:=by
      by_cases h:HoldsN VV [] kb
      ·exact⟨true,fun _=>h,fun _=>rfl⟩
      ·exact⟨false,⟨fun e=>(by cases e),fun e=>absurd e h⟩⟩
     have HBR:=Lib.hid hbr
     have NO:=fun(h:¬ (plainN kh sHead=true∧headsB kh.kids=true∧plainN kb sBody=true∧br=true))=>HNO.out (fun hp=>by
      obtain⟨_,_,x,y,hk,p1,p2,p3,p4⟩:=hp
      rw[HK2.out] at hk
      simp only[List.cons.injEq,and_true] at hk
      obtain⟨rfl,rfl⟩:=hk
      exact h ⟨p1,p2,p3,HBR.out.2 p4⟩)
     have HNO2:=Lib.hid NO
     have YES:=fun(h1:plainN kh sHead=true) (h2:headsB kh.kids=true) (h3:plainN kb sBody=true) (h4:br=true)=>hr.out.2 ⟨by rw[HL.out];exact HPOS.out,HPP.out,kh,kb,HK2.out,h1,h2,h3,HBR.out.1 h4⟩
     have HYES:=Lib.hid YES
     clear hbr NO YES
     obtain⟨x0,x1,x2,x3,x4,x5⟩:=SH.out.zero
     go_wp2_with fail
     refine(HPH.out _).mono ?_
     unfold SomeBool
     rintro e W5 ⟨rfl,B5⟩
     have SH5:=Lib.hid (SH.out.below B5 (Nat.le_refl _))
     have SB5:=Lib.hid (SB.out.below B5 (Nat.le_refl _))
     have HB5:=Lib.hid (HBc.out.trans (B5.mono HBc.out.size))
     clear B5 SH SB HPH x0 x1 x2 x3 x4 x5
     obtain⟨x0,x1,x2,x3,x4,x5⟩:=SH5.out.zero
     cases c1:plainN kh sHead with
     | false =>
      have HR:=Lib.hid (HNO2.out (fun h=>by have h1:=h.1;rw[c1] at h1;cases h1))
      clear c1
      go_wp2
      go_ret
      exact⟨by rw[HR.out];rfl,HB5.out⟩
     | true =>
      have C1:=Lib.hid c1
      clear c1
      go_wp2_with fail
      refine(HHD.out W5 (Lib.hid (HT.out.below HB5.out (Nat.le_refl _))) (Lib.hid (HKH.out.below HB5.out (Nat.le_refl _)))).mono ?_
      unfold SomeBool
      rintro e W6 ⟨rfl,B6⟩
      have SB6:=Lib.hid (SB5.out.below B6 (Nat.le_refl _))
      have HB6:=Lib.hid (HB5.out.trans (B6.mono HB5.out.size))
      clear B6 SH5 SB5 HHD x0 x1 x2 x3 x4 x5
      obtain⟨x0,x1,x2,x3,x4,x5⟩:=SB6.out.zero
      cases c2:headsB kh.kids with
      | false =>
       have HR:=Lib.hid (HNO2.out (fun h=>by have h1:=h.2.1;rw[c2] at h1;cases h1))
       clear c2
       go_wp2
       go_ret
       exact⟨by rw[HR.out];rfl,HB6.out⟩
      | true =>
       have C2:=Lib.hid c2
       clear c2
       go_wp2_with fail
       refine(HPB.out _).mono ?_
       unfold SomeBool
       rintro e W7 ⟨rfl,B7⟩
       have SB7:=Lib.hid (SB6.out.below B7 (Nat.le_refl _))
       have HB7:=Lib.hid (HB6.out.trans (B7.mono HB6.out.size))
       clear B7 SB6 HPB x0 x1 x2 x3 x4 x5
       obtain⟨x0,x1,x2,x3,x4,x5⟩:=SB7.out.zero
       cases c3:plainN kb sBody with
       | false =>
        have HR:=Lib.hid (HNO2.out (fun h=>by have h1:=h.2.2.1;rw[c3] at h1;cases h1))
        clear c3
        go_wp2
        go_ret
        exact⟨by rw[HR.out];rfl,HB7.out⟩
       | true =>
        have C3:=Lib.hid c3
        clear c3
        go_wp2_with fail
        refine(holds_any VV hV kb.sz kb (Nat.le_refl _) _ (.slice none 0 0) [] br W7 (Lib.hid (HT.out.below HB7.out (Nat.le_refl _))) HSB (Lib.hid (by have:=HZB.out;simp;omega)) (Lib.hid (HN7.out.below HB7.out (Nat.le_refl _))) (Lib.hid (Phr.nil W7)) HBR).mono ?_
        unfold SomeBool
        rintro e W8 ⟨rfl,B8⟩
        have HB8:=Lib.hid (HB7.out.trans (B8.mono HB7.out.size))
        clear B8 x0 x1 x2 x3 x4 x5
        cases br with
        | false =>
         have HR:=Lib.hid (HNO2.out (fun h=>by cases h.2.2.2))
         go_wp2
         go_ret
         exact⟨by rw[HR.out];rfl,HB8.out⟩
        | true =>
         have HR:=Lib.hid (HYES.out C1.out C2.out C3.out rfl)
         go_wp2
         go_ret
         exact⟨by rw[HR.out];rfl,HB8.out⟩
   ·have HR:=Lib.hid (HNO.out (fun h=>by
     obtain⟨_,_,x,y,hk,_⟩:=h
     have:=HKL.out
     rw[hk] at this
     exact h2 this.symm))
    have e2:((kl:Int) !=2)=true:=by rw[bne_iff_ne];omega
    go_wp2
    go_ret
    exact⟨by rw[HR.out];rfl,HB2.out⟩
open Go.RowKit
def Bad (VV:VFam)(b:Nd):Prop:=∀ pn ph prev,¬ kidOk VV pn ph prev b
theorem holdsK_last (VV:VFam)(pn:ByteArray)(ph:List ByteArray)(x:Nd):∀ (ks:List Nd) (prev:Option Nd),HoldsK VV pn ph prev (ks++[x])→∃ prev',kidOk VV pn ph prev' x∧(wordsN x=false→HoldsN VV ph x):=by
 intro ks
 induction ks with
 | nil=>intro prev h;rw[List.nil_append] at h;unfold HoldsK at h;exact⟨prev,h.1⟩
 | cons k ks ih =>
  intro prev h
  rw[List.cons_append] at h
  unfold HoldsK at h
  exact ih _ h.2
theorem words_put {n:Nd}{ks:List Nd}(h:ks≠[]):wordsN (n.put ks)=false:=by
 unfold wordsN wordsB
 have:decide ((n.put ks).kids.length=0)=false:=decide_eq_false (by rw[put_kids];intro e;exact h (List.eq_nil_of_length_eq_zero e))
 rw[this]
 simp
theorem broken_put (bad:Nd)(d:Nat)(n:Nd):∃ ks,ks≠[]∧brokenN bad d n=n.put ks:=by
 cases d with
 | zero=>exact⟨_,by simp,rfl⟩
 | succ d =>
  by_cases h:n.kids=[]
  ·exact⟨n.kids++[bad],by simp,by rw[brokenN,dif_pos h]⟩
  ·exact⟨n.kids.dropLast++[brokenN bad d (n.kids.getLast h)],by simp,by rw[brokenN,dif_neg h]⟩
theorem broken_no (VV:VFam)(bad:Nd)(hb:Bad VV bad):∀ (d:Nat) (n:Nd) (ph:List ByteArray),¬ HoldsN VV ph (brokenN bad d n):=by
 intro d
 induction d with
 | zero =>
  intro n ph h
  rw[holdsN_eq] at h
  obtain⟨p,h1,_⟩:=holdsK_last VV _ _ _ _ _ h
  exact hb _ _ _ h1
 | succ d ih =>
  intro n ph h
  unfold brokenN at h
  split at h
  ·rw[holdsN_eq] at h
   obtain⟨p,h1,_⟩:=holdsK_last VV _ _ _ _ _ h
   exact hb _ _ _ h1
  ·rw[holdsN_eq] at h
   obtain⟨p,_,h2⟩:=holdsK_last VV _ _ _ _ _ h
   obtain⟨ks,hk,e⟩:=broken_put bad d (n.kids.getLast ‹_›)
   exact ih _ _ (h2 (by rw[e];exact words_put hk))
open Go.RowKit
theorem broken_page {VV:VFam}{bad:Nd}(hb:Bad VV bad)(x:Nd)(d:Nat)(n:Nd):¬ pageHolds VV (htmlNd [x,brokenN bad d n]):=by
 rintro⟨_,_,x',y,e,_,_,_,h⟩
 have e':[x,brokenN bad d n]=[x',y]:=e
 simp only[List.cons.injEq,and_true] at e'
 rw[← e'.2] at h
 exact broken_no VV bad hb d n [] h
theorem titled_page {VV:VFam}(x:Nd)(ks:List Nd)(k t:ByteArray):¬ pageHolds VV (htmlNd [x,.mk 1 0 sBody [(k,t)] ⟨#[]⟩ ks]):=by
 rintro⟨_,_,x',y,e,_,_,hp,_⟩
 have e':[x,.mk 1 0 sBody [(k,t)] ⟨#[]⟩ ks]=[x',y]:=e
 simp only[List.cons.injEq,and_true] at e'
 rw[← e'.2] at hp
 unfold plainN plainB at hp
 have:decide ((Nd.mk 1 0 sBody [(k,t)] ⟨#[]⟩ ks).attrs.length=0)=false:=rfl
 rw[this] at hp
 simp at hp
theorem three_page {VV:VFam}(x y z:Nd):¬ pageHolds VV (htmlNd [x,y,z]):=by
 rintro⟨_,_,x',y',e,_⟩
 have e':[x,y,z]=[x',y']:=e
 simp at e'
open Go.RowKit
theorem bad_by {VV:VFam}{b:Nd}(h1:wordsN b=false)(h2:elemN b=false∨(∀ p:List UInt8,mayL p b.name.data.toList=false)∨¬ AttrsR (VV b.name) b.attrs b.attrs):Bad VV b:=by
 intro pn ph prev h
 rcases h with h|⟨_,a1,a2,_,_,a5⟩
 ·rw[h1] at h;cases h.1
 ·rcases h2 with h2|h2|h2
  ·rw[h2] at a1;cases a1
  ·rw[h2] at a2;cases a2
  ·exact h2 a5
theorem may_low:∀ p<15,∀ k<2,∀ b:Bool,mayN p k b=false:=by decide +kernel
theorem may_none (k:List UInt8)(hk:kindL k<2)(p:List UInt8):mayL p k=false:=may_low _ (by have:=kindL_le p;omega) _ hk _
theorem bad0 (VV:VFam):Bad VV bd0:=bad_by (by decide +kernel) (.inr (.inl (may_none _ (by decide +kernel))))
theorem bad1 (VV:VFam):Bad VV bd1:=bad_by (by decide +kernel) (.inl (by decide +kernel))
theorem bad2 (VV:VFam):Bad VV bd2:=bad_by (by decide +kernel) (.inl (by decide +kernel))
theorem bad3 (VV:VFam):Bad VV bd3:=bad_by (by decide +kernel) (.inl (by decide +kernel))
theorem bad4 (VV:VFam):Bad VV bd4:=bad_by (by decide +kernel) (.inr (.inl (may_none _ (by decide +kernel))))
theorem bad5 (VV:VFam):Bad VV bd5:=bad_by (by decide +kernel) (.inl (by decide +kernel))
theorem bad6 (VV:VFam):Bad VV bd6:=bad_by (by decide +kernel) (.inl (by decide +kernel))
theorem bad7 (VV:VFam)(hV:VFok VV):Bad VV bd7:=by
 refine bad_by (by decide +kernel) (.inr (.inr ?_))
 have h:=hV ⟨#[98]⟩ ⟨#[111,110,99,108,105,99,107]⟩ ⟨#[]⟩ (by decide) (by decide) (by decide)
 have hk:fkind ⟨#[98]⟩ ⟨#[111,110,99,108,105,99,107]⟩=.none:=by decide +kernel
 have hn:VV ⟨#[98]⟩ ⟨#[111,110,99,108,105,99,107]⟩ ⟨#[]⟩=none:=by
  cases hv:VV ⟨#[98]⟩ ⟨#[111,110,99,108,105,99,107]⟩ ⟨#[]⟩ with
  | none=>rfl
  | some t =>
   rw[hv] at h
   have h2:=h.2.1
   rw[hk] at h2
   exact h2.elim
 intro hr
 have hp:=hr.1.length_eq
 have he:attrsGo (VV bd7.name) [] bd7.attrs=[]:=by
  show attrsGo (VV ⟨#[98]⟩) [] [(⟨#[111,110,99,108,105,99,107]⟩,⟨#[]⟩)]=[]
  unfold attrsGo
  rw[if_neg (by decide),hn]
  unfold attrsGo
  rfl
 rw[he] at hp
 exact absurd hp (by decide)
theorem bad_all (VV:VFam)(hV:VFok VV):∀ j<8,Bad VV (badNd j):=by
 intro j hj
 match j,hj with
 | 0,_=>exact bad0 VV
 | 1,_=>exact bad1 VV
 | 2,_=>exact bad2 VV
 | 3,_=>exact bad3 VV
 | 4,_=>exact bad4 VV
 | 5,_=>exact bad5 VV
 | 6,_=>exact bad6 VV
 | 7,_=>exact bad7 VV hV
end Go.Proofs.YtcfgbdhpcboikaaGreatDoor
