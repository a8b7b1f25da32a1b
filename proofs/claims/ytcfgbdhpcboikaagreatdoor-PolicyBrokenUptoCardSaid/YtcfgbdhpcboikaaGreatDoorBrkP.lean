/-
  The law's broken: what it gives.
-/
import Derived.Test.YtcfgbdhpcboikaaGreatDoorBrkN
import Derived.Test.YtcfgbdhpcboikaaGreatDoorCellsA
import Derived.Test.YtcfgbdhpcboikaaGreatDoorSched
import Derived.Deep.DeepCutAuto
import Derived.Deep.CutRange
import Derived.BigQuiet
import Derived.BigRegion
import Derived.RegionTactic
import Derived.WalkMore
namespace Go.Proofs.YtcfgbdhpcboikaaGreatDoor
set_option maxHeartbeats 8000000
set_option maxRecDepth 100000
open Go.RowKit
theorem below_drw (w:World):∀ n,Below w.heap.size w (w.drewN n)
 | 0=>Below.refl _ w
 | n+1=>(below_drw w n).drew
theorem Tryz.info45:(Tryz.prog.info? 45).map (fun i=>(i.zero,i.size,i.bytes))=some (some (.agg #[.int .i64 0,.int .i64 0,.string ⟨#[]⟩,.slice none 0 0,.string ⟨#[]⟩,.slice none 0 0]),6,96):=by kernel_rfl
def OldNew (B:Nat)(w:World)(g:Nat):Prop:=g<B∨w.heap.size≤g
def BrkPost (B:Nat)(x:Nd)(w:World)(e:Ending)(w':World):Prop:=∃ v,e=.returned v∧NodeD (OldNew B w) w' x v∧Below w.heap.size w w'
theorem brk_put (bad:Nd)(n:Nd)(v pv:Value)(D:Int)(w:World)(B:Nat)(hBw:B≤w.heap.size)(hD:n.kids≠[]→D=0)(HZ:Hid (n.sz≤1000000))(HN:Hid (NodeD (fun g=>g<B) w n v))(HP:Hid (NodeD (fun g=>g<B) w bad pv)) :
  Calls Tryz.prog 42 #[v,.int .i64 D,pv] w (BrkPost B (n.put (n.kids++[bad])) w):=by
 have hN:=Lib.hid HN.out.node
 have hP:=Lib.hid HP.out.node
 obtain⟨av,a,c,rfl,hA,hK,hlen⟩:=hN.out.get
 obtain⟨aa,ca,rfl,hAA⟩:=hA
 obtain⟨bv,b,cb,rfl,hB,hKB,hlenb⟩:=hP.out.get
 obtain⟨ab,cab,rfl,hBB⟩:=hB
 have HBW:=Lib.hid hBw
 clear hBw
 have HPT:=Lib.hid HN.out.parts
 have HK:=Lib.hid hK
 have HA:=Lib.hid (show AttrsV w (.slice aa n.attrs.length ca) n.attrs from⟨aa,ca,rfl,hAA⟩)
 clear hK hKB hAA hBB
 generalize hkl:n.kids.length=kl at *
 generalize hal:n.attrs.length=al at *
 generalize hbl:bad.kids.length=bl at *
 generalize hba:bad.attrs.length=ba at *
 have HKL:=Lib.hid hkl
 have HAL:=Lib.hid hal
 obtain⟨i45,hi45,hz45,hs45,hb45⟩:=info_parts Tryz.info45
 clear hkl hal hbl hba
 obtain⟨xs,hxs,hxc⟩:=cells_of_kids HK.out
 have HXS:=Lib.hid hxs
 have HXC:=Lib.hid hxc
 have HXD:=Lib.hid (cellsD_of hxs hxc HPT.out.2)
 have HXL:=Lib.hid (show xs.length=kl*6 by rw[hxs.1,HKL.out])
 have hkz:kl≤1000000:=by have h1:=sz_kids n;have h2:=(szAll_mem n.kids).2;have h3:=HZ.out;have h4:=HKL.out;omega
 clear hxs hxc
 obtain⟨kz,e0⟩:∃ kz,((kl:Int)==0)=kz:=⟨_,rfl⟩
 have HKZ:Hid (kz=decide (kl=0)):=by show _=_;rw[← e0];by_cases h:kl=0<;>simp[h]
 have HDK:Hid (kz=false→D=0):=fun e=>hD (fun hk=>by have h1:=HKZ.out;have h2:=HKL.out;rw[hk] at h2;simp at h2;rw[← h2] at h1;simp at h1;rw[e] at h1;cases h1)
 clear hD
 cases kz
 case' false=>obtain rfl:D=0:=HDK.out rfl
 all_goals (
  obtain⟨W0,hW0⟩:∃ W0,W0=((w.alloc (.cells #[.int .i64 n.kind,.int .i64 n.space,.string n.name,.slice aa al ca,.string n.text,.slice a kl c] 45)).alloc (.cells #[.int .i64 bad.kind,.int .i64 bad.space,.string bad.name,.slice ab ba cab,.string bad.text,.slice b bl cb] 45)).alloc (.cells #[.int .i64 0,.int .i64 0,.string ⟨#[]⟩,.slice none 0 0,.string ⟨#[]⟩,.slice none 0 0] 45):=⟨_,rfl⟩
  have hB0:Below w.heap.size w W0:=by rw[hW0];exact(((Below.refl _ w).alloc (Nat.le_refl _) _).alloc (by simp) _).alloc (by simp;omega) _
  have hz0:W0.heap.size=w.heap.size+3:=by rw[hW0];simp
  have hr0:W0.heap[w.heap.size]?=some (.cells #[.int .i64 n.kind,.int .i64 n.space,.string n.name,.slice aa al ca,.string n.text,.slice a kl c] 45 (0,0)):=by
   rw[hW0,Below.heap_alloc _ _ _ (by simp;omega),Below.heap_alloc _ _ _ (by simp)]
   exact heap_alloc_new w _
  have hr1:W0.heap[w.heap.size+1]?=some (.cells #[.int .i64 bad.kind,.int .i64 bad.space,.string bad.name,.slice ab ba cab,.string bad.text,.slice b bl cb] 45 (0,0)):=by
   rw[hW0,Below.heap_alloc _ _ _ (by simp)]
   have:=heap_alloc_new (w.alloc (.cells #[.int .i64 n.kind,.int .i64 n.space,.string n.name,.slice aa al ca,.string n.text,.slice a kl c] 45)) (.cells #[.int .i64 bad.kind,.int .i64 bad.space,.string bad.name,.slice ab ba cab,.string bad.text,.slice b bl cb] 45)
   simpa using this
  have hr2:W0.heap[w.heap.size+2]?=some (.cells #[.int .i64 0,.int .i64 0,.string ⟨#[]⟩,.slice none 0 0,.string ⟨#[]⟩,.slice none 0 0] 45 (0,0)):=by
   rw[hW0]
   have:=heap_alloc_new ((w.alloc (.cells #[.int .i64 n.kind,.int .i64 n.space,.string n.name,.slice aa al ca,.string n.text,.slice a kl c] 45)).alloc (.cells #[.int .i64 bad.kind,.int .i64 bad.space,.string bad.name,.slice ab ba cab,.string bad.text,.slice b bl cb] 45)) (.cells #[.int .i64 0,.int .i64 0,.string ⟨#[]⟩,.slice none 0 0,.string ⟨#[]⟩,.slice none 0 0] 45)
   simpa using this
  have HW0:=Lib.hid hW0
  have HB0:=Lib.hid hB0
  have HZ0:=Lib.hid hz0
  have R0:=Lib.hid hr0
  have R1:=Lib.hid hr1
  have R2:=Lib.hid hr2
  clear hW0 hB0 hz0 hr0 hr1 hr2
  go_enter Tryz.func42,Tryz.ntmps42
  go_upto_region 2 with fail
  rw[← HW0.out]
  go_cut [] (fun wx=>Hid (PutAt W0 wx w.heap.size (.int .i64 n.kind) (.int .i64 n.space) (.string n.name) (.slice aa al ca) (.string n.text) (kl+1) (xs++[.int .i64 bad.kind,.int .i64 bad.space,.string bad.name,.slice ab ba cab,.string bad.text,.slice b bl cb])))
  case first =>
   obtain⟨S,hS⟩:∃ S:World→Prop,∀ u,S u↔Below W0.heap.size W0 u:=⟨_,fun _=>Iff.rfl⟩
   have cell0:∀ s:WIn S,∀ j u,(#[.int .i64 n.kind,.int .i64 n.space,.string n.name,.slice aa al ca,.string n.text,.slice a kl c]:Array Value)[j]?=some u→s.w.cell? ⟨w.heap.size,j,none⟩=some u:=fun s j u h=>by
    rw[((hS _).1 s.h).cell (p:=⟨w.heap.size,j,none⟩) (by have:=HZ0.out;show w.heap.size<W0.heap.size;omega),cell_of_row _ _ j _ 45 (0,0) R0.out]
    exact h
   have cell1:∀ s:WIn S,∀ j u,(#[.int .i64 bad.kind,.int .i64 bad.space,.string bad.name,.slice ab ba cab,.string bad.text,.slice b bl cb]:Array Value)[j]?=some u→s.w.cell? ⟨w.heap.size+1,j,none⟩=some u:=fun s j u h=>by
    rw[((hS _).1 s.h).cell (p:=⟨w.heap.size+1,j,none⟩) (by have:=HZ0.out;show w.heap.size+1<W0.heap.size;omega),cell_of_row _ _ j _ 45 (0,0) R1.out]
    exact h
   have f5:∀ s:WIn S,s.w.cell? ⟨w.heap.size,5,none⟩=some (.slice a kl c):=fun s=>cell0 s 5 _ rfl
   have g0:∀ s:WIn S,s.w.cell? ⟨w.heap.size+1,0,none⟩=some (.int .i64 bad.kind):=fun s=>cell1 s 0 _ rfl
   have g1:∀ s:WIn S,s.w.cell? ⟨w.heap.size+1,1,none⟩=some (.int .i64 bad.space):=fun s=>cell1 s 1 _ rfl
   have g2:∀ s:WIn S,s.w.cell? ⟨w.heap.size+1,2,none⟩=some (.string bad.name):=fun s=>cell1 s 2 _ rfl
   have g3:∀ s:WIn S,s.w.cell? ⟨w.heap.size+1,3,none⟩=some (.slice ab ba cab):=fun s=>cell1 s 3 _ rfl
   have g4:∀ s:WIn S,s.w.cell? ⟨w.heap.size+1,4,none⟩=some (.string bad.text):=fun s=>cell1 s 4 _ rfl
   have g5:∀ s:WIn S,s.w.cell? ⟨w.heap.size+1,5,none⟩=some (.slice b bl cb):=fun s=>cell1 s 5 _ rfl
   haveI:Nonempty (WIn S):=⟨⟨W0,(hS _).2 (Below.refl _ _)⟩⟩
   have HSS:=Lib.hid hS
   clear hS cell0 cell1
   refine region_forks 7 (.two [1,2,4] 0 (.two [] 3 (.one [] 5 (.one [] 6 (.fin []))) 5 (.one [] 3 (.one [] 6 (.fin [])))) 5 (.one [] 0 (.one [] 3 (.one [] 6 (.fin []))))) S (by kernel_rfl) (by kernel_rfl) ((HSS.out _).2 (below_drw W0 1)) ?_
   refine segT_two (fun K' hK'=>?_)
   simp only[pick,List.getElem?_cons_zero,List.getElem?_cons_succ,Option.getD_some]
   repeat (go_big_quiet_step (fail))
   refine wpQuiet_nil (hK' _ ?_ ?_)
   ·intro Q1 hQ1
    clear hK' K'
    simp only[pick,List.getElem?_cons_zero,Option.getD_some]
    go_wp2_with fail
    have hB1:Below W0.heap.size W0 (W0.drewN 1):=below_drw W0 1
    have hO1:OwnV W0.heap.size 45 6 (.slice (some ⟨W0.heap.size,0,none⟩) 0 0) 0 [] W0 ((W0.drewN 1).alloc (.cells #[] 45)):=OwnV.empty 45 6 hB1 (Nat.le_refl _)
    have HO1:=Lib.hid hO1
    clear hB1 hO1
    refine hQ1 _ _ ((HSS.out _).2 HO1.out.bel) (segT_two (fun K' hK'=>wpQuiet_nil (hK' _ ?_ ?_)))
    ·clear hK' K' hQ1 Q1
     intro Q2 hQ2
     simp only[pick,List.getElem?_cons_zero,List.getElem?_cons_succ,Option.getD_some]
     have HB01:=Lib.hid (HB0.out.trans (HO1.out.bel.mono HB0.out.size))
     go_wp2_with (at_builtin;refine wpList_append_all rfl _ _ 43 rfl 45 i45 _ 6 96 Tryz.underlying43 hi45 hz45 hs45 hb45 rfl (by decide) _ 0 [] rfl HO1.out a kl c xs rfl HXL.out (fun j u hj=>by
      obtain⟨g,off,e1,e2⟩:=HXC.out j u hj
      exact⟨g,off,e1,by rw[HB01.out.cell (p:=⟨g,off+j,none⟩) (World.block_lt_of_cell? _ _ e2)];exact e2⟩) HXS.out.one (by omega) (by omega) ?_)
     intro v1 W1 hO2 hG2
     go_wp2_with fail
     refine hQ2 _ _ ((HSS.out _).2 hO2.out.bel) (segT_one (fun K' hK'=>wpQuiet_nil (hK' _ ?_)))
     clear hK' K' hQ2 Q2
     intro Q3 hQ3
     simp only[pick,List.getElem?_cons_zero,List.getElem?_cons_succ,Option.getD_some]
     go_wp2_with fail
     have hB2:Below W1.heap.size W1 (W1.alloc (.cells #[.int .i64 bad.kind,.int .i64 bad.space,.string bad.name,.slice ab ba cab,.string bad.text,.slice b bl cb] 45)):=(Below.refl _ W1).alloc (Nat.le_refl _) _
     have HO3:=Lib.hid (hO2.out.keep hB2)
     clear hB2
     refine hQ3 _ _ ((HSS.out _).2 HO3.out.bel) (segT_one (fun K' hK'=>wpQuiet_nil (hK' _ ?_)))
     clear hK' K' hQ3 Q3
     intro Q4 hQ4
     simp only[pick,List.getElem?_cons_zero,List.getElem?_cons_succ,Option.getD_some]
     go_wp2_with (at_builtin;refine wpList_append_one (by rfl) _ _ 43 (by rfl) 45 i45 _ 6 96 Tryz.underlying43 hi45 hz45 hs45 hb45 rfl (by decide) _ _ _ rfl hO2.out #[.int .i64 bad.kind,.int .i64 bad.space,.string bad.name,.slice ab ba cab,.string bad.text,.slice b bl cb] rfl rfl rfl rfl (by omega) (by omega) ?_)
     intro v2 W2 hO4 hG4
     go_wp2_with fail
     refine hQ4 _ _ ((HSS.out _).2 hO4.out.bel) (segT_fin (fun K' hK'=>wpQuiet_nil (hK' _ (fun Q5 hQ5=>?_))))
     clear hK' K' hQ4 Q4 f5 g0 g1 g2 g3 g4 g5
     simp only[List.drop_succ_cons,List.drop_zero]
     have hr0:W2.heap[w.heap.size]?=some (.cells #[.int .i64 n.kind,.int .i64 n.space,.string n.name,.slice aa al ca,.string n.text,.slice a kl c] 45 (0,0)):=by rw[hO4.out.bel.block w.heap.size (by have:=HZ0.out;omega)];exact R0.out
     have hc5:W2.cell? ⟨w.heap.size,5,none⟩=some (.slice a kl c):=by rw[cell_of_row _ _ 5 _ 45 (0,0) hr0];rfl
     have hfr:W2.frozen? ⟨w.heap.size,5,none⟩=false:=by simp[World.frozen?,hr0]
     obtain⟨a2,c2,rfl,_,_⟩:=hO4.out.slice
     clear hr0
     go_wp2_with fail
     go_meet
     case rel=>exact Lib.hid (PutAt.of R0.out (hO4.out.cast rfl rfl))
    ·clear hK' K' hQ1 Q1
     intro Q2 hQ2
     simp only[pick,List.getElem?_cons_zero,List.getElem?_cons_succ,Option.getD_some]
     obtain⟨Wa,hWa⟩:∃ Wa,Wa=(W0.drewN 1).alloc (.cells #[] 45):=⟨_,rfl⟩
     have hO1:=HO1.out
     rw[← hWa] at hO1 ⊢
     have hlt:W0.heap.size<Wa.heap.size:=by rw[hWa];simp[World.drewN]
     have HO1a:=Lib.hid hO1
     have HLT:=Lib.hid hlt
     clear hWa hO1 hlt HO1
     go_wp2_with fail
     have hB2:Below Wa.heap.size Wa (Wa.alloc (.cells #[.int .i64 bad.kind,.int .i64 bad.space,.string bad.name,.slice ab ba cab,.string bad.text,.slice b bl cb] 45)):=(Below.refl _ Wa).alloc (Nat.le_refl _) _
     have hnew:∀ j u,([.int .i64 bad.kind,.int .i64 bad.space,.string bad.name,.slice ab ba cab,.string bad.text,.slice b bl cb]:List Value)[j]?=some u→(Wa.alloc (.cells #[.int .i64 bad.kind,.int .i64 bad.space,.string bad.name,.slice ab ba cab,.string bad.text,.slice b bl cb] 45)).cell? ⟨Wa.heap.size,j,none⟩=some u:=fun j u hj=>by rw[cell_of_row _ Wa.heap.size j _ 45 (0,0) (heap_alloc_new Wa _)];simpa using hj
     obtain⟨Wb,hWb⟩:∃ Wb,Wb=Wa.alloc (.cells #[.int .i64 bad.kind,.int .i64 bad.space,.string bad.name,.slice ab ba cab,.string bad.text,.slice b bl cb] 45):=⟨_,rfl⟩
     rw[← hWb] at hB2 hnew ⊢
     have HO2:=Lib.hid (HO1a.out.keep hB2)
     have HNEW:=Lib.hid hnew
     clear hB2 hnew hWb
     refine hQ2 _ _ ((HSS.out _).2 HO2.out.bel) (segT_one (fun K' hK'=>wpQuiet_nil (hK' _ ?_)))
     clear hK' K' hQ2 Q2
     intro Q3 hQ3
     simp only[pick,List.getElem?_cons_zero,List.getElem?_cons_succ,Option.getD_some]
     have HB01:=Lib.hid (HB0.out.trans (HO2.out.bel.mono HB0.out.size))
     go_wp2_with (at_builtin;refine wpList_append_all rfl _ _ 43 rfl 45 i45 _ 6 96 Tryz.underlying43 hi45 hz45 hs45 hb45 rfl (by decide) _ 0 [] rfl HO2.out a kl c xs rfl HXL.out (fun j u hj=>by
      obtain⟨g,off,e1,e2⟩:=HXC.out j u hj
      exact⟨g,off,e1,by rw[HB01.out.cell (p:=⟨g,off+j,none⟩) (World.block_lt_of_cell? _ _ e2)];exact e2⟩) HXS.out.one (by omega) (by omega) ?_)
     intro v1 W1 hO3 hG3
     have HN1:=Lib.hid (show ∀ j u,([.int .i64 bad.kind,.int .i64 bad.space,.string bad.name,.slice ab ba cab,.string bad.text,.slice b bl cb]:List Value)[j]?=some u→W1.cell? ((⟨Wa.heap.size,0,none⟩:Addr).add j)=some u from fun j u hj=>by
      have hadd:(⟨Wa.heap.size,0,none⟩:Addr).add j=⟨Wa.heap.size,j,none⟩:=by unfold Addr.add;split<;>simp_all
      rw[hadd]
      exact hG3.out.cell (HNEW.out j u hj) (fun e=>by
       have h1:W0.heap.size=Wa.heap.size:=Option.some.inj e
       have h2:=HLT.out
       omega))
     go_wp2_with fail
     refine hQ3 _ _ ((HSS.out _).2 hO3.out.bel) (segT_one (fun K' hK'=>wpQuiet_nil (hK' _ ?_)))
     clear hK' K' hQ3 Q3
     intro Q4 hQ4
     simp only[pick,List.getElem?_cons_zero,List.getElem?_cons_succ,Option.getD_some]
     go_wp2_with (at_builtin;refine wpList_append_vec (by rfl) _ _ 43 (by rfl) 45 i45 _ 6 96 Tryz.underlying43 hi45 hz45 hs45 hb45 rfl (by decide) _ _ _ rfl hO3.out ⟨Wa.heap.size,0,none⟩ 1 1 [.int .i64 bad.kind,.int .i64 bad.space,.string bad.name,.slice ab ba cab,.string bad.text,.slice b bl cb] rfl rfl HN1.out rfl (by omega) (by omega) ?_)
     intro v2 W2 hO4 hG4
     go_wp2_with fail
     refine hQ4 _ _ ((HSS.out _).2 hO4.out.bel) (segT_fin (fun K' hK'=>wpQuiet_nil (hK' _ (fun Q5 hQ5=>?_))))
     clear hK' K' hQ4 Q4 f5 g0 g1 g2 g3 g4 g5
     simp only[List.drop_succ_cons,List.drop_zero]
     have hr0:W2.heap[w.heap.size]?=some (.cells #[.int .i64 n.kind,.int .i64 n.space,.string n.name,.slice aa al ca,.string n.text,.slice a kl c] 45 (0,0)):=by rw[hO4.out.bel.block w.heap.size (by have:=HZ0.out;omega)];exact R0.out
     have hc5:W2.cell? ⟨w.heap.size,5,none⟩=some (.slice a kl c):=by rw[cell_of_row _ _ 5 _ 45 (0,0) hr0];rfl
     have hfr:W2.frozen? ⟨w.heap.size,5,none⟩=false:=by simp[World.frozen?,hr0]
     obtain⟨a2,c2,rfl,_,_⟩:=hO4.out.slice
     clear hr0
     go_wp2_with fail
     go_meet
     case rel=>exact Lib.hid (PutAt.of R0.out (hO4.out.cast rfl rfl))
   ·clear hK' K'
    intro Q1 hQ1
    simp only[pick,List.getElem?_cons_zero,List.getElem?_cons_succ,Option.getD_some]
    go_wp2_with fail
    have hB1:Below W0.heap.size W0 ((W0.drewN 1).alloc (.cells #[.int .i64 bad.kind,.int .i64 bad.space,.string bad.name,.slice ab ba cab,.string bad.text,.slice b bl cb] 45)):=(below_drw W0 1).alloc (Nat.le_refl _) _
    have hnew:∀ j u,([.int .i64 bad.kind,.int .i64 bad.space,.string bad.name,.slice ab ba cab,.string bad.text,.slice b bl cb]:List Value)[j]?=some u→((W0.drewN 1).alloc (.cells #[.int .i64 bad.kind,.int .i64 bad.space,.string bad.name,.slice ab ba cab,.string bad.text,.slice b bl cb] 45)).cell? ⟨W0.heap.size,j,none⟩=some u:=fun j u hj=>by
     have h:=cell_of_row _ (W0.drewN 1).heap.size j _ 45 (0,0) (heap_alloc_new (W0.drewN 1) (.cells #[.int .i64 bad.kind,.int .i64 bad.space,.string bad.name,.slice ab ba cab,.string bad.text,.slice b bl cb] 45))
     exact h.trans (by simpa using hj)
    have hlt:W0.heap.size<((W0.drewN 1).alloc (.cells #[.int .i64 bad.kind,.int .i64 bad.space,.string bad.name,.slice ab ba cab,.string bad.text,.slice b bl cb] 45)).heap.size:=by simp[World.drewN]
    obtain⟨Wa,hWa⟩:∃ Wa,Wa=(W0.drewN 1).alloc (.cells #[.int .i64 bad.kind,.int .i64 bad.space,.string bad.name,.slice ab ba cab,.string bad.text,.slice b bl cb] 45):=⟨_,rfl⟩
    rw[← hWa] at hB1 hnew hlt ⊢
    have HB1:=Lib.hid hB1
    have HNEW:=Lib.hid hnew
    have HLT:=Lib.hid hlt
    clear hB1 hnew hlt hWa
    refine hQ1 _ _ ((HSS.out _).2 HB1.out) (segT_one (fun K' hK'=>wpQuiet_nil (hK' _ ?_)))
    clear hK' K' hQ1 Q1
    intro Q2 hQ2
    simp only[pick,List.getElem?_cons_zero,Option.getD_some]
    go_wp2_with fail
    have hO2:OwnV W0.heap.size 45 6 (.slice (some ⟨Wa.heap.size,0,none⟩) 0 0) 0 [] W0 (Wa.alloc (.cells #[] 45)):=OwnV.empty 45 6 HB1.out (by have:=HLT.out;omega)
    have HO2:=Lib.hid hO2
    have HNEW2:=Lib.hid (show ∀ j u,([.int .i64 bad.kind,.int .i64 bad.space,.string bad.name,.slice ab ba cab,.string bad.text,.slice b bl cb]:List Value)[j]?=some u→(Wa.alloc (.cells #[] 45)).cell? ⟨W0.heap.size,j,none⟩=some u from fun j u hj=>alloc_cell (HNEW.out j u hj))
    clear hO2
    refine hQ2 _ _ ((HSS.out _).2 HO2.out.bel) (segT_one (fun K' hK'=>wpQuiet_nil (hK' _ ?_)))
    clear hK' K' hQ2 Q2
    intro Q3 hQ3
    simp only[pick,List.getElem?_cons_zero,List.getElem?_cons_succ,Option.getD_some]
    have HB01:=Lib.hid (HB0.out.trans (HO2.out.bel.mono HB0.out.size))
    go_wp2_with (at_builtin;refine wpList_append_all rfl _ _ 43 rfl 45 i45 _ 6 96 Tryz.underlying43 hi45 hz45 hs45 hb45 rfl (by decide) _ 0 [] rfl HO2.out a kl c xs rfl HXL.out (fun j u hj=>by
     obtain⟨g,off,e1,e2⟩:=HXC.out j u hj
     exact⟨g,off,e1,by rw[HB01.out.cell (p:=⟨g,off+j,none⟩) (World.block_lt_of_cell? _ _ e2)];exact e2⟩) HXS.out.one (by omega) (by omega) ?_)
    intro v1 W1 hO3 hG3
    have HN1:=Lib.hid (show ∀ j u,([.int .i64 bad.kind,.int .i64 bad.space,.string bad.name,.slice ab ba cab,.string bad.text,.slice b bl cb]:List Value)[j]?=some u→W1.cell? ((⟨W0.heap.size,0,none⟩:Addr).add j)=some u from fun j u hj=>by
     have hadd:(⟨W0.heap.size,0,none⟩:Addr).add j=⟨W0.heap.size,j,none⟩:=by unfold Addr.add;split<;>simp_all
     rw[hadd]
     exact hG3.out.cell (HNEW2.out j u hj) (fun e=>by
      have h1:Wa.heap.size=W0.heap.size:=Option.some.inj e
      have h2:=HLT.out
      omega))
    go_wp2_with fail
    refine hQ3 _ _ ((HSS.out _).2 hO3.out.bel) (segT_one (fun K' hK'=>wpQuiet_nil (hK' _ ?_)))
    clear hK' K' hQ3 Q3
    intro Q4 hQ4
    simp only[pick,List.getElem?_cons_zero,List.getElem?_cons_succ,Option.getD_some]
    go_wp2_with (at_builtin;refine wpList_append_vec (by rfl) _ _ 43 (by rfl) 45 i45 _ 6 96 Tryz.underlying43 hi45 hz45 hs45 hb45 rfl (by decide) _ _ _ rfl hO3.out ⟨W0.heap.size,0,none⟩ 1 1 [.int .i64 bad.kind,.int .i64 bad.space,.string bad.name,.slice ab ba cab,.string bad.text,.slice b bl cb] rfl rfl HN1.out rfl (by omega) (by omega) ?_)
    intro v2 W2 hO4 hG4
    go_wp2_with fail
    refine hQ4 _ _ ((HSS.out _).2 hO4.out.bel) (segT_fin (fun K' hK'=>wpQuiet_nil (hK' _ (fun Q5 hQ5=>?_))))
    clear hK' K' hQ4 Q4 f5 g0 g1 g2 g3 g4 g5
    simp only[List.drop_succ_cons,List.drop_zero]
    have hr0:W2.heap[w.heap.size]?=some (.cells #[.int .i64 n.kind,.int .i64 n.space,.string n.name,.slice aa al ca,.string n.text,.slice a kl c] 45 (0,0)):=by rw[hO4.out.bel.block w.heap.size (by have:=HZ0.out;omega)];exact R0.out
    have hc5:W2.cell? ⟨w.heap.size,5,none⟩=some (.slice a kl c):=by rw[cell_of_row _ _ 5 _ 45 (0,0) hr0];rfl
    have hfr:W2.frozen? ⟨w.heap.size,5,none⟩=false:=by simp[World.frozen?,hr0]
    obtain⟨a2,c2,rfl,_,_⟩:=hO4.out.slice
    clear hr0
    go_wp2_with fail
    go_meet
    case rel=>exact Lib.hid (PutAt.of R0.out (hO4.out.cast rfl rfl))
  case rest =>
   obtain⟨a2,c2,hbox,hvec,hva⟩:=hcut.out.box
   have HVC:=Lib.hid hvec
   have HVA:=Lib.hid hva
   clear hvec hva
   have c0:wc.cell? ⟨w.heap.size,0,none⟩=some (.int .i64 n.kind):=by rw[cell_of_row _ _ 0 _ 45 (0,0) hbox];rfl
   have c1:wc.cell? ⟨w.heap.size,1,none⟩=some (.int .i64 n.space):=by rw[cell_of_row _ _ 1 _ 45 (0,0) hbox];rfl
   have c2':wc.cell? ⟨w.heap.size,2,none⟩=some (.string n.name):=by rw[cell_of_row _ _ 2 _ 45 (0,0) hbox];rfl
   have c3:wc.cell? ⟨w.heap.size,3,none⟩=some (.slice aa al ca):=by rw[cell_of_row _ _ 3 _ 45 (0,0) hbox];rfl
   have c4:wc.cell? ⟨w.heap.size,4,none⟩=some (.string n.text):=by rw[cell_of_row _ _ 4 _ 45 (0,0) hbox];rfl
   have c5:wc.cell? ⟨w.heap.size,5,none⟩=some (.slice a2 (kl+1) c2):=by rw[cell_of_row _ _ 5 _ 45 (0,0) hbox];rfl
   have hr2:wc.heap[w.heap.size+1+1]?=some (.cells #[.int .i64 0,.int .i64 0,.string ⟨#[]⟩,.slice none 0 0,.string ⟨#[]⟩,.slice none 0 0] 45 (0,0)):=by
    rw[hcut.out.other _ (by have:=HZ0.out;omega) (by omega)]
    exact R2.out
   have HR2:=Lib.hid hr2
   clear hr2
   go_wp2_with (refine wpList_store_row (by rfl) 45 (.tmp 6) (.tmp 24) rfl (w.heap.size+1+1) #[.int .i64 n.kind,.int .i64 n.space,.string n.name,.slice aa al ca,.string n.text,.slice a2 (kl+1) c2] rfl rfl 45 _ HR2.out (by rw[hi45];simp[hs45]) rfl (by simp[Value.oneCell']) ?_)
   have hrow:=setRow_heap wc (w.heap.size+1+1) _ #[.int .i64 n.kind,.int .i64 n.space,.string n.name,.slice aa al ca,.string n.text,.slice a2 (kl+1) c2] 45 (0,0) HR2.out
   obtain⟨Wf,hWf⟩:∃ Wf,Wf=wc.setRow (w.heap.size+1+1) #[.int .i64 n.kind,.int .i64 n.space,.string n.name,.slice aa al ca,.string n.text,.slice a2 (kl+1) c2]:=⟨_,rfl⟩
   rw[← hWf] at hrow ⊢
   clear c0 c1 c2' c3 c4 c5
   have hoth:∀ i,i≠w.heap.size+1+1→Wf.heap[i]?=wc.heap[i]?:=fun i hi=>by rw[hWf];exact setRow_other wc _ i _ hi
   have hBf:Below w.heap.size w Wf:=by
    have h0:=HB0.out
    have hz:=HZ0.out
    have hp:=hcut.out
    refine { os:=?_,tape:=?_,output:=?_,size:=?_,block:=?_ }
    ·rw[hWf];exact hp.os.trans h0.os
    ·rw[hWf];exact hp.tape.trans h0.tape
    ·rw[hWf];exact hp.output.trans h0.output
    ·have h1:=hp.size
     have h2:=h0.size
     have h3:Wf.heap.size=wc.heap.size:=by rw[hWf];simp[World.setRow]
     omega
    ·intro k hk
     rw[hoth k (by omega),hp.other k (by omega) (by omega)]
     exact h0.block k hk
   have hvf:VecAt Wf (.slice a2 (kl+1) c2) (kl+1) (xs++[.int .i64 bad.kind,.int .i64 bad.space,.string bad.name,.slice ab ba cab,.string bad.text,.slice b bl cb]):=by
    obtain⟨a',c',e',hv⟩:=HVC.out
    refine⟨a',c',e',fun j u hj=>?_⟩
    obtain⟨g,off,ha,hc⟩:=hv j u hj
    simp only[Value.slice.injEq] at e'
    have hg:=HVA.out ⟨g,off,none⟩ (by rw[e'.1,ha])
    have hz:=HZ0.out
    simp only at hg
    exact⟨g,off,ha,by rw[World.cell?_of_block (hoth g (by omega))];exact hc⟩
   have hlk:(n.kids++[bad]).length=kl+1:=by rw[List.length_append,HKL.out];rfl
   have keepN:∀ g,g<w.heap.size→g<B→Wf.heap[g]?=w.heap[g]?∧OldNew B w g:=fun g hg hgb=>⟨hBf.block g hg,.inl hgb⟩
   have hN:NodeD (OldNew B w) Wf (n.put (n.kids++[bad])) (.agg #[.int .i64 n.kind,.int .i64 n.space,.string n.name,.slice aa al ca,.string n.text,.slice a2 (kl+1) c2]):=by
    unfold Nd.put NodeD
    refine⟨aa,ca,a2,c2,by rw[hlk,HAL.out],by rw[hlk];omega,HPT.out.1.keep keepN,?_⟩
    refine kidsD_of_cells hvf ((HXD.out.keep keepN).snoc (HP.out.keep keepN)) (fun _ h=>h) (fun y hy=>.inr ?_)
    have h1:=HVA.out y hy
    have h2:=HZ0.out
    omega
   have e0:Wf.cell? ⟨w.heap.size+1+1,0,none⟩=some (.int .i64 n.kind):=by rw[cell_of_row _ _ 0 _ 45 (0,0) hrow];rfl
   have e1:Wf.cell? ⟨w.heap.size+1+1,1,none⟩=some (.int .i64 n.space):=by rw[cell_of_row _ _ 1 _ 45 (0,0) hrow];rfl
   have e2:Wf.cell? ⟨w.heap.size+1+1,2,none⟩=some (.string n.name):=by rw[cell_of_row _ _ 2 _ 45 (0,0) hrow];rfl
   have e3:Wf.cell? ⟨w.heap.size+1+1,3,none⟩=some (.slice aa al ca):=by rw[cell_of_row _ _ 3 _ 45 (0,0) hrow];rfl
   have e4:Wf.cell? ⟨w.heap.size+1+1,4,none⟩=some (.string n.text):=by rw[cell_of_row _ _ 4 _ 45 (0,0) hrow];rfl
   have e5:Wf.cell? ⟨w.heap.size+1+1,5,none⟩=some (.slice a2 (kl+1) c2):=by rw[cell_of_row _ _ 5 _ 45 (0,0) hrow];rfl
   refine bodyPost_ret (v:=.agg #[.int .i64 n.kind,.int .i64 n.space,.string n.name,.slice aa al ca,.string n.text,.slice a2 (kl+1) c2]) ?_ rfl ⟨_,rfl,hN,hBf⟩
   simp[results,Tryz.results42,go_sem,e0,e1,e2,e3,e4,e5])
end Go.Proofs.YtcfgbdhpcboikaaGreatDoor
