/-
  The law's broken: what it gives.
-/
import Derived.Test.YtcfgbdhpcboikaaGreatDoorBrkP
import Derived.Test.YtcfgbdhpcboikaaGreatDoorNodes
import Derived.Test.YtcfgbdhpcboikaaGreatDoorCellsA
namespace Go.Proofs.YtcfgbdhpcboikaaGreatDoor
set_option maxHeartbeats 2000000
set_option maxRecDepth 100000
open Go.RowKit
theorem CellsD.front {D:Nat→Prop}{w:World}{xs:List Value}{ks:List Nd}(h:CellsD D w xs ks):CellsD D w (xs.take ((ks.length-1)*6)) ks.dropLast:=by
 refine⟨by rw[List.length_take,List.length_dropLast,h.1];omega,fun j hj=>?_⟩
 rw[List.length_dropLast] at hj
 obtain⟨c0,c1,c2,c3,c4,c5,h0,h1,h2,h3,h4,h5,hn⟩:=h.2 j (by omega)
 have t:∀ i u,i<(ks.length-1)*6→xs[i]?=some u→(xs.take ((ks.length-1)*6))[i]?=some u:=fun i u hi hu=>by rw[List.getElem?_take,if_pos hi];exact hu
 refine⟨c0,c1,c2,c3,c4,c5,t _ _ (by omega) h0,t _ _ (by omega) h1,t _ _ (by omega) h2,t _ _ (by omega) h3,t _ _ (by omega) h4,t _ _ (by omega) h5,?_⟩
 rw[List.getElem_dropLast]
 exact hn
theorem NodeD.cells {D:Nat→Prop}{w:World}{n:Nd}{v:Value}(h:NodeD D w n v):∃ a b a' b',v=.agg #[.int .i64 n.kind,.int .i64 n.space,.string n.name,.slice a n.attrs.length b,.string n.text,.slice a' n.kids.length b']:=by
 cases n with
 | mk kd sp nm at' tx ks =>
  unfold NodeD at h
  obtain⟨aa,ca,a,c,e,_⟩:=h
  exact⟨aa,ca,a,c,e⟩
section
variable {P:Program} {w:World} {ops:Array Oper} {rest:List Oper} {o:Oper} {a:Act} {Q:Exit→Act→World→Prop}
theorem wpList_index (hgd:o.guard=none)(t:TypeId)(x y:Operand)(ho:o.op=.indexAddr t x y)(e:TypeId)(i:TypeInfo)(size:Nat)(ht:P.underlying t=some (.slice e))(hi:P.info? e=some i)(hs:i.size=size)
  (g off n c k:Nat) (hx:a.eval x=.slice (some ⟨g,off,none⟩) n c) (hy:a.eval y=.int .i64 (k:Int)) (hk:k<n)
  (h:wpList P ops Q rest (a.put o.dst (.pointer (some ⟨g,off+k*size,none⟩))) w):wpList P ops Q (o :: rest) a w:=by
 refine wpList_plain hgd fun K hK=>?_
 have hel:P.elem t=e:=by unfold Program.elem;simp[ht]
 have hrun:(Instr.indexAt t (.slice (some ⟨g,off,none⟩) n c) (.int .i64 (k:Int))).run P w=.ok (.pointer (some ⟨g,off+k*size,none⟩)) w:=by
  rw[run_indexAt_slice w t ⟨g,off,none⟩ n c .i64 (k:Int) (by rw[hel];exact ht),if_pos ⟨by omega,by omega⟩,hel]
  simp[sizeOf,typeInfo,hi,hs,Addr.add_mid]
 unfold Oper.wp execOp
 simp only[ho,hx,hy,Sem.run_bind,Sem.run_pure,Result.andThen_ok,hrun]
 exact hK _ _ h
end
theorem brk_deep (bad:Nd)(d B:Nat)(ih:Hid (∀ (n:Nd) (v pv:Value) (w:World),B≤w.heap.size→Hid (n.sz≤1000000)→Hid (NodeD (fun g=>g<B) w n v)→Hid (NodeD (fun g=>g<B) w bad pv)→Calls Tryz.prog 42 #[v,.int .i64 d,pv] w (BrkPost B (brokenN bad d n) w)))
  (n:Nd) (v pv:Value) (D:Int) (w:World) (hBw:B≤w.heap.size) (hd:d≤16) (hD:Hid (D=(d:Int)+1)) (hne:n.kids≠[]) (HZ:Hid (n.sz≤1000000)) (HN:Hid (NodeD (fun g=>g<B) w n v)) (HP:Hid (NodeD (fun g=>g<B) w bad pv)) :
  Calls Tryz.prog 42 #[v,.int .i64 D,pv] w (BrkPost B (n.put (n.kids.dropLast++[brokenN bad d (n.kids.getLast hne)])) w):=by
 have hN:=Lib.hid HN.out.node
 have hP:=Lib.hid HP.out.node
 obtain⟨av,a,c,rfl,hA,hK,hlen⟩:=hN.out.get
 obtain⟨aa,ca,rfl,hAA⟩:=hA
 obtain⟨bv,b,cb,rfl,hB,hKB,hlenb⟩:=hP.out.get
 obtain⟨ab,cab,rfl,hBB⟩:=hB
 have HBW:=Lib.hid hBw
 clear hBw
 have HPT:=Lib.hid HN.out.parts
 have HK:=Lib.hid hK
 have HA:=Lib.hid (show AttrsV w (.slice aa n.attrs.length ca) n.attrs from⟨aa,ca,rfl,hAA⟩)
 clear hK hKB hAA hBB
 generalize hkl:n.kids.length=kl at *
 generalize hal:n.attrs.length=al at *
 generalize hbl:bad.kids.length=bl at *
 generalize hba:bad.attrs.length=ba at *
 have HKL:=Lib.hid hkl
 have HAL:=Lib.hid hal
 obtain⟨i45,hi45,hz45,hs45,hb45⟩:=info_parts Tryz.info45
 clear hkl hal hbl hba
 obtain⟨xs,hxs,hxc⟩:=cells_of_kids HK.out
 have HXS:=Lib.hid hxs
 have HXC:=Lib.hid hxc
 have HXD:=Lib.hid (cellsD_of hxs hxc HPT.out.2)
 have HXL:=Lib.hid (show xs.length=kl*6 by rw[hxs.1,HKL.out])
 have hkz:kl≤1000000:=by have h1:=sz_kids n;have h2:=(szAll_mem n.kids).2;have h3:=HZ.out;have h4:=HKL.out;omega
 clear hxs hxc
 have hk0:0<kl:=by have h1:=HKL.out;have h2:=List.length_pos_iff.2 hne;omega
 obtain⟨k,hk⟩:∃ k,kl=k+1:=⟨kl-1,by omega⟩
 have hsub:(kl:Int)-1=(k:Int):=by omega
 have hklt:k<kl:=by omega
 have hkz0:((kl:Int)==0)=false:=by rw[beq_eq_false_iff_ne];omega
 have hD0:(D==0)=false:=by rw[beq_eq_false_iff_ne];have:=hD.out;omega
 have hD1:D-1=(d:Int):=by have:=hD.out;omega
 have hkk:k<n.kids.length:=by have:=HKL.out;omega
 have hlast:n.kids[k]=n.kids.getLast hne:=by
  rw[List.getLast_eq_getElem]
  congr 1
  have:=HKL.out
  omega
 obtain⟨l0,l1,l2,l3,l4,l5,x0,x1,x2,x3,x4,x5,hnl⟩:=HXD.out.2 k hkk
 obtain⟨q1,q2,q3,q4,rfl,rfl,rfl,rfl,rfl,rfl⟩:=hnl.node.cells
 have hzl:(n.kids[k]).sz≤1000000:=by have h1:=sz_kids n;have h2:=(szAll_mem n.kids).1 _ (List.getElem_mem hkk);have h3:=HZ.out;omega
 have hys:CellsD (fun g=>g<B) w (xs.take (k*6)) n.kids.dropLast:=by
  have h:=HXD.out.front
  rw[show n.kids.length-1=k by have:=HKL.out;omega] at h
  exact h
 have hsplit:xs=xs.take (k*6)++xs.drop (k*6):=(List.take_append_drop _ _).symm
 have hyl:(xs.take (k*6)).length=k*6:=by rw[List.length_take,HXL.out];omega
 have hzl6:(xs.drop (k*6)).length=6:=by rw[List.length_drop,HXL.out];omega
 obtain⟨ys,hyse⟩:∃ ys,ys=xs.take (k*6):=⟨_,rfl⟩
 obtain⟨zs,hzse⟩:∃ zs,zs=xs.drop (k*6):=⟨_,rfl⟩
 rw[← hyse,← hzse] at hsplit
 rw[← hyse] at hys hyl
 rw[← hzse] at hzl6
 have HYS:=Lib.hid hys
 have HSP:=Lib.hid hsplit
 have HYL:=Lib.hid hyl
 have HZL6:=Lib.hid hzl6
 have HLAST:=Lib.hid hlast
 have HK1:=Lib.hid hk
 have HX0:=Lib.hid (show xs[k*6+0]?=_ from x0)
 have HX1:=Lib.hid x1
 have HX2:=Lib.hid x2
 have HX3:=Lib.hid x3
 have HX4:=Lib.hid x4
 have HX5:=Lib.hid x5
 have HNL:=Lib.hid hnl
 have HZL:=Lib.hid hzl
 rw[← hlast]
 generalize n.kids[k]=q at *
 clear hys hsplit hyl hzl6 hlast hk x0 x1 x2 x3 x4 x5 hnl hzl hyse hzse
 obtain⟨W0,hW0⟩:∃ W0,W0=((w.alloc (.cells #[.int .i64 n.kind,.int .i64 n.space,.string n.name,.slice aa al ca,.string n.text,.slice a kl c] 45)).alloc (.cells #[.int .i64 bad.kind,.int .i64 bad.space,.string bad.name,.slice ab ba cab,.string bad.text,.slice b bl cb] 45)).alloc (.cells #[.int .i64 0,.int .i64 0,.string ⟨#[]⟩,.slice none 0 0,.string ⟨#[]⟩,.slice none 0 0] 45):=⟨_,rfl⟩
 have hB0:Below w.heap.size w W0:=by rw[hW0];exact(((Below.refl _ w).alloc (Nat.le_refl _) _).alloc (by simp) _).alloc (by simp;omega) _
 have hz0:W0.heap.size=w.heap.size+3:=by rw[hW0];simp
 have hr0:W0.heap[w.heap.size]?=some (.cells #[.int .i64 n.kind,.int .i64 n.space,.string n.name,.slice aa al ca,.string n.text,.slice a kl c] 45 (0,0)):=by
  rw[hW0,Below.heap_alloc _ _ _ (by simp;omega),Below.heap_alloc _ _ _ (by simp)]
  exact heap_alloc_new w _
 have hr1:W0.heap[w.heap.size+1]?=some (.cells #[.int .i64 bad.kind,.int .i64 bad.space,.string bad.name,.slice ab ba cab,.string bad.text,.slice b bl cb] 45 (0,0)):=by
  rw[hW0,Below.heap_alloc _ _ _ (by simp)]
  have:=heap_alloc_new (w.alloc (.cells #[.int .i64 n.kind,.int .i64 n.space,.string n.name,.slice aa al ca,.string n.text,.slice a kl c] 45)) (.cells #[.int .i64 bad.kind,.int .i64 bad.space,.string bad.name,.slice ab ba cab,.string bad.text,.slice b bl cb] 45)
  simpa using this
 have hr2:W0.heap[w.heap.size+2]?=some (.cells #[.int .i64 0,.int .i64 0,.string ⟨#[]⟩,.slice none 0 0,.string ⟨#[]⟩,.slice none 0 0] 45 (0,0)):=by
  rw[hW0]
  have:=heap_alloc_new ((w.alloc (.cells #[.int .i64 n.kind,.int .i64 n.space,.string n.name,.slice aa al ca,.string n.text,.slice a kl c] 45)).alloc (.cells #[.int .i64 bad.kind,.int .i64 bad.space,.string bad.name,.slice ab ba cab,.string bad.text,.slice b bl cb] 45)) (.cells #[.int .i64 0,.int .i64 0,.string ⟨#[]⟩,.slice none 0 0,.string ⟨#[]⟩,.slice none 0 0] 45)
  simpa using this
 have HW0:=Lib.hid hW0
 have HB0:=Lib.hid hB0
 have HZ0:=Lib.hid hz0
 have R0:=Lib.hid hr0
 have R1:=Lib.hid hr1
 have R2:=Lib.hid hr2
 clear hW0 hB0 hz0 hr0 hr1 hr2
 go_enter Tryz.func42,Tryz.ntmps42
 go_upto_region 4 with fail
 rw[← HW0.out]
 have hO0:OwnV W0.heap.size 45 6 (.slice (some ⟨W0.heap.size,0,none⟩) 0 0) 0 [] W0 (W0.alloc (.cells #[] 45)):=OwnV.empty 45 6 (Below.refl _ _) (Nat.le_refl _)
 have HO0:=Lib.hid hO0
 have HB01:=Lib.hid (HB0.out.trans (HO0.out.bel.mono HB0.out.size))
 have hc5:(W0.alloc (.cells #[] 45)).cell? ⟨w.heap.size,5,none⟩=some (.slice a kl c):=by
  rw[HO0.out.bel.cell (p:=⟨w.heap.size,5,none⟩) (by have:=HZ0.out;show w.heap.size<W0.heap.size;omega),cell_of_row _ _ 5 _ 45 (0,0) R0.out]
  rfl
 clear hO0
 go_wp2_with (at_builtin;refine wpList_append_all rfl _ _ 43 rfl 45 i45 _ 6 96 Tryz.underlying43 hi45 hz45 hs45 hb45 rfl (by decide) _ 0 [] rfl HO0.out a kl c xs rfl HXL.out (fun j u hj=>by
  obtain⟨g,off,e1,e2⟩:=HXC.out j u hj
  exact⟨g,off,e1,by rw[HB01.out.cell (p:=⟨g,off+j,none⟩) (World.block_lt_of_cell? _ _ e2)];exact e2⟩) HXS.out.one (by omega) (by omega) ?_)
 intro v1 W1 hO1 hG1
 obtain⟨g1,cc1,hv1,hg1,hg1',_⟩:=hO1.out.atRow (by omega)
 subst hv1
 have HO1:=Lib.hid (show OwnV W0.heap.size 45 6 (.slice (some ⟨g1,0,none⟩) kl cc1) kl xs W0 W1 from by simpa using hO1.out)
 have HG1:=Lib.hid hg1
 clear hO1 hG1 hg1' hc5 HO0 HB01 hg1
 obtain⟨S,hS⟩:∃ S:World→Prop,∀ u,S u↔Below W1.heap.size W1 u:=⟨_,fun _=>Iff.rfl⟩
 have own:∀ s:WIn S,∀ j u,xs[j]?=some u→s.w.cell? ⟨g1,j,none⟩=some u:=fun s j u h=>by
  have h1:=HO1.out.cell j u h
  rw[((hS _).1 s.h).cell (p:=⟨g1,j,none⟩) (World.block_lt_of_cell? _ _ h1)]
  exact h1
 have cell1:∀ s:WIn S,∀ j u,(#[.int .i64 bad.kind,.int .i64 bad.space,.string bad.name,.slice ab ba cab,.string bad.text,.slice b bl cb]:Array Value)[j]?=some u→s.w.cell? ⟨w.heap.size+1,j,none⟩=some u:=fun s j u h=>by
  have h1:=HO1.out.bel.size
  rw[((hS _).1 s.h).cell (p:=⟨w.heap.size+1,j,none⟩) (by have:=HZ0.out;show w.heap.size+1<W1.heap.size;omega),HO1.out.bel.cell (p:=⟨w.heap.size+1,j,none⟩) (by have:=HZ0.out;show w.heap.size+1<W0.heap.size;omega),cell_of_row _ _ j _ 45 (0,0) R1.out]
  exact h
 have f0:∀ s:WIn S,s.w.cell? ⟨g1,k*6,none⟩=some (.int .i64 q.kind):=fun s=>own s _ _ HX0.out
 have f1:∀ s:WIn S,s.w.cell? ⟨g1,k*6+1,none⟩=some (.int .i64 q.space):=fun s=>own s _ _ HX1.out
 have f2:∀ s:WIn S,s.w.cell? ⟨g1,k*6+2,none⟩=some (.string q.name):=fun s=>own s _ _ HX2.out
 have f3:∀ s:WIn S,s.w.cell? ⟨g1,k*6+3,none⟩=some (.slice q1 q.attrs.length q2):=fun s=>own s _ _ HX3.out
 have f4:∀ s:WIn S,s.w.cell? ⟨g1,k*6+4,none⟩=some (.string q.text):=fun s=>own s _ _ HX4.out
 have f5:∀ s:WIn S,s.w.cell? ⟨g1,k*6+5,none⟩=some (.slice q3 q.kids.length q4):=fun s=>own s _ _ HX5.out
 have g0':∀ s:WIn S,s.w.cell? ⟨w.heap.size+1,0,none⟩=some (.int .i64 bad.kind):=fun s=>cell1 s 0 _ rfl
 have g1':∀ s:WIn S,s.w.cell? ⟨w.heap.size+1,1,none⟩=some (.int .i64 bad.space):=fun s=>cell1 s 1 _ rfl
 have g2':∀ s:WIn S,s.w.cell? ⟨w.heap.size+1,2,none⟩=some (.string bad.name):=fun s=>cell1 s 2 _ rfl
 have g3':∀ s:WIn S,s.w.cell? ⟨w.heap.size+1,3,none⟩=some (.slice ab ba cab):=fun s=>cell1 s 3 _ rfl
 have g4':∀ s:WIn S,s.w.cell? ⟨w.heap.size+1,4,none⟩=some (.string bad.text):=fun s=>cell1 s 4 _ rfl
 have g5':∀ s:WIn S,s.w.cell? ⟨w.heap.size+1,5,none⟩=some (.slice b bl cb):=fun s=>cell1 s 5 _ rfl
 haveI:Nonempty (WIn S):=⟨⟨W1,(hS _).2 (Below.refl _ _)⟩⟩
 have HSS:=Lib.hid hS
 clear hS own cell1
 go_wp2_with fail
 refine region_segs 14 [([0,1,2,3,4,5,6,7,8,9,10,11,12],13)] [] S (by kernel_rfl) (by kernel_rfl) ((HSS.out _).2 (below_drw W1 1)) ?_
 refine segs_step (fun K' hK'=>?_)
 simp only[pick,List.getElem?_cons_zero,List.getElem?_cons_succ,Option.getD_some]
 repeat (go_big_quiet_step (fail))
 refine wpQuiet_nil (hK' _ (fun Q1 hQ1=>?_))
 clear hK' K'
 simp only[pick,List.getElem?_cons_zero,List.getElem?_cons_succ,Option.getD_some]
 go_wp2_with fail
 have hBd:Below w.heap.size w (W1.drewN 1):=HB0.out.trans ((HO1.out.bel.mono HB0.out.size).trans ((below_drw W1 1).mono (Nat.le_trans HB0.out.size HO1.out.bel.size)))
 have keep1:∀ g,g<w.heap.size→g<B→(W1.drewN 1).heap[g]?=w.heap[g]?∧g<B:=fun g hg hgb=>⟨hBd.block g hg,hgb⟩
 refine(ih.out q _ _ (W1.drewN 1) (Nat.le_trans HBW.out hBd.size) HZL (Lib.hid (HNL.out.keep keep1)) (Lib.hid (HP.out.keep keep1))).mono ?_
 rintro e W3 ⟨v3,rfl,hn3,B3⟩
 generalize brokenN bad d q=m at *
 obtain⟨ma,mc,mb,md,rfl⟩:=hn3.cells
 have hB3:Below W1.heap.size W1 W3:=(below_drw W1 1).trans (B3.mono (below_drw W1 1).size)
 have HB3:=Lib.hid hB3
 have HO3:=Lib.hid (HO1.out.keep hB3)
 have HN3:=Lib.hid hn3
 clear hBd B3 hB3 hn3 keep1
 go_wp2_with fail
 refine hQ1 _ _ ((HSS.out _).2 HB3.out) (segs_last (fun K' hK'=>wpQuiet_nil (hK' _ (fun Q4 hQ4=>?_))))
 clear hQ1 Q1 hK' K' f0 f1 f2 f3 f4 f5 g0' g1' g2' g3' g4' g5'
 simp only[List.drop_succ_cons,List.drop_zero]
 refine wpList_index (by rfl) 43 (.tmp 29) (.tmp 32) rfl 45 i45 6 Tryz.underlying43 hi45 hs45 g1 0 kl cc1 k rfl rfl hklt ?_
 rw[Nat.zero_add]
 refine wpList_store_mid (by rfl) 45 (.tmp 43) (.tmp 42) rfl g1 (k*6) #[.int .i64 m.kind,.int .i64 m.space,.string m.name,.slice ma m.attrs.length mc,.string m.text,.slice mb m.kids.length md] rfl rfl (HO3.out.there (k*6) 6 (by have:=HXL.out;have:=HK1.out;omega)) (by rw[hi45];simp[hs45]) (by simp[Value.oneCell']) ?_
 have hO4:=HO3.out.setCells [.int .i64 m.kind,.int .i64 m.space,.string m.name,.slice ma m.attrs.length mc,.string m.text,.slice mb m.kids.length md] _ (k*6) W3
 have hset:setsL xs (k*6) [.int .i64 m.kind,.int .i64 m.space,.string m.name,.slice ma m.attrs.length mc,.string m.text,.slice mb m.kids.length md]=ys++[.int .i64 m.kind,.int .i64 m.space,.string m.name,.slice ma m.attrs.length mc,.string m.text,.slice mb m.kids.length md]:=by
  rw[HSP.out,← HYL.out]
  exact setsL_end ys zs _ (by rw[HZL6.out];rfl)
 rw[hset] at hO4
 have hoth4:∀ i,i≠g1→(W3.setCells g1 (k*6) [.int .i64 m.kind,.int .i64 m.space,.string m.name,.slice ma m.attrs.length mc,.string m.text,.slice mb m.kids.length md]).heap[i]?=W3.heap[i]?:=fun i hi=>heap_setCells_other g1 _ (k*6) W3 i hi
 simp only[]
 obtain⟨W4,hW4⟩:∃ W4,W4=W3.setCells g1 (k*6) [.int .i64 m.kind,.int .i64 m.space,.string m.name,.slice ma m.attrs.length mc,.string m.text,.slice mb m.kids.length md]:=⟨_,rfl⟩
 rw[← hW4] at hO4 hoth4 ⊢
 have hr0:W4.heap[w.heap.size]?=some (.cells #[.int .i64 n.kind,.int .i64 n.space,.string n.name,.slice aa al ca,.string n.text,.slice a kl c] 45 (0,0)):=by rw[hO4.bel.block w.heap.size (by have:=HZ0.out;omega)];exact R0.out
 have hc5:W4.cell? ⟨w.heap.size,5,none⟩=some (.slice a kl c):=by rw[cell_of_row _ _ 5 _ 45 (0,0) hr0];rfl
 have hfr:W4.frozen? ⟨w.heap.size,5,none⟩=false:=by simp[World.frozen?,hr0]
 have HO4:=Lib.hid hO4
 have HR04:=Lib.hid hr0
 clear hO4 hset hW4 hr0
 go_upto_region 7 with fail
 obtain⟨wc,hwc⟩:∃ wc,wc=W4.setCell ⟨w.heap.size,5,none⟩ (.slice (some ⟨g1,0,none⟩) kl cc1):=⟨_,rfl⟩
 rw[← hwc]
 have hcut:Hid (PutAt W0 wc w.heap.size (.int .i64 n.kind) (.int .i64 n.space) (.string n.name) (.slice aa al ca) (.string n.text) kl (ys++[.int .i64 m.kind,.int .i64 m.space,.string m.name,.slice ma m.attrs.length mc,.string m.text,.slice mb m.kids.length md])):=by
  show PutAt _ _ _ _ _ _ _ _ _ _
  rw[hwc]
  exact PutAt.of R0.out HO4.out
 have hW3c:∀ g,g≠g1→g≠w.heap.size→wc.heap[g]?=W3.heap[g]?:=fun g h1 h2=>by rw[hwc,heap_setCell_other W4 ⟨w.heap.size,5,none⟩ g _ h2,hoth4 g h1]
 have HW3C:=Lib.hid hW3c
 clear hwc hW3c hoth4 hc5 hfr HR04
 obtain⟨a2,c2,hbox,hvec,hva⟩:=hcut.out.box
 have HVC:=Lib.hid hvec
 have HVA:=Lib.hid hva
 clear hvec hva
 have c0:wc.cell? ⟨w.heap.size,0,none⟩=some (.int .i64 n.kind):=by rw[cell_of_row _ _ 0 _ 45 (0,0) hbox];rfl
 have c1:wc.cell? ⟨w.heap.size,1,none⟩=some (.int .i64 n.space):=by rw[cell_of_row _ _ 1 _ 45 (0,0) hbox];rfl
 have c2':wc.cell? ⟨w.heap.size,2,none⟩=some (.string n.name):=by rw[cell_of_row _ _ 2 _ 45 (0,0) hbox];rfl
 have c3:wc.cell? ⟨w.heap.size,3,none⟩=some (.slice aa al ca):=by rw[cell_of_row _ _ 3 _ 45 (0,0) hbox];rfl
 have c4:wc.cell? ⟨w.heap.size,4,none⟩=some (.string n.text):=by rw[cell_of_row _ _ 4 _ 45 (0,0) hbox];rfl
 have c5:wc.cell? ⟨w.heap.size,5,none⟩=some (.slice a2 kl c2):=by rw[cell_of_row _ _ 5 _ 45 (0,0) hbox];rfl
 have hr2:wc.heap[w.heap.size+1+1]?=some (.cells #[.int .i64 0,.int .i64 0,.string ⟨#[]⟩,.slice none 0 0,.string ⟨#[]⟩,.slice none 0 0] 45 (0,0)):=by
  rw[hcut.out.other _ (by have:=HZ0.out;omega) (by omega)]
  exact R2.out
 have HR2:=Lib.hid hr2
 clear hr2
 go_wp2_with (refine wpList_store_row (by rfl) 45 (.tmp 6) (.tmp 46) rfl (w.heap.size+1+1) #[.int .i64 n.kind,.int .i64 n.space,.string n.name,.slice aa al ca,.string n.text,.slice a2 kl c2] rfl rfl 45 _ HR2.out (by rw[hi45];simp[hs45]) rfl (by simp[Value.oneCell']) ?_)
 have hrow:=setRow_heap wc (w.heap.size+1+1) _ #[.int .i64 n.kind,.int .i64 n.space,.string n.name,.slice aa al ca,.string n.text,.slice a2 kl c2] 45 (0,0) HR2.out
 obtain⟨Wf,hWf⟩:∃ Wf,Wf=wc.setRow (w.heap.size+1+1) #[.int .i64 n.kind,.int .i64 n.space,.string n.name,.slice aa al ca,.string n.text,.slice a2 kl c2]:=⟨_,rfl⟩
 rw[← hWf] at hrow ⊢
 clear c0 c1 c2' c3 c4 c5
 have hoth:∀ i,i≠w.heap.size+1+1→Wf.heap[i]?=wc.heap[i]?:=fun i hi=>by rw[hWf];exact setRow_other wc _ i _ hi
 have hBf:Below w.heap.size w Wf:=by
  have h0:=HB0.out
  have hz:=HZ0.out
  have hp:=hcut.out
  refine { os:=?_,tape:=?_,output:=?_,size:=?_,block:=?_ }
  ·rw[hWf];exact hp.os.trans h0.os
  ·rw[hWf];exact hp.tape.trans h0.tape
  ·rw[hWf];exact hp.output.trans h0.output
  ·have h1:=hp.size
   have h2:=h0.size
   have h3:Wf.heap.size=wc.heap.size:=by rw[hWf];simp[World.setRow]
   omega
  ·intro k hk
   rw[hoth k (by omega),hp.other k (by omega) (by omega)]
   exact h0.block k hk
 have hvf:VecAt Wf (.slice a2 kl c2) kl (ys++[.int .i64 m.kind,.int .i64 m.space,.string m.name,.slice ma m.attrs.length mc,.string m.text,.slice mb m.kids.length md]):=by
  obtain⟨a',c',e',hv⟩:=HVC.out
  refine⟨a',c',e',fun j u hj=>?_⟩
  obtain⟨g,off,ha,hc⟩:=hv j u hj
  simp only[Value.slice.injEq] at e'
  have hg:=HVA.out ⟨g,off,none⟩ (by rw[e'.1,ha])
  have hz:=HZ0.out
  simp only at hg
  exact⟨g,off,ha,by rw[World.cell?_of_block (hoth g (by omega))];exact hc⟩
 have hlk:(n.kids.dropLast++[m]).length=kl:=by rw[List.length_append,List.length_dropLast,HKL.out];simp;omega
 have keepN:∀ g,g<w.heap.size→g<B→Wf.heap[g]?=w.heap[g]?∧OldNew B w g:=fun g hg hgb=>⟨hBf.block g hg,.inl hgb⟩
 have keepM:∀ g,g<W3.heap.size→OldNew B (W1.drewN 1) g→Wf.heap[g]?=W3.heap[g]?∧OldNew B w g:=fun g hg hd=>by
  have z0:=HZ0.out
  have z1:=HO1.out.bel.size
  have z2:=HG1.out
  have z3:=HBW.out
  have z4:W1.heap.size≤(W1.drewN 1).heap.size:=(below_drw W1 1).size
  have z5:=(HO1.out.row_lt)
  rcases hd with hd|hd
  ·exact⟨by rw[hoth g (by omega),HW3C.out g (by omega) (by omega)],.inl hd⟩
  ·exact⟨by rw[hoth g (by omega),HW3C.out g (by omega) (by omega)],.inr (by omega)⟩
 have hN:NodeD (OldNew B w) Wf (n.put (n.kids.dropLast++[m])) (.agg #[.int .i64 n.kind,.int .i64 n.space,.string n.name,.slice aa al ca,.string n.text,.slice a2 kl c2]):=by
  unfold Nd.put NodeD
  refine⟨aa,ca,a2,c2,by rw[hlk,HAL.out],by rw[hlk];omega,HPT.out.1.keep keepN,?_⟩
  refine kidsD_of_cells hvf ((HYS.out.keep keepN).snoc (HN3.out.keep keepM)) (fun _ h=>h) (fun y hy=>.inr ?_)
  have h1:=HVA.out y hy
  have h2:=HZ0.out
  omega
 have e0:Wf.cell? ⟨w.heap.size+1+1,0,none⟩=some (.int .i64 n.kind):=by rw[cell_of_row _ _ 0 _ 45 (0,0) hrow];rfl
 have e1:Wf.cell? ⟨w.heap.size+1+1,1,none⟩=some (.int .i64 n.space):=by rw[cell_of_row _ _ 1 _ 45 (0,0) hrow];rfl
 have e2:Wf.cell? ⟨w.heap.size+1+1,2,none⟩=some (.string n.name):=by rw[cell_of_row _ _ 2 _ 45 (0,0) hrow];rfl
 have e3:Wf.cell? ⟨w.heap.size+1+1,3,none⟩=some (.slice aa al ca):=by rw[cell_of_row _ _ 3 _ 45 (0,0) hrow];rfl
 have e4:Wf.cell? ⟨w.heap.size+1+1,4,none⟩=some (.string n.text):=by rw[cell_of_row _ _ 4 _ 45 (0,0) hrow];rfl
 have e5:Wf.cell? ⟨w.heap.size+1+1,5,none⟩=some (.slice a2 kl c2):=by rw[cell_of_row _ _ 5 _ 45 (0,0) hrow];rfl
 refine bodyPost_ret (v:=.agg #[.int .i64 n.kind,.int .i64 n.space,.string n.name,.slice aa al ca,.string n.text,.slice a2 kl c2]) ?_ rfl ⟨_,rfl,hN,hBf⟩
 simp[results,Tryz.results42,go_sem,e0,e1,e2,e3,e4,e5]
theorem brk_any (bad:Nd)(B:Nat):∀ (d:Nat),d≤16→∀ (n:Nd) (v pv:Value) (w:World),B≤w.heap.size→Hid (n.sz≤1000000)→Hid (NodeD (fun g=>g<B) w n v)→Hid (NodeD (fun g=>g<B) w bad pv) →
  Calls Tryz.prog 42 #[v,.int .i64 d,pv] w (BrkPost B (brokenN bad d n) w):=by
 intro d
 induction d with
 | zero =>
  intro _ n v pv w hB hZ hN hP
  exact brk_put bad n v pv 0 w B hB (fun _=>rfl) hZ hN hP
 | succ d ih =>
  intro hd n v pv w hB hZ hN hP
  unfold brokenN
  by_cases hk:n.kids=[]
  ·rw[dif_pos hk]
   exact brk_put bad n v pv ((d+1:Nat):Int) w B hB (fun h=>absurd hk h) hZ hN hP
  ·rw[dif_neg hk]
   exact brk_deep bad d B (Lib.hid (ih (by omega))) n v pv ((d+1:Nat):Int) w hB (by omega) (Lib.hid (by omega)) hk hZ hN hP
end Go.Proofs.YtcfgbdhpcboikaaGreatDoor
