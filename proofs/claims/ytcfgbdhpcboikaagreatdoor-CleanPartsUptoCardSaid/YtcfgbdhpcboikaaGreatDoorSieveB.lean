/-
  sieve.text: a text laid down.
  clean.filter, over the contract of sieve.all.
-/
import Derived.Test.YtcfgbdhpcboikaaGreatDoorDeepN
import Derived.Test.YtcfgbdhpcboikaaGreatDoorLinkW
import Derived.Test.YtcfgbdhpcboikaaGreatDoorSchedE
import Derived.Test.YtcfgbdhpcboikaaGreatDoorBase
import Derived.Deep.DeepCutAuto
import Derived.Deep.CutRange
import Derived.BigQuiet
import Derived.Test.YtcfgbdhpcboikaaGreatDoorHoldF
namespace Go.Proofs.YtcfgbdhpcboikaaGreatDoor
set_option maxHeartbeats 2000000
set_option maxRecDepth 100000
open Go.RowKit
theorem NodeD.more {D:Nat→Prop}{w:World}{x:Nd}{c0 c1 c2 c3 c4 c5:Value}(h:NodeD D w x (.agg #[c0,c1,c2,c3,c4,c5]))(t:ByteArray):NodeD D w (x.more t) (.agg #[c0,c1,c2,c3,.string (x.text++t),c5]):=by
 cases x with
 | mk kd sp nm at' tx ks =>
  unfold NodeD at h
  unfold Nd.more NodeD
  obtain⟨aa,ca,a,c,e,h1,h2,h3⟩:=h
  simp only[Value.agg.injEq,Array.mk.injEq,List.cons.injEq,and_true] at e
  obtain⟨rfl,rfl,rfl,rfl,rfl,rfl⟩:=e
  exact⟨aa,ca,a,c,rfl,h1,h2,h3⟩
theorem CellsD.more {D:Nat→Prop}{w:World}{xs:List Value}{ys:List Nd}{x:Nd}(h:CellsD D w xs (ys++[x]))(t:ByteArray):CellsD D w (xs.set (ys.length*6+4) (.string (x.text++t))) (ys++[x.more t]):=by
 refine⟨by rw[List.length_set,h.1];simp,fun j hj=>?_⟩
 have hj':j<(ys++[x]).length:=by simpa using hj
 obtain⟨c0,c1,c2,c3,c4,c5,h0,h1,h2,h3,h4,h5,hn⟩:=h.2 j hj'
 have keep:∀ i v,i≠ys.length*6+4→xs[i]?=some v→(xs.set (ys.length*6+4) (.string (x.text++t)))[i]?=some v:=fun i v hi hv=>by
  rw[List.getElem?_set_ne (fun e=>hi e.symm)]
  exact hv
 by_cases hjl:j<ys.length
 ·refine⟨c0,c1,c2,c3,c4,c5,keep _ _ (by omega) h0,keep _ _ (by omega) h1,keep _ _ (by omega) h2,keep _ _ (by omega) h3,keep _ _ (by omega) h4,keep _ _ (by omega) h5,?_⟩
  rw[List.getElem_append_left hjl] at hn ⊢
  exact hn
 ·have hje:j=ys.length:=by simp at hj;omega
  subst hje
  have hlt:ys.length*6+4<xs.length:=by rw[h.1];simp;omega
  refine⟨c0,c1,c2,c3,.string (x.text++t),c5,keep _ _ (by omega) h0,keep _ _ (by omega) h1,keep _ _ (by omega) h2,keep _ _ (by omega) h3,List.getElem?_set_self hlt,keep _ _ (by omega) h5,?_⟩
  rw[List.getElem_append_right (Nat.le_refl _)] at hn ⊢
  have hn':NodeD D w x (.agg #[c0,c1,c2,c3,c4,c5]):=by simpa using hn
  simpa using hn'.more t
theorem Sv.more {p:Nat}{pn:ByteArray}{pv:Value}{ph:List ByteArray}{ys:List Nd}{x:Nd}{W1 w:World}{g c n:Nat}{xs:List Value}(at':p=W1.heap.size)(phr:Phr W1 pv ph)(hn:n=(ys++[x]).length)
  (hr:w.heap[p]?=some (.cells #[.string pn,pv,.slice (some ⟨g,0,none⟩) n c] 151 (0,0))) (hO:OwnV p 45 6 (.slice (some ⟨g,0,none⟩) n c) n xs W1 w) (hne:g≠p)
  (hC:CellsD (fun k=>p<k∧(Value.slice (some ⟨g,0,none⟩) n c).ownBlock≠some k) w xs (ys++[x])) (t:ByteArray) :
  Sv p pn pv ph (ys++[x.more t]) W1 (w.setCell ⟨g,ys.length*6+4,none⟩ (.string (x.text++t))):=by
 have hl:(ys++[x.more t]).length=n:=by rw[hn];simp
 refine⟨at',⟨.slice (some ⟨g,0,none⟩) n c,_,?_,?_,fun e=>hne (Option.some.inj (show some g=some p from e)),(hC.more t).keep (fun k _ hk=>⟨heap_setCell_other w ⟨g,_,none⟩ k _ (fun e=>hk.2 (by rw[e];rfl)),hk⟩)⟩,phr⟩
 ·rw[heap_setCell_other w ⟨g,_,none⟩ p _ (Ne.symm hne)]
  exact hr
 ·rw[hl]
  exact hO.setCell _ _
theorem OwnV.aside {B:Nat}{e:TypeId}{size g n c:Nat}{xs:List Value}{W0 w:World}(h:OwnV B e size (.slice (some ⟨g,0,none⟩) n c) n xs W0 w)(q:Addr)(hq:B≤q.block)(hne:g≠q.block)(u:Value) :
  OwnV B e size (.slice (some ⟨g,0,none⟩) n c) n xs W0 (w.setCell q u):=by
 refine⟨⟨h.own.1,?_⟩,h.bel.setCell hq u,by rw[size_setCell];exact h.base⟩
 rcases h.own.2 with hn|⟨g',cap,cur,hv,hB,hg,rest⟩
 ·exact .inl hn
 ·refine .inr ⟨g',cap,cur,hv,hB,?_,rest⟩
  simp only[Value.slice.injEq,Option.some.injEq,Addr.mk.injEq] at hv
  rw[heap_setCell_other w q g' u (by rw[← hv.1.1];exact hne)]
  exact hg
theorem Sv.push {p:Nat}{pn:ByteArray}{pv:Value}{ph:List ByteArray}{out:List Nd}{x:Nd}{W1 W5 W6:World}{g n c:Nat}{xs:List Value}{c0 c1 c2 c3 c4 c5:Value}(at':p=W1.heap.size)(phr:Phr W1 pv ph)(hn:n=out.length+1)(hne:g≠p)
  (hr:W6.heap[p]?=some (.cells #[.string pn,pv,.slice (some ⟨g,0,none⟩) n c] 151 (0,0))) (hO:OwnV p 45 6 (.slice (some ⟨g,0,none⟩) n c) n (xs++[c0,c1,c2,c3,c4,c5]) W1 W6)
  (hC:CellsD (fun k=>p<k∧g≠k) W5 xs out) (hx:NodeD (fun k=>p<k∧g≠k) W5 x (.agg #[c0,c1,c2,c3,c4,c5])) (hoth:∀ k,k≠g→k≠p→W6.heap[k]?=W5.heap[k]?) :
  Sv p pn pv ph (out++[x]) W1 W6:=by
 have hl:(out++[x]).length=n:=by rw[hn];simp
 refine⟨at',⟨.slice (some ⟨g,0,none⟩) n c,_,hr,by rw[hl];exact hO,fun e=>hne (Option.some.inj (show some g=some p from e)),?_⟩,phr⟩
 have h:=(hC.snoc hx).keep (D':=fun k=>p<k∧g≠k) (w':=W6) (fun k _ hk=>⟨hoth k (Ne.symm hk.2) (by omega),hk⟩)
 exact h.keep (fun k _ hk=>⟨rfl,hk.1,fun e=>hk.2 (Option.some.inj (show some g=some k from e))⟩)
theorem push_worlds {p:Nat}{pn:ByteArray}{pv v:Value}{W1 W5:World}{g n c:Nat}{xs zs cs:List Value}(hne:g≠p)(hz:zs.length=cs.length)(o:Nat)(ho:o=xs.length)
  (hr:W5.heap[p]?=some (.cells #[.string pn,pv,v] 151 (0,0))) (hO:OwnV p 45 6 (.slice (some ⟨g,0,none⟩) n c) n (xs++zs) W1 W5) :
  (∀ W6,W6=(W5.setCells g o cs).setCell ⟨p,2,none⟩ (.slice (some ⟨g,0,none⟩) n c)∨W6=(W5.setCell ⟨p,2,none⟩ (.slice (some ⟨g,0,none⟩) n c)).setCells g o cs →
   W6.heap[p]?=some (.cells #[.string pn,pv,.slice (some ⟨g,0,none⟩) n c] 151 (0,0))∧OwnV p 45 6 (.slice (some ⟨g,0,none⟩) n c) n (xs++cs) W1 W6∧∀ k,k≠g→k≠p→W6.heap[k]?=W5.heap[k]?):=by
 subst ho
 have row:∀ w:World,w.heap[p]?=some (.cells #[.string pn,pv,v] 151 (0,0))→(w.setCell ⟨p,2,none⟩ (.slice (some ⟨g,0,none⟩) n c)).heap[p]?=some (.cells #[.string pn,pv,.slice (some ⟨g,0,none⟩) n c] 151 (0,0)):=fun w h=>by
  rw[setCell_eq_setRow w p 2 _ 151 (0,0) _ h]
  exact setRow_heap w p _ _ 151 (0,0) h
 rintro W6 (rfl|rfl)
 ·have h1:=hO.setCells cs _ xs.length W5
  rw[setsL_end xs zs cs hz] at h1
  refine⟨row _ (by rw[heap_setCells_other g cs _ W5 p (Ne.symm hne)];exact hr),h1.aside ⟨p,2,none⟩ (Nat.le_refl _) hne _,fun k h2 h3=>?_⟩
  rw[heap_setCell_other _ ⟨p,2,none⟩ k _ h3,heap_setCells_other g cs _ W5 k h2]
 ·have h1:=(hO.aside ⟨p,2,none⟩ (Nat.le_refl _) hne (.slice (some ⟨g,0,none⟩) n c)).setCells cs _ xs.length (W5.setCell ⟨p,2,none⟩ (.slice (some ⟨g,0,none⟩) n c))
  rw[setsL_end xs zs cs hz] at h1
  refine⟨by rw[heap_setCells_other g cs _ _ p (Ne.symm hne)];exact row _ hr,h1,fun k h2 h3=>?_⟩
  rw[heap_setCells_other g cs _ _ k h2,heap_setCell_other _ ⟨p,2,none⟩ k _ h3]
theorem below_drw6 (w:World):Below w.heap.size w (w.drewN 1):=(Below.refl _ w).drew
theorem leaf_nodeD (D:Nat→Prop)(w:World)(t:ByteArray):NodeD D w (txtN t) (.agg #[.int .i64 2,.int .i64 0,.string ⟨#[]⟩,.slice none 0 0,.string t,.slice none 0 0]):=by
 unfold txtN NodeD
 exact⟨none,0,none,0,rfl,by simp,fun j h=>absurd h (by simp),by unfold KidsD;trivial⟩
def lastText (out:List Nd):Bool:=match out.getLast? with|some x=>decide (x.kind=2)|none=>false
theorem lastText_snoc (ys:List Nd)(x:Nd):lastText (ys++[x])=decide (x.kind=2):=by unfold lastText;rw[List.getLast?_concat]
theorem addText_not {out:List Nd}(h:lastText out=false)(t:ByteArray):addText out t=out++[txtN t]:=by
 unfold addText
 unfold lastText at h
 cases ho:out.getLast? with
 | none=>rfl
 | some x =>
  rw[ho] at h
  show(if x.kind=2 then _ else _)=_
  rw[if_neg (by simpa using h)]
theorem CellsD.at {D:Nat→Prop}{w:World}{xs:List Value}{ys:List Nd}{x:Nd}(h:CellsD D w xs (ys++[x])):xs[ys.length*6]?=some (.int .i64 x.kind)∧xs[ys.length*6+4]?=some (.string x.text):=by
 obtain⟨c0,c1,c2,c3,c4,c5,h0,h1,h2,h3,h4,h5,hn⟩:=h.2 ys.length (by simp)
 have hx:(ys++[x])[ys.length]'(by simp)=x:=by rw[List.getElem_append_right (Nat.le_refl _)];simp
 rw[hx] at hn
 obtain⟨_,_,_,_,e0,_,_,_,e4,_⟩:=hn.node.cells
 rw[e0] at h0
 rw[e4] at h4
 exact⟨h0,h4⟩
theorem snoc_of {out:List Nd}(h:out≠[]):∃ ys x,out=ys++[x]:=⟨out.dropLast,out.getLast h,(List.dropLast_concat_getLast h).symm⟩
theorem stext_any (p:Nat)(pn:ByteArray)(pv:Value)(ph:List ByteArray)(out:List Nd)(W1 w:World)(s:ByteArray)(hs:s.size≤100000000)(ho:out.length≤100000000)(hx:∀ x∈out,x.text.size≤100000000)(HT:Hid (Tabs w))(h:Hid (Sv p pn pv ph out W1 w)) :
  Calls Tryz.prog 196 #[.pointer (some ⟨p,0,none⟩),.string s] w fun e w'=>e=.returned (.tuple #[])∧Sv p pn pv ph (textS pn out s) W1 w':=by
 have X:=text_any s (by omega) w HT.out
 have ht:(⟨(textL s.data.toList).toArray⟩:ByteArray)=textB s:=rfl
 rw[ht] at X
 have HX:=Lib.hid X
 have hts:(textB s).size≤300000000:=by
  have h1:=text_size s.data.toList
  have h2:(textB s).size=(textL s.data.toList).length:=rfl
  have h3:s.data.toList.length=s.size:=rfl
  omega
 have HTXT:=Lib.hid (show textS pn out s=if textB s=⟨#[]⟩∨takesL pn.data.toList=false then out else addText out (textB s) from rfl)
 clear X ht
 generalize textB s=t at *
 generalize textS pn out s=R at *
 go_enter Tryz.func196,Tryz.ntmps196
 go_wp2_with fail
 refine HX.out.mono ?_
 rintro e W2 ⟨rfl,B2⟩
 have HS2:=Lib.hid (h.out.below B2)
 clear B2 HX
 obtain⟨v,xs,hr,hO,hne,hC⟩:=HS2.out.row
 obtain⟨a,c,rfl,_,_⟩:=hO.slice
 have c0:W2.cell? ⟨p,0,none⟩=some (.string pn):=by rw[cell_of_row _ _ 0 _ 151 (0,0) hr];rfl
 have c2:W2.cell? ⟨p,2,none⟩=some (.slice a out.length c):=by rw[cell_of_row _ _ 2 _ 151 (0,0) hr];rfl
 have HR:=Lib.hid hr
 have HO:=Lib.hid hO
 have HC:=Lib.hid hC
 have HNE:=Lib.hid hne
 clear hr hO hC hne
 by_cases h0:t=⟨#[]⟩
 ·subst h0
  have hR:R=out:=by rw[HTXT.out,if_pos (Or.inl rfl)]
  subst hR
  go_wp2
  refine bodyPost_ret (v:=.tuple #[]) (by simp[results,Tryz.results196,go_sem]) rfl ⟨rfl,HS2.out⟩
 ·have k1:¬ t.toList=[]:=fun e=>h0 (ba_ext (by rw[← toList_data,e]))
  have k2:t.toList.isEmpty=false:=by cases hh:t.toList with|nil=>exact absurd hh k1|cons a b=>rfl
  have HTK:=Lib.hid (takes_any pn W2)
  obtain⟨q,hq⟩:∃ q,takesL pn.data.toList=q:=⟨_,rfl⟩
  rw[hq] at HTK HTXT
  have H0:=Lib.hid h0
  clear h0 hq
  go_wp2_with fail
  refine HTK.out.mono ?_
  rintro e w' ⟨rfl,rfl⟩
  clear HTK
  cases q with
  | false =>
   have hR:R=out:=by rw[HTXT.out,if_pos (Or.inr rfl)]
   subst hR
   go_wp2
   refine bodyPost_ret (v:=.tuple #[]) (by simp[results,Tryz.results196,go_sem]) rfl ⟨rfl,HS2.out⟩
  | true =>
   have HRR:Hid (R=addText out t):=by show _=_;rw[HTXT.out,if_neg (by rintro(e|e);exact H0.out e;cases e)]
   clear HTXT
   go_upto_region 3 with fail
   obtain⟨it,hit⟩:∃ it,lastText out=it:=⟨_,rfl⟩
   have HIT:=Lib.hid hit
   clear hit
   go_cut [35] (fun v35 wx=>v35=.bool it∧wx=W2)
   case first =>
    by_cases hnil:out=[]
    ·subst hnil
     have hfalse:it=false:=HIT.out.symm
     subst hfalse
     go_wp2
     go_meet
     case rel=>exact⟨rfl,rfl⟩
    ·obtain⟨ys,x,hyx⟩:=snoc_of hnil
     obtain⟨g,c',hv,_,_,_⟩:=HO.out.atRow (List.length_pos_iff.2 hnil)
     simp only[Value.slice.injEq] at hv
     obtain⟨rfl,_,rfl⟩:=hv
     have hC:=HC.out
     rw[hyx] at hC
     have hkc:=HO.out.cell _ _ hC.at.1
     have hke:(x.kind==2)=it:=by
      have h1:=HIT.out
      rw[hyx,lastText_snoc] at h1
      rw[← h1]
      by_cases hk:x.kind=2
      ·rw[hk];rfl
      ·rw[decide_eq_false hk,beq_eq_false_iff_ne];exact hk
     have hol:out.length=ys.length+1:=by rw[hyx];simp
     have hsub:(out.length:Int)-1=(ys.length:Int):=by omega
     have hklt:ys.length<out.length:=by omega
     have hpos:0<out.length:=by omega
     clear hC hnil hyx hol
     generalize out.length=ol at *
     generalize ys.length=k at *
     go_wp2
     go_meet
     case rel=>exact⟨by simp,rfl⟩
   case rest =>
    obtain⟨rfl,rfl⟩:=hcut
    cases it with
    | true =>
     have hnil:out≠[]:=fun e=>by have h1:=HIT.out;rw[e] at h1;cases h1
     obtain⟨ys,x,hyx⟩:=snoc_of hnil
     obtain⟨g,c',hv,hlo,_,_⟩:=HO.out.atRow (List.length_pos_iff.2 hnil)
     simp only[Value.slice.injEq] at hv
     obtain⟨rfl,_,rfl⟩:=hv
     have hC:=HC.out
     rw[hyx] at hC
     have hxk:x.kind=2:=by have h1:=HIT.out;rw[hyx,lastText_snoc] at h1;exact of_decide_eq_true h1
     have hkc:=HO.out.cell _ _ hC.at.2
     have hxl:ys.length*6+4+1≤xs.length:=by rw[hC.1];simp;omega
     have hfr:=(HO.out.there (ys.length*6+4) 1 hxl 0 (by omega)).2
     rw[Nat.add_zero] at hfr
     have hol:out.length=ys.length+1:=by rw[hyx];simp
     have hsub:(out.length:Int)-1=(ys.length:Int):=by omega
     have hklt:ys.length<out.length:=by omega
     have hxt:=hx x (by rw[hyx];simp)
     have hgp:g≠p:=fun e=>HNE.out (by rw[e];rfl)
     have hfin:=Sv.more HS2.out.at' HS2.out.phr (by rw[hyx]) HR.out HO.out hgp hC t
     have hRR:R=ys++[x.more t]:=by rw[HRR.out,hyx,addText_last,if_pos hxk]
     have HRR2:=Lib.hid hRR
     have HFIN:=Lib.hid hfin
     clear hC hnil hyx hol hxk hxl hgp hRR hfin hx hlo
     generalize out.length=ol at *
     generalize ys.length=k at *
     go_wp2
     refine bodyPost_ret (v:=.tuple #[]) (by simp[results,Tryz.results196,go_sem]) rfl ⟨rfl,?_⟩
     rw[HRR2.out]
     exact HFIN.out
    | false =>
     obtain⟨i45,hi45,hz45,hs45,hb45⟩:=info_parts Tryz.info45
     obtain⟨ol,hol⟩:∃ ol,out.length=ol:=⟨_,rfl⟩
     have hO:=HO.out
     rw[hol] at hO c2 ho
     have hxl:xs.length=ol*6:=by rw[HC.out.1,hol]
     have HOLD:=Lib.hid hol
     have HXL:=Lib.hid hxl
     have hbd:Below wc.heap.size wc (wc.drewN 1):=below_drw6 wc
     have HOd:=Lib.hid (hO.keep hbd)
     have hc2d:(wc.drewN 1).cell? ⟨p,2,none⟩=some (.slice a ol c):=by rw[hbd.cell (p:=⟨p,2,none⟩) (World.block_lt_of_cell? _ _ c2)];exact c2
     have HC2D:=Lib.hid hc2d
     have HRD:=Lib.hid ((hbd.block p (Array.getElem?_eq_some_iff.1 HR.out).1).trans HR.out)
     have hlen0:out.length=ol:=hol
     go_upto_region 5 with fail
     rw[hlen0]
     obtain⟨S,hS⟩:∃ S:World→Prop,∀ u,S u↔u.cell? ⟨p,2,none⟩=some (.slice a ol c):=⟨_,fun _=>Iff.rfl⟩
     have f2:∀ s:WIn S,s.w.cell? ⟨p,2,none⟩=some (.slice a ol c):=fun s=>(hS _).1 s.h
     haveI:Nonempty (WIn S):=⟨⟨wc,(hS _).2 c2⟩⟩
     haveI:Nonempty (WIn fun _:World=>True):=⟨⟨wc,trivial⟩⟩
     have HSS:=Lib.hid hS
     clear hS hO hol hxl hbd hc2d c2 c0 hlen0
     refine region_two 9 (.two [0,1,2,3,4,6] 5 (.one [] 7 (.one [] 8 (.fin []))) 7 (.one [] 5 (.one [] 8 (.fin [])))) (.two [9,11,12] 10 (.one [] 13 (.fin [])) 13 (.one [] 10 (.fin []))) S (by kernel_rfl) (by kernel_rfl) ((HSS.out _).2 HC2D.out) ?_
     refine segT_two (fun K' hK'=>?_)
     simp only[pick,List.getElem?_cons_zero,List.getElem?_cons_succ,Option.getD_some]
     repeat (go_big_quiet_step (fail))
     clear f2
     refine wpQuiet_nil (hK' _ ?_ ?_)
     ·intro Q1 hQ1
      clear hK' K'
      simp only[pick,List.getElem?_cons_zero,List.getElem?_cons_succ,Option.getD_some]
      go_wp2_with fail
      refine hQ1 _ _ ((HSS.out _).2 HC2D.out) (segT_one (fun K' hK'=>wpQuiet_nil (hK' _ ?_)))
      clear hK' K' hQ1 Q1
      intro Q2 hQ2
      simp only[pick,List.getElem?_cons_zero,List.getElem?_cons_succ,Option.getD_some]
      go_wp2_with fail
      refine hQ2 _ _ ((HSS.out _).2 (alloc_cell HC2D.out)) (segT_one (fun K' hK'=>wpQuiet_nil (hK' _ ?_)))
      clear hK' K' hQ2 Q2
      intro Q3 hQ3
      simp only[pick,List.getElem?_cons_zero,List.getElem?_cons_succ,Option.getD_some]
      go_wp2_with (at_builtin;refine wpList_append_one (by rfl) _ _ 43 (by rfl) 45 i45 _ 6 96 Tryz.underlying43 hi45 hz45 hs45 hb45 rfl (by decide) _ _ _ rfl HOd.out #[.int .i64 0,.int .i64 0,.string ⟨#[]⟩,.slice none 0 0,.string ⟨#[]⟩,.slice none 0 0] rfl rfl rfl rfl (by omega) (by omega) ?_)
      intro v5 W5 hO5 hG5
      obtain⟨g5,c5,rfl,hlo5,hlt5,hob5⟩:=hO5.out.atRow (by omega)
      have hds:(wc.drewN 1).heap.size=wc.heap.size:=rfl
      have hpw:p<(wc.drewN 1).heap.size:=(Array.getElem?_eq_some_iff.1 HRD.out).1
      have hr5:W5.heap[p]?=some (.cells #[.string pn,pv,.slice a ol c] 151 (0,0)):=by
       rw[hG5.out.gr.block p (by simp;omega) (fun e=>by have h1:=HNE.out;rw[HOLD.out] at h1;exact h1 e.symm),Below.heap_alloc _ _ p hpw]
       have h1:=HRD.out
       rw[HOLD.out] at h1
       exact h1
      have hne5:g5≠p:=by
       rcases hG5.out.loc with hl|⟨k,hk,hle⟩
       ·intro e
        have h1:=HNE.out
        rw[HOLD.out] at h1
        exact h1 (by rw[← hl,hob5,e])
       ·rw[hob5] at hk
        have h1:g5=k:=Option.some.inj hk
        simp at hle
        omega
      have hC5:CellsD (fun k=>p<k∧g5≠k) W5 xs out:=by
       have h0:=HC.out
       rw[HOLD.out] at h0
       refine h0.keep (fun k hk hd=>⟨?_,hd.1,?_⟩)
       ·have hkw:k<(wc.drewN 1).heap.size:=hk
        rw[hG5.out.gr.block k (by simp;omega) (fun e=>hd.2 e.symm),Below.heap_alloc _ _ k hkw]
        rfl
       ·rcases hG5.out.loc with hl|⟨q,hq,hle⟩
        ·intro e
         exact hd.2 (by rw[← hl,hob5,e])
        ·rw[hob5] at hq
         have h1:g5=q:=Option.some.inj hq
         have hkw:k<(wc.drewN 1).heap.size:=hk
         simp at hle
         omega
      have HPW:=Lib.hid (push_worlds (zs:=[.int .i64 0,.int .i64 0,.string ⟨#[]⟩,.slice none 0 0,.string ⟨#[]⟩,.slice none 0 0]) (cs:=[.int .i64 2,.int .i64 0,.string ⟨#[]⟩,.slice none 0 0,.string t,.slice none 0 0]) hne5 rfl (ol*6) HXL.out.symm hr5 hO5.out)
      have HC5:=Lib.hid hC5
      have HNE5:=Lib.hid hne5
      have HLT5:=Lib.hid hlt5
      have hc5:W5.cell? ⟨p,2,none⟩=some (.slice a ol c):=by rw[cell_of_row _ _ 2 _ 151 (0,0) hr5];rfl
      have hf5:W5.frozen? ⟨p,2,none⟩=false:=by simp[World.frozen?,hr5]
      have HR5:=Lib.hid hr5
      have HTH:=Lib.hid (hO5.out.there (ol*6) 6 (by rw[List.length_append,HXL.out];simp))
      have HTH2:=Lib.hid ((hO5.out.aside ⟨p,2,none⟩ (Nat.le_refl _) hne5 (.slice (some ⟨g5,0,none⟩) (ol+1) c5)).there (ol*6) 6 (by rw[List.length_append,HXL.out];simp))
      have HOL1:=Lib.hid (show ol+1=out.length+1 by rw[HOLD.out])
      clear hds hpw hr5 hne5 hC5 hlo5 hlt5 hob5
      go_wp2_with fail
      refine hQ3 _ _ ((HSS.out _).2 hc5) (segT_fin (fun K' hK'=>wpQuiet_nil (hK' _ ?_)))
      clear hK' K' hQ3 Q3
      refine segT_two (fun K' hK'=>?_)
      simp only[pick,List.getElem?_cons_zero,List.getElem?_cons_succ,Option.getD_some]
      repeat (go_big_quiet_step (fail))
      refine wpQuiet_nil (hK' _ ?_ ?_)
      ·intro Q4 hQ4
       clear hK' K'
       simp only[pick,List.getElem?_cons_zero,List.getElem?_cons_succ,Option.getD_some]
       refine wpList_store_mid (by rfl) 45 (.tmp 58) (.tmp 54) rfl g5 (ol*6) #[.int .i64 2,.int .i64 0,.string ⟨#[]⟩,.slice none 0 0,.string t,.slice none 0 0] rfl rfl HTH.out (by rw[hi45];simp[hs45]) (by simp[Value.oneCell']) ?_
       simp only[]
       obtain⟨W6,hW6⟩:∃ W6,W6=W5.setCells g5 (ol*6) [.int .i64 2,.int .i64 0,.string ⟨#[]⟩,.slice none 0 0,.string t,.slice none 0 0]:=⟨_,rfl⟩
       rw[← hW6]
       have HW6:=Lib.hid (HPW.out (W6.setCell ⟨p,2,none⟩ (.slice (some ⟨g5,0,none⟩) (ol+1) c5)) (.inl (by rw[hW6])))
       have hr6:W6.heap[p]?=some (.cells #[.string pn,pv,.slice a ol c] 151 (0,0)):=by rw[hW6,heap_setCells_other g5 _ (ol*6) W5 p (Ne.symm HNE5.out)];exact HR5.out
       have hc6:W6.cell? ⟨p,2,none⟩=some (.slice a ol c):=by rw[cell_of_row _ _ 2 _ 151 (0,0) hr6];rfl
       have hf6:W6.frozen? ⟨p,2,none⟩=false:=by simp[World.frozen?,hr6]
       clear hr6 hW6 hc5 hf5
       go_wp2_with fail
       refine hQ4 _ _ trivial (segT_one (fun K' hK'=>wpQuiet_nil (hK' _ ?_)))
       clear hK' K' hQ4 Q4
       intro Q5 hQ5
       simp only[pick,List.getElem?_cons_zero,List.getElem?_cons_succ,Option.getD_some]
       go_wp2_with fail
       refine hQ5 _ _ trivial (segT_fin (fun K' hK'=>wpQuiet_nil (hK' _ (fun Q6 hQ6=>?_))))
       clear hK' K' hQ5 Q5
       go_wp2
       refine bodyPost_end (v:=.tuple #[]) (by simp[results,Tryz.results196,go_sem]) rfl ⟨rfl,?_⟩
       rw[HRR.out,addText_not HIT.out]
       exact Sv.push HS2.out.at' HS2.out.phr HOL1.out HNE5.out HW6.out.1 HW6.out.2.1 HC5.out (leaf_nodeD _ _ t) HW6.out.2.2
      ·intro Q4 hQ4
       clear hK' K'
       simp only[pick,List.getElem?_cons_zero,List.getElem?_cons_succ,Option.getD_some]
       go_wp2_with fail
       refine hQ4 _ _ trivial (segT_one (fun K' hK'=>wpQuiet_nil (hK' _ ?_)))
       clear hK' K' hQ4 Q4
       intro Q5 hQ5
       simp only[pick,List.getElem?_cons_zero,List.getElem?_cons_succ,Option.getD_some]
       have hth:(W5.setCell ⟨p,2,none⟩ (.slice (some ⟨g5,0,none⟩) (ol+1) c5)).there g5 (ol*6) 6:=HTH2.out
       refine wpList_store_mid (by rfl) 45 (.tmp 58) (.tmp 54) rfl g5 (ol*6) #[.int .i64 2,.int .i64 0,.string ⟨#[]⟩,.slice none 0 0,.string t,.slice none 0 0] rfl rfl hth (by rw[hi45];simp[hs45]) (by simp[Value.oneCell']) ?_
       simp only[]
       obtain⟨W6,hW6⟩:∃ W6,W6=(W5.setCell ⟨p,2,none⟩ (.slice (some ⟨g5,0,none⟩) (ol+1) c5)).setCells g5 (ol*6) [.int .i64 2,.int .i64 0,.string ⟨#[]⟩,.slice none 0 0,.string t,.slice none 0 0]:=⟨_,rfl⟩
       rw[← hW6]
       have HW6:=Lib.hid (HPW.out W6 (.inr hW6))
       clear hW6 hc5 hf5 hth
       go_wp2_with fail
       refine hQ5 _ _ trivial (segT_fin (fun K' hK'=>wpQuiet_nil (hK' _ (fun Q6 hQ6=>?_))))
       clear hK' K' hQ5 Q5
       go_wp2
       refine bodyPost_end (v:=.tuple #[]) (by simp[results,Tryz.results196,go_sem]) rfl ⟨rfl,?_⟩
       rw[HRR.out,addText_not HIT.out]
       exact Sv.push HS2.out.at' HS2.out.phr HOL1.out HNE5.out HW6.out.1 HW6.out.2.1 HC5.out (leaf_nodeD _ _ t) HW6.out.2.2
     ·intro Q1 hQ1
      clear hK' K'
      simp only[pick,List.getElem?_cons_zero,List.getElem?_cons_succ,Option.getD_some]
      go_wp2_with fail
      refine hQ1 _ _ ((HSS.out _).2 (alloc_cell HC2D.out)) (segT_one (fun K' hK'=>wpQuiet_nil (hK' _ ?_)))
      clear hK' K' hQ1 Q1
      intro Q2 hQ2
      simp only[pick,List.getElem?_cons_zero,List.getElem?_cons_succ,Option.getD_some]
      go_wp2_with fail
      refine hQ2 _ _ ((HSS.out _).2 (alloc_cell HC2D.out)) (segT_one (fun K' hK'=>wpQuiet_nil (hK' _ ?_)))
      clear hK' K' hQ2 Q2
      intro Q3 hQ3
      simp only[pick,List.getElem?_cons_zero,List.getElem?_cons_succ,Option.getD_some]
      go_wp2_with (at_builtin;refine wpList_append_one (by rfl) _ _ 43 (by rfl) 45 i45 _ 6 96 Tryz.underlying43 hi45 hz45 hs45 hb45 rfl (by decide) _ _ _ rfl HOd.out #[.int .i64 0,.int .i64 0,.string ⟨#[]⟩,.slice none 0 0,.string ⟨#[]⟩,.slice none 0 0] rfl rfl rfl rfl (by omega) (by omega) ?_)
      intro v5 W5 hO5 hG5
      obtain⟨g5,c5,rfl,hlo5,hlt5,hob5⟩:=hO5.out.atRow (by omega)
      have hds:(wc.drewN 1).heap.size=wc.heap.size:=rfl
      have hpw:p<(wc.drewN 1).heap.size:=(Array.getElem?_eq_some_iff.1 HRD.out).1
      have hr5:W5.heap[p]?=some (.cells #[.string pn,pv,.slice a ol c] 151 (0,0)):=by
       rw[hG5.out.gr.block p (by simp;omega) (fun e=>by have h1:=HNE.out;rw[HOLD.out] at h1;exact h1 e.symm),Below.heap_alloc _ _ p hpw]
       have h1:=HRD.out
       rw[HOLD.out] at h1
       exact h1
      have hne5:g5≠p:=by
       rcases hG5.out.loc with hl|⟨k,hk,hle⟩
       ·intro e
        have h1:=HNE.out
        rw[HOLD.out] at h1
        exact h1 (by rw[← hl,hob5,e])
       ·rw[hob5] at hk
        have h1:g5=k:=Option.some.inj hk
        simp at hle
        omega
      have hC5:CellsD (fun k=>p<k∧g5≠k) W5 xs out:=by
       have h0:=HC.out
       rw[HOLD.out] at h0
       refine h0.keep (fun k hk hd=>⟨?_,hd.1,?_⟩)
       ·have hkw:k<(wc.drewN 1).heap.size:=hk
        rw[hG5.out.gr.block k (by simp;omega) (fun e=>hd.2 e.symm),Below.heap_alloc _ _ k hkw]
        rfl
       ·rcases hG5.out.loc with hl|⟨q,hq,hle⟩
        ·intro e
         exact hd.2 (by rw[← hl,hob5,e])
        ·rw[hob5] at hq
         have h1:g5=q:=Option.some.inj hq
         have hkw:k<(wc.drewN 1).heap.size:=hk
         simp at hle
         omega
      have HPW:=Lib.hid (push_worlds (zs:=[.int .i64 0,.int .i64 0,.string ⟨#[]⟩,.slice none 0 0,.string ⟨#[]⟩,.slice none 0 0]) (cs:=[.int .i64 2,.int .i64 0,.string ⟨#[]⟩,.slice none 0 0,.string t,.slice none 0 0]) hne5 rfl (ol*6) HXL.out.symm hr5 hO5.out)
      have HC5:=Lib.hid hC5
      have HNE5:=Lib.hid hne5
      have HLT5:=Lib.hid hlt5
      have hc5:W5.cell? ⟨p,2,none⟩=some (.slice a ol c):=by rw[cell_of_row _ _ 2 _ 151 (0,0) hr5];rfl
      have hf5:W5.frozen? ⟨p,2,none⟩=false:=by simp[World.frozen?,hr5]
      have HR5:=Lib.hid hr5
      have HTH:=Lib.hid (hO5.out.there (ol*6) 6 (by rw[List.length_append,HXL.out];simp))
      have HTH2:=Lib.hid ((hO5.out.aside ⟨p,2,none⟩ (Nat.le_refl _) hne5 (.slice (some ⟨g5,0,none⟩) (ol+1) c5)).there (ol*6) 6 (by rw[List.length_append,HXL.out];simp))
      have HOL1:=Lib.hid (show ol+1=out.length+1 by rw[HOLD.out])
      clear hds hpw hr5 hne5 hC5 hlo5 hlt5 hob5
      go_wp2_with fail
      refine hQ3 _ _ ((HSS.out _).2 hc5) (segT_fin (fun K' hK'=>wpQuiet_nil (hK' _ ?_)))
      clear hK' K' hQ3 Q3
      refine segT_two (fun K' hK'=>?_)
      simp only[pick,List.getElem?_cons_zero,List.getElem?_cons_succ,Option.getD_some]
      repeat (go_big_quiet_step (fail))
      refine wpQuiet_nil (hK' _ ?_ ?_)
      ·intro Q4 hQ4
       clear hK' K'
       simp only[pick,List.getElem?_cons_zero,List.getElem?_cons_succ,Option.getD_some]
       refine wpList_store_mid (by rfl) 45 (.tmp 58) (.tmp 54) rfl g5 (ol*6) #[.int .i64 2,.int .i64 0,.string ⟨#[]⟩,.slice none 0 0,.string t,.slice none 0 0] rfl rfl HTH.out (by rw[hi45];simp[hs45]) (by simp[Value.oneCell']) ?_
       simp only[]
       obtain⟨W6,hW6⟩:∃ W6,W6=W5.setCells g5 (ol*6) [.int .i64 2,.int .i64 0,.string ⟨#[]⟩,.slice none 0 0,.string t,.slice none 0 0]:=⟨_,rfl⟩
       rw[← hW6]
       have HW6:=Lib.hid (HPW.out (W6.setCell ⟨p,2,none⟩ (.slice (some ⟨g5,0,none⟩) (ol+1) c5)) (.inl (by rw[hW6])))
       have hr6:W6.heap[p]?=some (.cells #[.string pn,pv,.slice a ol c] 151 (0,0)):=by rw[hW6,heap_setCells_other g5 _ (ol*6) W5 p (Ne.symm HNE5.out)];exact HR5.out
       have hc6:W6.cell? ⟨p,2,none⟩=some (.slice a ol c):=by rw[cell_of_row _ _ 2 _ 151 (0,0) hr6];rfl
       have hf6:W6.frozen? ⟨p,2,none⟩=false:=by simp[World.frozen?,hr6]
       clear hr6 hW6 hc5 hf5
       go_wp2_with fail
       refine hQ4 _ _ trivial (segT_one (fun K' hK'=>wpQuiet_nil (hK' _ ?_)))
       clear hK' K' hQ4 Q4
       intro Q5 hQ5
       simp only[pick,List.getElem?_cons_zero,List.getElem?_cons_succ,Option.getD_some]
       go_wp2_with fail
       refine hQ5 _ _ trivial (segT_fin (fun K' hK'=>wpQuiet_nil (hK' _ (fun Q6 hQ6=>?_))))
       clear hK' K' hQ5 Q5
       go_wp2
       refine bodyPost_end (v:=.tuple #[]) (by simp[results,Tryz.results196,go_sem]) rfl ⟨rfl,?_⟩
       rw[HRR.out,addText_not HIT.out]
       exact Sv.push HS2.out.at' HS2.out.phr HOL1.out HNE5.out HW6.out.1 HW6.out.2.1 HC5.out (leaf_nodeD _ _ t) HW6.out.2.2
      ·intro Q4 hQ4
       clear hK' K'
       simp only[pick,List.getElem?_cons_zero,List.getElem?_cons_succ,Option.getD_some]
       go_wp2_with fail
       refine hQ4 _ _ trivial (segT_one (fun K' hK'=>wpQuiet_nil (hK' _ ?_)))
       clear hK' K' hQ4 Q4
       intro Q5 hQ5
       simp only[pick,List.getElem?_cons_zero,List.getElem?_cons_succ,Option.getD_some]
       have hth:(W5.setCell ⟨p,2,none⟩ (.slice (some ⟨g5,0,none⟩) (ol+1) c5)).there g5 (ol*6) 6:=HTH2.out
       refine wpList_store_mid (by rfl) 45 (.tmp 58) (.tmp 54) rfl g5 (ol*6) #[.int .i64 2,.int .i64 0,.string ⟨#[]⟩,.slice none 0 0,.string t,.slice none 0 0] rfl rfl hth (by rw[hi45];simp[hs45]) (by simp[Value.oneCell']) ?_
       simp only[]
       obtain⟨W6,hW6⟩:∃ W6,W6=(W5.setCell ⟨p,2,none⟩ (.slice (some ⟨g5,0,none⟩) (ol+1) c5)).setCells g5 (ol*6) [.int .i64 2,.int .i64 0,.string ⟨#[]⟩,.slice none 0 0,.string t,.slice none 0 0]:=⟨_,rfl⟩
       rw[← hW6]
       have HW6:=Lib.hid (HPW.out W6 (.inr hW6))
       clear hW6 hc5 hf5 hth
       go_wp2_with fail
       refine hQ5 _ _ trivial (segT_fin (fun K' hK'=>wpQuiet_nil (hK' _ (fun Q6 hQ6=>?_))))
       clear hK' K' hQ5 Q5
       go_wp2
       refine bodyPost_end (v:=.tuple #[]) (by simp[results,Tryz.results196,go_sem]) rfl ⟨rfl,?_⟩
       rw[HRR.out,addText_not HIT.out]
       exact Sv.push HS2.out.at' HS2.out.phr HOL1.out HNE5.out HW6.out.1 HW6.out.2.1 HC5.out (leaf_nodeD _ _ t) HW6.out.2.2
open Go.RowKit
mutual
def Nd.tk:Nd→Nat
 | .mk _ _ _ _ tx ks=>1+tx.size+tkAll ks
def tkAll:List Nd→Nat
 | []=>0
 | k :: ks=>k.tk+tkAll ks
end
theorem tk_eq (n:Nd):n.tk=1+n.text.size+tkAll n.kids:=by
 cases n
 conv=>lhs;unfold Nd.tk
 rfl
theorem tkAll_cons (n:Nd)(ns:List Nd):tkAll (n :: ns)=n.tk+tkAll ns:=by conv=>lhs;unfold tkAll
theorem tk_bk:(∀ n:Nd,n.tk≤n.bk)∧∀ l:List Nd,tkAll l≤bkAll l:=by
 refine nd_ind (P:=fun n=>n.tk≤n.bk) (Q:=fun l=>tkAll l≤bkAll l) ?_ ?_ ?_
 ·intro n ih
  rw[tk_eq,bk_eq]
  omega
 ·unfold tkAll bkAll;omega
 ·intro n ns h1 h2
  rw[tkAll_cons,bkAll_cons]
  omega
theorem tk_sz:(∀ n:Nd,n.sz≤n.tk)∧∀ l:List Nd,szAll l≤tkAll l:=by
 refine nd_ind (P:=fun n=>n.sz≤n.tk) (Q:=fun l=>szAll l≤tkAll l) ?_ ?_ ?_
 ·intro n ih
  rw[tk_eq,sz_kids]
  omega
 ·unfold tkAll szAll;omega
 ·intro n ns h1 h2
  rw[tkAll_cons]
  unfold szAll
  omega
def wtK:List Nd→Nat
 | []=>0
 | n :: ns=>1+n.text.size+wtK ns
theorem wtK_append:∀ a b:List Nd,wtK (a++b)=wtK a+wtK b:=by
 intro a
 induction a with
 | nil=>intro b;rw[List.nil_append];simp[wtK]
 | cons n a ih=>intro b;rw[List.cons_append];simp only[wtK];rw[ih];omega
theorem wtK_len:∀ l:List Nd,l.length≤wtK l∧∀ x∈l,x.text.size≤wtK l:=by
 intro l
 induction l with
 | nil=>exact⟨Nat.le_refl _,fun x h=>by simp at h⟩
 | cons n l ih =>
  refine⟨by simp only[wtK,List.length_cons];omega,fun x h=>?_⟩
  simp only[wtK]
  rcases List.mem_cons.1 h with rfl|h
  ·omega
  ·have:=ih.2 x h;omega
theorem wt_add (out:List Nd)(t:ByteArray):wtK (addText out t)≤wtK out+1+t.size:=by
 have hnew:wtK (out++[txtN t])=wtK out+1+t.size:=by rw[wtK_append];simp only[wtK];show _+(1+t.size+0)=_;omega
 by_cases h:out=[]
 ·subst h
  unfold addText
  show wtK ([]++[txtN t])≤_
  rw[hnew]
  exact Nat.le_refl _
 ·obtain⟨ys,x,rfl⟩:=snoc_of h
  rw[addText_last]
  split
  ·rw[wtK_append,wtK_append]
   simp only[wtK]
   have:(x.more t).text.size=x.text.size+t.size:=by show(x.text++t).size=_;rw[ByteArray.size_append]
   omega
  ·rw[hnew];exact Nat.le_refl _
theorem textB_le (s:ByteArray):(textB s).size≤3*s.size:=by
 have h1:=text_size s.data.toList
 have h2:(textB s).size=(textL s.data.toList).length:=rfl
 have h3:s.data.toList.length=s.size:=rfl
 omega
theorem wt_sieve (A:AFam) :
  (∀ (n:Nd) (pn:ByteArray) (ph:List ByteArray) (out:List Nd),wtK (sieveN A pn ph out n)≤wtK out+4*n.tk) ∧
  (∀ (l:List Nd) (pn:ByteArray) (ph:List ByteArray) (out:List Nd),wtK (sieveK A pn ph out l)≤wtK out+4*tkAll l):=by
 refine nd_ind (P:=fun n=>∀ (pn:ByteArray) (ph:List ByteArray) (out:List Nd),wtK (sieveN A pn ph out n)≤wtK out+4*n.tk)
  (Q:=fun l=>∀ (pn:ByteArray) (ph:List ByteArray) (out:List Nd),wtK (sieveK A pn ph out l)≤wtK out+4*tkAll l) ?_ ?_ ?_
 ·intro n ih pn ph out
  rw[sieveN_eq,tk_eq]
  split
  ·unfold textS
   split
   ·omega
   ·have h1:=wt_add out (textB n.text)
    have h2:=textB_le n.text
    omega
  ·split
   ·omega
   ·split
    ·rw[wtK_append]
     simp only[wtK]
     have:(Nd.mk 1 0 n.name (A n.name n.attrs) ⟨#[]⟩ (filterN A n.name ph n.kids)).text.size=0:=rfl
     omega
    ·have:=ih pn ph out
     omega
 ·intro pn ph out
  rw[sieveK_nil]
  omega
 ·intro n ns h1 h2 pn ph out
  rw[sieveK_cons,tkAll_cons]
  have a1:=h1 pn ph out
  have a2:=h2 pn ph (sieveN A pn ph out n)
  omega
def AllOk (A:AFam)(m:Nat):Prop:=∀ (l:List Nd),szAll l≤m→∀ (p:Nat) (pn:ByteArray) (pv:Value) (ph:List ByteArray) (out:List Nd) (W1 w:World) (a:Option Addr) (c:Nat),Hid (Tabs W1)→Hid (SmK l) →
 wtK out+4*tkAll l≤100000000→ph.length+szAll l≤10000000→Hid (Sv p pn pv ph out W1 w)→Hid (KidsV W1 a 0 l) →
 Calls Tryz.prog 155 #[.pointer (some ⟨p,0,none⟩),.slice a l.length c] w fun e w'=>e=.returned (.tuple #[])∧Sv p pn pv ph (sieveK A pn ph out l) W1 w'
def FilRet (w:World)(r:List Nd)(e:Ending)(w':World):Prop:=∃ a c,e=.returned (.slice a r.length c)∧r.length≤140737488355328∧KidsD (fun g=>w.heap.size≤g) w' a 0 r∧Below w.heap.size w w'
theorem Tryz.info9':(Tryz.prog.info? 9).map (fun i=>(i.zero,i.size,i.bytes))=some (some (.string ⟨#[]⟩),1,16):=by kernel_rfl
theorem fil_of_all (A:AFam)(m:Nat)(HA:Hid (AllOk A m))(l:List Nd)(hm:szAll l≤m)(pn:ByteArray)(pv:Value)(ph:List ByteArray)(w:World)(a:Option Addr)(c:Nat)(HT:Hid (Tabs w))(HS:Hid (SmK l))(hb:4*tkAll l≤100000000)
  (hph:ph.length+1+szAll l≤10000000) (hP:Hid (Phr w pv ph)) (hK:Hid (KidsV w a 0 l)) :
  Calls Tryz.prog 101 #[.string pn,.slice a l.length c,pv] w (FilRet w (filterN A pn ph l)):=by
 obtain⟨i9,hi9,hz9,hs9,hb9⟩:=info_parts Tryz.info9'
 obtain⟨pa,pc,rfl,hpc⟩:=hP.out.cap
 have HKD:=Lib.hid (kind_any pn w)
 have hkl:=kindL_le pn.data.toList
 have hF:filterN A pn ph l=if kindL pn.data.toList=5∨kindL pn.data.toList=6 then [] else sieveK A pn (if kindL pn.data.toList=4 then ph++[pn] else ph) [] l:=rfl
 generalize filterN A pn ph l=R at *
 have HF:=Lib.hid hF
 clear hF
 generalize kindL pn.data.toList=K at *
 have hll:l.length≤10000000:=by have:=(szAll_mem l).2;omega
 have HWT:=Lib.hid (show wtK []+4*tkAll l≤100000000 by unfold wtK;omega)
 have HM:=Lib.hid hm
 have HPH:=Lib.hid hph
 clear hb hm
 generalize hlen:l.length=ll at *
 have HLL:=Lib.hid hlen
 clear hlen
 go_enter Tryz.func101,Tryz.ntmps101
 go_wp2_with fail
 refine HKD.out.mono ?_
 rintro e w' ⟨rfl,rfl⟩
 by_cases h5:K=5∨K=6
 ·have HR:Hid (R=[]):=by show _=_;rw[HF.out,if_pos h5]
  have hnil:FilRet w R (.returned (.slice none 0 0)) w:=by
   rw[HR.out]
   exact⟨none,0,rfl,by simp,by unfold KidsD;trivial,Below.refl _ _⟩
  have HNIL:=Lib.hid hnil
  clear hnil
  rcases h5 with rfl|rfl
  all_goals
   go_wp2
   go_ret
   exact HNIL.out
 ·have e5:((K:Int)==5)=false:=by rw[beq_eq_false_iff_ne];omega
  have e6:((K:Int)==6)=false:=by rw[beq_eq_false_iff_ne];omega
  have HR:Hid (R=sieveK A pn (if K=4 then ph++[pn] else ph) [] l):=by show _=_;rw[HF.out,if_neg h5]
  clear h5
  go_wp2_with fail
  refine HKD.out.mono ?_
  rintro e w' ⟨rfl,rfl⟩
  clear HKD e5 e6
  go_upto_if 19 with fail
  go_cut [2] (fun p2 wx=>Hid (Phr wx p2 (if K=4 then ph++[pn] else ph))∧Hid (Below w.heap.size w wx))
  case first =>
   by_cases hk:K=4
   ·have e1:((K:Int)==4)=true:=by rw[beq_iff_eq];omega
    have HKK:=Lib.hid hk
    have hcut':∀ W,(Instr.slice 55 (.slice pa ph.length pc) none (some (.int .i64 ph.length)) (some (.int .i64 ph.length))).run Tryz.prog W=.ok (.slice pa ph.length ph.length) W:=fun W=>run_cut_full 55 9 Tryz.underlying55 i9 hi9 W pa ph.length pc hpc
    have hB1:Below w.heap.size w (w.alloc (.cells #[.string pn] 9)):=(Below.refl _ w).alloc (Nat.le_refl _) _
    have hnew:(w.alloc (.cells #[.string pn] 9)).cell? ⟨w.heap.size,0,none⟩=some (.string pn):=by rw[cell_of_row _ w.heap.size 0 _ 9 (0,0) (heap_alloc_new w _)];rfl
    have HPH1:=Lib.hid (hP.out.below hB1 (Nat.le_refl _))
    have hvec:VecAt (w.alloc (.cells #[.string pn] 9)) (.slice pa ph.length ph.length) ph.length (ph.map strV):=by
     obtain⟨a',c',e',h'⟩:=HPH1.out.vec
     simp only[Value.slice.injEq] at e'
     exact⟨a',_,by rw[e'.1],h'⟩
    have HVEC:=Lib.hid hvec
    have HNEW:=Lib.hid hnew
    have HB1:=Lib.hid hB1
    clear hvec hnew hB1 hk
    go_wp2_with (at_builtin;refine wpList_append_full rfl _ _ 55 rfl 9 i9 (.string ⟨#[]⟩) 16 Tryz.underlying55 hi9 hz9 hs9 hb9 _ ph.length (ph.map strV) rfl ⟨_,rfl⟩ HVEC.out (List.length_map ..) _ _ _ rfl HNEW.out (by omega) (by omega) ?_)
    intro v' w' hv' hc' hb'
    have HB2:=Lib.hid (HB1.out.trans (hb'.out.mono (by simp)))
    go_wp2_with fail
    go_meet
    case rel =>
     refine⟨?_,HB2⟩
     rw[if_pos HKK.out]
     obtain⟨y',c',e1,e2⟩:=hc'.out
     exact Lib.hid ⟨by rw[List.length_append,List.map_append];exact hv'.out,⟨y',c',by rw[List.length_append];exact e1,by rw[List.length_append];exact e2⟩⟩
   ·have e1:((K:Int)==4)=false:=by rw[beq_eq_false_iff_ne];omega
    have HKK:=Lib.hid hk
    clear hk
    go_wp2_with fail
    go_meet
    case rel =>
     refine⟨?_,Lib.hid (Below.refl _ _)⟩
     rw[if_neg HKK.out]
     exact hP
  case rest =>
   obtain⟨HPX,HBX⟩:=hcut
   have HPL:Hid ((if K=4 then ph++[pn] else ph).length+szAll l≤10000000):=by
    show _≤_
    have h1:=HPH.out
    split
    ·rw[List.length_append,List.length_singleton];omega
    ·omega
   generalize (if K=4 then ph++[pn] else ph)=ph2 at *
   obtain⟨pa2,pc2,rfl,_⟩:=HPX.out.cap
   have hB3:Below wc.heap.size wc (wc.alloc (.cells #[.string pn,.slice pa2 ph2.length pc2,.slice none 0 0] 151)):=(Below.refl _ wc).alloc (Nat.le_refl _) _
   have hrow:=heap_alloc_new wc (.cells #[.string pn,.slice pa2 ph2.length pc2,.slice none 0 0] 151)
   have hsv:Sv wc.heap.size pn (.slice pa2 ph2.length pc2) ph2 [] wc (wc.alloc (.cells #[.string pn,.slice pa2 ph2.length pc2,.slice none 0 0] 151)) :=
    ⟨rfl,⟨.slice none 0 0,[],hrow,OwnV.of 45 6 hB3 hB3.size,(fun e=>by cases e),CellsD.nil _ _⟩,HPX.out⟩
   have HSV:=Lib.hid hsv
   have HB3:=Lib.hid (HBX.out.trans (hB3.mono HBX.out.size))
   clear hB3 hrow hsv
   go_wp2_with fail
   have hcall:=HA.out l HM.out wc.heap.size pn (.slice pa2 ph2.length pc2) ph2 [] wc _ a c (Lib.hid (HT.out.below HBX.out (Nat.le_refl _))) HS HWT.out HPL.out HSV (Lib.hid (hK.out.below HBX.out (Nat.le_refl _)))
   rw[HLL.out] at hcall
   refine hcall.mono ?_
   rintro e W3 ⟨rfl,h3⟩
   rw[← HR.out] at h3
   clear hcall
   obtain⟨v3,xs3,hr3,hO3,hne3,hC3⟩:=h3.row
   obtain⟨a3,c3,rfl,_,hlo3⟩:=hO3.slice
   have hc3:W3.cell? ⟨wc.heap.size,2,none⟩=some (.slice a3 R.length c3):=by rw[cell_of_row _ _ 2 _ 151 (0,0) hr3];rfl
   have hfin:FilRet w R (.returned (.slice a3 R.length c3)) W3:=by
    have hs:=HBX.out.size
    refine⟨a3,c3,rfl,?_,kidsD_of_cells hO3.vec hC3 (fun g hg=>by omega) (fun y hy=>by have:=(hlo3 y hy).1;omega),HBX.out.trans (hO3.bel.mono hs)⟩
    rw[HR.out]
    have h1:=(wt_sieve A).2 l pn ph2 []
    have h2:=(wtK_len (sieveK A pn ph2 [] l)).1
    have h4:=HWT.out
    omega
   have HFIN:=Lib.hid hfin
   clear hfin hr3 hO3 hne3 hC3 h3 hlo3
   go_wp2
   go_ret
   exact HFIN.out
end Go.Proofs.YtcfgbdhpcboikaaGreatDoor
