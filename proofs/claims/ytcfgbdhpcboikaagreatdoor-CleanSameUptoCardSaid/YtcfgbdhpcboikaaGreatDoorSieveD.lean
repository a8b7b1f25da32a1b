/-
sieve.all.
-/
import Derived.Test.YtcfgbdhpcboikaaGreatDoorCutF
namespace Go.Proofs.YtcfgbdhpcboikaaGreatDoor
open Go.Lib (hid)
set_option maxHeartbeats 4000000
set_option maxRecDepth 100000
open Go.RowKit
theorem eT {n:Nat}:n≤n:=Nat.le_refl n
def mA (A:eF):Prop:=∀(nm:ByteArray) (at':List AT) (v:Value) (W:World),nm.size≤1048576→at'.length≤1048576→(∀x∈at',x.1.size≤1048576∧x.2.size≤1048576)→aB W→dZ W v at' →
 Calls Tryz.prog 38 #[.string nm,v] W fun e W'=>∃u,e=.returned u∧bC W.heap.size 39 2 u (A nm at').length (fG (A nm at')) W W'
theorem aEG (A:eF)(pn:ByteArray)(ph:List ByteArray)(out l:List Nd)(k:Nat)(h:k<l.length):cB A pn ph out (l.take (k+1))=hJ A pn ph (cB A pn ph out (l.take k)) l[k]:=by
 rw[List.take_succ_eq_append_getElem h,aCJ,jM,lC]
theorem aF5 (l:List Nd):∀k,bI (l.take k)≤bI l:=by
 induction l with
 | nil=>intro k;simp
 | cons n l ih =>
  intro k;cases k with
  | zero=>rw[List.take_zero];simp only[bI];omega
  | succ k=>rw[List.take_succ_cons,cP,cP];have:=ih k;omega
theorem aIf:∀(l:List Nd) (k:Nat) (h:k<l.length),(l[k]).tk+bI (l.take k)≤bI l:=by
 intro l;induction l with
 | nil=>intro k h;simp at h
 | cons n l ih =>
  intro k h;cases k with
  | zero=>rw[List.take_zero,cP];simp only[List.getElem_cons_zero,bI];omega
  | succ k =>
   have:=ih k (by simpa using h);rw[List.take_succ_cons,cP,cP];simp only[List.getElem_cons_succ];omega
theorem aJH (w:World)(c0 c1 c2 c3 c4 c5:Value):Six (w.alloc (.cells #[c0,c1,c2,c3,c4,c5] 45)) w.heap.size 0 c0 c1 c2 c3 c4 c5∧Below w.heap.size w (w.alloc (.cells #[c0,c1,c2,c3,c4,c5] 45)):=by
 have h:∀j,_:=fun j=>cell_of_row _ w.heap.size j _ 45 (0,0) (heap_alloc_new w (.cells #[c0,c1,c2,c3,c4,c5] 45))
 exact⟨⟨h 0,h 1,h 2,h 3,h 4,h 5⟩,(Below.refl _ w).alloc eT _⟩
theorem aG.partsV {w:World}{n:Nd}{v3:Value}{c0 c1 c2 c4:Value}{a:Option Addr}{kl c:Nat}(h:aG w n (.agg #[c0,c1,c2,v3,c4,.slice a kl c])):dZ w v3 n.attrs∧aI w a 0 n.kids:=by
 obtain⟨av,a',c',e,hA,hK,_⟩:=h.get;simp only[Value.agg.injEq,Array.mk.injEq,List.cons.injEq,and_true,Value.slice.injEq]at e;obtain⟨_,_,_,rfl,_,rfl,_,_⟩:=e;exact⟨hA,hK⟩
theorem cD {B:Nat}{a w:World}(h:Below B a w)(g:Nat)(hg:B≤g)(cs:Array Value):Below B a (w.setRow g cs) :=
 { os:=h.os,tape:=h.tape,output:=h.output,size:=by rw[setRow_size];exact h.size,block:=fun k hk=>by rw[setRow_other w g k cs (by omega)];exact h.block k hk }
theorem bC.attrsD {B:Nat}{ua:Option Addr}{uc:Nat}{l:List AT}{W0 w:World}(h:bC B 39 2 (.slice ua l.length uc) l.length (fG l) W0 w):jC (fun g=>B≤g∧g<w.heap.size) w ua l:=by
 intro j hj;obtain⟨a',c',e,hc⟩:=h.vec;obtain⟨a'',c'',e'',_,hlo⟩:=h.slice;simp only[Value.slice.injEq]at e e'';obtain⟨h1,h2⟩:=yX l j hj;obtain⟨g,off,ha,k1⟩:=hc _ _ h1;obtain⟨g',off',ha',k2⟩:=hc _ _ h2;rw[ha]at ha'
 cases ha';have hl:=hlo ⟨g,off,none⟩ (by rw[←e''.1,e.1,ha]);exact⟨g,off,by rw[e.1,ha],hl,k1,by rw[Nat.add_assoc];exact k2⟩
structure aJ1 (A:eF) (l:List Nd) (p:Nat) (pn:ByteArray) (pv:Value) (ph:List ByteArray) (out:List Nd) (W1:World) (k:Nat) (wx:World):Prop where
 le:k≤l.length
 sv:Sv p pn pv ph (cB A pn ph out (l.take k)) W1 wx
theorem aIC (A:eF)(HA:Hid (mA A))(m:Nat)(HIH:Hid (∀m',m'<m→aCL A m')):aCL A m:=by
 intro l hm p pn pv ph out W1 w a c HT HS hw hph hSv hK;have hll:l.length≤10000000:=by have:=(iV l).2;omega
 have HM:=hid hm;have HW:=hid hw;have HPH:=hid hph;clear hm hw hph;go_enter Tryz.func155,Tryz.ntmps155
 go_wp2
 go_loopw [9] (fun i wx=>∃k:Nat,i=.int .i64 k∧Hid (aJ1 A l p pn pv ph out W1 k wx)) (fun i _=>l.length-(intOf i).toNat)
 case atStart=>exact⟨0,rfl,hid ⟨Nat.zero_le _,by rw[List.take_zero,lC];exact hSv.out⟩⟩
 case round =>
  obtain⟨k,rfl,hR⟩:=hrel;have hk:=hR.out.le;rcases Nat.lt_or_ge k l.length with hlt|hge
  ·obtain⟨g,off,c0,c1,c2,c3,c4,c5,rfl,h6,hn⟩:=hK.out.get l 0 k hlt;rw[Nat.zero_add]at h6
   have hB1:=hR.out.sv.bel;obtain⟨x0,x1,x2,x3,x4,x5⟩:=h6.below hB1 eT;obtain⟨a1,b1,a2,b2,rfl,rfl,rfl,rfl,rfl,rfl⟩:=hn.cells;have HND:=hid hn;have HB1:=hid hB1;have HSM:=hid (SmK.get l k hlt HS.out);have HSTEP:=hid (aEG A pn ph out l k hlt);have HBK:=hid (aIf l k hlt);have HSZ:=hid (aH4 l k hlt);clear hB1 h6 hn;generalize l[k]=q at *
   go_upto_region 4 with fail
   clear x0 x1 x2 x3 x4 x5;obtain⟨hx5,hb2⟩:=aJH wr (.int .i64 q.kind) (.int .i64 q.space) (.string q.name) (.slice a1 q.attrs.length b1) (.string q.text) (.slice a2 q.kids.length b2);obtain⟨W2,hW2⟩:∃W2,W2=wr.alloc (.cells #[.int .i64 q.kind,.int .i64 q.space,.string q.name,.slice a1 q.attrs.length b1,.string q.text,.slice a2 q.kids.length b2] 45):=⟨_,rfl⟩
   rw[←hW2]at hx5 hb2 ⊢
   obtain⟨nb,hnb⟩:∃nb,nb=wr.heap.size:=⟨_,rfl⟩
   rw[←hnb]at hx5 ⊢
   have HX5:=hid hx5;have HSV2:=hid (hR.out.sv.below hb2);have HB2:=hid (HB1.out.trans (hb2.mono HB1.out.size));obtain⟨x0,x1,x2,x3,x4,x5⟩:=HX5.out.zero;clear hx5 hb2 hW2 hnb HB1;obtain⟨O,hO⟩:∃O,O=cB A pn ph out (l.take k):=⟨_,rfl⟩
   have HWT:Hid (wtK O+4*q.tk≤100000000):=by
    show _≤_;have h1:=(zO A).2 (l.take k) pn ph out;have h2:=HBK.out;have h3:=HW.out;rw[hO];omega
   rw[←hO]at HSTEP HSV2
   clear hO hR;have done:∀wx,Sv p pn pv ph (hJ A pn ph O q) W1 wx→Hid (aJ1 A l p pn pv ph out W1 (k+1) wx):=fun wx h=>hid ⟨hlt,by rw[HSTEP.out];exact h⟩
   have HDONE:=hid done;clear done;have HSN:=hid (rF A pn ph O q);generalize hJ A pn ph O q=O' at *
   by_cases h2:q.kind=2
   ·have e2:(q.kind==2)=true:=by rw[h2];rfl
    have HO':Hid (O'=pW pn O q.text):=by show _=_;rw[HSN.out,if_pos h2]
    have hol:=(tB O).1;have hox:=(tB O).2;have hwt:=HWT.out;have HCALL:=hid (aH3 p pn pv ph O W1 W2 q.text HSM.out.get.2.1 (by omega) (fun x hx=>by have:=hox x hx;omega) (hid (HT.out.below HB2.out eT)) HSV2);have HO2:=hid HO'.out;clear hol hox hwt h2;go_wp2_with fail
    refine HCALL.out.mono ?_;rintro e W3 ⟨rfl,h3⟩;rw[←HO2.out]at h3
    have HD:=HDONE.out _ h3;clear h3 HCALL x0 x1 x2 x3 x4 x5;go_wp2
    go_roundw
    case rel=>exact⟨k+1,by go_num,HD⟩
    case measure=>simp[intOf];omega
   ·have e2:(q.kind==2)=false:=by rw[beq_eq_false_iff_ne];exact h2
    have HO':Hid (O'=if q.kind≠1∨q.space≠0∨bR q.name.data.toList=1 then O else if rQ pn ph O q.name=true then O++[.mk 1 0 q.name (A q.name q.attrs) ⟨#[]⟩ (bM A q.name ph q.kids)]else cB A pn ph O q.kids):=by show _=_;rw[HSN.out,if_neg h2]
    clear HSN;by_cases h1:q.kind=1
    ·have e1:(q.kind !=1)=false:=by rw[h1];rfl
     by_cases h0:q.space=0
     ·have e0:(q.space !=0)=false:=by rw[h0];rfl
      have HKD:=hid (nI q.name W2);obtain⟨kq,hkq⟩:∃kq,bR q.name.data.toList=kq:=⟨_,rfl⟩
      rw[hkq]at HKD HO'
      go_wp2_with fail
      refine HKD.out.mono ?_;rintro e w' ⟨rfl,rfl⟩;by_cases hk1:kq=1
      ·subst hk1;have HOO:=hid (show O'=O by rw[HO'.out,if_pos (.inr (.inr rfl))]);have hsv:=HSV2.out;rw[←HOO.out]at hsv
       have HD:=HDONE.out _ hsv;clear hsv HKD h2 h1 h0;go_wp2
       go_roundw
       case rel=>exact⟨k+1,by go_num,HD⟩
       case measure=>simp[intOf];omega
      ·have ek:((kq:Int)==1)=false:=by rw[beq_eq_false_iff_ne];omega
       have HO2:Hid (O'=if rQ pn ph O q.name=true then O++[.mk 1 0 q.name (A q.name q.attrs) ⟨#[]⟩ (bM A q.name ph q.kids)]else cB A pn ph O q.kids):=by
        show _=_;rw[HO'.out,if_neg (by rintro(x|x|x);exact x h1;exact x h0;exact hk1 x)]
       have HMAY:=hid (aJK p pn pv ph O W1 W2 q.name (by have:=HPH.out;omega) HSV2);clear HKD h2 h1 h0 hk1 hkq HO' e2 e1 e0;generalize rQ pn ph O q.name=my at *
       go_wp2_with fail
       refine HMAY.out.mono ?_;rintro e w' ⟨rfl,rfl⟩;clear HMAY ek;cases my with
       | false =>
        have HO3:=hid (show O'=cB A pn ph O q.kids by rw[HO2.out];rfl);have hsk:=HSM.out.get.2.2.2.2;have hkk:=HND.out.partsV.2;have hsz:=cJ q;have hbq:=fY q;have HCALL:=hid (HIH.out (aC q.kids) (by have h1:=HSZ.out;have h2:=HM.out;omega) q.kids eT p pn pv ph O W1 W2 a2 b2 HT (hid hsk) (by have h1:=HWT.out;omega) (by have h1:=HPH.out;have h2:=HSZ.out;omega) HSV2 (hid hkk));clear hsk hkk hsz hbq;go_wp2_with fail
        refine HCALL.out.mono ?_;rintro e W3 ⟨rfl,h3⟩;rw[←HO3.out]at h3
        have HD:=HDONE.out _ h3;clear h3 HCALL x0 x1 x2 x3 x4 x5;go_wp2
        go_roundw
        case rel=>exact⟨k+1,by go_num,HD⟩
        case measure=>simp[intOf];omega
       | true =>
        have HO3:=hid (show O'=O++[.mk 1 0 q.name (A q.name q.attrs) ⟨#[]⟩ (bM A q.name ph q.kids)] by rw[HO2.out];rfl);have HAT:=hid HND.out.partsV;go_upto_region 10 with fail
        obtain⟨i45,hi45,hz45,hs45,hb45⟩:=info_parts Tryz.info45;go_cut [6] (fun p6 wx=>∃bx ua uc,p6=.pointer (some ⟨bx,0,none⟩)∧Hid (wx.heap[bx]?=some (.cells #[.int .i64 1,.int .i64 0,.string q.name,.slice ua (A q.name q.attrs).length uc,.string ⟨#[]⟩,.slice none 0 0] 45 (0,0)))∧Hid (jC (fun g=>W2.heap.size≤g∧g≠bx) wx ua (A q.name q.attrs))∧Hid (W2.heap.size≤bx)∧Hid (Below W2.heap.size W2 wx))
        case first =>
         obtain⟨S,hS⟩:∃S:World→Prop,∀u,S u↔Below W2.heap.size W2 u:=⟨_,fun _=>Iff.rfl⟩
         have f2:∀s:WIn S,s.w.cell? ⟨nb,2,none⟩=some (.string q.name):=fun s=>(HX5.out.zero.2.2.1)▸((hS _).1 s.h).cell (p:=⟨nb,2,none⟩) HX5.out.lt
         have f3:∀s:WIn S,s.w.cell? ⟨nb,3,none⟩=some (.slice a1 q.attrs.length b1):=fun s=>(HX5.out.zero.2.2.2.1)▸((hS _).1 s.h).cell (p:=⟨nb,3,none⟩) HX5.out.lt
         haveI:Nonempty (WIn S):=⟨⟨W2,(hS _).2 (Below.refl _ _)⟩⟩
         have HSS:=hid hS;clear hS x0 x1 x2 x3 x4 x5;refine qN 9 (.two [0,1,2,3,4,5] 6 (.two [] 7 (.one [] 8 (.fin [])) 8 (.one [] 7 (.fin []))) 8 (.one [] 6 (.one [] 7 (.fin [])))) S (by kernel_rfl) (by kernel_rfl) ((HSS.out _).2 (dT W2)) ?_;refine fJ (fun K' hK'=>?_);simp only[pick,pickZ,pickS,pickG];repeat (go_big_quiet_step (fail))
         clear f2 f3;refine wpQuiet_nil (hK' _ ?_ ?_)
         ·intro Q1 hQ1;clear hK' K';simp only[pick,pickZ,pickS,pickG];go_wp2_with fail
          have HBC:=hid (dT W2);have hat:=HA.out q.name q.attrs (.slice a1 q.attrs.length b1) (W2.drewN 1) HSM.out.get.1 HSM.out.get.2.2.1 HSM.out.get.2.2.2.1 (HT.out.below (HB2.out.trans (HBC.out.mono HB2.out.size)) eT) (HAT.out.1.below (HB2.out.trans (HBC.out.mono HB2.out.size)) eT);refine hat.mono ?_;rintro e W3 ⟨u,rfl,hu⟩;obtain⟨ua,uc,rfl,_,hulo⟩:=hu.slice;have HU:=hid hu.attrsD;have HB3:=hid (HBC.out.trans (hu.bel.mono HBC.out.size));have HBU:=hid hu.bel;clear hat hu hulo;go_wp2_with fail
          refine hQ1 _ _ ((HSS.out _).2 HB3.out) (fJ (fun K' hK'=>wpQuiet_nil (hK' _ ?_ ?_)))
          ·clear hK' K' hQ1 Q1;intro Q2 hQ2;simp only[pick,pickZ,pickS,pickG];go_wp2_with fail
           refine hQ2 _ _ ((HSS.out _).2 HB3.out) (bB (fun K' hK'=>wpQuiet_nil (hK' _ ?_)));clear hK' K' hQ2 Q2;intro Q3 hQ3;simp only[pick,pickZ,pickS,pickG];go_wp2_with fail
           have hal:Below W3.heap.size W3 (W3.alloc (.cells #[.int .i64 0,.int .i64 0,.string ⟨#[]⟩,.slice none 0 0,.string ⟨#[]⟩,.slice none 0 0] 45)):=(Below.refl W3.heap.size W3).alloc eT _;have hrow:=heap_alloc_new W3 (.cells #[.int .i64 0,.int .i64 0,.string ⟨#[]⟩,.slice none 0 0,.string ⟨#[]⟩,.slice none 0 0] 45);obtain⟨WB,hWB⟩:∃WB,WB=W3.alloc (.cells #[.int .i64 0,.int .i64 0,.string ⟨#[]⟩,.slice none 0 0,.string ⟨#[]⟩,.slice none 0 0] 45):=⟨_,rfl⟩
           rw[←hWB]at hal hrow ⊢
           have HROW:=hid hrow;have HBB:=hid (HB3.out.trans (hal.mono HB3.out.size));have HAD:Hid (jC (fun g=>W2.heap.size≤g∧g≠W3.heap.size) WB ua (A q.name q.attrs)):=HU.out.keep (fun g hg hd=>⟨hal.block g hg,Nat.le_trans (dT W2).size hd.1,by omega⟩);have HLE:=hid HB3.out.size;clear hal hrow hWB;refine hQ3 _ _ ((HSS.out _).2 HBB.out) (cQ (fun K' hK'=>wpQuiet_nil (hK' _ (fun Q5 hQ5=>?_))));clear hK' K' hQ3 Q3;simp only[List.drop_succ_cons,List.drop_zero];refine wpList_store_row (by rfl) 45 (.tmp 6) (.tmp 48) rfl W3.heap.size #[.int .i64 1,.int .i64 0,.string q.name,.slice ua (A q.name q.attrs).length uc,.string ⟨#[]⟩,.slice none 0 0] rfl rfl 45 _ HROW.out (by rw[hi45];simp[hs45]) rfl (by simp[Value.oneCell']) ?_;go_wp2_with fail
           go_meet
           case rel=>exact⟨W3.heap.size,ua,uc,rfl,hid (setRow_heap WB W3.heap.size _ #[.int .i64 1,.int .i64 0,.string q.name,.slice ua (A q.name q.attrs).length uc,.string ⟨#[]⟩,.slice none 0 0] 45 (0,0) HROW.out),hid (HAD.out.keep (fun g hg hd=>⟨setRow_other WB _ g _ hd.2,hd⟩)),HLE,hid (cD HBB.out _ HLE.out _)⟩
          ·clear hK' K' hQ1 Q1;intro Q2 hQ2;simp only[pick,pickZ,pickS,pickG];go_wp2_with fail
           have hal:Below W3.heap.size W3 (W3.alloc (.cells #[.int .i64 0,.int .i64 0,.string ⟨#[]⟩,.slice none 0 0,.string ⟨#[]⟩,.slice none 0 0] 45)):=(Below.refl W3.heap.size W3).alloc eT _;have hrow:=heap_alloc_new W3 (.cells #[.int .i64 0,.int .i64 0,.string ⟨#[]⟩,.slice none 0 0,.string ⟨#[]⟩,.slice none 0 0] 45);obtain⟨WB,hWB⟩:∃WB,WB=W3.alloc (.cells #[.int .i64 0,.int .i64 0,.string ⟨#[]⟩,.slice none 0 0,.string ⟨#[]⟩,.slice none 0 0] 45):=⟨_,rfl⟩
           rw[←hWB]at hal hrow ⊢
           have HROW:=hid hrow;have HBB:=hid (HB3.out.trans (hal.mono HB3.out.size));have HAD:Hid (jC (fun g=>W2.heap.size≤g∧g≠W3.heap.size) WB ua (A q.name q.attrs)):=HU.out.keep (fun g hg hd=>⟨hal.block g hg,Nat.le_trans (dT W2).size hd.1,by omega⟩);have HLE:=hid HB3.out.size;clear hal hrow hWB;refine hQ2 _ _ ((HSS.out _).2 HBB.out) (bB (fun K' hK'=>wpQuiet_nil (hK' _ ?_)));clear hK' K' hQ2 Q2;intro Q3 hQ3;simp only[pick,pickZ,pickS,pickG];go_wp2_with fail
           refine hQ3 _ _ ((HSS.out _).2 HBB.out) (cQ (fun K' hK'=>wpQuiet_nil (hK' _ (fun Q5 hQ5=>?_))));clear hK' K' hQ3 Q3;simp only[List.drop_succ_cons,List.drop_zero];refine wpList_store_row (by rfl) 45 (.tmp 6) (.tmp 48) rfl W3.heap.size #[.int .i64 1,.int .i64 0,.string q.name,.slice ua (A q.name q.attrs).length uc,.string ⟨#[]⟩,.slice none 0 0] rfl rfl 45 _ HROW.out (by rw[hi45];simp[hs45]) rfl (by simp[Value.oneCell']) ?_;go_wp2_with fail
           go_meet
           case rel=>exact⟨W3.heap.size,ua,uc,rfl,hid (setRow_heap WB W3.heap.size _ #[.int .i64 1,.int .i64 0,.string q.name,.slice ua (A q.name q.attrs).length uc,.string ⟨#[]⟩,.slice none 0 0] 45 (0,0) HROW.out),hid (HAD.out.keep (fun g hg hd=>⟨setRow_other WB _ g _ hd.2,hd⟩)),HLE,hid (cD HBB.out _ HLE.out _)⟩
         ·intro Q1 hQ1;clear hK' K';simp only[pick,pickZ,pickS,pickG];go_wp2_with fail
          have hBa:Below W2.heap.size W2 ((W2.drewN 1).alloc (.cells #[.int .i64 0,.int .i64 0,.string ⟨#[]⟩,.slice none 0 0,.string ⟨#[]⟩,.slice none 0 0] 45)):=(dT W2).alloc eT _;have hrow:((W2.drewN 1).alloc (.cells #[.int .i64 0,.int .i64 0,.string ⟨#[]⟩,.slice none 0 0,.string ⟨#[]⟩,.slice none 0 0] 45)).heap[W2.heap.size]?=some (.cells #[.int .i64 0,.int .i64 0,.string ⟨#[]⟩,.slice none 0 0,.string ⟨#[]⟩,.slice none 0 0] 45 (0,0)):=heap_alloc_new (W2.drewN 1) (.cells #[.int .i64 0,.int .i64 0,.string ⟨#[]⟩,.slice none 0 0,.string ⟨#[]⟩,.slice none 0 0] 45);have hlt:W2.heap.size<((W2.drewN 1).alloc (.cells #[.int .i64 0,.int .i64 0,.string ⟨#[]⟩,.slice none 0 0,.string ⟨#[]⟩,.slice none 0 0] 45)).heap.size:=by simp[World.drewN]
          obtain⟨Wa,hWa⟩:∃Wa,Wa=(W2.drewN 1).alloc (.cells #[.int .i64 0,.int .i64 0,.string ⟨#[]⟩,.slice none 0 0,.string ⟨#[]⟩,.slice none 0 0] 45):=⟨_,rfl⟩
          rw[←hWa]at hBa hrow hlt ⊢
          have HBC:=hid hBa;have HROWA:=hid hrow;have HLT:=hid hlt;clear hBa hrow hlt hWa;refine hQ1 _ _ ((HSS.out _).2 HBC.out) (bB (fun K' hK'=>wpQuiet_nil (hK' _ ?_)));clear hK' K' hQ1 Q1;intro Q2 hQ2;simp only[pick,pickZ,pickS,pickG];go_wp2_with fail
          have hat:=HA.out q.name q.attrs (.slice a1 q.attrs.length b1) Wa HSM.out.get.1 HSM.out.get.2.2.1 HSM.out.get.2.2.2.1 (HT.out.below (HB2.out.trans (HBC.out.mono HB2.out.size)) eT) (HAT.out.1.below (HB2.out.trans (HBC.out.mono HB2.out.size)) eT);refine hat.mono ?_;rintro e W3 ⟨u,rfl,hu⟩;obtain⟨ua,uc,rfl,_,hulo⟩:=hu.slice;have HU:=hid hu.attrsD;have HBB:=hid (HBC.out.trans (hu.bel.mono HBC.out.size));have HROW:=hid ((hu.bel.block W2.heap.size HLT.out).trans HROWA.out);have HAD:Hid (jC (fun g=>W2.heap.size≤g∧g≠W2.heap.size) W3 ua (A q.name q.attrs)):=HU.out.keep (fun g hg hd=>⟨rfl,by have:=HLT.out;omega,by have:=HLT.out;omega⟩);have HLE:=hid (Nat.le_refl W2.heap.size);clear hat hu hulo;go_wp2_with fail
          refine hQ2 _ _ ((HSS.out _).2 HBB.out) (bB (fun K' hK'=>wpQuiet_nil (hK' _ ?_)));clear hK' K' hQ2 Q2;intro Q3 hQ3;simp only[pick,pickZ,pickS,pickG];go_wp2_with fail
          refine hQ3 _ _ ((HSS.out _).2 HBB.out) (cQ (fun K' hK'=>wpQuiet_nil (hK' _ (fun Q5 hQ5=>?_))));clear hK' K' hQ3 Q3;simp only[List.drop_succ_cons,List.drop_zero];refine wpList_store_row (by rfl) 45 (.tmp 6) (.tmp 48) rfl W2.heap.size #[.int .i64 1,.int .i64 0,.string q.name,.slice ua (A q.name q.attrs).length uc,.string ⟨#[]⟩,.slice none 0 0] rfl rfl 45 _ HROW.out (by rw[hi45];simp[hs45]) rfl (by simp[Value.oneCell']) ?_;go_wp2_with fail
          go_meet
          case rel=>exact⟨W2.heap.size,ua,uc,rfl,hid (setRow_heap W3 W2.heap.size _ #[.int .i64 1,.int .i64 0,.string q.name,.slice ua (A q.name q.attrs).length uc,.string ⟨#[]⟩,.slice none 0 0] 45 (0,0) HROW.out),hid (HAD.out.keep (fun g hg hd=>⟨setRow_other W3 _ g _ hd.2,hd⟩)),HLE,hid (cD HBB.out _ HLE.out _)⟩
        case rest =>
         obtain⟨bx,ua,uc,rfl,HX6,HAD,HLE,HBc⟩:=hcut;obtain⟨pa,pc,hpv,_⟩:=HSV2.out.phr.cap;subst hpv;have HSVc:=hid (HSV2.out.below HBc.out);have HXc:=hid (HX5.out.below HBc.out eT);have HBW:=hid (HB2.out.trans (HBc.out.mono HB2.out.size));have hsk:=HSM.out.get.2.2.2.2;have hsz:=cJ q;have hbq:=fY q;have hbd:=dT wc;have HCALL:=hid (aAg A (aC q.kids) (hid (HIH.out (aC q.kids) (by have h1:=HSZ.out;have h2:=HM.out;omega))) q.kids eT q.name (.slice pa ph.length pc) ph (wc.drewN 1) a2 b2 (hid ((HT.out.below HBW.out eT).below hbd eT)) (hid hsk) (by have h1:=HWT.out;omega) (by have h1:=HPH.out;have h2:=HSZ.out;omega) (hid ((HSV2.out.phr.below HBW.out eT).below hbd eT)) (hid ((HAT.out.2.below HBW.out eT).below hbd eT)));clear hsk hsz hbq hbd x0 x1 x2 x3 x4 x5;generalize bM A q.name ph q.kids=R at *
         obtain⟨v2,xs2,hr2,hO2,hne2,hC2⟩:=HSVc.out.row;have hp1:wc.cell? ⟨p,1,none⟩=some (.slice pa ph.length pc):=by rw[cell_of_row _ _ 1 _ 151 (0,0) hr2];rfl
         have hplt:p<wc.heap.size:=(Array.getElem?_eq_some_iff.1 hr2).1;obtain⟨S,hS⟩:∃S:World→Prop,∀u,S u↔Below wc.heap.size wc u:=⟨_,fun _=>Iff.rfl⟩
         have f2:∀s:WIn S,s.w.cell? ⟨nb,2,none⟩=some (.string q.name):=fun s=>(HXc.out.zero.2.2.1)▸((hS _).1 s.h).cell (p:=⟨nb,2,none⟩) HXc.out.lt
         have f5:∀s:WIn S,s.w.cell? ⟨nb,5,none⟩=some (.slice a2 q.kids.length b2):=fun s=>(HXc.out.zero.2.2.2.2.2)▸((hS _).1 s.h).cell (p:=⟨nb,5,none⟩) HXc.out.lt
         have fp:∀s:WIn S,s.w.cell? ⟨p,1,none⟩=some (.slice pa ph.length pc):=fun s=>hp1▸((hS _).1 s.h).cell (p:=⟨p,1,none⟩) hplt
         haveI:Nonempty (WIn S):=⟨⟨wc,(hS _).2 (Below.refl _ _)⟩⟩
         have HSS:=hid hS;clear hS hp1 hplt hr2 hO2 hne2 hC2;go_upto_region 11 with fail
         refine eK 9 [([0,1,2,3,4,5,6,7],8)] [] S (by kernel_rfl) (by kernel_rfl) ((HSS.out _).2 (dT wc)) ?_;refine aZ (fun K' hK'=>?_);simp only[pick,pickZ,pickS,pickG];repeat (go_big_quiet_step (fail))
         clear f2 f5 fp;refine wpQuiet_nil (hK' _ (fun Q1 hQ1=>?_));clear hK' K';simp only[pick,pickZ,pickS,pickG];go_wp2_with fail
         refine HCALL.out.mono ?_;rintro e W3 ⟨ka,kc,rfl,hkl,hkd,hb3⟩;have HKD:=hid hkd;have HB3:=hid ((dT wc).trans (hb3.mono (dT wc).size));have HKL:=hid hkl;clear hkd hb3 HCALL hkl;go_wp2_with fail
         refine hQ1 _ _ ((HSS.out _).2 HB3.out) (fE (fun K' hK'=>wpQuiet_nil (hK' _ (fun Q4 hQ4=>?_))));clear hQ1 Q1 hK' K';simp only[List.drop_succ_cons,List.drop_zero];have hxlt:bx<wc.heap.size:=(Array.getElem?_eq_some_iff.1 HX6.out).1;have hrx:W3.heap[bx]?=some (.cells #[.int .i64 1,.int .i64 0,.string q.name,.slice ua (A q.name q.attrs).length uc,.string ⟨#[]⟩,.slice none 0 0] 45 (0,0)):=(HB3.out.block bx hxlt).trans HX6.out;have hcx:W3.cell? ⟨bx,5,none⟩=some (.slice none 0 0):=by rw[cell_of_row _ _ 5 _ 45 (0,0) hrx];rfl
         have hfx:W3.frozen? ⟨bx,5,none⟩=false:=by simp[World.frozen?,hrx]
         have HRX:=hid hrx;have HXLT:=hid hxlt;clear hrx hxlt;go_upto_region 12 with fail
         have hrx4:(W3.setCell ⟨bx,5,none⟩ (.slice ka R.length kc)).heap[bx]?=some (.cells #[.int .i64 1,.int .i64 0,.string q.name,.slice ua (A q.name q.attrs).length uc,.string ⟨#[]⟩,.slice ka R.length kc] 45 (0,0)):=by
          rw[setCell_eq_setRow W3 bx 5 _ 45 (0,0) _ HRX.out];exact setRow_heap W3 bx _ _ 45 (0,0) HRX.out
         have hB24:Below W2.heap.size W2 (W3.setCell ⟨bx,5,none⟩ (.slice ka R.length kc)):=(HBc.out.trans (HB3.out.mono HBc.out.size)).setCell HLE.out _;have hxn:aY (fun g=>W2.heap.size≤g∧g≠bx) (W3.setCell ⟨bx,5,none⟩ (.slice ka R.length kc)) (.mk 1 0 q.name (A q.name q.attrs) ⟨#[]⟩ R) (.agg #[.int .i64 1,.int .i64 0,.string q.name,.slice ua (A q.name q.attrs).length uc,.string ⟨#[]⟩,.slice ka R.length kc]):=by
          unfold aY;refine⟨ua,uc,ka,kc,rfl,HKL.out,?_,?_⟩
          ·exact HAD.out.keep (fun g hg hd=>⟨by rw[heap_setCell_other W3 ⟨bx,5,none⟩ g _ hd.2,HB3.out.block g hg],hd⟩)
          ·refine HKD.out.keep (fun g hg hd=>⟨heap_setCell_other W3 ⟨bx,5,none⟩ g _ ?_,?_,?_⟩)
           ·have h1:=HXLT.out;have h2:(wc.drewN 1).heap.size=wc.heap.size:=rfl;show g≠bx;omega
           ·have h1:=HBc.out.size;have h2:(wc.drewN 1).heap.size=wc.heap.size:=rfl;omega
           ·have h1:=HXLT.out;have h2:(wc.drewN 1).heap.size=wc.heap.size:=rfl;omega
         clear hcx hfx;generalize W3.setCell ⟨bx,5,none⟩ (.slice ka R.length kc)=W4 at *
         obtain⟨v,xs,hr,hO,hne,hC⟩:=HSV2.out.row;obtain⟨a,c,rfl,_,_⟩:=hO.slice;have hown:=hO.hi;have hpw2:p<W2.heap.size:=(Array.getElem?_eq_some_iff.1 hr).1;have hr4:=(hB24.block p hpw2).trans hr;have hO4:=hO.keep hB24;have hC4:bU (fun k=>k<W2.heap.size∧(p<k∧(Value.slice a O.length c).ownBlock≠some k)) W4 xs O:=hC.keep (fun g hg hd=>⟨hB24.block g hg,hg,hd⟩);have hxl:xs.length=O.length*6:=hC.1;have hobd:=(tB O).1;have hwt:=HWT.out;obtain⟨ol,hol⟩:∃ol,O.length=ol:=⟨_,rfl⟩
         rw[hol]at hr4 hO4 hxl hobd hown hne hC4
         have hbd:Below W4.heap.size W4 (W4.drewN 1):=dT W4;have HOd:=hid (hO4.keep hbd);have hc2:W4.cell? ⟨p,2,none⟩=some (.slice a ol c):=by rw[cell_of_row _ _ 2 _ 151 (0,0) hr4];rfl
         have hx6:Six W4 bx 0 (.int .i64 1) (.int .i64 0) (.string q.name) (.slice ua (A q.name q.attrs).length uc) (.string ⟨#[]⟩) (.slice ka R.length kc):=by
          have h:∀j,_:=fun j=>cell_of_row _ bx j _ 45 (0,0) hrx4
          exact⟨h 0,h 1,h 2,h 3,h 4,h 5⟩
         have hbxlt:bx<W4.heap.size:=(Array.getElem?_eq_some_iff.1 hrx4).1;obtain⟨S,hS⟩:∃S:World→Prop,∀u,S u↔(u.cell? ⟨p,2,none⟩=some (.slice a ol c)∧Six u bx 0 (.int .i64 1) (.int .i64 0) (.string q.name) (.slice ua (A q.name q.attrs).length uc) (.string ⟨#[]⟩) (.slice ka R.length kc)):=⟨_,fun _=>Iff.rfl⟩
         have f2:∀s:WIn S,s.w.cell? ⟨p,2,none⟩=some (.slice a ol c):=fun s=>((hS _).1 s.h).1
         have g0:∀s:WIn S,s.w.cell? ⟨bx,0,none⟩=some (.int .i64 1):=fun s=>((hS _).1 s.h).2.x0
         have g1:∀s:WIn S,s.w.cell? ⟨bx,1,none⟩=some (.int .i64 0):=fun s=>((hS _).1 s.h).2.x1
         have g2:∀s:WIn S,s.w.cell? ⟨bx,2,none⟩=some (.string q.name):=fun s=>((hS _).1 s.h).2.x2
         have g3:∀s:WIn S,s.w.cell? ⟨bx,3,none⟩=some (.slice ua (A q.name q.attrs).length uc):=fun s=>((hS _).1 s.h).2.x3
         have g4:∀s:WIn S,s.w.cell? ⟨bx,4,none⟩=some (.string ⟨#[]⟩):=fun s=>((hS _).1 s.h).2.x4
         have g5':∀s:WIn S,s.w.cell? ⟨bx,5,none⟩=some (.slice ka R.length kc):=fun s=>((hS _).1 s.h).2.x5
         haveI:Nonempty (WIn S):=⟨⟨W4,(hS _).2 ⟨hc2,hx6⟩⟩⟩
         haveI:Nonempty (WIn fun _:World=>True):=⟨⟨W4,trivial⟩⟩
         have HSS:=hid hS;have HOLD:=hid hol;have HXL:=hid hxl;have HOWN:=hid hown;have HNE:=hid hne;have HC4:=hid hC4;have HR4:=hid hr4;have HX6':=hid hx6;have HC2:=hid hc2;have HXN:=hid hxn;have HB24:=hid hB24;have HP2:=hid hpw2;have HBXL:=hid hbxlt;clear hS hol hxl hown hne hC4 hr4 hx6 hc2 hxn hB24 hpw2 hbxlt hbd hO4 hO hr hC hrx4;refine aAK 8 (.one [0,1,2,3,4,5] 6 (.one [] 7 (.fin []))) (.two [8,10,11] 9 (.one [] 12 (.fin [])) 12 (.one [] 9 (.fin []))) S (by kernel_rfl) (by kernel_rfl) ((HSS.out _).2 ⟨HC2.out,HX6'.out.below (dT W4) eT⟩) ?_;refine bB (fun K' hK'=>?_);simp only[pick,pickZ,pickS,pickG];repeat (go_big_quiet_step (fail))
         clear f2 g0 g1 g2 g3 g4 g5';refine wpQuiet_nil (hK' _ ?_);intro Q2 hQ2;clear hK' K';simp only[pick,pickZ,pickS,pickG];go_wp2_with fail
         have hza:Below W4.heap.size W4 ((W4.drewN 1).alloc (.cells #[.int .i64 0,.int .i64 0,.string ⟨#[]⟩,.slice none 0 0,.string ⟨#[]⟩,.slice none 0 0] 45)):=(dT W4).alloc eT _;refine hQ2 _ _ ((HSS.out _).2 ⟨by rw[hza.cell (p:=⟨p,2,none⟩) (World.block_lt_of_cell? _ _ HC2.out)];exact HC2.out,HX6'.out.below hza eT⟩) (bB (fun K' hK'=>wpQuiet_nil (hK' _ ?_)));clear hK' K' hQ2 Q2 hza;intro Q3 hQ3;simp only[pick,pickZ,pickS,pickG];go_wp2_with (at_builtin;refine fU (by rfl) _ _ 43 (by rfl) 45 i45 _ 6 96 Tryz.underlying43 hi45 hz45 hs45 hb45 rfl (by decide) _ _ _ rfl HOd.out #[.int .i64 0,.int .i64 0,.string ⟨#[]⟩,.slice none 0 0,.string ⟨#[]⟩,.slice none 0 0] rfl rfl rfl rfl (by omega) (by omega) ?_)
         intro v5 W5 hO5 hG5;obtain⟨g5,c5,rfl,hlo5,hlt5,hob5⟩:=hO5.out.atRow (by omega);have hds:(W4.drewN 1).heap.size=W4.heap.size:=rfl;have h24:=HB24.out.size;have hp2:=HP2.out;have hr5:W5.heap[p]?=some (.cells #[.string pn,.slice pa ph.length pc,.slice a ol c] 151 (0,0)):=by
          rw[hG5.out.gr.block p (by simp;omega) (fun e=>HNE.out e.symm),Below.heap_alloc _ _ p (by omega)];exact HR4.out
         have hne5:g5≠p:=by
          rcases hG5.out.loc with hl|⟨j,hj,hle⟩
          ·intro e;exact HNE.out (by rw[←hl,hob5,e])
          ·rw[hob5]at hj
           have h1:g5=j:=Option.some.inj hj;simp at hle;omega
         have hnew5:∀j,W2.heap.size≤j→j<W4.heap.size→g5≠j:=fun j h1 h2=>by
          rcases hG5.out.loc with hl|⟨j',hj,hle⟩
          ·intro e;have h3:=HOWN.out g5 (by rw[←hl,hob5]);omega
          ·rw[hob5]at hj
           have h3:g5=j':=Option.some.inj hj;simp at hle;omega
         have hold5:∀j,j<W4.heap.size→(Value.slice a ol c).ownBlock≠some j→W5.heap[j]?=W4.heap[j]?:=fun j h1 h2=>by
          rw[hG5.out.gr.block j (by simp;omega) (fun e=>h2 e.symm),Below.heap_alloc _ _ j (by omega)];rfl
         have hC5:bU (fun j=>p<j∧g5≠j) W5 xs O:=by
          refine HC4.out.keep (fun j hj hd=>⟨hold5 j hj hd.2.2,hd.2.1,?_⟩);rcases hG5.out.loc with hl|⟨j',hj',hle⟩
          ·intro e;exact hd.2.2 (by rw[←hl,hob5,e])
          ·rw[hob5]at hj'
           have h3:g5=j':=Option.some.inj hj';have h4:=hd.1;simp at hle;omega
         have hx5n:aY (fun j=>p<j∧g5≠j) W5 (.mk 1 0 q.name (A q.name q.attrs) ⟨#[]⟩ R) (.agg #[.int .i64 1,.int .i64 0,.string q.name,.slice ua (A q.name q.attrs).length uc,.string ⟨#[]⟩,.slice ka R.length kc]):=HXN.out.keep (fun j hj hd=>⟨hold5 j hj (fun e=>by have h3:=HOWN.out j e;have h4:=hd.1;omega),by have h4:=hd.1;omega,hnew5 j hd.1 hj⟩);have HPW:=hid (rT (zs:=[.int .i64 0,.int .i64 0,.string ⟨#[]⟩,.slice none 0 0,.string ⟨#[]⟩,.slice none 0 0]) (cs:=[.int .i64 1,.int .i64 0,.string q.name,.slice ua (A q.name q.attrs).length uc,.string ⟨#[]⟩,.slice ka R.length kc]) hne5 rfl (ol*6) HXL.out.symm hr5 hO5.out);have HC5:=hid hC5;have HX5n:=hid hx5n;have HNE5:=hid hne5;have hc5:W5.cell? ⟨p,2,none⟩=some (.slice a ol c):=by rw[cell_of_row _ _ 2 _ 151 (0,0) hr5];rfl
         have hf5:W5.frozen? ⟨p,2,none⟩=false:=by simp[World.frozen?,hr5]
         have HR5:=hid hr5;have HTH:=hid (hO5.out.there (ol*6) 6 (by rw[List.length_append,HXL.out];simp));have HTH2:=hid ((hO5.out.aside ⟨p,2,none⟩ eT hne5 (.slice (some ⟨g5,0,none⟩) (ol+1) c5)).there (ol*6) 6 (by rw[List.length_append,HXL.out];simp));have HOL1:=hid (show ol+1=O.length+1 by rw[HOLD.out]);have hsx:=HX6'.out.same (hold5 bx HBXL.out (fun e=>by have h3:=HOWN.out bx e;have h4:=HLE.out;omega));have HSX:=hid hsx;clear hds h24 hp2 hr5 hne5 hC5 hlo5 hlt5 hob5 hnew5 hold5 hx5n hsx;go_wp2_with fail
         refine hQ3 _ _ ((HSS.out _).2 ⟨hc5,HSX.out⟩) (cQ (fun K' hK'=>wpQuiet_nil (hK' _ ?_)));clear hK' K' hQ3 Q3;refine fJ (fun K' hK'=>?_);simp only[pick,pickZ,pickS,pickG];repeat (go_big_quiet_step (fail))
         refine wpQuiet_nil (hK' _ ?_ ?_)
         ·intro Q4 hQ4;clear hK' K';simp only[pick,pickZ,pickS,pickG];refine wpList_store_mid (by rfl) 45 (.tmp 67) (.tmp 63) rfl g5 (ol*6) #[.int .i64 1,.int .i64 0,.string q.name,.slice ua (A q.name q.attrs).length uc,.string ⟨#[]⟩,.slice ka R.length kc] rfl rfl HTH.out (by rw[hi45];simp[hs45]) (by simp[Value.oneCell']) ?_;simp only[];obtain⟨W6,hW6⟩:∃W6,W6=W5.setCells g5 (ol*6) [.int .i64 1,.int .i64 0,.string q.name,.slice ua (A q.name q.attrs).length uc,.string ⟨#[]⟩,.slice ka R.length kc]:=⟨_,rfl⟩
          rw[←hW6];have HW6:=hid (HPW.out (W6.setCell ⟨p,2,none⟩ (.slice (some ⟨g5,0,none⟩) (ol+1) c5)) (.inl (by rw[hW6])));have hr6:W6.heap[p]?=some (.cells #[.string pn,.slice pa ph.length pc,.slice a ol c] 151 (0,0)):=by rw[hW6,bX g5 _ (ol*6) W5 p (Ne.symm HNE5.out)];exact HR5.out
          have hc6:W6.cell? ⟨p,2,none⟩=some (.slice a ol c):=by rw[cell_of_row _ _ 2 _ 151 (0,0) hr6];rfl
          have hf6:W6.frozen? ⟨p,2,none⟩=false:=by simp[World.frozen?,hr6]
          clear hr6 hW6 hc5 hf5;go_wp2_with fail
          refine hQ4 _ _ trivial (bB (fun K' hK'=>wpQuiet_nil (hK' _ ?_)));clear hK' K' hQ4 Q4;intro Q5 hQ5;simp only[pick,pickZ,pickS,pickG];go_wp2_with fail
          refine hQ5 _ _ trivial (cQ (fun K' hK'=>wpQuiet_nil (hK' _ (fun Q6 hQ6=>?_))));clear hK' K' hQ5 Q5;have HD:=HDONE.out _ (by rw[HO3.out];exact Sv.push HSV2.out.at' HSV2.out.phr HOL1.out HNE5.out HW6.out.1 HW6.out.2.1 HC5.out HX5n.out HW6.out.2.2);go_wp2
          go_roundw
          case rel=>exact⟨k+1,by go_num,HD⟩
          case measure=>simp[intOf];omega
         ·intro Q4 hQ4;clear hK' K';simp only[pick,pickZ,pickS,pickG];go_wp2_with fail
          refine hQ4 _ _ trivial (bB (fun K' hK'=>wpQuiet_nil (hK' _ ?_)));clear hK' K' hQ4 Q4;intro Q5 hQ5;simp only[pick,pickZ,pickS,pickG];have hth:(W5.setCell ⟨p,2,none⟩ (.slice (some ⟨g5,0,none⟩) (ol+1) c5)).there g5 (ol*6) 6:=HTH2.out;refine wpList_store_mid (by rfl) 45 (.tmp 67) (.tmp 63) rfl g5 (ol*6) #[.int .i64 1,.int .i64 0,.string q.name,.slice ua (A q.name q.attrs).length uc,.string ⟨#[]⟩,.slice ka R.length kc] rfl rfl hth (by rw[hi45];simp[hs45]) (by simp[Value.oneCell']) ?_;simp only[];obtain⟨W6,hW6⟩:∃W6,W6=(W5.setCell ⟨p,2,none⟩ (.slice (some ⟨g5,0,none⟩) (ol+1) c5)).setCells g5 (ol*6) [.int .i64 1,.int .i64 0,.string q.name,.slice ua (A q.name q.attrs).length uc,.string ⟨#[]⟩,.slice ka R.length kc]:=⟨_,rfl⟩
          rw[←hW6];have HW6:=hid (HPW.out W6 (.inr hW6));clear hW6 hc5 hf5 hth;go_wp2_with fail
          refine hQ5 _ _ trivial (cQ (fun K' hK'=>wpQuiet_nil (hK' _ (fun Q6 hQ6=>?_))));clear hK' K' hQ5 Q5;have HD:=HDONE.out _ (by rw[HO3.out];exact Sv.push HSV2.out.at' HSV2.out.phr HOL1.out HNE5.out HW6.out.1 HW6.out.2.1 HC5.out HX5n.out HW6.out.2.2);go_wp2
          go_roundw
          case rel=>exact⟨k+1,by go_num,HD⟩
          case measure=>simp[intOf];omega
     ·have e0:(q.space !=0)=true:=by rw[bne_iff_ne];exact h0
      have HOO:=hid (show O'=O by rw[HO'.out,if_pos (.inr (.inl h0))]);have hsv:=HSV2.out;rw[←HOO.out]at hsv
      have HD:=HDONE.out _ hsv;clear hsv h2 h1 h0;go_wp2
      go_roundw
      case rel=>exact⟨k+1,by go_num,HD⟩
      case measure=>simp[intOf];omega
    ·have e1:(q.kind !=1)=true:=by rw[bne_iff_ne];exact h1
     have HOO:=hid (show O'=O by rw[HO'.out,if_pos (.inl h1)]);have hsv:=HSV2.out;rw[←HOO.out]at hsv
     have HD:=HDONE.out _ hsv;clear hsv h2 h1;go_wp2
     go_roundw
     case rel=>exact⟨k+1,by go_num,HD⟩
     case measure=>simp[intOf];omega
  ·have hfin:cB A pn ph out (l.take k)=cB A pn ph out l:=by rw[List.take_of_length_le hge]
   have HFIN:=hid hfin;clear hfin;go_wp2
   refine bodyPost_end (v:=.tuple #[]) (by simp[results,Tryz.results155,go_sem]) rfl ⟨rfl,?_⟩;rw[←HFIN.out];exact hR.out.sv
theorem aLO (A:eF)(HA:Hid (mA A)):∀m,aCL A m:=by
 intro m;induction m using Nat.strongRecOn with
 | ind m ih=>exact aIC A HA m (hid ih)
theorem aFu (A:eF)(HA:Hid (mA A))(l:List Nd)(pn:ByteArray)(pv:Value)(ph:List ByteArray)(w:World)(a:Option Addr)(c:Nat)(HT:Hid (aB w))(HS:Hid (SmK l))(hb:4*bI l≤100000000)
  (hph:ph.length+1+aC l≤10000000) (hP:Hid (Phr w pv ph)) (hK:Hid (aI w a 0 l)) :
  Calls Tryz.prog 101 #[.string pn,.slice a l.length c,pv] w (oH w (bM A pn ph l)) :=
 aAg A (aC l) (hid (aLO A HA _)) l eT pn pv ph w a c HT HS hb hph hP hK
theorem xR (A:eF)(HA:Hid (mA A))(l:List Nd)(pn:ByteArray)(w:World)(a:Option Addr)(c:Nat)(HT:Hid (aB w))(HS:Hid (SmK l))(hb:bI l≤9000000)(hK:Hid (aI w a 0 l)) :
  Calls Tryz.prog 50 #[.string pn,.slice a l.length c] w (oH w (bM A pn [] l)):=by
 have hz:=aCX.2 l;have HC:=hid (aFu A HA l pn (.slice none 0 0) [] w a c HT HS (by omega) (by simp;omega) (hid (Phr.nil w)) hK);clear hz;go_enter Tryz.func50,Tryz.ntmps50
 go_wp2_with fail
 refine HC.out.mono ?_;rintro e W3 ⟨ka,kc,rfl,hkl,hkd,hb3⟩;have HFIN:=hid (show oH w (bM A pn [] l) (.returned (.slice ka (bM A pn [] l).length kc)) W3 from⟨ka,kc,rfl,hkl,hkd,hb3⟩);clear hkl hkd hb3;go_wp2
 go_ret;exact HFIN.out
theorem xQ (A:eF)(HA:Hid (mA A))(l:List Nd)(pn:ByteArray)(w:World)(a:Option Addr)(c:Nat)(HT:Hid (aB w))(hb:eN l≤1048576)(hK:Hid (aI w a 0 l)) :
  Calls Tryz.prog 50 #[.string pn,.slice a l.length c] w (oH w (bM A pn [] l)) :=
 xR A HA l pn w a c HT (hid (wS.2 l hb)) (by have:=aF6.2 l;omega) hK
