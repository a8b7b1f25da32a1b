/-
  CleanParts, over its callees' contracts: nodes side by side are let through one by one (printed by wip/gen/cpart.py).
-/
import Derived.Test.YtcfgbdhpcboikaaGreatDoorBase
import Derived.Test.YtcfgbdhpcboikaaGreatDoorTEW
import Derived.Test.YtcfgbdhpcboikaaGreatDoorTxtB
import Derived.Test.YtcfgbdhpcboikaaGreatDoorOwnZ
namespace Go.Proofs.YtcfgbdhpcboikaaGreatDoor
set_option maxHeartbeats 16000000
set_option maxRecDepth 100000
open Go.RowKit
theorem below_drwP (w:World):∀ n,Below w.heap.size w (w.drewN n)
 | 0=>Below.refl _ w
 | n+1=>(below_drwP w n).drew
theorem br_late (w:World):KidsD (fun g=>w.heap.size≤g) (w.alloc (.cells #[.int .i64 1,.int .i64 0,.string ⟨#[98,114]⟩,.slice none 0 0,.string ⟨#[]⟩,.slice none 0 0] 45)) (some ⟨w.heap.size,0,none⟩) 0 [elN sBr []]:=by
 unfold KidsD
 refine⟨⟨w.heap.size,0,_,_,_,_,_,_,rfl,Nat.le_refl _,six_alloc w _ _ _ _ _ _,?_⟩,by unfold KidsD;trivial⟩
 unfold elN NodeD
 exact⟨none,0,none,0,rfl,by simp,fun j h=>absurd h (by simp),by unfold KidsD;trivial⟩
theorem cpart_walk (pn:ByteArray)(la lb:List Nd)(a b:Option Addr)(ca cb:Nat)(w:World)(hla:la.length≤100000000)(hlb:lb.length≤100000000)(RA RB:List Nd)(hra:RA.length≤100000000)(hrb:RB.length≤100000000)
  (mb:Bool) (HMAY:Hid (mayL pn.data.toList (⟨#[98,114]⟩:ByteArray).data.toList=mb)) (HKA:Hid (KidsV w a 0 la)) (HKB:Hid (KidsV w b 0 lb))
  (HHEAD:Hid (∀ W,Below w.heap.size w W→Calls Tryz.prog 47 #[] W (SomeBool true W)))
  (HFA:Hid (∀ W a c,Below w.heap.size w W→Hid (KidsV W a 0 la)→Calls Tryz.prog 50 #[.string pn,.slice a la.length c] W (FilRet W RA)))
  (HFB:Hid (∀ W a c,Below w.heap.size w W→Hid (KidsV W a 0 lb)→Calls Tryz.prog 50 #[.string pn,.slice a lb.length c] W (FilRet W RB)))
  (HFL:Hid (mb=true→∀ W a c,Below w.heap.size w W→Hid (KidsV W a 0 (la++[elN sBr []]++lb))→Calls Tryz.prog 50 #[.string pn,.slice a (la++[elN sBr []]++lb).length c] W (FilRet W (RA++[elN sBr []]++RB))))
  (HSAME:Hid (∀ W a a' c c',Hid (KidsV W a 0 (RA++[elN sBr []]++RB))→Hid (KidsV W a' 0 (RA++[elN sBr []]++RB))→Calls Tryz.prog 52 #[.slice a (RA++[elN sBr []]++RB).length c,.slice a' (RA++[elN sBr []]++RB).length c'] W (SomeBool true W))) :
  Calls Tryz.prog 14 #[.string pn,.slice a la.length ca,.slice b lb.length cb] w (SomeBool true w):=by
 have HE:=Lib.hid (fun W=>(e_any ⟨#[98,114]⟩ [] none 0 W (by simp) (Lib.hid (by unfold KidsV;trivial)):Calls Tryz.prog 51 #[.string ⟨#[98,114]⟩,.slice none 0 0] W _))
 have HM:=Lib.hid (fun W=>may_any pn ⟨#[98,114]⟩ W)
 rw[HMAY.out] at HM
 go_enter Tryz.func14,Tryz.ntmps14
 go_wp2_with fail
 refine(HHEAD.out w (Below.refl _ _)).mono ?_
 unfold SomeBool
 rintro e W1 ⟨rfl,B1⟩
 have HB1:=Lib.hid B1
 clear B1
 go_wp2_with fail
 refine(HE.out W1).mono ?_
 rintro e W2 ⟨⟨v2,rfl,rfl,_⟩,B2⟩
 have HB2:=Lib.hid (HB1.out.trans (B2.mono HB1.out.size))
 clear B2
 go_wp2_with fail
 obtain⟨W3,hW3⟩:∃ W3,W3=W2.alloc (.cells #[.int .i64 1,.int .i64 0,.string ⟨#[98,114]⟩,.slice none 0 0,.string ⟨#[]⟩,.slice none 0 0] 45):=⟨_,rfl⟩
 have HX:=Lib.hid (six_alloc W2 (.int .i64 1) (.int .i64 0) (.string ⟨#[98,114]⟩) (.slice none 0 0) (.string ⟨#[]⟩) (.slice none 0 0))
 rw[← hW3] at HX
 rw[← hW3]
 have HBW:=Lib.hid (HB2.out.trans (show Below w.heap.size W2 W3 by rw[hW3];exact(Below.refl _ W2).alloc HB2.out.size _))
 have HKA3:=Lib.hid (HKA.out.below HBW.out (Nat.le_refl _))
 have HKB3:=Lib.hid (HKB.out.below HBW.out (Nat.le_refl _))
 clear hW3 HB1 HB2
 generalize W2.heap.size=b8 at *
 refine(HM.out W3).mono ?_
 rintro e W4 ⟨rfl,rfl⟩
 cases mb
 case false =>
  go_wp2
  go_ret
  exact⟨rfl,HBW.out⟩
 case true =>
  obtain⟨LL,hLL⟩:∃ LL,LL=(la++[elN sBr []]++lb).length:=⟨_,rfl⟩
  have HLL:=Lib.hid hLL
  replace HFL:=Lib.hid (HFL.out rfl)
  rw[← hLL] at HFL
  obtain⟨RL,hRL⟩:∃ RL,RL=(RA++[elN sBr []]++RB).length:=⟨_,rfl⟩
  have HRL:=Lib.hid hRL
  rw[← hRL] at HSAME
  clear hLL hRL
  go_upto_region 5 with fail
  go_cut [9] (fun v wx=>∃ a c,v=.slice a LL c∧Hid (KidsV wx a 0 (la++[elN sBr []]++lb))∧Hid (Below W3.heap.size W3 wx))
  case first =>
    obtain⟨S,hS⟩:∃ S:World→Prop,∀ u,S u↔Below W3.heap.size W3 u:=⟨_,fun _=>Iff.rfl⟩
    have x0:∀ s:WIn S,s.w.cell? ⟨b8,0,none⟩=some (.int .i64 1):=fun s=>(HX.out.below ((hS _).1 s.h) (Nat.le_refl _)).x0
    have x1:∀ s:WIn S,s.w.cell? ⟨b8,1,none⟩=some (.int .i64 0):=fun s=>(HX.out.below ((hS _).1 s.h) (Nat.le_refl _)).x1
    have x2:∀ s:WIn S,s.w.cell? ⟨b8,2,none⟩=some (.string ⟨#[98,114]⟩):=fun s=>(HX.out.below ((hS _).1 s.h) (Nat.le_refl _)).x2
    have x3:∀ s:WIn S,s.w.cell? ⟨b8,3,none⟩=some (.slice none 0 0):=fun s=>(HX.out.below ((hS _).1 s.h) (Nat.le_refl _)).x3
    have x4:∀ s:WIn S,s.w.cell? ⟨b8,4,none⟩=some (.string ⟨#[]⟩):=fun s=>(HX.out.below ((hS _).1 s.h) (Nat.le_refl _)).x4
    have x5:∀ s:WIn S,s.w.cell? ⟨b8,5,none⟩=some (.slice none 0 0):=fun s=>(HX.out.below ((hS _).1 s.h) (Nat.le_refl _)).x5
    haveI:Nonempty (WIn S):=⟨⟨W3,(hS _).2 (Below.refl _ _)⟩⟩
    have HSS:=Lib.hid hS
    clear hS
    refine region_forks 8 (.two [1,3,6] 0 (.two [] 2 (.one [] 4 (.one [] 5 (.one [] 7 (.fin [])))) 4 (.one [] 2 (.one [] 5 (.one [] 7 (.fin []))))) 4 (.one [] 0 (.one [] 2 (.one [] 5 (.one [] 7 (.fin [])))))) S (by kernel_rfl) (by kernel_rfl) ((HSS.out _).2 (below_drwP W3 1)) ?_
    obtain⟨Wd,hWd⟩:∃ Wd,Wd=W3.drewN 1:=⟨_,rfl⟩
    have HBd:=Lib.hid (show Below W3.heap.size W3 Wd by rw[hWd];exact below_drwP W3 1)
    rw[← hWd]
    clear hWd
    refine segT_two (fun K' hK'=>?_)
    simp only[pick,List.getElem?_cons_zero,List.getElem?_cons_succ,Option.getD_some]
    repeat (go_big_quiet_step (fail))
    refine wpQuiet_nil (hK' _ ?_ ?_)
    ·clear hK' K'
     intro Q1 hQ1
     simp only[pick,List.getElem?_cons_zero,Option.getD_some]
     go_wp2_with fail
     have hb:Below Wd.heap.size Wd (Wd.alloc (.cells #[] 45)):=(Below.refl _ _).alloc (Nat.le_refl _) _
     have HP1:=Lib.hid (PSt.start (W0:=W3) HBd.out)
     have HB1:=Lib.hid (HBd.out.trans (hb.mono HBd.out.size))
     clear hb
     generalize Wd.alloc (.cells #[] 45)=V1 at *
     generalize Wd.heap.size=g1 at *
     refine hQ1 _ _ ((HSS.out _).2 HB1.out) (segT_two (fun K' hK'=>wpQuiet_nil (hK' _ ?_ ?_)))
     ·clear hK' K' hQ1 Q1
      intro Q2 hQ2
      simp only[pick,List.getElem?_cons_zero,List.getElem?_cons_succ,Option.getD_some]
      go_wp2_with (at_builtin;refine wpList_append_kids rfl _ _ rfl _ _ _ rfl HP1 a (la.length) ca (la) rfl (Lib.hid rfl) (Lib.hid (Src.old HP1.out HKA3.out)) (by omega) ?_)
      intro v2 V2 hP hG
      have HP2:=Lib.hid hP.out
      have HB2:=Lib.hid hP.out.bel
      clear hP hG
      go_wp2_with fail
      refine hQ2 _ _ ((HSS.out _).2 HB2.out) (segT_one (fun K' hK'=>wpQuiet_nil (hK' _ ?_)))
      clear hK' K' hQ2 Q2
      intro Q3 hQ3
      simp only[pick,List.getElem?_cons_zero,List.getElem?_cons_succ,Option.getD_some]
      go_wp2_with fail
      have hb:Below V2.heap.size V2 (V2.alloc (.cells #[.int .i64 1,.int .i64 0,.string ⟨#[98,114]⟩,.slice none 0 0,.string ⟨#[]⟩,.slice none 0 0] 45)):=(Below.refl _ _).alloc (Nat.le_refl _) _
      have hk:=br_late V2
      have HRr3:=Lib.hid (Src.late HP2.out hk)
      have HP3:=Lib.hid (HP2.out.keep hb)
      have HB3:=Lib.hid (HB2.out.trans (hb.mono HB2.out.size))
      clear hk hb
      generalize V2.alloc (.cells #[.int .i64 1,.int .i64 0,.string ⟨#[98,114]⟩,.slice none 0 0,.string ⟨#[]⟩,.slice none 0 0] 45)=V3 at *
      generalize V2.heap.size=g3 at *
      refine hQ3 _ _ ((HSS.out _).2 HB3.out) (segT_one (fun K' hK'=>wpQuiet_nil (hK' _ ?_)))
      clear hK' K' hQ3 Q3
      intro Q4 hQ4
      simp only[pick,List.getElem?_cons_zero,List.getElem?_cons_succ,Option.getD_some]
      go_wp2_with (at_builtin;refine wpList_append_kids rfl _ _ rfl _ _ _ rfl HP3 (some ⟨g3,0,none⟩) (1) 1 ([elN sBr []]) rfl (Lib.hid rfl) HRr3 (by omega) ?_)
      intro v4 V4 hP hG
      have HP4:=Lib.hid hP.out
      have HB4:=Lib.hid hP.out.bel
      clear hP hG
      go_wp2_with fail
      refine hQ4 _ _ ((HSS.out _).2 HB4.out) (segT_one (fun K' hK'=>wpQuiet_nil (hK' _ ?_)))
      clear hK' K' hQ4 Q4
      intro Q5 hQ5
      simp only[pick,List.getElem?_cons_zero,List.getElem?_cons_succ,Option.getD_some]
      go_wp2_with (at_builtin;refine wpList_append_kids rfl _ _ rfl _ _ _ rfl HP4 b (lb.length) cb (lb) rfl (Lib.hid rfl) (Lib.hid (Src.old HP4.out HKB3.out)) (by omega) ?_)
      intro v5 V5 hP hG
      have HP5:=Lib.hid hP.out
      have HB5:=Lib.hid hP.out.bel
      clear hP hG
      go_wp2_with fail
      refine hQ5 _ _ ((HSS.out _).2 HB5.out) (segT_fin (fun K' hK'=>wpQuiet_nil (hK' _ (fun Qz hQz=>?_))))
      clear hK' K' hQ5 Q5
      simp only[List.drop_succ_cons,List.drop_zero]
      obtain⟨a2,c2,rfl,_,hk,_⟩:=HP5.out.slice
      have HKF:Hid (KidsV V5 a2 0 (la++[elN sBr []]++lb)):=Lib.hid (by have h:=hk.kids;simpa using h)
      clear hk x0 x1 x2 x3 x4 x5
      go_wp2_with fail
      go_meet
      case rel=>exact⟨a2,c2,congrArg (fun n=>Value.slice a2 n c2) (by have h:=HLL.out;simp at h;omega),HKF,HB5⟩
     ·clear hK' K' hQ1 Q1
      intro Q6 hQ6
      simp only[pick,List.getElem?_cons_zero,List.getElem?_cons_succ,Option.getD_some]
      go_wp2_with fail
      have hb:Below V1.heap.size V1 (V1.alloc (.cells #[.int .i64 1,.int .i64 0,.string ⟨#[98,114]⟩,.slice none 0 0,.string ⟨#[]⟩,.slice none 0 0] 45)):=(Below.refl _ _).alloc (Nat.le_refl _) _
      have hk:=br_late V1
      have HRr6:=Lib.hid (Src.late HP1.out hk)
      have HP6:=Lib.hid (HP1.out.keep hb)
      have HB6:=Lib.hid (HB1.out.trans (hb.mono HB1.out.size))
      clear hk hb
      generalize V1.alloc (.cells #[.int .i64 1,.int .i64 0,.string ⟨#[98,114]⟩,.slice none 0 0,.string ⟨#[]⟩,.slice none 0 0] 45)=V6 at *
      generalize V1.heap.size=g6 at *
      refine hQ6 _ _ ((HSS.out _).2 HB6.out) (segT_one (fun K' hK'=>wpQuiet_nil (hK' _ ?_)))
      clear hK' K' hQ6 Q6
      intro Q7 hQ7
      simp only[pick,List.getElem?_cons_zero,List.getElem?_cons_succ,Option.getD_some]
      go_wp2_with (at_builtin;refine wpList_append_kids rfl _ _ rfl _ _ _ rfl HP6 a (la.length) ca (la) rfl (Lib.hid rfl) (Lib.hid (Src.old HP6.out HKA3.out)) (by omega) ?_)
      intro v7 V7 hP hG
      have HRr7:=Lib.hid (HRr6.out.grown hG.out)
      have HP7:=Lib.hid hP.out
      have HB7:=Lib.hid hP.out.bel
      clear hP hG
      go_wp2_with fail
      refine hQ7 _ _ ((HSS.out _).2 HB7.out) (segT_one (fun K' hK'=>wpQuiet_nil (hK' _ ?_)))
      clear hK' K' hQ7 Q7
      intro Q8 hQ8
      simp only[pick,List.getElem?_cons_zero,List.getElem?_cons_succ,Option.getD_some]
      go_wp2_with (at_builtin;refine wpList_append_kids rfl _ _ rfl _ _ _ rfl HP7 (some ⟨g6,0,none⟩) (1) 1 ([elN sBr []]) rfl (Lib.hid rfl) HRr7 (by omega) ?_)
      intro v8 V8 hP hG
      have HP8:=Lib.hid hP.out
      have HB8:=Lib.hid hP.out.bel
      clear hP hG
      go_wp2_with fail
      refine hQ8 _ _ ((HSS.out _).2 HB8.out) (segT_one (fun K' hK'=>wpQuiet_nil (hK' _ ?_)))
      clear hK' K' hQ8 Q8
      intro Q9 hQ9
      simp only[pick,List.getElem?_cons_zero,List.getElem?_cons_succ,Option.getD_some]
      go_wp2_with (at_builtin;refine wpList_append_kids rfl _ _ rfl _ _ _ rfl HP8 b (lb.length) cb (lb) rfl (Lib.hid rfl) (Lib.hid (Src.old HP8.out HKB3.out)) (by omega) ?_)
      intro v9 V9 hP hG
      have HP9:=Lib.hid hP.out
      have HB9:=Lib.hid hP.out.bel
      clear hP hG
      go_wp2_with fail
      refine hQ9 _ _ ((HSS.out _).2 HB9.out) (segT_fin (fun K' hK'=>wpQuiet_nil (hK' _ (fun Qz hQz=>?_))))
      clear hK' K' hQ9 Q9
      simp only[List.drop_succ_cons,List.drop_zero]
      obtain⟨a2,c2,rfl,_,hk,_⟩:=HP9.out.slice
      have HKF:Hid (KidsV V9 a2 0 (la++[elN sBr []]++lb)):=Lib.hid (by have h:=hk.kids;simpa using h)
      clear hk x0 x1 x2 x3 x4 x5
      go_wp2_with fail
      go_meet
      case rel=>exact⟨a2,c2,congrArg (fun n=>Value.slice a2 n c2) (by have h:=HLL.out;simp at h;omega),HKF,HB9⟩
    ·clear hK' K'
     intro Q10 hQ10
     simp only[pick,List.getElem?_cons_zero,List.getElem?_cons_succ,Option.getD_some]
     go_wp2_with fail
     have hb:Below Wd.heap.size Wd (Wd.alloc (.cells #[.int .i64 1,.int .i64 0,.string ⟨#[98,114]⟩,.slice none 0 0,.string ⟨#[]⟩,.slice none 0 0] 45)):=(Below.refl _ _).alloc (Nat.le_refl _) _
     have hk:=br_late Wd
     have HRr10:=Lib.hid hk.kids
     have HB10:=Lib.hid (HBd.out.trans (hb.mono HBd.out.size))
     clear hk hb
     generalize Wd.alloc (.cells #[.int .i64 1,.int .i64 0,.string ⟨#[98,114]⟩,.slice none 0 0,.string ⟨#[]⟩,.slice none 0 0] 45)=V10 at *
     generalize Wd.heap.size=g10 at *
     refine hQ10 _ _ ((HSS.out _).2 HB10.out) (segT_one (fun K' hK'=>wpQuiet_nil (hK' _ ?_)))
     clear hK' K' hQ10 Q10
     intro Q11 hQ11
     simp only[pick,List.getElem?_cons_zero,Option.getD_some]
     go_wp2_with fail
     have hb:Below V10.heap.size V10 (V10.alloc (.cells #[] 45)):=(Below.refl _ _).alloc (Nat.le_refl _) _
     have HP11:=Lib.hid (PSt.start (W0:=W3) HB10.out)
     have HRr11:=Lib.hid (Src.made HRr10.out hb V10.heap.size (Nat.le_refl _) 0 0)
     have HB11:=Lib.hid (HB10.out.trans (hb.mono HB10.out.size))
     clear hb
     generalize V10.alloc (.cells #[] 45)=V11 at *
     generalize V10.heap.size=g11 at *
     refine hQ11 _ _ ((HSS.out _).2 HB11.out) (segT_one (fun K' hK'=>wpQuiet_nil (hK' _ ?_)))
     clear hK' K' hQ11 Q11
     intro Q12 hQ12
     simp only[pick,List.getElem?_cons_zero,List.getElem?_cons_succ,Option.getD_some]
     go_wp2_with (at_builtin;refine wpList_append_kids rfl _ _ rfl _ _ _ rfl HP11 a (la.length) ca (la) rfl (Lib.hid rfl) (Lib.hid (Src.old HP11.out HKA3.out)) (by omega) ?_)
     intro v12 V12 hP hG
     have HRr12:=Lib.hid (HRr11.out.grown hG.out)
     have HP12:=Lib.hid hP.out
     have HB12:=Lib.hid hP.out.bel
     clear hP hG
     go_wp2_with fail
     refine hQ12 _ _ ((HSS.out _).2 HB12.out) (segT_one (fun K' hK'=>wpQuiet_nil (hK' _ ?_)))
     clear hK' K' hQ12 Q12
     intro Q13 hQ13
     simp only[pick,List.getElem?_cons_zero,List.getElem?_cons_succ,Option.getD_some]
     go_wp2_with (at_builtin;refine wpList_append_kids rfl _ _ rfl _ _ _ rfl HP12 (some ⟨g10,0,none⟩) (1) 1 ([elN sBr []]) rfl (Lib.hid rfl) HRr12 (by omega) ?_)
     intro v13 V13 hP hG
     have HP13:=Lib.hid hP.out
     have HB13:=Lib.hid hP.out.bel
     clear hP hG
     go_wp2_with fail
     refine hQ13 _ _ ((HSS.out _).2 HB13.out) (segT_one (fun K' hK'=>wpQuiet_nil (hK' _ ?_)))
     clear hK' K' hQ13 Q13
     intro Q14 hQ14
     simp only[pick,List.getElem?_cons_zero,List.getElem?_cons_succ,Option.getD_some]
     go_wp2_with (at_builtin;refine wpList_append_kids rfl _ _ rfl _ _ _ rfl HP13 b (lb.length) cb (lb) rfl (Lib.hid rfl) (Lib.hid (Src.old HP13.out HKB3.out)) (by omega) ?_)
     intro v14 V14 hP hG
     have HP14:=Lib.hid hP.out
     have HB14:=Lib.hid hP.out.bel
     clear hP hG
     go_wp2_with fail
     refine hQ14 _ _ ((HSS.out _).2 HB14.out) (segT_fin (fun K' hK'=>wpQuiet_nil (hK' _ (fun Qz hQz=>?_))))
     clear hK' K' hQ14 Q14
     simp only[List.drop_succ_cons,List.drop_zero]
     obtain⟨a2,c2,rfl,_,hk,_⟩:=HP14.out.slice
     have HKF:Hid (KidsV V14 a2 0 (la++[elN sBr []]++lb)):=Lib.hid (by have h:=hk.kids;simpa using h)
     clear hk x0 x1 x2 x3 x4 x5
     go_wp2_with fail
     go_meet
     case rel=>exact⟨a2,c2,congrArg (fun n=>Value.slice a2 n c2) (by have h:=HLL.out;simp at h;omega),HKF,HB14⟩
  case rest =>
   obtain⟨a9,c9,rfl,hK9,hB9⟩:=hcut
   have HK9:=hK9
   have HB9:=hB9
   clear hK9 hB9
   rename World=>W5
   have HX5:=Lib.hid (HX.out.below HB9.out (Nat.le_refl _))
   have HKA5:=Lib.hid (HKA3.out.below HB9.out (Nat.le_refl _))
   have HKB5:=Lib.hid (HKB3.out.below HB9.out (Nat.le_refl _))
   have HBW5:=Lib.hid (HBW.out.trans (HB9.out.mono HBW.out.size))
   clear HX HKA3 HKB3 HBW HB9
   rename Hid (Below w.heap.size w W5)=>HBW
   go_upto_region 6 with fail
   go_cut [10] (fun v wx=>∃ a c,v=.slice a RL c∧Hid (KidsV wx a 0 (RA++[elN sBr []]++RB))∧Hid (Below W5.heap.size W5 wx))
   case first =>
     obtain⟨S,hS⟩:∃ S:World→Prop,∀ u,S u↔Below W5.heap.size W5 u:=⟨_,fun _=>Iff.rfl⟩
     have x0:∀ s:WIn S,s.w.cell? ⟨b8,0,none⟩=some (.int .i64 1):=fun s=>(HX5.out.below ((hS _).1 s.h) (Nat.le_refl _)).x0
     have x1:∀ s:WIn S,s.w.cell? ⟨b8,1,none⟩=some (.int .i64 0):=fun s=>(HX5.out.below ((hS _).1 s.h) (Nat.le_refl _)).x1
     have x2:∀ s:WIn S,s.w.cell? ⟨b8,2,none⟩=some (.string ⟨#[98,114]⟩):=fun s=>(HX5.out.below ((hS _).1 s.h) (Nat.le_refl _)).x2
     have x3:∀ s:WIn S,s.w.cell? ⟨b8,3,none⟩=some (.slice none 0 0):=fun s=>(HX5.out.below ((hS _).1 s.h) (Nat.le_refl _)).x3
     have x4:∀ s:WIn S,s.w.cell? ⟨b8,4,none⟩=some (.string ⟨#[]⟩):=fun s=>(HX5.out.below ((hS _).1 s.h) (Nat.le_refl _)).x4
     have x5:∀ s:WIn S,s.w.cell? ⟨b8,5,none⟩=some (.slice none 0 0):=fun s=>(HX5.out.below ((hS _).1 s.h) (Nat.le_refl _)).x5
     haveI:Nonempty (WIn S):=⟨⟨W5,(hS _).2 (Below.refl _ _)⟩⟩
     have HSS:=Lib.hid hS
     clear hS
     refine region_forks 12 (.three [1,2,5,8,9] 0 (.two [] 3 (.two [] 4 (.one [] 6 (.one [] 7 (.one [] 10 (.one [] 11 (.fin []))))) 6 (.one [] 4 (.one [] 7 (.one [] 10 (.one [] 11 (.fin [])))))) 6 (.one [] 3 (.one [] 4 (.one [] 7 (.one [] 10 (.one [] 11 (.fin []))))))) 3 (.two [] 0 (.two [] 4 (.one [] 6 (.one [] 7 (.one [] 10 (.one [] 11 (.fin []))))) 6 (.one [] 4 (.one [] 7 (.one [] 10 (.one [] 11 (.fin [])))))) 6 (.one [] 0 (.one [] 4 (.one [] 7 (.one [] 10 (.one [] 11 (.fin []))))))) 6 (.two [] 0 (.one [] 3 (.one [] 4 (.one [] 7 (.one [] 10 (.one [] 11 (.fin [])))))) 3 (.one [] 0 (.one [] 4 (.one [] 7 (.one [] 10 (.one [] 11 (.fin [])))))))) S (by kernel_rfl) (by kernel_rfl) ((HSS.out _).2 (below_drwP W5 1)) ?_
     obtain⟨Wd,hWd⟩:∃ Wd,Wd=W5.drewN 1:=⟨_,rfl⟩
     have HBd:=Lib.hid (show Below W5.heap.size W5 Wd by rw[hWd];exact below_drwP W5 1)
     rw[← hWd]
     clear hWd
     refine segT_three (fun K' hK'=>?_)
     simp only[pick,List.getElem?_cons_zero,List.getElem?_cons_succ,Option.getD_some]
     repeat (go_big_quiet_step (fail))
     refine wpQuiet_nil (hK' _ ?_ ?_ ?_)
     ·clear hK' K'
      intro Q101 hQ101
      simp only[pick,List.getElem?_cons_zero,Option.getD_some]
      go_wp2_with fail
      have hb:Below Wd.heap.size Wd (Wd.alloc (.cells #[] 45)):=(Below.refl _ _).alloc (Nat.le_refl _) _
      have HP101:=Lib.hid (PSt.start (W0:=W5) HBd.out)
      have HB101:=Lib.hid (HBd.out.trans (hb.mono HBd.out.size))
      clear hb
      generalize Wd.alloc (.cells #[] 45)=V101 at *
      generalize Wd.heap.size=g101 at *
      refine hQ101 _ _ ((HSS.out _).2 HB101.out) (segT_two (fun K' hK'=>wpQuiet_nil (hK' _ ?_ ?_)))
      ·clear hK' K' hQ101 Q101
       intro Q102 hQ102
       simp only[pick,List.getElem?_cons_zero,List.getElem?_cons_succ,Option.getD_some]
       go_wp2_with fail
       refine(HFA.out V101 a ca (HBW.out.trans (HB101.out.mono HBW.out.size)) (Lib.hid (HKA5.out.below HB101.out (Nat.le_refl _)))).mono ?_
       rintro x V102 ⟨ra,rca,rfl,_,hk,hb⟩
       have HRa102:=Lib.hid (Src.late HP101.out hk)
       have HP102:=Lib.hid (HP101.out.keep hb)
       have HB102:=Lib.hid (HB101.out.trans (hb.mono HB101.out.size))
       clear hk hb
       go_wp2_with fail
       refine hQ102 _ _ ((HSS.out _).2 HB102.out) (segT_two (fun K' hK'=>wpQuiet_nil (hK' _ ?_ ?_)))
       ·clear hK' K' hQ102 Q102
        intro Q103 hQ103
        simp only[pick,List.getElem?_cons_zero,List.getElem?_cons_succ,Option.getD_some]
        go_wp2_with (at_builtin;refine wpList_append_kids rfl _ _ rfl _ _ _ rfl HP102 ra (RA.length) rca (RA) rfl (Lib.hid rfl) HRa102 (by omega) ?_)
        intro v103 V103 hP hG
        have HP103:=Lib.hid hP.out
        have HB103:=Lib.hid hP.out.bel
        clear hP hG
        go_wp2_with fail
        refine hQ103 _ _ ((HSS.out _).2 HB103.out) (segT_one (fun K' hK'=>wpQuiet_nil (hK' _ ?_)))
        clear hK' K' hQ103 Q103
        intro Q104 hQ104
        simp only[pick,List.getElem?_cons_zero,List.getElem?_cons_succ,Option.getD_some]
        go_wp2_with fail
        have hb:Below V103.heap.size V103 (V103.alloc (.cells #[.int .i64 1,.int .i64 0,.string ⟨#[98,114]⟩,.slice none 0 0,.string ⟨#[]⟩,.slice none 0 0] 45)):=(Below.refl _ _).alloc (Nat.le_refl _) _
        have hk:=br_late V103
        have HRr104:=Lib.hid (Src.late HP103.out hk)
        have HP104:=Lib.hid (HP103.out.keep hb)
        have HB104:=Lib.hid (HB103.out.trans (hb.mono HB103.out.size))
        clear hk hb
        generalize V103.alloc (.cells #[.int .i64 1,.int .i64 0,.string ⟨#[98,114]⟩,.slice none 0 0,.string ⟨#[]⟩,.slice none 0 0] 45)=V104 at *
        generalize V103.heap.size=g104 at *
        refine hQ104 _ _ ((HSS.out _).2 HB104.out) (segT_one (fun K' hK'=>wpQuiet_nil (hK' _ ?_)))
        clear hK' K' hQ104 Q104
        intro Q105 hQ105
        simp only[pick,List.getElem?_cons_zero,List.getElem?_cons_succ,Option.getD_some]
        go_wp2_with (at_builtin;refine wpList_append_kids rfl _ _ rfl _ _ _ rfl HP104 (some ⟨g104,0,none⟩) (1) 1 ([elN sBr []]) rfl (Lib.hid rfl) HRr104 (by omega) ?_)
        intro v105 V105 hP hG
        have HP105:=Lib.hid hP.out
        have HB105:=Lib.hid hP.out.bel
        clear hP hG
        go_wp2_with fail
        refine hQ105 _ _ ((HSS.out _).2 HB105.out) (segT_one (fun K' hK'=>wpQuiet_nil (hK' _ ?_)))
        clear hK' K' hQ105 Q105
        intro Q106 hQ106
        simp only[pick,List.getElem?_cons_zero,List.getElem?_cons_succ,Option.getD_some]
        go_wp2_with fail
        refine(HFB.out V105 b cb (HBW.out.trans (HB105.out.mono HBW.out.size)) (Lib.hid (HKB5.out.below HB105.out (Nat.le_refl _)))).mono ?_
        rintro x V106 ⟨rb,rcb,rfl,_,hk,hb⟩
        have HRb106:=Lib.hid (Src.late HP105.out hk)
        have HP106:=Lib.hid (HP105.out.keep hb)
        have HB106:=Lib.hid (HB105.out.trans (hb.mono HB105.out.size))
        clear hk hb
        go_wp2_with fail
        refine hQ106 _ _ ((HSS.out _).2 HB106.out) (segT_one (fun K' hK'=>wpQuiet_nil (hK' _ ?_)))
        clear hK' K' hQ106 Q106
        intro Q107 hQ107
        simp only[pick,List.getElem?_cons_zero,List.getElem?_cons_succ,Option.getD_some]
        go_wp2_with (at_builtin;refine wpList_append_kids rfl _ _ rfl _ _ _ rfl HP106 rb (RB.length) rcb (RB) rfl (Lib.hid rfl) HRb106 (by omega) ?_)
        intro v107 V107 hP hG
        have HP107:=Lib.hid hP.out
        have HB107:=Lib.hid hP.out.bel
        clear hP hG
        go_wp2_with fail
        refine hQ107 _ _ ((HSS.out _).2 HB107.out) (segT_fin (fun K' hK'=>wpQuiet_nil (hK' _ (fun Qz hQz=>?_))))
        clear hK' K' hQ107 Q107
        simp only[List.drop_succ_cons,List.drop_zero]
        obtain⟨a2,c2,rfl,_,hk,_⟩:=HP107.out.slice
        have HKF:Hid (KidsV V107 a2 0 (RA++[elN sBr []]++RB)):=Lib.hid (by have h:=hk.kids;simpa using h)
        clear hk x0 x1 x2 x3 x4 x5
        go_wp2_with fail
        go_meet
        case rel=>exact⟨a2,c2,congrArg (fun n=>Value.slice a2 n c2) (by have h:=HRL.out;simp at h;omega),HKF,HB107⟩
       ·clear hK' K' hQ102 Q102
        intro Q108 hQ108
        simp only[pick,List.getElem?_cons_zero,List.getElem?_cons_succ,Option.getD_some]
        go_wp2_with fail
        have hb:Below V102.heap.size V102 (V102.alloc (.cells #[.int .i64 1,.int .i64 0,.string ⟨#[98,114]⟩,.slice none 0 0,.string ⟨#[]⟩,.slice none 0 0] 45)):=(Below.refl _ _).alloc (Nat.le_refl _) _
        have hk:=br_late V102
        have HRa108:=Lib.hid (HRa102.out.below hb)
        have HRr108:=Lib.hid (Src.late HP102.out hk)
        have HP108:=Lib.hid (HP102.out.keep hb)
        have HB108:=Lib.hid (HB102.out.trans (hb.mono HB102.out.size))
        clear hk hb
        generalize V102.alloc (.cells #[.int .i64 1,.int .i64 0,.string ⟨#[98,114]⟩,.slice none 0 0,.string ⟨#[]⟩,.slice none 0 0] 45)=V108 at *
        generalize V102.heap.size=g108 at *
        refine hQ108 _ _ ((HSS.out _).2 HB108.out) (segT_one (fun K' hK'=>wpQuiet_nil (hK' _ ?_)))
        clear hK' K' hQ108 Q108
        intro Q109 hQ109
        simp only[pick,List.getElem?_cons_zero,List.getElem?_cons_succ,Option.getD_some]
        go_wp2_with (at_builtin;refine wpList_append_kids rfl _ _ rfl _ _ _ rfl HP108 ra (RA.length) rca (RA) rfl (Lib.hid rfl) HRa108 (by omega) ?_)
        intro v109 V109 hP hG
        have HRr109:=Lib.hid (HRr108.out.grown hG.out)
        have HP109:=Lib.hid hP.out
        have HB109:=Lib.hid hP.out.bel
        clear hP hG
        go_wp2_with fail
        refine hQ109 _ _ ((HSS.out _).2 HB109.out) (segT_one (fun K' hK'=>wpQuiet_nil (hK' _ ?_)))
        clear hK' K' hQ109 Q109
        intro Q110 hQ110
        simp only[pick,List.getElem?_cons_zero,List.getElem?_cons_succ,Option.getD_some]
        go_wp2_with (at_builtin;refine wpList_append_kids rfl _ _ rfl _ _ _ rfl HP109 (some ⟨g108,0,none⟩) (1) 1 ([elN sBr []]) rfl (Lib.hid rfl) HRr109 (by omega) ?_)
        intro v110 V110 hP hG
        have HP110:=Lib.hid hP.out
        have HB110:=Lib.hid hP.out.bel
        clear hP hG
        go_wp2_with fail
        refine hQ110 _ _ ((HSS.out _).2 HB110.out) (segT_one (fun K' hK'=>wpQuiet_nil (hK' _ ?_)))
        clear hK' K' hQ110 Q110
        intro Q111 hQ111
        simp only[pick,List.getElem?_cons_zero,List.getElem?_cons_succ,Option.getD_some]
        go_wp2_with fail
        refine(HFB.out V110 b cb (HBW.out.trans (HB110.out.mono HBW.out.size)) (Lib.hid (HKB5.out.below HB110.out (Nat.le_refl _)))).mono ?_
        rintro x V111 ⟨rb,rcb,rfl,_,hk,hb⟩
        have HRb111:=Lib.hid (Src.late HP110.out hk)
        have HP111:=Lib.hid (HP110.out.keep hb)
        have HB111:=Lib.hid (HB110.out.trans (hb.mono HB110.out.size))
        clear hk hb
        go_wp2_with fail
        refine hQ111 _ _ ((HSS.out _).2 HB111.out) (segT_one (fun K' hK'=>wpQuiet_nil (hK' _ ?_)))
        clear hK' K' hQ111 Q111
        intro Q112 hQ112
        simp only[pick,List.getElem?_cons_zero,List.getElem?_cons_succ,Option.getD_some]
        go_wp2_with (at_builtin;refine wpList_append_kids rfl _ _ rfl _ _ _ rfl HP111 rb (RB.length) rcb (RB) rfl (Lib.hid rfl) HRb111 (by omega) ?_)
        intro v112 V112 hP hG
        have HP112:=Lib.hid hP.out
        have HB112:=Lib.hid hP.out.bel
        clear hP hG
        go_wp2_with fail
        refine hQ112 _ _ ((HSS.out _).2 HB112.out) (segT_fin (fun K' hK'=>wpQuiet_nil (hK' _ (fun Qz hQz=>?_))))
        clear hK' K' hQ112 Q112
        simp only[List.drop_succ_cons,List.drop_zero]
        obtain⟨a2,c2,rfl,_,hk,_⟩:=HP112.out.slice
        have HKF:Hid (KidsV V112 a2 0 (RA++[elN sBr []]++RB)):=Lib.hid (by have h:=hk.kids;simpa using h)
        clear hk x0 x1 x2 x3 x4 x5
        go_wp2_with fail
        go_meet
        case rel=>exact⟨a2,c2,congrArg (fun n=>Value.slice a2 n c2) (by have h:=HRL.out;simp at h;omega),HKF,HB112⟩
      ·clear hK' K' hQ101 Q101
       intro Q113 hQ113
       simp only[pick,List.getElem?_cons_zero,List.getElem?_cons_succ,Option.getD_some]
       go_wp2_with fail
       have hb:Below V101.heap.size V101 (V101.alloc (.cells #[.int .i64 1,.int .i64 0,.string ⟨#[98,114]⟩,.slice none 0 0,.string ⟨#[]⟩,.slice none 0 0] 45)):=(Below.refl _ _).alloc (Nat.le_refl _) _
       have hk:=br_late V101
       have HRr113:=Lib.hid (Src.late HP101.out hk)
       have HP113:=Lib.hid (HP101.out.keep hb)
       have HB113:=Lib.hid (HB101.out.trans (hb.mono HB101.out.size))
       clear hk hb
       generalize V101.alloc (.cells #[.int .i64 1,.int .i64 0,.string ⟨#[98,114]⟩,.slice none 0 0,.string ⟨#[]⟩,.slice none 0 0] 45)=V113 at *
       generalize V101.heap.size=g113 at *
       refine hQ113 _ _ ((HSS.out _).2 HB113.out) (segT_one (fun K' hK'=>wpQuiet_nil (hK' _ ?_)))
       clear hK' K' hQ113 Q113
       intro Q114 hQ114
       simp only[pick,List.getElem?_cons_zero,List.getElem?_cons_succ,Option.getD_some]
       go_wp2_with fail
       refine(HFA.out V113 a ca (HBW.out.trans (HB113.out.mono HBW.out.size)) (Lib.hid (HKA5.out.below HB113.out (Nat.le_refl _)))).mono ?_
       rintro x V114 ⟨ra,rca,rfl,_,hk,hb⟩
       have HRr114:=Lib.hid (HRr113.out.below hb)
       have HRa114:=Lib.hid (Src.late HP113.out hk)
       have HP114:=Lib.hid (HP113.out.keep hb)
       have HB114:=Lib.hid (HB113.out.trans (hb.mono HB113.out.size))
       clear hk hb
       go_wp2_with fail
       refine hQ114 _ _ ((HSS.out _).2 HB114.out) (segT_one (fun K' hK'=>wpQuiet_nil (hK' _ ?_)))
       clear hK' K' hQ114 Q114
       intro Q115 hQ115
       simp only[pick,List.getElem?_cons_zero,List.getElem?_cons_succ,Option.getD_some]
       go_wp2_with (at_builtin;refine wpList_append_kids rfl _ _ rfl _ _ _ rfl HP114 ra (RA.length) rca (RA) rfl (Lib.hid rfl) HRa114 (by omega) ?_)
       intro v115 V115 hP hG
       have HRr115:=Lib.hid (HRr114.out.grown hG.out)
       have HP115:=Lib.hid hP.out
       have HB115:=Lib.hid hP.out.bel
       clear hP hG
       go_wp2_with fail
       refine hQ115 _ _ ((HSS.out _).2 HB115.out) (segT_one (fun K' hK'=>wpQuiet_nil (hK' _ ?_)))
       clear hK' K' hQ115 Q115
       intro Q116 hQ116
       simp only[pick,List.getElem?_cons_zero,List.getElem?_cons_succ,Option.getD_some]
       go_wp2_with (at_builtin;refine wpList_append_kids rfl _ _ rfl _ _ _ rfl HP115 (some ⟨g113,0,none⟩) (1) 1 ([elN sBr []]) rfl (Lib.hid rfl) HRr115 (by omega) ?_)
       intro v116 V116 hP hG
       have HP116:=Lib.hid hP.out
       have HB116:=Lib.hid hP.out.bel
       clear hP hG
       go_wp2_with fail
       refine hQ116 _ _ ((HSS.out _).2 HB116.out) (segT_one (fun K' hK'=>wpQuiet_nil (hK' _ ?_)))
       clear hK' K' hQ116 Q116
       intro Q117 hQ117
       simp only[pick,List.getElem?_cons_zero,List.getElem?_cons_succ,Option.getD_some]
       go_wp2_with fail
       refine(HFB.out V116 b cb (HBW.out.trans (HB116.out.mono HBW.out.size)) (Lib.hid (HKB5.out.below HB116.out (Nat.le_refl _)))).mono ?_
       rintro x V117 ⟨rb,rcb,rfl,_,hk,hb⟩
       have HRb117:=Lib.hid (Src.late HP116.out hk)
       have HP117:=Lib.hid (HP116.out.keep hb)
       have HB117:=Lib.hid (HB116.out.trans (hb.mono HB116.out.size))
       clear hk hb
       go_wp2_with fail
       refine hQ117 _ _ ((HSS.out _).2 HB117.out) (segT_one (fun K' hK'=>wpQuiet_nil (hK' _ ?_)))
       clear hK' K' hQ117 Q117
       intro Q118 hQ118
       simp only[pick,List.getElem?_cons_zero,List.getElem?_cons_succ,Option.getD_some]
       go_wp2_with (at_builtin;refine wpList_append_kids rfl _ _ rfl _ _ _ rfl HP117 rb (RB.length) rcb (RB) rfl (Lib.hid rfl) HRb117 (by omega) ?_)
       intro v118 V118 hP hG
       have HP118:=Lib.hid hP.out
       have HB118:=Lib.hid hP.out.bel
       clear hP hG
       go_wp2_with fail
       refine hQ118 _ _ ((HSS.out _).2 HB118.out) (segT_fin (fun K' hK'=>wpQuiet_nil (hK' _ (fun Qz hQz=>?_))))
       clear hK' K' hQ118 Q118
       simp only[List.drop_succ_cons,List.drop_zero]
       obtain⟨a2,c2,rfl,_,hk,_⟩:=HP118.out.slice
       have HKF:Hid (KidsV V118 a2 0 (RA++[elN sBr []]++RB)):=Lib.hid (by have h:=hk.kids;simpa using h)
       clear hk x0 x1 x2 x3 x4 x5
       go_wp2_with fail
       go_meet
       case rel=>exact⟨a2,c2,congrArg (fun n=>Value.slice a2 n c2) (by have h:=HRL.out;simp at h;omega),HKF,HB118⟩
     ·clear hK' K'
      intro Q119 hQ119
      simp only[pick,List.getElem?_cons_zero,List.getElem?_cons_succ,Option.getD_some]
      go_wp2_with fail
      refine(HFA.out Wd a ca (HBW.out.trans (HBd.out.mono HBW.out.size)) (Lib.hid (HKA5.out.below HBd.out (Nat.le_refl _)))).mono ?_
      rintro x V119 ⟨ra,rca,rfl,_,hk,hb⟩
      have HRa119:=Lib.hid hk.kids
      have HB119:=Lib.hid (HBd.out.trans (hb.mono HBd.out.size))
      clear hk hb
      go_wp2_with fail
      refine hQ119 _ _ ((HSS.out _).2 HB119.out) (segT_two (fun K' hK'=>wpQuiet_nil (hK' _ ?_ ?_)))
      ·clear hK' K' hQ119 Q119
       intro Q120 hQ120
       simp only[pick,List.getElem?_cons_zero,Option.getD_some]
       go_wp2_with fail
       have hb:Below V119.heap.size V119 (V119.alloc (.cells #[] 45)):=(Below.refl _ _).alloc (Nat.le_refl _) _
       have HP120:=Lib.hid (PSt.start (W0:=W5) HB119.out)
       have HRa120:=Lib.hid (Src.made HRa119.out hb V119.heap.size (Nat.le_refl _) 0 0)
       have HB120:=Lib.hid (HB119.out.trans (hb.mono HB119.out.size))
       clear hb
       generalize V119.alloc (.cells #[] 45)=V120 at *
       generalize V119.heap.size=g120 at *
       refine hQ120 _ _ ((HSS.out _).2 HB120.out) (segT_two (fun K' hK'=>wpQuiet_nil (hK' _ ?_ ?_)))
       ·clear hK' K' hQ120 Q120
        intro Q121 hQ121
        simp only[pick,List.getElem?_cons_zero,List.getElem?_cons_succ,Option.getD_some]
        go_wp2_with (at_builtin;refine wpList_append_kids rfl _ _ rfl _ _ _ rfl HP120 ra (RA.length) rca (RA) rfl (Lib.hid rfl) HRa120 (by omega) ?_)
        intro v121 V121 hP hG
        have HP121:=Lib.hid hP.out
        have HB121:=Lib.hid hP.out.bel
        clear hP hG
        go_wp2_with fail
        refine hQ121 _ _ ((HSS.out _).2 HB121.out) (segT_one (fun K' hK'=>wpQuiet_nil (hK' _ ?_)))
        clear hK' K' hQ121 Q121
        intro Q122 hQ122
        simp only[pick,List.getElem?_cons_zero,List.getElem?_cons_succ,Option.getD_some]
        go_wp2_with fail
        have hb:Below V121.heap.size V121 (V121.alloc (.cells #[.int .i64 1,.int .i64 0,.string ⟨#[98,114]⟩,.slice none 0 0,.string ⟨#[]⟩,.slice none 0 0] 45)):=(Below.refl _ _).alloc (Nat.le_refl _) _
        have hk:=br_late V121
        have HRr122:=Lib.hid (Src.late HP121.out hk)
        have HP122:=Lib.hid (HP121.out.keep hb)
        have HB122:=Lib.hid (HB121.out.trans (hb.mono HB121.out.size))
        clear hk hb
        generalize V121.alloc (.cells #[.int .i64 1,.int .i64 0,.string ⟨#[98,114]⟩,.slice none 0 0,.string ⟨#[]⟩,.slice none 0 0] 45)=V122 at *
        generalize V121.heap.size=g122 at *
        refine hQ122 _ _ ((HSS.out _).2 HB122.out) (segT_one (fun K' hK'=>wpQuiet_nil (hK' _ ?_)))
        clear hK' K' hQ122 Q122
        intro Q123 hQ123
        simp only[pick,List.getElem?_cons_zero,List.getElem?_cons_succ,Option.getD_some]
        go_wp2_with (at_builtin;refine wpList_append_kids rfl _ _ rfl _ _ _ rfl HP122 (some ⟨g122,0,none⟩) (1) 1 ([elN sBr []]) rfl (Lib.hid rfl) HRr122 (by omega) ?_)
        intro v123 V123 hP hG
        have HP123:=Lib.hid hP.out
        have HB123:=Lib.hid hP.out.bel
        clear hP hG
        go_wp2_with fail
        refine hQ123 _ _ ((HSS.out _).2 HB123.out) (segT_one (fun K' hK'=>wpQuiet_nil (hK' _ ?_)))
        clear hK' K' hQ123 Q123
        intro Q124 hQ124
        simp only[pick,List.getElem?_cons_zero,List.getElem?_cons_succ,Option.getD_some]
        go_wp2_with fail
        refine(HFB.out V123 b cb (HBW.out.trans (HB123.out.mono HBW.out.size)) (Lib.hid (HKB5.out.below HB123.out (Nat.le_refl _)))).mono ?_
        rintro x V124 ⟨rb,rcb,rfl,_,hk,hb⟩
        have HRb124:=Lib.hid (Src.late HP123.out hk)
        have HP124:=Lib.hid (HP123.out.keep hb)
        have HB124:=Lib.hid (HB123.out.trans (hb.mono HB123.out.size))
        clear hk hb
        go_wp2_with fail
        refine hQ124 _ _ ((HSS.out _).2 HB124.out) (segT_one (fun K' hK'=>wpQuiet_nil (hK' _ ?_)))
        clear hK' K' hQ124 Q124
        intro Q125 hQ125
        simp only[pick,List.getElem?_cons_zero,List.getElem?_cons_succ,Option.getD_some]
        go_wp2_with (at_builtin;refine wpList_append_kids rfl _ _ rfl _ _ _ rfl HP124 rb (RB.length) rcb (RB) rfl (Lib.hid rfl) HRb124 (by omega) ?_)
        intro v125 V125 hP hG
        have HP125:=Lib.hid hP.out
        have HB125:=Lib.hid hP.out.bel
        clear hP hG
        go_wp2_with fail
        refine hQ125 _ _ ((HSS.out _).2 HB125.out) (segT_fin (fun K' hK'=>wpQuiet_nil (hK' _ (fun Qz hQz=>?_))))
        clear hK' K' hQ125 Q125
        simp only[List.drop_succ_cons,List.drop_zero]
        obtain⟨a2,c2,rfl,_,hk,_⟩:=HP125.out.slice
        have HKF:Hid (KidsV V125 a2 0 (RA++[elN sBr []]++RB)):=Lib.hid (by have h:=hk.kids;simpa using h)
        clear hk x0 x1 x2 x3 x4 x5
        go_wp2_with fail
        go_meet
        case rel=>exact⟨a2,c2,congrArg (fun n=>Value.slice a2 n c2) (by have h:=HRL.out;simp at h;omega),HKF,HB125⟩
       ·clear hK' K' hQ120 Q120
        intro Q126 hQ126
        simp only[pick,List.getElem?_cons_zero,List.getElem?_cons_succ,Option.getD_some]
        go_wp2_with fail
        have hb:Below V120.heap.size V120 (V120.alloc (.cells #[.int .i64 1,.int .i64 0,.string ⟨#[98,114]⟩,.slice none 0 0,.string ⟨#[]⟩,.slice none 0 0] 45)):=(Below.refl _ _).alloc (Nat.le_refl _) _
        have hk:=br_late V120
        have HRa126:=Lib.hid (HRa120.out.below hb)
        have HRr126:=Lib.hid (Src.late HP120.out hk)
        have HP126:=Lib.hid (HP120.out.keep hb)
        have HB126:=Lib.hid (HB120.out.trans (hb.mono HB120.out.size))
        clear hk hb
        generalize V120.alloc (.cells #[.int .i64 1,.int .i64 0,.string ⟨#[98,114]⟩,.slice none 0 0,.string ⟨#[]⟩,.slice none 0 0] 45)=V126 at *
        generalize V120.heap.size=g126 at *
        refine hQ126 _ _ ((HSS.out _).2 HB126.out) (segT_one (fun K' hK'=>wpQuiet_nil (hK' _ ?_)))
        clear hK' K' hQ126 Q126
        intro Q127 hQ127
        simp only[pick,List.getElem?_cons_zero,List.getElem?_cons_succ,Option.getD_some]
        go_wp2_with (at_builtin;refine wpList_append_kids rfl _ _ rfl _ _ _ rfl HP126 ra (RA.length) rca (RA) rfl (Lib.hid rfl) HRa126 (by omega) ?_)
        intro v127 V127 hP hG
        have HRr127:=Lib.hid (HRr126.out.grown hG.out)
        have HP127:=Lib.hid hP.out
        have HB127:=Lib.hid hP.out.bel
        clear hP hG
        go_wp2_with fail
        refine hQ127 _ _ ((HSS.out _).2 HB127.out) (segT_one (fun K' hK'=>wpQuiet_nil (hK' _ ?_)))
        clear hK' K' hQ127 Q127
        intro Q128 hQ128
        simp only[pick,List.getElem?_cons_zero,List.getElem?_cons_succ,Option.getD_some]
        go_wp2_with (at_builtin;refine wpList_append_kids rfl _ _ rfl _ _ _ rfl HP127 (some ⟨g126,0,none⟩) (1) 1 ([elN sBr []]) rfl (Lib.hid rfl) HRr127 (by omega) ?_)
        intro v128 V128 hP hG
        have HP128:=Lib.hid hP.out
        have HB128:=Lib.hid hP.out.bel
        clear hP hG
        go_wp2_with fail
        refine hQ128 _ _ ((HSS.out _).2 HB128.out) (segT_one (fun K' hK'=>wpQuiet_nil (hK' _ ?_)))
        clear hK' K' hQ128 Q128
        intro Q129 hQ129
        simp only[pick,List.getElem?_cons_zero,List.getElem?_cons_succ,Option.getD_some]
        go_wp2_with fail
        refine(HFB.out V128 b cb (HBW.out.trans (HB128.out.mono HBW.out.size)) (Lib.hid (HKB5.out.below HB128.out (Nat.le_refl _)))).mono ?_
        rintro x V129 ⟨rb,rcb,rfl,_,hk,hb⟩
        have HRb129:=Lib.hid (Src.late HP128.out hk)
        have HP129:=Lib.hid (HP128.out.keep hb)
        have HB129:=Lib.hid (HB128.out.trans (hb.mono HB128.out.size))
        clear hk hb
        go_wp2_with fail
        refine hQ129 _ _ ((HSS.out _).2 HB129.out) (segT_one (fun K' hK'=>wpQuiet_nil (hK' _ ?_)))
        clear hK' K' hQ129 Q129
        intro Q130 hQ130
        simp only[pick,List.getElem?_cons_zero,List.getElem?_cons_succ,Option.getD_some]
        go_wp2_with (at_builtin;refine wpList_append_kids rfl _ _ rfl _ _ _ rfl HP129 rb (RB.length) rcb (RB) rfl (Lib.hid rfl) HRb129 (by omega) ?_)
        intro v130 V130 hP hG
        have HP130:=Lib.hid hP.out
        have HB130:=Lib.hid hP.out.bel
        clear hP hG
        go_wp2_with fail
        refine hQ130 _ _ ((HSS.out _).2 HB130.out) (segT_fin (fun K' hK'=>wpQuiet_nil (hK' _ (fun Qz hQz=>?_))))
        clear hK' K' hQ130 Q130
        simp only[List.drop_succ_cons,List.drop_zero]
        obtain⟨a2,c2,rfl,_,hk,_⟩:=HP130.out.slice
        have HKF:Hid (KidsV V130 a2 0 (RA++[elN sBr []]++RB)):=Lib.hid (by have h:=hk.kids;simpa using h)
        clear hk x0 x1 x2 x3 x4 x5
        go_wp2_with fail
        go_meet
        case rel=>exact⟨a2,c2,congrArg (fun n=>Value.slice a2 n c2) (by have h:=HRL.out;simp at h;omega),HKF,HB130⟩
      ·clear hK' K' hQ119 Q119
       intro Q131 hQ131
       simp only[pick,List.getElem?_cons_zero,List.getElem?_cons_succ,Option.getD_some]
       go_wp2_with fail
       have hb:Below V119.heap.size V119 (V119.alloc (.cells #[.int .i64 1,.int .i64 0,.string ⟨#[98,114]⟩,.slice none 0 0,.string ⟨#[]⟩,.slice none 0 0] 45)):=(Below.refl _ _).alloc (Nat.le_refl _) _
       have hk:=br_late V119
       have HRa131:=Lib.hid (HRa119.out.below hb (Nat.le_refl _))
       have HRr131:=Lib.hid hk.kids
       have HB131:=Lib.hid (HB119.out.trans (hb.mono HB119.out.size))
       clear hk hb
       generalize V119.alloc (.cells #[.int .i64 1,.int .i64 0,.string ⟨#[98,114]⟩,.slice none 0 0,.string ⟨#[]⟩,.slice none 0 0] 45)=V131 at *
       generalize V119.heap.size=g131 at *
       refine hQ131 _ _ ((HSS.out _).2 HB131.out) (segT_one (fun K' hK'=>wpQuiet_nil (hK' _ ?_)))
       clear hK' K' hQ131 Q131
       intro Q132 hQ132
       simp only[pick,List.getElem?_cons_zero,Option.getD_some]
       go_wp2_with fail
       have hb:Below V131.heap.size V131 (V131.alloc (.cells #[] 45)):=(Below.refl _ _).alloc (Nat.le_refl _) _
       have HP132:=Lib.hid (PSt.start (W0:=W5) HB131.out)
       have HRa132:=Lib.hid (Src.made HRa131.out hb V131.heap.size (Nat.le_refl _) 0 0)
       have HRr132:=Lib.hid (Src.made HRr131.out hb V131.heap.size (Nat.le_refl _) 0 0)
       have HB132:=Lib.hid (HB131.out.trans (hb.mono HB131.out.size))
       clear hb
       generalize V131.alloc (.cells #[] 45)=V132 at *
       generalize V131.heap.size=g132 at *
       refine hQ132 _ _ ((HSS.out _).2 HB132.out) (segT_one (fun K' hK'=>wpQuiet_nil (hK' _ ?_)))
       clear hK' K' hQ132 Q132
       intro Q133 hQ133
       simp only[pick,List.getElem?_cons_zero,List.getElem?_cons_succ,Option.getD_some]
       go_wp2_with (at_builtin;refine wpList_append_kids rfl _ _ rfl _ _ _ rfl HP132 ra (RA.length) rca (RA) rfl (Lib.hid rfl) HRa132 (by omega) ?_)
       intro v133 V133 hP hG
       have HRr133:=Lib.hid (HRr132.out.grown hG.out)
       have HP133:=Lib.hid hP.out
       have HB133:=Lib.hid hP.out.bel
       clear hP hG
       go_wp2_with fail
       refine hQ133 _ _ ((HSS.out _).2 HB133.out) (segT_one (fun K' hK'=>wpQuiet_nil (hK' _ ?_)))
       clear hK' K' hQ133 Q133
       intro Q134 hQ134
       simp only[pick,List.getElem?_cons_zero,List.getElem?_cons_succ,Option.getD_some]
       go_wp2_with (at_builtin;refine wpList_append_kids rfl _ _ rfl _ _ _ rfl HP133 (some ⟨g131,0,none⟩) (1) 1 ([elN sBr []]) rfl (Lib.hid rfl) HRr133 (by omega) ?_)
       intro v134 V134 hP hG
       have HP134:=Lib.hid hP.out
       have HB134:=Lib.hid hP.out.bel
       clear hP hG
       go_wp2_with fail
       refine hQ134 _ _ ((HSS.out _).2 HB134.out) (segT_one (fun K' hK'=>wpQuiet_nil (hK' _ ?_)))
       clear hK' K' hQ134 Q134
       intro Q135 hQ135
       simp only[pick,List.getElem?_cons_zero,List.getElem?_cons_succ,Option.getD_some]
       go_wp2_with fail
       refine(HFB.out V134 b cb (HBW.out.trans (HB134.out.mono HBW.out.size)) (Lib.hid (HKB5.out.below HB134.out (Nat.le_refl _)))).mono ?_
       rintro x V135 ⟨rb,rcb,rfl,_,hk,hb⟩
       have HRb135:=Lib.hid (Src.late HP134.out hk)
       have HP135:=Lib.hid (HP134.out.keep hb)
       have HB135:=Lib.hid (HB134.out.trans (hb.mono HB134.out.size))
       clear hk hb
       go_wp2_with fail
       refine hQ135 _ _ ((HSS.out _).2 HB135.out) (segT_one (fun K' hK'=>wpQuiet_nil (hK' _ ?_)))
       clear hK' K' hQ135 Q135
       intro Q136 hQ136
       simp only[pick,List.getElem?_cons_zero,List.getElem?_cons_succ,Option.getD_some]
       go_wp2_with (at_builtin;refine wpList_append_kids rfl _ _ rfl _ _ _ rfl HP135 rb (RB.length) rcb (RB) rfl (Lib.hid rfl) HRb135 (by omega) ?_)
       intro v136 V136 hP hG
       have HP136:=Lib.hid hP.out
       have HB136:=Lib.hid hP.out.bel
       clear hP hG
       go_wp2_with fail
       refine hQ136 _ _ ((HSS.out _).2 HB136.out) (segT_fin (fun K' hK'=>wpQuiet_nil (hK' _ (fun Qz hQz=>?_))))
       clear hK' K' hQ136 Q136
       simp only[List.drop_succ_cons,List.drop_zero]
       obtain⟨a2,c2,rfl,_,hk,_⟩:=HP136.out.slice
       have HKF:Hid (KidsV V136 a2 0 (RA++[elN sBr []]++RB)):=Lib.hid (by have h:=hk.kids;simpa using h)
       clear hk x0 x1 x2 x3 x4 x5
       go_wp2_with fail
       go_meet
       case rel=>exact⟨a2,c2,congrArg (fun n=>Value.slice a2 n c2) (by have h:=HRL.out;simp at h;omega),HKF,HB136⟩
     ·clear hK' K'
      intro Q137 hQ137
      simp only[pick,List.getElem?_cons_zero,List.getElem?_cons_succ,Option.getD_some]
      go_wp2_with fail
      have hb:Below Wd.heap.size Wd (Wd.alloc (.cells #[.int .i64 1,.int .i64 0,.string ⟨#[98,114]⟩,.slice none 0 0,.string ⟨#[]⟩,.slice none 0 0] 45)):=(Below.refl _ _).alloc (Nat.le_refl _) _
      have hk:=br_late Wd
      have HRr137:=Lib.hid hk.kids
      have HB137:=Lib.hid (HBd.out.trans (hb.mono HBd.out.size))
      clear hk hb
      generalize Wd.alloc (.cells #[.int .i64 1,.int .i64 0,.string ⟨#[98,114]⟩,.slice none 0 0,.string ⟨#[]⟩,.slice none 0 0] 45)=V137 at *
      generalize Wd.heap.size=g137 at *
      refine hQ137 _ _ ((HSS.out _).2 HB137.out) (segT_two (fun K' hK'=>wpQuiet_nil (hK' _ ?_ ?_)))
      ·clear hK' K' hQ137 Q137
       intro Q138 hQ138
       simp only[pick,List.getElem?_cons_zero,Option.getD_some]
       go_wp2_with fail
       have hb:Below V137.heap.size V137 (V137.alloc (.cells #[] 45)):=(Below.refl _ _).alloc (Nat.le_refl _) _
       have HP138:=Lib.hid (PSt.start (W0:=W5) HB137.out)
       have HRr138:=Lib.hid (Src.made HRr137.out hb V137.heap.size (Nat.le_refl _) 0 0)
       have HB138:=Lib.hid (HB137.out.trans (hb.mono HB137.out.size))
       clear hb
       generalize V137.alloc (.cells #[] 45)=V138 at *
       generalize V137.heap.size=g138 at *
       refine hQ138 _ _ ((HSS.out _).2 HB138.out) (segT_one (fun K' hK'=>wpQuiet_nil (hK' _ ?_)))
       clear hK' K' hQ138 Q138
       intro Q139 hQ139
       simp only[pick,List.getElem?_cons_zero,List.getElem?_cons_succ,Option.getD_some]
       go_wp2_with fail
       refine(HFA.out V138 a ca (HBW.out.trans (HB138.out.mono HBW.out.size)) (Lib.hid (HKA5.out.below HB138.out (Nat.le_refl _)))).mono ?_
       rintro x V139 ⟨ra,rca,rfl,_,hk,hb⟩
       have HRr139:=Lib.hid (HRr138.out.below hb)
       have HRa139:=Lib.hid (Src.late HP138.out hk)
       have HP139:=Lib.hid (HP138.out.keep hb)
       have HB139:=Lib.hid (HB138.out.trans (hb.mono HB138.out.size))
       clear hk hb
       go_wp2_with fail
       refine hQ139 _ _ ((HSS.out _).2 HB139.out) (segT_one (fun K' hK'=>wpQuiet_nil (hK' _ ?_)))
       clear hK' K' hQ139 Q139
       intro Q140 hQ140
       simp only[pick,List.getElem?_cons_zero,List.getElem?_cons_succ,Option.getD_some]
       go_wp2_with (at_builtin;refine wpList_append_kids rfl _ _ rfl _ _ _ rfl HP139 ra (RA.length) rca (RA) rfl (Lib.hid rfl) HRa139 (by omega) ?_)
       intro v140 V140 hP hG
       have HRr140:=Lib.hid (HRr139.out.grown hG.out)
       have HP140:=Lib.hid hP.out
       have HB140:=Lib.hid hP.out.bel
       clear hP hG
       go_wp2_with fail
       refine hQ140 _ _ ((HSS.out _).2 HB140.out) (segT_one (fun K' hK'=>wpQuiet_nil (hK' _ ?_)))
       clear hK' K' hQ140 Q140
       intro Q141 hQ141
       simp only[pick,List.getElem?_cons_zero,List.getElem?_cons_succ,Option.getD_some]
       go_wp2_with (at_builtin;refine wpList_append_kids rfl _ _ rfl _ _ _ rfl HP140 (some ⟨g137,0,none⟩) (1) 1 ([elN sBr []]) rfl (Lib.hid rfl) HRr140 (by omega) ?_)
       intro v141 V141 hP hG
       have HP141:=Lib.hid hP.out
       have HB141:=Lib.hid hP.out.bel
       clear hP hG
       go_wp2_with fail
       refine hQ141 _ _ ((HSS.out _).2 HB141.out) (segT_one (fun K' hK'=>wpQuiet_nil (hK' _ ?_)))
       clear hK' K' hQ141 Q141
       intro Q142 hQ142
       simp only[pick,List.getElem?_cons_zero,List.getElem?_cons_succ,Option.getD_some]
       go_wp2_with fail
       refine(HFB.out V141 b cb (HBW.out.trans (HB141.out.mono HBW.out.size)) (Lib.hid (HKB5.out.below HB141.out (Nat.le_refl _)))).mono ?_
       rintro x V142 ⟨rb,rcb,rfl,_,hk,hb⟩
       have HRb142:=Lib.hid (Src.late HP141.out hk)
       have HP142:=Lib.hid (HP141.out.keep hb)
       have HB142:=Lib.hid (HB141.out.trans (hb.mono HB141.out.size))
       clear hk hb
       go_wp2_with fail
       refine hQ142 _ _ ((HSS.out _).2 HB142.out) (segT_one (fun K' hK'=>wpQuiet_nil (hK' _ ?_)))
       clear hK' K' hQ142 Q142
       intro Q143 hQ143
       simp only[pick,List.getElem?_cons_zero,List.getElem?_cons_succ,Option.getD_some]
       go_wp2_with (at_builtin;refine wpList_append_kids rfl _ _ rfl _ _ _ rfl HP142 rb (RB.length) rcb (RB) rfl (Lib.hid rfl) HRb142 (by omega) ?_)
       intro v143 V143 hP hG
       have HP143:=Lib.hid hP.out
       have HB143:=Lib.hid hP.out.bel
       clear hP hG
       go_wp2_with fail
       refine hQ143 _ _ ((HSS.out _).2 HB143.out) (segT_fin (fun K' hK'=>wpQuiet_nil (hK' _ (fun Qz hQz=>?_))))
       clear hK' K' hQ143 Q143
       simp only[List.drop_succ_cons,List.drop_zero]
       obtain⟨a2,c2,rfl,_,hk,_⟩:=HP143.out.slice
       have HKF:Hid (KidsV V143 a2 0 (RA++[elN sBr []]++RB)):=Lib.hid (by have h:=hk.kids;simpa using h)
       clear hk x0 x1 x2 x3 x4 x5
       go_wp2_with fail
       go_meet
       case rel=>exact⟨a2,c2,congrArg (fun n=>Value.slice a2 n c2) (by have h:=HRL.out;simp at h;omega),HKF,HB143⟩
      ·clear hK' K' hQ137 Q137
       intro Q144 hQ144
       simp only[pick,List.getElem?_cons_zero,List.getElem?_cons_succ,Option.getD_some]
       go_wp2_with fail
       refine(HFA.out V137 a ca (HBW.out.trans (HB137.out.mono HBW.out.size)) (Lib.hid (HKA5.out.below HB137.out (Nat.le_refl _)))).mono ?_
       rintro x V144 ⟨ra,rca,rfl,_,hk,hb⟩
       have HRr144:=Lib.hid (HRr137.out.below hb (Nat.le_refl _))
       have HRa144:=Lib.hid hk.kids
       have HB144:=Lib.hid (HB137.out.trans (hb.mono HB137.out.size))
       clear hk hb
       go_wp2_with fail
       refine hQ144 _ _ ((HSS.out _).2 HB144.out) (segT_one (fun K' hK'=>wpQuiet_nil (hK' _ ?_)))
       clear hK' K' hQ144 Q144
       intro Q145 hQ145
       simp only[pick,List.getElem?_cons_zero,Option.getD_some]
       go_wp2_with fail
       have hb:Below V144.heap.size V144 (V144.alloc (.cells #[] 45)):=(Below.refl _ _).alloc (Nat.le_refl _) _
       have HP145:=Lib.hid (PSt.start (W0:=W5) HB144.out)
       have HRr145:=Lib.hid (Src.made HRr144.out hb V144.heap.size (Nat.le_refl _) 0 0)
       have HRa145:=Lib.hid (Src.made HRa144.out hb V144.heap.size (Nat.le_refl _) 0 0)
       have HB145:=Lib.hid (HB144.out.trans (hb.mono HB144.out.size))
       clear hb
       generalize V144.alloc (.cells #[] 45)=V145 at *
       generalize V144.heap.size=g145 at *
       refine hQ145 _ _ ((HSS.out _).2 HB145.out) (segT_one (fun K' hK'=>wpQuiet_nil (hK' _ ?_)))
       clear hK' K' hQ145 Q145
       intro Q146 hQ146
       simp only[pick,List.getElem?_cons_zero,List.getElem?_cons_succ,Option.getD_some]
       go_wp2_with (at_builtin;refine wpList_append_kids rfl _ _ rfl _ _ _ rfl HP145 ra (RA.length) rca (RA) rfl (Lib.hid rfl) HRa145 (by omega) ?_)
       intro v146 V146 hP hG
       have HRr146:=Lib.hid (HRr145.out.grown hG.out)
       have HP146:=Lib.hid hP.out
       have HB146:=Lib.hid hP.out.bel
       clear hP hG
       go_wp2_with fail
       refine hQ146 _ _ ((HSS.out _).2 HB146.out) (segT_one (fun K' hK'=>wpQuiet_nil (hK' _ ?_)))
       clear hK' K' hQ146 Q146
       intro Q147 hQ147
       simp only[pick,List.getElem?_cons_zero,List.getElem?_cons_succ,Option.getD_some]
       go_wp2_with (at_builtin;refine wpList_append_kids rfl _ _ rfl _ _ _ rfl HP146 (some ⟨g137,0,none⟩) (1) 1 ([elN sBr []]) rfl (Lib.hid rfl) HRr146 (by omega) ?_)
       intro v147 V147 hP hG
       have HP147:=Lib.hid hP.out
       have HB147:=Lib.hid hP.out.bel
       clear hP hG
       go_wp2_with fail
       refine hQ147 _ _ ((HSS.out _).2 HB147.out) (segT_one (fun K' hK'=>wpQuiet_nil (hK' _ ?_)))
       clear hK' K' hQ147 Q147
       intro Q148 hQ148
       simp only[pick,List.getElem?_cons_zero,List.getElem?_cons_succ,Option.getD_some]
       go_wp2_with fail
       refine(HFB.out V147 b cb (HBW.out.trans (HB147.out.mono HBW.out.size)) (Lib.hid (HKB5.out.below HB147.out (Nat.le_refl _)))).mono ?_
       rintro x V148 ⟨rb,rcb,rfl,_,hk,hb⟩
       have HRb148:=Lib.hid (Src.late HP147.out hk)
       have HP148:=Lib.hid (HP147.out.keep hb)
       have HB148:=Lib.hid (HB147.out.trans (hb.mono HB147.out.size))
       clear hk hb
       go_wp2_with fail
       refine hQ148 _ _ ((HSS.out _).2 HB148.out) (segT_one (fun K' hK'=>wpQuiet_nil (hK' _ ?_)))
       clear hK' K' hQ148 Q148
       intro Q149 hQ149
       simp only[pick,List.getElem?_cons_zero,List.getElem?_cons_succ,Option.getD_some]
       go_wp2_with (at_builtin;refine wpList_append_kids rfl _ _ rfl _ _ _ rfl HP148 rb (RB.length) rcb (RB) rfl (Lib.hid rfl) HRb148 (by omega) ?_)
       intro v149 V149 hP hG
       have HP149:=Lib.hid hP.out
       have HB149:=Lib.hid hP.out.bel
       clear hP hG
       go_wp2_with fail
       refine hQ149 _ _ ((HSS.out _).2 HB149.out) (segT_fin (fun K' hK'=>wpQuiet_nil (hK' _ (fun Qz hQz=>?_))))
       clear hK' K' hQ149 Q149
       simp only[List.drop_succ_cons,List.drop_zero]
       obtain⟨a2,c2,rfl,_,hk,_⟩:=HP149.out.slice
       have HKF:Hid (KidsV V149 a2 0 (RA++[elN sBr []]++RB)):=Lib.hid (by have h:=hk.kids;simpa using h)
       clear hk x0 x1 x2 x3 x4 x5
       go_wp2_with fail
       go_meet
       case rel=>exact⟨a2,c2,congrArg (fun n=>Value.slice a2 n c2) (by have h:=HRL.out;simp at h;omega),HKF,HB149⟩
   case rest =>
    obtain⟨a10,c10,rfl,hK10,hB10⟩:=hcut
    have HK10:=hK10
    have HB10:=hB10
    clear hK10 hB10
    rename World=>W6
    go_wp2_with fail
    refine(HFL.out W6 a9 c9 (HBW.out.trans (HB10.out.mono HBW.out.size)) (Lib.hid (HK9.out.below HB10.out (Nat.le_refl _)))).mono ?_
    rintro e W7 ⟨k7,c7,rfl,_,hk7,B7⟩
    have HK7:=Lib.hid hk7.kids
    have HK107:=Lib.hid (HK10.out.below B7 (Nat.le_refl _))
    have HB7:=Lib.hid (HB10.out.trans (B7.mono HB10.out.size))
    clear hk7 B7
    rw[← HRL.out]
    go_wp2_with fail
    refine(HSAME.out W7 k7 a10 c7 c10 HK7 HK107).mono ?_
    unfold SomeBool
    rintro e W8 ⟨rfl,B8⟩
    have HB8:=Lib.hid (HB7.out.trans (B8.mono HB7.out.size))
    clear B8
    go_wp2
    go_ret
    exact⟨rfl,HBW.out.trans (HB8.out.mono HBW.out.size)⟩
end Go.Proofs.YtcfgbdhpcboikaaGreatDoor
