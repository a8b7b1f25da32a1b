/-
  CleanTexts, over its callees' contracts: no text comes out that was not there, and none in another order.
  The plain text of plain texts, one behind the other, is what they are.
  The law's texts: all texts below nodes.
  The law's all: the plain texts of all nodes.
  CleanTexts at every argument that holds at most 1048576 values and letters.
-/
import Derived.Test.YtcfgbdhpcboikaaGreatDoorBase
import Derived.Test.YtcfgbdhpcboikaaGreatDoorSieveD
import Derived.Test.YtcfgbdhpcboikaaGreatDoorTxtB
import Derived.Test.YtcfgbdhpcboikaaGreatDoorTextLawB
import Derived.Test.YtcfgbdhpcboikaaGreatDoorRefUA
import Derived.Test.YtcfgbdhpcboikaaGreatDoorSieveM
import Derived.Test.YtcfgbdhpcboikaaGreatDoorTEW
namespace Go.Proofs.YtcfgbdhpcboikaaGreatDoor
set_option maxHeartbeats 4000000
set_option maxRecDepth 100000
open Go.RowKit
structure SubAt (is was:List UInt8) (i j:Nat):Prop where
 hi:i≤is.length
 hj:j≤was.length
 sub:(is.drop i).Sublist (was.drop j)
theorem SubAt.lt {is was:List UInt8}{i j:Nat}(h:SubAt is was i j)(hi:i<is.length):j<was.length:=by
 rcases Nat.lt_or_ge j was.length with hj|hj
 ·exact hj
 ·have hs:=h.sub
  rw[List.drop_eq_nil_of_le hj,List.drop_eq_getElem_cons hi] at hs
  cases hs
theorem SubAt.skip {is was:List UInt8}{i j:Nat}(h:SubAt is was i j)(hi:i<is.length)(hj:j<was.length)(hne:was[j]≠is[i]):SubAt is was i (j+1):=by
 refine⟨h.hi,hj,?_⟩
 have hs:=h.sub
 rw[List.drop_eq_getElem_cons hi,List.drop_eq_getElem_cons hj] at hs
 rw[List.drop_eq_getElem_cons hi]
 generalize is[i]=x at *
 generalize was[j]=y at *
 cases hs with
 | cons _ h=>exact h
 | cons_cons _ h=>exact absurd rfl hne
theorem SubAt.take {is was:List UInt8}{i j:Nat}(h:SubAt is was i j)(hi:i<is.length)(hj:j<was.length)(he:was[j]=is[i]):SubAt is was (i+1) (j+1):=by
 refine⟨hi,hj,?_⟩
 have hs:=h.sub
 rw[List.drop_eq_getElem_cons hi,List.drop_eq_getElem_cons hj,he] at hs
 exact List.cons_sublist_cons.1 hs
theorem ctexts_walk (pn:ByteArray)(l:List Nd)(a:Option Addr)(c:Nat)(w:World)(IS WAS mid:ByteArray)(R:List Nd)
  (HHEAD:Hid (∀ W,Below w.heap.size w W→Calls Tryz.prog 47 #[] W (SomeBool true W)))
  (HALL:Hid (∀ W,Below w.heap.size w W→Calls Tryz.prog 48 #[.slice a l.length c] W (fun e w'=>e=.returned (.string mid)∧Below W.heap.size W w')))
  (HTEXT:Hid (∀ W,Calls Tryz.prog 33 #[.string mid] W (fun e w'=>e=.returned (.string WAS)∧Below W.heap.size W w')))
  (HFIL:Hid (∀ W,Below w.heap.size w W→Calls Tryz.prog 50 #[.string pn,.slice a l.length c] W (FilRet W R)))
  (HTXTS:Hid (∀ W a c,Hid (KidsV W a 0 R)→Calls Tryz.prog 49 #[.slice a R.length c] W (fun e w'=>e=.returned (.string IS)∧Below W.heap.size W w')))
  (HSUB:Hid (IS.data.toList.Sublist WAS.data.toList)) (hiz:IS.size≤4000000000) (hwz:WAS.size≤4000000000) :
  Calls Tryz.prog 12 #[.string pn,.slice a l.length c] w (SomeBool true w):=by
 go_enter Tryz.func12,Tryz.ntmps12
 go_wp2_with fail
 refine(HHEAD.out w (Below.refl _ _)).mono ?_
 unfold SomeBool
 rintro e W1 ⟨rfl,B1⟩
 have HB1:=Lib.hid B1
 clear B1
 go_wp2_with fail
 refine(HALL.out W1 HB1.out).mono ?_
 rintro e W2 ⟨rfl,B2⟩
 have HB2:=Lib.hid (HB1.out.trans (B2.mono HB1.out.size))
 clear B2
 go_wp2_with fail
 refine(HTEXT.out W2).mono ?_
 rintro e W3 ⟨rfl,B3⟩
 have HB3:=Lib.hid (HB2.out.trans (B3.mono HB2.out.size))
 clear B3
 go_wp2_with fail
 refine(HFIL.out W3 HB3.out).mono ?_
 rintro e W4 ⟨ka,kc,rfl,_,hk4,B4⟩
 have HK4:=Lib.hid hk4.kids
 have HB4:=Lib.hid (HB3.out.trans (B4.mono HB3.out.size))
 clear hk4 B4
 go_wp2_with fail
 refine(HTXTS.out W4 ka kc HK4).mono ?_
 rintro e W5 ⟨rfl,B5⟩
 have HB5:=Lib.hid (HB4.out.trans (B5.mono HB4.out.size))
 clear B5 HB1 HB2 HB3 HB4 HHEAD HALL HTEXT HFIL HTXTS HK4
 go_wp2
 go_loopw [8,9] (fun x i wx=>∃ p q:Nat,x=.int .i64 q∧i=.int .i64 p∧Hid (SubAt IS.data.toList WAS.data.toList p q∧Below w.heap.size w wx)) (fun _ i _=>IS.size-(intOf i).toNat)
 case atStart=>exact⟨0,0,rfl,rfl,Lib.hid ⟨⟨Nat.zero_le _,Nat.zero_le _,HSUB.out⟩,HB5.out⟩⟩
 case round =>
  obtain⟨p,q,rfl,rfl,hR⟩:=hrel
  have hp:p≤IS.size:=hR.out.1.hi
  clear HB5
  rcases Nat.lt_or_ge p IS.size with hlt|hge
  ·go_wp2
   rename World=>W6
   go_loopw [8] (fun x wx=>∃ q:Nat,x=.int .i64 q∧Hid (SubAt IS.data.toList WAS.data.toList p q∧Below w.heap.size w wx)) (fun x _=>WAS.size-(intOf x).toNat)
   case atStart=>exact⟨q,rfl,hR⟩
   case round =>
    obtain⟨q2,rfl,hR2⟩:=hrel
    have hq:q2<WAS.size:=hR2.out.1.lt hlt
    have HSK:=Lib.hid (hR2.out.1.skip hlt hq)
    have HTK:=Lib.hid (hR2.out.1.take hlt hq)
    have e1:WAS.data.toList[q2]'hq=WAS[q2]:=rfl
    have e2:IS.data.toList[p]'hlt=IS[p]:=rfl
    rw[e1,e2] at HSK HTK
    clear e1 e2
    by_cases he:WAS[q2]=IS[p]
    ·have HT:=Lib.hid (HTK.out he)
     have t1:((WAS[q2].toNat:Int) !=(IS[p].toNat:Int))=false:=by rw[he];simp
     have hqz:((q2:Int)==(WAS.size:Int))=false:=by rw[beq_eq_false_iff_ne];omega
     clear he HSK HTK
     go_wp2_with fail
     go_quiet (fail)
     go_wp2
     go_roundw
     case rel=>exact⟨p+1,q2+1,by go_num,by go_num,Lib.hid ⟨HT.out,hR2.out.2.trans ((below_drewNm _ _).mono hR2.out.2.size)⟩⟩
     case measure=>simp[intOf];omega
    ·have HT:=Lib.hid (HSK.out he)
     have t1:((WAS[q2].toNat:Int) !=(IS[p].toNat:Int))=true:=by
      rw[bne_iff_ne]
      intro e
      exact he (UInt8.toNat_inj.1 (by omega))
     clear he HSK HTK
     go_wp2_with fail
     go_quiet (fail)
     go_wp2
     go_roundw
     case rel=>exact⟨q2+1,by go_num,Lib.hid ⟨HT.out,hR2.out.2.trans ((below_drewNm _ _).mono hR2.out.2.size)⟩⟩
     case measure=>simp[intOf];omega
  ·go_wp2
   go_ret
   exact⟨rfl,hR.out.2⟩
open Go.RowKit
theorem Plainly.nil:Plainly []:=by have:=text_plainly [];exact this
theorem Plainly.append {a b:List UInt8}(ha:Plainly a)(hb:Plainly b):Plainly (a++b):=by
 obtain⟨r,h1,h2⟩:=ha
 obtain⟨s,h3,h4⟩:=hb
 exact⟨r++s,by rw[h1,h3,List.flatMap_append],fun x hx=>(List.mem_append.1 hx).elim (h2 x) (h4 x)⟩
theorem texts_plainly:(∀ n:Nd,Plainly (textsN textL n))∧(∀ l:List Nd,Plainly (textsK textL l)):=by
 refine nd_ind (P:=fun n=>Plainly (textsN textL n)) (Q:=fun l=>Plainly (textsK textL l)) ?_ ?_ ?_
 ·intro n ih
  rw[textsN_eq]
  refine Plainly.append ?_ ih
  split
  ·exact text_plainly _
  ·exact Plainly.nil
 ·rw[textsK_nil];exact Plainly.nil
 ·intro n ns h1 h2
  rw[textsK_cons]
  exact h1.append h2
open Go.RowKit
def bL (l:List UInt8):ByteArray:=⟨l.toArray⟩
theorem textsK_take (f:List UInt8→List UInt8)(l:List Nd)(k:Nat)(h:k<l.length):textsK f (l.take (k+1))=textsK f (l.take k)++textsN f l[k]:=by
 rw[List.take_add_one,List.getElem?_eq_getElem h,textsK_append]
 show _++textsK f [l[k]]=_
 rw[textsK_cons,textsK_nil,List.append_nil]
theorem bL_app (a b:List UInt8):bL (a++b)=bL a++bL b:=by
 ext1
 simp[bL]
theorem bL_of (b:ByteArray):bL b.data.toList=b:=by
 ext1
 simp[bL]
theorem textsK_le (f:List UInt8→List UInt8)(l:List Nd)(k:Nat):(textsK f (l.take k)).length≤(textsK f l).length:=by
 conv=>rhs;rw[← List.take_append_drop k l,textsK_append,List.length_append]
 omega
theorem texts_any:∀ (m:Nat) (l:List Nd),szAll l≤m→∀ (w:World) (a:Option Addr) (c:Nat),szAll l≤1000000000→(textsK id l).length≤1000000000→Hid (KidsV w a 0 l)→Hid (SmK l) →
  Calls Tryz.prog 49 #[.slice a l.length c] w fun e w'=>e=.returned (.string (bL (textsK id l)))∧Below w.heap.size w w':=by
 intro m
 induction m with
 | zero =>
  intro l hn w a c _ _ hK _
  have hl:l=[]:=by
   have:=(szAll_mem l).2
   exact List.length_eq_zero_iff.1 (by omega)
  subst hl
  rw[textsK_nil]
  go_enter Tryz.func49,Tryz.ntmps49
  go_wp2
  go_loopw [3,4] (fun r i wx=>r=.string ⟨#[]⟩∧i=.int .i64 0∧Hid (Below w.heap.size w wx)) (fun _ _ _=>0)
  case atStart=>exact⟨rfl,rfl,Lib.hid (Below.refl _ _)⟩
  case round =>
   obtain⟨rfl,rfl,hB⟩:=hrel
   go_wp2
   go_ret
   exact⟨rfl,hB.out⟩
 | succ m ih =>
  intro l hn w a c hl1 hl2 HK HS
  have hll:l.length≤1000000000:=Nat.le_trans (szAll_mem l).2 hl1
  have HIH:=Lib.hid ih
  have HN:=Lib.hid hn
  have HL:=Lib.hid hl2
  clear ih hn hl2
  go_enter Tryz.func49,Tryz.ntmps49
  go_wp2
  go_loopw [3,4] (fun r i wx=>∃ k:Nat,r=.string (bL (textsK id (l.take k)))∧i=.int .i64 k∧Hid (k≤l.length∧Below w.heap.size w wx)) (fun _ i _=>l.length-(intOf i).toNat)
  case atStart=>exact⟨0,by rw[List.take_zero,textsK_nil];rfl,rfl,Lib.hid ⟨Nat.zero_le _,Below.refl _ _⟩⟩
  case round =>
   obtain⟨k,rfl,rfl,hR⟩:=hrel
   have hk:=hR.out.1
   rcases Nat.lt_or_ge k l.length with hlt|hge
   ·obtain⟨g,off,c0,c1,c2,c3,c4,c5,rfl,h6,hn⟩:=HK.out.get l 0 k hlt
    rw[Nat.zero_add] at h6
    obtain⟨x0,x1,x2,x3,x4,x5⟩:=h6.below hR.out.2 (Nat.le_refl _)
    obtain⟨a1,b1,a2,b2,rfl,rfl,rfl,rfl,rfl,rfl⟩:=hn.cells
    have HKk:=Lib.hid ((hn.below hR.out.2 (Nat.le_refl _)).partsV).2
    have HSQ:=Lib.hid (SmK.get l k hlt HS.out)
    have HT:=Lib.hid (textsK_take id l k hlt)
    have HLE:=Lib.hid (textsK_le id l (k+1))
    have hsz:szAll l[k].kids≤m:=by
     have h1:=sz_get l k hlt
     have h2:=sz_kids l[k]
     have h3:=HN.out
     omega
    have hb:(bL (textsK id (l.take k))).size+(if l[k].kind=2 then l[k].text.size else 0)+(textsK id l[k].kids).length≤1000000000:=by
     have h1:=HLE.out
     have h2:=HL.out
     rw[HT.out,textsN_eq,List.length_append,List.length_append] at h1
     have h3:(bL (textsK id (l.take k))).size=(textsK id (l.take k)).length:=by simp[bL,ByteArray.size]
     have h4:(if l[k].kind=2 then id l[k].text.data.toList else []).length=if l[k].kind=2 then l[k].text.size else 0:=by
      split
      ·exact Array.length_toList
      ·rfl
     omega
    have hstep:bL (textsK id (l.take (k+1)))=(if l[k].kind=2 then bL (textsK id (l.take k))++l[k].text else bL (textsK id (l.take k)))++bL (textsK id l[k].kids):=by
     rw[HT.out,textsN_eq,bL_app,bL_app]
     split
     ·rw[← ByteArray.append_assoc]
      show _++bL l[k].text.data.toList++_=_
      rw[bL_of]
     ·show _++(bL []++_)=_
      have:bL ([]:List UInt8)++bL (textsK id l[k].kids)=bL (textsK id l[k].kids):=by rw[← bL_app];rfl
      rw[this]
    have HST:=Lib.hid hstep
    have hkl:szAll l[k].kids≤1000000000:=by
     have h1:=sz_get l k hlt
     have h2:=sz_kids l[k]
     omega
    have hkt:(textsK id l[k].kids).length≤1000000000:=by omega
    have HC:=Lib.hid (HIH.out l[k].kids hsz wr a2 b2 hkl hkt HKk (Lib.hid HSQ.out.get.2.2.2.2))
    clear h6 hn hstep hsz hkl hkt HT HLE
    generalize hs0:bL (textsK id (l.take k))=s0 at *
    generalize l[k]=q at *
    have HXL:Hid ((bL (textsK id q.kids)).size=(textsK id q.kids).length):=by show _=_;simp[bL,ByteArray.size]
    generalize htl:(textsK id q.kids).length=tl at *
    generalize htk:bL (textsK id q.kids)=tk at *
    rcases Decidable.em (q.kind=2) with hk2|hk2
    ·rw[if_pos hk2] at hb
     have HST2:=Lib.hid HST.out
     rw[if_pos hk2] at HST2
     have hq1:s0.size+q.text.size≤1000000000:=by omega
     have hq2:s0.size+q.text.size+tk.size≤1000000000:=by have:=HXL.out;omega
     have hq3:(s0++q.text).size+tk.size≤1000000000:=by rw[ByteArray.size_append];exact hq2
     clear hb hq2 HST
     go_wp2_with fail
     ·refine HC.out.mono ?_
      rintro e W2 ⟨rfl,B2⟩
      have HB2:=Lib.hid (hR.out.2.trans (B2.mono hR.out.2.size))
      clear B2
      go_wp2_with fail
      ·go_roundw
       case rel=>exact⟨k+1,by rw[HST2.out],by go_num,Lib.hid ⟨hlt,HB2.out⟩⟩
       case measure=>simp[intOf];omega
      all_goals (exfalso;omega)
     all_goals (exfalso;omega)
    ·rw[if_neg hk2] at hb
     have HST2:=Lib.hid HST.out
     rw[if_neg hk2] at HST2
     have hq3:s0.size+tk.size≤1000000000:=by have:=HXL.out;omega
     have hq2:(q.kind==2)=false:=by rw[beq_eq_false_iff_ne];exact hk2
     clear hb HST
     go_wp2_with fail
     ·refine HC.out.mono ?_
      rintro e W2 ⟨rfl,B2⟩
      have HB2:=Lib.hid (hR.out.2.trans (B2.mono hR.out.2.size))
      clear B2
      go_wp2_with fail
      ·go_roundw
       case rel=>exact⟨k+1,by rw[HST2.out],by go_num,Lib.hid ⟨hlt,HB2.out⟩⟩
       case measure=>simp[intOf];omega
      all_goals (exfalso;omega)
     all_goals (exfalso;omega)
   ·have hk2:k=l.length:=by omega
    have HT:=Lib.hid (show bL (textsK id (l.take k))=bL (textsK id l) by rw[hk2,List.take_length])
    clear hk2
    go_wp2
    go_ret
    refine⟨?_,hR.out.2⟩
    rw[HT.out]
    rfl
open Go.RowKit
theorem all_any:∀ (m:Nat) (l:List Nd),szAll l≤m→∀ (w:World) (a:Option Addr) (c:Nat),szAll l≤1000000000→(textsK textL l).length≤1000000000→Hid (KidsV w a 0 l)→Hid (SmK l) →
  Calls Tryz.prog 48 #[.slice a l.length c] w fun e w'=>e=.returned (.string (bL (textsK textL l)))∧Below w.heap.size w w':=by
 intro m
 induction m with
 | zero =>
  intro l hn w a c _ _ hK _
  have hl:l=[]:=by
   have:=(szAll_mem l).2
   exact List.length_eq_zero_iff.1 (by omega)
  subst hl
  rw[textsK_nil]
  go_enter Tryz.func48,Tryz.ntmps48
  go_wp2
  go_loopw [3,4] (fun r i wx=>r=.string ⟨#[]⟩∧i=.int .i64 0∧Hid (Below w.heap.size w wx)) (fun _ _ _=>0)
  case atStart=>exact⟨rfl,rfl,Lib.hid (Below.refl _ _)⟩
  case round =>
   obtain⟨rfl,rfl,hB⟩:=hrel
   go_wp2
   go_ret
   exact⟨rfl,hB.out⟩
 | succ m ih =>
  intro l hn w a c hl1 hl2 HK HS
  have hll:l.length≤1000000000:=Nat.le_trans (szAll_mem l).2 hl1
  have HIH:=Lib.hid ih
  have HN:=Lib.hid hn
  have HL:=Lib.hid hl2
  clear ih hn hl2
  go_enter Tryz.func48,Tryz.ntmps48
  go_wp2
  go_loopw [3,4] (fun r i wx=>∃ k:Nat,r=.string (bL (textsK textL (l.take k)))∧i=.int .i64 k∧Hid (k≤l.length∧Below w.heap.size w wx)) (fun _ i _=>l.length-(intOf i).toNat)
  case atStart=>exact⟨0,by rw[List.take_zero,textsK_nil];rfl,rfl,Lib.hid ⟨Nat.zero_le _,Below.refl _ _⟩⟩
  case round =>
   obtain⟨k,rfl,rfl,hR⟩:=hrel
   have hk:=hR.out.1
   rcases Nat.lt_or_ge k l.length with hlt|hge
   ·obtain⟨g,off,c0,c1,c2,c3,c4,c5,rfl,h6,hn⟩:=HK.out.get l 0 k hlt
    rw[Nat.zero_add] at h6
    obtain⟨x0,x1,x2,x3,x4,x5⟩:=h6.below hR.out.2 (Nat.le_refl _)
    obtain⟨a1,b1,a2,b2,rfl,rfl,rfl,rfl,rfl,rfl⟩:=hn.cells
    have HKk:=Lib.hid ((hn.below hR.out.2 (Nat.le_refl _)).partsV).2
    have HSQ:=Lib.hid (SmK.get l k hlt HS.out)
    have HT:=Lib.hid (textsK_take textL l k hlt)
    have HLE:=Lib.hid (textsK_le textL l (k+1))
    have hsz:szAll l[k].kids≤m:=by
     have h1:=sz_get l k hlt
     have h2:=sz_kids l[k]
     have h3:=HN.out
     omega
    have hb:(bL (textsK textL (l.take k))).size+(if l[k].kind=2 then (textL l[k].text.data.toList).length else 0)+(textsK textL l[k].kids).length≤1000000000:=by
     have h1:=HLE.out
     have h2:=HL.out
     rw[HT.out,textsN_eq,List.length_append,List.length_append] at h1
     have h3:(bL (textsK textL (l.take k))).size=(textsK textL (l.take k)).length:=by simp[bL,ByteArray.size]
     have h4:(if l[k].kind=2 then textL l[k].text.data.toList else []).length=if l[k].kind=2 then (textL l[k].text.data.toList).length else 0:=by
      split
      ·rfl
      ·rfl
     omega
    have hstep:bL (textsK textL (l.take (k+1)))=(if l[k].kind=2 then bL (textsK textL (l.take k))++bL (textL l[k].text.data.toList) else bL (textsK textL (l.take k)))++bL (textsK textL l[k].kids):=by
     rw[HT.out,textsN_eq,bL_app,bL_app]
     split
     ·rw[← ByteArray.append_assoc]
     ·show _++(bL []++_)=_
      have:bL ([]:List UInt8)++bL (textsK textL l[k].kids)=bL (textsK textL l[k].kids):=by rw[← bL_app];rfl
      rw[this]
    have HST:=Lib.hid hstep
    have hkl:szAll l[k].kids≤1000000000:=by
     have h1:=sz_get l k hlt
     have h2:=sz_kids l[k]
     omega
    have hkt:(textsK textL l[k].kids).length≤1000000000:=by omega
    have HC:=Lib.hid (fun(W:World) (hW:Below wr.heap.size wr W)=>HIH.out l[k].kids hsz W a2 b2 hkl hkt (Lib.hid (HKk.out.below hW (Nat.le_refl _))) (Lib.hid HSQ.out.get.2.2.2.2))
    have H6:=Lib.hid h6
    clear h6 hn hstep hsz hkl hkt HT HLE
    generalize hs0:bL (textsK textL (l.take k))=s0 at *
    generalize l[k]=q at *
    have HXL:Hid ((bL (textsK textL q.kids)).size=(textsK textL q.kids).length):=by show _=_;simp[bL,ByteArray.size]
    have HXQ:Hid ((bL (textL q.text.data.toList)).size=(textL q.text.data.toList).length):=by show _=_;simp[bL,ByteArray.size]
    have HTX:=Lib.hid (fun W=>rtext_any q.text (by have:=HSQ.out.get.2.1;omega) W)
    have HTX2:Hid (∀ W,Calls Tryz.prog 33 #[.string q.text] W fun e w'=>e=.returned (.string (bL (textL q.text.data.toList)))∧Below W.heap.size W w'):=HTX
    clear HTX
    generalize htql:(textL q.text.data.toList).length=tql at *
    generalize htq:bL (textL q.text.data.toList)=tq at *
    generalize htl:(textsK textL q.kids).length=tl at *
    generalize htk:bL (textsK textL q.kids)=tk at *
    rcases Decidable.em (q.kind=2) with hk2|hk2
    ·rw[if_pos hk2] at hb
     have HST2:=Lib.hid HST.out
     rw[if_pos hk2] at HST2
     have hq1:s0.size+tq.size≤1000000000:=by have:=HXQ.out;omega
     have hq2:s0.size+tq.size+tk.size≤1000000000:=by have:=HXL.out;have:=HXQ.out;omega
     have hq3:(s0++tq).size+tk.size≤1000000000:=by rw[ByteArray.size_append];exact hq2
     clear hb hq2 HST
     go_wp2_with fail
     refine(HTX2.out wr).mono ?_
     rintro e W1 ⟨rfl,B1⟩
     have HB1:=Lib.hid B1
     clear x0 x1 x2 x3 x4 x5
     have HBB:=Lib.hid (hR.out.2.trans (B1.mono hR.out.2.size))
     obtain⟨x0,x1,x2,x3,x4,x5⟩:=H6.out.below HBB.out (Nat.le_refl _)
     clear B1
     go_wp2_with fail
     ·refine(HC.out W1 HB1.out).mono ?_
      rintro e W2 ⟨rfl,B2⟩
      have HB2:=Lib.hid (HBB.out.trans (B2.mono HBB.out.size))
      clear B2
      go_wp2_with fail
      ·go_roundw
       case rel=>exact⟨k+1,by rw[HST2.out],by go_num,Lib.hid ⟨hlt,HB2.out⟩⟩
       case measure=>simp[intOf];omega
      all_goals (exfalso;omega)
     all_goals (exfalso;omega)
    ·rw[if_neg hk2] at hb
     have HST2:=Lib.hid HST.out
     rw[if_neg hk2] at HST2
     have hq3:s0.size+tk.size≤1000000000:=by have:=HXL.out;omega
     have hq2:(q.kind==2)=false:=by rw[beq_eq_false_iff_ne];exact hk2
     clear hb HST
     go_wp2_with fail
     ·refine(HC.out wr (Below.refl _ _)).mono ?_
      rintro e W2 ⟨rfl,B2⟩
      have HB2:=Lib.hid (hR.out.2.trans (B2.mono hR.out.2.size))
      clear B2
      go_wp2_with fail
      ·go_roundw
       case rel=>exact⟨k+1,by rw[HST2.out],by go_num,Lib.hid ⟨hlt,HB2.out⟩⟩
       case measure=>simp[intOf];omega
      all_goals (exfalso;omega)
     all_goals (exfalso;omega)
   ·have hk2:k=l.length:=by omega
    have HT:=Lib.hid (show bL (textsK textL (l.take k))=bL (textsK textL l) by rw[hk2,List.take_length])
    clear hk2
    go_wp2
    go_ret
    refine⟨?_,hR.out.2⟩
    rw[HT.out]
    rfl
open Go.RowKit
theorem bL_size (l:List UInt8):(bL l).size=l.length:=by simp[bL,ByteArray.size]
theorem bL_list (l:List UInt8):(bL l).data.toList=l:=by simp[bL]
theorem ctexts_all (pn:ByteArray)(l:List Nd)(a:Option Addr)(c:Nat)(hb:bkAll l≤1048576)(W:World)(T:Tabs W)(hK:KidsV W a 0 l) :
  Calls Tryz.prog 12 #[.string pn,.slice a l.length c] W (SomeBool true W):=by
 obtain⟨VV,A,hV,hA,hO,_⟩:=attrs_fam W T
 have hz:=bk_sz.2 l
 have hs:=bk_sm.2 l hb
 have hlen:=texts_len.2 l
 have hsub:=filter_texts A pn [] l
 have hl2:=hsub.length_le
 have hR:=filter_sm hA hV pn [] hs (by have:=tk_bk.2 l;omega)
 have hRz:=filter_sz A pn [] l
 have e1:textL (textsK textL l)=textsK textL l:=text_of_plainly (texts_plainly.2 l)
 refine ctexts_walk pn l a c W (bL (textsK id (filterN A pn [] l))) (bL (textsK textL l)) (bL (textsK textL l)) (filterN A pn [] l)
  (Lib.hid fun V h=>shown19 A (Lib.hid hO) (aok_nil hA) V (Lib.hid (T.below h (Nat.le_refl _))))
  (Lib.hid fun V h=>all_any _ l (Nat.le_refl _) V a c (by omega) (by omega) (Lib.hid (hK.below h (Nat.le_refl _))) (Lib.hid hs))
  (Lib.hid fun V=>?_)
  (Lib.hid fun V h=>cfilter_any A (Lib.hid hO) l pn V a c (Lib.hid (T.below h (Nat.le_refl _))) hb (Lib.hid (hK.below h (Nat.le_refl _))))
  (Lib.hid fun V a c hk=>texts_any _ _ (Nat.le_refl _) V a c (by omega) (by omega) hk (Lib.hid hR))
  (Lib.hid ?_) ?_ ?_
 ·have h:=rtext_any (bL (textsK textL l)) (by rw[bL_size];omega) V
  rw[bL_list,e1] at h
  exact h
 ·rw[bL_list,bL_list];exact hsub
 ·rw[bL_size];omega
 ·rw[bL_size];omega
end Go.Proofs.YtcfgbdhpcboikaaGreatDoor
