/-
  CleanUnwraps, over its callees' contracts: what is of no kind is as if it were not there.
  CleanUnwraps at every argument that holds at most 1048576 values and letters.
-/
import Derived.Test.YtcfgbdhpcboikaaGreatDoorBase
import Derived.Test.YtcfgbdhpcboikaaGreatDoorTEW
import Derived.Test.YtcfgbdhpcboikaaGreatDoorTxtB
import Derived.Laws.Bits128
import Derived.Test.YtcfgbdhpcboikaaGreatDoorSieveM
namespace Go.Proofs.YtcfgbdhpcboikaaGreatDoor
set_option maxHeartbeats 4000000
set_option maxRecDepth 100000
open Go.RowKit
theorem and7u (n:Int):bits .and .i64 n 7=n%8:=by
 have h127:(BitVec.ofInt 64 7).toNat=2^3-1:=by decide
 have key:(BitVec.ofInt 64 n &&& BitVec.ofInt 64 7).toNat=(n%((2^64:Nat):Int)).toNat%2^3:=by
  rw[BitVec.toNat_and,BitVec.toNat_ofInt,h127,Nat.and_two_pow_sub_one_eq_mod]
 show IntKind.i64.wrap ((BitVec.ofInt 64 n &&& BitVec.ofInt 64 7).toNat:Nat)=n%8
 rw[key,IntKind.wrap_i64]
 omega
theorem and3u (n:Int):bits .and .i64 n 3=n%4:=by
 have h127:(BitVec.ofInt 64 3).toNat=2^2-1:=by decide
 have key:(BitVec.ofInt 64 n &&& BitVec.ofInt 64 3).toNat=(n%((2^64:Nat):Int)).toNat%2^2:=by
  rw[BitVec.toNat_and,BitVec.toNat_ofInt,h127,Nat.and_two_pow_sub_one_eq_mod]
 show IntKind.i64.wrap ((BitVec.ofInt 64 n &&& BitVec.ofInt 64 3).toNat:Nat)=n%4
 rw[key,IntKind.wrap_i64]
 omega
def sSection:ByteArray:=⟨#[115,101,99,116,105,111,110]⟩
def sCenter:ByteArray:=⟨#[99,101,110,116,101,114]⟩
def unwNm (i:Nat):ByteArray:=if i%4=0 then sFontS else if i%4=1 then sSection else if i%4=2 then sXS else sCenter
theorem unw_kind (i:Nat):kindL (unwNm i).data.toList=0:=by
 unfold unwNm
 split
 ·decide +kernel
 ·split
  ·decide +kernel
  ·split
   ·decide +kernel
   ·decide +kernel
theorem unw_cells (w:World)(m:Nat)(h:m<4):(w.alloc (.cells #[.string sFontS,.string sSection,.string sXS,.string sCenter] 9)).cell? ⟨w.heap.size,m,none⟩=some (.string (unwNm m)):=by
 have hh:∀ j,(w.alloc (.cells #[.string sFontS,.string sSection,.string sXS,.string sCenter] 9)).cell? ⟨w.heap.size,j,none⟩=(#[.string sFontS,.string sSection,.string sXS,.string sCenter]:Array Value)[j]?:=fun j=>cell_of_row _ w.heap.size j _ 9 (0,0) (heap_alloc_new w _)
 rw[hh]
 match m,h with
 | 0,_=>rfl
 | 1,_=>rfl
 | 2,_=>rfl
 | 3,_=>rfl
theorem unw_mod (k:Nat):unwNm (k%4)=unwNm k:=by
 unfold unwNm
 rw[Nat.mod_mod]
theorem kids_oneU {w:World}{g:Nat}{n:Nd}{c0 c1 c2 c3 c4 c5:Value}(h:Six w g 0 c0 c1 c2 c3 c4 c5)(hn:NodeV w n (.agg #[c0,c1,c2,c3,c4,c5])):KidsV w (some ⟨g,0,none⟩) 0 [n]:=by
 unfold KidsV
 exact⟨⟨g,0,_,_,_,_,_,_,rfl,h,hn⟩,by unfold KidsV;trivial⟩
theorem twelveU (w:World)(c0 c1 c2 c3 c4 c5 d0 d1 d2 d3 d4 d5:Value):Six (w.alloc (.cells #[c0,c1,c2,c3,c4,c5,d0,d1,d2,d3,d4,d5] 45)) w.heap.size 0 c0 c1 c2 c3 c4 c5∧Six (w.alloc (.cells #[c0,c1,c2,c3,c4,c5,d0,d1,d2,d3,d4,d5] 45)) w.heap.size 6 d0 d1 d2 d3 d4 d5:=by
 have h:∀ j,(w.alloc (.cells #[c0,c1,c2,c3,c4,c5,d0,d1,d2,d3,d4,d5] 45)).cell? ⟨w.heap.size,j,none⟩=(#[c0,c1,c2,c3,c4,c5,d0,d1,d2,d3,d4,d5]:Array Value)[j]?:=fun j=>cell_of_row _ w.heap.size j _ 45 (0,0) (heap_alloc_new w _)
 exact⟨⟨h 0,h 1,h 2,h 3,h 4,h 5⟩,⟨h 6,h 7,h 8,h 9,h 10,h 11⟩⟩
theorem kids_twoU {w:World}{g:Nat}{n m:Nd}{c0 c1 c2 c3 c4 c5 d0 d1 d2 d3 d4 d5:Value}(h:Six w g 0 c0 c1 c2 c3 c4 c5)(hn:NodeV w n (.agg #[c0,c1,c2,c3,c4,c5]))(h':Six w g 6 d0 d1 d2 d3 d4 d5)(hm:NodeV w m (.agg #[d0,d1,d2,d3,d4,d5])):KidsV w (some ⟨g,0,none⟩) 0 [n,m]:=by
 unfold KidsV
 refine⟨⟨g,0,_,_,_,_,_,_,rfl,h,hn⟩,?_⟩
 unfold KidsV
 exact⟨⟨g,0,_,_,_,_,_,_,rfl,h',hm⟩,by unfold KidsV;trivial⟩
def mathN (l:List Nd):Nd:=.mk 1 2 sBS [] ⟨#[]⟩ l
def goneL (l:List Nd):List Nd:=[elN sScriptS l,mathN l]
theorem gone_none (A:AFam)(pn:ByteArray)(l:List Nd):filterN A pn [] (goneL l)=[] :=
 filter_gone A pn [] _ _ ⟨rfl,by show kindL sScriptS.data.toList=1;decide +kernel⟩ ⟨rfl,by show(2:Int)≠0;decide⟩
theorem wrap_len (f:Nat→ByteArray)(l:List Nd)(hl:l.length≤1000000000):∀ k,(wrapL f k l).length≤1000000000:=by
 intro k
 cases k with
 | zero=>exact hl
 | succ k=>show 1≤_;omega
theorem mathN_node {w:World}{a:Option Addr}{l:List Nd}{c:Nat}(hl:l.length≤1000000000)(h:KidsV w a 0 l):NodeV w (mathN l) (.agg #[.int .i64 1,.int .i64 2,.string sBS,.slice none 0 0,.string ⟨#[]⟩,.slice a l.length c]):=by
 unfold mathN NodeV
 exact⟨_,a,c,rfl,by omega,attrs_noneT _,h⟩
theorem cunw_walk (pn:ByteArray)(l:List Nd)(a:Option Addr)(c:Nat)(D:Int)(d:Nat)(w:World)(hl:l.length≤1000000000)(F:List Nd→List Nd)(ok:List Nd→Prop)
  (hd:d<8) (hD:bits .and .i64 D 7=(d:Int)) (HK:Hid (KidsV w a 0 l))
  (HHEAD:Hid (∀ W,Below w.heap.size w W→Calls Tryz.prog 47 #[] W (SomeBool true W)))
  (HFIL:Hid (∀ W ks a c,Below w.heap.size w W→ok ks→Hid (KidsV W a 0 ks)→Calls Tryz.prog 50 #[.string pn,.slice a ks.length c] W (FilRet W (F ks))))
  (HWRAP0:Hid (ok l)) (HGONE:Hid (F (goneL l)=[]∧ok (goneL l))) (HWRAP:Hid (∀ k,k<8→F (wrapL unwNm k l)=F l∧ok (wrapL unwNm k l)))
  (HSAME:Hid (∀ W a a' c c',Hid (KidsV W a 0 (F l))→Hid (KidsV W a' 0 (F l))→Calls Tryz.prog 52 #[.slice a (F l).length c,.slice a' (F l).length c'] W (SomeBool true W))) :
  Calls Tryz.prog 13 #[.string pn,.slice a l.length c,.int .i64 D] w (SomeBool true w):=by
 go_enter Tryz.func13,Tryz.ntmps13
 go_wp2_with fail
 refine(HHEAD.out w (Below.refl _ _)).mono ?_
 unfold SomeBool
 rintro e W1 ⟨rfl,B1⟩
 have HB1:=Lib.hid B1
 clear B1
 go_wp2_with fail
 obtain⟨W2,hW2⟩:∃ W2,W2=W1.alloc (.cells #[.string sFontS,.string sSection,.string sXS,.string sCenter] 9):=⟨_,rfl⟩
 have HW2:=Lib.hid hW2
 have HNM:=Lib.hid (fun m h=>unw_cells W1 m h)
 rw[← hW2] at HNM
 have HB2:=Lib.hid (HB1.out.trans (show Below w.heap.size W1 W2 by rw[hW2];exact(Below.refl _ W1).alloc HB1.out.size _))
 unfold sFontS sSection sXS sCenter at HW2
 rw[← HW2.out]
 clear hW2
 generalize W1.heap.size=bn at *
 go_loopw [9,10] (fun s i wx=>∃ (k:Nat) (a:Option Addr) (c:Nat),s=.slice a (wrapL unwNm k l).length c∧i=.int .i64 k∧Hid (k≤d∧KidsV wx a 0 (wrapL unwNm k l)∧Below W2.heap.size W2 wx)) (fun _ i _=>d-(intOf i).toNat)
 case atStart=>exact⟨0,a,c,rfl,rfl,Lib.hid ⟨Nat.zero_le _,HK.out.below HB2.out (Nat.le_refl _),Below.refl _ _⟩⟩
 case round =>
  obtain⟨k,a2,c2,rfl,rfl,hR⟩:=hrel
  have hk:=hR.out.1
  rcases Nat.lt_or_ge k d with hlt|hge
  ·have hm:bits .and .i64 (k:Int) 3=((k%4:Nat):Int):=by rw[and3u];omega
   have hm4:k%4<4:=Nat.mod_lt _ (by omega)
   have x:=HNM.out (k%4) hm4
   rw[unw_mod] at x
   have x0:wr.cell? ⟨bn,k%4,none⟩=some (.string (unwNm k)):=by
    rw[hR.out.2.2.cell (p:=⟨bn,k%4,none⟩) (World.block_lt_of_cell? _ _ x)]
    exact x
   clear x
   have HL:=Lib.hid (wrap_len unwNm l hl k)
   have HKK:=Lib.hid hR.out.2.1
   generalize k%4=m at *
   obtain⟨ks,hks⟩:∃ ks,ks=wrapL unwNm k l:=⟨_,rfl⟩
   have HKS:=Lib.hid (show wrapL unwNm (k+1) l=[elN (unwNm k) ks] by rw[hks];rfl)
   rw[← hks] at HL HKK
   rw[← hks]
   clear hks
   generalize unwNm k=nm at *
   go_wp2_with fail
   refine(e_any nm ks a2 c2 wr HL.out HKK).mono ?_
   rintro e W3 ⟨⟨v3,rfl,rfl,n3⟩,B3⟩
   have HN3:=Lib.hid n3
   have HB3:=Lib.hid (hR.out.2.2.trans (B3.mono hR.out.2.2.size))
   clear n3 B3
   go_wp2_with fail
   obtain⟨W4,hW4⟩:∃ W4,W4=W3.alloc (.cells #[.int .i64 1,.int .i64 0,.string nm,.slice none 0 0,.string ⟨#[]⟩,.slice a2 ks.length c2] 45):=⟨_,rfl⟩
   have hb4:Below W3.heap.size W3 W4:=by rw[hW4];exact(Below.refl _ _).alloc (Nat.le_refl _) _
   have hk4:KidsV W4 (some ⟨W3.heap.size,0,none⟩) 0 [elN nm ks]:=kids_oneU (by rw[hW4];exact six_alloc W3 _ _ _ _ _ _) (HN3.out.below hb4 (Nat.le_refl _))
   have HK4:=Lib.hid hk4
   have HB4:=Lib.hid (HB3.out.trans (hb4.mono HB3.out.size))
   rw[← hW4]
   clear hk4 hb4 hW4
   go_roundw
   case rel=>exact⟨k+1,_,_,by rw[HKS.out];rfl,by go_num,Lib.hid ⟨hlt,by rw[HKS.out];exact HK4.out,HB4.out⟩⟩
   case measure=>simp[intOf];omega
  ·obtain rfl:k=d:=by omega
   have HKK:=Lib.hid hR.out.2.1
   have HBW:=Lib.hid (HB2.out.trans (hR.out.2.2.mono HB2.out.size))
   have HW:=Lib.hid (HWRAP.out k hd)
   have HKL:=Lib.hid (HK.out.below HBW.out (Nat.le_refl _))
   clear hR hge hk HWRAP HNM HB2 HB1
   obtain⟨ks,hks⟩:∃ ks,ks=wrapL unwNm k l:=⟨_,rfl⟩
   rw[← hks] at HKK HW
   rw[← hks]
   clear hks
   go_wp2_with fail
   refine(e_any ⟨#[115,99,114,105,112,116]⟩ l a c wr hl HKL).mono ?_
   rintro e W3 ⟨⟨v3,rfl,rfl,n3⟩,B3⟩
   have HN3:=Lib.hid n3
   have HC3:=Lib.hid B3
   clear n3 B3
   go_wp2_with fail
   obtain⟨W4,hW4⟩:∃ W4,W4=W3.alloc (.cells #[.int .i64 1,.int .i64 0,.string ⟨#[115,99,114,105,112,116]⟩,.slice none 0 0,.string ⟨#[]⟩,.slice a l.length c,.int .i64 1,.int .i64 2,.string ⟨#[98]⟩,.slice none 0 0,.string ⟨#[]⟩,.slice a l.length c] 45):=⟨_,rfl⟩
   have hb4:Below W3.heap.size W3 W4:=by rw[hW4];exact(Below.refl _ _).alloc (Nat.le_refl _) _
   have hc4:Below wr.heap.size wr W4:=HC3.out.trans (hb4.mono HC3.out.size)
   have hk4:KidsV W4 (some ⟨W3.heap.size,0,none⟩) 0 (goneL l):=by
    obtain⟨s1,s2⟩:=twelveU W3 (.int .i64 1) (.int .i64 0) (.string ⟨#[115,99,114,105,112,116]⟩) (.slice none 0 0) (.string ⟨#[]⟩) (.slice a l.length c) (.int .i64 1) (.int .i64 2) (.string ⟨#[98]⟩) (.slice none 0 0) (.string ⟨#[]⟩) (.slice a l.length c)
    rw[← hW4] at s1 s2
    exact kids_twoU s1 (HN3.out.below hb4 (Nat.le_refl _)) s2 (mathN_node hl (HKL.out.below hc4 (Nat.le_refl _)))
   have HK4:=Lib.hid hk4
   have HC4:=Lib.hid hc4
   rw[← hW4]
   clear hk4 hb4 hW4 hc4 HC3 HN3
   have hF:=HFIL.out W4 (goneL l) (some ⟨W3.heap.size,0,none⟩) 2 (HBW.out.trans (HC4.out.mono HBW.out.size)) HGONE.out.2 HK4
   rw[HGONE.out.1] at hF
   refine hF.mono ?_
   clear hF
   rintro e W5 ⟨kg,kgc,rfl,_,_,B5⟩
   rw[List.length_nil]
   have HC5:=Lib.hid (HC4.out.trans (B5.mono HC4.out.size))
   clear B5 HK4 HC4
   go_wp2_with fail
   have hF:=HFIL.out W5 ks a2 c2 (HBW.out.trans (HC5.out.mono HBW.out.size)) HW.out.2 (Lib.hid (HKK.out.below HC5.out (Nat.le_refl _)))
   rw[HW.out.1] at hF
   refine hF.mono ?_
   clear hF
   rintro e W6 ⟨k6,c6,rfl,_,hk6,B6⟩
   have HK6:=Lib.hid hk6.kids
   have HC6:=Lib.hid (HC5.out.trans (B6.mono HC5.out.size))
   clear hk6 B6
   go_wp2_with fail
   refine(HFIL.out W6 l a c (HBW.out.trans (HC6.out.mono HBW.out.size)) (HWRAP0.out) (Lib.hid (HKL.out.below HC6.out (Nat.le_refl _)))).mono ?_
   rintro e W7 ⟨k7,c7,rfl,_,hk7,B7⟩
   have HK7:=Lib.hid hk7.kids
   have HK67:=Lib.hid (HK6.out.below B7 (Nat.le_refl _))
   have HC7:=Lib.hid (HC6.out.trans (B7.mono HC6.out.size))
   clear hk7 B7
   generalize (F l).length=rl at *
   go_wp2_with fail
   refine(HSAME.out W7 k6 k7 c6 c7 HK67 HK7).mono ?_
   unfold SomeBool
   rintro e W8 ⟨rfl,B8⟩
   have HC8:=Lib.hid (HC7.out.trans (B8.mono HC7.out.size))
   clear B8
   go_wp2
   go_ret
   exact⟨rfl,HBW.out.trans (HC8.out.mono HBW.out.size)⟩
open Go.RowKit
theorem unw_size (k:Nat):(unwNm k).size≤7:=by
 unfold unwNm
 split
 ·decide
 ·split
  ·decide
  ·split
   ·decide
   ·decide
theorem wrap_sm (l:List Nd)(h:SmK l):∀ k,SmK (wrapL unwNm k l)∧tkAll (wrapL unwNm k l)≤tkAll l+k:=by
 intro k
 induction k with
 | zero=>exact⟨h,Nat.le_refl _⟩
 | succ k ih =>
  have hs:=unw_size k
  refine⟨(smK_cons _ _).2 ⟨elN_sm (by omega) ih.1,smK_nil⟩,?_⟩
  show tkAll [elN (unwNm k) (wrapL unwNm k l)]≤_
  rw[tkAll_one,elN_tk]
  omega
theorem gone_sm (l:List Nd)(h:SmK l):SmK (goneL l)∧tkAll (goneL l)≤2*tkAll l+2:=by
 have e1:tkAll (goneL l)=(elN sScriptS l).tk+(mathN l).tk:=by
  show tkAll [elN sScriptS l,mathN l]=_
  rw[tkAll_cons,tkAll_one]
 have e2:(mathN l).tk=1+(⟨#[]⟩:ByteArray).size+tkAll l:=tk_eq _
 have e4:(⟨#[]⟩:ByteArray).size=0:=by decide
 refine⟨(smK_cons _ _).2 ⟨elN_sm (by decide) h,(smK_cons _ _).2 ⟨(smN_iff _).2 ⟨?_,?_,?_,fun x hx=>?_,h⟩,smK_nil⟩⟩,?_⟩
 ·show sBS.size≤_;decide
 ·show(⟨#[]⟩:ByteArray).size≤_;decide
 ·simp[mathN,Nd.attrs]
 ·simp[mathN,Nd.attrs] at hx
 ·rw[e1,elN_tk,e2];omega
theorem cunw_all (pn:ByteArray)(l:List Nd)(a:Option Addr)(c:Nat)(D:Int)(hb:bkAll l≤1048576)(W:World)(T:Tabs W)(hK:KidsV W a 0 l) :
  Calls Tryz.prog 13 #[.string pn,.slice a l.length c,.int .i64 D] W (SomeBool true W):=by
 obtain⟨VV,A,hV,hA,hO,_⟩:=attrs_fam W T
 have hs:=bk_sm.2 l hb
 have hlen:=bkAll_len l
 have htk:=tk_bk.2 l
 have hR:=filter_sm hA hV pn [] hs (by omega)
 have hRl:=filter_len A pn [] (l:=l) (by omega)
 obtain⟨d,hd,hD⟩:∃ d:Nat,d<8∧bits .and .i64 D 7=(d:Int):=⟨(D%8).toNat,by omega,by rw[and7u];omega⟩
 have hg:=gone_sm l hs
 exact cunw_walk pn l a c D d W (by omega) (filterN A pn []) (fun ks=>SmK ks∧tkAll ks≤9000000) hd hD (Lib.hid hK)
  (Lib.hid fun V h=>shown19 A (Lib.hid hO) (aok_nil hA) V (Lib.hid (T.below h (Nat.le_refl _))))
  (Lib.hid fun V ks a c h hok hk=>cfilter_gen A (Lib.hid hO) ks pn V a c (Lib.hid (T.below h (Nat.le_refl _))) (Lib.hid hok.1) hok.2 hk)
  (Lib.hid ⟨hs,by omega⟩) (Lib.hid ⟨gone_none A pn l,hg.1,by omega⟩)
  (Lib.hid fun k hk=>⟨filter_wrap A unwNm unw_kind pn [] l k,(wrap_sm l hs k).1,by have:=(wrap_sm l hs k).2;omega⟩)
  (Lib.hid fun V a a' c c' h h'=>same_any _ a a' c c' V (by omega) (Lib.hid hR) h h')
end Go.Proofs.YtcfgbdhpcboikaaGreatDoor
