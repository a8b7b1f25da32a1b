/-
  The law's shown: true.
  PolicyBroken at every argument that holds at most 1048576 values and letters.
-/
import Derived.Test.YtcfgbdhpcboikaaGreatDoorPageW
import Derived.Test.YtcfgbdhpcboikaaGreatDoorMayW
import Derived.Test.YtcfgbdhpcboikaaGreatDoorBrokenW
import Derived.Test.YtcfgbdhpcboikaaGreatDoorBrkN
import Derived.Test.YtcfgbdhpcboikaaGreatDoorHeldB
import Derived.Laws.Bits128
namespace Go.Proofs.YtcfgbdhpcboikaaGreatDoor
set_option maxHeartbeats 4000000
set_option maxRecDepth 100000
open Go.RowKit
def sChar:ByteArray:=⟨#[99,104,97,114,115,101,116]⟩
def sUtf:ByteArray:=⟨#[117,116,102,45,56]⟩
def pageNd (X:Nd):Nd:=.mk 1 0 sHtml [] sMt [.mk 1 0 sHead [] sMt [.mk 1 0 sMeta [(sChar,sUtf)] sMt []],.mk 1 0 sBody [] sMt [X]]
def leafNd:Nd:=.mk 1 0 sB [] sMt []
def bbNd:Nd:=.mk 1 0 sB [] sMt [leafNd]
theorem attrs_none (w:World):AttrsV w (.slice none 0 0) []:=⟨none,0,rfl,fun j h=>absurd h (by simp)⟩
theorem leaf_node (w:World):NodeV w leafNd (.agg #[.int .i64 1,.int .i64 0,.string ⟨#[98]⟩,.slice none 0 0,.string ⟨#[]⟩,.slice none 0 0]):=by
 unfold leafNd NodeV
 exact⟨_,none,0,rfl,by simp,attrs_none w,by unfold KidsV;trivial⟩
theorem bb_node (w:World)(g o c:Nat)(h:Six w g o (.int .i64 1) (.int .i64 0) (.string ⟨#[98]⟩) (.slice none 0 0) (.string ⟨#[]⟩) (.slice none 0 0)):NodeV w bbNd (.agg #[.int .i64 1,.int .i64 0,.string ⟨#[98]⟩,.slice none 0 0,.string ⟨#[]⟩,.slice (some ⟨g,o,none⟩) 1 c]):=by
 unfold bbNd NodeV
 refine⟨_,some ⟨g,o,none⟩,c,rfl,by simp,attrs_none w,?_⟩
 unfold KidsV
 refine⟨⟨g,o,_,_,_,_,_,_,rfl,h,leaf_node w⟩,?_⟩
 unfold KidsV
 trivial
theorem page_node {w:World}{gh oh ch gm om cm ga oa ca gb ob cb:Nat}{a':Option Addr}{n' c':Nat}{X:Nd}(h:PageAt w gh oh gm om cm ga oa ca gb ob cb a' n' c')
  (hX:NodeV w X (.agg #[.int .i64 1,.int .i64 0,.string ⟨#[98]⟩,.slice none 0 0,.string ⟨#[]⟩,.slice a' n' c'])):NodeV w (pageNd X) (elV sHtml (some ⟨gh,oh,none⟩) 2 ch):=by
 unfold pageNd NodeV
 refine⟨_,some ⟨gh,oh,none⟩,ch,rfl,by simp,attrs_none w,?_⟩
 unfold KidsV
 refine⟨⟨gh,oh,_,_,_,_,_,_,rfl,h.hd,?_⟩,?_⟩
 ·unfold NodeV
  refine⟨_,some ⟨gm,om,none⟩,cm,rfl,by simp,attrs_none w,?_⟩
  unfold KidsV
  refine⟨⟨gm,om,_,_,_,_,_,_,rfl,h.mt,?_⟩,by unfold KidsV;trivial⟩
  unfold NodeV
  refine⟨_,none,0,rfl,by simp,⟨some ⟨ga,oa,none⟩,ca,rfl,?_⟩,by unfold KidsV;trivial⟩
  intro j hj
  have:j=0:=by simp at hj;omega
  subst this
  exact⟨ga,oa,rfl,h.at'.1,h.at'.2⟩
 ·unfold KidsV
  refine⟨⟨gh,oh,_,_,_,_,_,_,rfl,h.bd,?_⟩,by unfold KidsV;trivial⟩
  unfold NodeV
  refine⟨_,some ⟨gb,ob,none⟩,cb,rfl,by simp,attrs_none w,?_⟩
  unfold KidsV
  exact⟨⟨gb,ob,_,_,_,_,_,_,rfl,h.kid,hX⟩,by unfold KidsV;trivial⟩
theorem few_leaf:fewL 32 (pageNd leafNd) 1000=995:=by decide +kernel
theorem few_bb:fewL 32 (pageNd bbNd) 1000=994:=by decide +kernel
theorem kind_li:KindAt ⟨#[108,105]⟩ 8:=fun w=>kind_any ⟨#[108,105]⟩ w
theorem kind_script:KindAt ⟨#[115,99,114,105,112,116]⟩ 1:=fun w=>kind_any ⟨#[115,99,114,105,112,116]⟩ w
theorem three_allocs (w:World)(c0 c1 c2 c3 c4 c5 d0 d1 d2 d3 d4 d5 e0 e1 e2 e3 e4 e5:Value) :
  Six (((w.alloc (.cells #[c0,c1,c2,c3,c4,c5] 45)).alloc (.cells #[d0,d1,d2,d3,d4,d5] 45)).alloc (.cells #[e0,e1,e2,e3,e4,e5] 45)) w.heap.size 0 c0 c1 c2 c3 c4 c5 ∧
  Six (((w.alloc (.cells #[c0,c1,c2,c3,c4,c5] 45)).alloc (.cells #[d0,d1,d2,d3,d4,d5] 45)).alloc (.cells #[e0,e1,e2,e3,e4,e5] 45)) (w.heap.size+1) 0 d0 d1 d2 d3 d4 d5 ∧
  Six (((w.alloc (.cells #[c0,c1,c2,c3,c4,c5] 45)).alloc (.cells #[d0,d1,d2,d3,d4,d5] 45)).alloc (.cells #[e0,e1,e2,e3,e4,e5] 45)) (w.heap.size+1+1) 0 e0 e1 e2 e3 e4 e5 ∧
  Below w.heap.size w (((w.alloc (.cells #[c0,c1,c2,c3,c4,c5] 45)).alloc (.cells #[d0,d1,d2,d3,d4,d5] 45)).alloc (.cells #[e0,e1,e2,e3,e4,e5] 45)):=by
 have z1:(w.alloc (.cells #[c0,c1,c2,c3,c4,c5] 45)).heap.size=w.heap.size+1:=by simp
 have z2:((w.alloc (.cells #[c0,c1,c2,c3,c4,c5] 45)).alloc (.cells #[d0,d1,d2,d3,d4,d5] 45)).heap.size=w.heap.size+1+1:=by simp
 refine⟨?_,?_,?_,?_⟩
 ·exact(six_alloc w c0 c1 c2 c3 c4 c5).below (((Below.refl _ _).alloc (Nat.le_refl _) _).alloc (by simp) _) (Nat.le_refl _)
 ·have h:=(six_alloc (w.alloc (.cells #[c0,c1,c2,c3,c4,c5] 45)) d0 d1 d2 d3 d4 d5).below ((Below.refl _ _).alloc (Nat.le_refl _) (.cells #[e0,e1,e2,e3,e4,e5] 45)) (Nat.le_refl _)
  rw[z1] at h
  exact h
 ·have h:=six_alloc ((w.alloc (.cells #[c0,c1,c2,c3,c4,c5] 45)).alloc (.cells #[d0,d1,d2,d3,d4,d5] 45)) e0 e1 e2 e3 e4 e5
  rw[z2] at h
  exact h
 ·exact(((Below.refl _ w).alloc (Nat.le_refl _) _).alloc (by omega) _).alloc (by omega) _
theorem shown18 (w:World)(T:Tabs w):Calls Tryz.prog 23 #[] w (SomeBool true w):=by
 have HT:=Lib.hid T
 clear T
 have V1:=Lib.hid value_v1
 have V2:=Lib.hid value_v2
 have L2:=Lib.hid links_v2
 have S2:=Lib.hid schemes_v2
 unfold v1 sA sHref at V1
 unfold v2 sA sHref at V2
 unfold v2 at L2
 go_enter Tryz.func23,Tryz.ntmps23
 go_wp2_with fail
 refine(V1.out w HT.out).mono ?_
 rintro e W1 ⟨rfl,B1⟩
 have HB1:=Lib.hid B1
 have HT1:=Lib.hid (HT.out.below HB1.out (Nat.le_refl _))
 clear B1
 go_wp2_with fail
 refine(V2.out W1 HT1.out).mono ?_
 rintro e W2 ⟨rfl,B2⟩
 have HB2:=Lib.hid (HB1.out.trans (B2.mono HB1.out.size))
 have HT2:=Lib.hid (HT.out.below HB2.out (Nat.le_refl _))
 clear B2
 go_wp2_with fail
 refine(L2.out W2 HT2.out).mono ?_
 rintro e W3 ⟨rfl,B3⟩
 have HB3:=Lib.hid (HB2.out.trans (B3.mono HB2.out.size))
 have HT3:=Lib.hid (HT.out.below HB3.out (Nat.le_refl _))
 clear B3
 go_wp2_with fail
 refine(S2.out W3 HT3.out).mono ?_
 rintro e W4 ⟨rfl,B4⟩
 have HB4:=Lib.hid (HB3.out.trans (B4.mono HB3.out.size))
 clear B4
 go_wp2_with fail
 obtain⟨s1,s2,s3,hb⟩:=three_allocs W4 (.int .i64 1) (.int .i64 0) (.string ⟨#[98]⟩) (.slice none 0 0) (.string ⟨#[]⟩) (.slice none 0 0) (.int .i64 1) (.int .i64 0) (.string ⟨#[98]⟩) (.slice none 0 0) (.string ⟨#[]⟩) (.slice none 0 0) (.int .i64 1) (.int .i64 0) (.string ⟨#[98]⟩) (.slice none 0 0) (.string ⟨#[]⟩) (.slice (some ⟨W4.heap.size+1,0,none⟩) 1 1)
 obtain⟨W5,hW5⟩:∃ W5,W5=((W4.alloc (.cells #[.int .i64 1,.int .i64 0,.string ⟨#[98]⟩,.slice none 0 0,.string ⟨#[]⟩,.slice none 0 0] 45)).alloc (.cells #[.int .i64 1,.int .i64 0,.string ⟨#[98]⟩,.slice none 0 0,.string ⟨#[]⟩,.slice none 0 0] 45)).alloc (.cells #[.int .i64 1,.int .i64 0,.string ⟨#[98]⟩,.slice none 0 0,.string ⟨#[]⟩,.slice (some ⟨W4.heap.size+1,0,none⟩) 1 1] 45):=⟨_,rfl⟩
 rw[← hW5] at s1 s2 s3 hb ⊢
 clear hW5
 have HB5:=Lib.hid (HB4.out.trans (hb.mono HB4.out.size))
 have S1:=Lib.hid s1
 have S2':=Lib.hid s2
 have S3:=Lib.hid s3
 clear s1 s2 s3 hb
 refine(kind_li W5).mono ?_
 rintro e w' ⟨rfl,rfl⟩
 go_wp2_with fail
 refine(kind_script W5).mono ?_
 rintro e w' ⟨rfl,rfl⟩
 go_wp2_with fail
 refine(may_any ⟨#[117,108]⟩ ⟨#[108,105]⟩ W5).mono ?_
 have hm:mayL (⟨#[117,108]⟩:ByteArray).data.toList (⟨#[108,105]⟩:ByteArray).data.toList=true:=by decide +kernel
 rw[hm]
 rintro e w' ⟨rfl,rfl⟩
 clear hm
 go_wp2_with fail
 refine(may_any ⟨#[98]⟩ ⟨#[98]⟩ W5).mono ?_
 have hm:mayL (⟨#[98]⟩:ByteArray).data.toList (⟨#[98]⟩:ByteArray).data.toList=false:=by decide +kernel
 rw[hm]
 rintro e w' ⟨rfl,rfl⟩
 clear hm
 have x0:W5.cell? ⟨W4.heap.size,0,none⟩=some (.int .i64 1):=S1.out.x0
 have x1:W5.cell? ⟨W4.heap.size,1,none⟩=some (.int .i64 0):=S1.out.x1
 have x2:W5.cell? ⟨W4.heap.size,2,none⟩=some (.string ⟨#[98]⟩):=S1.out.x2
 have x3:W5.cell? ⟨W4.heap.size,3,none⟩=some (.slice none 0 0):=S1.out.x3
 have x4:W5.cell? ⟨W4.heap.size,4,none⟩=some (.string ⟨#[]⟩):=S1.out.x4
 have x5:W5.cell? ⟨W4.heap.size,5,none⟩=some (.slice none 0 0):=S1.out.x5
 go_wp2_with fail
 clear x0 x1 x2 x3 x4 x5
 refine(page_one W5.heap.size 0 1 none 0 0 _ (six_alloc W5 (.int .i64 1) (.int .i64 0) (.string ⟨#[98]⟩) (.slice none 0 0) (.string ⟨#[]⟩) (.slice none 0 0))).mono ?_
 rintro e W6 ⟨gh,gm,ga,rfl,P6,B6⟩
 have hb6:Below W5.heap.size W5 W6:=((Below.refl _ W5).alloc (Nat.le_refl _) _).trans (B6.mono (by simp))
 have HB6:=Lib.hid (HB5.out.trans (hb6.mono HB5.out.size))
 have S26:=Lib.hid (S2'.out.below hb6 (Nat.le_refl _))
 have S36:=Lib.hid (S3.out.below hb6 (Nat.le_refl _))
 have HP6:=Lib.hid P6
 clear hb6 B6 P6
 go_wp2_with fail
 refine(holds_page gh 0 2 gm 0 1 ga 0 1 W5.heap.size 0 1 none 0 0 true 995 (pageNd leafNd) W6 HP6.out (page_node HP6.out (leaf_node W6)) few_leaf (by omega) (fun W _=>holds_leaf W)).mono ?_
 unfold SomeBool
 rintro e W7 ⟨rfl,B7⟩
 have HB7:=Lib.hid (HB6.out.trans (B7.mono HB6.out.size))
 have S27:=Lib.hid (S26.out.below B7 (Nat.le_refl _))
 have s37:=S36.out.below B7 (Nat.le_refl _)
 have x0:W7.cell? ⟨W4.heap.size+1+1,0,none⟩=some (.int .i64 1):=s37.x0
 have x1:W7.cell? ⟨W4.heap.size+1+1,1,none⟩=some (.int .i64 0):=s37.x1
 have x2:W7.cell? ⟨W4.heap.size+1+1,2,none⟩=some (.string ⟨#[98]⟩):=s37.x2
 have x3:W7.cell? ⟨W4.heap.size+1+1,3,none⟩=some (.slice none 0 0):=s37.x3
 have x4:W7.cell? ⟨W4.heap.size+1+1,4,none⟩=some (.string ⟨#[]⟩):=s37.x4
 have x5:W7.cell? ⟨W4.heap.size+1+1,5,none⟩=some (.slice (some ⟨W4.heap.size+1,0,none⟩) 1 1):=s37.x5
 clear B7 s37
 go_wp2_with fail
 clear x0 x1 x2 x3 x4 x5
 refine(page_one W7.heap.size 0 1 (some ⟨W4.heap.size+1,0,none⟩) 1 1 _ (six_alloc W7 (.int .i64 1) (.int .i64 0) (.string ⟨#[98]⟩) (.slice none 0 0) (.string ⟨#[]⟩) (.slice (some ⟨W4.heap.size+1,0,none⟩) 1 1))).mono ?_
 rintro e W8 ⟨gh2,gm2,ga2,rfl,P8,B8⟩
 have hb8:Below W7.heap.size W7 W8:=((Below.refl _ W7).alloc (Nat.le_refl _) _).trans (B8.mono (by simp))
 have HB8:=Lib.hid (HB7.out.trans (hb8.mono HB7.out.size))
 have S28:=Lib.hid (S27.out.below hb8 (Nat.le_refl _))
 have HP8:=Lib.hid P8
 clear hb8 B8 P8
 go_wp2_with fail
 refine(holds_page gh2 0 2 gm2 0 1 ga2 0 1 W7.heap.size 0 1 (some ⟨W4.heap.size+1,0,none⟩) 1 1 false 994 (pageNd bbNd) W8 HP8.out (page_node HP8.out (bb_node W8 _ _ _ S28.out)) few_bb (by omega) (fun W hW=>holds_bad (W4.heap.size+1) 0 1 W (S28.out.below hW (Nat.le_refl _)))).mono ?_
 unfold SomeBool
 rintro e W9 ⟨rfl,B9⟩
 have HB9:=Lib.hid (HB8.out.trans (B9.mono HB8.out.size))
 clear B9
 go_wp2
 go_ret
 exact⟨rfl,HB9.out⟩
open Go.RowKit
theorem and7 (n:Int):bits .and .i64 n 7=n%8:=by
 have h127:(BitVec.ofInt 64 7).toNat=2^3-1:=by decide
 have key:(BitVec.ofInt 64 n &&& BitVec.ofInt 64 7).toNat=(n%((2^64:Nat):Int)).toNat%2^3:=by
  rw[BitVec.toNat_and,BitVec.toNat_ofInt,h127,Nat.and_two_pow_sub_one_eq_mod]
 show IntKind.i64.wrap ((BitVec.ofInt 64 n &&& BitVec.ofInt 64 7).toNat:Nat)=n%8
 rw[key,IntKind.wrap_i64]
 omega
theorem and15 (n:Int):bits .and .i64 n 15=n%16:=by
 have h127:(BitVec.ofInt 64 15).toNat=2^4-1:=by decide
 have key:(BitVec.ofInt 64 n &&& BitVec.ofInt 64 15).toNat=(n%((2^64:Nat):Int)).toNat%2^4:=by
  rw[BitVec.toNat_and,BitVec.toNat_ofInt,h127,Nat.and_two_pow_sub_one_eq_mod]
 show IntKind.i64.wrap ((BitVec.ofInt 64 n &&& BitVec.ofInt 64 15).toNat:Nat)=n%16
 rw[key,IntKind.wrap_i64]
 omega
theorem szAll_append:∀ a b:List Nd,szAll (a++b)=szAll a+szAll b:=by
 intro a
 induction a with
 | nil =>
  intro b
  have h:szAll []=0:=by unfold szAll;rfl
  rw[List.nil_append,h,Nat.zero_add]
 | cons x a ih =>
  intro b
  have h:∀ l,szAll (x :: l)=x.sz+szAll l:=fun l=>by conv=>lhs;unfold szAll
  rw[List.cons_append,h,h,ih]
  omega
theorem szAll_one (x:Nd):szAll [x]=x.sz:=by
 have h:szAll []=0:=by unfold szAll;rfl
 have h1:szAll [x]=x.sz+szAll []:=by conv=>lhs;unfold szAll
 omega
theorem smK_append:∀ a b:List Nd,SmK (a++b)↔SmK a∧SmK b:=by
 intro a
 induction a with
 | nil=>intro b;rw[List.nil_append];exact⟨fun h=>⟨smK_nil,h⟩,fun h=>h.2⟩
 | cons x a ih=>intro b;rw[List.cons_append,smK_cons,smK_cons,ih];exact and_assoc.symm
theorem broken_size (bad:Nd)(hb:SmN bad):∀ (d:Nat) (n:Nd),SmN n→(brokenN bad d n).sz≤n.sz+bad.sz∧SmN (brokenN bad d n):=by
 have put:∀ n:Nd,SmN n→(n.put (n.kids++[bad])).sz≤n.sz+bad.sz∧SmN (n.put (n.kids++[bad])):=by
  intro n h
  have h1:=(smN_iff n).1 h
  refine⟨?_,(smN_iff _).2 ⟨h1.1,h1.2.1,h1.2.2.1,h1.2.2.2.1,(smK_append _ _).2 ⟨h1.2.2.2.2,(smK_cons _ _).2 ⟨hb,smK_nil⟩⟩⟩⟩
  rw[sz_kids,put_kids,szAll_append,szAll_one,sz_kids n]
  omega
 intro d
 induction d with
 | zero=>exact put
 | succ d ih =>
  intro n h
  unfold brokenN
  split
  ·exact put n h
  ·rename_i hk
   have h1:=(smN_iff n).1 h
   have hsp:=List.dropLast_concat_getLast hk
   have hs:SmK n.kids.dropLast∧SmN (n.kids.getLast hk):=by
    have h2:=h1.2.2.2.2
    rw[← hsp,smK_append,smK_cons] at h2
    exact⟨h2.1,h2.2.1⟩
   have hz:szAll n.kids=szAll n.kids.dropLast+(n.kids.getLast hk).sz:=by
    conv=>lhs;rw[← hsp]
    rw[szAll_append,szAll_one]
   obtain⟨i1,i2⟩:=ih (n.kids.getLast hk) hs.2
   refine⟨?_,(smN_iff _).2 ⟨h1.1,h1.2.1,h1.2.2.1,h1.2.2.2.1,(smK_append _ _).2 ⟨hs.1,(smK_cons _ _).2 ⟨i2,smK_nil⟩⟩⟩⟩
   rw[sz_kids,put_kids,szAll_append,szAll_one,sz_kids n,hz]
   omega
theorem bad_small:∀ j<8,(badNd j).bk≤1000:=by decide +kernel
theorem head_small:headNd.bk≤1000:=by decide +kernel
theorem sm_mk (nm:ByteArray)(at':List AT)(ks:List Nd)(h:nm.size≤1048576)(h1:at'.length≤1048576)(h2:∀ x∈at',x.1.size≤1048576∧x.2.size≤1048576)(hk:SmK ks):SmN (.mk 1 0 nm at' ⟨#[]⟩ ks) :=
 (smN_iff _).2 ⟨h,by show(⟨#[]⟩:ByteArray).size≤1048576;decide,h1,h2,hk⟩
theorem two_ok (x y:Nd)(hx:SmN x)(hy:SmN y)(hz:x.sz+y.sz≤900000):(htmlNd [x,y]).sz≤1000000∧SmN (htmlNd [x,y]):=by
 refine⟨?_,sm_mk _ _ _ (by decide) (by simp) (fun _ h=>by simp at h) ((smK_cons _ _).2 ⟨hx,(smK_cons _ _).2 ⟨hy,smK_nil⟩⟩)⟩
 rw[sz_kids]
 show 1+szAll ([x]++[y])≤_
 rw[szAll_append,szAll_one,szAll_one]
 omega
theorem three_ok (x y z:Nd)(hx:SmN x)(hy:SmN y)(hzz:SmN z)(hz:x.sz+y.sz+z.sz≤900000):(htmlNd [x,y,z]).sz≤1000000∧SmN (htmlNd [x,y,z]):=by
 refine⟨?_,sm_mk _ _ _ (by decide) (by simp) (fun _ h=>by simp at h) ((smK_cons _ _).2 ⟨hx,(smK_cons _ _).2 ⟨hy,(smK_cons _ _).2 ⟨hzz,smK_nil⟩⟩⟩)⟩
 rw[sz_kids]
 show 1+szAll ([x]++([y]++[z]))≤_
 rw[szAll_append,szAll_append,szAll_one,szAll_one,szAll_one]
 omega
theorem vfam (w0:World)(T0:Tabs w0):∃ VV:VFam,VFok VV:=by
 have h:∀ x:ByteArray × ByteArray × ByteArray,∃ o:Option ByteArray,x.2.2.size≤1048576→ValueR x.1 x.2.1 x.2.2 o:=by
  intro x
  by_cases hx:x.2.2.size≤1048576
  ·obtain⟨o,ho⟩:=value_all w0 T0 x.1 x.2.1 x.2.2 hx
   exact⟨o,fun _=>ho⟩
  ·exact⟨none,fun hy=>absurd hy hx⟩
 obtain⟨f,hf⟩:=Classical.axiomOfChoice h
 exact⟨fun e n v=>f (e,n,v),fun e n v _ _ hv=>hf (e,n,v) hv⟩
theorem broken_all (ks:List Nd)(a:Option Addr)(c:Nat)(D J:Int)(hb:bkAll ks≤1048576)(W:World)(T:Tabs W)(hK:KidsV W a 0 ks) :
  Calls Tryz.prog 9 #[.slice a ks.length c,.int .i64 D,.int .i64 J] W (SomeBool true W):=by
 obtain⟨VV,hV⟩:=vfam W T
 obtain⟨j,hj,hJ⟩:∃ j:Nat,j<8∧bits .and .i64 J 7=(j:Int):=⟨(J%8).toNat,by omega,by rw[and7];omega⟩
 obtain⟨d,hd,hD⟩:∃ d:Nat,d<16∧bits .and .i64 D 15=(d:Int):=⟨(D%16).toNat,by omega,by rw[and15];omega⟩
 have hz:szAll ks≤524288:=by have:=bk_sz.2 ks;omega
 have hsk:=bk_sm.2 ks hb
 have hbad:=bad_all VV hV j hj
 have hbs:=bad_small j hj
 have hbz:(badNd j).sz≤500:=by have:=bk_sz.1 (badNd j);omega
 have hbm:=bk_sm.1 (badNd j) (by omega)
 have hhm:=bk_sm.1 headNd (by have:=head_small;omega)
 have hhz:headNd.sz≤500:=by have:=bk_sz.1 headNd;have:=head_small;omega
 have hym:SmN (bodyNd ks):=sm_mk _ _ _ (by decide) (by simp) (fun _ h=>by simp at h) hsk
 have hyz:(bodyNd ks).sz=1+szAll ks:=sz_kids _
 have htm:SmN (tBody ⟨#[116,105,116,108,101]⟩ ⟨#[120]⟩ ks):=sm_mk _ _ _ (by decide) (by simp) (fun x h=>by rw[List.mem_singleton.1 h];exact⟨by decide,by decide⟩) hsk
 have htz:(tBody ⟨#[116,105,116,108,101]⟩ ⟨#[120]⟩ ks).sz=1+szAll ks:=sz_kids _
 obtain⟨hrz,hrm⟩:=broken_size (badNd j) hbm d (bodyNd ks) hym
 have hok0:=two_ok headNd (bodyNd ks) hhm hym (by omega)
 have hlen:=bkAll_len ks
 exact broken_walk ks a c D J d j (fun n=>@decide (pageHolds VV n) (Classical.propDecidable _)) W (by omega) hj (by omega) hJ hD (by omega) (Lib.hid T) (Lib.hid hK) (Lib.hid (shown18 W T))
  (fun n=>n.sz≤1000000∧SmN n) (Lib.hid hok0) (Lib.hid (two_ok _ _ hhm hrm (by omega))) (Lib.hid (two_ok _ _ hhm htm (by omega))) (Lib.hid (three_ok _ _ _ hhm hym hbm (by omega)))
  (Lib.hid (@decide_eq_false _ (Classical.propDecidable _) (broken_page hbad _ _ _))) (Lib.hid (@decide_eq_false _ (Classical.propDecidable _) (titled_page _ _ _ _))) (Lib.hid (@decide_eq_false _ (Classical.propDecidable _) (three_page _ _ _)))
  (Lib.hid (fun v v' W' h h'=>same_node (pageOf ks).sz (pageOf ks) (Nat.le_refl _) v v' W' (Lib.hid hok0.2) (Lib.hid h) (Lib.hid h')))
  (Lib.hid (fun n v W' hok T' hn=>holds_all VV (Lib.hid hV) n hok.1 v _ W' (Lib.hid T') (Lib.hid hok.2) (Lib.hid hn) (Lib.hid ⟨fun h=>@of_decide_eq_true _ (Classical.propDecidable _) h,fun h=>@decide_eq_true _ (Classical.propDecidable _) h⟩)))
end Go.Proofs.YtcfgbdhpcboikaaGreatDoor
