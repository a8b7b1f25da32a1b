/-
  policy.Holds of the least pages.
  policy.elem, plain, text and slices.Equal of attributes, of every node: what they answer.
-/
import Derived.Test.YtcfgbdhpcboikaaGreatDoorHoldA
import Derived.RegionTactic
import Derived.BigRegion
import Derived.Test.YtcfgbdhpcboikaaGreatDoorSortA
namespace Go.Proofs.YtcfgbdhpcboikaaGreatDoor
set_option maxHeartbeats 4000000
set_option maxRecDepth 100000
open Go.RowKit
def sHtml:ByteArray:=⟨#[104,116,109,108]⟩
def sHead:ByteArray:=⟨#[104,101,97,100]⟩
def sMeta:ByteArray:=⟨#[109,101,116,97]⟩
structure PageAt (w:World) (gh oh gm om cm ga oa ca gb ob cb:Nat) (a':Option Addr) (n' c':Nat):Prop where
 hd:Six w gh oh (.int .i64 1) (.int .i64 0) (.string ⟨#[104,101,97,100]⟩) (.slice none 0 0) (.string ⟨#[]⟩) (.slice (some ⟨gm,om,none⟩) 1 cm)
 bd:Six w gh (oh+6) (.int .i64 1) (.int .i64 0) (.string ⟨#[98,111,100,121]⟩) (.slice none 0 0) (.string ⟨#[]⟩) (.slice (some ⟨gb,ob,none⟩) 1 cb)
 mt:Six w gm om (.int .i64 1) (.int .i64 0) (.string ⟨#[109,101,116,97]⟩) (.slice (some ⟨ga,oa,none⟩) 1 ca) (.string ⟨#[]⟩) (.slice none 0 0)
 at':Two w ga oa (.string ⟨#[99,104,97,114,115,101,116]⟩) (.string ⟨#[117,116,102,45,56]⟩)
 kid:Six w gb ob (.int .i64 1) (.int .i64 0) (.string ⟨#[98]⟩) (.slice none 0 0) (.string ⟨#[]⟩) (.slice a' n' c')
theorem PageAt.below {w w':World}{B gh oh gm om cm ga oa ca gb ob cb:Nat}{a':Option Addr}{n' c':Nat}(h:PageAt w gh oh gm om cm ga oa ca gb ob cb a' n' c')(hb:Below B w w')(hB:w.heap.size≤B):PageAt w' gh oh gm om cm ga oa ca gb ob cb a' n' c' :=
 ⟨h.hd.below hb hB,h.bd.below hb hB,h.mt.below hb hB,h.at'.below hb hB,h.kid.below hb hB⟩
theorem holds_page (gh oh ch gm om cm ga oa ca gb ob cb:Nat)(a':Option Addr)(n' c':Nat)(r:Bool)(L:Int)(n:Nd)(w:World)(hP:PageAt w gh oh gm om cm ga oa ca gb ob cb a' n' c')
  (hn:NodeV w n (elV sHtml (some ⟨gh,oh,none⟩) 2 ch)) (hf:fewL 32 n 1000=L) (hL:0≤L)
  (HX:∀ W,Below w.heap.size w W→Calls Tryz.prog 92 #[.agg #[.int .i64 1,.int .i64 0,.string ⟨#[98]⟩,.slice none 0 0,.string ⟨#[]⟩,.slice a' n' c'],.slice none 0 0] W (SomeBool r W)) :
  Calls Tryz.prog 41 #[elV sHtml (some ⟨gh,oh,none⟩) 2 ch] w (SomeBool r w):=by
 have HP:=Lib.hid hP
 have HN:=Lib.hid hn
 have HF:=Lib.hid hf
 have HXX:=Lib.hid HX
 clear hP hn hf HX
 unfold elV at *
 unfold sHtml at *
 go_enter Tryz.func41,Tryz.ntmps41
 go_wp2_with fail
 obtain⟨W0,hW0⟩:∃ W0,W0=w.alloc (.cells #[.int .i64 1,.int .i64 0,.string ⟨#[104,116,109,108]⟩,.slice none 0 0,.string ⟨#[]⟩,.slice (some ⟨gh,oh,none⟩) 2 ch] 45):=⟨_,rfl⟩
 have hB0:Below w.heap.size w W0:=by rw[hW0];exact(Below.refl _ w).alloc (Nat.le_refl _) _
 have hz:W0.heap.size=w.heap.size+1:=by rw[hW0];simp
 have hQ:=six_alloc w (.int .i64 1) (.int .i64 0) (.string ⟨#[104,116,109,108]⟩) (.slice none 0 0) (.string ⟨#[]⟩) (.slice (some ⟨gh,oh,none⟩) 2 ch)
 rw[← hW0] at hQ ⊢
 have HQ:=Lib.hid hQ
 have HB0:=Lib.hid hB0
 have HZ:=Lib.hid hz
 clear hQ hB0 hz hW0
 refine(few_any n.sz n (Nat.le_refl _) _ 32 32 1000 L W0 (Lib.hid rfl) (by omega) (by omega) (by omega) (Lib.hid (HN.out.below HB0.out (Nat.le_refl _))) HF).mono ?_
 rintro e W1 ⟨rfl,B1⟩
 have hq1:=HQ.out.below B1 (Nat.le_refl _)
 have q0:W1.cell? ⟨w.heap.size,0,none⟩=some (.int .i64 1):=hq1.x0
 have q1:W1.cell? ⟨w.heap.size,1,none⟩=some (.int .i64 0):=hq1.x1
 have q2:W1.cell? ⟨w.heap.size,2,none⟩=some (.string ⟨#[104,116,109,108]⟩):=hq1.x2
 have q3:W1.cell? ⟨w.heap.size,3,none⟩=some (.slice none 0 0):=hq1.x3
 have q4:W1.cell? ⟨w.heap.size,4,none⟩=some (.string ⟨#[]⟩):=hq1.x4
 have q5:W1.cell? ⟨w.heap.size,5,none⟩=some (.slice (some ⟨gh,oh,none⟩) 2 ch):=hq1.x5
 have HQ1:=Lib.hid hq1
 have HB1:=Lib.hid (HB0.out.trans (B1.mono HB0.out.size))
 clear B1 hq1
 have hL0:decide (L<0)=false:=by simp;omega
 go_wp2_with fail
 refine(plain_yes ⟨#[104,116,109,108]⟩ none 0 (some ⟨gh,oh,none⟩) 2 ch W1).mono ?_
 rintro e W2 ⟨rfl,B2⟩
 have hq2:=HQ1.out.below B2 (Nat.le_refl _)
 have p5:W2.cell? ⟨w.heap.size,5,none⟩=some (.slice (some ⟨gh,oh,none⟩) 2 ch):=hq2.x5
 have hb2:=HB1.out.trans (B2.mono HB1.out.size)
 have HQ2:=Lib.hid hq2
 have HB2:=Lib.hid hb2
 have hp2:=HP.out.below hb2 (Nat.le_refl _)
 have HP2:=Lib.hid hp2
 clear B2 hq2 hb2 hp2 q0 q1 q2 q3 q4 q5 hL0
 go_wp2_with fail
 obtain⟨h0,h1,h2,h3,h4,h5⟩:=HP2.out.hd
 obtain⟨i0,i1,i2,i3,i4,i5⟩:=HP2.out.bd
 have hg1:gh<W2.heap.size:=World.block_lt_of_cell? W2 _ h0
 have hg2:w.heap.size<W2.heap.size:=World.block_lt_of_cell? W2 _ p5
 have hg3:¬ gh=W2.heap.size:=by omega
 have hg4:¬ w.heap.size=W2.heap.size:=by omega
 have hg5:¬ gh=W2.heap.size+1:=by omega
 have hg6:¬ w.heap.size=W2.heap.size+1:=by omega
 have hg7:¬ W2.heap.size=gh:=by omega
 have hg8:¬ W2.heap.size=w.heap.size:=by omega
 go_region
 all_goals clear h0 h1 h2 h3 h4 h5 i0 i1 i2 i3 i4 i5 p5 hg1 hg2 hg3 hg4 hg5 hg6 hg7 hg8
 ·obtain⟨W5,hW5⟩:∃ W5,W5=((W2.alloc (.cells #[.int .i64 1,.int .i64 0,.string ⟨#[104,101,97,100]⟩,.slice none 0 0,.string ⟨#[]⟩,.slice (some ⟨gm,om,none⟩) 1 cm] 45)).alloc (.cells #[.int .i64 1,.int .i64 0,.string ⟨#[98,111,100,121]⟩,.slice none 0 0,.string ⟨#[]⟩,.slice (some ⟨gb,ob,none⟩) 1 cb] 45)).drew:=⟨_,rfl⟩
  have hb5:Below W2.heap.size W2 W5:=by rw[hW5];exact(((Below.refl _ W2).alloc (Nat.le_refl _) _).alloc (by simp) _).drew
  have s1:Six W5 W2.heap.size 0 (.int .i64 1) (.int .i64 0) (.string ⟨#[104,101,97,100]⟩) (.slice none 0 0) (.string ⟨#[]⟩) (.slice (some ⟨gm,om,none⟩) 1 cm):=by
   have h:=(six_alloc W2 (.int .i64 1) (.int .i64 0) (.string ⟨#[104,101,97,100]⟩) (.slice none 0 0) (.string ⟨#[]⟩) (.slice (some ⟨gm,om,none⟩) 1 cm)).below ((Below.refl _ (W2.alloc (.cells #[.int .i64 1,.int .i64 0,.string ⟨#[104,101,97,100]⟩,.slice none 0 0,.string ⟨#[]⟩,.slice (some ⟨gm,om,none⟩) 1 cm] 45))).alloc (Nat.le_refl _) (.cells #[.int .i64 1,.int .i64 0,.string ⟨#[98,111,100,121]⟩,.slice none 0 0,.string ⟨#[]⟩,.slice (some ⟨gb,ob,none⟩) 1 cb] 45)).drew (Nat.le_refl _)
   rw[hW5];exact h
  have s2:Six W5 (W2.heap.size+1) 0 (.int .i64 1) (.int .i64 0) (.string ⟨#[98,111,100,121]⟩) (.slice none 0 0) (.string ⟨#[]⟩) (.slice (some ⟨gb,ob,none⟩) 1 cb):=by
   have h:=(six_alloc (W2.alloc (.cells #[.int .i64 1,.int .i64 0,.string ⟨#[104,101,97,100]⟩,.slice none 0 0,.string ⟨#[]⟩,.slice (some ⟨gm,om,none⟩) 1 cm] 45)) (.int .i64 1) (.int .i64 0) (.string ⟨#[98,111,100,121]⟩) (.slice none 0 0) (.string ⟨#[]⟩) (.slice (some ⟨gb,ob,none⟩) 1 cb)).below ((Below.refl _ ((W2.alloc (.cells #[.int .i64 1,.int .i64 0,.string ⟨#[104,101,97,100]⟩,.slice none 0 0,.string ⟨#[]⟩,.slice (some ⟨gm,om,none⟩) 1 cm] 45)).alloc (.cells #[.int .i64 1,.int .i64 0,.string ⟨#[98,111,100,121]⟩,.slice none 0 0,.string ⟨#[]⟩,.slice (some ⟨gb,ob,none⟩) 1 cb] 45))).drew) (Nat.le_refl _)
   rw[hW5]
   have e:(W2.alloc (.cells #[.int .i64 1,.int .i64 0,.string ⟨#[104,101,97,100]⟩,.slice none 0 0,.string ⟨#[]⟩,.slice (some ⟨gm,om,none⟩) 1 cm] 45)).heap.size=W2.heap.size+1:=by simp
   rw[e] at h
   exact h
  rw[← hW5]
  have SH:Hid (Six W5 (W2.heap.size) 0 (.int .i64 1) (.int .i64 0) (.string ⟨#[104,101,97,100]⟩) (.slice none 0 0) (.string ⟨#[]⟩) (.slice (some ⟨gm,om,none⟩) 1 cm)):=s1
  have SB:Hid (Six W5 (W2.heap.size+1) 0 (.int .i64 1) (.int .i64 0) (.string ⟨#[98,111,100,121]⟩) (.slice none 0 0) (.string ⟨#[]⟩) (.slice (some ⟨gb,ob,none⟩) 1 cb)):=s2
  have HB5:=Lib.hid (HB2.out.trans (hb5.mono HB2.out.size))
  have HP5:=Lib.hid (HP2.out.below hb5 (Nat.le_refl _))
  clear hb5 s1 s2 hW5
  have x0:W5.cell? ⟨W2.heap.size,0,none⟩=some (.int .i64 1):=SH.out.x0
  have x1:W5.cell? ⟨W2.heap.size,1,none⟩=some (.int .i64 0):=SH.out.x1
  have x2:W5.cell? ⟨W2.heap.size,2,none⟩=some (.string ⟨#[104,101,97,100]⟩):=SH.out.x2
  have x3:W5.cell? ⟨W2.heap.size,3,none⟩=some (.slice none 0 0):=SH.out.x3
  have x4:W5.cell? ⟨W2.heap.size,4,none⟩=some (.string ⟨#[]⟩):=SH.out.x4
  have x5:W5.cell? ⟨W2.heap.size,5,none⟩=some (.slice (some ⟨gm,om,none⟩) 1 cm):=SH.out.x5
  go_wp2_with fail
  refine(plain_yes ⟨#[104,101,97,100]⟩ none 0 (some ⟨gm,om,none⟩) 1 cm W5).mono ?_
  rintro e W6 ⟨rfl,B6⟩
  have y5:W6.cell? ⟨W2.heap.size,5,none⟩=some (.slice (some ⟨gm,om,none⟩) 1 cm):=(SH.out.below B6 (Nat.le_refl _)).x5
  have SB6:=Lib.hid (SB.out.below B6 (Nat.le_refl _))
  have HP6:=Lib.hid (HP5.out.below B6 (Nat.le_refl _))
  have HB6:=Lib.hid (HB5.out.trans (B6.mono HB5.out.size))
  clear B6 x0 x1 x2 x3 x4 x5
  go_wp2_with fail
  refine(heads_one gm om cm ga oa ca W6 HP6.out.mt HP6.out.at').mono ?_
  unfold SomeBool
  rintro e W7 ⟨rfl,B7⟩
  have z0:W7.cell? ⟨W2.heap.size+1,0,none⟩=some (.int .i64 1):=(SB6.out.below B7 (Nat.le_refl _)).x0
  have z1:W7.cell? ⟨W2.heap.size+1,1,none⟩=some (.int .i64 0):=(SB6.out.below B7 (Nat.le_refl _)).x1
  have z2:W7.cell? ⟨W2.heap.size+1,2,none⟩=some (.string ⟨#[98,111,100,121]⟩):=(SB6.out.below B7 (Nat.le_refl _)).x2
  have z3:W7.cell? ⟨W2.heap.size+1,3,none⟩=some (.slice none 0 0):=(SB6.out.below B7 (Nat.le_refl _)).x3
  have z4:W7.cell? ⟨W2.heap.size+1,4,none⟩=some (.string ⟨#[]⟩):=(SB6.out.below B7 (Nat.le_refl _)).x4
  have z5:W7.cell? ⟨W2.heap.size+1,5,none⟩=some (.slice (some ⟨gb,ob,none⟩) 1 cb):=(SB6.out.below B7 (Nat.le_refl _)).x5
  have SB7:=Lib.hid (SB6.out.below B7 (Nat.le_refl _))
  have HP7:=Lib.hid (HP6.out.below B7 (Nat.le_refl _))
  have HB7:=Lib.hid (HB6.out.trans (B7.mono HB6.out.size))
  clear B7 y5
  go_wp2_with fail
  refine(plain_yes ⟨#[98,111,100,121]⟩ none 0 (some ⟨gb,ob,none⟩) 1 cb W7).mono ?_
  rintro e W8 ⟨rfl,B8⟩
  have u0:W8.cell? ⟨W2.heap.size+1,0,none⟩=some (.int .i64 1):=(SB7.out.below B8 (Nat.le_refl _)).x0
  have u1:W8.cell? ⟨W2.heap.size+1,1,none⟩=some (.int .i64 0):=(SB7.out.below B8 (Nat.le_refl _)).x1
  have u2:W8.cell? ⟨W2.heap.size+1,2,none⟩=some (.string ⟨#[98,111,100,121]⟩):=(SB7.out.below B8 (Nat.le_refl _)).x2
  have u3:W8.cell? ⟨W2.heap.size+1,3,none⟩=some (.slice none 0 0):=(SB7.out.below B8 (Nat.le_refl _)).x3
  have u4:W8.cell? ⟨W2.heap.size+1,4,none⟩=some (.string ⟨#[]⟩):=(SB7.out.below B8 (Nat.le_refl _)).x4
  have u5:W8.cell? ⟨W2.heap.size+1,5,none⟩=some (.slice (some ⟨gb,ob,none⟩) 1 cb):=(SB7.out.below B8 (Nat.le_refl _)).x5
  have HP8:=Lib.hid (HP7.out.below B8 (Nat.le_refl _))
  have HB8:=Lib.hid (HB7.out.trans (B8.mono HB7.out.size))
  clear B8 z0 z1 z2 z3 z4 z5
  go_wp2_with fail
  refine(holds_body gb ob cb a' n' c' r W8 HP8.out.kid (fun W hW=>HXX.out W (HB8.out.trans (hW.mono HB8.out.size)))).mono ?_
  unfold SomeBool
  rintro e W9 ⟨rfl,B9⟩
  have HB9:=Lib.hid (HB8.out.trans (B9.mono HB8.out.size))
  clear B9
  go_wp2
  go_ret
  exact⟨rfl,HB9.out⟩
 ·obtain⟨W5,hW5⟩:∃ W5,W5=((W2.alloc (.cells #[.int .i64 1,.int .i64 0,.string ⟨#[98,111,100,121]⟩,.slice none 0 0,.string ⟨#[]⟩,.slice (some ⟨gb,ob,none⟩) 1 cb] 45)).alloc (.cells #[.int .i64 1,.int .i64 0,.string ⟨#[104,101,97,100]⟩,.slice none 0 0,.string ⟨#[]⟩,.slice (some ⟨gm,om,none⟩) 1 cm] 45)).drew:=⟨_,rfl⟩
  have hb5:Below W2.heap.size W2 W5:=by rw[hW5];exact(((Below.refl _ W2).alloc (Nat.le_refl _) _).alloc (by simp) _).drew
  have s1:Six W5 W2.heap.size 0 (.int .i64 1) (.int .i64 0) (.string ⟨#[98,111,100,121]⟩) (.slice none 0 0) (.string ⟨#[]⟩) (.slice (some ⟨gb,ob,none⟩) 1 cb):=by
   have h:=(six_alloc W2 (.int .i64 1) (.int .i64 0) (.string ⟨#[98,111,100,121]⟩) (.slice none 0 0) (.string ⟨#[]⟩) (.slice (some ⟨gb,ob,none⟩) 1 cb)).below ((Below.refl _ (W2.alloc (.cells #[.int .i64 1,.int .i64 0,.string ⟨#[98,111,100,121]⟩,.slice none 0 0,.string ⟨#[]⟩,.slice (some ⟨gb,ob,none⟩) 1 cb] 45))).alloc (Nat.le_refl _) (.cells #[.int .i64 1,.int .i64 0,.string ⟨#[104,101,97,100]⟩,.slice none 0 0,.string ⟨#[]⟩,.slice (some ⟨gm,om,none⟩) 1 cm] 45)).drew (Nat.le_refl _)
   rw[hW5];exact h
  have s2:Six W5 (W2.heap.size+1) 0 (.int .i64 1) (.int .i64 0) (.string ⟨#[104,101,97,100]⟩) (.slice none 0 0) (.string ⟨#[]⟩) (.slice (some ⟨gm,om,none⟩) 1 cm):=by
   have h:=(six_alloc (W2.alloc (.cells #[.int .i64 1,.int .i64 0,.string ⟨#[98,111,100,121]⟩,.slice none 0 0,.string ⟨#[]⟩,.slice (some ⟨gb,ob,none⟩) 1 cb] 45)) (.int .i64 1) (.int .i64 0) (.string ⟨#[104,101,97,100]⟩) (.slice none 0 0) (.string ⟨#[]⟩) (.slice (some ⟨gm,om,none⟩) 1 cm)).below ((Below.refl _ ((W2.alloc (.cells #[.int .i64 1,.int .i64 0,.string ⟨#[98,111,100,121]⟩,.slice none 0 0,.string ⟨#[]⟩,.slice (some ⟨gb,ob,none⟩) 1 cb] 45)).alloc (.cells #[.int .i64 1,.int .i64 0,.string ⟨#[104,101,97,100]⟩,.slice none 0 0,.string ⟨#[]⟩,.slice (some ⟨gm,om,none⟩) 1 cm] 45))).drew) (Nat.le_refl _)
   rw[hW5]
   have e:(W2.alloc (.cells #[.int .i64 1,.int .i64 0,.string ⟨#[98,111,100,121]⟩,.slice none 0 0,.string ⟨#[]⟩,.slice (some ⟨gb,ob,none⟩) 1 cb] 45)).heap.size=W2.heap.size+1:=by simp
   rw[e] at h
   exact h
  rw[← hW5]
  have SH:Hid (Six W5 (W2.heap.size+1) 0 (.int .i64 1) (.int .i64 0) (.string ⟨#[104,101,97,100]⟩) (.slice none 0 0) (.string ⟨#[]⟩) (.slice (some ⟨gm,om,none⟩) 1 cm)):=s2
  have SB:Hid (Six W5 (W2.heap.size) 0 (.int .i64 1) (.int .i64 0) (.string ⟨#[98,111,100,121]⟩) (.slice none 0 0) (.string ⟨#[]⟩) (.slice (some ⟨gb,ob,none⟩) 1 cb)):=s1
  have HB5:=Lib.hid (HB2.out.trans (hb5.mono HB2.out.size))
  have HP5:=Lib.hid (HP2.out.below hb5 (Nat.le_refl _))
  clear hb5 s1 s2 hW5
  have x0:W5.cell? ⟨W2.heap.size+1,0,none⟩=some (.int .i64 1):=SH.out.x0
  have x1:W5.cell? ⟨W2.heap.size+1,1,none⟩=some (.int .i64 0):=SH.out.x1
  have x2:W5.cell? ⟨W2.heap.size+1,2,none⟩=some (.string ⟨#[104,101,97,100]⟩):=SH.out.x2
  have x3:W5.cell? ⟨W2.heap.size+1,3,none⟩=some (.slice none 0 0):=SH.out.x3
  have x4:W5.cell? ⟨W2.heap.size+1,4,none⟩=some (.string ⟨#[]⟩):=SH.out.x4
  have x5:W5.cell? ⟨W2.heap.size+1,5,none⟩=some (.slice (some ⟨gm,om,none⟩) 1 cm):=SH.out.x5
  go_wp2_with fail
  refine(plain_yes ⟨#[104,101,97,100]⟩ none 0 (some ⟨gm,om,none⟩) 1 cm W5).mono ?_
  rintro e W6 ⟨rfl,B6⟩
  have y5:W6.cell? ⟨W2.heap.size+1,5,none⟩=some (.slice (some ⟨gm,om,none⟩) 1 cm):=(SH.out.below B6 (Nat.le_refl _)).x5
  have SB6:=Lib.hid (SB.out.below B6 (Nat.le_refl _))
  have HP6:=Lib.hid (HP5.out.below B6 (Nat.le_refl _))
  have HB6:=Lib.hid (HB5.out.trans (B6.mono HB5.out.size))
  clear B6 x0 x1 x2 x3 x4 x5
  go_wp2_with fail
  refine(heads_one gm om cm ga oa ca W6 HP6.out.mt HP6.out.at').mono ?_
  unfold SomeBool
  rintro e W7 ⟨rfl,B7⟩
  have z0:W7.cell? ⟨W2.heap.size,0,none⟩=some (.int .i64 1):=(SB6.out.below B7 (Nat.le_refl _)).x0
  have z1:W7.cell? ⟨W2.heap.size,1,none⟩=some (.int .i64 0):=(SB6.out.below B7 (Nat.le_refl _)).x1
  have z2:W7.cell? ⟨W2.heap.size,2,none⟩=some (.string ⟨#[98,111,100,121]⟩):=(SB6.out.below B7 (Nat.le_refl _)).x2
  have z3:W7.cell? ⟨W2.heap.size,3,none⟩=some (.slice none 0 0):=(SB6.out.below B7 (Nat.le_refl _)).x3
  have z4:W7.cell? ⟨W2.heap.size,4,none⟩=some (.string ⟨#[]⟩):=(SB6.out.below B7 (Nat.le_refl _)).x4
  have z5:W7.cell? ⟨W2.heap.size,5,none⟩=some (.slice (some ⟨gb,ob,none⟩) 1 cb):=(SB6.out.below B7 (Nat.le_refl _)).x5
  have SB7:=Lib.hid (SB6.out.below B7 (Nat.le_refl _))
  have HP7:=Lib.hid (HP6.out.below B7 (Nat.le_refl _))
  have HB7:=Lib.hid (HB6.out.trans (B7.mono HB6.out.size))
  clear B7 y5
  go_wp2_with fail
  refine(plain_yes ⟨#[98,111,100,121]⟩ none 0 (some ⟨gb,ob,none⟩) 1 cb W7).mono ?_
  rintro e W8 ⟨rfl,B8⟩
  have u0:W8.cell? ⟨W2.heap.size,0,none⟩=some (.int .i64 1):=(SB7.out.below B8 (Nat.le_refl _)).x0
  have u1:W8.cell? ⟨W2.heap.size,1,none⟩=some (.int .i64 0):=(SB7.out.below B8 (Nat.le_refl _)).x1
  have u2:W8.cell? ⟨W2.heap.size,2,none⟩=some (.string ⟨#[98,111,100,121]⟩):=(SB7.out.below B8 (Nat.le_refl _)).x2
  have u3:W8.cell? ⟨W2.heap.size,3,none⟩=some (.slice none 0 0):=(SB7.out.below B8 (Nat.le_refl _)).x3
  have u4:W8.cell? ⟨W2.heap.size,4,none⟩=some (.string ⟨#[]⟩):=(SB7.out.below B8 (Nat.le_refl _)).x4
  have u5:W8.cell? ⟨W2.heap.size,5,none⟩=some (.slice (some ⟨gb,ob,none⟩) 1 cb):=(SB7.out.below B8 (Nat.le_refl _)).x5
  have HP8:=Lib.hid (HP7.out.below B8 (Nat.le_refl _))
  have HB8:=Lib.hid (HB7.out.trans (B8.mono HB7.out.size))
  clear B8 z0 z1 z2 z3 z4 z5
  go_wp2_with fail
  refine(holds_body gb ob cb a' n' c' r W8 HP8.out.kid (fun W hW=>HXX.out W (HB8.out.trans (hW.mono HB8.out.size)))).mono ?_
  unfold SomeBool
  rintro e W9 ⟨rfl,B9⟩
  have HB9:=Lib.hid (HB8.out.trans (B9.mono HB8.out.size))
  clear B9
  go_wp2
  go_ret
  exact⟨rfl,HB9.out⟩
open Go.RowKit
def elemB (kd sp:Int)(tx:ByteArray):Bool:=decide (kd=1)&&(decide (sp=0)&&tx.data.toList.isEmpty)
theorem ba_empty {t:ByteArray}(h:t.data.toList.isEmpty=true):t=⟨#[]⟩:=ba_ext (by simpa using h)
theorem ba_not {t:ByteArray}(h:t.data.toList.isEmpty=false):¬ t.toList=[]:=by rw[toList_data];intro e;rw[e] at h;cases h
theorem ba_notE {t:ByteArray}(h:t.data.toList.isEmpty=false):t.toList.isEmpty=false:=by rw[toList_data];exact h
theorem elem_any (kd sp:Int)(nm tx:ByteArray)(av kv:Value)(w:World)(b:Bool)(hb:Hid (elemB kd sp tx=b)) :
  Calls Tryz.prog 149 #[.agg #[.int .i64 kd,.int .i64 sp,.string nm,av,.string tx,kv]] w (SomeBool b w):=by
 by_cases h1:kd=1
 ·subst h1
  by_cases h2:sp=0
  ·subst h2
   cases h3:tx.data.toList.isEmpty with
   | true =>
    obtain rfl:=ba_empty h3
    have HB:Hid (b=true):=by show _=_;rw[← hb.out];rfl
    clear hb h3
    go_enter Tryz.func149,Tryz.ntmps149
    go_wp2
    go_ret
    exact⟨by rw[HB.out];rfl,(Below.refl _ w).alloc (Nat.le_refl _) _⟩
   | false =>
    have k1:=ba_not h3
    have k2:=ba_notE h3
    have HB:Hid (b=false):=by show _=_;rw[← hb.out];unfold elemB;rw[h3];rfl
    clear hb h3
    go_enter Tryz.func149,Tryz.ntmps149
    go_wp2
    go_ret
    exact⟨by rw[HB.out];rfl,(Below.refl _ w).alloc (Nat.le_refl _) _⟩
  ·have k1:(sp==0)=false:=by rw[beq_eq_false_iff_ne];exact h2
   have HB:Hid (b=false):=by show _=_;rw[← hb.out];unfold elemB;rw[decide_eq_false h2];rfl
   clear hb h2
   go_enter Tryz.func149,Tryz.ntmps149
   go_wp2
   go_ret
   exact⟨by rw[HB.out];rfl,(Below.refl _ w).alloc (Nat.le_refl _) _⟩
 ·have k1:(kd==1)=false:=by rw[beq_eq_false_iff_ne];exact h1
  have HB:Hid (b=false):=by show _=_;rw[← hb.out];unfold elemB;rw[decide_eq_false h1];rfl
  clear hb h1
  go_enter Tryz.func149,Tryz.ntmps149
  go_wp2
  go_ret
  exact⟨by rw[HB.out];rfl,(Below.refl _ w).alloc (Nat.le_refl _) _⟩
def plainB (kd sp:Int)(nm tx:ByteArray)(na:Nat)(name:ByteArray):Bool:=elemB kd sp tx&&(decide (nm=name)&&decide (na=0))
theorem plain_any (kd sp:Int)(nm tx:ByteArray)(a:Option Addr)(na c:Nat)(kv:Value)(name:ByteArray)(w:World)(b:Bool)(hb:Hid (plainB kd sp nm tx na name=b)) :
  Calls Tryz.prog 90 #[.agg #[.int .i64 kd,.int .i64 sp,.string nm,.slice a na c,.string tx,kv],.string name] w (SomeBool b w):=by
 have hE:=fun W=>elem_any kd sp nm tx (.slice a na c) kv W (elemB kd sp tx) (Lib.hid rfl)
 have hb2:=hb.out
 unfold plainB at hb2
 generalize elemB kd sp tx=q at hE hb2
 have HE:=Lib.hid hE
 have HB2:=Lib.hid hb2
 clear hE hb hb2
 go_enter Tryz.func90,Tryz.ntmps90
 go_wp2_with fail
 refine(HE.out _).mono ?_
 unfold SomeBool
 rintro e W1 ⟨rfl,B1⟩
 have hB:=(Below.refl w.heap.size w).alloc (Nat.le_refl _) (.cells #[.int .i64 kd,.int .i64 sp,.string nm,.slice a na c,.string tx,kv] 45)
 have x2:W1.cell? ⟨w.heap.size,2,none⟩=some (.string nm):=by rw[B1.cell (p:=⟨w.heap.size,2,none⟩) (by simp),cell_of_row _ w.heap.size 2 _ 45 (0,0) (heap_alloc_new w _)];rfl
 have x3:W1.cell? ⟨w.heap.size,3,none⟩=some (.slice a na c):=by rw[B1.cell (p:=⟨w.heap.size,3,none⟩) (by simp),cell_of_row _ w.heap.size 3 _ 45 (0,0) (heap_alloc_new w _)];rfl
 have HB1:=Lib.hid (hB.trans (B1.mono (by simp)))
 clear B1 hB
 cases q with
 | false =>
  have HF:Hid (b=false):=by show _=_;rw[← HB2.out];rfl
  go_wp2
  go_ret
  exact⟨by rw[HF.out];rfl,HB1.out⟩
 | true =>
  by_cases h1:nm=name
  ·subst h1
   have e1:(nm.toList==nm.toList)=true:=by simp
   have HF:Hid (b=decide (na=0)):=by show _=_;rw[← HB2.out];simp
   by_cases h2:na=0
   ·subst h2
    go_wp2
    go_ret
    exact⟨by rw[HF.out];rfl,HB1.out⟩
   ·have e2:((na:Int)==0)=false:=by rw[beq_eq_false_iff_ne];omega
    go_wp2
    go_ret
    exact⟨by rw[HF.out,decide_eq_false h2];rfl,HB1.out⟩
  ·have e1:(nm.toList==name.toList)=false:=by rw[beq_eq_false_iff_ne];exact dir_ne h1
   have HF:Hid (b=false):=by show _=_;rw[← HB2.out,decide_eq_false h1];rfl
   clear h1
   go_wp2
   go_ret
   exact⟨by rw[HF.out];rfl,HB1.out⟩
def wordsB (kd sp:Int)(nm tx:ByteArray)(na nk:Nat):Bool:=decide (kd=2)&&(decide (sp=0)&&(nm.data.toList.isEmpty&&(decide (na=0)&&(decide (nk=0)&&(!tx.data.toList.isEmpty&&decide (textB tx=tx))))))
theorem ptext_no (kd sp:Int)(nm tx:ByteArray)(a:Option Addr)(na c:Nat)(a':Option Addr)(nk c':Nat)(w:World)
  (h:(kd==2)=false∨(kd=2∧(sp==0)=false)∨(kd=2∧sp=0∧(nm.toList.isEmpty=false∧¬ nm.toList=[]))∨(kd=2∧sp=0∧nm=⟨#[]⟩∧((na:Int)==0)=false)∨(kd=2∧sp=0∧nm=⟨#[]⟩∧na=0∧((nk:Int)==0)=false)∨(kd=2∧sp=0∧nm=⟨#[]⟩∧na=0∧nk=0∧tx=⟨#[]⟩)) :
  Calls Tryz.prog 151 #[.agg #[.int .i64 kd,.int .i64 sp,.string nm,.slice a na c,.string tx,.slice a' nk c']] w (SomeBool false w):=by
 go_enter Tryz.func151,Tryz.ntmps151
 rcases h with h|⟨rfl,h⟩|⟨rfl,rfl,h,h'⟩|⟨rfl,rfl,rfl,h⟩|⟨rfl,rfl,rfl,rfl,h⟩|⟨rfl,rfl,rfl,rfl,rfl,rfl⟩
 all_goals
  go_wp2
  go_quiet (fail)
  go_wp2
  go_ret
  exact⟨rfl,((Below.refl _ w).alloc (Nat.le_refl _) _).trans ((below_drewNm _ nq).mono (by simp))⟩
theorem ptext_yes (tx:ByteArray)(hz:tx.size≤1000000000)(_k1:¬ tx.toList=[])(k2:tx.toList.isEmpty=false)(a:Option Addr)(c:Nat)(a':Option Addr)(c':Nat)(w:World)(T:Tabs w)(b:Bool)(hb:Hid (decide (textB tx=tx)=b)) :
  Calls Tryz.prog 151 #[.agg #[.int .i64 2,.int .i64 0,.string ⟨#[]⟩,.slice a 0 c,.string tx,.slice a' 0 c']] w (SomeBool b w):=by
 have HT:=Lib.hid T
 have X:=fun W TW=>text_any tx hz W TW
 have ht:(⟨(textL tx.data.toList).toArray⟩:ByteArray)=textB tx:=rfl
 rw[ht] at X
 have hcmp:((textB tx).toList==tx.toList)=b:=by
  rw[← hb.out]
  by_cases h:textB tx=tx
  ·rw[h];simp
  ·rw[decide_eq_false h,beq_eq_false_iff_ne];exact dir_ne h
 have HX:=Lib.hid X
 generalize textB tx=y at *
 clear T X ht hb
 go_enter Tryz.func151,Tryz.ntmps151
 go_wp2_with fail
 obtain⟨W0,hW0⟩:∃ W0,W0=w.alloc (.cells #[.int .i64 2,.int .i64 0,.string ⟨#[]⟩,.slice a 0 c,.string tx,.slice a' 0 c'] 45):=⟨_,rfl⟩
 have hB0:Below w.heap.size w W0:=by rw[hW0];exact(Below.refl _ w).alloc (Nat.le_refl _) _
 have hP:=six_alloc w (.int .i64 2) (.int .i64 0) (.string ⟨#[]⟩) (.slice a 0 c) (.string tx) (.slice a' 0 c')
 rw[← hW0] at hP
 try rw[← hW0]
 have HP:=Lib.hid hP
 have HB0:=Lib.hid hB0
 clear hP hB0 hW0
 obtain⟨S,hS⟩:∃ S:World→Prop,∀ u,S u↔Below W0.heap.size W0 u:=⟨_,fun _=>Iff.rfl⟩
 have g0:∀ s:WIn S,s.w.cell? ⟨w.heap.size,0,none⟩=some (.int .i64 2):=fun s=>(HP.out.below ((hS _).1 s.h) (Nat.le_refl _)).x0
 have g1:∀ s:WIn S,s.w.cell? ⟨w.heap.size,1,none⟩=some (.int .i64 0):=fun s=>(HP.out.below ((hS _).1 s.h) (Nat.le_refl _)).x1
 have g2:∀ s:WIn S,s.w.cell? ⟨w.heap.size,2,none⟩=some (.string ⟨#[]⟩):=fun s=>(HP.out.below ((hS _).1 s.h) (Nat.le_refl _)).x2
 have g3:∀ s:WIn S,s.w.cell? ⟨w.heap.size,3,none⟩=some (.slice a 0 c):=fun s=>(HP.out.below ((hS _).1 s.h) (Nat.le_refl _)).x3
 have g4:∀ s:WIn S,s.w.cell? ⟨w.heap.size,4,none⟩=some (.string tx):=fun s=>(HP.out.below ((hS _).1 s.h) (Nat.le_refl _)).x4
 have g5:∀ s:WIn S,s.w.cell? ⟨w.heap.size,5,none⟩=some (.slice a' 0 c'):=fun s=>(HP.out.below ((hS _).1 s.h) (Nat.le_refl _)).x5
 haveI:Nonempty (WIn S):=⟨⟨W0,(hS _).2 (Below.refl _ _)⟩⟩
 have HS:=Lib.hid hS
 clear hS
 refine region_segs 38 [([0,1,2,3,4,5,6,7,8,9,10,11,12,13,14,15,16,17,18,19,20,21,22,23,24,25,26,27,28,29,30,31,32,34,35],33)] [36,37] S (by kernel_rfl) (by kernel_rfl) ((HS.out _).2 (below_drewNm W0 1)) ?_
 refine segs_step (fun K' hK'=>?_)
 simp only[pick,List.getElem?_cons_zero,List.getElem?_cons_succ,Option.getD_some]
 repeat (go_big_quiet_step (fail))
 refine wpQuiet_nil (hK' _ (fun Q1 hQ1=>?_))
 clear hK' K'
 simp only[pick,List.getElem?_cons_zero,List.getElem?_cons_succ,Option.getD_some]
 go_wp2_with fail
 have hBw:Below w.heap.size w (W0.drewN 1):=HB0.out.trans ((below_drewNm W0 1).mono HB0.out.size)
 refine(HX.out _ (HT.out.below hBw (Nat.le_refl _))).mono ?_
 rintro e W1 ⟨rfl,B1⟩
 have hB01:Below W0.heap.size W0 W1:=(below_drewNm W0 1).trans (B1.mono (below_drewNm W0 1).size)
 have HB1:=Lib.hid (hBw.trans (B1.mono hBw.size))
 have HB01:=Lib.hid hB01
 clear B1 hB01 hBw
 go_wp2_with fail
 refine hQ1 _ _ ((HS.out _).2 HB01.out) (segs_last (fun K' hK'=>?_))
 clear hQ1 Q1
 simp only[pick,List.getElem?_cons_zero,List.getElem?_cons_succ,Option.getD_some]
 repeat (go_big_quiet_step (fail))
 refine wpQuiet_nil (hK' _ (fun Q4 hQ4=>?_))
 clear hK' K'
 simp only[List.drop_succ_cons,List.drop_zero]
 clear g0 g1 g2 g3 g4 g5
 go_wp2
 go_ret
 exact⟨rfl,HB1.out⟩
theorem ptext_any (kd sp:Int)(nm tx:ByteArray)(hz:tx.size≤1000000000)(a:Option Addr)(na c:Nat)(a':Option Addr)(nk c':Nat)(w:World)(T:Tabs w)(b:Bool)(hb:Hid (wordsB kd sp nm tx na nk=b)) :
  Calls Tryz.prog 151 #[.agg #[.int .i64 kd,.int .i64 sp,.string nm,.slice a na c,.string tx,.slice a' nk c']] w (SomeBool b w):=by
 have hb':=hb.out
 unfold wordsB at hb'
 by_cases h1:kd=2
 ·by_cases h2:sp=0
  ·cases h3:nm.data.toList.isEmpty with
   | false =>
    obtain rfl:false=b:=by rw[← hb',decide_eq_true h1,decide_eq_true h2,h3];rfl
    exact ptext_no kd sp nm tx a na c a' nk c' w (.inr (.inr (.inl ⟨h1,h2,ba_notE h3,ba_not h3⟩)))
   | true =>
    have hnm:=ba_empty h3
    by_cases h4:na=0
    ·by_cases h5:nk=0
     ·cases h6:tx.data.toList.isEmpty with
      | true =>
       obtain rfl:false=b:=by rw[← hb',h6];simp
       exact ptext_no kd sp nm tx a na c a' nk c' w (.inr (.inr (.inr (.inr (.inr ⟨h1,h2,hnm,h4,h5,ba_empty h6⟩)))))
      | false =>
       subst h1 h2 hnm h4 h5
       refine ptext_yes tx hz (ba_not h6) (ba_notE h6) a c a' c' w T b ?_
       show _=_
       rw[← hb',h6]
       simp
     ·obtain rfl:false=b:=by rw[← hb',decide_eq_false h5];simp
      exact ptext_no kd sp nm tx a na c a' nk c' w (.inr (.inr (.inr (.inr (.inl ⟨h1,h2,hnm,h4,by rw[beq_eq_false_iff_ne];omega⟩)))))
    ·obtain rfl:false=b:=by rw[← hb',decide_eq_false h4];simp
     exact ptext_no kd sp nm tx a na c a' nk c' w (.inr (.inr (.inr (.inl ⟨h1,h2,hnm,by rw[beq_eq_false_iff_ne];omega⟩))))
  ·obtain rfl:false=b:=by rw[← hb',decide_eq_false h2];simp
   exact ptext_no kd sp nm tx a na c a' nk c' w (.inr (.inl ⟨h1,by rw[beq_eq_false_iff_ne];exact h2⟩))
 ·obtain rfl:false=b:=by rw[← hb',decide_eq_false h1];rfl
  exact ptext_no kd sp nm tx a na c a' nk c' w (.inl (by rw[beq_eq_false_iff_ne];exact h1))
theorem equal_any (va vb:Value)(l m:List AT)(hl:l.length≤1000000000)(hm:m.length≤1000000000)(w:World)(hA:Hid (AttrsV w va l))(hB:Hid (AttrsV w vb m))(b:Bool)(hb:Hid (decide (l=m)=b)) :
  Calls Tryz.prog 150 #[va,vb] w (SomeBool b w):=by
 obtain⟨aa,ca,rfl,_⟩:=hA.out
 obtain⟨ab,cb,rfl,_⟩:=hB.out
 by_cases hlen:l.length=m.length
 ·have e0:((l.length:Int) !=(m.length:Int))=false:=by simp;omega
  have HLEN:=Lib.hid hlen
  clear hlen
  go_enter Tryz.func150,Tryz.ntmps150
  go_wp2
  go_loopw [4,13] (fun r i wx=>r=.bool false∧∃ k:Nat,i=.int .i64 k∧Hid (k≤l.length∧l.take k=m.take k∧Below w.heap.size w wx)) (fun _ i _=>l.length-(intOf i).toNat)
  case atStart=>exact⟨rfl,0,rfl,Lib.hid ⟨Nat.zero_le _,by simp,Below.refl _ _⟩⟩
  case round =>
   obtain⟨rfl,k,rfl,hK⟩:=hrel
   have hk:=hK.out.1
   rcases Nat.lt_or_ge k l.length with hlt|hge
   ·have hlt2:k<m.length:=by have:=HLEN.out;omega
    obtain⟨g1,o1,c1,hv1,a1,a2⟩:=(hA.out.below hK.out.2.2 (Nat.le_refl _)).get k hlt
    obtain⟨g2,o2,c2,hv2,b1,b2⟩:=(hB.out.below hK.out.2.2 (Nat.le_refl _)).get k hlt2
    simp only[Value.slice.injEq,true_and] at hv1 hv2
    obtain⟨rfl,rfl⟩:=hv1
    obtain⟨rfl,rfl⟩:=hv2
    have HNE:Hid (l[k]≠m[k]→b=false):=fun h=>by
     rw[← hb.out,decide_eq_false (fun e=>h (by subst e;rfl))]
    have HEQ:Hid (l[k]=m[k]→l.take (k+1)=m.take (k+1)):=fun h=>by
     rw[List.take_succ_eq_append_getElem hlt,List.take_succ_eq_append_getElem hlt2,hK.out.2.1,h]
    generalize l[k]=q at *
    generalize m[k]=u at *
    obtain⟨qn,qv⟩:=q
    obtain⟨un,uv⟩:=u
    simp only at a1 a2 b1 b2
    by_cases h1:qn=un
    ·subst h1
     have e1:(qn.toList==qn.toList)=true:=by simp
     by_cases h2:qv=uv
     ·subst h2
      have e2:(qv.toList==qv.toList)=true:=by simp
      have HT:=Lib.hid (HEQ.out rfl)
      go_wp2_with fail
      go_quiet (fail)
      go_wp2
      refine⟨⟨rfl,k+1,by congr 1,Lib.hid ⟨hlt,HT.out,⟨hK.out.2.2.os,hK.out.2.2.tape,hK.out.2.2.output,hK.out.2.2.size,hK.out.2.2.block⟩⟩⟩,?_⟩
      simp[intOf];omega
     ·have e2:(qv.toList==uv.toList)=false:=by rw[beq_eq_false_iff_ne];exact dir_ne h2
      have HF:=Lib.hid (HNE.out (fun e=>h2 (by injection e)))
      clear h2
      go_wp2_with fail
      go_quiet (fail)
      go_wp2
      go_ret
      exact⟨by rw[HF.out];rfl,⟨hK.out.2.2.os,hK.out.2.2.tape,hK.out.2.2.output,hK.out.2.2.size,hK.out.2.2.block⟩⟩
    ·have e1:(qn.toList==un.toList)=false:=by rw[beq_eq_false_iff_ne];exact dir_ne h1
     have HF:=Lib.hid (HNE.out (fun e=>h1 (by injection e)))
     clear h1
     go_wp2_with fail
     go_quiet (fail)
     go_wp2
     go_ret
     exact⟨by rw[HF.out];rfl,⟨hK.out.2.2.os,hK.out.2.2.tape,hK.out.2.2.output,hK.out.2.2.size,hK.out.2.2.block⟩⟩
   ·have HF:Hid (b=true):=by
     show _=_
     rw[← hb.out]
     have h:=hK.out.2.1
     rw[List.take_of_length_le hge,List.take_of_length_le (by have:=HLEN.out;omega)] at h
     rw[h];simp
    go_wp2
    go_ret
    exact⟨by rw[HF.out];rfl,hK.out.2.2⟩
 ·have e0:((l.length:Int) !=(m.length:Int))=true:=by rw[bne_iff_ne];omega
  have HF:Hid (b=false):=by
   show _=_
   rw[← hb.out,decide_eq_false (fun e=>hlen (by rw[e]))]
  go_enter Tryz.func150,Tryz.ntmps150
  go_wp2
  go_ret
  exact⟨by rw[HF.out];rfl,Below.refl _ _⟩
end Go.Proofs.YtcfgbdhpcboikaaGreatDoor
