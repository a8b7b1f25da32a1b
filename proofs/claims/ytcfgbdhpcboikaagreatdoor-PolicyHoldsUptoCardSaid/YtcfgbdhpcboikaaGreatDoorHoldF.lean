/-
policy.Holds of the least pages.
-/
import Derived.Test.YtcfgbdhpcboikaaGreatDoorHoldA
namespace Go.Proofs.YtcfgbdhpcboikaaGreatDoor
open Go.Lib (hid)
set_option maxHeartbeats 4000000
set_option maxRecDepth 100000
open Go.RowKit
theorem aN {n:Nat}:n≤n:=Nat.le_refl n
theorem fZ {a w v:World}(h:Go.RowKit.Hid (Go.RowKit.Below a.heap.size a w))(b:Go.RowKit.Below w.heap.size w v):Go.RowKit.Hid (Go.RowKit.Below a.heap.size a v):=hid (h.out.trans (b.mono h.out.size))
def eV:ByteArray:=⟨#[104,116,109,108]⟩
def kJ:ByteArray:=⟨#[104,101,97,100]⟩
def mP:ByteArray:=⟨#[109,101,116,97]⟩
structure tW (w:World) (gh oh gm om cm ga oa ca gb ob cb:Nat) (a':Option Addr) (n' c':Nat):Prop where
 hd:Six w gh oh (.int .i64 1) (.int .i64 0) (.string ⟨#[104,101,97,100]⟩) (.slice none 0 0) (.string ⟨#[]⟩) (.slice (some ⟨gm,om,none⟩) 1 cm)
 bd:Six w gh (oh+6) (.int .i64 1) (.int .i64 0) (.string ⟨#[98,111,100,121]⟩) (.slice none 0 0) (.string ⟨#[]⟩) (.slice (some ⟨gb,ob,none⟩) 1 cb)
 mt:Six w gm om (.int .i64 1) (.int .i64 0) (.string ⟨#[109,101,116,97]⟩) (.slice (some ⟨ga,oa,none⟩) 1 ca) (.string ⟨#[]⟩) (.slice none 0 0)
 at':Two w ga oa (.string ⟨#[99,104,97,114,115,101,116]⟩) (.string ⟨#[117,116,102,45,56]⟩)
 kid:Six w gb ob (.int .i64 1) (.int .i64 0) (.string ⟨#[98]⟩) (.slice none 0 0) (.string ⟨#[]⟩) (.slice a' n' c')
theorem tW.below {w w':World}{B gh oh gm om cm ga oa ca gb ob cb:Nat}{a':Option Addr}{n' c':Nat}(h:tW w gh oh gm om cm ga oa ca gb ob cb a' n' c')(hb:Below B w w')(hB:w.heap.size≤B):tW w' gh oh gm om cm ga oa ca gb ob cb a' n' c' :=
 ⟨h.hd.below hb hB,h.bd.below hb hB,h.mt.below hb hB,h.at'.below hb hB,h.kid.below hb hB⟩
theorem aBl (gh oh ch gm om cm ga oa ca gb ob cb:Nat)(a':Option Addr)(n' c':Nat)(r:Bool)(L:Int)(n:Nd)(w:World)(hP:tW w gh oh gm om cm ga oa ca gb ob cb a' n' c')
  (hn:aQ w n (elV eV (some ⟨gh,oh,none⟩) 2 ch)) (hf:eG 32 n 1000=L) (hL:0≤L)
  (HX:∀W,Below w.heap.size w W→Calls Tryz.prog 92 #[.agg #[.int .i64 1,.int .i64 0,.string ⟨#[98]⟩,.slice none 0 0,.string ⟨#[]⟩,.slice a' n' c'],.slice none 0 0] W (aB r W)) :
  Calls Tryz.prog 41 #[elV eV (some ⟨gh,oh,none⟩) 2 ch] w (aB r w):=by
 have HP:=hid hP;have HN:=hid hn;have HF:=hid hf;have HXX:=hid HX;clear hP hn hf HX;unfold elV at *
 unfold eV at *
 go_enter Tryz.func41,Tryz.ntmps41
 go_wp2_with fail
 obtain⟨W0,hW0⟩:∃W0,W0=w.alloc (.cells #[.int .i64 1,.int .i64 0,.string ⟨#[104,116,109,108]⟩,.slice none 0 0,.string ⟨#[]⟩,.slice (some ⟨gh,oh,none⟩) 2 ch] 45):=⟨_,rfl⟩
 have hB0:Below w.heap.size w W0:=by rw[hW0];exact(Below.refl _ w).alloc aN _
 have hz:W0.heap.size=w.heap.size+1:=by rw[hW0];simp
 have hQ:=bC w (.int .i64 1) (.int .i64 0) (.string ⟨#[104,116,109,108]⟩) (.slice none 0 0) (.string ⟨#[]⟩) (.slice (some ⟨gh,oh,none⟩) 2 ch);rw[←hW0]at hQ ⊢
 have HQ:=hid hQ;have HB0:=hid hB0;have HZ:=hid hz;clear hQ hB0 hz hW0;refine(aGq n.sz n aN _ 32 32 1000 L W0 (hid rfl) (by omega) (by omega) (by omega) (hid (HN.out.below HB0.out aN)) HF).mono ?_;rintro e W1 ⟨rfl,B1⟩;have hq1:=HQ.out.below B1 aN;have q0:W1.cell? ⟨w.heap.size,0,none⟩=some (.int .i64 1):=hq1.x0;have q1:W1.cell? ⟨w.heap.size,1,none⟩=some (.int .i64 0):=hq1.x1;have q2:W1.cell? ⟨w.heap.size,2,none⟩=some (.string ⟨#[104,116,109,108]⟩):=hq1.x2;have q3:W1.cell? ⟨w.heap.size,3,none⟩=some (.slice none 0 0):=hq1.x3;have q4:W1.cell? ⟨w.heap.size,4,none⟩=some (.string ⟨#[]⟩):=hq1.x4;have q5:W1.cell? ⟨w.heap.size,5,none⟩=some (.slice (some ⟨gh,oh,none⟩) 2 ch):=hq1.x5;have HQ1:=hid hq1;have HB1:=fZ HB0 B1;clear B1 hq1;have hL0:decide (L<0)=false:=by simp;omega
 go_wp2_with fail
 refine(pV ⟨#[104,116,109,108]⟩ none 0 (some ⟨gh,oh,none⟩) 2 ch W1).mono ?_;rintro e W2 ⟨rfl,B2⟩;have hq2:=HQ1.out.below B2 aN;have p5:W2.cell? ⟨w.heap.size,5,none⟩=some (.slice (some ⟨gh,oh,none⟩) 2 ch):=hq2.x5;have hb2:=HB1.out.trans (B2.mono HB1.out.size);have HQ2:=hid hq2;have HB2:=hid hb2;have hp2:=HP.out.below hb2 aN;have HP2:=hid hp2;clear B2 hq2 hb2 hp2 q0 q1 q2 q3 q4 q5 hL0;go_wp2_with fail
 obtain⟨h0,h1,h2,h3,h4,h5⟩:=HP2.out.hd;obtain⟨i0,i1,i2,i3,i4,i5⟩:=HP2.out.bd;have hg1:gh<W2.heap.size:=World.block_lt_of_cell? W2 _ h0;have hg2:w.heap.size<W2.heap.size:=World.block_lt_of_cell? W2 _ p5;have hg3:¬gh=W2.heap.size:=by omega
 have hg4:¬w.heap.size=W2.heap.size:=by omega
 have hg5:¬gh=W2.heap.size+1:=by omega
 have hg6:¬w.heap.size=W2.heap.size+1:=by omega
 have hg7:¬W2.heap.size=gh:=by omega
 have hg8:¬W2.heap.size=w.heap.size:=by omega
 go_region
 all_goals clear h0 h1 h2 h3 h4 h5 i0 i1 i2 i3 i4 i5 p5 hg1 hg2 hg3 hg4 hg5 hg6 hg7 hg8
 ·obtain⟨W5,hW5⟩:∃W5,W5=((W2.alloc (.cells #[.int .i64 1,.int .i64 0,.string ⟨#[104,101,97,100]⟩,.slice none 0 0,.string ⟨#[]⟩,.slice (some ⟨gm,om,none⟩) 1 cm] 45)).alloc (.cells #[.int .i64 1,.int .i64 0,.string ⟨#[98,111,100,121]⟩,.slice none 0 0,.string ⟨#[]⟩,.slice (some ⟨gb,ob,none⟩) 1 cb] 45)).drew:=⟨_,rfl⟩
  have hb5:Below W2.heap.size W2 W5:=by rw[hW5];exact(((Below.refl _ W2).alloc aN _).alloc (by simp) _).drew
  have s1:Six W5 W2.heap.size 0 (.int .i64 1) (.int .i64 0) (.string ⟨#[104,101,97,100]⟩) (.slice none 0 0) (.string ⟨#[]⟩) (.slice (some ⟨gm,om,none⟩) 1 cm):=by
   have h:=(bC W2 (.int .i64 1) (.int .i64 0) (.string ⟨#[104,101,97,100]⟩) (.slice none 0 0) (.string ⟨#[]⟩) (.slice (some ⟨gm,om,none⟩) 1 cm)).below ((Below.refl _ (W2.alloc (.cells #[.int .i64 1,.int .i64 0,.string ⟨#[104,101,97,100]⟩,.slice none 0 0,.string ⟨#[]⟩,.slice (some ⟨gm,om,none⟩) 1 cm] 45))).alloc aN (.cells #[.int .i64 1,.int .i64 0,.string ⟨#[98,111,100,121]⟩,.slice none 0 0,.string ⟨#[]⟩,.slice (some ⟨gb,ob,none⟩) 1 cb] 45)).drew aN;rw[hW5];exact h
  have s2:Six W5 (W2.heap.size+1) 0 (.int .i64 1) (.int .i64 0) (.string ⟨#[98,111,100,121]⟩) (.slice none 0 0) (.string ⟨#[]⟩) (.slice (some ⟨gb,ob,none⟩) 1 cb):=by
   have h:=(bC (W2.alloc (.cells #[.int .i64 1,.int .i64 0,.string ⟨#[104,101,97,100]⟩,.slice none 0 0,.string ⟨#[]⟩,.slice (some ⟨gm,om,none⟩) 1 cm] 45)) (.int .i64 1) (.int .i64 0) (.string ⟨#[98,111,100,121]⟩) (.slice none 0 0) (.string ⟨#[]⟩) (.slice (some ⟨gb,ob,none⟩) 1 cb)).below ((Below.refl _ ((W2.alloc (.cells #[.int .i64 1,.int .i64 0,.string ⟨#[104,101,97,100]⟩,.slice none 0 0,.string ⟨#[]⟩,.slice (some ⟨gm,om,none⟩) 1 cm] 45)).alloc (.cells #[.int .i64 1,.int .i64 0,.string ⟨#[98,111,100,121]⟩,.slice none 0 0,.string ⟨#[]⟩,.slice (some ⟨gb,ob,none⟩) 1 cb] 45))).drew) aN;rw[hW5];have e:(W2.alloc (.cells #[.int .i64 1,.int .i64 0,.string ⟨#[104,101,97,100]⟩,.slice none 0 0,.string ⟨#[]⟩,.slice (some ⟨gm,om,none⟩) 1 cm] 45)).heap.size=W2.heap.size+1:=by simp
   rw[e]at h
   exact h
  rw[←hW5];have SH:Hid (Six W5 (W2.heap.size) 0 (.int .i64 1) (.int .i64 0) (.string ⟨#[104,101,97,100]⟩) (.slice none 0 0) (.string ⟨#[]⟩) (.slice (some ⟨gm,om,none⟩) 1 cm)):=s1;have SB:Hid (Six W5 (W2.heap.size+1) 0 (.int .i64 1) (.int .i64 0) (.string ⟨#[98,111,100,121]⟩) (.slice none 0 0) (.string ⟨#[]⟩) (.slice (some ⟨gb,ob,none⟩) 1 cb)):=s2;have HB5:=fZ HB2 hb5;have HP5:=hid (HP2.out.below hb5 aN);clear hb5 s1 s2 hW5;have x0:W5.cell? ⟨W2.heap.size,0,none⟩=some (.int .i64 1):=SH.out.x0;have x1:W5.cell? ⟨W2.heap.size,1,none⟩=some (.int .i64 0):=SH.out.x1;have x2:W5.cell? ⟨W2.heap.size,2,none⟩=some (.string ⟨#[104,101,97,100]⟩):=SH.out.x2;have x3:W5.cell? ⟨W2.heap.size,3,none⟩=some (.slice none 0 0):=SH.out.x3;have x4:W5.cell? ⟨W2.heap.size,4,none⟩=some (.string ⟨#[]⟩):=SH.out.x4;have x5:W5.cell? ⟨W2.heap.size,5,none⟩=some (.slice (some ⟨gm,om,none⟩) 1 cm):=SH.out.x5;go_wp2_with fail
  refine(pV ⟨#[104,101,97,100]⟩ none 0 (some ⟨gm,om,none⟩) 1 cm W5).mono ?_;rintro e W6 ⟨rfl,B6⟩;have y5:W6.cell? ⟨W2.heap.size,5,none⟩=some (.slice (some ⟨gm,om,none⟩) 1 cm):=(SH.out.below B6 aN).x5;have SB6:=hid (SB.out.below B6 aN);have HP6:=hid (HP5.out.below B6 aN);have HB6:=fZ HB5 B6;clear B6 x0 x1 x2 x3 x4 x5;go_wp2_with fail
  refine(aCR gm om cm ga oa ca W6 HP6.out.mt HP6.out.at').mono ?_;unfold aB;rintro e W7 ⟨rfl,B7⟩;have z0:W7.cell? ⟨W2.heap.size+1,0,none⟩=some (.int .i64 1):=(SB6.out.below B7 aN).x0;have z1:W7.cell? ⟨W2.heap.size+1,1,none⟩=some (.int .i64 0):=(SB6.out.below B7 aN).x1;have z2:W7.cell? ⟨W2.heap.size+1,2,none⟩=some (.string ⟨#[98,111,100,121]⟩):=(SB6.out.below B7 aN).x2;have z3:W7.cell? ⟨W2.heap.size+1,3,none⟩=some (.slice none 0 0):=(SB6.out.below B7 aN).x3;have z4:W7.cell? ⟨W2.heap.size+1,4,none⟩=some (.string ⟨#[]⟩):=(SB6.out.below B7 aN).x4;have z5:W7.cell? ⟨W2.heap.size+1,5,none⟩=some (.slice (some ⟨gb,ob,none⟩) 1 cb):=(SB6.out.below B7 aN).x5;have SB7:=hid (SB6.out.below B7 aN);have HP7:=hid (HP6.out.below B7 aN);have HB7:=fZ HB6 B7;clear B7 y5;go_wp2_with fail
  refine(pV ⟨#[98,111,100,121]⟩ none 0 (some ⟨gb,ob,none⟩) 1 cb W7).mono ?_;rintro e W8 ⟨rfl,B8⟩;have u0:W8.cell? ⟨W2.heap.size+1,0,none⟩=some (.int .i64 1):=(SB7.out.below B8 aN).x0;have u1:W8.cell? ⟨W2.heap.size+1,1,none⟩=some (.int .i64 0):=(SB7.out.below B8 aN).x1;have u2:W8.cell? ⟨W2.heap.size+1,2,none⟩=some (.string ⟨#[98,111,100,121]⟩):=(SB7.out.below B8 aN).x2;have u3:W8.cell? ⟨W2.heap.size+1,3,none⟩=some (.slice none 0 0):=(SB7.out.below B8 aN).x3;have u4:W8.cell? ⟨W2.heap.size+1,4,none⟩=some (.string ⟨#[]⟩):=(SB7.out.below B8 aN).x4;have u5:W8.cell? ⟨W2.heap.size+1,5,none⟩=some (.slice (some ⟨gb,ob,none⟩) 1 cb):=(SB7.out.below B8 aN).x5;have HP8:=hid (HP7.out.below B8 aN);have HB8:=fZ HB7 B8;clear B8 z0 z1 z2 z3 z4 z5;go_wp2_with fail
  refine(aBk gb ob cb a' n' c' r W8 HP8.out.kid (fun W hW=>HXX.out W (HB8.out.trans (hW.mono HB8.out.size)))).mono ?_;unfold aB;rintro e W9 ⟨rfl,B9⟩;have HB9:=fZ HB8 B9;clear B9;go_wp2
  go_ret;exact⟨rfl,HB9.out⟩
 ·obtain⟨W5,hW5⟩:∃W5,W5=((W2.alloc (.cells #[.int .i64 1,.int .i64 0,.string ⟨#[98,111,100,121]⟩,.slice none 0 0,.string ⟨#[]⟩,.slice (some ⟨gb,ob,none⟩) 1 cb] 45)).alloc (.cells #[.int .i64 1,.int .i64 0,.string ⟨#[104,101,97,100]⟩,.slice none 0 0,.string ⟨#[]⟩,.slice (some ⟨gm,om,none⟩) 1 cm] 45)).drew:=⟨_,rfl⟩
  have hb5:Below W2.heap.size W2 W5:=by rw[hW5];exact(((Below.refl _ W2).alloc aN _).alloc (by simp) _).drew
  have s1:Six W5 W2.heap.size 0 (.int .i64 1) (.int .i64 0) (.string ⟨#[98,111,100,121]⟩) (.slice none 0 0) (.string ⟨#[]⟩) (.slice (some ⟨gb,ob,none⟩) 1 cb):=by
   have h:=(bC W2 (.int .i64 1) (.int .i64 0) (.string ⟨#[98,111,100,121]⟩) (.slice none 0 0) (.string ⟨#[]⟩) (.slice (some ⟨gb,ob,none⟩) 1 cb)).below ((Below.refl _ (W2.alloc (.cells #[.int .i64 1,.int .i64 0,.string ⟨#[98,111,100,121]⟩,.slice none 0 0,.string ⟨#[]⟩,.slice (some ⟨gb,ob,none⟩) 1 cb] 45))).alloc aN (.cells #[.int .i64 1,.int .i64 0,.string ⟨#[104,101,97,100]⟩,.slice none 0 0,.string ⟨#[]⟩,.slice (some ⟨gm,om,none⟩) 1 cm] 45)).drew aN;rw[hW5];exact h
  have s2:Six W5 (W2.heap.size+1) 0 (.int .i64 1) (.int .i64 0) (.string ⟨#[104,101,97,100]⟩) (.slice none 0 0) (.string ⟨#[]⟩) (.slice (some ⟨gm,om,none⟩) 1 cm):=by
   have h:=(bC (W2.alloc (.cells #[.int .i64 1,.int .i64 0,.string ⟨#[98,111,100,121]⟩,.slice none 0 0,.string ⟨#[]⟩,.slice (some ⟨gb,ob,none⟩) 1 cb] 45)) (.int .i64 1) (.int .i64 0) (.string ⟨#[104,101,97,100]⟩) (.slice none 0 0) (.string ⟨#[]⟩) (.slice (some ⟨gm,om,none⟩) 1 cm)).below ((Below.refl _ ((W2.alloc (.cells #[.int .i64 1,.int .i64 0,.string ⟨#[98,111,100,121]⟩,.slice none 0 0,.string ⟨#[]⟩,.slice (some ⟨gb,ob,none⟩) 1 cb] 45)).alloc (.cells #[.int .i64 1,.int .i64 0,.string ⟨#[104,101,97,100]⟩,.slice none 0 0,.string ⟨#[]⟩,.slice (some ⟨gm,om,none⟩) 1 cm] 45))).drew) aN;rw[hW5];have e:(W2.alloc (.cells #[.int .i64 1,.int .i64 0,.string ⟨#[98,111,100,121]⟩,.slice none 0 0,.string ⟨#[]⟩,.slice (some ⟨gb,ob,none⟩) 1 cb] 45)).heap.size=W2.heap.size+1:=by simp
   rw[e]at h
   exact h
  rw[←hW5];have SH:Hid (Six W5 (W2.heap.size+1) 0 (.int .i64 1) (.int .i64 0) (.string ⟨#[104,101,97,100]⟩) (.slice none 0 0) (.string ⟨#[]⟩) (.slice (some ⟨gm,om,none⟩) 1 cm)):=s2;have SB:Hid (Six W5 (W2.heap.size) 0 (.int .i64 1) (.int .i64 0) (.string ⟨#[98,111,100,121]⟩) (.slice none 0 0) (.string ⟨#[]⟩) (.slice (some ⟨gb,ob,none⟩) 1 cb)):=s1;have HB5:=fZ HB2 hb5;have HP5:=hid (HP2.out.below hb5 aN);clear hb5 s1 s2 hW5;have x0:W5.cell? ⟨W2.heap.size+1,0,none⟩=some (.int .i64 1):=SH.out.x0;have x1:W5.cell? ⟨W2.heap.size+1,1,none⟩=some (.int .i64 0):=SH.out.x1;have x2:W5.cell? ⟨W2.heap.size+1,2,none⟩=some (.string ⟨#[104,101,97,100]⟩):=SH.out.x2;have x3:W5.cell? ⟨W2.heap.size+1,3,none⟩=some (.slice none 0 0):=SH.out.x3;have x4:W5.cell? ⟨W2.heap.size+1,4,none⟩=some (.string ⟨#[]⟩):=SH.out.x4;have x5:W5.cell? ⟨W2.heap.size+1,5,none⟩=some (.slice (some ⟨gm,om,none⟩) 1 cm):=SH.out.x5;go_wp2_with fail
  refine(pV ⟨#[104,101,97,100]⟩ none 0 (some ⟨gm,om,none⟩) 1 cm W5).mono ?_;rintro e W6 ⟨rfl,B6⟩;have y5:W6.cell? ⟨W2.heap.size+1,5,none⟩=some (.slice (some ⟨gm,om,none⟩) 1 cm):=(SH.out.below B6 aN).x5;have SB6:=hid (SB.out.below B6 aN);have HP6:=hid (HP5.out.below B6 aN);have HB6:=fZ HB5 B6;clear B6 x0 x1 x2 x3 x4 x5;go_wp2_with fail
  refine(aCR gm om cm ga oa ca W6 HP6.out.mt HP6.out.at').mono ?_;unfold aB;rintro e W7 ⟨rfl,B7⟩;have z0:W7.cell? ⟨W2.heap.size,0,none⟩=some (.int .i64 1):=(SB6.out.below B7 aN).x0;have z1:W7.cell? ⟨W2.heap.size,1,none⟩=some (.int .i64 0):=(SB6.out.below B7 aN).x1;have z2:W7.cell? ⟨W2.heap.size,2,none⟩=some (.string ⟨#[98,111,100,121]⟩):=(SB6.out.below B7 aN).x2;have z3:W7.cell? ⟨W2.heap.size,3,none⟩=some (.slice none 0 0):=(SB6.out.below B7 aN).x3;have z4:W7.cell? ⟨W2.heap.size,4,none⟩=some (.string ⟨#[]⟩):=(SB6.out.below B7 aN).x4;have z5:W7.cell? ⟨W2.heap.size,5,none⟩=some (.slice (some ⟨gb,ob,none⟩) 1 cb):=(SB6.out.below B7 aN).x5;have SB7:=hid (SB6.out.below B7 aN);have HP7:=hid (HP6.out.below B7 aN);have HB7:=fZ HB6 B7;clear B7 y5;go_wp2_with fail
  refine(pV ⟨#[98,111,100,121]⟩ none 0 (some ⟨gb,ob,none⟩) 1 cb W7).mono ?_;rintro e W8 ⟨rfl,B8⟩;have u0:W8.cell? ⟨W2.heap.size,0,none⟩=some (.int .i64 1):=(SB7.out.below B8 aN).x0;have u1:W8.cell? ⟨W2.heap.size,1,none⟩=some (.int .i64 0):=(SB7.out.below B8 aN).x1;have u2:W8.cell? ⟨W2.heap.size,2,none⟩=some (.string ⟨#[98,111,100,121]⟩):=(SB7.out.below B8 aN).x2;have u3:W8.cell? ⟨W2.heap.size,3,none⟩=some (.slice none 0 0):=(SB7.out.below B8 aN).x3;have u4:W8.cell? ⟨W2.heap.size,4,none⟩=some (.string ⟨#[]⟩):=(SB7.out.below B8 aN).x4;have u5:W8.cell? ⟨W2.heap.size,5,none⟩=some (.slice (some ⟨gb,ob,none⟩) 1 cb):=(SB7.out.below B8 aN).x5;have HP8:=hid (HP7.out.below B8 aN);have HB8:=fZ HB7 B8;clear B8 z0 z1 z2 z3 z4 z5;go_wp2_with fail
  refine(aBk gb ob cb a' n' c' r W8 HP8.out.kid (fun W hW=>HXX.out W (HB8.out.trans (hW.mono HB8.out.size)))).mono ?_;unfold aB;rintro e W9 ⟨rfl,B9⟩;have HB9:=fZ HB8 B9;clear B9;go_wp2
  go_ret;exact⟨rfl,HB9.out⟩
open Go.RowKit
theorem zX (w:World)(o0 o1 o2 o3 o4:Obj):((((((w.alloc o0).alloc o1).alloc o2).alloc o3).alloc o4).heap[w.heap.size+1]?=some o1)∧((((((w.alloc o0).alloc o1).alloc o2).alloc o3).alloc o4).heap[w.heap.size+1+1+1]?=some o3)∧((((((w.alloc o0).alloc o1).alloc o2).alloc o3).alloc o4).heap[w.heap.size+1+1+1+1]?=some o4)∧Below w.heap.size w (((((w.alloc o0).alloc o1).alloc o2).alloc o3).alloc o4):=by
 have e0:(w.alloc o0).heap.size=w.heap.size+1:=by simp
 have e1:((w.alloc o0).alloc o1).heap.size=w.heap.size+1+1:=by simp
 have e2:(((w.alloc o0).alloc o1).alloc o2).heap.size=w.heap.size+1+1+1:=by simp
 have e3:((((w.alloc o0).alloc o1).alloc o2).alloc o3).heap.size=w.heap.size+1+1+1+1:=by simp
 refine⟨?_,?_,?_,?_⟩
 ·rw[Below.heap_alloc _ _ _ (by omega),Below.heap_alloc _ _ _ (by omega),Below.heap_alloc _ _ _ (by omega),←e0];exact heap_alloc_new _ _
 ·rw[Below.heap_alloc _ _ _ (by omega),←e2];exact heap_alloc_new _ _
 ·rw[←e3];exact heap_alloc_new _ _
 ·exact(((((Below.refl _ w).alloc aN _).alloc (by omega) _).alloc (by omega) _).alloc (by omega) _).alloc (by omega) _
def aKO (w:World)(gb ob cb:Nat)(a':Option Addr)(n' c':Nat)(e:Ending)(w':World):Prop :=
 ∃gh gm ga,e=.returned (elV eV (some ⟨gh,0,none⟩) 2 2)∧tW w' gh 0 gm 0 1 ga 0 1 gb ob cb a' n' c'∧Below w.heap.size w w'
theorem aEJ (gb ob cb:Nat)(a':Option Addr)(n' c':Nat)(w:World)(hk:Six w gb ob (.int .i64 1) (.int .i64 0) (.string ⟨#[98]⟩) (.slice none 0 0) (.string ⟨#[]⟩) (.slice a' n' c')) :
  Calls Tryz.prog 40 #[.slice (some ⟨gb,ob,none⟩) 1 cb] w (aKO w gb ob cb a' n' c'):=by
 have HK:=hid hk;clear hk;go_enter Tryz.func40,Tryz.ntmps40
 go_wp2
 obtain⟨h1,h3,h4,hb⟩:=zX w (.cells #[.int .i64 1,.int .i64 0,.string ⟨#[104,116,109,108]⟩,.slice none 0 0,.string ⟨#[]⟩,.slice (some ⟨w.heap.size+1+1+1+1,0,none⟩) 2 2] 45)
  (.cells #[.string ⟨#[99,104,97,114,115,101,116]⟩,.string ⟨#[117,116,102,45,56]⟩] 39)
  (.cells #[.int .i64 1,.int .i64 0,.string ⟨#[109,101,116,97]⟩,.slice (some ⟨w.heap.size+1,0,none⟩) 1 1,.string ⟨#[]⟩,.slice none 0 0] 45)
  (.cells #[.int .i64 1,.int .i64 0,.string ⟨#[109,101,116,97]⟩,.slice (some ⟨w.heap.size+1,0,none⟩) 1 1,.string ⟨#[]⟩,.slice none 0 0] 45)
  (.cells #[.int .i64 1,.int .i64 0,.string ⟨#[104,101,97,100]⟩,.slice none 0 0,.string ⟨#[]⟩,.slice (some ⟨w.heap.size+1+1+1,0,none⟩) 1 1,.int .i64 1,.int .i64 0,.string ⟨#[98,111,100,121]⟩,.slice none 0 0,.string ⟨#[]⟩,.slice (some ⟨gb,ob,none⟩) 1 cb] 45)
 refine bodyPost_ret (v:=elV eV (some ⟨w.heap.size+1+1+1+1,0,none⟩) 2 2) (by unfold elV eV;simp[results,Tryz.results40,go_sem]) rfl ⟨w.heap.size+1+1+1+1,w.heap.size+1+1+1,w.heap.size+1,rfl,⟨?_,?_,?_,?_,HK.out.below hb aN⟩,hb⟩
 ·have h:∀j,_:=fun j=>cell_of_row _ (w.heap.size+1+1+1+1) j _ 45 (0,0) h4
  exact⟨h 0,h 1,h 2,h 3,h 4,h 5⟩
 ·have h:∀j,_:=fun j=>cell_of_row _ (w.heap.size+1+1+1+1) j _ 45 (0,0) h4
  exact⟨h 6,h 7,h 8,h 9,h 10,h 11⟩
 ·have h:∀j,_:=fun j=>cell_of_row _ (w.heap.size+1+1+1) j _ 45 (0,0) h3
  exact⟨h 0,h 1,h 2,h 3,h 4,h 5⟩
 ·have h:∀j,_:=fun j=>cell_of_row _ (w.heap.size+1) j _ 39 (0,0) h1
  exact⟨h 0,h 1⟩
def dX:List (ByteArray × ByteArray):=[(⟨#[99,104,97,114,115,101,116]⟩,⟨#[117,116,102,45,56]⟩)]
open Go.RowKit
def aEw:Nd:=.mk 1 0 mP dX ⟨#[]⟩ []
def pR:Nd:=.mk 1 0 kJ [] ⟨#[]⟩ [aEw]
def uC (ks:List Nd):Nd:=.mk 1 0 gV [] ⟨#[]⟩ ks
def xF (ks:List Nd):Nd:=.mk 1 0 eV [] ⟨#[]⟩ ks
def uJ (ks:List Nd):Nd:=xF [pR,uC ks]
structure aB5 (w:World) (gh gm ga:Nat) (a:Option Addr) (n c:Nat):Prop where
 hd:Six w gh 0 (.int .i64 1) (.int .i64 0) (.string ⟨#[104,101,97,100]⟩) (.slice none 0 0) (.string ⟨#[]⟩) (.slice (some ⟨gm,0,none⟩) 1 1)
 bd:Six w gh 6 (.int .i64 1) (.int .i64 0) (.string ⟨#[98,111,100,121]⟩) (.slice none 0 0) (.string ⟨#[]⟩) (.slice a n c)
 mt:Six w gm 0 (.int .i64 1) (.int .i64 0) (.string ⟨#[109,101,116,97]⟩) (.slice (some ⟨ga,0,none⟩) 1 1) (.string ⟨#[]⟩) (.slice none 0 0)
 at':Two w ga 0 (.string ⟨#[99,104,97,114,115,101,116]⟩) (.string ⟨#[117,116,102,45,56]⟩)
theorem aB5.below {w w':World}{B gh gm ga:Nat}{a:Option Addr}{n c:Nat}(h:aB5 w gh gm ga a n c)(hb:Below B w w')(hB:w.heap.size≤B):aB5 w' gh gm ga a n c :=
 ⟨h.hd.below hb hB,h.bd.below hb hB,h.mt.below hb hB,h.at'.below hb hB⟩
theorem vO (w:World):eI w (.slice none 0 0) []:=⟨none,0,rfl,fun j h=>absurd h (by simp)⟩
theorem aJw {w:World}{ga:Nat}(h:Two w ga 0 (.string ⟨#[99,104,97,114,115,101,116]⟩) (.string ⟨#[117,116,102,45,56]⟩)):aQ w aEw (.agg #[.int .i64 1,.int .i64 0,.string mP,.slice (some ⟨ga,0,none⟩) 1 1,.string ⟨#[]⟩,.slice none 0 0]):=by
 unfold aEw aQ;refine⟨_,none,0,rfl,by simp,⟨some ⟨ga,0,none⟩,1,rfl,?_⟩,by unfold bD;trivial⟩;intro j hj;have:j=0:=by simp[dX]at hj;omega
 subst this;exact⟨ga,0,rfl,h.1,h.2⟩
theorem aJc {w:World}{gh gm ga:Nat}{a:Option Addr}{n c:Nat}(h:aB5 w gh gm ga a n c):aQ w pR (.agg #[.int .i64 1,.int .i64 0,.string kJ,.slice none 0 0,.string ⟨#[]⟩,.slice (some ⟨gm,0,none⟩) 1 1]):=by
 unfold pR aQ;refine⟨_,some ⟨gm,0,none⟩,1,rfl,by simp,vO w,?_⟩;unfold bD;exact⟨⟨gm,0,_,_,_,_,_,_,rfl,h.mt,aJw h.at'⟩,by unfold bD;trivial⟩
theorem aIA {w:World}{ks:List Nd}{a:Option Addr}{c:Nat}(hl:ks.length≤140737488355328)(hk:bD w a 0 ks):aQ w (uC ks) (.agg #[.int .i64 1,.int .i64 0,.string gV,.slice none 0 0,.string ⟨#[]⟩,.slice a ks.length c]):=by
 unfold uC aQ;exact⟨_,a,c,rfl,hl,vO w,hk⟩
theorem aJg {w:World}{x y:Nd}{g c:Nat}{c0 c1 c2 c3 c4 c5 d0 d1 d2 d3 d4 d5:Value}(h1:Six w g 0 c0 c1 c2 c3 c4 c5)(h2:Six w g 6 d0 d1 d2 d3 d4 d5)(hx:aQ w x (.agg #[c0,c1,c2,c3,c4,c5]))(hy:aQ w y (.agg #[d0,d1,d2,d3,d4,d5])):aQ w (xF [x,y]) (elV eV (some ⟨g,0,none⟩) 2 c):=by
 unfold xF aQ;refine⟨_,some ⟨g,0,none⟩,c,rfl,by simp,vO w,?_⟩;unfold bD;refine⟨⟨g,0,_,_,_,_,_,_,rfl,h1,hx⟩,?_⟩;unfold bD;exact⟨⟨g,0,_,_,_,_,_,_,rfl,h2,hy⟩,by unfold bD;trivial⟩
theorem aHx {w:World}{gh gm ga:Nat}{ks:List Nd}{a:Option Addr}{c:Nat}(h:aB5 w gh gm ga a ks.length c)(hl:ks.length≤140737488355328)(hk:bD w a 0 ks):aQ w (uJ ks) (elV eV (some ⟨gh,0,none⟩) 2 2) :=
 aJg h.hd h.bd (aJc h) (aIA hl hk)
def aM2 (w:World)(a:Option Addr)(n c:Nat)(e:Ending)(w':World):Prop :=
 ∃gh gm ga,e=.returned (elV eV (some ⟨gh,0,none⟩) 2 2)∧aB5 w' gh gm ga a n c∧Below w.heap.size w w'∧(w.heap.size≤gh∧w.heap.size≤gm∧w.heap.size≤ga∧gh≠gm∧gh≠ga)∧w'.heap[gh]?=some (.cells #[.int .i64 1,.int .i64 0,.string ⟨#[104,101,97,100]⟩,.slice none 0 0,.string ⟨#[]⟩,.slice (some ⟨gm,0,none⟩) 1 1,.int .i64 1,.int .i64 0,.string ⟨#[98,111,100,121]⟩,.slice none 0 0,.string ⟨#[]⟩,.slice a n c] 45 (0,0))
theorem aL1 (a:Option Addr)(n c:Nat)(w:World):Calls Tryz.prog 40 #[.slice a n c] w (aM2 w a n c):=by
 go_enter Tryz.func40,Tryz.ntmps40
 go_wp2
 obtain⟨h1,h3,h4,hb⟩:=zX w (.cells #[.int .i64 1,.int .i64 0,.string ⟨#[104,116,109,108]⟩,.slice none 0 0,.string ⟨#[]⟩,.slice (some ⟨w.heap.size+1+1+1+1,0,none⟩) 2 2] 45)
  (.cells #[.string ⟨#[99,104,97,114,115,101,116]⟩,.string ⟨#[117,116,102,45,56]⟩] 39)
  (.cells #[.int .i64 1,.int .i64 0,.string ⟨#[109,101,116,97]⟩,.slice (some ⟨w.heap.size+1,0,none⟩) 1 1,.string ⟨#[]⟩,.slice none 0 0] 45)
  (.cells #[.int .i64 1,.int .i64 0,.string ⟨#[109,101,116,97]⟩,.slice (some ⟨w.heap.size+1,0,none⟩) 1 1,.string ⟨#[]⟩,.slice none 0 0] 45)
  (.cells #[.int .i64 1,.int .i64 0,.string ⟨#[104,101,97,100]⟩,.slice none 0 0,.string ⟨#[]⟩,.slice (some ⟨w.heap.size+1+1+1,0,none⟩) 1 1,.int .i64 1,.int .i64 0,.string ⟨#[98,111,100,121]⟩,.slice none 0 0,.string ⟨#[]⟩,.slice a n c] 45)
 refine bodyPost_ret (v:=elV eV (some ⟨w.heap.size+1+1+1+1,0,none⟩) 2 2) (by unfold elV eV;simp[results,Tryz.results40,go_sem]) rfl ⟨w.heap.size+1+1+1+1,w.heap.size+1+1+1,w.heap.size+1,rfl,⟨?_,?_,?_,?_⟩,hb,by omega,h4⟩
 ·have h:∀j,_:=fun j=>cell_of_row _ (w.heap.size+1+1+1+1) j _ 45 (0,0) h4
  exact⟨h 0,h 1,h 2,h 3,h 4,h 5⟩
 ·have h:∀j,_:=fun j=>cell_of_row _ (w.heap.size+1+1+1+1) j _ 45 (0,0) h4
  exact⟨h 6,h 7,h 8,h 9,h 10,h 11⟩
 ·have h:∀j,_:=fun j=>cell_of_row _ (w.heap.size+1+1+1) j _ 45 (0,0) h3
  exact⟨h 0,h 1,h 2,h 3,h 4,h 5⟩
 ·have h:∀j,_:=fun j=>cell_of_row _ (w.heap.size+1) j _ 39 (0,0) h1
  exact⟨h 0,h 1⟩
open Go.RowKit
def aQ2:ByteArray:=⟨#[99,104,97,114,115,101,116]⟩
def aRg:ByteArray:=⟨#[117,116,102,45,56]⟩
def uI (X:Nd):Nd:=.mk 1 0 eV [] sMt [.mk 1 0 kJ [] sMt [.mk 1 0 mP [(aQ2,aRg)] sMt []],.mk 1 0 gV [] sMt [X]]
def xN:Nd:=.mk 1 0 sB [] sMt []
def aG3:Nd:=.mk 1 0 sB [] sMt [xN]
theorem nT (w:World):eI w (.slice none 0 0) []:=⟨none,0,rfl,fun j h=>absurd h (by simp)⟩
theorem aCT (w:World):aQ w xN (.agg #[.int .i64 1,.int .i64 0,.string ⟨#[98]⟩,.slice none 0 0,.string ⟨#[]⟩,.slice none 0 0]):=by
 unfold xN aQ;exact⟨_,none,0,rfl,by simp,nT w,by unfold bD;trivial⟩
theorem aM8 (w:World)(g o c:Nat)(h:Six w g o (.int .i64 1) (.int .i64 0) (.string ⟨#[98]⟩) (.slice none 0 0) (.string ⟨#[]⟩) (.slice none 0 0)):aQ w aG3 (.agg #[.int .i64 1,.int .i64 0,.string ⟨#[98]⟩,.slice none 0 0,.string ⟨#[]⟩,.slice (some ⟨g,o,none⟩) 1 c]):=by
 unfold aG3 aQ;refine⟨_,some ⟨g,o,none⟩,c,rfl,by simp,nT w,?_⟩;unfold bD;refine⟨⟨g,o,_,_,_,_,_,_,rfl,h,aCT w⟩,?_⟩;unfold bD;trivial
theorem aCX {w:World}{gh oh ch gm om cm ga oa ca gb ob cb:Nat}{a':Option Addr}{n' c':Nat}{X:Nd}(h:tW w gh oh gm om cm ga oa ca gb ob cb a' n' c')
  (hX:aQ w X (.agg #[.int .i64 1,.int .i64 0,.string ⟨#[98]⟩,.slice none 0 0,.string ⟨#[]⟩,.slice a' n' c'])):aQ w (uI X) (elV eV (some ⟨gh,oh,none⟩) 2 ch):=by
 unfold uI aQ;refine⟨_,some ⟨gh,oh,none⟩,ch,rfl,by simp,nT w,?_⟩;unfold bD;refine⟨⟨gh,oh,_,_,_,_,_,_,rfl,h.hd,?_⟩,?_⟩
 ·unfold aQ;refine⟨_,some ⟨gm,om,none⟩,cm,rfl,by simp,nT w,?_⟩;unfold bD;refine⟨⟨gm,om,_,_,_,_,_,_,rfl,h.mt,?_⟩,by unfold bD;trivial⟩;unfold aQ;refine⟨_,none,0,rfl,by simp,⟨some ⟨ga,oa,none⟩,ca,rfl,?_⟩,by unfold bD;trivial⟩;intro j hj;have:j=0:=by simp at hj;omega
  subst this;exact⟨ga,oa,rfl,h.at'.1,h.at'.2⟩
 ·unfold bD;refine⟨⟨gh,oh,_,_,_,_,_,_,rfl,h.bd,?_⟩,by unfold bD;trivial⟩;unfold aQ;refine⟨_,some ⟨gb,ob,none⟩,cb,rfl,by simp,nT w,?_⟩;unfold bD;exact⟨⟨gb,ob,_,_,_,_,_,_,rfl,h.kid,hX⟩,by unfold bD;trivial⟩
theorem aLs:eG 32 (uI xN) 1000=995:=by decide +kernel
theorem aPH:eG 32 (uI aG3) 1000=994:=by decide +kernel
theorem aNS:aP ⟨#[108,105]⟩ 8:=fun w=>kS ⟨#[108,105]⟩ w
theorem aFK:aP ⟨#[115,99,114,105,112,116]⟩ 1:=fun w=>kS ⟨#[115,99,114,105,112,116]⟩ w
theorem aFj (w:World)(c0 c1 c2 c3 c4 c5 d0 d1 d2 d3 d4 d5 e0 e1 e2 e3 e4 e5:Value) :
  Six (((w.alloc (.cells #[c0,c1,c2,c3,c4,c5] 45)).alloc (.cells #[d0,d1,d2,d3,d4,d5] 45)).alloc (.cells #[e0,e1,e2,e3,e4,e5] 45)) w.heap.size 0 c0 c1 c2 c3 c4 c5 ∧
  Six (((w.alloc (.cells #[c0,c1,c2,c3,c4,c5] 45)).alloc (.cells #[d0,d1,d2,d3,d4,d5] 45)).alloc (.cells #[e0,e1,e2,e3,e4,e5] 45)) (w.heap.size+1) 0 d0 d1 d2 d3 d4 d5 ∧
  Six (((w.alloc (.cells #[c0,c1,c2,c3,c4,c5] 45)).alloc (.cells #[d0,d1,d2,d3,d4,d5] 45)).alloc (.cells #[e0,e1,e2,e3,e4,e5] 45)) (w.heap.size+1+1) 0 e0 e1 e2 e3 e4 e5 ∧
  Below w.heap.size w (((w.alloc (.cells #[c0,c1,c2,c3,c4,c5] 45)).alloc (.cells #[d0,d1,d2,d3,d4,d5] 45)).alloc (.cells #[e0,e1,e2,e3,e4,e5] 45)):=by
 have z1:(w.alloc (.cells #[c0,c1,c2,c3,c4,c5] 45)).heap.size=w.heap.size+1:=by simp
 have z2:((w.alloc (.cells #[c0,c1,c2,c3,c4,c5] 45)).alloc (.cells #[d0,d1,d2,d3,d4,d5] 45)).heap.size=w.heap.size+1+1:=by simp
 refine⟨?_,?_,?_,?_⟩
 ·exact(bC w c0 c1 c2 c3 c4 c5).below (((Below.refl _ _).alloc aN _).alloc (by simp) _) aN
 ·have h:=(bC (w.alloc (.cells #[c0,c1,c2,c3,c4,c5] 45)) d0 d1 d2 d3 d4 d5).below ((Below.refl _ _).alloc aN (.cells #[e0,e1,e2,e3,e4,e5] 45)) aN;rw[z1]at h
  exact h
 ·have h:=bC ((w.alloc (.cells #[c0,c1,c2,c3,c4,c5] 45)).alloc (.cells #[d0,d1,d2,d3,d4,d5] 45)) e0 e1 e2 e3 e4 e5;rw[z2]at h
  exact h
 ·exact(((Below.refl _ w).alloc aN _).alloc (by omega) _).alloc (by omega) _
theorem aOz (w:World)(T:aA w):Calls Tryz.prog 23 #[] w (aB true w):=by
 have HT:=hid T;clear T;have V1:=hid aME;have V2:=hid aMF;have L2:=hid aLP;have S2:=hid aHW;unfold v1 sA kK at V1;unfold v2 sA kK at V2;unfold v2 at L2;go_enter Tryz.func23,Tryz.ntmps23
 go_wp2_with fail
 refine(V1.out w HT.out).mono ?_;rintro e W1 ⟨rfl,B1⟩;have HB1:=hid B1;have HT1:=hid (HT.out.below HB1.out aN);clear B1;go_wp2_with fail
 refine(V2.out W1 HT1.out).mono ?_;rintro e W2 ⟨rfl,B2⟩;have HB2:=fZ HB1 B2;have HT2:=hid (HT.out.below HB2.out aN);clear B2;go_wp2_with fail
 refine(L2.out W2 HT2.out).mono ?_;rintro e W3 ⟨rfl,B3⟩;have HB3:=fZ HB2 B3;have HT3:=hid (HT.out.below HB3.out aN);clear B3;go_wp2_with fail
 refine(S2.out W3 HT3.out).mono ?_;rintro e W4 ⟨rfl,B4⟩;have HB4:=fZ HB3 B4;clear B4;go_wp2_with fail
 obtain⟨s1,s2,s3,hb⟩:=aFj W4 (.int .i64 1) (.int .i64 0) (.string ⟨#[98]⟩) (.slice none 0 0) (.string ⟨#[]⟩) (.slice none 0 0) (.int .i64 1) (.int .i64 0) (.string ⟨#[98]⟩) (.slice none 0 0) (.string ⟨#[]⟩) (.slice none 0 0) (.int .i64 1) (.int .i64 0) (.string ⟨#[98]⟩) (.slice none 0 0) (.string ⟨#[]⟩) (.slice (some ⟨W4.heap.size+1,0,none⟩) 1 1);obtain⟨W5,hW5⟩:∃W5,W5=((W4.alloc (.cells #[.int .i64 1,.int .i64 0,.string ⟨#[98]⟩,.slice none 0 0,.string ⟨#[]⟩,.slice none 0 0] 45)).alloc (.cells #[.int .i64 1,.int .i64 0,.string ⟨#[98]⟩,.slice none 0 0,.string ⟨#[]⟩,.slice none 0 0] 45)).alloc (.cells #[.int .i64 1,.int .i64 0,.string ⟨#[98]⟩,.slice none 0 0,.string ⟨#[]⟩,.slice (some ⟨W4.heap.size+1,0,none⟩) 1 1] 45):=⟨_,rfl⟩
 rw[←hW5]at s1 s2 s3 hb ⊢
 clear hW5;have HB5:=fZ HB4 hb;have S1:=hid s1;have S2':=hid s2;have S3:=hid s3;clear s1 s2 s3 hb;refine(aNS W5).mono ?_;rintro e w' ⟨rfl,rfl⟩;go_wp2_with fail
 refine(aFK W5).mono ?_;rintro e w' ⟨rfl,rfl⟩;go_wp2_with fail
 refine(uE ⟨#[117,108]⟩ ⟨#[108,105]⟩ W5).mono ?_;have hm:mY (⟨#[117,108]⟩:ByteArray).data.toList (⟨#[108,105]⟩:ByteArray).data.toList=true:=by decide +kernel
 rw[hm];rintro e w' ⟨rfl,rfl⟩;clear hm;go_wp2_with fail
 refine(uE ⟨#[98]⟩ ⟨#[98]⟩ W5).mono ?_;have hm:mY (⟨#[98]⟩:ByteArray).data.toList (⟨#[98]⟩:ByteArray).data.toList=false:=by decide +kernel
 rw[hm];rintro e w' ⟨rfl,rfl⟩;clear hm;have x0:W5.cell? ⟨W4.heap.size,0,none⟩=some (.int .i64 1):=S1.out.x0;have x1:W5.cell? ⟨W4.heap.size,1,none⟩=some (.int .i64 0):=S1.out.x1;have x2:W5.cell? ⟨W4.heap.size,2,none⟩=some (.string ⟨#[98]⟩):=S1.out.x2;have x3:W5.cell? ⟨W4.heap.size,3,none⟩=some (.slice none 0 0):=S1.out.x3;have x4:W5.cell? ⟨W4.heap.size,4,none⟩=some (.string ⟨#[]⟩):=S1.out.x4;have x5:W5.cell? ⟨W4.heap.size,5,none⟩=some (.slice none 0 0):=S1.out.x5;go_wp2_with fail
 clear x0 x1 x2 x3 x4 x5;refine(aEJ W5.heap.size 0 1 none 0 0 _ (bC W5 (.int .i64 1) (.int .i64 0) (.string ⟨#[98]⟩) (.slice none 0 0) (.string ⟨#[]⟩) (.slice none 0 0))).mono ?_;rintro e W6 ⟨gh,gm,ga,rfl,P6,B6⟩;have hb6:Below W5.heap.size W5 W6:=((Below.refl _ W5).alloc aN _).trans (B6.mono (by simp));have HB6:=fZ HB5 hb6;have S26:=hid (S2'.out.below hb6 aN);have S36:=hid (S3.out.below hb6 aN);have HP6:=hid P6;clear hb6 B6 P6;go_wp2_with fail
 refine(aBl gh 0 2 gm 0 1 ga 0 1 W5.heap.size 0 1 none 0 0 true 995 (uI xN) W6 HP6.out (aCX HP6.out (aCT W6)) aLs (by omega) (fun W _=>aHp W)).mono ?_;unfold aB;rintro e W7 ⟨rfl,B7⟩;have HB7:=fZ HB6 B7;have S27:=hid (S26.out.below B7 aN);have s37:=S36.out.below B7 aN;have x0:W7.cell? ⟨W4.heap.size+1+1,0,none⟩=some (.int .i64 1):=s37.x0;have x1:W7.cell? ⟨W4.heap.size+1+1,1,none⟩=some (.int .i64 0):=s37.x1;have x2:W7.cell? ⟨W4.heap.size+1+1,2,none⟩=some (.string ⟨#[98]⟩):=s37.x2;have x3:W7.cell? ⟨W4.heap.size+1+1,3,none⟩=some (.slice none 0 0):=s37.x3;have x4:W7.cell? ⟨W4.heap.size+1+1,4,none⟩=some (.string ⟨#[]⟩):=s37.x4;have x5:W7.cell? ⟨W4.heap.size+1+1,5,none⟩=some (.slice (some ⟨W4.heap.size+1,0,none⟩) 1 1):=s37.x5;clear B7 s37;go_wp2_with fail
 clear x0 x1 x2 x3 x4 x5;refine(aEJ W7.heap.size 0 1 (some ⟨W4.heap.size+1,0,none⟩) 1 1 _ (bC W7 (.int .i64 1) (.int .i64 0) (.string ⟨#[98]⟩) (.slice none 0 0) (.string ⟨#[]⟩) (.slice (some ⟨W4.heap.size+1,0,none⟩) 1 1))).mono ?_;rintro e W8 ⟨gh2,gm2,ga2,rfl,P8,B8⟩;have hb8:Below W7.heap.size W7 W8:=((Below.refl _ W7).alloc aN _).trans (B8.mono (by simp));have HB8:=fZ HB7 hb8;have S28:=hid (S27.out.below hb8 aN);have HP8:=hid P8;clear hb8 B8 P8;go_wp2_with fail
 refine(aBl gh2 0 2 gm2 0 1 ga2 0 1 W7.heap.size 0 1 (some ⟨W4.heap.size+1,0,none⟩) 1 1 false 994 (uI aG3) W8 HP8.out (aCX HP8.out (aM8 W8 _ _ _ S28.out)) aPH (by omega) (fun W hW=>aJf (W4.heap.size+1) 0 1 W (S28.out.below hW aN))).mono ?_;unfold aB;rintro e W9 ⟨rfl,B9⟩;have HB9:=fZ HB8 B9;clear B9;go_wp2
 go_ret;exact⟨rfl,HB9.out⟩
end Go.Proofs.YtcfgbdhpcboikaaGreatDoor
