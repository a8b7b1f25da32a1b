/-
policy.elem, plain, text; Attrs and Equal of no attributes.
-/
import Derived.Shelf.SlSortCmp.WholeK
import Derived.Test.YtcfgbdhpcboikaaGreatDoorFormV
namespace Go.Proofs.YtcfgbdhpcboikaaGreatDoor
open Go.Lib (hid)
set_option maxHeartbeats 4000000
set_option maxRecDepth 100000
open Go.RowKit
theorem gC {α:Type}{a:Option α}{f g:α}(h:a=some f)(e:f=g):a=some g:=h.trans (congrArg some e)
theorem cS {n:Nat}:n≤n:=Nat.le_refl n
def sMt:ByteArray:=⟨#[]⟩
theorem vG (nm:ByteArray)(av kv:Value)(w:World) :
  Calls Tryz.prog 149 #[.agg #[.int .i64 1,.int .i64 0,.string nm,av,.string ⟨#[]⟩,kv]] w fun e w'=>e=.returned (.bool true)∧Below w.heap.size w w':=by
 go_enter Tryz.func149,Tryz.ntmps149
 go_wp2
 go_ret;exact⟨rfl,(Below.refl _ w).alloc cS _⟩
theorem pV (nm:ByteArray)(a:Option Addr)(c:Nat)(a':Option Addr)(n' c':Nat)(w:World) :
  Calls Tryz.prog 90 #[.agg #[.int .i64 1,.int .i64 0,.string nm,.slice a 0 c,.string ⟨#[]⟩,.slice a' n' c'],.string nm] w fun e w'=>e=.returned (.bool true)∧Below w.heap.size w w':=by
 go_enter Tryz.func90,Tryz.ntmps90
 go_wp2_with fail
 refine(vG nm (.slice a 0 c) (.slice a' n' c') _).mono ?_;rintro e W1 ⟨rfl,B1⟩;have hB:=(Below.refl w.heap.size w).alloc cS (.cells #[.int .i64 1,.int .i64 0,.string nm,.slice a 0 c,.string ⟨#[]⟩,.slice a' n' c'] 45);have x2:W1.cell? ⟨w.heap.size,2,none⟩=some (.string nm):=by rw[B1.cell (p:=⟨w.heap.size,2,none⟩) (by simp),cell_of_row _ w.heap.size 2 _ 45 (0,0) (heap_alloc_new w _)];rfl
 have x3:W1.cell? ⟨w.heap.size,3,none⟩=some (.slice a 0 c):=by rw[B1.cell (p:=⟨w.heap.size,3,none⟩) (by simp),cell_of_row _ w.heap.size 3 _ 45 (0,0) (heap_alloc_new w _)];rfl
 have HB1:=hid (hB.trans (B1.mono (by simp)));clear B1 hB;go_wp2
 go_ret;refine⟨?_,HB1.out⟩;simp
theorem aGR (k:Int)(hk:(k==2)=false)(sp:Int)(nm tx:ByteArray)(av kv:Value)(w:World) :
  Calls Tryz.prog 151 #[.agg #[.int .i64 k,.int .i64 sp,.string nm,av,.string tx,kv]] w fun e w'=>e=.returned (.bool false)∧Below w.heap.size w w':=by
 go_enter Tryz.func151,Tryz.ntmps151
 go_wp2
 go_quiet (fail)
 go_wp2
 go_ret;exact⟨rfl,((Below.refl _ w).alloc cS _).trans ((below_drewNm _ nq).mono (by simp))⟩
theorem aIQ (a b:Option Addr)(c d:Nat)(w:World):Calls Tryz.prog 150 #[.slice a 0 c,.slice b 0 d] w fun e w'=>e=.returned (.bool true)∧w=w':=by
 go_enter Tryz.func150,Tryz.ntmps150
 go_wp2
 refine wp_loop_rounds 1 ?_;rw[rounds_succ];go_wp2
 go_ret;exact⟨rfl,rfl⟩
open Go.RowKit
theorem aDq (cmp:Value)(w:World):Calls Tryz.prog 182 #[.slice none 0 0,.int .i64 0,.int .i64 0,cmp] w fun e w'=>e=.returned (.tuple #[])∧w=w':=by
 go_enter Tryz.func182,Tryz.ntmps182
 go_wp2
 refine wp_loop_rounds 1 ?_;rw[rounds_succ];go_wp2
 go_end0
 exact⟨rfl,rfl⟩
theorem aOc (cmp:Value)(lim:Int)(w:World):Calls Tryz.prog 146 #[.slice none 0 0,.int .i64 0,.int .i64 0,.int .i64 lim,cmp] w fun e w'=>e=.returned (.tuple #[])∧w=w':=by
 go_enter Tryz.func146,Tryz.ntmps146
 go_wp2
 refine wp_loop_rounds 1 ?_;rw[rounds_succ];go_wp2_with fail
 refine(aDq cmp w).mono ?_;rintro e w' ⟨rfl,rfl⟩;go_wp2
 trace_state
 exact bodyPost_ret (v:=.tuple #[]) (by simp[results,Tryz.results146,go_sem]) rfl ⟨rfl,rfl⟩
theorem aLN (w:World):Calls Tryz.prog 147 #[.int .u64 0] w fun e w'=>e=.returned (.int .i64 0)∧w=w':=by
 go_enter Tryz.func147,Tryz.ntmps147
 go_wp2_with fail
 refine(Tryz.bits_Len64 0 w (by omega) (by omega)).mono ?_;rintro e w' ⟨rfl,hw⟩;subst hw;go_wp2
 go_ret;exact⟨rfl,rfl⟩
theorem aFg (cmp:Value)(w:World):Calls Tryz.prog 86 #[.slice none 0 0,cmp] w fun e w'=>e=.returned (.tuple #[])∧w=w':=by
 go_enter Tryz.func86,Tryz.ntmps86
 go_wp2_with fail
 refine(aLN w).mono ?_;rintro e w' ⟨rfl,rfl⟩;go_wp2_with fail
 refine(aOc cmp _ w).mono ?_;rintro e w' ⟨rfl,rfl⟩;go_wp2
 go_end0
 exact⟨rfl,rfl⟩
theorem aIv (e:ByteArray)(a:Option Addr)(c:Nat)(w:World):Calls Tryz.prog 38 #[.string e,.slice a 0 c] w fun e w'=>e=.returned (.slice none 0 0)∧w=w':=by
 go_enter Tryz.func38,Tryz.ntmps38
 go_wp2
 refine wp_loop_rounds 1 ?_;rw[rounds_succ];go_wp2_with fail
 refine(aFg _ w).mono ?_;rintro x w' ⟨rfl,rfl⟩;go_wp2
 go_ret;exact⟨rfl,rfl⟩
open Go.RowKit
theorem bC (w:World)(c0 c1 c2 c3 c4 c5:Value):Six (w.alloc (.cells #[c0,c1,c2,c3,c4,c5] 45)) w.heap.size 0 c0 c1 c2 c3 c4 c5:=by
 have h:∀j,(w.alloc (.cells #[c0,c1,c2,c3,c4,c5] 45)).cell? ⟨w.heap.size,j,none⟩=(#[c0,c1,c2,c3,c4,c5]:Array Value)[j]?:=fun j=>cell_of_row _ w.heap.size j _ 45 (0,0) (heap_alloc_new w _)
 exact⟨h 0,h 1,h 2,h 3,h 4,h 5⟩
def sB:ByteArray:=⟨#[98]⟩
theorem Tryz.info9:(Tryz.prog.info? 9).map (fun i=>(i.zero,i.size,i.bytes))=some (some (.string ⟨#[]⟩),1,16):=by kernel_rfl
theorem aGy:aP sB 4:=fun w=>kS sB w
def elV (nm:ByteArray)(a:Option Addr)(n c:Nat):Value:=.agg #[.int .i64 1,.int .i64 0,.string nm,.slice none 0 0,.string ⟨#[]⟩,.slice a n c]
theorem aHp (w:World):Calls Tryz.prog 92 #[elV sB none 0 0,.slice none 0 0] w fun e w'=>e=.returned (.bool true)∧Below w.heap.size w w':=by
 obtain⟨i0,hi,hz0,hz1,hz2⟩:=info_parts Tryz.info9;have HK:=hid aGy;unfold elV;unfold sB at *
 go_enter Tryz.func92,Tryz.ntmps92
 go_wp2_with fail
 refine(HK.out _).mono ?_;rintro e w' ⟨rfl,rfl⟩;go_wp2_with fail
 obtain⟨W0,hW0⟩:∃W0,W0=w.alloc (.cells #[.int .i64 1,.int .i64 0,.string ⟨#[98]⟩,.slice none 0 0,.string ⟨#[]⟩,.slice none 0 0] 45):=⟨_,rfl⟩
 have hB0:Below w.heap.size w W0:=by rw[hW0];exact(Below.refl _ w).alloc cS _
 have hc2:W0.cell? ⟨w.heap.size,2,none⟩=some (.string ⟨#[98]⟩):=by rw[hW0,cell_of_row _ w.heap.size 2 _ 45 (0,0) (heap_alloc_new w _)];rfl
 have hc5:W0.cell? ⟨w.heap.size,5,none⟩=some (.slice none 0 0):=by rw[hW0,cell_of_row _ w.heap.size 5 _ 45 (0,0) (heap_alloc_new w _)];rfl
 have hz:W0.heap.size=w.heap.size+1:=by rw[hW0];simp
 rw[←hW0];have HB0:=hid hB0;have HZ:=hid hz;obtain⟨S,hS⟩:∃S:World→Prop,∀u,S u↔Below W0.heap.size W0 u:=⟨_,fun _=>Iff.rfl⟩
 have f1:∀s:WIn S,s.w.cell? ⟨w.heap.size,2,none⟩=some (.string ⟨#[98]⟩):=fun s=>by rw[((hS _).1 s.h).cell (p:=⟨w.heap.size,2,none⟩) (by rw[hz];simp)];exact hc2
 haveI:Nonempty (WIn S):=⟨⟨W0,(hS _).2 (Below.refl _ _)⟩⟩
 have HS:=hid hS;have HC5:=hid hc5;clear hS hB0 hz hW0 hc5;refine dI 10 [([0,1,2,3,4,5,6,7],8),([],9)] [] S (by kernel_rfl) (by kernel_rfl) ((HS.out _).2 (below_drewNm W0 1)) ?_;refine bE (fun K' hK'=>?_);simp only[pick,pickZ,pickS,pickG];repeat (go_big_quiet_step (fail))
 refine wpQuiet_nil (hK' _ (fun Q1 hQ1=>?_));clear hK' K';simp only[pick,pickZ,pickS,pickG];go_wp2
 have hB1:Below W0.heap.size W0 ((W0.drewN 1).alloc (.cells #[.string ⟨#[98]⟩] 9)):=(below_drewNm W0 1).alloc cS _;have HB1:=hid hB1;refine hQ1 _ _ ((HS.out _).2 hB1) (bE (fun K' hK'=>wpQuiet_nil (hK' _ (fun Q2 hQ2=>?_))));clear hK' K' hQ1 Q1 hB1;simp only[pick,pickZ,pickS,pickG];go_wp2_with (at_builtin;refine wpList_append_ownF _ rfl _ _ 55 rfl W0.heap.size 9 i0 (.string ⟨#[]⟩) 1 16 Tryz.underlying55 hi hz0 hz1 hz2 rfl (by decide) (.slice none 0 0) 0 [] rfl (World.ownsRowF_nil _ _ _ _) ⟨W0.heap.size,0,none⟩ 1 1 [.string ⟨#[98]⟩] rfl rfl ?c1 ?c2 ?c3 ?c4 ?c5 ?_)
 case c1 =>
  intro j u hu;cases j with
  | zero=>simp at hu;subst hu;exact cell_of_row _ W0.heap.size 0 _ 9 (0,0) (heap_alloc_new (W0.drewN 1) _)
  | succ j=>simp at hu
 case c2=>intro u hu;simp at hu;subst hu;rfl
 case c3=>unfold maxLen;omega
 case c4=>omega
 case c5=>simp
 intro v' w2 hown hgrow _;have hB2:Below W0.heap.size W0 w2:=HB1.out.grown hgrow (by have:=HB1.out.size;omega) (fun k hk=>by simp[Value.ownBlock]at hk);have HB2:=hid hB2;clear hB2 hown hgrow;refine hQ2 _ _ ((HS.out _).2 HB2.out) (dP (fun K' hK'=>?_));clear hQ2 Q2;simp only[pick];refine wpQuiet_nil (hK' _ (fun Q3 hQ3=>?_));clear hK' K';simp only[List.drop_succ_cons,List.drop_zero];have c5:w2.cell? ⟨w.heap.size,5,none⟩=some (.slice none 0 0):=by rw[HB2.out.cell (p:=⟨w.heap.size,5,none⟩) (by rw[HZ.out];simp)];exact HC5.out
 clear hc2 f1;go_wp2_with fail
 refine wp_loop_rounds 1 ?_;rw[rounds_succ];go_wp2
 go_ret;exact⟨rfl,HB0.out.trans (HB2.out.mono HB0.out.size)⟩
theorem aJf (g off c:Nat)(w:World)(hx:Six w g off (.int .i64 1) (.int .i64 0) (.string ⟨#[98]⟩) (.slice none 0 0) (.string ⟨#[]⟩) (.slice none 0 0)):Calls Tryz.prog 92 #[elV sB (some ⟨g,off,none⟩) 1 c,.slice none 0 0] w fun e w'=>e=.returned (.bool false)∧Below w.heap.size w w':=by
 obtain⟨i0,hi,hz0,hz1,hz2⟩:=info_parts Tryz.info9;have HX:=hid hx;clear hx;have HK:=hid aGy;unfold elV;unfold sB at *
 go_enter Tryz.func92,Tryz.ntmps92
 go_wp2_with fail
 refine(HK.out _).mono ?_;rintro e w' ⟨rfl,rfl⟩;go_wp2_with fail
 obtain⟨W0,hW0⟩:∃W0,W0=w.alloc (.cells #[.int .i64 1,.int .i64 0,.string ⟨#[98]⟩,.slice none 0 0,.string ⟨#[]⟩,.slice (some ⟨g,off,none⟩) 1 c] 45):=⟨_,rfl⟩
 have hB0:Below w.heap.size w W0:=by rw[hW0];exact(Below.refl _ w).alloc cS _
 have hc2:W0.cell? ⟨w.heap.size,2,none⟩=some (.string ⟨#[98]⟩):=by rw[hW0,cell_of_row _ w.heap.size 2 _ 45 (0,0) (heap_alloc_new w _)];rfl
 have hc5:W0.cell? ⟨w.heap.size,5,none⟩=some (.slice (some ⟨g,off,none⟩) 1 c):=by rw[hW0,cell_of_row _ w.heap.size 5 _ 45 (0,0) (heap_alloc_new w _)];rfl
 have hz:W0.heap.size=w.heap.size+1:=by rw[hW0];simp
 rw[←hW0];have HB0:=hid hB0;have HZ:=hid hz;obtain⟨S,hS⟩:∃S:World→Prop,∀u,S u↔Below W0.heap.size W0 u:=⟨_,fun _=>Iff.rfl⟩
 have f1:∀s:WIn S,s.w.cell? ⟨w.heap.size,2,none⟩=some (.string ⟨#[98]⟩):=fun s=>by rw[((hS _).1 s.h).cell (p:=⟨w.heap.size,2,none⟩) (by rw[hz];simp)];exact hc2
 haveI:Nonempty (WIn S):=⟨⟨W0,(hS _).2 (Below.refl _ _)⟩⟩
 have HS:=hid hS;have HC5:=hid hc5;clear hS hB0 hz hW0 hc5;refine dI 10 [([0,1,2,3,4,5,6,7],8),([],9)] [] S (by kernel_rfl) (by kernel_rfl) ((HS.out _).2 (below_drewNm W0 1)) ?_;refine bE (fun K' hK'=>?_);simp only[pick,pickZ,pickS,pickG];repeat (go_big_quiet_step (fail))
 refine wpQuiet_nil (hK' _ (fun Q1 hQ1=>?_));clear hK' K';simp only[pick,pickZ,pickS,pickG];go_wp2
 have hB1:Below W0.heap.size W0 ((W0.drewN 1).alloc (.cells #[.string ⟨#[98]⟩] 9)):=(below_drewNm W0 1).alloc cS _;have HB1:=hid hB1;refine hQ1 _ _ ((HS.out _).2 hB1) (bE (fun K' hK'=>wpQuiet_nil (hK' _ (fun Q2 hQ2=>?_))));clear hK' K' hQ1 Q1 hB1;simp only[pick,pickZ,pickS,pickG];go_wp2_with (at_builtin;refine wpList_append_ownF _ rfl _ _ 55 rfl W0.heap.size 9 i0 (.string ⟨#[]⟩) 1 16 Tryz.underlying55 hi hz0 hz1 hz2 rfl (by decide) (.slice none 0 0) 0 [] rfl (World.ownsRowF_nil _ _ _ _) ⟨W0.heap.size,0,none⟩ 1 1 [.string ⟨#[98]⟩] rfl rfl ?c1 ?c2 ?c3 ?c4 ?c5 ?_)
 case c1 =>
  intro j u hu;cases j with
  | zero=>simp at hu;subst hu;exact cell_of_row _ W0.heap.size 0 _ 9 (0,0) (heap_alloc_new (W0.drewN 1) _)
  | succ j=>simp at hu
 case c2=>intro u hu;simp at hu;subst hu;rfl
 case c3=>unfold maxLen;omega
 case c4=>omega
 case c5=>simp
 intro v' w2 hown hgrow _;have hB2:Below W0.heap.size W0 w2:=HB1.out.grown hgrow (by have:=HB1.out.size;omega) (fun k hk=>by simp[Value.ownBlock]at hk);have HB2:=hid hB2;clear hB2 hown hgrow;refine hQ2 _ _ ((HS.out _).2 HB2.out) (dP (fun K' hK'=>?_));clear hQ2 Q2;simp only[pick];refine wpQuiet_nil (hK' _ (fun Q3 hQ3=>?_));clear hK' K';simp only[List.drop_succ_cons,List.drop_zero];have c5:w2.cell? ⟨w.heap.size,5,none⟩=some (.slice (some ⟨g,off,none⟩) 1 c):=by rw[HB2.out.cell (p:=⟨w.heap.size,5,none⟩) (by rw[HZ.out];simp)];exact HC5.out
 have HC2:=hid hc2;clear hc2 f1;obtain⟨y0,y1,y2,y3,y4,y5⟩:=(HX.out.below (HB0.out.trans (HB2.out.mono HB0.out.size)) cS)
 go_wp2_with fail
 refine wp_loop_rounds 1 ?_;rw[rounds_succ];go_wp2_with fail
 have hS0:=bC w2 (.int .i64 1) (.int .i64 0) (.string ⟨#[98]⟩) (.slice none 0 0) (.string ⟨#[]⟩) (.slice none 0 0);have hB3:Below w2.heap.size w2 (w2.alloc (.cells #[.int .i64 1,.int .i64 0,.string ⟨#[98]⟩,.slice none 0 0,.string ⟨#[]⟩,.slice none 0 0] 45)):=(Below.refl _ w2).alloc cS _;have hz2:w.heap.size<w2.heap.size:=by have:=HB2.out.size;have:=HZ.out;omega
 have HZ2:=hid hz2;refine(aGR 1 rfl 0 ⟨#[98]⟩ ⟨#[]⟩ (.slice none 0 0) (.slice none 0 0) _).mono ?_;rintro e W3 ⟨rfl,B3⟩;have hB3':=hB3.trans (B3.mono (by simp));have hS3:=hS0.below B3 cS;have k0:W3.cell? ⟨w2.heap.size,0,none⟩=some (.int .i64 1):=hS3.x0;have k1:W3.cell? ⟨w2.heap.size,1,none⟩=some (.int .i64 0):=hS3.x1;have k2:W3.cell? ⟨w2.heap.size,2,none⟩=some (.string ⟨#[98]⟩):=hS3.x2;have k3:W3.cell? ⟨w2.heap.size,3,none⟩=some (.slice none 0 0):=hS3.x3;have k4:W3.cell? ⟨w2.heap.size,4,none⟩=some (.string ⟨#[]⟩):=hS3.x4;have k5:W3.cell? ⟨w2.heap.size,5,none⟩=some (.slice none 0 0):=hS3.x5;have HS3:=hid hS3;have HB3:=hid hB3';clear hS0 hB3 hz2 B3 hB3' hS3;go_wp2_with fail
 refine(vG ⟨#[98]⟩ (.slice none 0 0) (.slice none 0 0) W3).mono ?_;rintro e W4 ⟨rfl,B4⟩;have hS4:=HS3.out.below B4 cS;have hB4:=HB3.out.trans (B4.mono HB3.out.size);have q2:W4.cell? ⟨w2.heap.size,2,none⟩=some (.string ⟨#[98]⟩):=hS4.x2;have n2:W4.cell? ⟨w.heap.size,2,none⟩=some (.string ⟨#[98]⟩):=by
  rw[hB4.cell (p:=⟨w.heap.size,2,none⟩) HZ2.out,HB2.out.cell (p:=⟨w.heap.size,2,none⟩) (by rw[HZ.out];simp)];exact HC2.out
 have HB4:=hid hB4;clear hS4 hB4 B4 k0 k1 k2 k3 k4 k5;go_wp2_with fail
 refine(uE ⟨#[98]⟩ ⟨#[98]⟩ W4).mono ?_;have hm:mY (⟨#[98]⟩:ByteArray).data.toList (⟨#[98]⟩:ByteArray).data.toList=false:=by decide +kernel
 rw[hm];rintro e w' ⟨rfl,rfl⟩;clear hm;go_wp2
 go_ret;exact⟨rfl,HB0.out.trans ((HB2.out.trans (HB4.out.mono HB2.out.size)).mono HB0.out.size)⟩
open Go.RowKit
def gV:ByteArray:=⟨#[98,111,100,121]⟩
theorem aHr:aP gV 14:=fun w=>kS gV w
def aB (r:Bool)(w:World)(e:Ending)(w':World):Prop:=e=.returned (.bool r)∧Below w.heap.size w w'
theorem aBk (g off c:Nat)(a':Option Addr)(n' c':Nat)(r:Bool)(w:World)(hx:Six w g off (.int .i64 1) (.int .i64 0) (.string ⟨#[98]⟩) (.slice none 0 0) (.string ⟨#[]⟩) (.slice a' n' c'))
  (HX:∀W,Below w.heap.size w W→Calls Tryz.prog 92 #[.agg #[.int .i64 1,.int .i64 0,.string ⟨#[98]⟩,.slice none 0 0,.string ⟨#[]⟩,.slice a' n' c'],.slice none 0 0] W (aB r W)) :
  Calls Tryz.prog 92 #[elV gV (some ⟨g,off,none⟩) 1 c,.slice none 0 0] w (aB r w):=by
 have HX1:=hid hx;have HX2:=hid HX;have HK:=hid aHr;clear hx HX;unfold elV;unfold gV at *
 go_enter Tryz.func92,Tryz.ntmps92
 go_wp2_with fail
 refine(HK.out _).mono ?_;rintro e w' ⟨rfl,rfl⟩;go_wp2_with fail
 obtain⟨W0,hW0⟩:∃W0,W0=w.alloc (.cells #[.int .i64 1,.int .i64 0,.string ⟨#[98,111,100,121]⟩,.slice none 0 0,.string ⟨#[]⟩,.slice (some ⟨g,off,none⟩) 1 c] 45):=⟨_,rfl⟩
 have hB0:Below w.heap.size w W0:=by rw[hW0];exact(Below.refl _ w).alloc cS _
 have hz:W0.heap.size=w.heap.size+1:=by rw[hW0];simp
 have hP:=bC w (.int .i64 1) (.int .i64 0) (.string ⟨#[98,111,100,121]⟩) (.slice none 0 0) (.string ⟨#[]⟩) (.slice (some ⟨g,off,none⟩) 1 c);rw[←hW0]at hP
 try rw[←hW0]
 have HP:=hid hP;have HB0:=hid hB0;have HZ:=hid hz;clear hP hB0 hz hW0;obtain⟨y0,y1,y2,y3,y4,y5⟩:=HX1.out.below HB0.out cS;refine wp_loop_rounds 2 ?_;rw[rounds_succ];go_wp2_with fail
 have hS0:=bC W0 (.int .i64 1) (.int .i64 0) (.string ⟨#[98]⟩) (.slice none 0 0) (.string ⟨#[]⟩) (.slice a' n' c');have hB3:Below W0.heap.size W0 (W0.alloc (.cells #[.int .i64 1,.int .i64 0,.string ⟨#[98]⟩,.slice none 0 0,.string ⟨#[]⟩,.slice a' n' c'] 45)):=(Below.refl _ W0).alloc cS _;refine(aGR 1 rfl 0 ⟨#[98]⟩ ⟨#[]⟩ (.slice none 0 0) (.slice a' n' c') _).mono ?_;rintro e W3 ⟨rfl,B3⟩;have hB3':=hB3.trans (B3.mono (by simp));have hS3:=hS0.below B3 cS;have k0:W3.cell? ⟨W0.heap.size,0,none⟩=some (.int .i64 1):=hS3.x0;have k1:W3.cell? ⟨W0.heap.size,1,none⟩=some (.int .i64 0):=hS3.x1;have k2:W3.cell? ⟨W0.heap.size,2,none⟩=some (.string ⟨#[98]⟩):=hS3.x2;have k3:W3.cell? ⟨W0.heap.size,3,none⟩=some (.slice none 0 0):=hS3.x3;have k4:W3.cell? ⟨W0.heap.size,4,none⟩=some (.string ⟨#[]⟩):=hS3.x4;have k5:W3.cell? ⟨W0.heap.size,5,none⟩=some (.slice a' n' c'):=hS3.x5;have HS3:=hid hS3;have HB3:=hid hB3';clear hS0 hB3 B3 hB3' hS3;go_wp2_with fail
 refine(vG ⟨#[98]⟩ (.slice none 0 0) (.slice a' n' c') W3).mono ?_;rintro e W4 ⟨rfl,B4⟩;have hS4:=HS3.out.below B4 cS;have hB4:=HB3.out.trans (B4.mono HB3.out.size);have q2:W4.cell? ⟨W0.heap.size,2,none⟩=some (.string ⟨#[98]⟩):=hS4.x2;have n2:W4.cell? ⟨w.heap.size,2,none⟩=some (.string ⟨#[98,111,100,121]⟩):=by
  rw[hB4.cell (p:=⟨w.heap.size,2,none⟩) (by rw[HZ.out];simp)];exact HP.out.x2
 have HB4:=hid hB4;have HS4:=hid hS4;clear hS4 hB4 B4 k0 k1 k2 k3 k4 k5 y0 y1 y2 y3 y4 y5;go_wp2_with fail
 refine(uE ⟨#[98,111,100,121]⟩ ⟨#[98]⟩ W4).mono ?_;have hm:mY (⟨#[98,111,100,121]⟩:ByteArray).data.toList (⟨#[98]⟩:ByteArray).data.toList=true:=by decide +kernel
 rw[hm];rintro e w' ⟨rfl,rfl⟩;clear hm;go_wp2_with fail
 refine(Tryz.slices_Contains_string_empty none 0 ⟨#[98]⟩ W4).mono ?_;rintro e w' ⟨rfl,hw'⟩;have hw2:=hw'.symm;subst hw2;go_wp2_with fail
 obtain⟨S,hS⟩:∃S:World→Prop,∀u,S u↔Below W4.heap.size W4 u:=⟨_,fun _=>Iff.rfl⟩
 have g0:∀s:WIn S,s.w.cell? ⟨W0.heap.size,0,none⟩=some (.int .i64 1):=fun s=>(HS4.out.below ((hS _).1 s.h) cS).x0
 have g1:∀s:WIn S,s.w.cell? ⟨W0.heap.size,1,none⟩=some (.int .i64 0):=fun s=>(HS4.out.below ((hS _).1 s.h) cS).x1
 have g2:∀s:WIn S,s.w.cell? ⟨W0.heap.size,2,none⟩=some (.string ⟨#[98]⟩):=fun s=>(HS4.out.below ((hS _).1 s.h) cS).x2
 have g3:∀s:WIn S,s.w.cell? ⟨W0.heap.size,3,none⟩=some (.slice none 0 0):=fun s=>(HS4.out.below ((hS _).1 s.h) cS).x3
 have g4:∀s:WIn S,s.w.cell? ⟨W0.heap.size,4,none⟩=some (.string ⟨#[]⟩):=fun s=>(HS4.out.below ((hS _).1 s.h) cS).x4
 have g5:∀s:WIn S,s.w.cell? ⟨W0.heap.size,5,none⟩=some (.slice a' n' c'):=fun s=>(HS4.out.below ((hS _).1 s.h) cS).x5
 haveI:Nonempty (WIn S):=⟨⟨W4,(hS _).2 (Below.refl _ _)⟩⟩
 have HS:=hid hS;clear hS q2 n2;refine dI 14 [([0,1,2,3,5,6],4),([],7),([8,9,10,11],12)] [13] S (by kernel_rfl) (by kernel_rfl) ((HS.out _).2 (below_drewNm W4 1)) ?_;refine bE (fun K' hK'=>?_);simp only[pick,pickZ,pickS,pickG];repeat (go_big_quiet_step (fail))
 refine wpQuiet_nil (hK' _ (fun Q1 hQ1=>?_));clear hK' K';simp only[pick,pickZ,pickS,pickG];go_wp2_with fail
 refine(aIv ⟨#[98]⟩ none 0 _).mono ?_;rintro e w' ⟨rfl,rfl⟩;go_wp2_with fail
 refine hQ1 _ _ ((HS.out _).2 (below_drewNm W4 1)) (bE (fun K' hK'=>wpQuiet_nil (hK' _ (fun Q2 hQ2=>?_))));clear hK' K' hQ1 Q1;simp only[pick,pickZ,pickS,pickG];go_wp2_with fail
 refine(aIQ none none 0 0 _).mono ?_;rintro e w' ⟨rfl,rfl⟩;go_wp2_with fail
 refine hQ2 _ _ ((HS.out _).2 (below_drewNm W4 1)) (bE (fun K' hK'=>?_));clear hQ2 Q2;simp only[pick,pickZ,pickS,pickG];repeat (go_big_quiet_step (fail))
 refine wpQuiet_nil (hK' _ (fun Q3 hQ3=>?_));clear hK' K';simp only[pick,pickZ,pickS,pickG];go_wp2_with fail
 have hB41:Below W4.heap.size W4 (W4.drewN 1):=below_drewNm W4 1;have hBw:Below w.heap.size w (W4.drewN 1):=HB0.out.trans ((HB4.out.trans (hB41.mono HB4.out.size)).mono HB0.out.size);refine(HX2.out _ hBw).mono ?_;unfold aB;rintro e W5 ⟨rfl,B5⟩;have hB45:Below W4.heap.size W4 W5:=hB41.trans (B5.mono hB41.size);have HB5:=hid (hBw.trans (B5.mono hBw.size));have HB45:=hid hB45;clear hB41 hBw B5 hB45;go_wp2_with fail
 refine hQ3 _ _ ((HS.out _).2 HB45.out) (dP (fun K' hK'=>?_));clear hQ3 Q3;simp only[pick,pickZ,pickS,pickG];repeat (go_big_quiet_step (fail))
 refine wpQuiet_nil (hK' _ (fun Q4 hQ4=>?_));clear hK' K';simp only[List.drop_succ_cons,List.drop_zero];clear g0 g1 g2 g3 g4 g5;cases r with
 | false =>
  go_wp2
  go_ret;exact⟨rfl,HB5.out⟩
 | true =>
  go_wp2_with fail
  rw[rounds_succ];go_wp2
  go_ret;exact⟨rfl,HB5.out⟩
open Go.RowKit
def Two (w:World)(g o:Nat)(c0 c1:Value):Prop:=w.cell? ⟨g,o,none⟩=some c0∧w.cell? ⟨g,o+1,none⟩=some c1
theorem Two.below {w w':World}{g o B:Nat}{c0 c1:Value}(h:Two w g o c0 c1)(hb:Below B w w')(hB:w.heap.size≤B):Two w' g o c0 c1:=by
 have hg:g<B:=Nat.lt_of_lt_of_le (World.block_lt_of_cell? w _ h.1) hB;exact⟨by rw[hb.cell (p:=⟨g,_,none⟩) hg];exact h.1,by rw[hb.cell (p:=⟨g,_,none⟩) hg];exact h.2⟩
theorem aIR (g1 o1 c1 g2 o2 c2:Nat)(w:World)(h1:Two w g1 o1 (.string ⟨#[99,104,97,114,115,101,116]⟩) (.string ⟨#[117,116,102,45,56]⟩))(h2:Two w g2 o2 (.string ⟨#[99,104,97,114,115,101,116]⟩) (.string ⟨#[117,116,102,45,56]⟩)) :
  Calls Tryz.prog 150 #[.slice (some ⟨g1,o1,none⟩) 1 c1,.slice (some ⟨g2,o2,none⟩) 1 c2] w (aB true w):=by
 obtain⟨x0,x1⟩:=h1;obtain⟨y0,y1⟩:=h2;go_enter Tryz.func150,Tryz.ntmps150
 go_wp2
 refine wp_loop_rounds 2 ?_;rw[rounds_succ];go_wp2
 go_quiet (fail)
 go_wp2
 rw[rounds_succ];go_wp2
 go_ret;exact⟨rfl,below_drewNm w nq⟩
theorem aCR (g off c ga oa ca:Nat)(w:World)(hx:Six w g off (.int .i64 1) (.int .i64 0) (.string ⟨#[109,101,116,97]⟩) (.slice (some ⟨ga,oa,none⟩) 1 ca) (.string ⟨#[]⟩) (.slice none 0 0))
  (hy:Two w ga oa (.string ⟨#[99,104,97,114,115,101,116]⟩) (.string ⟨#[117,116,102,45,56]⟩)) :
  Calls Tryz.prog 91 #[.slice (some ⟨g,off,none⟩) 1 c] w (aB true w):=by
 have HY:=hid hy;obtain⟨x0,x1,x2,x3,x4,x5⟩:=hx;clear hy;go_enter Tryz.func91,Tryz.ntmps91
 go_wp2_with fail
 have hS0:=bC w (.int .i64 1) (.int .i64 0) (.string ⟨#[109,101,116,97]⟩) (.slice (some ⟨ga,oa,none⟩) 1 ca) (.string ⟨#[]⟩) (.slice none 0 0);have hB3:Below w.heap.size w (w.alloc (.cells #[.int .i64 1,.int .i64 0,.string ⟨#[109,101,116,97]⟩,.slice (some ⟨ga,oa,none⟩) 1 ca,.string ⟨#[]⟩,.slice none 0 0] 45)):=(Below.refl _ w).alloc cS _;refine(vG ⟨#[109,101,116,97]⟩ (.slice (some ⟨ga,oa,none⟩) 1 ca) (.slice none 0 0) _).mono ?_;rintro e W3 ⟨rfl,B3⟩;have hB3':=hB3.trans (B3.mono (by simp));have hS3:=hS0.below B3 cS;have k2:W3.cell? ⟨w.heap.size,2,none⟩=some (.string ⟨#[109,101,116,97]⟩):=hS3.x2;have k3:W3.cell? ⟨w.heap.size,3,none⟩=some (.slice (some ⟨ga,oa,none⟩) 1 ca):=hS3.x3;have k5:W3.cell? ⟨w.heap.size,5,none⟩=some (.slice none 0 0):=hS3.x5;have HB3:=hid hB3';clear hS0 hB3 B3 hB3' hS3 x0 x1 x2 x3 x4 x5;go_wp2_with fail
 have hB4:Below W3.heap.size W3 (W3.alloc (.cells #[.string ⟨#[99,104,97,114,115,101,116]⟩,.string ⟨#[117,116,102,45,56]⟩] 39)):=(Below.refl _ W3).alloc cS _;have hT2:Two (W3.alloc (.cells #[.string ⟨#[99,104,97,114,115,101,116]⟩,.string ⟨#[117,116,102,45,56]⟩] 39)) W3.heap.size 0 (.string ⟨#[99,104,97,114,115,101,116]⟩) (.string ⟨#[117,116,102,45,56]⟩) :=
  ⟨cell_of_row _ W3.heap.size 0 _ 39 (0,0) (heap_alloc_new W3 _),cell_of_row _ W3.heap.size 1 _ 39 (0,0) (heap_alloc_new W3 _)⟩
 refine(aIR ga oa ca W3.heap.size 0 1 _ ((HY.out.below HB3.out cS).below hB4 cS) hT2).mono ?_;unfold aB;rintro e W5 ⟨rfl,B5⟩;have HB5:=hid (HB3.out.trans ((hB4.trans (B5.mono (by simp))).mono HB3.out.size));clear hB4 hT2 B5;go_wp2
 go_ret;exact⟨rfl,HB5.out⟩
open Go.RowKit Go.Shelf Go.Lib Go.Sort
def Tryz.sortAttr_ren:Go.Shelf.Ren:=⟨fun|6=>86|15=>147|14=>146|28=>190|29=>191|20=>182|21=>183|22=>184|23=>185|24=>186|25=>187|26=>188|27=>189|46=>218|47=>219|48=>220|49=>221|50=>222|57=>250|n=>n,fun|22=>33|24=>39|25=>96|3=>3|39=>148|0=>0|53=>177|55=>163|4=>4|46=>171|45=>170|50=>68|5=>5|9=>9|66=>202|70=>206|76=>245|77=>102|n=>n,fun|n=>n⟩
theorem Tryz.sortAttr:Go.Proofs.SlLaysF0.n6 Tryz.prog Tryz.sortAttr_ren:={
 mixed:=by kernel_rfl
 f6:=⟨ "slices.SortFunc[[]colander/api.Attr,colander/api.Attr]",of_decide_eq_true (by kernel_rfl),gC Tryz.func86 (by kernel_rfl)⟩
 f14:=⟨ "slices.pdqsortCmpFunc[colander/api.Attr]",of_decide_eq_true (by kernel_rfl),gC Tryz.func146 (by kernel_rfl)⟩
 f15:=gC Tryz.func147 (by kernel_rfl)
 f20:=⟨ "slices.insertionSortCmpFunc[colander/api.Attr]",of_decide_eq_true (by kernel_rfl),gC Tryz.func182 (by kernel_rfl)⟩
 f21:=⟨ "slices.heapSortCmpFunc[colander/api.Attr]",of_decide_eq_true (by kernel_rfl),gC Tryz.func183 (by kernel_rfl)⟩
 f22:=⟨ "slices.breakPatternsCmpFunc[colander/api.Attr]",of_decide_eq_true (by kernel_rfl),gC Tryz.func184 (by kernel_rfl)⟩
 f23:=⟨ "slices.choosePivotCmpFunc[colander/api.Attr]",of_decide_eq_true (by kernel_rfl),gC Tryz.func185 (by kernel_rfl)⟩
 f24:=⟨ "slices.reverseRangeCmpFunc[colander/api.Attr]",of_decide_eq_true (by kernel_rfl),gC Tryz.func186 (by kernel_rfl)⟩
 f25:=⟨ "slices.partialInsertionSortCmpFunc[colander/api.Attr]",of_decide_eq_true (by kernel_rfl),gC Tryz.func187 (by kernel_rfl)⟩
 f26:=⟨ "slices.partitionEqualCmpFunc[colander/api.Attr]",of_decide_eq_true (by kernel_rfl),gC Tryz.func188 (by kernel_rfl)⟩
 f27:=⟨ "slices.partitionCmpFunc[colander/api.Attr]",of_decide_eq_true (by kernel_rfl),gC Tryz.func189 (by kernel_rfl)⟩
 f28:=gC Tryz.func190 (by kernel_rfl)
 f29:=gC Tryz.func191 (by kernel_rfl)
 f46:=⟨ "slices.siftDownCmpFunc[colander/api.Attr]",of_decide_eq_true (by kernel_rfl),gC Tryz.func218 (by kernel_rfl)⟩
 f47:=gC Tryz.func219 (by kernel_rfl)
 f48:=gC Tryz.func220 (by kernel_rfl)
 f49:=⟨ "slices.medianAdjacentCmpFunc[colander/api.Attr]",of_decide_eq_true (by kernel_rfl),gC Tryz.func221 (by kernel_rfl)⟩
 f50:=⟨ "slices.medianCmpFunc[colander/api.Attr]",of_decide_eq_true (by kernel_rfl),gC Tryz.func222 (by kernel_rfl)⟩
 f57:=⟨ "slices.order2CmpFunc[colander/api.Attr]",of_decide_eq_true (by kernel_rfl),gC Tryz.func250 (by kernel_rfl)⟩
 t0:=Tryz.underlying0
 a0:=Tryz.isAgg0
 z0:=Tryz.sizeOf0
 v0:=Tryz.zeroValue0
 t3:=Tryz.underlying3
 a3:=Tryz.isAgg3
 z3:=Tryz.sizeOf3
 v3:=Tryz.zeroValue3
 t4:=Tryz.underlying4
 a4:=Tryz.isAgg4
 z4:=Tryz.sizeOf4
 v4:=Tryz.zeroValue4
 t5:=Tryz.underlying5
 a5:=Tryz.isAgg5
 z5:=Tryz.sizeOf5
 v5:=Tryz.zeroValue5
 t9:=Tryz.underlying9
 a9:=Tryz.isAgg9
 z9:=Tryz.sizeOf9
 v9:=Tryz.zeroValue9
 t22:=Tryz.underlying33
 a22:=Tryz.isAgg33
 z22:=Tryz.sizeOf33
 v22:=Tryz.zeroValue33
 t25:=Tryz.underlying96
 a25:=Tryz.isAgg96
 z25:=Tryz.sizeOf96
 v25:=Tryz.zeroValue96
 t39:=Tryz.underlying148
 a39:=Tryz.isAgg148
 z39:=Tryz.sizeOf148
 v39:=Tryz.zeroValue148
 t45:=Tryz.underlying170
 a45:=Tryz.isAgg170
 z45:=Tryz.sizeOf170
 v45:=Tryz.zeroValue170
 t46:=Tryz.underlying171
 a46:=Tryz.isAgg171
 z46:=Tryz.sizeOf171
 v46:=Tryz.zeroValue171
 t50:=Tryz.underlying68
 a50:=Tryz.isAgg68
 z50:=Tryz.sizeOf68
 v50:=Tryz.zeroValue68
 t53:=Tryz.underlying177
 a53:=Tryz.isAgg177
 z53:=Tryz.sizeOf177
 v53:=Tryz.zeroValue177
 t55:=Tryz.underlying163
 a55:=Tryz.isAgg163
 z55:=Tryz.sizeOf163
 v55:=Tryz.zeroValue163
 t66:=Tryz.underlying202
 a66:=Tryz.isAgg202
 z66:=Tryz.sizeOf202
 v66:=Tryz.zeroValue202
 t70:=Tryz.underlying206
 a70:=Tryz.isAgg206
 z70:=Tryz.sizeOf206
 v70:=Tryz.zeroValue206
 t76:=Tryz.underlying245
 a76:=Tryz.isAgg245
 z76:=Tryz.sizeOf245
 v76:=Tryz.zeroValue245
 t77:=Tryz.underlying102
 a77:=Tryz.isAgg102
 z77:=Tryz.sizeOf102
 v77:=Tryz.zeroValue102 }
theorem aBf (l:List AT):(flatK kG 2 l.toArray).toList=cL l:=by
 apply List.ext_getElem
 ·simp[iJ]
 ·intro i h1 h2;have hi:i<l.length*2:=by rw[iJ]at h2;exact h2
  have hj:i / 2<l.length:=by omega
  obtain⟨a1,a2⟩:=aAw l (i / 2) hj;have e:(flatK kG 2 l.toArray).toList[i]=(kG l.toArray[i / 2]!)[i%2]! := by
   rw[Array.getElem_toList,←getElem!_pos,get_flatK _ _ _ _ (by simpa using hi)]
  rw[e,getElem!_pos l.toArray (i / 2) (by simpa using hj)];have hl:l.toArray[i / 2]'(by simpa using hj)=l[i / 2]:=by simp
  rw[hl];rcases Nat.mod_two_eq_zero_or_one i with hm|hm
  ·rw[hm];have hii:i / 2*2=i:=by omega
   rw[hii,List.getElem?_eq_getElem h2]at a1
   rw[Option.some.inj a1];rfl
  ·rw[hm];have hii:i / 2*2+1=i:=by omega
   rw[hii,List.getElem?_eq_getElem h2]at a2
   rw[Option.some.inj a2];rfl
theorem aLm (x:AT):(kG x).length=2:=rfl
theorem aLn (x:AT):∀v∈kG x,v.oneCell'=true:=by
 intro v hv;simp[kG]at hv
 rcases hv with rfl|rfl<;>rfl
theorem Tryz.closure87 (x y:AT)(W:World):Calls Tryz.prog 87 #[.agg #[.string x.1,.string x.2],.agg #[.string y.1,.string y.2]] W fun e w'=>e=.returned (.int .i64 (nX x y))∧∃q os',w'=grow (W.drewN q) os':=by
 have hcon:=fun W'=>Tryz.strings_Compare x.1 y.1 W'
 unfold nX;generalize compareBytes x.1.data.toList y.1.data.toList=r at hcon ⊢;go_enter Tryz.func87,Tryz.ntmps87
 go_wp2_with (go_at_call 88;refine(hcon _).mono ?_;rintro e w' ⟨rfl,rfl⟩)
 go_ret;exact⟨rfl,0,_,by rw[alloc_eq_grow,alloc_eq_grow,grow_grow];rfl⟩
theorem Tryz.cmp87 (blk off size:Nat)(w:World):CmpLays Tryz.prog 87 #[] kG 2 nX blk off size w :=
 fun _ _ _ _ x y=>Tryz.closure87 x y _
theorem aDa (w:World)(g n:Nat)(d:Array AT)(os:Array Obj)(k:Nat)(hk:k<w.heap.size) :
  (sortWorldK kG 2 w g 0 n d os).heap[k]?=if g=k then w.heap[k]?.map (onCells (putCells id 0 (flatK kG 2 d)))else w.heap[k]?:=by
 unfold sortWorldK grow putRowK putRow mapBlock;simp only;rw[Array.getElem?_append_left (by simp;exact hk),Array.getElem?_modify];rfl
theorem aMs {B:Nat}{v:Value}{l r:List AT}{W0 w w':World}{g cap n:Nat}{cur:Array Value}{os:Array Obj}(hO:aT B 39 2 v l.length (cL l) W0 w)(hv:v=.slice (some ⟨g,0,none⟩) l.length cap)(hB:B≤g)(hg:w.heap[g]?=some (.cells cur 39 (0,0)))
  (hnc:l.length≤cap) (hcm:cap≤maxLen) (hcs:cur.size=cap*2) (hr:r.length=l.length) (hw:w'=sortWorldK kG 2 w g 0 n r.toArray os):aT B 39 2 v r.length (cL r) W0 w':=by
 have hlt:g<w.heap.size:=(Array.getElem?_eq_some_iff.1 hg).1;subst hw;have hsz:w.heap.size≤(sortWorldK kG 2 w g 0 n r.toArray os).heap.size:=by
  unfold sortWorldK grow putRowK putRow mapBlock;simp
 refine⟨⟨by rw[iJ],.inr ⟨g,cap,putCells id 0 (flatK kG 2 r.toArray) cur,by rw[hr];exact hv,hB,?_,by omega,hcm,?_,?_⟩⟩,?_,Nat.le_trans hO.base hsz⟩
 ·rw[aDa _ _ _ _ _ _ hlt,if_pos rfl,hg];rfl
 ·unfold putCells;simpa using hcs
 ·rw[←aBf r];apply List.ext_getElem
  ·rw[List.length_take];unfold putCells;simp;omega
  ·intro i h1 h2;have hi:i<(flatK kG 2 r.toArray).size:=by simpa using h2
   rw[List.getElem_take];unfold putCells;rw[Array.getElem_toList,Array.getElem_mapIdx,if_pos ⟨Nat.zero_le _,by rw[Nat.zero_add];exact hi⟩];rw[Nat.sub_zero,getElem!_pos _ i hi];simp
 ·refine hO.bel.trans ⟨rfl,rfl,rfl,hsz,fun k hk=>?_⟩;rw[aDa _ _ _ _ _ _ (by omega),if_neg (by omega)]
theorem aMr (v:Value)(l:List AT)(W0 w:World)(B:Nat)(hO:aT B 39 2 v l.length (cL l) W0 w)(hl:l.length≤1000000000) :
  Calls Tryz.prog 86 #[v,.func (.func 87) #[] #[]] w fun e w'=>e=.returned (.tuple #[])∧∃r:List AT,r.Perm l∧SortedIn (ltOf nX) 0 r.length r.toArray∧aT B 39 2 v r.length (cL r) W0 w':=by
 rcases hO.own.2 with⟨rfl,h0⟩|⟨g,cap,cur,hv,hB,hg,hnc,hcm,hcs,htake⟩
 ·have hnil:l=[]:=List.eq_nil_of_length_eq_zero h0;subst hnil;refine(aFg _ w).mono ?_;rintro e w' ⟨rfl,rfl⟩;exact⟨rfl,[],List.Perm.refl _,fun i j _ _ h=>absurd h (by simp),hO⟩
 ·subst hv;have hlt:g<w.heap.size:=(Array.getElem?_eq_some_iff.1 hg).1;have eg:∀args w,(callFunc 87 args).run Tryz.prog w=.ok (.enter 87 args) w:=enters_of Tryz.func87 (by kernel_rfl) rfl;have hH:HoldsK kG 2 w g 0 l.toArray:=by
   intro j hj;have hj':j<l.length*2:=by simpa using hj
   rw[Nat.zero_add];refine⟨?_,?_⟩
   ·rw[cell_of_row w g j cur 39 (0,0) hg];have e:(flatK kG 2 l.toArray)[j]! = (cL l)[j]'(by rw[iJ];exact hj'):=by
     rw[getElem!_pos _ j hj,←Array.getElem_toList];simp only[aBf]
    rw[e];have:(cur.toList.take (l.length*2))[j]?=(cL l)[j]?:=by rw[htake]
    rw[List.getElem?_take,if_pos hj',List.getElem?_eq_getElem (l:=cL l) (by rw[iJ];exact hj')]at this
    simpa using this
   ·simp[World.frozen?,hg]
  have hcon:=AnyQ.slices_SortFunc Tryz.sortAttr 2 Tryz.isAgg39 Tryz.sizeOf39 kG aLm aLn nX aLb 87 #[] g 0 cap l.toArray w eg (Tryz.cmp87 g 0 _ w) hH hlt (by simp;omega);change Calls Tryz.prog 86 _ _ _ at hcon;simp only[List.size_toArray]at hcon;refine hcon.mono ?_;rintro e w' ⟨rfl,d',n,os,hp,hs,rfl⟩;have hsz:d'.size=l.length:=by simpa using hp.1
  have hperm:d'.toList.Perm l:=by
   have h2:=hp.2.2;have e1:(d'.extract 0 l.length).toList=d'.toList:=by rw[←hsz];simp
   have e2:(l.toArray.extract 0 l.length).toList=l:=by simp
   rw[e1,e2]at h2
   exact h2
  refine⟨rfl,d'.toList,hperm,?_,?_⟩
  ·have:d'.toList.length=l.length:=by simpa using hsz
   rw[this];simpa using hs
  ·exact aMs (n:=n) (os:=os) hO rfl hB hg hnc hcm hcs (by simpa using hsz) (by simp)
open Go.RowKit
structure mS (V:ByteArray→ByteArray→Option ByteArray) (l:List AT) (k:Nat) (sn:List ByteArray) (done:List AT):Prop where
 le:k≤l.length
 sl:sn.length≤k
 dl:done.length≤k
 out:aX V [] l=done++aX V sn (l.drop k)
theorem mS.start (V:ByteArray→ByteArray→Option ByteArray)(l:List AT):mS V l 0 [] []:=⟨Nat.zero_le _,Nat.le_refl _,Nat.le_refl _,rfl⟩
theorem mS.old {V:ByteArray→ByteArray→Option ByteArray}{l:List AT}{k:Nat}{sn:List ByteArray}{done:List AT}(h:mS V l k sn done)(hk:k<l.length)(hm:(l[k]).1∈sn):mS V l (k+1) sn done:=by
 have h1:=h.sl;have h2:=h.dl;refine⟨hk,by omega,by omega,?_⟩;rw[h.out,List.drop_eq_getElem_cons hk];conv=>lhs;rhs;unfold aX
 rw[if_pos ((Lib.containsS_iff _ _).2 hm)]
theorem mS.yes {V:ByteArray→ByteArray→Option ByteArray}{l:List AT}{k:Nat}{sn:List ByteArray}{done:List AT}{t:ByteArray}(h:mS V l k sn done)(hk:k<l.length)(hm:(l[k]).1∉sn)(hv:V (l[k]).1 (l[k]).2=some t):mS V l (k+1) (sn++[(l[k]).1]) (done++[((l[k]).1,t)]):=by
 have h1:=h.sl;have h2:=h.dl;refine⟨hk,by simp;omega,by simp;omega,?_⟩;rw[h.out,List.drop_eq_getElem_cons hk];conv=>lhs;rhs;unfold aX
 rw[if_neg (fun h=>hm ((Lib.containsS_iff _ _).1 h)),hv,List.append_assoc]
theorem mS.no {V:ByteArray→ByteArray→Option ByteArray}{l:List AT}{k:Nat}{sn:List ByteArray}{done:List AT}(h:mS V l k sn done)(hk:k<l.length)(hm:(l[k]).1∉sn)(hv:V (l[k]).1 (l[k]).2=none):mS V l (k+1) (sn++[(l[k]).1]) done:=by
 have h1:=h.sl;have h2:=h.dl;refine⟨hk,by simp;omega,by omega,?_⟩;rw[h.out,List.drop_eq_getElem_cons hk];conv=>lhs;rhs;unfold aX
 rw[if_neg (fun h=>hm ((Lib.containsS_iff _ _).1 h)),hv,List.nil_append]
theorem mS.done {V:ByteArray→ByteArray→Option ByteArray}{l:List AT}{k:Nat}{sn:List ByteArray}{done:List AT}(h:mS V l k sn done)(hk:l.length≤k):aX V [] l=done:=by
 rw[h.out,List.drop_eq_nil_of_le hk];unfold aX;rw[List.append_nil]
def pI (V:ByteArray→ByteArray→Option ByteArray)(l:List AT)(w:World)(e:Ending)(w':World):Prop :=
 ∃v r,e=.returned v∧kM V l r∧aT w.heap.size 39 2 v r.length (cL r) w w'
theorem aHA (e:ByteArray)(he:e.size≤1000000000)(V:ByteArray→ByteArray→Option ByteArray)(hV:Hid (∀n v,n.size≤1048576→v.size≤1048576→mC e n v (V n v)))(l:List AT)(hl:l.length≤1048576)(hs:Hid (∀x∈l,x.1.size≤1048576∧x.2.size≤1048576))(av:Value)(w:World)(T:aA w)(hA:Hid (eI w av l)) :
  Calls Tryz.prog 38 #[.string e,av] w (pI V l w):=by
 have HT:=hid T;clear T;obtain⟨i9,hi9,hz9,hs9,hb9⟩:=info_parts Tryz.info9;obtain⟨i39,hi39,hz39,hs39,hb39⟩:=info_parts Tryz.info39;obtain⟨a,c,rfl,_⟩:=hA.out;go_enter Tryz.func38,Tryz.ntmps38
 go_wp2
 go_loopw [5,6,13] (fun o n i wx=>∃(k:Nat) (sn:List ByteArray) (done:List AT),i=.int .i64 k∧Hid (mS V l k sn done)∧Hid (aT w.heap.size 39 2 o done.length (cL done) w wx)∧Hid (aT w.heap.size 9 1 n sn.length (sn.map tR) w wx)∧Hid (nO n o)) (fun _ _ i _=>l.length-(intOf i).toNat)
 case atStart=>exact⟨0,[],[],rfl,hid (mS.start V l),hid (aT.nil w 39 2),hid (aT.nil w 9 1),hid (nO.nil _)⟩
 case round =>
  obtain⟨k,sn,done,rfl,hK,hO,hN,hP⟩:=hrel;have hk:=hK.out.le;have hsl:=hK.out.sl;have hdl:=hK.out.dl;rcases Nat.lt_or_ge k l.length with hlt|hge
  ·obtain⟨g,off,c',hva,c1,c2⟩:=(hA.out.below hO.out.bel cS).get k hlt;simp only[Value.slice.injEq,true_and]at hva;obtain⟨rfl,rfl⟩:=hva;have HOLD:=hid (hK.out.old hlt);have HYES:=hid (fun t=>hK.out.yes (t:=t) hlt);have HNO:=hid (hK.out.no hlt);have HSZ:=hid (hs.out l[k] (List.getElem_mem hlt));generalize l[k]=q at *
   obtain⟨qn,qv⟩:=q;simp only at c1 c2;obtain⟨W1,hW1⟩:∃W1,W1=wr.alloc (.cells #[.string qn,.string qv] 39):=⟨_,rfl⟩
   have hB1:Below wr.heap.size wr W1:=by rw[hW1];exact(Below.refl _ wr).alloc cS _
   have HO1:=hid (hO.out.keep hB1);have HN1:=hid (hN.out.keep hB1);have b1:W1.cell? ⟨wr.heap.size,0,none⟩=some (.string qn):=by rw[hW1,cell_of_row _ _ 0 _ 39 (0,0) (heap_alloc_new wr _)];rfl
   have b2:W1.cell? ⟨wr.heap.size,1,none⟩=some (.string qv):=by rw[hW1,cell_of_row _ _ 1 _ 39 (0,0) (heap_alloc_new wr _)];rfl
   have hlt1:wr.heap.size<W1.heap.size:=by rw[hW1];simp
   have HW1:=hid hW1;clear hW1;by_cases hm:qn∈sn
   ·have C:=rJ _ sn qn W1 (by omega) HN1.out.vec true ((Lib.containsS_iff _ _).2 hm);have HC:=hid C;have HF:=hid (HOLD.out hm);clear C hm;go_wp2_with fail
    rw[←HW1.out];refine HC.out.mono ?_;rintro x w' ⟨rfl,rfl⟩;go_wp2
    go_roundw
    case rel=>exact⟨k+1,sn,done,by go_num,HF,HO1,HN1,hP⟩
    case measure=>simp[intOf];omega
   ·have C:=rJ _ sn qn W1 (by omega) HN1.out.vec false (by cases h:Lib.containsS sn qn with|false=>rfl|true=>exact absurd ((Lib.containsS_iff _ _).1 h) hm);have HC:=hid C;have HM:=hid hm;have HVR:=hid (hV.out qn qv HSZ.out.1 HSZ.out.2);clear C hm;go_wp2_with fail
    rw[←HW1.out];refine HC.out.mono ?_;rintro x w' ⟨rfl,rfl⟩;go_wp2_with (at_builtin;refine bY (by rfl) _ _ 55 (by rfl) 9 i9 (.string ⟨#[]⟩) 1 16 Tryz.underlying55 hi9 hz9 hs9 hb9 rfl (by decide) _ _ _ rfl HN1.out #[.string qn] rfl rfl rfl rfl (by omega) (by omega) ?_)
    intro vn' W2 hN2 hG;have HO2:=hid (hG.out.other (HO1.out.alloc _) hP.out HN1.out.lo);have HP2:=hid (hG.out.apart (HO1.out.alloc _) hP.out);have hlo:=hN.out.hi;have d1:W2.cell? ⟨wr.heap.size,0,none⟩=some (.string qn):=hG.out.cell (aA3 b1) (fun e=>absurd (hlo _ e) (Nat.lt_irrefl _));have d2:W2.cell? ⟨wr.heap.size,1,none⟩=some (.string qv):=hG.out.cell (aA3 b2) (fun e=>absurd (hlo _ e) (Nat.lt_irrefl _));have hlt2:wr.heap.size<W2.heap.size:=World.block_lt_of_cell? _ _ d1;have HT2:=hid (HT.out.below HO2.out.bel cS);clear hlo b1 b2 hlt1 hB1;go_wp2_with fail
    refine(yS e qn qv _ he (by have:=HSZ.out.1;omega) HSZ.out.2 HVR.out W2 HT2.out).mono ?_;rintro x W3 ⟨rfl,B3⟩;have HO3:=hid (HO2.out.keep B3);have HN3:=hid (hN2.out.keep B3);have f1:W3.cell? ⟨wr.heap.size,0,none⟩=some (.string qn):=by rw[B3.cell (p:=⟨wr.heap.size,0,none⟩) hlt2];exact d1
    clear d1 d2 B3;cases hv:V qn qv with
    | none =>
     have HF:=hid (HNO.out HM.out hv);unfold kD;clear hv;go_wp2
     go_roundw
     case rel=>exact⟨k+1,sn++[qn],done,by go_num,HF,HO3,hid (HN3.out.cast (by simp) (by simp[tR])),HP2⟩
     case measure=>simp[intOf];omega
    | some t =>
     have HF:=hid (HYES.out t HM.out hv);unfold kD;clear hv;go_wp2_with (at_builtin;refine bY (by rfl) _ _ 33 (by rfl) 39 i39 (.agg #[.string ⟨#[]⟩,.string ⟨#[]⟩]) 2 32 Tryz.underlying33 hi39 hz39 hs39 hb39 rfl (by decide) _ _ _ rfl HO3.out #[.string qn,.string t] rfl rfl rfl rfl (by omega) (by omega) ?_)
     intro vo' W4 hO4 hG4;have HN4:=hid (hG4.out.other (HN3.out.alloc _) HP2.out.symm HO3.out.lo);have HP4:=hid ((hG4.out.apart (HN3.out.alloc _) HP2.out.symm).symm);go_wp2
     go_roundw
     case rel=>exact⟨k+1,sn++[qn],done++[(qn,t)],by go_num,HF,hid (hO4.out.cast (by simp) (by rw[sL];rfl)),hid (HN4.out.cast (by simp) (by simp[tR])),HP4⟩
     case measure=>simp[intOf];omega
  ·have HD:=hid (hK.out.done hge);have S:=aMr _ done w wr _ hO.out (by omega);have HS:=hid S;clear S;go_wp2_with fail
   refine HS.out.mono ?_;rintro x W2 ⟨rfl,r,h1,h2,h3⟩;have HR:Hid (kM V l r):=⟨by rw[HD.out];exact h1,by
    have h4:=aJ5 (d:=r.toArray) (by simpa using h2) (by
     have h5:=aFw V l [];rw[HD.out]at h5
     exact(h1.pairwise_iff (fun {x y} hxy e=>hxy e.symm)).2 h5)
    simpa using h4⟩
   have HO5:=hid h3;clear h1 h2 h3;go_wp2
   go_ret;exact⟨_,r,rfl,HR.out,HO5.out⟩
end Go.Proofs.YtcfgbdhpcboikaaGreatDoor
