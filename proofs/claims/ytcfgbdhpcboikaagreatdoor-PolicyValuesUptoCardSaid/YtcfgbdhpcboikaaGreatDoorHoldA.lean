/-
policy.elem, plain, text; Attrs and Equal of no attributes.
-/
import Derived.Test.YtcfgbdhpcboikaaGreatDoorAttrL
import Derived.Test.YtcfgbdhpcboikaaGreatDoorLinkF
import Derived.Test.YtcfgbdhpcboikaaGreatDoorSched
namespace Go.Proofs.YtcfgbdhpcboikaaGreatDoor
open Go.Lib (hid)
set_option maxHeartbeats 4000000
set_option maxRecDepth 100000
open Go.RowKit
theorem cX {n:Nat}:n≤n:=Nat.le_refl n
def sMt:ByteArray:=⟨#[]⟩
theorem sN (nm:ByteArray)(av kv:Value)(w:World) :
  Calls Tryz.prog 149 #[.agg #[.int .i64 1,.int .i64 0,.string nm,av,.string ⟨#[]⟩,kv]] w fun e w'=>e=.returned (.bool true)∧Below w.heap.size w w':=by
 go_enter Tryz.func149,Tryz.ntmps149
 go_wp2
 go_ret;exact⟨rfl,(Below.refl _ w).alloc cX _⟩
theorem nR (nm:ByteArray)(a:Option Addr)(c:Nat)(a':Option Addr)(n' c':Nat)(w:World) :
  Calls Tryz.prog 90 #[.agg #[.int .i64 1,.int .i64 0,.string nm,.slice a 0 c,.string ⟨#[]⟩,.slice a' n' c'],.string nm] w fun e w'=>e=.returned (.bool true)∧Below w.heap.size w w':=by
 go_enter Tryz.func90,Tryz.ntmps90
 go_wp2_with fail
 refine(sN nm (.slice a 0 c) (.slice a' n' c') _).mono ?_;rintro e W1 ⟨rfl,B1⟩;have hB:=(Below.refl w.heap.size w).alloc cX (.cells #[.int .i64 1,.int .i64 0,.string nm,.slice a 0 c,.string ⟨#[]⟩,.slice a' n' c'] 45);have x2:W1.cell? ⟨w.heap.size,2,none⟩=some (.string nm):=by rw[B1.cell (p:=⟨w.heap.size,2,none⟩) (by simp),cell_of_row _ w.heap.size 2 _ 45 (0,0) (heap_alloc_new w _)];rfl
 have x3:W1.cell? ⟨w.heap.size,3,none⟩=some (.slice a 0 c):=by rw[B1.cell (p:=⟨w.heap.size,3,none⟩) (by simp),cell_of_row _ w.heap.size 3 _ 45 (0,0) (heap_alloc_new w _)];rfl
 have HB1:=hid (hB.trans (B1.mono (by simp)));clear B1 hB;go_wp2
 go_ret;refine⟨?_,HB1.out⟩;simp
theorem aFm (k:Int)(hk:(k==2)=false)(sp:Int)(nm tx:ByteArray)(av kv:Value)(w:World) :
  Calls Tryz.prog 151 #[.agg #[.int .i64 k,.int .i64 sp,.string nm,av,.string tx,kv]] w fun e w'=>e=.returned (.bool false)∧Below w.heap.size w w':=by
 go_enter Tryz.func151,Tryz.ntmps151
 go_wp2
 go_quiet (fail)
 go_wp2
 go_ret;exact⟨rfl,((Below.refl _ w).alloc cX _).trans ((below_drewNm _ nq).mono (by simp))⟩
theorem aHe (a b:Option Addr)(c d:Nat)(w:World):Calls Tryz.prog 150 #[.slice a 0 c,.slice b 0 d] w fun e w'=>e=.returned (.bool true)∧w=w':=by
 go_enter Tryz.func150,Tryz.ntmps150
 go_wp2
 refine wp_loop_rounds 1 ?_;rw[rounds_succ];go_wp2
 go_ret;exact⟨rfl,rfl⟩
open Go.RowKit
theorem aB5 (cmp:Value)(w:World):Calls Tryz.prog 182 #[.slice none 0 0,.int .i64 0,.int .i64 0,cmp] w fun e w'=>e=.returned (.tuple #[])∧w=w':=by
 go_enter Tryz.func182,Tryz.ntmps182
 go_wp2
 refine wp_loop_rounds 1 ?_;rw[rounds_succ];go_wp2
 go_end0
 exact⟨rfl,rfl⟩
theorem aL1 (cmp:Value)(lim:Int)(w:World):Calls Tryz.prog 146 #[.slice none 0 0,.int .i64 0,.int .i64 0,.int .i64 lim,cmp] w fun e w'=>e=.returned (.tuple #[])∧w=w':=by
 go_enter Tryz.func146,Tryz.ntmps146
 go_wp2
 refine wp_loop_rounds 1 ?_;rw[rounds_succ];go_wp2_with fail
 refine(aB5 cmp w).mono ?_;rintro e w' ⟨rfl,rfl⟩;go_wp2
 trace_state
 exact bodyPost_ret (v:=.tuple #[]) (by simp[results,Tryz.results146,go_sem]) rfl ⟨rfl,rfl⟩
theorem aJT (w:World):Calls Tryz.prog 147 #[.int .u64 0] w fun e w'=>e=.returned (.int .i64 0)∧w=w':=by
 go_enter Tryz.func147,Tryz.ntmps147
 go_wp2_with fail
 refine(Tryz.bits_Len64 0 w (by omega) (by omega)).mono ?_;rintro e w' ⟨rfl,hw⟩;subst hw;go_wp2
 go_ret;exact⟨rfl,rfl⟩
theorem aDP (cmp:Value)(w:World):Calls Tryz.prog 86 #[.slice none 0 0,cmp] w fun e w'=>e=.returned (.tuple #[])∧w=w':=by
 go_enter Tryz.func86,Tryz.ntmps86
 go_wp2_with fail
 refine(aJT w).mono ?_;rintro e w' ⟨rfl,rfl⟩;go_wp2_with fail
 refine(aL1 cmp _ w).mono ?_;rintro e w' ⟨rfl,rfl⟩;go_wp2
 go_end0
 exact⟨rfl,rfl⟩
theorem aGW (e:ByteArray)(a:Option Addr)(c:Nat)(w:World):Calls Tryz.prog 38 #[.string e,.slice a 0 c] w fun e w'=>e=.returned (.slice none 0 0)∧w=w':=by
 go_enter Tryz.func38,Tryz.ntmps38
 go_wp2
 refine wp_loop_rounds 1 ?_;rw[rounds_succ];go_wp2_with fail
 refine(aDP _ w).mono ?_;rintro x w' ⟨rfl,rfl⟩;go_wp2
 go_ret;exact⟨rfl,rfl⟩
open Go.RowKit
theorem dE (w:World)(c0 c1 c2 c3 c4 c5:Value):Six (w.alloc (.cells #[c0,c1,c2,c3,c4,c5] 45)) w.heap.size 0 c0 c1 c2 c3 c4 c5:=by
 have h:∀j,(w.alloc (.cells #[c0,c1,c2,c3,c4,c5] 45)).cell? ⟨w.heap.size,j,none⟩=(#[c0,c1,c2,c3,c4,c5]:Array Value)[j]?:=fun j=>cell_of_row _ w.heap.size j _ 45 (0,0) (heap_alloc_new w _)
 exact⟨h 0,h 1,h 2,h 3,h 4,h 5⟩
def sB:ByteArray:=⟨#[98]⟩
theorem Tryz.info9:(Tryz.prog.info? 9).map (fun i=>(i.zero,i.size,i.bytes))=some (some (.string ⟨#[]⟩),1,16):=by kernel_rfl
theorem aE5:aX sB 4:=fun w=>kY sB w
def elV (nm:ByteArray)(a:Option Addr)(n c:Nat):Value:=.agg #[.int .i64 1,.int .i64 0,.string nm,.slice none 0 0,.string ⟨#[]⟩,.slice a n c]
theorem aFS (w:World):Calls Tryz.prog 92 #[elV sB none 0 0,.slice none 0 0] w fun e w'=>e=.returned (.bool true)∧Below w.heap.size w w':=by
 obtain⟨i0,hi,hz0,hz1,hz2⟩:=info_parts Tryz.info9;have HK:=hid aE5;unfold elV;unfold sB at *
 go_enter Tryz.func92,Tryz.ntmps92
 go_wp2_with fail
 refine(HK.out _).mono ?_;rintro e w' ⟨rfl,rfl⟩;go_wp2_with fail
 obtain⟨W0,hW0⟩:∃W0,W0=w.alloc (.cells #[.int .i64 1,.int .i64 0,.string ⟨#[98]⟩,.slice none 0 0,.string ⟨#[]⟩,.slice none 0 0] 45):=⟨_,rfl⟩
 have hB0:Below w.heap.size w W0:=by rw[hW0];exact(Below.refl _ w).alloc cX _
 have hc2:W0.cell? ⟨w.heap.size,2,none⟩=some (.string ⟨#[98]⟩):=by rw[hW0,cell_of_row _ w.heap.size 2 _ 45 (0,0) (heap_alloc_new w _)];rfl
 have hc5:W0.cell? ⟨w.heap.size,5,none⟩=some (.slice none 0 0):=by rw[hW0,cell_of_row _ w.heap.size 5 _ 45 (0,0) (heap_alloc_new w _)];rfl
 have hz:W0.heap.size=w.heap.size+1:=by rw[hW0];simp
 rw[←hW0];have HB0:=hid hB0;have HZ:=hid hz;obtain⟨S,hS⟩:∃S:World→Prop,∀u,S u↔Below W0.heap.size W0 u:=⟨_,fun _=>Iff.rfl⟩
 have f1:∀s:WIn S,s.w.cell? ⟨w.heap.size,2,none⟩=some (.string ⟨#[98]⟩):=fun s=>by rw[((hS _).1 s.h).cell (p:=⟨w.heap.size,2,none⟩) (by rw[hz];simp)];exact hc2
 haveI:Nonempty (WIn S):=⟨⟨W0,(hS _).2 (Below.refl _ _)⟩⟩
 have HS:=hid hS;have HC5:=hid hc5;clear hS hB0 hz hW0 hc5;refine gJ 10 [([0,1,2,3,4,5,6,7],8),([],9)] [] S (by kernel_rfl) (by kernel_rfl) ((HS.out _).2 (below_drewNm W0 1)) ?_;refine dD (fun K' hK'=>?_);simp only[pick,pickZ,pickS,pickG];repeat (go_big_quiet_step (fail))
 refine wpQuiet_nil (hK' _ (fun Q1 hQ1=>?_));clear hK' K';simp only[pick,pickZ,pickS,pickG];go_wp2
 have hB1:Below W0.heap.size W0 ((W0.drewN 1).alloc (.cells #[.string ⟨#[98]⟩] 9)):=(below_drewNm W0 1).alloc cX _;have HB1:=hid hB1;refine hQ1 _ _ ((HS.out _).2 hB1) (dD (fun K' hK'=>wpQuiet_nil (hK' _ (fun Q2 hQ2=>?_))));clear hK' K' hQ1 Q1 hB1;simp only[pick,pickZ,pickS,pickG];go_wp2_with (at_builtin;refine wpList_append_ownF _ rfl _ _ 55 rfl W0.heap.size 9 i0 (.string ⟨#[]⟩) 1 16 Tryz.underlying55 hi hz0 hz1 hz2 rfl (by decide) (.slice none 0 0) 0 [] rfl (World.ownsRowF_nil _ _ _ _) ⟨W0.heap.size,0,none⟩ 1 1 [.string ⟨#[98]⟩] rfl rfl ?c1 ?c2 ?c3 ?c4 ?c5 ?_)
 case c1 =>
  intro j u hu;cases j with
  | zero=>simp at hu;subst hu;exact cell_of_row _ W0.heap.size 0 _ 9 (0,0) (heap_alloc_new (W0.drewN 1) _)
  | succ j=>simp at hu
 case c2=>intro u hu;simp at hu;subst hu;rfl
 case c3=>unfold maxLen;omega
 case c4=>omega
 case c5=>simp
 intro v' w2 hown hgrow _;have hB2:Below W0.heap.size W0 w2:=HB1.out.grown hgrow (by have:=HB1.out.size;omega) (fun k hk=>by simp[Value.ownBlock]at hk);have HB2:=hid hB2;clear hB2 hown hgrow;refine hQ2 _ _ ((HS.out _).2 HB2.out) (gZ (fun K' hK'=>?_));clear hQ2 Q2;simp only[pick];refine wpQuiet_nil (hK' _ (fun Q3 hQ3=>?_));clear hK' K';simp only[List.drop_succ_cons,List.drop_zero];have c5:w2.cell? ⟨w.heap.size,5,none⟩=some (.slice none 0 0):=by rw[HB2.out.cell (p:=⟨w.heap.size,5,none⟩) (by rw[HZ.out];simp)];exact HC5.out
 clear hc2 f1;go_wp2_with fail
 refine wp_loop_rounds 1 ?_;rw[rounds_succ];go_wp2
 go_ret;exact⟨rfl,HB0.out.trans (HB2.out.mono HB0.out.size)⟩
theorem aHA (g off c:Nat)(w:World)(hx:Six w g off (.int .i64 1) (.int .i64 0) (.string ⟨#[98]⟩) (.slice none 0 0) (.string ⟨#[]⟩) (.slice none 0 0)):Calls Tryz.prog 92 #[elV sB (some ⟨g,off,none⟩) 1 c,.slice none 0 0] w fun e w'=>e=.returned (.bool false)∧Below w.heap.size w w':=by
 obtain⟨i0,hi,hz0,hz1,hz2⟩:=info_parts Tryz.info9;have HX:=hid hx;clear hx;have HK:=hid aE5;unfold elV;unfold sB at *
 go_enter Tryz.func92,Tryz.ntmps92
 go_wp2_with fail
 refine(HK.out _).mono ?_;rintro e w' ⟨rfl,rfl⟩;go_wp2_with fail
 obtain⟨W0,hW0⟩:∃W0,W0=w.alloc (.cells #[.int .i64 1,.int .i64 0,.string ⟨#[98]⟩,.slice none 0 0,.string ⟨#[]⟩,.slice (some ⟨g,off,none⟩) 1 c] 45):=⟨_,rfl⟩
 have hB0:Below w.heap.size w W0:=by rw[hW0];exact(Below.refl _ w).alloc cX _
 have hc2:W0.cell? ⟨w.heap.size,2,none⟩=some (.string ⟨#[98]⟩):=by rw[hW0,cell_of_row _ w.heap.size 2 _ 45 (0,0) (heap_alloc_new w _)];rfl
 have hc5:W0.cell? ⟨w.heap.size,5,none⟩=some (.slice (some ⟨g,off,none⟩) 1 c):=by rw[hW0,cell_of_row _ w.heap.size 5 _ 45 (0,0) (heap_alloc_new w _)];rfl
 have hz:W0.heap.size=w.heap.size+1:=by rw[hW0];simp
 rw[←hW0];have HB0:=hid hB0;have HZ:=hid hz;obtain⟨S,hS⟩:∃S:World→Prop,∀u,S u↔Below W0.heap.size W0 u:=⟨_,fun _=>Iff.rfl⟩
 have f1:∀s:WIn S,s.w.cell? ⟨w.heap.size,2,none⟩=some (.string ⟨#[98]⟩):=fun s=>by rw[((hS _).1 s.h).cell (p:=⟨w.heap.size,2,none⟩) (by rw[hz];simp)];exact hc2
 haveI:Nonempty (WIn S):=⟨⟨W0,(hS _).2 (Below.refl _ _)⟩⟩
 have HS:=hid hS;have HC5:=hid hc5;clear hS hB0 hz hW0 hc5;refine gJ 10 [([0,1,2,3,4,5,6,7],8),([],9)] [] S (by kernel_rfl) (by kernel_rfl) ((HS.out _).2 (below_drewNm W0 1)) ?_;refine dD (fun K' hK'=>?_);simp only[pick,pickZ,pickS,pickG];repeat (go_big_quiet_step (fail))
 refine wpQuiet_nil (hK' _ (fun Q1 hQ1=>?_));clear hK' K';simp only[pick,pickZ,pickS,pickG];go_wp2
 have hB1:Below W0.heap.size W0 ((W0.drewN 1).alloc (.cells #[.string ⟨#[98]⟩] 9)):=(below_drewNm W0 1).alloc cX _;have HB1:=hid hB1;refine hQ1 _ _ ((HS.out _).2 hB1) (dD (fun K' hK'=>wpQuiet_nil (hK' _ (fun Q2 hQ2=>?_))));clear hK' K' hQ1 Q1 hB1;simp only[pick,pickZ,pickS,pickG];go_wp2_with (at_builtin;refine wpList_append_ownF _ rfl _ _ 55 rfl W0.heap.size 9 i0 (.string ⟨#[]⟩) 1 16 Tryz.underlying55 hi hz0 hz1 hz2 rfl (by decide) (.slice none 0 0) 0 [] rfl (World.ownsRowF_nil _ _ _ _) ⟨W0.heap.size,0,none⟩ 1 1 [.string ⟨#[98]⟩] rfl rfl ?c1 ?c2 ?c3 ?c4 ?c5 ?_)
 case c1 =>
  intro j u hu;cases j with
  | zero=>simp at hu;subst hu;exact cell_of_row _ W0.heap.size 0 _ 9 (0,0) (heap_alloc_new (W0.drewN 1) _)
  | succ j=>simp at hu
 case c2=>intro u hu;simp at hu;subst hu;rfl
 case c3=>unfold maxLen;omega
 case c4=>omega
 case c5=>simp
 intro v' w2 hown hgrow _;have hB2:Below W0.heap.size W0 w2:=HB1.out.grown hgrow (by have:=HB1.out.size;omega) (fun k hk=>by simp[Value.ownBlock]at hk);have HB2:=hid hB2;clear hB2 hown hgrow;refine hQ2 _ _ ((HS.out _).2 HB2.out) (gZ (fun K' hK'=>?_));clear hQ2 Q2;simp only[pick];refine wpQuiet_nil (hK' _ (fun Q3 hQ3=>?_));clear hK' K';simp only[List.drop_succ_cons,List.drop_zero];have c5:w2.cell? ⟨w.heap.size,5,none⟩=some (.slice (some ⟨g,off,none⟩) 1 c):=by rw[HB2.out.cell (p:=⟨w.heap.size,5,none⟩) (by rw[HZ.out];simp)];exact HC5.out
 have HC2:=hid hc2;clear hc2 f1;obtain⟨y0,y1,y2,y3,y4,y5⟩:=(HX.out.below (HB0.out.trans (HB2.out.mono HB0.out.size)) cX)
 go_wp2_with fail
 refine wp_loop_rounds 1 ?_;rw[rounds_succ];go_wp2_with fail
 have hS0:=dE w2 (.int .i64 1) (.int .i64 0) (.string ⟨#[98]⟩) (.slice none 0 0) (.string ⟨#[]⟩) (.slice none 0 0);have hB3:Below w2.heap.size w2 (w2.alloc (.cells #[.int .i64 1,.int .i64 0,.string ⟨#[98]⟩,.slice none 0 0,.string ⟨#[]⟩,.slice none 0 0] 45)):=(Below.refl _ w2).alloc cX _;have hz2:w.heap.size<w2.heap.size:=by have:=HB2.out.size;have:=HZ.out;omega
 have HZ2:=hid hz2;refine(aFm 1 rfl 0 ⟨#[98]⟩ ⟨#[]⟩ (.slice none 0 0) (.slice none 0 0) _).mono ?_;rintro e W3 ⟨rfl,B3⟩;have hB3':=hB3.trans (B3.mono (by simp));have hS3:=hS0.below B3 cX;have k0:W3.cell? ⟨w2.heap.size,0,none⟩=some (.int .i64 1):=hS3.x0;have k1:W3.cell? ⟨w2.heap.size,1,none⟩=some (.int .i64 0):=hS3.x1;have k2:W3.cell? ⟨w2.heap.size,2,none⟩=some (.string ⟨#[98]⟩):=hS3.x2;have k3:W3.cell? ⟨w2.heap.size,3,none⟩=some (.slice none 0 0):=hS3.x3;have k4:W3.cell? ⟨w2.heap.size,4,none⟩=some (.string ⟨#[]⟩):=hS3.x4;have k5:W3.cell? ⟨w2.heap.size,5,none⟩=some (.slice none 0 0):=hS3.x5;have HS3:=hid hS3;have HB3:=hid hB3';clear hS0 hB3 hz2 B3 hB3' hS3;go_wp2_with fail
 refine(sN ⟨#[98]⟩ (.slice none 0 0) (.slice none 0 0) W3).mono ?_;rintro e W4 ⟨rfl,B4⟩;have hS4:=HS3.out.below B4 cX;have hB4:=HB3.out.trans (B4.mono HB3.out.size);have q2:W4.cell? ⟨w2.heap.size,2,none⟩=some (.string ⟨#[98]⟩):=hS4.x2;have n2:W4.cell? ⟨w.heap.size,2,none⟩=some (.string ⟨#[98]⟩):=by
  rw[hB4.cell (p:=⟨w.heap.size,2,none⟩) HZ2.out,HB2.out.cell (p:=⟨w.heap.size,2,none⟩) (by rw[HZ.out];simp)];exact HC2.out
 have HB4:=hid hB4;clear hS4 hB4 B4 k0 k1 k2 k3 k4 k5;go_wp2_with fail
 refine(vS ⟨#[98]⟩ ⟨#[98]⟩ W4).mono ?_;have hm:aBa (⟨#[98]⟩:ByteArray).data.toList (⟨#[98]⟩:ByteArray).data.toList=false:=by decide +kernel
 rw[hm];rintro e w' ⟨rfl,rfl⟩;clear hm;go_wp2
 go_ret;exact⟨rfl,HB0.out.trans ((HB2.out.trans (HB4.out.mono HB2.out.size)).mono HB0.out.size)⟩
open Go.RowKit
def aAz:ByteArray:=⟨#[98,111,100,121]⟩
theorem aFU:aX aAz 14:=fun w=>kY aAz w
def cI (r:Bool)(w:World)(e:Ending)(w':World):Prop:=e=.returned (.bool r)∧Below w.heap.size w w'
theorem zW (g off c:Nat)(a':Option Addr)(n' c':Nat)(r:Bool)(w:World)(hx:Six w g off (.int .i64 1) (.int .i64 0) (.string ⟨#[98]⟩) (.slice none 0 0) (.string ⟨#[]⟩) (.slice a' n' c'))
  (HX:∀W,Below w.heap.size w W→Calls Tryz.prog 92 #[.agg #[.int .i64 1,.int .i64 0,.string ⟨#[98]⟩,.slice none 0 0,.string ⟨#[]⟩,.slice a' n' c'],.slice none 0 0] W (cI r W)) :
  Calls Tryz.prog 92 #[elV aAz (some ⟨g,off,none⟩) 1 c,.slice none 0 0] w (cI r w):=by
 have HX1:=hid hx;have HX2:=hid HX;have HK:=hid aFU;clear hx HX;unfold elV;unfold aAz at *
 go_enter Tryz.func92,Tryz.ntmps92
 go_wp2_with fail
 refine(HK.out _).mono ?_;rintro e w' ⟨rfl,rfl⟩;go_wp2_with fail
 obtain⟨W0,hW0⟩:∃W0,W0=w.alloc (.cells #[.int .i64 1,.int .i64 0,.string ⟨#[98,111,100,121]⟩,.slice none 0 0,.string ⟨#[]⟩,.slice (some ⟨g,off,none⟩) 1 c] 45):=⟨_,rfl⟩
 have hB0:Below w.heap.size w W0:=by rw[hW0];exact(Below.refl _ w).alloc cX _
 have hz:W0.heap.size=w.heap.size+1:=by rw[hW0];simp
 have hP:=dE w (.int .i64 1) (.int .i64 0) (.string ⟨#[98,111,100,121]⟩) (.slice none 0 0) (.string ⟨#[]⟩) (.slice (some ⟨g,off,none⟩) 1 c);rw[←hW0]at hP
 try rw[←hW0]
 have HP:=hid hP;have HB0:=hid hB0;have HZ:=hid hz;clear hP hB0 hz hW0;obtain⟨y0,y1,y2,y3,y4,y5⟩:=HX1.out.below HB0.out cX;refine wp_loop_rounds 2 ?_;rw[rounds_succ];go_wp2_with fail
 have hS0:=dE W0 (.int .i64 1) (.int .i64 0) (.string ⟨#[98]⟩) (.slice none 0 0) (.string ⟨#[]⟩) (.slice a' n' c');have hB3:Below W0.heap.size W0 (W0.alloc (.cells #[.int .i64 1,.int .i64 0,.string ⟨#[98]⟩,.slice none 0 0,.string ⟨#[]⟩,.slice a' n' c'] 45)):=(Below.refl _ W0).alloc cX _;refine(aFm 1 rfl 0 ⟨#[98]⟩ ⟨#[]⟩ (.slice none 0 0) (.slice a' n' c') _).mono ?_;rintro e W3 ⟨rfl,B3⟩;have hB3':=hB3.trans (B3.mono (by simp));have hS3:=hS0.below B3 cX;have k0:W3.cell? ⟨W0.heap.size,0,none⟩=some (.int .i64 1):=hS3.x0;have k1:W3.cell? ⟨W0.heap.size,1,none⟩=some (.int .i64 0):=hS3.x1;have k2:W3.cell? ⟨W0.heap.size,2,none⟩=some (.string ⟨#[98]⟩):=hS3.x2;have k3:W3.cell? ⟨W0.heap.size,3,none⟩=some (.slice none 0 0):=hS3.x3;have k4:W3.cell? ⟨W0.heap.size,4,none⟩=some (.string ⟨#[]⟩):=hS3.x4;have k5:W3.cell? ⟨W0.heap.size,5,none⟩=some (.slice a' n' c'):=hS3.x5;have HS3:=hid hS3;have HB3:=hid hB3';clear hS0 hB3 B3 hB3' hS3;go_wp2_with fail
 refine(sN ⟨#[98]⟩ (.slice none 0 0) (.slice a' n' c') W3).mono ?_;rintro e W4 ⟨rfl,B4⟩;have hS4:=HS3.out.below B4 cX;have hB4:=HB3.out.trans (B4.mono HB3.out.size);have q2:W4.cell? ⟨W0.heap.size,2,none⟩=some (.string ⟨#[98]⟩):=hS4.x2;have n2:W4.cell? ⟨w.heap.size,2,none⟩=some (.string ⟨#[98,111,100,121]⟩):=by
  rw[hB4.cell (p:=⟨w.heap.size,2,none⟩) (by rw[HZ.out];simp)];exact HP.out.x2
 have HB4:=hid hB4;have HS4:=hid hS4;clear hS4 hB4 B4 k0 k1 k2 k3 k4 k5 y0 y1 y2 y3 y4 y5;go_wp2_with fail
 refine(vS ⟨#[98,111,100,121]⟩ ⟨#[98]⟩ W4).mono ?_;have hm:aBa (⟨#[98,111,100,121]⟩:ByteArray).data.toList (⟨#[98]⟩:ByteArray).data.toList=true:=by decide +kernel
 rw[hm];rintro e w' ⟨rfl,rfl⟩;clear hm;go_wp2_with fail
 refine(Tryz.slices_Contains_string_empty none 0 ⟨#[98]⟩ W4).mono ?_;rintro e w' ⟨rfl,hw'⟩;have hw2:=hw'.symm;subst hw2;go_wp2_with fail
 obtain⟨S,hS⟩:∃S:World→Prop,∀u,S u↔Below W4.heap.size W4 u:=⟨_,fun _=>Iff.rfl⟩
 have g0:∀s:WIn S,s.w.cell? ⟨W0.heap.size,0,none⟩=some (.int .i64 1):=fun s=>(HS4.out.below ((hS _).1 s.h) cX).x0
 have g1:∀s:WIn S,s.w.cell? ⟨W0.heap.size,1,none⟩=some (.int .i64 0):=fun s=>(HS4.out.below ((hS _).1 s.h) cX).x1
 have g2:∀s:WIn S,s.w.cell? ⟨W0.heap.size,2,none⟩=some (.string ⟨#[98]⟩):=fun s=>(HS4.out.below ((hS _).1 s.h) cX).x2
 have g3:∀s:WIn S,s.w.cell? ⟨W0.heap.size,3,none⟩=some (.slice none 0 0):=fun s=>(HS4.out.below ((hS _).1 s.h) cX).x3
 have g4:∀s:WIn S,s.w.cell? ⟨W0.heap.size,4,none⟩=some (.string ⟨#[]⟩):=fun s=>(HS4.out.below ((hS _).1 s.h) cX).x4
 have g5:∀s:WIn S,s.w.cell? ⟨W0.heap.size,5,none⟩=some (.slice a' n' c'):=fun s=>(HS4.out.below ((hS _).1 s.h) cX).x5
 haveI:Nonempty (WIn S):=⟨⟨W4,(hS _).2 (Below.refl _ _)⟩⟩
 have HS:=hid hS;clear hS q2 n2;refine gJ 14 [([0,1,2,3,5,6],4),([],7),([8,9,10,11],12)] [13] S (by kernel_rfl) (by kernel_rfl) ((HS.out _).2 (below_drewNm W4 1)) ?_;refine dD (fun K' hK'=>?_);simp only[pick,pickZ,pickS,pickG];repeat (go_big_quiet_step (fail))
 refine wpQuiet_nil (hK' _ (fun Q1 hQ1=>?_));clear hK' K';simp only[pick,pickZ,pickS,pickG];go_wp2_with fail
 refine(aGW ⟨#[98]⟩ none 0 _).mono ?_;rintro e w' ⟨rfl,rfl⟩;go_wp2_with fail
 refine hQ1 _ _ ((HS.out _).2 (below_drewNm W4 1)) (dD (fun K' hK'=>wpQuiet_nil (hK' _ (fun Q2 hQ2=>?_))));clear hK' K' hQ1 Q1;simp only[pick,pickZ,pickS,pickG];go_wp2_with fail
 refine(aHe none none 0 0 _).mono ?_;rintro e w' ⟨rfl,rfl⟩;go_wp2_with fail
 refine hQ2 _ _ ((HS.out _).2 (below_drewNm W4 1)) (dD (fun K' hK'=>?_));clear hQ2 Q2;simp only[pick,pickZ,pickS,pickG];repeat (go_big_quiet_step (fail))
 refine wpQuiet_nil (hK' _ (fun Q3 hQ3=>?_));clear hK' K';simp only[pick,pickZ,pickS,pickG];go_wp2_with fail
 have hB41:Below W4.heap.size W4 (W4.drewN 1):=below_drewNm W4 1;have hBw:Below w.heap.size w (W4.drewN 1):=HB0.out.trans ((HB4.out.trans (hB41.mono HB4.out.size)).mono HB0.out.size);refine(HX2.out _ hBw).mono ?_;unfold cI;rintro e W5 ⟨rfl,B5⟩;have hB45:Below W4.heap.size W4 W5:=hB41.trans (B5.mono hB41.size);have HB5:=hid (hBw.trans (B5.mono hBw.size));have HB45:=hid hB45;clear hB41 hBw B5 hB45;go_wp2_with fail
 refine hQ3 _ _ ((HS.out _).2 HB45.out) (gZ (fun K' hK'=>?_));clear hQ3 Q3;simp only[pick,pickZ,pickS,pickG];repeat (go_big_quiet_step (fail))
 refine wpQuiet_nil (hK' _ (fun Q4 hQ4=>?_));clear hK' K';simp only[List.drop_succ_cons,List.drop_zero];clear g0 g1 g2 g3 g4 g5;cases r with
 | false =>
  go_wp2
  go_ret;exact⟨rfl,HB5.out⟩
 | true =>
  go_wp2_with fail
  rw[rounds_succ];go_wp2
  go_ret;exact⟨rfl,HB5.out⟩
open Go.RowKit
def Two (w:World)(g o:Nat)(c0 c1:Value):Prop:=w.cell? ⟨g,o,none⟩=some c0∧w.cell? ⟨g,o+1,none⟩=some c1
theorem Two.below {w w':World}{g o B:Nat}{c0 c1:Value}(h:Two w g o c0 c1)(hb:Below B w w')(hB:w.heap.size≤B):Two w' g o c0 c1:=by
 have hg:g<B:=Nat.lt_of_lt_of_le (World.block_lt_of_cell? w _ h.1) hB;exact⟨by rw[hb.cell (p:=⟨g,_,none⟩) hg];exact h.1,by rw[hb.cell (p:=⟨g,_,none⟩) hg];exact h.2⟩
theorem aHf (g1 o1 c1 g2 o2 c2:Nat)(w:World)(h1:Two w g1 o1 (.string ⟨#[99,104,97,114,115,101,116]⟩) (.string ⟨#[117,116,102,45,56]⟩))(h2:Two w g2 o2 (.string ⟨#[99,104,97,114,115,101,116]⟩) (.string ⟨#[117,116,102,45,56]⟩)) :
  Calls Tryz.prog 150 #[.slice (some ⟨g1,o1,none⟩) 1 c1,.slice (some ⟨g2,o2,none⟩) 1 c2] w (cI true w):=by
 obtain⟨x0,x1⟩:=h1;obtain⟨y0,y1⟩:=h2;go_enter Tryz.func150,Tryz.ntmps150
 go_wp2
 refine wp_loop_rounds 2 ?_;rw[rounds_succ];go_wp2
 go_quiet (fail)
 go_wp2
 rw[rounds_succ];go_wp2
 go_ret;exact⟨rfl,below_drewNm w nq⟩
theorem aBy (g off c ga oa ca:Nat)(w:World)(hx:Six w g off (.int .i64 1) (.int .i64 0) (.string ⟨#[109,101,116,97]⟩) (.slice (some ⟨ga,oa,none⟩) 1 ca) (.string ⟨#[]⟩) (.slice none 0 0))
  (hy:Two w ga oa (.string ⟨#[99,104,97,114,115,101,116]⟩) (.string ⟨#[117,116,102,45,56]⟩)) :
  Calls Tryz.prog 91 #[.slice (some ⟨g,off,none⟩) 1 c] w (cI true w):=by
 have HY:=hid hy;obtain⟨x0,x1,x2,x3,x4,x5⟩:=hx;clear hy;go_enter Tryz.func91,Tryz.ntmps91
 go_wp2_with fail
 have hS0:=dE w (.int .i64 1) (.int .i64 0) (.string ⟨#[109,101,116,97]⟩) (.slice (some ⟨ga,oa,none⟩) 1 ca) (.string ⟨#[]⟩) (.slice none 0 0);have hB3:Below w.heap.size w (w.alloc (.cells #[.int .i64 1,.int .i64 0,.string ⟨#[109,101,116,97]⟩,.slice (some ⟨ga,oa,none⟩) 1 ca,.string ⟨#[]⟩,.slice none 0 0] 45)):=(Below.refl _ w).alloc cX _;refine(sN ⟨#[109,101,116,97]⟩ (.slice (some ⟨ga,oa,none⟩) 1 ca) (.slice none 0 0) _).mono ?_;rintro e W3 ⟨rfl,B3⟩;have hB3':=hB3.trans (B3.mono (by simp));have hS3:=hS0.below B3 cX;have k2:W3.cell? ⟨w.heap.size,2,none⟩=some (.string ⟨#[109,101,116,97]⟩):=hS3.x2;have k3:W3.cell? ⟨w.heap.size,3,none⟩=some (.slice (some ⟨ga,oa,none⟩) 1 ca):=hS3.x3;have k5:W3.cell? ⟨w.heap.size,5,none⟩=some (.slice none 0 0):=hS3.x5;have HB3:=hid hB3';clear hS0 hB3 B3 hB3' hS3 x0 x1 x2 x3 x4 x5;go_wp2_with fail
 have hB4:Below W3.heap.size W3 (W3.alloc (.cells #[.string ⟨#[99,104,97,114,115,101,116]⟩,.string ⟨#[117,116,102,45,56]⟩] 39)):=(Below.refl _ W3).alloc cX _;have hT2:Two (W3.alloc (.cells #[.string ⟨#[99,104,97,114,115,101,116]⟩,.string ⟨#[117,116,102,45,56]⟩] 39)) W3.heap.size 0 (.string ⟨#[99,104,97,114,115,101,116]⟩) (.string ⟨#[117,116,102,45,56]⟩) :=
  ⟨cell_of_row _ W3.heap.size 0 _ 39 (0,0) (heap_alloc_new W3 _),cell_of_row _ W3.heap.size 1 _ 39 (0,0) (heap_alloc_new W3 _)⟩
 refine(aHf ga oa ca W3.heap.size 0 1 _ ((HY.out.below HB3.out cX).below hB4 cX) hT2).mono ?_;unfold cI;rintro e W5 ⟨rfl,B5⟩;have HB5:=hid (HB3.out.trans ((hB4.trans (B5.mono (by simp))).mono HB3.out.size));clear hB4 hT2 B5;go_wp2
 go_ret;exact⟨rfl,HB5.out⟩
end Go.Proofs.YtcfgbdhpcboikaaGreatDoor
