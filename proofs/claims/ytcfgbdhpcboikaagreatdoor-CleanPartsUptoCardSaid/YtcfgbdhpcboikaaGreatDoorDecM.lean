/-
  The slow decimals in memory: a block that holds one; trim; prefixIsLessThan.
  The slow decimals: prefixIsLessThan, leftShift.
  The slow decimals: leftShift.
-/
import Derived.Test.YtcfgbdhpcboikaaGreatDoorBase
import Derived.Test.YtcfgbdhpcboikaaGreatDoorDecLaw
import Derived.Test.YtcfgbdhpcboikaaGreatDoorProg
import Derived.Deep.QuietTactic
import Derived.BigQuiet
import Derived.Lib.Hide
import Derived.Deep.LoopGhost
import Derived.IntWalk
import Derived.Outline
import GoSem.PinnedTables
import Derived.Deep.CutBlock
import Derived.Deep.CutRange
namespace Go.Proofs.YtcfgbdhpcboikaaGreatDoor
set_option maxHeartbeats 8000000
set_option maxRecDepth 100000
open Go.RowKit
def decCells (s:Dec.Dc):List Value:=s.D.map byteV++[.int .i64 s.nd,.int .i64 s.dp,.bool s.neg,.bool s.trunc]
structure DecAt (w:World) (B:Nat) (s:Dec.Dc):Prop where
 h:w.heap[B]?=some (.cells (decCells s).toArray 234 (0,0))
 len:s.D.length=800
section
variable {w:World} {B:Nat} {s:Dec.Dc}
theorem DecAt.byte (h:DecAt w B s)(i:Nat)(hi:i<s.D.length):w.cell? ⟨B,i,none⟩=some (.int .u8 (s.D[i].toNat:Nat)):=by
 rw[cell_of_row w B i _ _ _ h.h]
 unfold decCells
 rw[List.getElem?_toArray,List.getElem?_append,if_pos (by rw[List.length_map];exact hi),List.getElem?_map,List.getElem?_eq_getElem hi]
 rfl
theorem DecAt.tail (h:DecAt w B s)(j:Nat):w.cell? ⟨B,800+j,none⟩=[Value.int .i64 s.nd,.int .i64 s.dp,.bool s.neg,.bool s.trunc][j]?:=by
 rw[cell_of_row w B _ _ _ _ h.h]
 unfold decCells
 rw[List.getElem?_toArray,List.getElem?_append,if_neg (by rw[List.length_map,h.len];omega),List.length_map,h.len,show 800+j-800=j by omega]
theorem DecAt.nd (h:DecAt w B s):w.cell? ⟨B,800,none⟩=some (.int .i64 s.nd):=h.tail 0
theorem DecAt.dp (h:DecAt w B s):w.cell? ⟨B,801,none⟩=some (.int .i64 s.dp):=h.tail 1
theorem DecAt.neg (h:DecAt w B s):w.cell? ⟨B,802,none⟩=some (.bool s.neg):=h.tail 2
theorem DecAt.trunc (h:DecAt w B s):w.cell? ⟨B,803,none⟩=some (.bool s.trunc):=h.tail 3
theorem DecAt.fz (h:DecAt w B s)(j:Nat):w.frozen? ⟨B,j,none⟩=false:=frozen_of_row w B j _ _ h.h
theorem DecAt.lt (h:DecAt w B s):B<w.heap.size:=(Array.getElem?_eq_some_iff.1 h.h).1
theorem DecAt.same {w':World}(h:DecAt w B s)(e:w'.heap=w.heap):DecAt w' B s:=⟨by rw[e];exact h.h,h.len⟩
theorem DecAt.drewN (h:DecAt w B s)(n:Nat):DecAt (w.drewN n) B s:=h.same rfl
theorem DecAt.kept {w':World}{S:Nat→Prop}(h:DecAt w B s)(k:Kept S w w')(hs:¬ S B):DecAt w' B s:=⟨k.heap h.h hs,h.len⟩
theorem DecAt.setByte (h:DecAt w B s)(i:Nat)(hi:i<800)(c:UInt8)(v:Int)(hv:v=(c.toNat:Nat)):DecAt (w.setCell ⟨B,i,none⟩ (.int .u8 v)) B { s with D:=s.D.set i c }:=by
 subst hv
 refine⟨?_,by rw[List.length_set];exact h.len⟩
 rw[heap_setCell_same _ _ _ _ _ _ h.h]
 congr 2
 apply Array.toList_inj.1
 unfold decCells
 rw[Array.toList_setIfInBounds,List.set_append,if_pos (by rw[List.length_map,h.len];exact hi)]
 simp only[List.map_set]
 rfl
theorem dec_set_tail (s s':Dec.Dc)(hl:s.D.length=800)(hD:s'.D=s.D)(j:Nat)(v:Value)
  (h:[Value.int .i64 s.nd,.int .i64 s.dp,.bool s.neg,.bool s.trunc].set j v=[Value.int .i64 s'.nd,.int .i64 s'.dp,.bool s'.neg,.bool s'.trunc]) :
  (decCells s).toArray.setIfInBounds (800+j) v=(decCells s').toArray:=by
 apply Array.toList_inj.1
 unfold decCells
 rw[Array.toList_setIfInBounds,List.set_append,if_neg (by rw[List.length_map,hl];omega),List.length_map,hl,show 800+j-800=j by omega,h,hD]
theorem DecAt.setNd (h:DecAt w B s)(n:Nat):DecAt (w.setCell ⟨B,800,none⟩ (.int .i64 n)) B { s with nd:=n } :=
 ⟨by rw[heap_setCell_same _ _ _ _ _ _ h.h,dec_set_tail s { s with nd:=n } h.len rfl 0 _ rfl],h.len⟩
theorem DecAt.setNdV (h:DecAt w B s)(n:Nat)(v:Int)(hv:v=(n:Nat)):DecAt (w.setCell ⟨B,800,none⟩ (.int .i64 v)) B { s with nd:=n }:=by
 subst hv
 exact h.setNd n
theorem DecAt.setDpV (h:DecAt w B s)(n v:Int)(hv:v=n):DecAt (w.setCell ⟨B,801,none⟩ (.int .i64 v)) B { s with dp:=n }:=by
 subst hv
 exact⟨by rw[heap_setCell_same _ _ _ _ _ _ h.h,dec_set_tail s { s with dp:=v } h.len rfl 1 _ rfl],h.len⟩
theorem DecAt.setDp (h:DecAt w B s)(n:Int):DecAt (w.setCell ⟨B,801,none⟩ (.int .i64 n)) B { s with dp:=n } :=
 ⟨by rw[heap_setCell_same _ _ _ _ _ _ h.h,dec_set_tail s { s with dp:=n } h.len rfl 1 _ rfl],h.len⟩
theorem DecAt.setNeg (h:DecAt w B s)(b:Bool):DecAt (w.setCell ⟨B,802,none⟩ (.bool b)) B { s with neg:=b } :=
 ⟨by rw[heap_setCell_same _ _ _ _ _ _ h.h,dec_set_tail s { s with neg:=b } h.len rfl 2 _ rfl],h.len⟩
theorem DecAt.setTr (h:DecAt w B s)(b:Bool):DecAt (w.setCell ⟨B,803,none⟩ (.bool b)) B { s with trunc:=b } :=
 ⟨by rw[heap_setCell_same _ _ _ _ _ _ h.h,dec_set_tail s { s with trunc:=b } h.len rfl 3 _ rfl],h.len⟩
end
def TrimPost (B:Nat)(s:Dec.Dc)(w:World)(e:Ending)(w':World):Prop:=e=.returned (.tuple #[])∧DecAt w' B (Dec.trimD s)∧Kept (· = B) w w'
theorem trim_any (B:Nat)(s:Dec.Dc)(w:World)(h:DecAt w B s)(hn:s.nd≤800) :
  Calls Tryz.prog 287 #[.pointer (some ⟨B,0,none⟩)] w (TrimPost B s w):=by
 have H:=Lib.hid h
 have L:=Lib.hid h.len
 clear h
 go_enter Tryz.func287,Tryz.ntmps287
 go_wp2_with fail
 go_loopg [] s.nd (fun g wr=>∃ k:Nat,g=k∧k≤s.nd∧DecAt wr B { s with nd:=k }∧Dec.trimL (s.D.take k)=Dec.trimL (s.D.take s.nd)∧Kept (· = B) w wr)
 case atStart=>exact⟨s.nd,rfl,Nat.le_refl _,H.out,rfl,Kept.refl _ _⟩
 case round =>
  obtain⟨k,hgk,hk,hd,ht,hK⟩:=hrel
  have HGK:=Lib.hid hgk
  clear hgk
  have f0:=hd.fz 800
  have f1:=hd.fz 801
  have c801:wr.cell? ⟨B,801,none⟩=some (.int .i64 s.dp):=hd.dp
  have HD:=Lib.hid hd
  have HT:=Lib.hid ht
  have HK:=Lib.hid hK
  by_cases h0:k=0
  ·subst h0
   have c8:wr.cell? ⟨B,800,none⟩=some (.int .i64 0):=hd.nd
   clear hd ht hK hk
   go_wp2_with fail
   go_quiet (fail)
   go_wp2
   go_end0
   have t0:Dec.trimL (s.D.take s.nd)=0:=HT.out.symm
   have e:Dec.trimD s={ ({ s with nd:=0 }:Dec.Dc) with dp:=0 }:=by unfold Dec.trimD;rw[t0,if_pos rfl]
   refine⟨rfl,?_,(HK.out.drewN _).setCell _ _ (fun _=>rfl)⟩
   rw[e]
   exact(HD.out.drewN _).setDp 0
  ·obtain⟨i,rfl⟩:∃ i,k=i+1:=⟨k-1,by omega⟩
   have hi:i<s.D.length:=by rw[L.out];omega
   have c8:wr.cell? ⟨B,800,none⟩=some (.int .i64 ((i:Int)+1)):=by have:=hd.nd;simpa using this
   have ci:wr.cell? ⟨B,i,none⟩=some (.int .u8 (s.D[i].toNat:Nat)):=hd.byte i hi
   obtain⟨c,hc⟩:∃ c,s.D[i]=c:=⟨_,rfl⟩
   rw[hc] at ci
   have hg:s.D[i]?=some c:=by rw[List.getElem?_eq_getElem hi,hc]
   have HG:=Lib.hid hg
   have i800:i<800:=by omega
   clear hd ht hK hc hg hi h0
   by_cases h48:c=48
   ·have e1:((c.toNat:Int)==48)=true:=by rw[h48];rfl
    have H48:=Lib.hid h48
    clear h48
    have w1:IntKind.i64.wrap ((i:Int)+1-1)=i:=by rw[IntWalk.i64_in _ (by omega)];omega
    go_wp2_with fail
    go_quiet (fail)
    go_wp2
    go_roundg i
    case measure=>have:=HGK.out;omega
    case rel=>exact⟨i,rfl,by omega,(HD.out.drewN _).setNd i,(Dec.trimL_take s.D i c HG.out H48.out).symm.trans HT.out,(HK.out.drewN _).setCell _ _ (fun _=>rfl)⟩
   ·have e1:((c.toNat:Int)==48)=false:=beq_eq_false_iff_ne.2 (by intro e;exact h48 (UInt8.toNat_inj.1 (by show _=48;omega)))
    have H48:=Lib.hid h48
    clear h48
    have w1:IntKind.i64.wrap ((i:Int)+1-1)=i:=by rw[IntWalk.i64_in _ (by omega)];omega
    go_wp2_with fail
    go_quiet (fail)
    go_wp2
    go_end0
    have t0:Dec.trimL (s.D.take s.nd)=i+1:=HT.out.symm.trans (Dec.trimL_stop s.D i c HG.out H48.out)
    have e:Dec.trimD s={ s with nd:=i+1 }:=by unfold Dec.trimD;rw[t0,if_neg (by omega)]
    refine⟨rfl,?_,HK.out.drewN _⟩
    rw[e]
    exact HD.out.drewN _
open Go.RowKit
def nats (l:List UInt8):List Nat:=l.map UInt8.toNat
theorem nats_drop (l:List UInt8)(k:Nat)(c:UInt8)(h:l[k]?=some c):(nats l).drop k=c.toNat :: (nats l).drop (k+1):=by
 obtain⟨hk,e⟩:=List.getElem?_eq_some_iff.1 h
 unfold nats
 rw[← List.map_drop,← List.map_drop,List.drop_eq_getElem_cons hk,e]
 rfl
theorem nats_end (l:List UInt8)(k:Nat)(h:l.length≤k):(nats l).drop k=[]:=List.drop_eq_nil_of_le (by unfold nats;rw[List.length_map];exact h)
theorem ret_bool {a b:Bool}(h:a=b):Ending.returned (.bool a)=.returned (.bool b):=by rw[h]
theorem pless_any (B n c:Nat)(d:Dec.Dc)(s:ByteArray)(w:World)(h:DecAt w B d)(hn:n≤800)(_hs:s.size≤1000) :
  Calls Tryz.prog 296 #[.slice (some ⟨B,0,none⟩) n c,.string s] w fun e w'=>e=.returned (.bool (Dec.less (nats (d.D.take n)) (nats s.data.toList)))∧∃ m,w'=w.drewN m:=by
 have H:=Lib.hid h
 have L:=Lib.hid h.len
 obtain⟨r,hr⟩:∃ r,Dec.less (nats (d.D.take n)) (nats s.data.toList)=r:=⟨_,rfl⟩
 have HR:=Lib.hid hr
 rw[hr]
 clear h hr
 go_enter Tryz.func296,Tryz.ntmps296
 go_wp2_with fail
 go_loopw [5] (fun i wr=>∃ k m:Nat,k≤s.size∧i=.int .i64 k∧Dec.less ((nats (d.D.take n)).drop k) ((nats s.data.toList).drop k)=r∧wr=w.drewN m) (fun i _=>s.size-(intOf i).toNat)
 case atStart=>exact⟨0,0,Nat.zero_le _,rfl,HR.out,rfl⟩
 case round =>
  obtain⟨k,m,hk,rfl,hl,hw⟩:=hrel
  have HD:Hid (DecAt wr B d):=by rw[hw];exact H.out.drewN m
  have HW:=Lib.hid hw
  have HL:=Lib.hid hl
  clear hw hl
  by_cases hlt:k<s.size
  ·by_cases hkn:k<n
   ·have hkD:k<d.D.length:=by rw[L.out];omega
    have ci:wr.cell? ⟨B,k,none⟩=some (.int .u8 (d.D[k].toNat:Nat)):=HD.out.byte k hkD
    obtain⟨b,hb⟩:∃ b,d.D[k]=b:=⟨_,rfl⟩
    rw[hb] at ci
    have g1:(d.D.take n)[k]?=some b:=by rw[List.getElem?_take,if_pos hkn,List.getElem?_eq_getElem hkD,hb]
    have g2:s.data.toList[k]?=some s[k]:=by rw[List.getElem?_eq_getElem (by simpa using hlt)];rfl
    have G1:=Lib.hid (nats_drop _ _ _ g1)
    have G2:=Lib.hid (nats_drop _ _ _ g2)
    clear g1 g2 hb hkD
    by_cases he:b.toNat=s[k].toNat
    ·have e1:((b.toNat:Int) !=(s[k].toNat:Int))=false:=bne_eq_false_iff_eq.2 (by omega)
     have HE:=Lib.hid he
     clear he
     go_wp2_with fail
     go_quiet (fail)
     go_wp2
     go_roundw
     case measure=>simp[intOf];omega
     case rel =>
      refine⟨k+1,m+nq,by omega,by go_num,?_,?_⟩
      ·rw[← HL.out,G1.out,G2.out]
       show _=(if b.toNat=s[k].toNat then _ else _)
       rw[if_pos HE.out]
      ·rw[HW.out,World.drewN_drewN]
    ·have e1:((b.toNat:Int) !=(s[k].toNat:Int))=true:=bne_iff_ne.2 (by omega)
     have HE:=Lib.hid he
     clear he
     go_wp2_with fail
     go_quiet (fail)
     go_wp2_with fail
     go_quiet (fail)
     go_wp2
     go_ret
     refine⟨ret_bool ?_,_,by rw[HW.out,World.drewN_drewN,World.drewN_drewN]⟩
     rw[← HL.out,G1.out,G2.out]
     show _=(if b.toNat=s[k].toNat then _ else _)
     rw[if_neg HE.out]
   ·have hl0:(d.D.take n).length≤k:=by rw[List.length_take];omega
    have G1:=Lib.hid (nats_end _ _ hl0)
    have g2:s.data.toList[k]?=some s[k]:=by rw[List.getElem?_eq_getElem (by simpa using hlt)];rfl
    have G2:=Lib.hid (nats_drop _ _ _ g2)
    clear g2 hl0
    go_wp2
    go_ret
    refine⟨ret_bool ?_,m,HW.out⟩
    rw[← HL.out,G1.out,G2.out]
    rfl
  ·have G2:=Lib.hid (nats_end s.data.toList k (by show s.size≤k;omega))
   go_wp2
   go_ret
   refine⟨ret_bool ?_,m,HW.out⟩
   rw[← HL.out,G2.out]
   cases (nats (d.D.take n)).drop k<;>rfl
theorem less_shift (x y:List Nat):Dec.less (x.map (· + 48)) (y.map (· + 48))=Dec.less x y:=by
 induction x generalizing y with
 | nil=>cases y<;>rfl
 | cons a x ih =>
  cases y with
  | nil=>rfl
  | cons b y =>
   show(if a+48=b+48 then _ else _)=(if a=b then _ else _)
   by_cases h:a=b
   ·rw[if_pos (by omega),if_pos h];exact ih y
   ·rw[if_neg (by omega),if_neg h]
    by_cases g:a<b
    ·rw[decide_eq_true g,decide_eq_true (show a+48<b+48 by omega)]
    ·rw[decide_eq_false g,decide_eq_false (show ¬ a+48<b+48 by omega)]
theorem nats_dgs (s:Dec.Dc)(h:Dec.Fine s):nats (s.D.take s.nd)=(Dec.dgs s.D s.nd).map (· + 48):=by
 unfold nats Dec.dgs
 rw[List.map_map]
 refine List.map_congr_left fun c hc=>?_
 have:=h.dig c hc
 show c.toNat=Dec.un c+48
 unfold Dec.un
 omega
theorem cheat_row:∀ k<61,k≠0→(Pinned.cheatRows.getD k (0,[])).1=Dec.more k∧nats (Pinned.cheatRows.getD k (0,[])).2=(Dec.cut k).map (· + 48)∧(Pinned.cheatRows.getD k (0,[])).2.length≤60:=by decide +kernel
open Go.RowKit
structure Slow (w:World) (B:Nat):Prop where
 cheats:∃ b o,b≠B∧w.cell? ⟨14,0,none⟩=some (.slice (some ⟨b,o,none⟩) 61 61)∧∀ i,i<61→w.cell? ⟨b,o+i*2,none⟩=some (.int .i64 (Pinned.cheatRows.getD i (0,[])).1)∧w.cell? ⟨b,o+i*2+1,none⟩=some (.string ⟨(Pinned.cheatRows.getD i (0,[])).2.toArray⟩)
 p2:∃ b o,b≠B∧w.cell? ⟨11,0,none⟩=some (.slice (some ⟨b,o,none⟩) 9 9)∧∀ i,i<9→w.cell? ⟨b,o+i,none⟩=some (.int .i64 (([1,3,6,9,13,16,19,23,26]:List Int).getD i 0))
 info0:w.cell? ⟨8,0,none⟩=some (.int .u64 52)
 info1:w.cell? ⟨8,1,none⟩=some (.int .u64 11)
 info2:w.cell? ⟨8,2,none⟩=some (.int .i64 (-1023))
 far:14<B
theorem Slow.kept {w w':World}{B:Nat}(h:Slow w B)(k:Kept (· = B) w w'):Slow w' B:=by
 obtain⟨b,o,hb,h1,h2⟩:=h.cheats
 obtain⟨b2,o2,hb2,h3,h4⟩:=h.p2
 have hf:=h.far
 have c:∀ {p:Addr} {v:Value},w.cell? p=some v→p.block≠B→w'.cell? p=some v:=fun hc hp=>k.cell hc hp
 exact⟨⟨b,o,hb,c h1 (show 14≠B by omega),fun i hi=>⟨c (h2 i hi).1 hb,c (h2 i hi).2 hb⟩⟩,⟨b2,o2,hb2,c h3 (show 11≠B by omega),fun i hi=>c (h4 i hi) hb2⟩,
  c h.info0 (show 8≠B by omega),c h.info1 (show 8≠B by omega),c h.info2 (show 8≠B by omega),hf⟩
theorem len232:Tryz.prog.arrayLen 232=800:=by kernel_rfl
theorem slice_dec (B n:Nat)(hn:n≤800)(w:World):(Instr.sliceAt 232 (.pointer (some ⟨B,0,none⟩)) (some (.int .i64 0)) (some (.int .i64 n)) none).run Tryz.prog w=.ok (.slice (some ⟨B,0,none⟩) n 800) w:=by
 rw[run_sliceAt_array_lh w 232 ⟨B,0,none⟩ (by kernel_rfl) .i64 .i64 0 n (Int.le_refl _) (by omega) (by rw[len232];omega),len232]
 have hz:(sizeOf (Tryz.prog.elem 232)).run Tryz.prog w=.ok 1 w:=by
  rw[show Tryz.prog.elem 232=5 by kernel_rfl]
  exact Tryz.sizeOf5 w
 rw[hz]
 simp[Result.andThen,slicedAt,Addr.add]
def ShPost (B:Nat)(s:Dec.Dc)(w:World)(e:Ending)(w':World):Prop:=e=.returned (.tuple #[])∧DecAt w' B s∧Kept (· = B) w w'
theorem wrapU (z:Int):IntKind.u64.wrap z=z%18446744073709551616:=by
 have h1:IntKind.u64.signed=false:=rfl
 have h2:IntKind.u64.bits=64:=rfl
 unfold IntKind.wrap
 simp only[h1,h2,Bool.false_and,Bool.false_eq_true,if_false]
 rfl
theorem pow60 (k:Nat)(hk:k<61):2^k≤1152921504606846976:=Nat.le_trans (Nat.pow_le_pow_right (by decide) (show k≤60 by omega)) (by decide)
structure OneOut (Y q rm Z:Nat):Prop where
 e3:(Y:Int).tdiv 10=q
 e3':IntKind.u64.wrap (q:Int)=q
 e4:IntKind.u64.wrap (10*(q:Int))=Z
 e5:IntKind.u64.wrap ((Y:Int)-Z)=rm
 r9:rm≤9
 hq:q=Y / 10
 hr:rm=Y%10
theorem one_out (Y:Nat)(h:Y<18446744073709551616):∃ q rm Z,OneOut Y q rm Z:=by
 refine⟨Y / 10,Y%10,10*(Y / 10),?_,?_,?_,?_,by omega,rfl,rfl⟩
 ·rw[Int.tdiv_eq_ediv_of_nonneg (by omega)];omega
 ·rw[wrapU];omega
 ·rw[wrapU];omega
 ·rw[wrapU];omega
theorem steps_le (f n:Nat):Dec.steps f n≤f:=by
 induction f generalizing n with
 | zero=>simp[Dec.steps]
 | succ f ih=>unfold Dec.steps;split<;>first|omega|(have:=ih (n / 10);omega)
theorem lsh_any (B k:Nat)(s:Dec.Dc)(w:World)(T:Slow w B)(h:DecAt w B s)(hF:Dec.Fine s)(hn:1≤s.nd)(k1:1≤k)(k2:k<61)(p1:-100000000≤s.dp)(p2:s.dp≤100000000) :
  Calls Tryz.prog 288 #[.pointer (some ⟨B,0,none⟩),.int .u64 k] w (ShPost B (Dec.lsh k s) w):=by
 obtain⟨b,o,hb,t1,t2⟩:=T.cheats
 obtain⟨t3,t4⟩:=t2 k k2
 obtain⟨r1,r2,r3⟩:=cheat_row k k2 (by omega)
 obtain⟨str,hstr⟩:∃ str:ByteArray,str=⟨(Pinned.cheatRows.getD k (0,[])).2.toArray⟩:=⟨_,rfl⟩
 rw[← hstr] at t4
 obtain⟨δ,hδ⟩:∃ δ,Dec.steps 25 (Dec.carry k (Dec.dgs s.D s.nd))=δ := ⟨_,rfl⟩
 obtain⟨L,hL⟩:∃ L,Dec.less (Dec.dgs s.D s.nd) (Dec.cut k)=L:=⟨_,rfl⟩
 obtain⟨dd,dr,f1,f2,_,f4,f5⟩:=Dec.fine_cons hF hn
 have hds:∀ d∈Dec.dgs s.D s.nd,d<10:=by rw[f1];exact f4
 have hlen:(Dec.dgs s.D s.nd).length=s.nd:=by rw[f1,List.length_cons];exact f5
 have PL:∀ u,DecAt u B s→Calls Tryz.prog 296 #[.slice (some ⟨B,0,none⟩) s.nd 800,.string str] u fun e w'=>e=.returned (.bool L)∧∃ m,w'=u.drewN m:=by
  intro u hu
  have:=pless_any B s.nd 800 s str u hu hF.le (by rw[hstr];show(Pinned.cheatRows.getD k (0,[])).2.length≤1000;omega)
  rw[nats_dgs s hF,show nats str.data.toList=(Dec.cut k).map (· + 48) by rw[hstr];exact r2,less_shift,hL] at this
  exact this
 have c25:=Dec.carry_25 k (Dec.dgs s.D s.nd) k2 hds
 have hmore:(Pinned.cheatRows.getD k (0,[])).1=(if L then δ + 1 else δ):=by
  have ft:=Dec.front_table (Dec.dgs s.D s.nd) k 25 k2 (by omega) hds (by rw[f1];simpa using f2) (by rw[f1];simp) c25
  obtain⟨_,_,_,_,_,g1,g2⟩:=Dec.cuts k k2 (by omega)
  rw[hδ,hL] at ft
  rw[r1]
  have hm:1≤Dec.more k:=by unfold Dec.more;omega
  cases L
  ·simpa using ft.symm
  ·simp at ft ⊢;omega
 have hnd:=hF.le
 have d25:δ ≤ 25:=by rw[← hδ];exact steps_le 25 _
 have c800:=h.nd
 have f800:=h.fz 800
 have SL:=slice_dec B s.nd hnd
 have H:=Lib.hid h
 have HF:=Lib.hid hF
 have HPL:=Lib.hid PL
 have HDel:=Lib.hid hδ
 have HDS0:=Lib.hid hds
 have HLEN:=Lib.hid hlen
 have HC25:=Lib.hid c25
 rw[hmore] at t3
 have lsb:∀ m,∀ d∈(Dec.dgs s.D s.nd).drop m,d<10:=fun m d hd=>hds d (List.mem_of_mem_drop hd)
 have HLSB:=Lib.hid lsb
 clear h hF PL r1 r2 r3 hstr T t2 hδ hL hmore hds hlen c25 f1 f2 f4 f5 lsb
 cases L
 all_goals
  simp only[Bool.false_eq_true,if_false,if_true] at t3
  go_enter Tryz.func288,Tryz.ntmps288
  go_wp2_with fail
  go_quiet ((go_at_call 296;exact Calls.quiet_of (HPL.out _ (H.out.drewN _))))
  go_wp2_with fail
  go_loopw [5,6,7] (fun r wv n wr=>∃ m:Nat,m≤s.nd∧r=.int .i64 ((m:Int)-1)∧wv=.int .i64 ((m:Int)+δ)∧n=.int .u64 (Dec.carry k ((Dec.dgs s.D s.nd).drop m):Nat)∧Kept (· = B) w wr ∧
   DecAt wr B { s with D:=Dec.ow s.D (m+δ) ((Dec.lows k ((Dec.dgs s.D s.nd).drop m)).map Dec.ch),trunc:=s.trunc||Dec.over (m+δ) ((Dec.lows k ((Dec.dgs s.D s.nd).drop m)).map Dec.ch) }) (fun r _ _ _=>(intOf r+1).toNat)
  case atStart =>
   have e:(Dec.dgs s.D s.nd).drop s.nd=[]:=List.drop_eq_nil_of_le (by rw[HLEN.out];omega)
   refine⟨s.nd,Nat.le_refl _,rfl,?_,by rw[e];rfl,(Kept.refl _ w).drewN _,?_⟩
   ·first|rfl|exact congrArg (Value.int .i64) (by unfold wrap64;omega)|exact congrArg (Value.int .i64) (by omega)
   ·rw[e]
    have:=H.out.drewN nq
    simpa [Dec.lows,Dec.ow_nil,Dec.over_nil] using this
  case round =>
   obtain⟨m,hm,hr,hw,hn,hK,hD⟩:=hrel
   cases m with
   | zero =>
    obtain rfl:=(show _=Value.int .i64 (-1) from hr.trans (congrArg (Value.int .i64) (by omega)))
    obtain rfl:=(show _=Value.int .i64 (δ : Int) from hw.trans (congrArg (Value.int .i64) (by omega)))
    rw[List.drop_zero] at hn hD
    rw[Nat.zero_add] at hD
    obtain⟨Q,hQ⟩:∃ Q,Dec.carry k (Dec.dgs s.D s.nd)=Q:=⟨_,rfl⟩
    rw[hQ] at hn
    subst hn
    have HQ:=Lib.hid hQ
    have HK0:=Lib.hid hK
    have HD0:=Lib.hid hD
    have hQ64:Q<18446744073709551616:=by
     have:=Dec.carry_lt k (Dec.dgs s.D s.nd) HDS0.out
     have:=pow60 k k2
     omega
    have HQ64:=Lib.hid hQ64
    clear hK hD hQ hr hw hQ64
    obtain⟨wo,rfl⟩:∃ wo:World,wo=wr:=⟨_,rfl⟩
    go_wp2_with fail
    go_loopw [6,7] (fun wv n wr=>∃ (f W q:Nat) (t:List Nat),wv=.int .i64 (W:Int)∧n=.int .u64 (q:Int)∧q<10^f∧Dec.steps f q=W∧W≤25∧q<18446744073709551616∧Dec.digs f q t=Dec.fullN k (Dec.dgs s.D s.nd)∧Kept (· = B) w wr ∧
     DecAt wr B { s with D:=Dec.ow s.D W (t.map Dec.ch),trunc:=s.trunc||Dec.over W (t.map Dec.ch) }) (fun wv _ _=>(intOf wv).toNat)
    case atStart =>
     refine⟨25,δ,Q,Dec.lows k (Dec.dgs s.D s.nd),rfl,rfl,?_,?_,d25,HQ64.out,?_,HK0.out,HD0.out⟩
     ·rw[← HQ.out];exact HC25.out
     ·rw[← HQ.out];exact HDel.out
     ·rw[← HQ.out];rfl
    case round =>
     obtain⟨f,W,q,t,rfl,rfl,g1,g2,g3,g4,g5,hK,hD⟩:=hrel
     have HK:=Lib.hid hK
     have HD:=Lib.hid hD
     by_cases hq0:q=0
     ·subst hq0
      have hz:∀ g,Dec.steps g 0=0:=by intro g;cases g<;>simp[Dec.steps]
      have hz2:∀ g (l:List Nat),Dec.digs g 0 l=l:=by intro g l;cases g<;>simp[Dec.digs]
      rw[hz] at g2
      subst g2
      rw[hz2] at g5
      subst g5
      have hfl:((Dec.fullN k (Dec.dgs s.D s.nd)).map Dec.ch).length=s.nd+δ := by
       rw[List.length_map,Dec.fullN_len,HDel.out,HLEN.out];omega
      have HFL:=Lib.hid hfl
      have q800:wr.cell? ⟨B,800,none⟩=some (.int .i64 s.nd):=hD.nd
      have q801:wr.cell? ⟨B,801,none⟩=some (.int .i64 s.dp):=hD.dp
      have z800:=hD.fz 800
      have z801:=hD.fz 801
      have elsh:Dec.lshD k s={ ({ ({ s with D:=Dec.ow s.D 0 ((Dec.fullN k (Dec.dgs s.D s.nd)).map Dec.ch),trunc:=s.trunc||Dec.over 0 ((Dec.fullN k (Dec.dgs s.D s.nd)).map Dec.ch) }:Dec.Dc) with nd:=min (s.nd+δ) 800 }:Dec.Dc) with dp:=s.dp+δ }:=by
       unfold Dec.lshD Dec.fullL
       rw[hfl]
       simp only[Dec.Dc.mk.injEq,true_and,and_true]
       omega
      have HEL:=Lib.hid elsh
      clear hK hD hz hz2 g1 g3 g4 hfl elsh
      by_cases hbig:800≤s.nd+δ
      ·go_wp2_with fail
       refine(trim_any B (Dec.lshD k s) _ ?_ ?_).mono ?_
       ·rw[HEL.out,show min (s.nd+δ) 800=800 by omega]
        exact((HD.out.setNdV (s.nd+δ) _ (by omega)).setNdV 800 _ (by omega)).setDpV _ _ (by omega)
       ·rw[HEL.out];exact Nat.min_le_right _ _
       rintro e w' ⟨rfl,hd',hk'⟩
       have HD':=Lib.hid hd'
       have HK':=Lib.hid hk'
       clear hd' hk'
       go_wp2
       go_end0
       exact⟨rfl,HD'.out,(((HK.out.setCell _ _ (fun _=>rfl)).setCell _ _ (fun _=>rfl)).setCell _ _ (fun _=>rfl)).trans HK'.out⟩
      ·go_wp2_with fail
       refine(trim_any B (Dec.lshD k s) _ ?_ ?_).mono ?_
       ·rw[HEL.out,show min (s.nd+δ) 800=s.nd+δ by omega]
        exact(HD.out.setNdV (s.nd+δ) _ (by omega)).setDpV _ _ (by omega)
       ·rw[HEL.out];exact Nat.min_le_right _ _
       rintro e w' ⟨rfl,hd',hk'⟩
       have HD':=Lib.hid hd'
       have HK':=Lib.hid hk'
       clear hd' hk'
       go_wp2
       go_end0
       exact⟨rfl,HD'.out,((HK.out.setCell _ _ (fun _=>rfl)).setCell _ _ (fun _=>rfl)).trans HK'.out⟩
     ·cases f with
      | zero=>exact absurd (by simpa using g1) hq0
      | succ f =>
       have gs:Dec.steps (f+1) q=if q=0 then 0 else 1+Dec.steps f (q / 10):=rfl
       have gd:Dec.digs (f+1) q t=if q=0 then t else Dec.digs f (q / 10) (q%10 :: t):=rfl
       rw[if_neg hq0] at gs gd
       obtain⟨q',rm,Z,O⟩:=one_out q g4
       obtain⟨o1,o2,o3,o4,o5,o6,o7⟩:=O
       rw[gs,← o6] at g2
       rw[gd,← o6,← o7] at g5
       have g1':q'<10^f:=by rw[Nat.pow_succ] at g1;omega
       have g4':q'<18446744073709551616:=by omega
       obtain⟨W',rfl⟩:∃ W',W=W'+1:=⟨W-1,by omega⟩
       have g2':Dec.steps f q'=W':=by omega
       have hlt:W'<800:=by omega
       have w25:W'≤25:=by omega
       have hqp:(0:Int)<q:=by omega
       have fB:=hD.fz W'
       obtain⟨cold,cw⟩:∃ x:Value,wr.cell? ⟨B,W',none⟩=some x:=⟨_,hD.byte W' (by rw[Dec.ow_len _ _ _ H.out.len];exact hlt)⟩
       have hcw:((Dec.ch rm).toNat:Int)=(rm:Int)+48:=by rw[Dec.ch_nat rm (by omega)];omega
       have HCW:=Lib.hid hcw
       have G1:=Lib.hid g1'
       have G2:=Lib.hid g2'
       have G4:=Lib.hid g4'
       have G5:=Lib.hid g5
       clear hK hD gs gd g1 g2 g3 g4 g5 g1' g2' g4' o6 o7 hcw
       go_wp2
       go_roundw
       case measure=>(simp[intOf];try omega)
       case rel =>
        refine⟨f,W',q',rm :: t,?_,rfl,G1.out,G2.out,w25,G4.out,G5.out,HK.out.setCell _ _ (fun _=>rfl),?_⟩
        ·exact congrArg (Value.int .i64) (by omega)
        ·rw[List.map_cons,← Dec.ow_set _ _ _ _ H.out.len hlt,Dec.over_in _ _ _ hlt]
         exact HD.out.setByte W' hlt (Dec.ch rm) _ HCW.out.symm
   | succ m =>
    obtain rfl:=(show _=Value.int .i64 (m:Int) from hr.trans (congrArg (Value.int .i64) (by omega)))
    obtain⟨W,hW⟩:∃ W,m+δ = W:=⟨_,rfl⟩
    obtain rfl:=(show _=Value.int .i64 ((W:Int)+1) from hw.trans (congrArg (Value.int .i64) (by omega)))
    obtain⟨X,hX⟩:∃ X,Dec.carry k ((Dec.dgs s.D s.nd).drop (m+1))=X:=⟨_,rfl⟩
    rw[hX] at hn
    subst hn
    rw[show m+1+δ = W+1 by omega] at hD
    have hmD:m<s.D.length:=by have:=H.out.len;omega
    have hmO:m<(Dec.ow s.D (W+1) ((Dec.lows k ((Dec.dgs s.D s.nd).drop (m+1))).map Dec.ch)).length:=by rw[Dec.ow_len _ _ _ H.out.len];omega
    have ci:=hD.byte m hmO
    obtain⟨c,hc⟩:∃ c,s.D[m]=c:=⟨_,rfl⟩
    have hg:(Dec.ow s.D (W+1) ((Dec.lows k ((Dec.dgs s.D s.nd).drop (m+1))).map Dec.ch))[m]?=some c:=by
     rw[Dec.ow_get _ _ _ H.out.len,if_pos (by omega),List.getElem?_eq_getElem hmD,hc]
    rw[show(Dec.ow s.D (W+1) ((Dec.lows k ((Dec.dgs s.D s.nd).drop (m+1))).map Dec.ch))[m]=c from(List.getElem?_eq_some_iff.1 hg).2] at ci
    have hcd:=HF.out.dig c (by rw[← hc];exact List.mem_take_iff_getElem.2 ⟨m,by omega,rfl⟩)
    obtain⟨d,hd⟩:∃ d,Dec.un c=d:=⟨_,rfl⟩
    have hcv:(c.toNat:Int)=(d:Int)+48:=by unfold Dec.un at hd;omega
    rw[hcv] at ci
    have hds:(Dec.dgs s.D s.nd).drop m=d :: (Dec.dgs s.D s.nd).drop (m+1):=by
     have:(Dec.dgs s.D s.nd)[m]?=some d:=by
      unfold Dec.dgs
      rw[List.getElem?_map,List.getElem?_take,if_pos (by omega),List.getElem?_eq_getElem hmD,hc]
      exact congrArg some hd
     obtain⟨h1,h2⟩:=List.getElem?_eq_some_iff.1 this
     rw[List.drop_eq_getElem_cons h1,h2]
    have d9:d≤9:=by unfold Dec.un at hd;omega
    obtain⟨P,hP⟩:∃ P,d*2^k=P:=⟨_,rfl⟩
    have hXP:X+P<18446744073709551616:=by
     have:=Dec.carry_add_lt k d ((Dec.dgs s.D s.nd).drop (m+1)) (HLSB.out (m+1)) (by omega)
     have:=pow60 k k2
     omega
    obtain⟨Y,hY⟩:∃ Y,X+P=Y:=⟨_,rfl⟩
    have e1:IntKind.u64.wrap ((d:Int)*2^k)=(P:Int):=by
     rw[wrapU,← hP]
     have:((d:Int)*2^k)=((d*2^k:Nat):Int):=by simp
     rw[this,hP]
     omega
    have e2:IntKind.u64.wrap ((X:Int)+P)=(Y:Int):=by rw[wrapU];omega
    obtain⟨q,rm,Z,O⟩:=one_out Y (by omega)
    obtain⟨o1,o2,o3,o4,o5,o6,o7⟩:=O
    have hlow:Dec.lows k ((Dec.dgs s.D s.nd).drop m)=rm :: Dec.lows k ((Dec.dgs s.D s.nd).drop (m+1)):=by
     rw[hds]
     show(Dec.carry k _+d*2^k)%10 :: _=_
     rw[hX,hP,hY,o7]
    have hcar:Dec.carry k ((Dec.dgs s.D s.nd).drop m)=q:=by
     rw[hds]
     show(Dec.carry k _+d*2^k) / 10=_
     rw[hX,hP,hY,o6]
    have hcw:((Dec.ch rm).toNat:Int)=(rm:Int)+48:=by rw[Dec.ch_nat rm (by omega)];omega
    have HKr:=Lib.hid hK
    have HDr:=Lib.hid hD
    have HW:=Lib.hid hW
    have HLO:=Lib.hid hlow
    have HCA:=Lib.hid hcar
    have HCW:=Lib.hid hcw
    have fB:=hD.fz W
    have f803:=hD.fz 803
    have c803:wr.cell? ⟨B,803,none⟩=some (.bool _):=hD.trunc
    have hW800:W≤825:=by omega
    have hm8:m<800:=by omega
    by_cases hlt:W<800
    ·obtain⟨cold,cw⟩:∃ x:Value,wr.cell? ⟨B,W,none⟩=some x:=⟨_,hD.byte W (by rw[Dec.ow_len _ _ _ H.out.len];exact hlt)⟩
     clear hK hD hW hX hds hg hmO hc hd hcv hcd hmD hr hw hP hY o6 o7 hXP hlow hcar hcw
     go_wp2
     go_roundw
     case measure=>(simp[intOf];try omega)
     case rel =>
      refine⟨m,by omega,by go_num,?_,?_,HKr.out.setCell _ _ (fun _=>rfl),?_⟩
      ·exact congrArg (Value.int .i64) (by have:=HW.out;omega)
      ·rw[HCA.out]
      ·rw[HW.out,HLO.out,List.map_cons,← Dec.ow_set _ _ _ _ H.out.len hlt,Dec.over_in _ _ _ hlt]
       exact HDr.out.setByte W hlt (Dec.ch rm) _ HCW.out.symm
    ·have hge:800≤W:=by omega
     by_cases h0:rm=0
     ·subst h0
      clear hK hD hX hds hg hmO hc hd hcv hcd hmD hr hw hP hY o6 o7 hXP hlow hcar hcw hlt hW
      go_wp2
      go_roundw
      case measure=>(simp[intOf];try omega)
      case rel =>
       refine⟨m,by omega,by go_num,?_,?_,HKr.out,?_⟩
       ·exact congrArg (Value.int .i64) (by have:=HW.out;omega)
       ·rw[HCA.out]
       ·rw[HW.out,HLO.out,List.map_cons,← Dec.ow_out _ _ _ _ H.out.len hge,Dec.over_out _ _ _ hge]
        have e0:(Dec.ch 0 !=48)=false:=by decide
        rw[e0,Bool.false_or]
        exact HDr.out
     ·have hrz:((rm:Int) !=0)=true:=bne_iff_ne.2 (by omega)
      clear hK hD hX hds hg hmO hc hd hcv hcd hmD hr hw hP hY o6 o7 hXP hlow hcar hcw hlt hW
      go_wp2
      go_roundw
      case measure=>(simp[intOf];try omega)
      case rel =>
       refine⟨m,by omega,by go_num,?_,?_,HKr.out.setCell _ _ (fun _=>rfl),?_⟩
       ·exact congrArg (Value.int .i64) (by have:=HW.out;omega)
       ·rw[HCA.out]
       ·rw[HW.out,HLO.out,List.map_cons,← Dec.ow_out _ _ _ _ H.out.len hge,Dec.over_out _ _ _ hge]
        have e0:(Dec.ch rm !=48)=true:=by
         rw[bne_iff_ne]
         intro e
         have:=congrArg UInt8.toNat e
         rw[Dec.ch_nat rm (by omega)] at this
         have e48:(48:UInt8).toNat=48:=rfl
         omega
        rw[e0,Bool.true_or,Bool.or_true]
        exact HDr.out.setTr true
end Go.Proofs.YtcfgbdhpcboikaaGreatDoor
