/-
  utf8.look: what it answers at every byte.
  strings.Builder's Write: bytes of a slice that lies below the builder.
  A cut of a slice of bytes, as one equation with the address written out.
  utf8.Decode: bytes made whole.
  What the listed package-level variables hold, as facts on cells; that these stand behind whatever turns nothing that was there.
  policy.Text: what it answers.
  internal/strconv.atof64exact: the exact ways.
  What readFloat counts, over the bytes of a text: the digits' fold and the exponent's fold.
  readFloat: what is asked of a text, and what comes out.
-/
import Derived.Test.YtcfgbdhpcboikaaGreatDoorTextLaw
import Derived.Test.YtcfgbdhpcboikaaGreatDoorShelfB
import Derived.Lib.FrozenHead2
import Derived.Test.YtcfgbdhpcboikaaGreatDoorBase
import Derived.Test.YtcfgbdhpcboikaaGreatDoorShelf
import Derived.Test.YtcfgbdhpcboikaaGreatDoorNum
import GoSem.PinnedTables
import Derived.Shelf.Unicode.DecodeSlow
import Derived.Lib.ConvBytes
import Derived.Laws.FloatArith
namespace Go.Proofs.YtcfgbdhpcboikaaGreatDoor
set_option maxHeartbeats 4000000
set_option maxRecDepth 100000
open Go.RowKit PU8
theorem look_low (g off cap i c:Nat)(L:List UInt8)(w:World)(hi:i<L.length)(_hL:L.length≤140737488355328)(hc:w.cell? ⟨g,off+i,none⟩=some (.int .u8 (c:Nat)))(hcc:c<128) :
  Calls Tryz.prog 129 #[.slice (some ⟨g,off,none⟩) L.length cap,.int .i64 i] w fun e w'=>e=.returned (.tuple #[.int .i64 1,.bool true])∧w=w':=by
 have l128:decide ((c:Int)<128)=true:=by simp;omega
 have HCC:=Lib.hid hcc
 clear hcc
 go_enter Tryz.func129,Tryz.ntmps129
 go_wp2
 go_ret2
 exact⟨rfl,rfl⟩
theorem look_none (g off cap i c:Nat)(L:List UInt8)(w:World)(hi:i<L.length)(_hL:L.length≤140737488355328)(hc:w.cell? ⟨g,off+i,none⟩=some (.int .u8 (c:Nat)))(hcc:128≤c∧c<194) :
  Calls Tryz.prog 129 #[.slice (some ⟨g,off,none⟩) L.length cap,.int .i64 i] w fun e w'=>e=.returned (.tuple #[.int .i64 0,.bool false])∧w=w':=by
 have l128:decide ((c:Int)<128)=false:=by simp;omega
 have l194:decide ((c:Int)<194)=true:=by simp;omega
 have HCC:=Lib.hid hcc
 clear hcc
 go_enter Tryz.func129,Tryz.ntmps129
 go_wp2
 go_ret2
 exact⟨rfl,rfl⟩
theorem look_high (g off cap i c:Nat)(L:List UInt8)(w:World)(hi:i<L.length)(_hL:L.length≤140737488355328)(hc:w.cell? ⟨g,off+i,none⟩=some (.int .u8 (c:Nat)))(hcc:244<c) :
  Calls Tryz.prog 129 #[.slice (some ⟨g,off,none⟩) L.length cap,.int .i64 i] w fun e w'=>e=.returned (.tuple #[.int .i64 0,.bool false])∧w=w':=by
 have l128:decide ((c:Int)<128)=false:=by simp;omega
 have l194:decide ((c:Int)<194)=false:=by simp;omega
 have l224:decide ((c:Int)<224)=false:=by simp;omega
 have l240:decide ((c:Int)<240)=false:=by simp;omega
 have l244:decide ((c:Int)<244)=false:=by simp;omega
 have q224:((c:Int)==224)=false:=by simp;omega
 have q237:((c:Int)==237)=false:=by simp;omega
 have q240:((c:Int)==240)=false:=by simp;omega
 have q244:((c:Int)==244)=false:=by simp;omega
 have HCC:=Lib.hid hcc
 clear hcc
 go_enter Tryz.func129,Tryz.ntmps129
 go_wp2
 go_ret2
 exact⟨rfl,rfl⟩
theorem lookRel_start (L:List UInt8)(i need lo hi m:Nat)(t:Bool)(h:i<L.length)(hl:contU need lo hi 1 (natsU (L.drop (i+1)))=(m,t)):LookRel L i need m t 1 lo hi :=
 ⟨Nat.le_refl _,by omega,h,hl⟩
theorem look_any (g off cap i m:Nat)(t:Bool)(L:List UInt8)(w:World)(hB:Hid (BytesAt w g off L))(hi:i<L.length)(hL:L.length≤140737488355328)(hr:Hid (lookU (natsU (L.drop i))=(m,t))) :
  Calls Tryz.prog 129 #[.slice (some ⟨g,off,none⟩) L.length cap,.int .i64 i] w fun e w'=>e=.returned (.tuple #[.int .i64 m,.bool t])∧w=w':=by
 have hc:=hB.out i hi
 have h:=hr.out
 rw[natsU_drop _ _ hi,look_cons] at h
 have hc256:=L[i].toNat_lt
 generalize L[i].toNat=c at hc h hc256
 by_cases h1:c<128
 ·rw[if_pos h1] at h
  cases h
  exact look_low g off cap i c L w hi hL hc h1
 rw[if_neg h1] at h
 by_cases h2:c<194
 ·rw[if_pos h2] at h
  cases h
  exact look_none g off cap i c L w hi hL hc ⟨by omega,h2⟩
 rw[if_neg h2] at h
 by_cases h3:c<224
 ·rw[if_pos h3] at h
  exact look_two g off cap i m c t L w hB hi hL hc ⟨by omega,h3⟩ (Lib.hid (lookRel_start L i _ _ _ m t hi h))
 rw[if_neg h3] at h
 by_cases h4:c=224
 ·rw[if_pos h4] at h
  exact look_e0 g off cap i m c t L w hB hi hL hc h4 (Lib.hid (lookRel_start L i _ _ _ m t hi h))
 rw[if_neg h4] at h
 by_cases h5:c=237
 ·rw[if_pos h5] at h
  exact look_ed g off cap i m c t L w hB hi hL hc h5 (Lib.hid (lookRel_start L i _ _ _ m t hi h))
 rw[if_neg h5] at h
 by_cases h6:c<240
 ·rw[if_pos h6] at h
  exact look_three g off cap i m c t L w hB hi hL hc ⟨by omega,h6,h5⟩ (Lib.hid (lookRel_start L i _ _ _ m t hi h))
 rw[if_neg h6] at h
 by_cases h7:c=240
 ·rw[if_pos h7] at h
  exact look_f0 g off cap i m c t L w hB hi hL hc h7 (Lib.hid (lookRel_start L i _ _ _ m t hi h))
 rw[if_neg h7] at h
 by_cases h8:c<244
 ·rw[if_pos h8] at h
  exact look_four g off cap i m c t L w hB hi hL hc ⟨by omega,h8⟩ (Lib.hid (lookRel_start L i _ _ _ m t hi h))
 rw[if_neg h8] at h
 by_cases h9:c=244
 ·rw[if_pos h9] at h
  exact look_f4 g off cap i m c t L w hB hi hL hc h9 (Lib.hid (lookRel_start L i _ _ _ m t hi h))
 rw[if_neg h9] at h
 cases h
 exact look_high g off cap i c L w hi hL hc (by omega)
open Go.RowKit
theorem Tryz.info5:(Tryz.prog.info? 5).map (fun i=>(i.zero,i.size,i.bytes))=some (some (.int .u8 0),1,1):=by kernel_rfl
theorem BytesAt.below {w w':World}{g off B:Nat}{L:List UInt8}(h:BytesAt w g off L)(hb:Below B w w')(hg:g<B):BytesAt w' g off L:=by
 intro j hj
 rw[hb.cell (p:=⟨g,off+j,none⟩) hg]
 exact h j hj
theorem BytesAt.news {w:World}{g off:Nat}{L:List UInt8}(h:BytesAt w g off L):∀ j u,(Lib.byteCells L)[j]?=some u→w.cell? ((⟨g,off,none⟩:Addr).add j)=some u:=by
 intro j u hu
 unfold Lib.byteCells at hu
 rw[List.getElem?_map] at hu
 rcases Nat.lt_or_ge j L.length with hj|hj
 ·rw[List.getElem?_eq_getElem hj] at hu
  simp at hu
  have hadd:(⟨g,off,none⟩:Addr).add j=⟨g,off+j,none⟩:=by unfold Addr.add;split<;>simp_all
  rw[hadd,h j hj,hu]
 ·rw[List.getElem?_eq_none hj] at hu
  simp at hu
theorem byteCells_one (L:List UInt8):∀ u∈Lib.byteCells L,u.oneCell'=true:=by
 intro u hu
 unfold Lib.byteCells at hu
 obtain⟨b,_,rfl⟩:=List.mem_map.1 hu
 rfl
theorem byteCells_len (L:List UInt8):(Lib.byteCells L).length=L.length:=by unfold Lib.byteCells;simp
theorem bwrite (B b:Nat)(bs:List Value)(g off cap n:Nat)(L:List UInt8)(hn:L.length=n)(w:World)(h:Lib.IsBuilderF 112 5 B b bs w)(hsrc:Hid (BytesAt w g off L))(hgB:g<B)(hlen:bs.length+L.length≤140737488355328)(hBw:B≤w.heap.size) :
  Calls Tryz.prog 130 #[.pointer (some ⟨b,0,none⟩),.slice (some ⟨g,off,none⟩) n cap] w fun e w'=>e=.returned (.tuple #[.int .i64 n,.nilIface])∧(Lib.BuilderAtF 112 5 B b (.pointer (some ⟨b,0,none⟩)) (bs++Lib.byteCells L) w'∧Below B w w'∧Lib.OthersKept 5 (some b) w w'):=by
 subst hn
 obtain⟨i0,hi,hz0,hz1,hz2⟩:=info_parts Tryz.info5
 go_enter Tryz.func130,Tryz.ntmps130
 go_wp2_with (go_at_call 156;refine(Tryz.Builder_copyCheck_k B b bs _ h).mono ?_)
 rintro e w1 ⟨rfl,h1,hb1,hk1⟩
 obtain⟨hB,v,hbk,hown,hne⟩:=h1
 have hs1:Hid (BytesAt w1 g off L):=hsrc.out.below hb1 hgB
 have c0:w1.cell? ⟨b,0,none⟩=some (.pointer (some ⟨b,0,none⟩)):=by rw[Lib.cell_of_heap hbk];rfl
 have c1:w1.cell? ⟨b,1,none⟩=some v:=by rw[Lib.cell_of_heap hbk];rfl
 go_wp2_with (at_builtin;refine wpList_append_ownF _ rfl _ _ 35 rfl B 5 i0 (.int .u8 0) 1 1 Tryz.underlying35 hi hz0 hz1 hz2 rfl (by decide) _ _ _ rfl hown ⟨g,off,none⟩ L.length cap (Lib.byteCells L) rfl ?c1 hs1.out.news (byteCells_one L) ?c3 ?c4 ?c5 ?_)
 case c1=>rw[byteCells_len,Nat.mul_one]
 case c3=>unfold maxLen;omega
 case c4=>omega
 case c5=>have:=hb1.size;omega
 intro v' w2 hown' hgrow _
 have hlt:b<w1.heap.size:=by
  rcases Nat.lt_or_ge b w1.heap.size with h'|h'
  ·exact h'
  ·simp[Array.getElem?_eq_none h'] at hbk
 have hb2:w2.heap[b]?=some (.cells #[.pointer (some ⟨b,0,none⟩),v] 112 (0,0)):=by
  rw[hgrow.block b hlt (fun e=>hne e.symm)]
  exact hbk
 have d0:w2.cell? ⟨b,0,none⟩=some (.pointer (some ⟨b,0,none⟩)):=by rw[Lib.cell_of_heap hb2];rfl
 have d1:w2.cell? ⟨b,1,none⟩=some v:=by rw[Lib.cell_of_heap hb2];rfl
 have f1:w2.frozen? ⟨b,1,none⟩=false:=Lib.frozen_of_heap hb2 1
 obtain⟨ao,n',cap',rfl⟩:∃ ao n' cap,v'=.slice ao n' cap:=by
  rcases hown'.2 with⟨hv,_⟩|⟨g,cap,cur,fz,hv,_⟩
  ·exact⟨_,_,_,hv⟩
  ·exact⟨_,_,_,hv⟩
 go_wp2
 go_ret2
 refine⟨rfl,?_,?_,(hk1.grown hgrow (Lib.ownsRowF_kind hown)).setCell ⟨b,1,none⟩ rfl _⟩
 ·exact Lib.BuilderAtF.put (T:=112) (e:=5) hB hb2 (bs':=bs++Lib.byteCells L) (by simpa [byteCells_len] using hown') (by decide)
 ·exact(hb1.grown hgrow (by have:=hb1.size;omega) (fun k hk=>(hown.lt k hk).1)).setCell (p:=⟨b,1,none⟩) hB _
open Go.RowKit
section
variable {P:Program} (T E:TypeId) (ht:P.underlying T=some (.slice E)) (hs:(P.info? E).map (·.size)=some 1) (w:World) (a:Option Addr) (n c l h:Nat)
include ht hs
theorem run_cut_h (h1:h≤c):(Instr.slice T (.slice a n c) none (some (.int .i64 h)) none).run P w=.ok (.slice a h c) w:=by
 cases hq:P.info? E with
 | none=>simp[hq] at hs
 | some i =>
  simp[Instr.slice,run_underlying ht,Instr.sliceBounds,run_sliceBound,sizeOf,typeInfo,hq,h1,Addr.add]
theorem run_cut_lh (h1:l≤h)(h2:h≤c):(Instr.slice T (.slice a n c) (some (.int .i64 l)) (some (.int .i64 h)) none).run P w=.ok (.slice (if c=l then a else a.map (·.add l)) (h-l) (c-l)) w:=by
 cases hq:P.info? E with
 | none=>simp[hq] at hs
 | some i =>
  have hi:i.size=1:=by simpa [hq] using hs
  simp[Instr.slice,run_underlying ht,Instr.sliceBounds,run_sliceBound,sizeOf,typeInfo,hq,hi,h1,h2]
end
theorem OwnB.empty (w:World)(base:Nat)(E:TypeId)(h:base≤w.heap.size):OwnB (w.alloc (.cells #[] E)) base E (some ⟨w.heap.size,0,none⟩) 0 [] :=
 World.ownsRow_made w #[] 0 h (by unfold maxLen;omega) rfl
theorem IsB.same {w w':World}{a:Option Addr}{bs:List UInt8}(h:IsB w a bs)(hh:w'.heap=w.heap):IsB w' a bs:=by
 intro j b hb
 obtain⟨x,hx,hc⟩:=h j b hb
 exact⟨x,hx,by unfold World.cell? at *;rw[hh];exact hc⟩
open Go.RowKit PU8
theorem slice_eq (g off cap k h:Nat)(n:Nat)(hk:k<cap)(h1:k≤h)(h2:h≤cap)(w:World) :
  (Instr.slice 35 (.slice (some ⟨g,off,none⟩) n cap) (some (.int .i64 k)) (some (.int .i64 h)) none).run Tryz.prog w=.ok (.slice (some ⟨g,off+k,none⟩) (h-k) (cap-k)) w:=by
 rw[run_cut_lh 35 5 Tryz.underlying35 (by kernel_rfl) w (some ⟨g,off,none⟩) n cap k h h1 h2,if_neg (by omega)]
 have hadd:(⟨g,off,none⟩:Addr).add k=⟨g,off+k,none⟩:=by unfold Addr.add;split<;>simp_all
 simp[hadd]
theorem BytesAt.cut {w:World}{g off:Nat}{L:List UInt8}(h:BytesAt w g off L)(k m:Nat):BytesAt w g (off+k) ((L.drop k).take m):=by
 intro j hj
 rw[List.length_take,List.length_drop] at hj
 rw[Nat.add_assoc,h (k+j) (by omega)]
 simp
theorem rune_fffd:Lib.runeCells 65533=Lib.byteCells [239,191,189]:=by
 rw[← Lib.byteCells_encodeRune]
 have:Lib.encodeRune 65533=[239,191,189]:=by decide
 rw[this]
theorem byteCells_append (a b:List UInt8):Lib.byteCells a++Lib.byteCells b=Lib.byteCells (a++b):=by simp[Lib.byteCells]
theorem look_le (l:List UInt8)(h:l≠[]):(lookU (natsU l)).1≤l.length:=by
 have hc:∀ need lo hi n (r:List Nat),(contU need lo hi n r).1≤n+r.length:=by
  intro need
  induction need with
  | zero=>intro lo hi n r;simp[contU]
  | succ k ih =>
   intro lo hi n r
   cases r with
   | nil=>simp[contU]
   | cons c r =>
    unfold contU
    split
    ·simp
    ·have:=ih 0x80 0xbf (n+1) r
     simp only[List.length_cons]
     omega
 have hl:(natsU l).length=l.length:=by unfold natsU;simp
 rw[← hl]
 cases hb:natsU l with
 | nil=>exact absurd hb (nats_ne h)
 | cons c r =>
  rw[look_cons]
  simp only[List.length_cons]
  repeat' split
  all_goals first
   | (have:=hc 1 0x80 0xbf 1 r;omega)
   | (have:=hc 2 0xa0 0xbf 1 r;omega)
   | (have:=hc 2 0x80 0x9f 1 r;omega)
   | (have:=hc 2 0x80 0xbf 1 r;omega)
   | (have:=hc 3 0x90 0xbf 1 r;omega)
   | (have:=hc 3 0x80 0xbf 1 r;omega)
   | (have:=hc 3 0x80 0x8f 1 r;omega)
   | (simp only;omega)
structure DcdAt (L:List UInt8) (B k:Nat) (w wx:World) (o:List UInt8):Prop where
 le:k≤L.length
 bld:Lib.IsBuilderF 112 5 B B (Lib.byteCells o) wx
 bel:Below B w wx
 out:o++decU (L.drop k)=decU L
theorem DcdAt.len {L:List UInt8}{B k:Nat}{w wx:World}{o:List UInt8}(h:DcdAt L B k w wx o):o.length≤3*L.length:=by
 have:=congrArg List.length h.out
 rw[List.length_append] at this
 have h2:=dec_len L.length L (Nat.le_refl _)
 omega
theorem decode_any (g off cap:Nat)(L:List UInt8)(hL:L.length≤1000000000)(hcap:L.length≤cap)(w:World)(hB:Hid (BytesAt w g off L))(hg:g<w.heap.size) :
  Calls Tryz.prog 77 #[.slice (some ⟨g,off,none⟩) L.length cap] w fun e w'=>e=.returned (.string ⟨(decU L).toArray⟩)∧Below w.heap.size w w':=by
 go_enter Tryz.func77,Tryz.ntmps77
 go_wp2
 go_loopw [4] (fun i wx=>∃ k:Nat,i=.int .i64 k∧∃ o,Hid (DcdAt L w.heap.size k w wx o)) (fun i _=>L.length-(intOf i).toNat)
 case atStart =>
  refine⟨0,rfl,[],⟨Nat.zero_le _,?_,(Below.refl _ w).alloc (Nat.le_refl _) _,rfl⟩⟩
  exact .inl ⟨Nat.le_refl _,.slice none 0 0,heap_alloc_new w _,World.ownsRowF_nil _ _ _ _,by simp[Value.ownBlock]⟩
 case round =>
  obtain⟨k,rfl,o,hD⟩:=hrel
  have hk:=hD.out.le
  rcases Nat.lt_or_ge k L.length with hlt|hge
  ·have hBr:Hid (BytesAt wr g off L):=hB.out.below hD.out.bel hg
   have hne:L.drop k≠[]:=by
    intro e
    have:=congrArg List.length e
    rw[List.length_drop] at this
    simp at this
    omega
   have hst:=dec_step (L.drop k) hne
   have hpw:=piece_whole (L.drop k) hne
   cases hlk:lookU (natsU (L.drop k)) with
   | mk m t =>
   rw[hlk] at hst hpw
   simp only at hst hpw
   have HLK:Hid (lookU (natsU (L.drop k))=(m,t)):=hlk
   have hol:=hD.out.len
   cases t with
   | true =>
    obtain⟨_,hm1,hm2⟩:=hpw rfl
    rw[List.length_drop] at hm2
    have hmax:max m 1=m:=by omega
    rw[if_pos rfl,hmax] at hst
    have HST:=Lib.hid hst
    have hsl:=slice_eq g off cap k (k+m) L.length (by omega) (by omega) (by omega)
    have hkm:k+m-k=m:=by omega
    rw[hkm] at hsl
    rw[Int.natCast_add] at hsl
    clear hst hpw hlk hmax hne hkm
    go_wp2_with fail
    refine(look_any g off cap k m true L _ hBr hlt (by omega) HLK).mono ?_
    rintro e w' ⟨rfl,rfl⟩
    go_wp2_with fail
    refine(bwrite w.heap.size w.heap.size (Lib.byteCells o) g (off+k) (cap-k) m ((L.drop k).take m) (by rw[List.length_take,List.length_drop];omega) _ hD.out.bld (Lib.hid (hBr.out.cut k m)) hg (by rw[byteCells_len,List.length_take,List.length_drop];omega) hD.out.bel.size).mono ?_
    rintro e w2 ⟨rfl,b1,b2,b3⟩
    have HN:Hid (DcdAt L w.heap.size (k+m) w w2 (o++(L.drop k).take m)):=by
     refine⟨by omega,.inr (by rw[← byteCells_append];exact b1),hD.out.bel.trans b2,?_⟩
     have:=hD.out.out
     rw[HST.out,List.drop_drop] at this
     rw[List.append_assoc]
     exact this
    clear b1 b2 b3
    go_wp2
    refine⟨⟨k+m,by congr 1;omega,_,HN⟩,?_⟩
    simp[intOf];omega
   | false =>
    rw[if_neg (by simp),List.drop_drop] at hst
    have HST:=Lib.hid hst
    clear hst hpw hlk hne
    go_wp2_with fail
    refine(look_any g off cap k m false L _ hBr hlt (by omega) HLK).mono ?_
    rintro e w' ⟨rfl,rfl⟩
    go_wp2_with fail
    refine(Tryz.Builder_WriteRune_k w.heap.size w.heap.size (Lib.byteCells o) 65533 (by omega) (by omega) _ hD.out.bld (by rw[byteCells_len];omega) hD.out.bel.size).mono ?_
    rintro e w2 ⟨rfl,b1,b2,b3⟩
    have HN:Hid (k+max m 1≤L.length→DcdAt L w.heap.size (k+max m 1) w w2 (o++[239,191,189])):=by
     intro hle
     refine⟨hle,.inr (by rw[← byteCells_append,← rune_fffd];exact b1),hD.out.bel.trans b2,?_⟩
     have:=hD.out.out
     rw[HST.out] at this
     rw[List.append_assoc]
     exact this
    have hle:m≤L.length-k:=by
     have:=look_le (L.drop k) (by intro e;have:=congrArg List.length e;rw[List.length_drop] at this;simp at this;omega)
     rw[HLK.out,List.length_drop] at this
     exact this
    clear b1 b2 b3
    go_wp2
    refine⟨⟨k+max m 1,by congr 1;omega,_,HN.out (by omega)⟩,?_⟩
    simp[intOf];omega
  ·have hE:o=decU L:=by
    have:=hD.out.out
    rw[List.drop_eq_nil_of_le (by omega),dec_nil,List.append_nil] at this
    exact this
   have HE:=Lib.hid hE
   clear hE
   go_wp2_with fail
   refine(Tryz.Builder_String_any_k w.heap.size w.heap.size o _ hD.out.bld hD.out.bel.size).mono ?_
   rintro e w2 ⟨rfl,b1,b2,b3⟩
   clear b1 b3
   go_wp2
   go_ret
   refine⟨?_,hD.out.bel.trans b2⟩
   rw[HE.out]
   rfl
open Go.RowKit
def p10hi (i:Nat):Nat:=(Pinned.pow10Rows.getD i (0,0)).1
def p10lo (i:Nat):Nat:=(Pinned.pow10Rows.getD i (0,0)).2
def f10s:List Nat:=[4607182418800017408,4621819117588971520,4636737291354636288,4652007308841189376,4666723172467343360,4681608360884174848,4696837146684686336,4711630319722168320,4726483295884279808,4741671816366391296,4756540486875873280,4771362005757984768,4786511204640096256,4801453603149578240,4816244402031689728,4831355200913801216,4846369599423283200,4861130398305394688,4876203697187506176,4891288408196988160,4906019910204099648,4921056587992461136,4936209963552724370]
def pows2:List Int:=[1,3,6,9,13,16,19,23,26]
structure Tabs (w:World):Prop where
 opt:w.cell? ⟨7,0,none⟩=some (.bool true)
 most:∃ m,w.cell? ⟨1,0,none⟩=some (.int .i64 m)
 syn:∃ t v,w.cell? ⟨2,0,none⟩=some (.iface t v)
 rng:∃ t v,w.cell? ⟨3,0,none⟩=some (.iface t v)
 info0:w.cell? ⟨8,0,none⟩=some (.int .u64 52)
 info1:w.cell? ⟨8,1,none⟩=some (.int .u64 11)
 info2:w.cell? ⟨8,2,none⟩=some (.int .i64 (-1023))
 f10:∃ b o,w.cell? ⟨12,0,none⟩=some (.slice (some ⟨b,o,none⟩) 23 23)∧∀ i,i<23→w.cell? ⟨b,o+i,none⟩=some (.float .f64 (f10s.getD i 0))
 p2:∃ b o,w.cell? ⟨11,0,none⟩=some (.slice (some ⟨b,o,none⟩) 9 9)∧∀ i,i<9→w.cell? ⟨b,o+i,none⟩=some (.int .i64 (pows2.getD i 0))
 p10:∀ i,i<696→w.cell? ⟨13,2*i,none⟩=some (.int .u64 (p10hi i))∧w.cell? ⟨13,2*i+1,none⟩=some (.int .u64 (p10lo i))
 cheats:∃ b o,w.cell? ⟨14,0,none⟩=some (.slice (some ⟨b,o,none⟩) 61 61)∧∀ i,i<61→w.cell? ⟨b,o+2*i,none⟩=some (.int .i64 (Pinned.cheatRows.getD i (0,[])).1)∧w.cell? ⟨b,o+(2*i+1),none⟩=some (.string ⟨(Pinned.cheatRows.getD i (0,[])).2.toArray⟩)
 u10:Lib.TabIs Tryz.prog w "internal/strconv.uint64pow10" .u64 Lib.pow10Tab
 u8:Lib.Utf8Tabs 4 5 w
theorem Tabs.keep {w w':World}(h:Tabs w)(hc:∀ a v,w.cell? a=some v→w'.cell? a=some v)(h8:Lib.Utf8Tabs 4 5 w')(hv:∀ cs,w.var? Tryz.prog "internal/strconv.uint64pow10" = some cs→w'.var? Tryz.prog "internal/strconv.uint64pow10" = some cs):Tabs w':=by
 obtain⟨m,hm⟩:=h.most
 obtain⟨t1,v1,h1⟩:=h.syn
 obtain⟨t2,v2,h2⟩:=h.rng
 obtain⟨b,o,h3,h3'⟩:=h.f10
 obtain⟨b4,o4,h4,h4'⟩:=h.p2
 obtain⟨b5,o5,h5,h5'⟩:=h.cheats
 exact⟨hc _ _ h.opt,⟨m,hc _ _ hm⟩,⟨t1,v1,hc _ _ h1⟩,⟨t2,v2,hc _ _ h2⟩,hc _ _ h.info0,hc _ _ h.info1,hc _ _ h.info2,
  ⟨b,o,hc _ _ h3,fun i hi=>hc _ _ (h3' i hi)⟩,⟨b4,o4,hc _ _ h4,fun i hi=>hc _ _ (h4' i hi)⟩,fun i hi=>⟨hc _ _ (h.p10 i hi).1,hc _ _ (h.p10 i hi).2⟩,
  ⟨b5,o5,hc _ _ h5,fun i hi=>⟨hc _ _ (h5' i hi).1,hc _ _ (h5' i hi).2⟩⟩,hv _ h.u10,h8⟩
theorem glob7:Tryz.prog.globalNamed "internal/strconv.uint64pow10" = some 9:=by kernel_rfl
theorem Tabs.below {B:Nat}{w w':World}(h:Tabs w)(hb:Below B w w')(hB:w.heap.size≤B):Tabs w':=by
 have hc:∀ a v,w.cell? a=some v→w'.cell? a=some v:=fun a v hv=>by
  have:=World.block_lt_of_cell? w _ hv
  rw[hb.cell (by omega),hv]
 refine h.keep hc (Utf8Tabs_below h.u8 ⟨hb.os,hb.tape,hb.output,hb.size,fun k hk=>hb.block k (Nat.lt_of_lt_of_le hk hB)⟩) ?_
 intro cs hv
 have h7:9<w.heap.size:=by
  obtain⟨b,o,h5,_⟩:=h.cheats
  have:=World.block_lt_of_cell? w _ h5
  simp at this;omega
 unfold World.var? at hv ⊢
 simp only[glob7,Option.bind_some] at hv ⊢
 rw[hb.block 9 (by omega)]
 exact hv
theorem Tabs.drewN {w:World}(h:Tabs w)(n:Nat):Tabs (w.drewN n):=h.below (B:=w.heap.size) ⟨rfl,rfl,rfl,Nat.le_refl _,fun _ _=>rfl⟩ (Nat.le_refl _)
theorem Tabs.size {w:World}(h:Tabs w):15≤w.heap.size:=by
 obtain⟨b,o,h5,_⟩:=h.cheats
 have:=World.block_lt_of_cell? w _ h5
 simp at this;omega
open Go.RowKit
theorem conv_bytes (s:ByteArray)(w:World):∃ cap W,(convert 9 35 (.string s)).run Tryz.prog w=.ok (.slice (some ⟨w.heap.size,0,none⟩) s.size cap) W∧Below w.heap.size w W∧BytesAt W w.heap.size 0 s.data.toList∧s.size≤cap∧w.heap.size<W.heap.size:=by
 refine⟨_,_,Lib.run_convert_string_bytes w 9 35 5 s Tryz.underlying9 Tryz.underlying35 Tryz.underlying5,?_,?_,grownCap_ge w s.size 0 5,?_⟩
 ·refine⟨?_,?_,?_,by rw[Lib.bytesWorld_size];omega,fun k hk=>Lib.bytesWorld_at_old w 5 s k hk⟩
  all_goals
   unfold Lib.bytesWorld World.freeze
   split<;>rfl
 ·intro j hj
  have hj':j<s.size:=hj
  rw[Nat.zero_add,Lib.bytesWorld_cell w 5 s j hj']
  simp[List.getD_eq_getElem?_getD,List.getElem?_eq_getElem hj]
 ·rw[Lib.bytesWorld_size];omega
theorem ret_i32 {a b:Int}(h:a=b):Ending.returned (.int .i32 a)=.returned (.int .i32 b):=by rw[h]
theorem text1_any (x:Nat)(w:World)(_hx:x≤1114111)(v:Int)(hv:Hid (textF x=v)):Calls Tryz.prog 76 #[.int .i32 x] w fun e w'=>e=.returned (.int .i32 v)∧w=w':=by
 go_enter Tryz.func76,Tryz.ntmps76
 go_wp2
 all_goals
  go_ret
  refine⟨?_,rfl⟩
  apply ret_i32
  rw[← hv.out]
  unfold textF
  first
   | (rw[if_pos (by omega)];done)
   | (rw[if_neg (by omega)];done)
   | (rw[if_neg (by omega)];omega)
theorem text1_grows (w:World):MapGrows Tryz.prog 76 #[] textF w:=by
 intro W x hx _
 have:=text1_any x W hx _ (Lib.hid rfl)
 exact this.mono fun e w' ⟨he,hw⟩=>⟨he,hw▸Below.refl _ _⟩
theorem text_any (s:ByteArray)(hs:s.size≤1000000000)(w:World)(T:Tabs w):Calls Tryz.prog 32 #[.string s] w fun e w'=>e=.returned (.string ⟨(textL s.data.toList).toArray⟩)∧Below w.heap.size w w':=by
 have HT:=Lib.hid T
 clear T
 obtain⟨cap,W,hrun,hb,hby,hcap,hsz⟩:=conv_bytes s w
 have HB:=Lib.hid hb
 have HY:Hid (BytesAt W w.heap.size 0 s.data.toList):=hby
 have HC:=Lib.hid (show s.data.toList.length≤cap from hcap)
 have HS:=Lib.hid (show w.heap.size<W.heap.size from hsz)
 clear hb hby hcap hsz
 go_enter Tryz.func32,Tryz.ntmps32
 go_wp2_with fail
 refine(decode_any w.heap.size 0 cap s.data.toList (show s.size≤1000000000 from hs) HC.out W HY HS.out).mono ?_
 rintro e W2 ⟨rfl,B2⟩
 have HB2:=Lib.hid (HB.out.trans (B2.mono HB.out.size))
 have HT2:=Lib.hid (HT.out.below HB2.out (Nat.le_refl _))
 clear B2
 have hlen:((⟨(decU s.data.toList).toArray⟩:ByteArray)).size<35184372088832:=by
  have h1:=dec_len s.data.toList.length s.data.toList (Nat.le_refl _)
  have h2:s.data.toList.length=s.size:=rfl
  have h3:((⟨(decU s.data.toList).toArray⟩:ByteArray)).size=(decU s.data.toList).length:=rfl
  omega
 have HL:=Lib.hid hlen
 clear hlen
 go_wp2_with fail
 refine(Tryz.strings_Map_grows 76 #[] (fun _ _=>by kernel_rfl) textF _ W2 HL.out (text1_grows W2) textF_range HT2.out.u8).mono ?_
 rintro e W3 ⟨rfl,B3⟩
 have HB3:=Lib.hid (HB2.out.trans (B3.mono HB2.out.size))
 clear B3
 go_wp2
 go_ret
 refine⟨?_,HB3.out⟩
 have:Lib.mapD textF (⟨(decU s.data.toList).toArray⟩:ByteArray).data.toList=textL s.data.toList:=map_dec s.data.toList
 rw[← this]
 rfl
open Go.RowKit
def signedF (neg:Bool)(m:Nat):Nat:=if neg then Op.negFloat .f64 (floatOfInt .f64 m) else floatOfInt .f64 m
theorem small_shift (m:Nat)(hm:m<4503599627370496):((m:Int) / 4503599627370496 !=0)=false:=by
 have:(m:Int) / 4503599627370496=0:=by omega
 rw[this];rfl
theorem large_shift (m:Nat)(hm:4503599627370496≤m):((m:Int) / 4503599627370496 !=0)=true:=by
 have:¬ (m:Int) / 4503599627370496=0:=by omega
 simp[this]
theorem unary_negF (b:Nat):Op.unary .neg (.float .f64 b)=pure (.float .f64 (Op.negFloat .f64 b)):=by unfold Op.unary;rfl
theorem signed_pos (m:Nat):signedF false m=floatOfInt .f64 m:=by
 unfold signedF
 rw[if_neg (by decide)]
theorem signed_neg (m:Nat):signedF true m=Op.negFloat .f64 (floatOfInt .f64 m):=by
 unfold signedF
 rw[if_pos rfl]
theorem signed_parts (neg:Bool)(m:Nat):∃ f0 f:Nat,signedF neg m=f∧floatOfInt .f64 m=f0∧((neg=false∧f=f0)∨(neg=true∧Op.negFloat .f64 f0=f)):=by
 cases neg
 ·refine⟨_,_,signed_pos m,rfl,.inl ⟨rfl,rfl⟩⟩
 ·refine⟨_,_,signed_neg m,rfl,.inr ⟨rfl,rfl⟩⟩
theorem exact_int (m:Nat)(neg:Bool)(w:World)(T:Tabs w)(hm:m<4503599627370496) :
  Calls Tryz.prog 244 #[.int .u64 m,.int .i64 0,.bool neg] w fun e w'=>e=.returned (.tuple #[.float .f64 (signedF neg m),.bool true])∧w=w':=by
 have h9:=T.info0
 have hs:=small_shift m hm
 have un:=unary_negF
 obtain⟨f0,f,hf,h0,⟨rfl,rfl⟩|⟨rfl,h1⟩⟩:=signed_parts neg m
 ·rw[hf]
  clear hf T
  go_enter Tryz.func244,Tryz.ntmps244
  go_wp2
  go_ret2
  exact⟨rfl,rfl⟩
 ·rw[hf]
  clear hf T
  go_enter Tryz.func244,Tryz.ntmps244
  go_wp2
  go_ret2
  exact⟨rfl,rfl⟩
def NoFloat (w:World)(e:Ending)(w':World):Prop:=∃ f,e=.returned (.tuple #[.float .f64 f,.bool false])∧w=w'
theorem exact_large (m:Nat)(p:Int)(neg:Bool)(w:World)(T:Tabs w)(hm:4503599627370496≤m) :
  Calls Tryz.prog 244 #[.int .u64 m,.int .i64 p,.bool neg] w (NoFloat w):=by
 have h9:=T.info0
 have hs:=large_shift m hm
 go_enter Tryz.func244,Tryz.ntmps244
 go_wp2
 go_ret2
 exact⟨_,rfl,rfl⟩
theorem exact_far (m:Nat)(p:Int)(neg:Bool)(w:World)(T:Tabs w)(hm:m<4503599627370496)(hp:p < -22∨37<p) :
  Calls Tryz.prog 244 #[.int .u64 m,.int .i64 p,.bool neg] w (NoFloat w):=by
 have h9:=T.info0
 have hs:=small_shift m hm
 have un:=unary_negF
 have h1:(p==0)=false:=by simp;omega
 rcases hp with hp|hp
 all_goals
  cases neg
  all_goals
   go_enter Tryz.func244,Tryz.ntmps244
   go_wp2
   go_ret2
   exact⟨_,rfl,rfl⟩
theorem exact_mul (m p:Nat)(neg:Bool)(r:Nat)(w:World)(T:Tabs w)(hm:m<4503599627370496)(p1:1≤p)(p2:p≤22)
  (g1:(FloatKind.f64.format.order (signedF neg m) 4831355200913801216==some .gt)=false) (g2:(FloatKind.f64.format.order (signedF neg m) 14054727237768577024==some .lt)=false)
  (hr:floatBits .mul .f64 (signedF neg m) (f10s.getD p 0)=some r) :
  Calls Tryz.prog 244 #[.int .u64 m,.int .i64 p,.bool neg] w fun e w'=>e=.returned (.tuple #[.float .f64 r,.bool true])∧w=w':=by
 have h9:=T.info0
 obtain⟨b,o,h12,hc⟩:=T.f10
 have hcp:=hc p (by omega)
 have hs:=small_shift m hm
 have un:=unary_negF
 have hm2:∀ w,(binOp .mul 25 (.float .f64 (signedF neg m)) (.float .f64 (f10s.getD p 0))).run Tryz.prog w=.ok (.float .f64 r) w:=fun w=>run_float_arith w .mul 24 .f64 _ _ _ hr
 have hp:((p:Int)==0)=false:=by simp;omega
 clear hc hr hm T
 generalize f10s.getD p 0=z at hcp hm2
 obtain⟨f0,f,hf,h0,⟨rfl,rfl⟩|⟨rfl,h1⟩⟩:=signed_parts neg m
 ·rw[hf] at g1 g2 hm2
  clear hf
  go_enter Tryz.func244,Tryz.ntmps244
  go_wp2
  go_ret2
  exact⟨rfl,rfl⟩
 ·rw[hf] at g1 g2 hm2
  clear hf
  go_enter Tryz.func244,Tryz.ntmps244
  go_wp2
  go_ret2
  exact⟨rfl,rfl⟩
theorem exact_over (m p:Nat)(neg:Bool)(w:World)(T:Tabs w)(hm:m<4503599627370496)(p1:1≤p)(p2:p≤22)
  (g:(FloatKind.f64.format.order (signedF neg m) 4831355200913801216==some .gt)=true∨((FloatKind.f64.format.order (signedF neg m) 4831355200913801216==some .gt)=false∧(FloatKind.f64.format.order (signedF neg m) 14054727237768577024==some .lt)=true)) :
  Calls Tryz.prog 244 #[.int .u64 m,.int .i64 p,.bool neg] w (NoFloat w):=by
 have h9:=T.info0
 have hs:=small_shift m hm
 have un:=unary_negF
 have hp:((p:Int)==0)=false:=by simp;omega
 clear hm T
 obtain⟨f0,f,hf,h0,⟨rfl,rfl⟩|⟨rfl,h1⟩⟩:=signed_parts neg m
 all_goals
  rw[hf] at g
  clear hf
  rcases g with g1|⟨g1,g2⟩
  all_goals
   go_enter Tryz.func244,Tryz.ntmps244
   go_wp2
   go_ret2
   exact⟨_,rfl,rfl⟩
theorem exact_div (m p:Nat)(neg:Bool)(r:Nat)(w:World)(T:Tabs w)(hm:m<4503599627370496)(p1:1≤p)(p2:p≤22)
  (hr:floatBits .quo .f64 (signedF neg m) (f10s.getD p 0)=some r) :
  Calls Tryz.prog 244 #[.int .u64 m,.int .i64 (-(p:Int)),.bool neg] w fun e w'=>e=.returned (.tuple #[.float .f64 r,.bool true])∧w=w':=by
 have h9:=T.info0
 obtain⟨b,o,h12,hc⟩:=T.f10
 have hcp:=hc p (by omega)
 have hs:=small_shift m hm
 have un:=unary_negF
 have hm2:∀ w,(binOp .quo 25 (.float .f64 (signedF neg m)) (.float .f64 (f10s.getD p 0))).run Tryz.prog w=.ok (.float .f64 r) w:=fun w=>run_float_arith w .quo 24 .f64 _ _ _ hr
 have hp:(-(p:Int)==0)=false:=by simp;omega
 clear hc hr hm T
 generalize f10s.getD p 0=z at hcp hm2
 obtain⟨f0,f,hf,h0,⟨rfl,rfl⟩|⟨rfl,h1⟩⟩:=signed_parts neg m
 all_goals
  rw[hf] at hm2
  clear hf
  go_enter Tryz.func244,Tryz.ntmps244
  go_wp2
  go_ret2
  exact⟨rfl,rfl⟩
theorem exact_mul2 (m p q:Nat)(neg:Bool)(r1 r:Nat)(w:World)(T:Tabs w)(hm:m<4503599627370496)(p1:22<p)(p2:p≤37)(hq:q+22=p)
  (hr1:floatBits .mul .f64 (signedF neg m) (f10s.getD q 0)=some r1)
  (g1:(FloatKind.f64.format.order r1 4831355200913801216==some .gt)=false) (g2:(FloatKind.f64.format.order r1 14054727237768577024==some .lt)=false)
  (hr:floatBits .mul .f64 r1 (f10s.getD 22 0)=some r) :
  Calls Tryz.prog 244 #[.int .u64 m,.int .i64 p,.bool neg] w fun e w'=>e=.returned (.tuple #[.float .f64 r,.bool true])∧w=w':=by
 have h9:=T.info0
 obtain⟨b,o,h12,hc⟩:=T.f10
 have hcq:=hc q (by omega)
 have hc22:=hc 22 (by omega)
 have hs:=small_shift m hm
 have un:=unary_negF
 have hm1:∀ w,(binOp .mul 25 (.float .f64 (signedF neg m)) (.float .f64 (f10s.getD q 0))).run Tryz.prog w=.ok (.float .f64 r1) w:=fun w=>run_float_arith w .mul 24 .f64 _ _ _ hr1
 have hm2:∀ w,(binOp .mul 25 (.float .f64 r1) (.float .f64 (f10s.getD 22 0))).run Tryz.prog w=.ok (.float .f64 r) w:=fun w=>run_float_arith w .mul 24 .f64 _ _ _ hr
 have hp:((p:Int)==0)=false:=by simp;omega
 clear hc hr hr1 hm T
 generalize f10s.getD q 0=z at hcq hm1
 generalize f10s.getD 22 0=z2 at hc22 hm2
 subst hq
 obtain⟨f0,f,hf,h0,⟨rfl,rfl⟩|⟨rfl,h1⟩⟩:=signed_parts neg m
 all_goals
  rw[hf] at hm1
  clear hf
  go_enter Tryz.func244,Tryz.ntmps244
  go_wp2
  go_ret2
  exact⟨rfl,rfl⟩
theorem exact_over2 (m p q:Nat)(neg:Bool)(r1:Nat)(w:World)(T:Tabs w)(hm:m<4503599627370496)(p1:22<p)(p2:p≤37)(hq:q+22=p)
  (hr1:floatBits .mul .f64 (signedF neg m) (f10s.getD q 0)=some r1)
  (g:(FloatKind.f64.format.order r1 4831355200913801216==some .gt)=true∨((FloatKind.f64.format.order r1 4831355200913801216==some .gt)=false∧(FloatKind.f64.format.order r1 14054727237768577024==some .lt)=true)) :
  Calls Tryz.prog 244 #[.int .u64 m,.int .i64 p,.bool neg] w (NoFloat w):=by
 have h9:=T.info0
 obtain⟨b,o,h12,hc⟩:=T.f10
 have hcq:=hc q (by omega)
 have hs:=small_shift m hm
 have un:=unary_negF
 have hm1:∀ w,(binOp .mul 25 (.float .f64 (signedF neg m)) (.float .f64 (f10s.getD q 0))).run Tryz.prog w=.ok (.float .f64 r1) w:=fun w=>run_float_arith w .mul 24 .f64 _ _ _ hr1
 have hp:((p:Int)==0)=false:=by simp;omega
 clear hc hr1 hm T
 generalize f10s.getD q 0=z at hcq hm1
 subst hq
 obtain⟨f0,f,hf,h0,⟨rfl,rfl⟩|⟨rfl,h1⟩⟩:=signed_parts neg m
 all_goals
  rw[hf] at hm1
  clear hf
  rcases g with g1|⟨g1,g2⟩
  all_goals
   go_enter Tryz.func244,Tryz.ntmps244
   go_wp2
   go_ret2
   exact⟨_,rfl,rfl⟩
open Go.RowKit
theorem snoc_ind {α : Type}{P:List α → Prop}(h0:P [])(h1:∀ l a,P l→P (l++[a]))(l:List α):P l:=by
 rw[← List.reverse_reverse l]
 generalize l.reverse=r
 induction r with
 | nil=>exact h0
 | cons a r ih=>rw[List.reverse_cons];exact h1 _ _ ih
structure RS where
 mant:Nat
 nd:Nat
 ndM:Nat
 dp:Int
 dot:Bool
 dig:Bool
 trunc:Bool
deriving DecidableEq
def rs0:RS:=⟨0,0,0,0,false,false,false⟩
def rstep (r:RS)(c:UInt8):RS :=
 if c=46 then { r with dot:=true,dp:=r.nd }
 else if c=48∧r.nd=0 then { r with dig:=true,dp:=r.dp-1 }
 else if r.ndM<19 then { r with dig:=true,nd:=r.nd+1,mant:=r.mant*10+(c.toNat-48),ndM:=r.ndM+1 }
 else { r with dig:=true,nd:=r.nd+1,trunc:=r.trunc||c !=48 }
def rfold (l:List UInt8):RS:=l.foldl rstep rs0
theorem rfold_snoc (l:List UInt8)(c:UInt8):rfold (l++[c])=rstep (rfold l) c:=by simp[rfold]
def numCh (c:UInt8):Bool:=isDig c||c==46
structure RB (r:RS) (k:Nat):Prop where
 nd:r.nd≤k
 ndM:r.ndM=min r.nd 19
 mant:r.mant<10^r.ndM
 lo:-(k:Int)≤r.dp
 hi:r.dp≤k
theorem dig_bd (c:UInt8)(h:isDig c=true):48≤c.toNat∧c.toNat≤57:=by simpa [isDig] using h
theorem rb_step {r:RS}{k:Nat}{c:UInt8}(h:RB r k)(hc:numCh c=true):RB (rstep r c) (k+1):=by
 obtain⟨h1,h2,h3,h4,h5⟩:=h
 unfold rstep
 split
 ·exact⟨by show r.nd≤_;omega,h2,h3,by show _≤((r.nd:Nat):Int);omega,by show((r.nd:Nat):Int)≤_;omega⟩
 ·rename_i h46
  have hd:isDig c=true:=by simpa [numCh,h46] using hc
  have hb:=dig_bd c hd
  split
  ·exact⟨by show r.nd≤_;omega,h2,h3,by show _≤r.dp-1;omega,by show r.dp-1≤_;omega⟩
  ·split
   ·refine⟨by show r.nd+1≤_;omega,by show r.ndM+1=min (r.nd+1) 19;omega,?_,by show _≤r.dp;omega,by show r.dp≤_;omega⟩
    show r.mant*10+(c.toNat-48)<10^(r.ndM+1)
    rw[Nat.pow_succ]
    omega
   ·exact⟨by show r.nd+1≤_;omega,by show r.ndM=min (r.nd+1) 19;omega,h3,by show _≤r.dp;omega,by show r.dp≤_;omega⟩
theorem rb_fold (l:List UInt8)(h:∀ c∈l,numCh c=true):RB (rfold l) l.length:=by
 induction l using snoc_ind with
 | h0=>exact⟨Nat.le_refl _,rfl,by show 0<1;omega,Int.le_refl _,Int.le_refl _⟩
 | h1 l c ih =>
  rw[rfold_snoc,List.length_append]
  exact rb_step (ih (fun x hx=>h x (by simp[hx]))) (h c (by simp))
theorem pow19 (n:Nat)(h:n≤19):10^n≤10000000000000000000:=Nat.le_trans (Nat.pow_le_pow_right (by omega) h) (by decide)
theorem pow18 (n:Nat)(h:n≤18):10^n≤1000000000000000000:=Nat.le_trans (Nat.pow_le_pow_right (by omega) h) (by decide)
def estep (e:Nat)(c:UInt8):Nat:=if e<10000 then e*10+(c.toNat-48) else e
def efold (l:List UInt8):Nat:=l.foldl estep 0
theorem efold_snoc (l:List UInt8)(c:UInt8):efold (l++[c])=estep (efold l) c:=by simp[efold]
theorem efold_le (l:List UInt8)(h:∀ c∈l,isDig c=true):efold l≤100000:=by
 induction l using snoc_ind with
 | h0=>show 0≤_;omega
 | h1 l c ih =>
  have h1:=ih (fun x hx=>h x (by simp[hx]))
  have h2:=dig_bd c (h c (by simp))
  rw[efold_snoc]
  unfold estep
  split<;>omega
def part (s:ByteArray)(p j:Nat):List UInt8:=(s.data.toList.drop p).take (j-p)
theorem part_self (s:ByteArray)(p:Nat):part s p p=[]:=by simp[part]
theorem part_succ (s:ByteArray)(p j:Nat)(hp:p≤j)(hj:j<s.size):part s p (j+1)=part s p j++[s[j]]:=by
 unfold part
 rw[Nat.succ_sub hp,List.take_succ_eq_append_getElem (by rw[List.length_drop,← size_list];omega)]
 congr 2
 rw[List.getElem_drop]
 have e:p+(j-p)=j:=by omega
 simp only[e]
 rfl
theorem part_len (s:ByteArray)(p j:Nat)(hp:p≤j)(hj:j≤s.size):(part s p j).length=j-p:=by
 unfold part
 rw[List.length_take,List.length_drop,← size_list];omega
open Go.RowKit
theorem low_num (c:UInt8)(h:numCh c=true∨c=101∨c=69):(bits .or .u8 (c.toNat:Int) 32==120)=false:=by
 have all:∀ n:Fin 256,(numCh (UInt8.ofNat n.val)=true∨UInt8.ofNat n.val=101∨UInt8.ofNat n.val=69)→(bits .or .u8 ((UInt8.ofNat n.val).toNat:Int) 32==120)=false:=by decide +kernel
 have:=all ⟨c.toNat,c.toNat_lt⟩
 simp only[UInt8.ofNat_toNat] at this
 exact this h
theorem low_e (c:UInt8)(h:c=101∨c=69):(bits .or .u8 (c.toNat:Int) 32==101)=true:=by
 rcases h with rfl|rfl<;>decide +kernel
theorem lower_at (c:Int)(w:World):Calls Tryz.prog 251 #[.int .u8 c] w fun e w'=>e=.returned (.int .u8 (bits .or .u8 c 32))∧w=w' :=
 (Tryz.internal_strconv_lower c w).mono fun _ _ ⟨h1,h2⟩=>⟨h1,h2.symm⟩
structure NumText (s:ByteArray) (p0 q:Nat):Prop where
 lt:p0<q
 le:q≤s.size
 ch:∀ j (h:j<s.size),p0≤j→j<q→numCh s[j]=true
 dots:∀ j (h:j<s.size),p0≤j→j<q→s[j]=46→(rfold (part s p0 j)).dot=false
 dig:(rfold (part s p0 q)).dig=true
 stop:∀ (h:q<s.size),s[q]=101∨s[q]=69
def SignAt (s:ByteArray)(neg:Bool)(p0:Nat):Prop :=
 ∃ h:0<s.size,(neg=false∧p0=0∧((s[0].toNat:Int)==43)=false∧((s[0].toNat:Int)==45)=false)∨(neg=true∧p0=1∧((s[0].toNat:Int)==43)=false∧((s[0].toNat:Int)==45)=true)
def ReadRel (s:ByteArray)(p0 q:Nat)(mant trunc i us dot dig nd ndM dp:Value):Prop :=
 ∃ (j:Nat) (r:RS),p0≤j∧j≤q∧rfold (part s p0 j)=r∧mant=.int .u64 r.mant∧trunc=.bool r.trunc∧i=.int .i64 j∧us=.bool false∧dot=.bool r.dot∧dig=.bool r.dig∧nd=.int .i64 r.nd∧ndM=.int .i64 r.ndM∧dp=.int .i64 r.dp
def ReadEnd (s:ByteArray)(p0 q:Nat)(mant trunc i us dot dig nd ndM dp:Value):Prop :=
 ∃ (r:RS),rfold (part s p0 q)=r∧mant=.int .u64 r.mant∧trunc=.bool r.trunc∧i=.int .i64 q∧us=.bool false∧dot=.bool r.dot∧dig=.bool r.dig∧nd=.int .i64 r.nd∧ndM=.int .i64 r.ndM∧dp=.int .i64 r.dp
def ExpAt (s:ByteArray)(q:Nat)(ev:Int):Prop :=
 (q=s.size∧ev=0)∨∃ (h:q+1<s.size) (t:Nat) (es:Int),((t=q+1∧es=1∧isDig s[q+1]=true)∨(t=q+2∧es=1∧s[q+1]=43)∨(t=q+2∧es=-1∧s[q+1]=45)) ∧
  t<s.size∧(∀ j (h:j<s.size),t≤j→isDig s[j]=true)∧ev=(efold (part s t s.size):Nat)*es
def RS.place (r:RS):Int:=if r.dot=true then r.dp else r.nd
def RS.expo (r:RS)(ev:Int):Int:=if r.mant=0 then 0 else r.place+ev-r.ndM
theorem part_all_dig (s:ByteArray)(t j:Nat)(ht:t≤j)(hj:j≤s.size)(h:∀ j (h:j<s.size),t≤j→isDig s[j]=true):∀ c∈part s t j,isDig c=true:=by
 intro c hc
 obtain⟨i,hi,rfl⟩:=List.getElem_of_mem hc
 rw[part_len s t j ht hj] at hi
 have:(part s t j)[i]'(by rw[part_len s t j ht hj];exact hi)=s[t+i]'(by omega):=by
  unfold part
  rw[List.getElem_take,List.getElem_drop]
  rfl
 rw[this]
 exact h (t+i) (by omega) (by omega)
theorem efold_at (s:ByteArray)(t j:Nat)(ht:t≤j)(hj:j≤s.size)(h:∀ j (h:j<s.size),t≤j→isDig s[j]=true):efold (part s t j)≤100000 :=
 efold_le _ (part_all_dig s t j ht hj h)
theorem part_all (s:ByteArray)(p0 q:Nat)(N:NumText s p0 q)(j:Nat)(hp:p0≤j)(hj:j≤q):∀ c∈part s p0 j,numCh c=true:=by
 intro c hc
 have hle:=N.le
 obtain⟨i,hi,rfl⟩:=List.getElem_of_mem hc
 rw[part_len s p0 j hp (by omega)] at hi
 have:(part s p0 j)[i]'(by rw[part_len s p0 j hp (by omega)];exact hi)=s[p0+i]'(by omega):=by
  unfold part
  rw[List.getElem_take,List.getElem_drop]
  rfl
 rw[this]
 exact N.ch (p0+i) (by omega) (by omega) (by omega)
theorem rb_at (s:ByteArray)(p0 q:Nat)(N:NumText s p0 q)(j:Nat)(hp:p0≤j)(hj:j≤q):RB (rfold (part s p0 j)) (j-p0):=by
 have:=rb_fold (part s p0 j) (part_all s p0 q N j hp hj)
 rwa[part_len s p0 j hp (Nat.le_trans hj N.le)] at this
end Go.Proofs.YtcfgbdhpcboikaaGreatDoor
