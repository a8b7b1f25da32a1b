/-
utf8.look: what it answers at every byte.
-/
import Derived.Test.YtcfgbdhpcboikaaGreatDoorKinds
import Derived.Test.YtcfgbdhpcboikaaGreatDoorShelfB
import Derived.Test.YtcfgbdhpcboikaaGreatDoorNum
import Derived.Handy
namespace Go.Proofs.YtcfgbdhpcboikaaGreatDoor
open Go.Lib (hid)
set_option maxHeartbeats 4000000
set_option maxRecDepth 100000
open Go.RowKit PU8
theorem aAk {n:Nat}:n≤n:=Nat.le_refl n
theorem aIT (g off cap i c:Nat)(L:List UInt8)(w:World)(hi:i<L.length)(_hL:L.length≤140737488355328)(hc:w.cell? ⟨g,off+i,none⟩=some (.int .u8 (c:Nat)))(hcc:c<128) :
  Calls Tryz.prog 129 #[.slice (some ⟨g,off,none⟩) L.length cap,.int .i64 i] w fun e w'=>e=.returned (.tuple #[.int .i64 1,.bool true])∧w=w':=by
 have l128:decide ((c:Int)<128)=true:=by simp;omega
 have HCC:=hid hcc;clear hcc;go_enter Tryz.func129,Tryz.ntmps129
 go_wp2
 go_ret2;exact⟨rfl,rfl⟩
theorem aIA (g off cap i c:Nat)(L:List UInt8)(w:World)(hi:i<L.length)(_hL:L.length≤140737488355328)(hc:w.cell? ⟨g,off+i,none⟩=some (.int .u8 (c:Nat)))(hcc:128≤c∧c<194) :
  Calls Tryz.prog 129 #[.slice (some ⟨g,off,none⟩) L.length cap,.int .i64 i] w fun e w'=>e=.returned (.tuple #[.int .i64 0,.bool false])∧w=w':=by
 have l128:decide ((c:Int)<128)=false:=by simp;omega
 have l194:decide ((c:Int)<194)=true:=by simp;omega
 have HCC:=hid hcc;clear hcc;go_enter Tryz.func129,Tryz.ntmps129
 go_wp2
 go_ret2;exact⟨rfl,rfl⟩
theorem aHm (g off cap i c:Nat)(L:List UInt8)(w:World)(hi:i<L.length)(_hL:L.length≤140737488355328)(hc:w.cell? ⟨g,off+i,none⟩=some (.int .u8 (c:Nat)))(hcc:244<c) :
  Calls Tryz.prog 129 #[.slice (some ⟨g,off,none⟩) L.length cap,.int .i64 i] w fun e w'=>e=.returned (.tuple #[.int .i64 0,.bool false])∧w=w':=by
 have l128:decide ((c:Int)<128)=false:=by simp;omega
 have l194:decide ((c:Int)<194)=false:=by simp;omega
 have l224:decide ((c:Int)<224)=false:=by simp;omega
 have l240:decide ((c:Int)<240)=false:=by simp;omega
 have l244:decide ((c:Int)<244)=false:=by simp;omega
 have q224:((c:Int)==224)=false:=by simp;omega
 have q237:((c:Int)==237)=false:=by simp;omega
 have q240:((c:Int)==240)=false:=by simp;omega
 have q244:((c:Int)==244)=false:=by simp;omega
 have HCC:=hid hcc;clear hcc;go_enter Tryz.func129,Tryz.ntmps129
 go_wp2
 go_ret2;exact⟨rfl,rfl⟩
theorem fP (L:List UInt8)(i need lo hi m:Nat)(t:Bool)(h:i<L.length)(hl:contU need lo hi 1 (bE (L.drop (i+1)))=(m,t)):cT L i need m t 1 lo hi :=
 ⟨Nat.le_refl _,by omega,h,hl⟩
theorem aDm (g off cap i m:Nat)(t:Bool)(L:List UInt8)(w:World)(hB:Hid (cU w g off L))(hi:i<L.length)(hL:L.length≤140737488355328)(hr:Hid (lookU (bE (L.drop i))=(m,t))) :
  Calls Tryz.prog 129 #[.slice (some ⟨g,off,none⟩) L.length cap,.int .i64 i] w fun e w'=>e=.returned (.tuple #[.int .i64 m,.bool t])∧w=w':=by
 have hc:=hB.out i hi;have h:=hr.out;rw[uS _ _ hi,look_cons]at h
 have hc256:=L[i].toNat_lt;generalize L[i].toNat=c at hc h hc256;by_cases h1:c<128
 ·rw[if_pos h1]at h
  cases h;exact aIT g off cap i c L w hi hL hc h1
 rw[if_neg h1]at h
 by_cases h2:c<194
 ·rw[if_pos h2]at h
  cases h;exact aIA g off cap i c L w hi hL hc ⟨by omega,h2⟩
 rw[if_neg h2]at h
 by_cases h3:c<224
 ·rw[if_pos h3]at h
  exact aJV g off cap i m c t L w hB hi hL hc ⟨by omega,h3⟩ (hid (fP L i _ _ _ m t hi h))
 rw[if_neg h3]at h
 by_cases h4:c=224
 ·rw[if_pos h4]at h
  exact aNi g off cap i m c t L w hB hi hL hc h4 (hid (fP L i _ _ _ m t hi h))
 rw[if_neg h4]at h
 by_cases h5:c=237
 ·rw[if_pos h5]at h
  exact aMP g off cap i m c t L w hB hi hL hc h5 (hid (fP L i _ _ _ m t hi h))
 rw[if_neg h5]at h
 by_cases h6:c<240
 ·rw[if_pos h6]at h
  exact aF9 g off cap i m c t L w hB hi hL hc ⟨by omega,h6,h5⟩ (hid (fP L i _ _ _ m t hi h))
 rw[if_neg h6]at h
 by_cases h7:c=240
 ·rw[if_pos h7]at h
  exact aLO g off cap i m c t L w hB hi hL hc h7 (hid (fP L i _ _ _ m t hi h))
 rw[if_neg h7]at h
 by_cases h8:c<244
 ·rw[if_pos h8]at h
  exact aIm g off cap i m c t L w hB hi hL hc ⟨by omega,h8⟩ (hid (fP L i _ _ _ m t hi h))
 rw[if_neg h8]at h
 by_cases h9:c=244
 ·rw[if_pos h9]at h
  exact aMo g off cap i m c t L w hB hi hL hc h9 (hid (fP L i _ _ _ m t hi h))
 rw[if_neg h9]at h
 cases h;exact aHm g off cap i c L w hi hL hc (by omega)
open Go.RowKit
theorem Tryz.info5:(Tryz.prog.info? 5).map (fun i=>(i.zero,i.size,i.bytes))=some (some (.int .u8 0),1,1):=by kernel_rfl
theorem cU.below {w w':World}{g off B:Nat}{L:List UInt8}(h:cU w g off L)(hb:Below B w w')(hg:g<B):cU w' g off L:=by
 intro j hj;rw[hb.cell (p:=⟨g,off+j,none⟩) hg];exact h j hj
theorem cU.news {w:World}{g off:Nat}{L:List UInt8}(h:cU w g off L):∀j u,(Lib.byteCells L)[j]?=some u→w.cell? ((⟨g,off,none⟩:Addr).add j)=some u:=by
 intro j u hu;unfold Lib.byteCells at hu;rw[List.getElem?_map]at hu
 rcases Nat.lt_or_ge j L.length with hj|hj
 ·rw[List.getElem?_eq_getElem hj]at hu
  simp at hu;have hadd:(⟨g,off,none⟩:Addr).add j=⟨g,off+j,none⟩:=by unfold Addr.add;split<;>simp_all
  rw[hadd,h j hj,hu]
 ·rw[List.getElem?_eq_none hj]at hu
  simp at hu
theorem aCB (L:List UInt8):∀u∈Lib.byteCells L,u.oneCell'=true:=by
 intro u hu;unfold Lib.byteCells at hu;obtain⟨b,_,rfl⟩:=List.mem_map.1 hu;rfl
theorem jK (L:List UInt8):(Lib.byteCells L).length=L.length:=by unfold Lib.byteCells;simp
theorem aND (B b:Nat)(bs:List Value)(g off cap n:Nat)(L:List UInt8)(hn:L.length=n)(w:World)(h:Lib.IsBuilderF 112 5 B b bs w)(hsrc:Hid (cU w g off L))(hgB:g<B)(hlen:bs.length+L.length≤140737488355328)(hBw:B≤w.heap.size) :
  Calls Tryz.prog 130 #[.pointer (some ⟨b,0,none⟩),.slice (some ⟨g,off,none⟩) n cap] w fun e w'=>e=.returned (.tuple #[.int .i64 n,.nilIface])∧(Lib.BuilderAtF 112 5 B b (.pointer (some ⟨b,0,none⟩)) (bs++Lib.byteCells L) w'∧Below B w w'∧Lib.OthersKept 5 (some b) w w'):=by
 subst hn;obtain⟨i0,hi,hz0,hz1,hz2⟩:=info_parts Tryz.info5;go_enter Tryz.func130,Tryz.ntmps130
 go_wp2_with (go_at_call 156;refine(Tryz.Builder_copyCheck_k B b bs _ h).mono ?_)
 rintro e w1 ⟨rfl,h1,hb1,hk1⟩;obtain⟨hB,v,hbk,hown,hne⟩:=h1;have hs1:Hid (cU w1 g off L):=hsrc.out.below hb1 hgB;have c0:w1.cell? ⟨b,0,none⟩=some (.pointer (some ⟨b,0,none⟩)):=by rw[Lib.cell_of_heap hbk];rfl
 have c1:w1.cell? ⟨b,1,none⟩=some v:=by rw[Lib.cell_of_heap hbk];rfl
 go_wp2_with (at_builtin;refine wpList_append_ownF _ rfl _ _ 35 rfl B 5 i0 (.int .u8 0) 1 1 Tryz.underlying35 hi hz0 hz1 hz2 rfl (by decide) _ _ _ rfl hown ⟨g,off,none⟩ L.length cap (Lib.byteCells L) rfl ?c1 hs1.out.news (aCB L) ?c3 ?c4 ?c5 ?_)
 case c1=>rw[jK,Nat.mul_one]
 case c3=>unfold maxLen;omega
 case c4=>omega
 case c5=>have:=hb1.size;omega
 intro v' w2 hown' hgrow _;have hlt:b<w1.heap.size:=by
  rcases Nat.lt_or_ge b w1.heap.size with h'|h'
  ·exact h'
  ·simp[Array.getElem?_eq_none h']at hbk
 have hb2:w2.heap[b]?=some (.cells #[.pointer (some ⟨b,0,none⟩),v] 112 (0,0)):=by
  rw[hgrow.block b hlt (fun e=>hne e.symm)];exact hbk
 have d0:w2.cell? ⟨b,0,none⟩=some (.pointer (some ⟨b,0,none⟩)):=by rw[Lib.cell_of_heap hb2];rfl
 have d1:w2.cell? ⟨b,1,none⟩=some v:=by rw[Lib.cell_of_heap hb2];rfl
 have f1:w2.frozen? ⟨b,1,none⟩=false:=Lib.frozen_of_heap hb2 1;obtain⟨ao,n',cap',rfl⟩:∃ao n' cap,v'=.slice ao n' cap:=by
  rcases hown'.2 with⟨hv,_⟩|⟨g,cap,cur,fz,hv,_⟩
  ·exact⟨_,_,_,hv⟩
  ·exact⟨_,_,_,hv⟩
 go_wp2
 go_ret2;refine⟨rfl,?_,?_,(hk1.grown hgrow (Lib.ownsRowF_kind hown)).setCell ⟨b,1,none⟩ rfl _⟩
 ·exact Lib.BuilderAtF.put (T:=112) (e:=5) hB hb2 (bs':=bs++Lib.byteCells L) (by simpa [jK]using hown') (by decide)
 ·exact(hb1.grown hgrow (by have:=hb1.size;omega) (fun k hk=>(hown.lt k hk).1)).setCell (p:=⟨b,1,none⟩) hB _
open Go.RowKit
section
variable {P:Program} (T E:TypeId) (ht:P.underlying T=some (.slice E)) (hs:(P.info? E).map (·.size)=some 1) (w:World) (a:Option Addr) (n c l h:Nat)
include ht hs
theorem aH5 (h1:h≤c):(Instr.slice T (.slice a n c) none (some (.int .i64 h)) none).run P w=.ok (.slice a h c) w:=by
 cases hq:P.info? E with
 | none=>simp[hq]at hs
 | some i =>
  simp[Instr.slice,run_underlying ht,Instr.sliceBounds,run_sliceBound,sizeOf,typeInfo,hq,h1,Addr.add]
theorem jF (h1:l≤h)(h2:h≤c):(Instr.slice T (.slice a n c) (some (.int .i64 l)) (some (.int .i64 h)) none).run P w=.ok (.slice (if c=l then a else a.map (·.add l)) (h-l) (c-l)) w:=by
 cases hq:P.info? E with
 | none=>simp[hq]at hs
 | some i =>
  have hi:i.size=1:=by simpa [hq]using hs
  simp[Instr.slice,run_underlying ht,Instr.sliceBounds,run_sliceBound,sizeOf,typeInfo,hq,hi,h1,h2]
end
theorem gP.empty (w:World)(base:Nat)(E:TypeId)(h:base≤w.heap.size):gP (w.alloc (.cells #[] E)) base E (some ⟨w.heap.size,0,none⟩) 0 [] :=
 World.ownsRow_made w #[] 0 h (by unfold maxLen;omega) rfl
theorem IsB.same {w w':World}{a:Option Addr}{bs:List UInt8}(h:IsB w a bs)(hh:w'.heap=w.heap):IsB w' a bs:=by
 intro j b hb;obtain⟨x,hx,hc⟩:=h j b hb;exact⟨x,hx,by unfold World.cell? at *;rw[hh];exact hc⟩
open Go.RowKit PU8
theorem aI8 (g off cap k h:Nat)(n:Nat)(hk:k<cap)(h1:k≤h)(h2:h≤cap)(w:World) :
  (Instr.slice 35 (.slice (some ⟨g,off,none⟩) n cap) (some (.int .i64 k)) (some (.int .i64 h)) none).run Tryz.prog w=.ok (.slice (some ⟨g,off+k,none⟩) (h-k) (cap-k)) w:=by
 rw[jF 35 5 Tryz.underlying35 (by kernel_rfl) w (some ⟨g,off,none⟩) n cap k h h1 h2,if_neg (by omega)];have hadd:(⟨g,off,none⟩:Addr).add k=⟨g,off+k,none⟩:=by unfold Addr.add;split<;>simp_all
 simp[hadd]
theorem cU.cut {w:World}{g off:Nat}{L:List UInt8}(h:cU w g off L)(k m:Nat):cU w g (off+k) ((L.drop k).take m):=by
 intro j hj;rw[List.length_take,List.length_drop]at hj
 rw[Nat.add_assoc,h (k+j) (by omega)];simp
theorem aHw:Lib.runeCells 65533=Lib.byteCells [239,191,189]:=by
 rw[←Lib.byteCells_encodeRune];have:Lib.encodeRune 65533=[239,191,189]:=by decide
 rw[this]
theorem mG (a b:List UInt8):Lib.byteCells a++Lib.byteCells b=Lib.byteCells (a++b):=by simp[Lib.byteCells]
theorem aNf (l:List UInt8)(h:l≠[]):(lookU (bE l)).1≤l.length:=by
 have hc:∀need lo hi n (r:List Nat),(contU need lo hi n r).1≤n+r.length:=by
  intro need;induction need with
  | zero=>intro lo hi n r;simp[contU]
  | succ k ih =>
   intro lo hi n r;cases r with
   | nil=>simp[contU]
   | cons c r =>
    unfold contU;split
    ·simp
    ·have:=ih 0x80 0xbf (n+1) r;simp only[List.length_cons];omega
 have hl:(bE l).length=l.length:=by unfold bE;simp
 rw[←hl];cases hb:bE l with
 | nil=>exact absurd hb (mK h)
 | cons c r =>
  rw[look_cons];simp only[List.length_cons];repeat' split
  all_goals first
   | (have:=hc 1 0x80 0xbf 1 r;omega)
   | (have:=hc 2 0xa0 0xbf 1 r;omega)
   | (have:=hc 2 0x80 0x9f 1 r;omega)
   | (have:=hc 2 0x80 0xbf 1 r;omega)
   | (have:=hc 3 0x90 0xbf 1 r;omega)
   | (have:=hc 3 0x80 0xbf 1 r;omega)
   | (have:=hc 3 0x80 0x8f 1 r;omega)
   | (simp only;omega)
structure aAe (L:List UInt8) (B k:Nat) (w wx:World) (o:List UInt8):Prop where
 le:k≤L.length
 bld:Lib.IsBuilderF 112 5 B B (Lib.byteCells o) wx
 bel:Below B w wx
 out:o++lM (L.drop k)=lM L
theorem aAe.len {L:List UInt8}{B k:Nat}{w wx:World}{o:List UInt8}(h:aAe L B k w wx o):o.length≤3*L.length:=by
 have:=congrArg List.length h.out;rw[List.length_append]at this
 have h2:=aBa L.length L aAk;omega
theorem aFM (g off cap:Nat)(L:List UInt8)(hL:L.length≤1000000000)(hcap:L.length≤cap)(w:World)(hB:Hid (cU w g off L))(hg:g<w.heap.size) :
  Calls Tryz.prog 77 #[.slice (some ⟨g,off,none⟩) L.length cap] w fun e w'=>e=.returned (.string ⟨(lM L).toArray⟩)∧Below w.heap.size w w':=by
 go_enter Tryz.func77,Tryz.ntmps77
 go_wp2
 go_loopw [4] (fun i wx=>∃k:Nat,i=.int .i64 k∧∃o,Hid (aAe L w.heap.size k w wx o)) (fun i _=>L.length-(intOf i).toNat)
 case atStart =>
  refine⟨0,rfl,[],⟨Nat.zero_le _,?_,(Below.refl _ w).alloc aAk _,rfl⟩⟩;exact .inl ⟨Nat.le_refl _,.slice none 0 0,heap_alloc_new w _,World.ownsRowF_nil _ _ _ _,by simp[Value.ownBlock]⟩
 case round =>
  obtain⟨k,rfl,o,hD⟩:=hrel;have hk:=hD.out.le;rcases Nat.lt_or_ge k L.length with hlt|hge
  ·have hBr:Hid (cU wr g off L):=hB.out.below hD.out.bel hg;have hne:L.drop k≠[]:=by
    intro e;have:=congrArg List.length e;rw[List.length_drop]at this
    simp at this;omega
   have hst:=aDW (L.drop k) hne;have hpw:=rZ (L.drop k) hne;cases hlk:lookU (bE (L.drop k))with
   | mk m t =>
   rw[hlk]at hst hpw
   simp only at hst hpw;have HLK:Hid (lookU (bE (L.drop k))=(m,t)):=hlk;have hol:=hD.out.len;cases t with
   | true =>
    obtain⟨_,hm1,hm2⟩:=hpw rfl;rw[List.length_drop]at hm2
    have hmax:max m 1=m:=by omega
    rw[if_pos rfl,hmax]at hst
    have HST:=hid hst;have hsl:=aI8 g off cap k (k+m) L.length (by omega) (by omega) (by omega);have hkm:k+m-k=m:=by omega
    rw[hkm]at hsl
    rw[Int.natCast_add]at hsl
    clear hst hpw hlk hmax hne hkm;go_wp2_with fail
    refine(aDm g off cap k m true L _ hBr hlt (by omega) HLK).mono ?_;rintro e w' ⟨rfl,rfl⟩;go_wp2_with fail
    refine(aND w.heap.size w.heap.size (Lib.byteCells o) g (off+k) (cap-k) m ((L.drop k).take m) (by rw[List.length_take,List.length_drop];omega) _ hD.out.bld (hid (hBr.out.cut k m)) hg (by rw[jK,List.length_take,List.length_drop];omega) hD.out.bel.size).mono ?_;rintro e w2 ⟨rfl,b1,b2,b3⟩;have HN:Hid (aAe L w.heap.size (k+m) w w2 (o++(L.drop k).take m)):=by
     refine⟨by omega,.inr (by rw[←mG];exact b1),hD.out.bel.trans b2,?_⟩;have:=hD.out.out;rw[HST.out,List.drop_drop]at this
     rw[List.append_assoc];exact this
    clear b1 b2 b3;go_wp2
    refine⟨⟨k+m,by congr 1;omega,_,HN⟩,?_⟩;simp[intOf];omega
   | false =>
    rw[if_neg (by simp),List.drop_drop]at hst
    have HST:=hid hst;clear hst hpw hlk hne;go_wp2_with fail
    refine(aDm g off cap k m false L _ hBr hlt (by omega) HLK).mono ?_;rintro e w' ⟨rfl,rfl⟩;go_wp2_with fail
    refine(Tryz.Builder_WriteRune_k w.heap.size w.heap.size (Lib.byteCells o) 65533 (by omega) (by omega) _ hD.out.bld (by rw[jK];omega) hD.out.bel.size).mono ?_;rintro e w2 ⟨rfl,b1,b2,b3⟩;have HN:Hid (k+max m 1≤L.length→aAe L w.heap.size (k+max m 1) w w2 (o++[239,191,189])):=by
     intro hle;refine⟨hle,.inr (by rw[←mG,←aHw];exact b1),hD.out.bel.trans b2,?_⟩;have:=hD.out.out;rw[HST.out]at this
     rw[List.append_assoc];exact this
    have hle:m≤L.length-k:=by
     have:=aNf (L.drop k) (by intro e;have:=congrArg List.length e;rw[List.length_drop]at this;simp at this;omega);rw[HLK.out,List.length_drop]at this
     exact this
    clear b1 b2 b3;go_wp2
    refine⟨⟨k+max m 1,by congr 1;omega,_,HN.out (by omega)⟩,?_⟩;simp[intOf];omega
  ·have hE:o=lM L:=by
    have:=hD.out.out;rw[List.drop_eq_nil_of_le (by omega),aBE,List.append_nil]at this
    exact this
   have HE:=hid hE;clear hE;go_wp2_with fail
   refine(Tryz.Builder_String_any_k w.heap.size w.heap.size o _ hD.out.bld hD.out.bel.size).mono ?_;rintro e w2 ⟨rfl,b1,b2,b3⟩;clear b1 b3;go_wp2
   go_ret;refine⟨?_,hD.out.bel.trans b2⟩;rw[HE.out];rfl
open Go.RowKit
def aN (i:Nat):Nat:=(Pinned.pow10Rows.getD i (0,0)).1
def aY (i:Nat):Nat:=(Pinned.pow10Rows.getD i (0,0)).2
def fS:List Nat:=[4607182418800017408,4621819117588971520,4636737291354636288,4652007308841189376,4666723172467343360,4681608360884174848,4696837146684686336,4711630319722168320,4726483295884279808,4741671816366391296,4756540486875873280,4771362005757984768,4786511204640096256,4801453603149578240,4816244402031689728,4831355200913801216,4846369599423283200,4861130398305394688,4876203697187506176,4891288408196988160,4906019910204099648,4921056587992461136,4936209963552724370]
def aAU:List Int:=[1,3,6,9,13,16,19,23,26]
structure aC (w:World):Prop where
 opt:w.cell? ⟨7,0,none⟩=some (.bool true)
 most:∃m,w.cell? ⟨1,0,none⟩=some (.int .i64 m)
 syn:∃t v,w.cell? ⟨2,0,none⟩=some (.iface t v)
 rng:∃t v,w.cell? ⟨3,0,none⟩=some (.iface t v)
 info0:w.cell? ⟨8,0,none⟩=some (.int .u64 52)
 info1:w.cell? ⟨8,1,none⟩=some (.int .u64 11)
 info2:w.cell? ⟨8,2,none⟩=some (.int .i64 (-1023))
 f10:∃b o,w.cell? ⟨12,0,none⟩=some (.slice (some ⟨b,o,none⟩) 23 23)∧∀i,i<23→w.cell? ⟨b,o+i,none⟩=some (.float .f64 (fS.getD i 0))
 p2:∃b o,w.cell? ⟨11,0,none⟩=some (.slice (some ⟨b,o,none⟩) 9 9)∧∀i,i<9→w.cell? ⟨b,o+i,none⟩=some (.int .i64 (aAU.getD i 0))
 p10:∀i,i<696→w.cell? ⟨13,2*i,none⟩=some (.int .u64 (aN i))∧w.cell? ⟨13,2*i+1,none⟩=some (.int .u64 (aY i))
 cheats:∃b o,w.cell? ⟨14,0,none⟩=some (.slice (some ⟨b,o,none⟩) 61 61)∧∀i,i<61→w.cell? ⟨b,o+2*i,none⟩=some (.int .i64 (Pinned.cheatRows.getD i (0,[])).1)∧w.cell? ⟨b,o+(2*i+1),none⟩=some (.string ⟨(Pinned.cheatRows.getD i (0,[])).2.toArray⟩)
 u10:Lib.TabIs Tryz.prog w "internal/strconv.uint64pow10" .u64 Lib.pow10Tab
 u8:Lib.Utf8Tabs 4 5 w
theorem aC.keep {w w':World}(h:aC w)(hc:∀a v,w.cell? a=some v→w'.cell? a=some v)(h8:Lib.Utf8Tabs 4 5 w')(hv:∀cs,w.var? Tryz.prog "internal/strconv.uint64pow10" = some cs→w'.var? Tryz.prog "internal/strconv.uint64pow10" = some cs):aC w':=by
 obtain⟨m,hm⟩:=h.most;obtain⟨t1,v1,h1⟩:=h.syn;obtain⟨t2,v2,h2⟩:=h.rng;obtain⟨b,o,h3,h3'⟩:=h.f10;obtain⟨b4,o4,h4,h4'⟩:=h.p2;obtain⟨b5,o5,h5,h5'⟩:=h.cheats;exact⟨hc _ _ h.opt,⟨m,hc _ _ hm⟩,⟨t1,v1,hc _ _ h1⟩,⟨t2,v2,hc _ _ h2⟩,hc _ _ h.info0,hc _ _ h.info1,hc _ _ h.info2,
  ⟨b,o,hc _ _ h3,fun i hi=>hc _ _ (h3' i hi)⟩,⟨b4,o4,hc _ _ h4,fun i hi=>hc _ _ (h4' i hi)⟩,fun i hi=>⟨hc _ _ (h.p10 i hi).1,hc _ _ (h.p10 i hi).2⟩,
  ⟨b5,o5,hc _ _ h5,fun i hi=>⟨hc _ _ (h5' i hi).1,hc _ _ (h5' i hi).2⟩⟩,hv _ h.u10,h8⟩
theorem aLn:Tryz.prog.globalNamed "internal/strconv.uint64pow10" = some 9:=by kernel_rfl
theorem aC.below {B:Nat}{w w':World}(h:aC w)(hb:Below B w w')(hB:w.heap.size≤B):aC w':=by
 have hc:∀a v,w.cell? a=some v→w'.cell? a=some v:=fun a v hv=>by
  have:=World.block_lt_of_cell? w _ hv;rw[hb.cell (by omega),hv]
 refine h.keep hc (Utf8Tabs_below h.u8 ⟨hb.os,hb.tape,hb.output,hb.size,fun k hk=>hb.block k (Nat.lt_of_lt_of_le hk hB)⟩) ?_;intro cs hv;have h7:9<w.heap.size:=by
  obtain⟨b,o,h5,_⟩:=h.cheats;have:=World.block_lt_of_cell? w _ h5;simp at this;omega
 unfold World.var? at hv ⊢;simp only[aLn,Option.bind_some]at hv ⊢;rw[hb.block 9 (by omega)];exact hv
theorem aC.drewN {w:World}(h:aC w)(n:Nat):aC (w.drewN n):=h.below (B:=w.heap.size) ⟨rfl,rfl,rfl,Nat.le_refl _,fun _ _=>rfl⟩ aAk
theorem aC.size {w:World}(h:aC w):15≤w.heap.size:=by
 obtain⟨b,o,h5,_⟩:=h.cheats;have:=World.block_lt_of_cell? w _ h5;simp at this;omega
open Go.RowKit
theorem tU (s:ByteArray)(w:World):∃cap W,(convert 9 35 (.string s)).run Tryz.prog w=.ok (.slice (some ⟨w.heap.size,0,none⟩) s.size cap) W∧Below w.heap.size w W∧cU W w.heap.size 0 s.data.toList∧s.size≤cap∧w.heap.size<W.heap.size:=by
 refine⟨_,_,Lib.run_convert_string_bytes w 9 35 5 s Tryz.underlying9 Tryz.underlying35 Tryz.underlying5,?_,?_,grownCap_ge w s.size 0 5,?_⟩
 ·refine⟨?_,?_,?_,by rw[Lib.bytesWorld_size];omega,fun k hk=>Lib.bytesWorld_at_old w 5 s k hk⟩;all_goals
   unfold Lib.bytesWorld World.freeze;split<;>rfl
 ·intro j hj;have hj':j<s.size:=hj;rw[Nat.zero_add,Lib.bytesWorld_cell w 5 s j hj'];simp[List.getD_eq_getElem?_getD,List.getElem?_eq_getElem hj]
 ·rw[Lib.bytesWorld_size];omega
theorem aL4 {a b:Int}(h:a=b):Ending.returned (.int .i32 a)=.returned (.int .i32 b):=by rw[h]
theorem aIe (x:Nat)(w:World)(_hx:x≤1114111)(v:Int)(hv:Hid (jY x=v)):Calls Tryz.prog 76 #[.int .i32 x] w fun e w'=>e=.returned (.int .i32 v)∧w=w':=by
 go_enter Tryz.func76,Tryz.ntmps76
 go_wp2
 all_goals
  go_ret;refine⟨?_,rfl⟩;apply aL4;rw[←hv.out];unfold jY;first
   | (rw[if_pos (by omega)];done)
   | (rw[if_neg (by omega)];done)
   | (rw[if_neg (by omega)];omega)
theorem aEz (w:World):MapGrows Tryz.prog 76 #[] jY w:=by
 intro W x hx _;have:=aIe x W hx _ (hid rfl);exact this.mono fun e w' ⟨he,hw⟩=>⟨he,hw▸Below.refl _ _⟩
theorem nZ (s:ByteArray)(hs:s.size≤1000000000)(w:World)(T:aC w):Calls Tryz.prog 32 #[.string s] w fun e w'=>e=.returned (.string ⟨(cV s.data.toList).toArray⟩)∧Below w.heap.size w w':=by
 have HT:=hid T;clear T;obtain⟨cap,W,hrun,hb,hby,hcap,hsz⟩:=tU s w;have HB:=hid hb;have HY:Hid (cU W w.heap.size 0 s.data.toList):=hby;have HC:=hid (show s.data.toList.length≤cap from hcap);have HS:=hid (show w.heap.size<W.heap.size from hsz);clear hb hby hcap hsz;go_enter Tryz.func32,Tryz.ntmps32
 go_wp2_with fail
 refine(aFM w.heap.size 0 cap s.data.toList (show s.size≤1000000000 from hs) HC.out W HY HS.out).mono ?_;rintro e W2 ⟨rfl,B2⟩;have HB2:=hid (HB.out.trans (B2.mono HB.out.size));have HT2:=hid (HT.out.below HB2.out aAk);clear B2;have hlen:((⟨(lM s.data.toList).toArray⟩:ByteArray)).size<35184372088832:=by
  have h1:=aBa s.data.toList.length s.data.toList aAk;have h2:s.data.toList.length=s.size:=rfl;have h3:((⟨(lM s.data.toList).toArray⟩:ByteArray)).size=(lM s.data.toList).length:=rfl;omega
 have HL:=hid hlen;clear hlen;go_wp2_with fail
 refine(Tryz.strings_Map_grows 76 #[] (fun _ _=>by kernel_rfl) jY _ W2 HL.out (aEz W2) aEY HT2.out.u8).mono ?_;rintro e W3 ⟨rfl,B3⟩;have HB3:=hid (HB2.out.trans (B3.mono HB2.out.size));clear B3;go_wp2
 go_ret;refine⟨?_,HB3.out⟩;have:Lib.mapD jY (⟨(lM s.data.toList).toArray⟩:ByteArray).data.toList=cV s.data.toList:=aNe s.data.toList;rw[←this];rfl
open Go.RowKit
def cL (neg:Bool)(m:Nat):Nat:=if neg then Op.negFloat .f64 (floatOfInt .f64 m)else floatOfInt .f64 m
theorem iF (m:Nat)(hm:m<4503599627370496):((m:Int) / 4503599627370496 !=0)=false:=by
 have:(m:Int) / 4503599627370496=0:=by omega
 rw[this];rfl
theorem aEN (m:Nat)(hm:4503599627370496≤m):((m:Int) / 4503599627370496 !=0)=true:=by
 have:¬(m:Int) / 4503599627370496=0:=by omega
 simp[this]
theorem gZ (b:Nat):Op.unary .neg (.float .f64 b)=pure (.float .f64 (Op.negFloat .f64 b)):=by unfold Op.unary;rfl
theorem aAo (m:Nat):cL false m=floatOfInt .f64 m:=by
 unfold cL;rw[if_neg (by decide)]
theorem aAO (m:Nat):cL true m=Op.negFloat .f64 (floatOfInt .f64 m):=by
 unfold cL;rw[if_pos rfl]
theorem iT (neg:Bool)(m:Nat):∃f0 f:Nat,cL neg m=f∧floatOfInt .f64 m=f0∧((neg=false∧f=f0)∨(neg=true∧Op.negFloat .f64 f0=f)):=by
 cases neg
 ·refine⟨_,_,aAo m,rfl,.inl ⟨rfl,rfl⟩⟩
 ·refine⟨_,_,aAO m,rfl,.inr ⟨rfl,rfl⟩⟩
theorem aCd (m:Nat)(neg:Bool)(w:World)(T:aC w)(hm:m<4503599627370496) :
  Calls Tryz.prog 244 #[.int .u64 m,.int .i64 0,.bool neg] w fun e w'=>e=.returned (.tuple #[.float .f64 (cL neg m),.bool true])∧w=w':=by
 have h9:=T.info0;have hs:=iF m hm;have un:=gZ;obtain⟨f0,f,hf,h0,⟨rfl,rfl⟩|⟨rfl,h1⟩⟩:=iT neg m
 ·rw[hf];clear hf T;go_enter Tryz.func244,Tryz.ntmps244
  go_wp2
  go_ret2;exact⟨rfl,rfl⟩
 ·rw[hf];clear hf T;go_enter Tryz.func244,Tryz.ntmps244
  go_wp2
  go_ret2;exact⟨rfl,rfl⟩
def mM (w:World)(e:Ending)(w':World):Prop:=∃f,e=.returned (.tuple #[.float .f64 f,.bool false])∧w=w'
theorem xZ (m:Nat)(p:Int)(neg:Bool)(w:World)(T:aC w)(hm:4503599627370496≤m) :
  Calls Tryz.prog 244 #[.int .u64 m,.int .i64 p,.bool neg] w (mM w):=by
 have h9:=T.info0;have hs:=aEN m hm;go_enter Tryz.func244,Tryz.ntmps244
 go_wp2
 go_ret2;exact⟨_,rfl,rfl⟩
theorem aBS (m:Nat)(p:Int)(neg:Bool)(w:World)(T:aC w)(hm:m<4503599627370496)(hp:p < -22∨37<p) :
  Calls Tryz.prog 244 #[.int .u64 m,.int .i64 p,.bool neg] w (mM w):=by
 have h9:=T.info0;have hs:=iF m hm;have un:=gZ;have h1:(p==0)=false:=by simp;omega
 rcases hp with hp|hp
 all_goals
  cases neg;all_goals
   go_enter Tryz.func244,Tryz.ntmps244
   go_wp2
   go_ret2;exact⟨_,rfl,rfl⟩
theorem aBQ (m p:Nat)(neg:Bool)(r:Nat)(w:World)(T:aC w)(hm:m<4503599627370496)(p1:1≤p)(p2:p≤22)
  (g1:(FloatKind.f64.format.order (cL neg m) 4831355200913801216==some .gt)=false) (g2:(FloatKind.f64.format.order (cL neg m) 14054727237768577024==some .lt)=false)
  (hr:floatBits .mul .f64 (cL neg m) (fS.getD p 0)=some r) :
  Calls Tryz.prog 244 #[.int .u64 m,.int .i64 p,.bool neg] w fun e w'=>e=.returned (.tuple #[.float .f64 r,.bool true])∧w=w':=by
 have h9:=T.info0;obtain⟨b,o,h12,hc⟩:=T.f10;have hcp:=hc p (by omega);have hs:=iF m hm;have un:=gZ;have hm2:∀w,(binOp .mul 25 (.float .f64 (cL neg m)) (.float .f64 (fS.getD p 0))).run Tryz.prog w=.ok (.float .f64 r) w:=fun w=>run_float_arith w .mul 24 .f64 _ _ _ hr
 have hp:((p:Int)==0)=false:=by simp;omega
 clear hc hr hm T;generalize fS.getD p 0=z at hcp hm2;obtain⟨f0,f,hf,h0,⟨rfl,rfl⟩|⟨rfl,h1⟩⟩:=iT neg m
 ·rw[hf]at g1 g2 hm2
  clear hf;go_enter Tryz.func244,Tryz.ntmps244
  go_wp2
  go_ret2;exact⟨rfl,rfl⟩
 ·rw[hf]at g1 g2 hm2
  clear hf;go_enter Tryz.func244,Tryz.ntmps244
  go_wp2
  go_ret2;exact⟨rfl,rfl⟩
theorem qF (m p:Nat)(neg:Bool)(w:World)(T:aC w)(hm:m<4503599627370496)(p1:1≤p)(p2:p≤22)
  (g:(FloatKind.f64.format.order (cL neg m) 4831355200913801216==some .gt)=true∨((FloatKind.f64.format.order (cL neg m) 4831355200913801216==some .gt)=false∧(FloatKind.f64.format.order (cL neg m) 14054727237768577024==some .lt)=true)) :
  Calls Tryz.prog 244 #[.int .u64 m,.int .i64 p,.bool neg] w (mM w):=by
 have h9:=T.info0;have hs:=iF m hm;have un:=gZ;have hp:((p:Int)==0)=false:=by simp;omega
 clear hm T;obtain⟨f0,f,hf,h0,⟨rfl,rfl⟩|⟨rfl,h1⟩⟩:=iT neg m;all_goals
  rw[hf]at g
  clear hf;rcases g with g1|⟨g1,g2⟩
  all_goals
   go_enter Tryz.func244,Tryz.ntmps244
   go_wp2
   go_ret2;exact⟨_,rfl,rfl⟩
theorem aCh (m p:Nat)(neg:Bool)(r:Nat)(w:World)(T:aC w)(hm:m<4503599627370496)(p1:1≤p)(p2:p≤22)
  (hr:floatBits .quo .f64 (cL neg m) (fS.getD p 0)=some r) :
  Calls Tryz.prog 244 #[.int .u64 m,.int .i64 (-(p:Int)),.bool neg] w fun e w'=>e=.returned (.tuple #[.float .f64 r,.bool true])∧w=w':=by
 have h9:=T.info0;obtain⟨b,o,h12,hc⟩:=T.f10;have hcp:=hc p (by omega);have hs:=iF m hm;have un:=gZ;have hm2:∀w,(binOp .quo 25 (.float .f64 (cL neg m)) (.float .f64 (fS.getD p 0))).run Tryz.prog w=.ok (.float .f64 r) w:=fun w=>run_float_arith w .quo 24 .f64 _ _ _ hr
 have hp:(-(p:Int)==0)=false:=by simp;omega
 clear hc hr hm T;generalize fS.getD p 0=z at hcp hm2;obtain⟨f0,f,hf,h0,⟨rfl,rfl⟩|⟨rfl,h1⟩⟩:=iT neg m;all_goals
  rw[hf]at hm2
  clear hf;go_enter Tryz.func244,Tryz.ntmps244
  go_wp2
  go_ret2;exact⟨rfl,rfl⟩
theorem aAQ (m p q:Nat)(neg:Bool)(r1 r:Nat)(w:World)(T:aC w)(hm:m<4503599627370496)(p1:22<p)(p2:p≤37)(hq:q+22=p)
  (hr1:floatBits .mul .f64 (cL neg m) (fS.getD q 0)=some r1)
  (g1:(FloatKind.f64.format.order r1 4831355200913801216==some .gt)=false) (g2:(FloatKind.f64.format.order r1 14054727237768577024==some .lt)=false)
  (hr:floatBits .mul .f64 r1 (fS.getD 22 0)=some r) :
  Calls Tryz.prog 244 #[.int .u64 m,.int .i64 p,.bool neg] w fun e w'=>e=.returned (.tuple #[.float .f64 r,.bool true])∧w=w':=by
 have h9:=T.info0;obtain⟨b,o,h12,hc⟩:=T.f10;have hcq:=hc q (by omega);have hc22:=hc 22 (by omega);have hs:=iF m hm;have un:=gZ;have hm1:∀w,(binOp .mul 25 (.float .f64 (cL neg m)) (.float .f64 (fS.getD q 0))).run Tryz.prog w=.ok (.float .f64 r1) w:=fun w=>run_float_arith w .mul 24 .f64 _ _ _ hr1
 have hm2:∀w,(binOp .mul 25 (.float .f64 r1) (.float .f64 (fS.getD 22 0))).run Tryz.prog w=.ok (.float .f64 r) w:=fun w=>run_float_arith w .mul 24 .f64 _ _ _ hr
 have hp:((p:Int)==0)=false:=by simp;omega
 clear hc hr hr1 hm T;generalize fS.getD q 0=z at hcq hm1;generalize fS.getD 22 0=z2 at hc22 hm2;subst hq;obtain⟨f0,f,hf,h0,⟨rfl,rfl⟩|⟨rfl,h1⟩⟩:=iT neg m;all_goals
  rw[hf]at hm1
  clear hf;go_enter Tryz.func244,Tryz.ntmps244
  go_wp2
  go_ret2;exact⟨rfl,rfl⟩
theorem jT (m p q:Nat)(neg:Bool)(r1:Nat)(w:World)(T:aC w)(hm:m<4503599627370496)(p1:22<p)(p2:p≤37)(hq:q+22=p)
  (hr1:floatBits .mul .f64 (cL neg m) (fS.getD q 0)=some r1)
  (g:(FloatKind.f64.format.order r1 4831355200913801216==some .gt)=true∨((FloatKind.f64.format.order r1 4831355200913801216==some .gt)=false∧(FloatKind.f64.format.order r1 14054727237768577024==some .lt)=true)) :
  Calls Tryz.prog 244 #[.int .u64 m,.int .i64 p,.bool neg] w (mM w):=by
 have h9:=T.info0;obtain⟨b,o,h12,hc⟩:=T.f10;have hcq:=hc q (by omega);have hs:=iF m hm;have un:=gZ;have hm1:∀w,(binOp .mul 25 (.float .f64 (cL neg m)) (.float .f64 (fS.getD q 0))).run Tryz.prog w=.ok (.float .f64 r1) w:=fun w=>run_float_arith w .mul 24 .f64 _ _ _ hr1
 have hp:((p:Int)==0)=false:=by simp;omega
 clear hc hr1 hm T;generalize fS.getD q 0=z at hcq hm1;subst hq;obtain⟨f0,f,hf,h0,⟨rfl,rfl⟩|⟨rfl,h1⟩⟩:=iT neg m;all_goals
  rw[hf]at hm1
  clear hf;rcases g with g1|⟨g1,g2⟩
  all_goals
   go_enter Tryz.func244,Tryz.ntmps244
   go_wp2
   go_ret2;exact⟨_,rfl,rfl⟩
open Go.RowKit
theorem gL {α : Type}{P:List α → Prop}(h0:P [])(h1:∀l a,P l→P (l++[a]))(l:List α):P l:=by
 rw[←List.reverse_reverse l];generalize l.reverse=r;induction r with
 | nil=>exact h0
 | cons a r ih=>rw[List.reverse_cons];exact h1 _ _ ih
structure RS where
 mant:Nat
 nd:Nat
 ndM:Nat
 dp:Int
 dot:Bool
 dig:Bool
 trunc:Bool
deriving DecidableEq
def rs0:RS:=⟨0,0,0,0,false,false,false⟩
def dS (r:RS)(c:UInt8):RS :=
 if c=46 then { r with dot:=true,dp:=r.nd }
 else if c=48∧r.nd=0 then { r with dig:=true,dp:=r.dp-1 }
 else if r.ndM<19 then { r with dig:=true,nd:=r.nd+1,mant:=r.mant*10+(c.toNat-48),ndM:=r.ndM+1 }
 else { r with dig:=true,nd:=r.nd+1,trunc:=r.trunc||c !=48 }
def aR (l:List UInt8):RS:=l.foldl dS rs0
theorem dP (l:List UInt8)(c:UInt8):aR (l++[c])=dS (aR l) c:=by simp[aR]
def dE (c:UInt8):Bool:=aS c||c==46
structure RB (r:RS) (k:Nat):Prop where
 nd:r.nd≤k
 ndM:r.ndM=min r.nd 19
 mant:r.mant<10^r.ndM
 lo:-(k:Int)≤r.dp
 hi:r.dp≤k
theorem eQ (c:UInt8)(h:aS c=true):48≤c.toNat∧c.toNat≤57:=by simpa [aS]using h
theorem aLI {r:RS}{k:Nat}{c:UInt8}(h:RB r k)(hc:dE c=true):RB (dS r c) (k+1):=by
 obtain⟨h1,h2,h3,h4,h5⟩:=h;unfold dS;split
 ·exact⟨by show r.nd≤_;omega,h2,h3,by show _≤((r.nd:Nat):Int);omega,by show((r.nd:Nat):Int)≤_;omega⟩
 ·rename_i h46;have hd:aS c=true:=by simpa [dE,h46]using hc
  have hb:=eQ c hd;split
  ·exact⟨by show r.nd≤_;omega,h2,h3,by show _≤r.dp-1;omega,by show r.dp-1≤_;omega⟩
  ·split
   ·refine⟨by show r.nd+1≤_;omega,by show r.ndM+1=min (r.nd+1) 19;omega,?_,by show _≤r.dp;omega,by show r.dp≤_;omega⟩;show r.mant*10+(c.toNat-48)<10^(r.ndM+1);rw[Nat.pow_succ];omega
   ·exact⟨by show r.nd+1≤_;omega,by show r.ndM=min (r.nd+1) 19;omega,h3,by show _≤r.dp;omega,by show r.dp≤_;omega⟩
theorem sQ (l:List UInt8)(h:∀c∈l,dE c=true):RB (aR l) l.length:=by
 induction l using gL with
 | h0=>exact⟨Nat.le_refl _,rfl,by show 0<1;omega,Int.le_refl _,Int.le_refl _⟩
 | h1 l c ih =>
  rw[dP,List.length_append];exact aLI (ih (fun x hx=>h x (by simp[hx]))) (h c (by simp))
theorem aLo (n:Nat)(h:n≤19):10^n≤10000000000000000000:=Nat.le_trans (Nat.pow_le_pow_right (by omega) h) (by decide)
theorem aLE (n:Nat)(h:n≤18):10^n≤1000000000000000000:=Nat.le_trans (Nat.pow_le_pow_right (by omega) h) (by decide)
def eT (e:Nat)(c:UInt8):Nat:=if e<10000 then e*10+(c.toNat-48)else e
def cK (l:List UInt8):Nat:=l.foldl eT 0
theorem gX (l:List UInt8)(c:UInt8):cK (l++[c])=eT (cK l) c:=by simp[cK]
theorem aJF (l:List UInt8)(h:∀c∈l,aS c=true):cK l≤100000:=by
 induction l using gL with
 | h0=>show 0≤_;omega
 | h1 l c ih =>
  have h1:=ih (fun x hx=>h x (by simp[hx]));have h2:=eQ c (h c (by simp));rw[gX];unfold eT;split<;>omega
def aK (s:ByteArray)(p j:Nat):List UInt8:=(s.data.toList.drop p).take (j-p)
theorem gD (s:ByteArray)(p:Nat):aK s p p=[]:=by simp[aK]
theorem hJ (s:ByteArray)(p j:Nat)(hp:p≤j)(hj:j<s.size):aK s p (j+1)=aK s p j++[s[j]]:=by
 unfold aK;rw[Nat.succ_sub hp,List.take_succ_eq_append_getElem (by rw[List.length_drop,←bF];omega)];congr 2;rw[List.getElem_drop];have e:p+(j-p)=j:=by omega
 simp only[e];rfl
theorem kX (s:ByteArray)(p j:Nat)(hp:p≤j)(hj:j≤s.size):(aK s p j).length=j-p:=by
 unfold aK;rw[List.length_take,List.length_drop,←bF];omega
open Go.RowKit
theorem aLR (c:UInt8)(h:dE c=true∨c=101∨c=69):(bits .or .u8 (c.toNat:Int) 32==120)=false:=by
 have all:∀n:Fin 256,(dE (UInt8.ofNat n.val)=true∨UInt8.ofNat n.val=101∨UInt8.ofNat n.val=69)→(bits .or .u8 ((UInt8.ofNat n.val).toNat:Int) 32==120)=false:=by decide +kernel
 have:=all ⟨c.toNat,c.toNat_lt⟩;simp only[UInt8.ofNat_toNat]at this;exact this h
theorem aLk (c:UInt8)(h:c=101∨c=69):(bits .or .u8 (c.toNat:Int) 32==101)=true:=by
 rcases h with rfl|rfl<;>decide +kernel
theorem zS (c:Int)(w:World):Calls Tryz.prog 251 #[.int .u8 c] w fun e w'=>e=.returned (.int .u8 (bits .or .u8 c 32))∧w=w' :=
 (Tryz.internal_strconv_lower c w).mono fun _ _ ⟨h1,h2⟩=>⟨h1,h2.symm⟩
structure mI (s:ByteArray) (p0 q:Nat):Prop where
 lt:p0<q
 le:q≤s.size
 ch:∀j (h:j<s.size),p0≤j→j<q→dE s[j]=true
 dots:∀j (h:j<s.size),p0≤j→j<q→s[j]=46→(aR (aK s p0 j)).dot=false
 dig:(aR (aK s p0 q)).dig=true
 stop:∀(h:q<s.size),s[q]=101∨s[q]=69
def vV (s:ByteArray)(neg:Bool)(p0:Nat):Prop :=
 ∃h:0<s.size,(neg=false∧p0=0∧((s[0].toNat:Int)==43)=false∧((s[0].toNat:Int)==45)=false)∨(neg=true∧p0=1∧((s[0].toNat:Int)==43)=false∧((s[0].toNat:Int)==45)=true)
def aFi (s:ByteArray)(p0 q:Nat)(mant trunc i us dot dig nd ndM dp:Value):Prop :=
 ∃(j:Nat) (r:RS),p0≤j∧j≤q∧aR (aK s p0 j)=r∧mant=.int .u64 r.mant∧trunc=.bool r.trunc∧i=.int .i64 j∧us=.bool false∧dot=.bool r.dot∧dig=.bool r.dig∧nd=.int .i64 r.nd∧ndM=.int .i64 r.ndM∧dp=.int .i64 r.dp
def aMU (s:ByteArray)(p0 q:Nat)(mant trunc i us dot dig nd ndM dp:Value):Prop :=
 ∃(r:RS),aR (aK s p0 q)=r∧mant=.int .u64 r.mant∧trunc=.bool r.trunc∧i=.int .i64 q∧us=.bool false∧dot=.bool r.dot∧dig=.bool r.dig∧nd=.int .i64 r.nd∧ndM=.int .i64 r.ndM∧dp=.int .i64 r.dp
def aAW (s:ByteArray)(q:Nat)(ev:Int):Prop :=
 (q=s.size∧ev=0)∨∃(h:q+1<s.size) (t:Nat) (es:Int),((t=q+1∧es=1∧aS s[q+1]=true)∨(t=q+2∧es=1∧s[q+1]=43)∨(t=q+2∧es=-1∧s[q+1]=45)) ∧
  t<s.size∧(∀j (h:j<s.size),t≤j→aS s[j]=true)∧ev=(cK (aK s t s.size):Nat)*es
def RS.place (r:RS):Int:=if r.dot=true then r.dp else r.nd
def RS.expo (r:RS)(ev:Int):Int:=if r.mant=0 then 0 else r.place+ev-r.ndM
theorem aDl (s:ByteArray)(t j:Nat)(ht:t≤j)(hj:j≤s.size)(h:∀j (h:j<s.size),t≤j→aS s[j]=true):∀c∈aK s t j,aS c=true:=by
 intro c hc;obtain⟨i,hi,rfl⟩:=List.getElem_of_mem hc;rw[kX s t j ht hj]at hi
 have:(aK s t j)[i]'(by rw[kX s t j ht hj];exact hi)=s[t+i]'(by omega):=by
  unfold aK;rw[List.getElem_take,List.getElem_drop];rfl
 rw[this];exact h (t+i) (by omega) (by omega)
theorem mC (s:ByteArray)(t j:Nat)(ht:t≤j)(hj:j≤s.size)(h:∀j (h:j<s.size),t≤j→aS s[j]=true):cK (aK s t j)≤100000 :=
 aJF _ (aDl s t j ht hj h)
theorem tX (s:ByteArray)(p0 q:Nat)(N:mI s p0 q)(j:Nat)(hp:p0≤j)(hj:j≤q):∀c∈aK s p0 j,dE c=true:=by
 intro c hc;have hle:=N.le;obtain⟨i,hi,rfl⟩:=List.getElem_of_mem hc;rw[kX s p0 j hp (by omega)]at hi
 have:(aK s p0 j)[i]'(by rw[kX s p0 j hp (by omega)];exact hi)=s[p0+i]'(by omega):=by
  unfold aK;rw[List.getElem_take,List.getElem_drop];rfl
 rw[this];exact N.ch (p0+i) (by omega) (by omega) (by omega)
theorem aAv (s:ByteArray)(p0 q:Nat)(N:mI s p0 q)(j:Nat)(hp:p0≤j)(hj:j≤q):RB (aR (aK s p0 j)) (j-p0):=by
 have:=sQ (aK s p0 j) (tX s p0 q N j hp hj);rwa[kX s p0 j hp (Nat.le_trans hj N.le)]at this
open Go.RowKit
theorem aIu (s p:ByteArray)(w:World)(h:0<s.size)(hs:s.size≤40)(hp:0<p.size)(hp2:p.size≤40)(h1:s[0].toNat≤57)(hq:97≤p[0].toNat) :
  Calls Tryz.prog 269 #[.string s,.string p] w fun e w'=>e=.returned (.int .i64 0)∧w=w':=by
 have h2:¬ 65≤s[0].toNat:=by omega
 have h3:((s[0].toNat:Int) !=(p[0].toNat:Int))=true:=by simp;omega
 by_cases hle:p.size≤s.size
 all_goals
  go_enter Tryz.func269,Tryz.ntmps269
  go_wp2
  refine wp_loop_rounds 1 ?_;rw[rounds_succ];go_wp2
  go_ret;exact⟨rfl,rfl⟩
theorem pN (s:ByteArray)(w:World)(h:0<s.size)(hs:s.size≤40)(h1:s[0].toNat≤57)(h2:((s[0].toNat:Int)==43)=false)(h3:((s[0].toNat:Int)==45)=false) :
  Calls Tryz.prog 233 #[.string s] w fun e w'=>e=.returned (.tuple #[.float .f64 0,.int .i64 0,.bool false])∧w=w':=by
 have f1:((s[0].toNat:Int)==105)=false:=by simp;omega
 have f2:((s[0].toNat:Int)==73)=false:=by simp;omega
 have f3:((s[0].toNat:Int)==110)=false:=by simp;omega
 have f4:((s[0].toNat:Int)==78)=false:=by simp;omega
 have f0:((s.size:Int)==0)=false:=beq_eq_false_iff_ne.2 (by omega);go_enter Tryz.func233,Tryz.ntmps233
 go_wp2
 go_ret3;exact⟨rfl,rfl⟩
theorem vA (s:ByteArray)(w:World)(h:1<s.size)(hs:s.size≤40)(h2:((s[0].toNat:Int)==43)=false)(h3:((s[0].toNat:Int)==45)=true)(h1:s[1].toNat≤57) :
  Calls Tryz.prog 233 #[.string s] w fun e w'=>e=.returned (.tuple #[.float .f64 0,.int .i64 0,.bool false])∧w=w':=by
 have f0:((s.size:Int)==0)=false:=beq_eq_false_iff_ne.2 (by omega);obtain⟨s2,e2,z2,c2'⟩:=jD s 1 (by omega);have c2:∀w,(Instr.slice 9 (.string s) (some (.int .i64 1)) none none).run Tryz.prog w=.ok (.string s2) w:=c2';clear c2';have k2:0<s2.size:=by omega
 have k3:s2.size≤40:=by omega
 have g1:s2[0].toNat≤57:=by
  have:s2[0]=s[1]:=by
   have a1:=List.getElem_of_eq e2 (i:=0) (by rw[←bF];exact k2);rw[List.getElem_drop]at a1
   exact a1
  rw[this];exact h1
 have PR:=fun w=>aIu s2 ({ data:=#[105,110,102,105,110,105,116,121] }:ByteArray) w k2 k3 (Nat.le_of_ble_eq_true rfl) (Nat.le_of_ble_eq_true rfl) g1 (Nat.le_of_ble_eq_true rfl)
 have HPR:=hid PR;clear PR e2 z2;go_enter Tryz.func233,Tryz.ntmps233
 go_wp2_with (go_at_call 269;refine(HPR.out _).mono ?_;rintro e w' ⟨rfl,rfl⟩)
 go_ret3;exact⟨rfl,rfl⟩
open Go.RowKit
theorem dL (w:World):Calls Tryz.prog 242 #[.bool true] w fun e w'=>e=.returned (.int .u64 1)∧w=w':=by
 go_enter Tryz.func242,Tryz.ntmps242
 go_wp2
 go_ret;exact⟨rfl,rfl⟩
theorem cO (w:World):Calls Tryz.prog 242 #[.bool false] w fun e w'=>e=.returned (.int .u64 0)∧w=w':=by
 go_enter Tryz.func242,Tryz.ntmps242
 go_wp2
 go_ret;exact⟨rfl,rfl⟩
theorem aBv (w:World):Calls Tryz.prog 266 #[.bool true] w fun e w'=>e=.returned (.int .i64 1)∧w=w':=by
 go_enter Tryz.func266,Tryz.ntmps266
 go_wp2
 go_ret;exact⟨rfl,rfl⟩
theorem aAi (w:World):Calls Tryz.prog 266 #[.bool false] w fun e w'=>e=.returned (.int .i64 0)∧w=w':=by
 go_enter Tryz.func266,Tryz.ntmps266
 go_wp2
 go_ret;exact⟨rfl,rfl⟩
theorem aGl (s:ByteArray)(m:Nat)(x:Int)(neg:Bool)(r:Nat)(w:World)(T:aC w)(_hs:s.size≤40)(hm:m≠0)(x1:-345≤x)(x2:x≤310)
  (SP:∀w,Calls Tryz.prog 233 #[.string s] w fun e w'=>e=.returned (.tuple #[.float .f64 0,.int .i64 0,.bool false])∧w=w')
  (RD:∀w,Calls Tryz.prog 234 #[.string s] w fun e w'=>e=.returned (.tuple #[.int .u64 m,.int .i64 x,.bool neg,.bool false,.bool false,.int .i64 s.size,.bool true])∧w=w')
  (EX:∀w,aC w→Calls Tryz.prog 244 #[.int .u64 m,.int .i64 x,.bool neg] w fun e w'=>e=.returned (.tuple #[.float .f64 r,.bool true])∧w=w') :
  Calls Tryz.prog 205 #[.string s] w fun e w'=>e=.returned (.tuple #[.float .f64 r,.int .i64 s.size,.nilIface])∧w=w':=by
 have h3:=T.opt;have hm0:((m:Int)==0)=false:=beq_eq_false_iff_ne.2 (by omega);have HSP:=hid SP;have HRD:=hid RD;have HEX:=hid EX;have HT:=hid T;clear SP RD EX T;cases neg;all_goals
  go_enter Tryz.func205,Tryz.ntmps205
  go_wp2_with (first
   | (go_at_call 233;refine(HSP.out _).mono ?_;rintro e w' ⟨rfl,rfl⟩)
   | (go_at_call 234;refine(HRD.out _).mono ?_;rintro e w' ⟨rfl,rfl⟩)
   | (go_at_call 242;((with_reducible refine(dL _).mono ?_);rintro e w' ⟨rfl,rfl⟩))
   | (go_at_call 242;((with_reducible refine(cO _).mono ?_);rintro e w' ⟨rfl,rfl⟩))
   | (go_at_call 244;refine(HEX.out _ HT.out).mono ?_;rintro e w' ⟨rfl,rfl⟩))
  go_ret3;exact⟨rfl,rfl⟩
open Go.RowKit
theorem aOc (n:Int)(w:World):(callFunc 169 #[.int .u64 n]).run Tryz.prog w=.ok (.value (.float .f64 n.toNat)) w:=by
 rw[run_callFunc_extern Tryz.func169 (by kernel_rfl) (by kernel_rfl) (by kernel_rfl) (e:=Extern.MathFloatBits.float64frombits) (by kernel_rfl)];rfl
theorem lC (n:Int)(w:World):(callFunc 243 #[.int .u64 n]).run Tryz.prog w=.ok (.value (.float .f64 n.toNat)) w:=by
 rw[run_callFunc_extern Tryz.func243 (by kernel_rfl) (by kernel_rfl) (by kernel_rfl) (e:=Extern.MathFloatBits.float64frombits) (by kernel_rfl)];rfl
theorem aN9 (r:Nat)(w:World):(callFunc 170 #[.float .f64 r]).run Tryz.prog w=.ok (.value (.int .u64 r)) w:=by
 rw[run_callFunc_extern Tryz.func170 (by kernel_rfl) (by kernel_rfl) (by kernel_rfl) (e:=Extern.MathFloatBits.float64bits) (by kernel_rfl)];rfl
theorem aGQ (r:Nat)(w:World):(callFunc 254 #[.float .f64 r]).run Tryz.prog w=.ok (.value (.int .u64 r)) w:=by
 rw[run_callFunc_extern Tryz.func254 (by kernel_rfl) (by kernel_rfl) (by kernel_rfl) (e:=Extern.MathFloatBits.float64bits) (by kernel_rfl)];rfl
def aBq (r:Nat):Nat:=(bits .andNot .u64 r 9223372036854775808).toNat
theorem aLX (r:Nat)(w:World):Calls Tryz.prog 121 #[.float .f64 r] w fun e w'=>e=.returned (.float .f64 (aBq r))∧w=w':=by
 have d1:=aOc;have d2:=aN9;go_enter Tryz.func121,Tryz.ntmps121
 go_wp2
 go_ret;exact⟨rfl,rfl⟩
def vY (r:Nat):Bool:=FloatKind.f64.format.order (aBq r) 9218868437227405311==some .gt
theorem aHj (r:Nat)(w:World):Calls Tryz.prog 67 #[.float .f64 r,.int .i64 0] w fun e w'=>e=.returned (.bool (vY r))∧w=w':=by
 go_enter Tryz.func67,Tryz.ntmps67
 go_wp2_with (go_at_call 121;refine(aLX _ _).mono ?_;rintro e w' ⟨rfl,rfl⟩)
 go_ret;exact⟨rfl,rfl⟩
theorem gK (r:Nat)(b:Bool)(w:World)(h:vY r=b):Calls Tryz.prog 67 #[.float .f64 r,.int .i64 0] w fun e w'=>e=.returned (.bool b)∧w=w':=by
 subst h;exact aHj r w
theorem aId (s:ByteArray)(r:Nat)(w:World)
  (A:∀w',w=w'→Calls Tryz.prog 205 #[.string s] w' fun e w2=>e=.returned (.tuple #[.float .f64 r,.int .i64 s.size,.nilIface])∧w'=w2) :
  Calls Tryz.prog 164 #[.string s,.int .i64 64] w fun e w'=>e=.returned (.tuple #[.float .f64 r,.int .i64 s.size,.nilIface])∧w=w':=by
 have HA:=hid A;clear A;go_enter Tryz.func164,Tryz.ntmps164
 go_wp2_with (go_at_call 205;refine(HA.out _ rfl).mono ?_;rintro e w' ⟨rfl,rfl⟩)
 go_ret3;exact⟨rfl,rfl⟩
theorem aL0 (s:ByteArray)(r:Nat)(w:World)
  (A:∀w',w=w'→Calls Tryz.prog 205 #[.string s] w' fun e w2=>e=.returned (.tuple #[.float .f64 r,.int .i64 s.size,.nilIface])∧w'=w2) :
  Calls Tryz.prog 119 #[.string s,.int .i64 64] w fun e w'=>e=.returned (.tuple #[.float .f64 r,.nilIface])∧w=w':=by
 have HA:=hid A;clear A;go_enter Tryz.func119,Tryz.ntmps119
 go_wp2_with (go_at_call 164;refine(aId s r _ HA.out).mono ?_;rintro e w' ⟨rfl,rfl⟩)
 go_ret2;exact⟨rfl,rfl⟩
theorem aMK (s:ByteArray)(r:Nat)(w:World)
  (A:∀w',w=w'→Calls Tryz.prog 205 #[.string s] w' fun e w2=>e=.returned (.tuple #[.float .f64 r,.int .i64 s.size,.nilIface])∧w'=w2) :
  Calls Tryz.prog 66 #[.string s,.int .i64 64] w fun e w'=>e=.returned (.tuple #[.float .f64 r,.nilIface])∧w=w':=by
 have HA:=hid A;clear A;go_enter Tryz.func66,Tryz.ntmps66
 go_wp2_with (go_at_call 119;refine(aL0 s r _ HA.out).mono ?_;rintro e w' ⟨rfl,rfl⟩)
 go_ret2;exact⟨rfl,rfl⟩
theorem aKy (s:ByteArray)(r:Nat)(w:World)(hs:s.size≤maxLen)(hn:iG s.data.toList=true)(hi:vY r=false)
  (A:∀w',w=w'→Calls Tryz.prog 205 #[.string s] w' fun e w2=>e=.returned (.tuple #[.float .f64 r,.int .i64 s.size,.nilIface])∧w'=w2) :
  Calls Tryz.prog 21 #[.string s] w fun e w'=>e=.returned (.tuple #[.float .f64 r,.bool true])∧w=w':=by
 have NB:=fun w=>oJ s w hs
 rw[hn]at NB
 have HA:=hid A;have HNB:=hid NB;have HI:=hid hi;clear A NB hn hi hs;go_enter Tryz.func21,Tryz.ntmps21
 go_wp2_with (first
  | (go_at_call 65;refine(HNB.out _).mono ?_;rintro e w' ⟨rfl,rfl⟩)
  | (go_at_call 66;refine(aMK s r _ HA.out).mono ?_;rintro e w' ⟨rfl,rfl⟩)
  | (go_at_call 67;refine(gK r false _ HI.out).mono ?_;rintro e w' ⟨rfl,rfl⟩))
 go_ret2;exact⟨rfl,rfl⟩
open Go.RowKit
theorem yS (x y hi mid:Nat)(w:World)(hx:x<18446744073709551616)(hy:y<18446744073709551616)(h1:x*y / 18446744073709551616=hi)(h2:x*y%18446744073709551616=mid) :
  Calls Tryz.prog 202 #[.int .u64 x,.int .u64 y] w fun e w'=>e=.returned (.tuple #[.int .u64 hi,.int .u64 mid])∧w=w':=by
 refine(Tryz.bits_Mul64 x y hx hy w).mono ?_;rintro e w' ⟨rfl,rfl⟩;rw[h1,h2];exact⟨rfl,rfl⟩
theorem aLu (s:Nat)(h:s<64):bits .and .i64 (s:Int) 63=s:=by
 have all:∀n:Fin 64,bits .and .i64 ((n.val:Nat):Int) 63=((n.val:Nat):Int):=by decide +kernel
 exact all ⟨s,h⟩
theorem aF0 (x h l s hi mid:Nat)(w:World)(b o:Nat)(c0:w.cell? ⟨b,o,none⟩=some (.int .u64 h))(_c1:w.cell? ⟨b,o+1,none⟩=some (.int .u64 l))(c2:w.cell? ⟨b,o+2,none⟩=some (.int .i64 s))
  (hx:x<18446744073709551616) (hh:h<18446744073709551616) (hs:s<64) (h1:x*h / 18446744073709551616=hi) (h2:x*h%18446744073709551616=mid)
  (hc:(IntKind.u64.wrap ((hi:Int) / 2^s*2^s) !=(hi:Int))=true) :
  Calls Tryz.prog 274 #[.int .u64 x,.pointer (some ⟨b,o,none⟩)] w fun e w'=>e=.returned (.int .u64 (bits .or .u64 ((hi:Int) / 2^s) 1))∧w=w':=by
 have M1:=fun w=>yS x h hi mid w hx hh h1 h2
 have a63:=aLu s hs;have HM1:=hid M1;clear M1 h1 h2 hx hh;go_enter Tryz.func274,Tryz.ntmps274
 go_wp2_with (go_at_call 202;((with_reducible refine(HM1.out _).mono ?_);rintro e w' ⟨rfl,rfl⟩))
 go_ret;exact⟨rfl,rfl⟩
theorem aEZ (x h l s hi mid mid2 lo2:Nat)(w:World)(b o:Nat)(c0:w.cell? ⟨b,o,none⟩=some (.int .u64 h))(c1:w.cell? ⟨b,o+1,none⟩=some (.int .u64 l))(c2:w.cell? ⟨b,o+2,none⟩=some (.int .i64 s))
  (hx:x<18446744073709551616) (hh:h<18446744073709551616) (hl:l<18446744073709551616) (hs:s<64) (h1:x*h / 18446744073709551616=hi) (h2:x*h%18446744073709551616=mid) (h3:x*l / 18446744073709551616=mid2) (h4:x*l%18446744073709551616=lo2)
  (hc:(IntKind.u64.wrap ((hi:Int) / 2^s*2^s) !=(hi:Int))=false) (q:Bool) (hq:decide (mid<mid2)=q) (z:Int) (hz:IntKind.u64.wrap (if q then (hi:Int)-1 else (hi:Int))=z) (r:Bool) (hr:decide (1<IntKind.u64.wrap ((mid:Int)-mid2))=r) :
  Calls Tryz.prog 274 #[.int .u64 x,.pointer (some ⟨b,o,none⟩)] w fun e w'=>e=.returned (.int .u64 (bits .or .u64 (z / 2^s) (if r then 1 else 0)))∧∃n,w'=w.drewN n:=by
 have M1:=fun w=>yS x h hi mid w hx hh h1 h2
 have M2:=fun w=>yS x l mid2 lo2 w hx hl h3 h4
 have a63:=aLu s hs;have HM1:=hid M1;have HM2:=hid M2;clear M1 M2 h1 h2 h3 h4 hx hh hl;cases q;all_goals
  simp only[if_true,if_false,Bool.false_eq_true]at hz;go_enter Tryz.func274,Tryz.ntmps274
  go_wp2_with (first
   | (go_at_call 202;((with_reducible refine(HM1.out _).mono ?_);rintro e w' ⟨rfl,rfl⟩))
   | (go_at_call 202;((with_reducible refine(HM2.out _).mono ?_);rintro e w' ⟨rfl,rfl⟩))
   | (go_at_call 242;((with_reducible refine(dL _).mono ?_);rintro e w' ⟨rfl,rfl⟩))
   | (go_at_call 242;((with_reducible refine(cO _).mono ?_);rintro e w' ⟨rfl,rfl⟩)))
  cases r;all_goals
   go_quiet ((first|(go_at_call 242;exact Calls.quiet_of_same ((dL _).mono fun _ _ h=>⟨h.1,h.2.symm⟩))|(go_at_call 242;exact Calls.quiet_of_same ((cO _).mono fun _ _ h=>⟨h.1,h.2.symm⟩))))
   go_wp2
   go_ret;exact⟨rfl,_,rfl⟩
def cQ (x h l s:Nat):Nat :=
 let hi:=x*h / 18446744073709551616
 let mid:=x*h%18446744073709551616
 let mid2:=x*l / 18446744073709551616
 if hi / 2^s*2^s≠hi then hi / 2^s ||| 1
 else (if mid<mid2 then (hi+18446744073709551615)%18446744073709551616 else hi) / 2^s ||| (if 1<(mid+18446744073709551616-mid2)%18446744073709551616 then 1 else 0)
theorem dW (z:Int):IntKind.u64.wrap z=z%18446744073709551616:=by
 have h1:IntKind.u64.signed=false:=rfl;have h2:IntKind.u64.bits=64:=rfl;unfold IntKind.wrap;simp only[h1,h2,Bool.false_and,Bool.false_eq_true,if_false];rfl
theorem aD1 (n:Nat)(h:n<18446744073709551616):IntKind.u64.wrap (n:Int)=n:=by rw[dW];omega
theorem wQ (a b:Nat)(ha:a<18446744073709551616)(hb:b<18446744073709551616):bits .or .u64 (a:Int) (b:Int)=((a ||| b:Nat):Int):=u64_or_nat a b ha hb
theorem rH (x y:Nat)(hx:x<18446744073709551616)(hy:y<18446744073709551616):x*y / 18446744073709551616<18446744073709551616:=by
 rw[Nat.div_lt_iff_lt_mul (by omega)];exact Nat.mul_lt_mul'' hx hy
theorem mY (a s:Nat)(ha:a<18446744073709551616):a / 2^s<18446744073709551616:=Nat.lt_of_le_of_lt (Nat.div_le_self _ _) ha
theorem dZ (x h l s:Nat)(w:World)(b o:Nat)(c0:w.cell? ⟨b,o,none⟩=some (.int .u64 h))(c1:w.cell? ⟨b,o+1,none⟩=some (.int .u64 l))(c2:w.cell? ⟨b,o+2,none⟩=some (.int .i64 s))
  (hx:x<18446744073709551616) (hh:h<18446744073709551616) (hl:l<18446744073709551616) (hs:s<64) :
  Calls Tryz.prog 274 #[.int .u64 x,.pointer (some ⟨b,o,none⟩)] w fun e w'=>e=.returned (.int .u64 (cQ x h l s:Nat))∧∃n,w'=w.drewN n:=by
 obtain⟨hi,h1⟩:∃hi,x*h / 18446744073709551616=hi:=⟨_,rfl⟩
 obtain⟨mid,h2⟩:∃mid,x*h%18446744073709551616=mid:=⟨_,rfl⟩
 obtain⟨mid2,h3⟩:∃mid2,x*l / 18446744073709551616=mid2:=⟨_,rfl⟩
 obtain⟨lo2,h4⟩:∃lo2,x*l%18446744073709551616=lo2:=⟨_,rfl⟩
 have b1:hi<18446744073709551616:=by rw[←h1];exact rH x h hx hh
 have b2:mid<18446744073709551616:=by rw[←h2];exact Nat.mod_lt _ (by omega)
 have b3:mid2<18446744073709551616:=by rw[←h3];exact rH x l hx hl
 have d1:hi / 2^s<18446744073709551616:=mY hi s b1;have hp:((2:Int)^s)=((2^s:Nat):Int):=by simp
 have hdiv:(hi:Int) / 2^s=((hi / 2^s:Nat):Int):=by rw[hp,Int.natCast_ediv]
 have hmul:hi / 2^s*2^s≤hi:=Nat.div_mul_le_self _ _;have hw:IntKind.u64.wrap ((hi:Int) / 2^s*2^s)=((hi / 2^s*2^s:Nat):Int):=by
  rw[hdiv,hp,←Int.natCast_mul];exact aD1 _ (by omega)
 by_cases hc:hi / 2^s*2^s≠hi
 ·refine(aF0 x h l s hi mid w b o c0 c1 c2 hx hh hs h1 h2 (by rw[hw,bne_iff_ne];omega)).mono ?_;rintro e w' ⟨rfl,rfl⟩;refine⟨?_,0,rfl⟩;have:cQ x h l s=hi / 2^s ||| 1:=by
   unfold cQ;simp only[h1];rw[if_pos hc]
  rw[this,hdiv];have:=wQ (hi / 2^s) 1 d1 (by omega);rw[←this];rfl
 ·have hw2:IntKind.u64.wrap ((mid:Int)-mid2)=(((mid+18446744073709551616-mid2)%18446744073709551616:Nat):Int):=by
   rw[dW];omega
  have hz:IntKind.u64.wrap (if decide (mid<mid2)=true then (hi:Int)-1 else (hi:Int))=(((if mid<mid2 then (hi+18446744073709551615)%18446744073709551616 else hi):Nat):Int):=by
   by_cases hq:mid<mid2
   ·simp only[hq,decide_true,if_true];rw[dW];omega
   ·simp only[hq,decide_false,if_false,Bool.false_eq_true];exact aD1 _ b1
  refine(aEZ x h l s hi mid mid2 lo2 w b o c0 c1 c2 hx hh hl hs h1 h2 h3 h4 (by rw[hw];exact bne_eq_false_iff_eq.2 (by omega)) _ rfl _ hz _ rfl).mono ?_;rintro e w' ⟨rfl,hn⟩;refine⟨?_,hn⟩;have e1:cQ x h l s=(if mid<mid2 then (hi+18446744073709551615)%18446744073709551616 else hi) / 2^s ||| (if 1<(mid+18446744073709551616-mid2)%18446744073709551616 then 1 else 0):=by
   unfold cQ;simp only[h1,h2,h3];rw[if_neg hc]
  obtain⟨H,hH⟩:∃H,H=(if mid<mid2 then (hi+18446744073709551615)%18446744073709551616 else hi):=⟨_,rfl⟩
  rw[←hH]at e1 ⊢
  have bH:H<18446744073709551616:=by rw[hH];split<;>omega
  rw[e1,hw2];have hd2:(H:Int) / 2^s=((H / 2^s:Nat):Int):=by rw[hp,Int.natCast_ediv]
  rw[hd2];by_cases hr:1<(mid+18446744073709551616-mid2)%18446744073709551616
  ·rw[if_pos hr,if_pos (decide_eq_true (by omega))];have:=wQ (H / 2^s) 1 (mY H s bH) (by omega);rw[←this];rfl
  ·rw[if_neg hr,if_neg (by rw[decide_eq_true_eq];omega)];have:=wQ (H / 2^s) 0 (mY H s bH) (by omega);rw[←this];rfl
open Go.RowKit
theorem nX {a b:Int}(h:a=b):Ending.returned (.int .u64 a)=.returned (.int .u64 b):=by rw[h]
theorem oE (x:Int)(w:World)(h0:-3000≤x)(h1:x≤3000):Calls Tryz.prog 272 #[.int .i64 x] w fun e w'=>e=.returned (.int .i64 (x*108853 / 32768))∧w=w':=by
 go_enter Tryz.func272,Tryz.ntmps272
 go_wp2
 go_ret;exact⟨rfl,rfl⟩
theorem wR (x:Int)(w:World)(h0:-3000≤x)(h1:x≤3000):Calls Tryz.prog 260 #[.int .i64 x] w fun e w'=>e=.returned (.int .i64 (x*78913 / 262144))∧w=w':=by
 go_enter Tryz.func260,Tryz.ntmps260
 go_wp2
 go_ret;exact⟨rfl,rfl⟩
theorem aFA (x:Int)(w:World)(h0:-3000≤x)(h1:x≤3000):Calls Tryz.prog 282 #[.int .i64 x] w fun e w'=>e=.returned (.int .i64 ((x*631305-261663) / 2097152))∧w=w':=by
 go_enter Tryz.func282,Tryz.ntmps282
 go_wp2
 go_ret;exact⟨rfl,rfl⟩
theorem aIo (u:Nat)(d:Int)(w:World)(_hu:u<18446744073709551616):Calls Tryz.prog 283 #[.int .u64 u,.int .i64 d] w fun e w'=>e=.returned (.int .u64 ((((u:Int)+d)%18446744073709551616).toNat:Nat))∧w=w':=by
 go_enter Tryz.func283,Tryz.ntmps283
 go_wp2
 go_ret;refine⟨nX ?_,rfl⟩;rw[dW,dW];omega
theorem aKn (u:Nat)(w:World)(_hu:u<18446744073709551616):Calls Tryz.prog 284 #[.int .u64 u] w fun e w'=>e=.returned (.int .u64 ((u+3)%18446744073709551616 / 4:Nat))∧w=w':=by
 go_enter Tryz.func284,Tryz.ntmps284
 go_wp2
 go_ret;refine⟨nX ?_,rfl⟩;rw[dW];omega
theorem aII (u:Nat)(w:World)(hu:u<18446744073709551616):Calls Tryz.prog 285 #[.int .u64 u] w fun e w'=>e=.returned (.int .u64 (u / 4:Nat))∧w=w':=by
 go_enter Tryz.func285,Tryz.ntmps285
 go_wp2
 go_ret;refine⟨nX ?_,rfl⟩;omega
theorem zL (n:Nat)(h:n<18446744073709551616):bits .and .u64 (n:Int) 1=((n%2:Nat):Int):=by
 have:=and_one_u64 (n:Int) (by omega) (by omega);rw[this];omega
theorem aHB (u:Nat)(w:World)(hu:u<18446744073709551616):Calls Tryz.prog 277 #[.int .u64 u] w fun e w'=>e=.returned (.int .u64 ((u+1+u / 4%2)%18446744073709551616 / 4:Nat))∧w=w':=by
 have ha:=zL (u / 4) (by omega);have e4:((u / 4:Nat):Int)=(u:Int) / 4:=by omega
 rw[e4]at ha
 have HA:=hid ha;clear ha e4;go_enter Tryz.func277,Tryz.ntmps277
 go_wp2
 go_ret;refine⟨nX ?_,rfl⟩;rw[HA.out,dW,dW];omega
theorem iU (e lp s:Int)(i:Nat)(w:World)(g:Nat)(v0 v1 v2:Value)(fz:Nat × Nat)(hg:w.heap[g]?=some (.cells #[v0,v1,v2] 265 fz))(hf:fz=(0,0))(hi:i<696)(_hne:13≠g)
  (T:aC w) (he:-3000≤e) (he2:e≤3000) (hl:-3000≤lp) (hl2:lp≤3000) (hs:-(e+lp+3)=s) :
  Calls Tryz.prog 273 #[.pointer (some ⟨g,0,none⟩),.int .i64 e,.int .i64 ((i:Int)-348),.int .i64 lp] w
   fun e w'=>e=.returned (.tuple #[])∧w'.heap[g]?=some (.cells #[.int .u64 (aN i),.int .u64 (aY i),.int .i64 s] 265 (0,0))∧aG (· = g) w w':=by
 subst hf;obtain⟨t0,t1⟩:=T.p10 i hi;rw[Nat.mul_comm]at t0 t1
 have c0:=cell_of_row w g 0 _ _ _ hg;have c1:=cell_of_row w g 1 _ _ _ hg;have c2:=cell_of_row w g 2 _ _ _ hg;have z0:=frozen_of_row w g 0 _ _ hg;have z1:=frozen_of_row w g 1 _ _ hg;have z2:=frozen_of_row w g 2 _ _ hg;generalize aN i=H at *
 generalize aY i=L at *
 clear T;have HG:=hid hg;clear hg;simp at c0 c1 c2;go_enter Tryz.func273,Tryz.ntmps273
 go_wp2
 go_end0
 refine⟨rfl,?_,(((aG.refl (· = g) w).setCell ⟨g,0,none⟩ _ (fun _=>rfl)).setCell ⟨g,1,none⟩ _ (fun _=>rfl)).setCell ⟨g,2,none⟩ _ (fun _=>rfl)⟩;rw[heap_setCell_same _ _ _ _ _ _ (heap_setCell_same _ _ _ _ _ _ (heap_setCell_same _ _ _ _ _ _ HG.out))];simp
end Go.Proofs.YtcfgbdhpcboikaaGreatDoor
