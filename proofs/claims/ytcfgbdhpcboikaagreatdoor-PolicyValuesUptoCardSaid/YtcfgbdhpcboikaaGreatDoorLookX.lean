/-
utf8.look: what it answers at every byte.
-/
import Derived.Test.YtcfgbdhpcboikaaGreatDoorKinds
import Derived.Test.YtcfgbdhpcboikaaGreatDoorBase
namespace Go.Proofs.YtcfgbdhpcboikaaGreatDoor
open Go.Lib (hid)
set_option maxHeartbeats 2000000
set_option maxRecDepth 100000
open Go.RowKit PU8
theorem aJX (g off cap i c:Nat)(L:List UInt8)(w:World)(hi:i<L.length)(_hL:L.length≤140737488355328)(hc:w.cell? ⟨g,off+i,none⟩=some (.int .u8 (c:Nat)))(hcc:c<128) :
  Calls Tryz.prog 129 #[.slice (some ⟨g,off,none⟩) L.length cap,.int .i64 i] w fun e w'=>e=.returned (.tuple #[.int .i64 1,.bool true])∧w=w':=by
 have l128:decide ((c:Int)<128)=true:=by simp;omega
 have HCC:=hid hcc;clear hcc;go_enter Tryz.func129,Tryz.ntmps129
 go_wp2
 go_ret2;exact⟨rfl,rfl⟩
theorem aHM (g off cap i c:Nat)(L:List UInt8)(w:World)(hi:i<L.length)(_hL:L.length≤140737488355328)(hc:w.cell? ⟨g,off+i,none⟩=some (.int .u8 (c:Nat)))(hcc:128≤c∧c<194) :
  Calls Tryz.prog 129 #[.slice (some ⟨g,off,none⟩) L.length cap,.int .i64 i] w fun e w'=>e=.returned (.tuple #[.int .i64 0,.bool false])∧w=w':=by
 have l128:decide ((c:Int)<128)=false:=by simp;omega
 have l194:decide ((c:Int)<194)=true:=by simp;omega
 have HCC:=hid hcc;clear hcc;go_enter Tryz.func129,Tryz.ntmps129
 go_wp2
 go_ret2;exact⟨rfl,rfl⟩
theorem aHL (g off cap i c:Nat)(L:List UInt8)(w:World)(hi:i<L.length)(_hL:L.length≤140737488355328)(hc:w.cell? ⟨g,off+i,none⟩=some (.int .u8 (c:Nat)))(hcc:244<c) :
  Calls Tryz.prog 129 #[.slice (some ⟨g,off,none⟩) L.length cap,.int .i64 i] w fun e w'=>e=.returned (.tuple #[.int .i64 0,.bool false])∧w=w':=by
 have l128:decide ((c:Int)<128)=false:=by simp;omega
 have l194:decide ((c:Int)<194)=false:=by simp;omega
 have l224:decide ((c:Int)<224)=false:=by simp;omega
 have l240:decide ((c:Int)<240)=false:=by simp;omega
 have l244:decide ((c:Int)<244)=false:=by simp;omega
 have q224:((c:Int)==224)=false:=by simp;omega
 have q237:((c:Int)==237)=false:=by simp;omega
 have q240:((c:Int)==240)=false:=by simp;omega
 have q244:((c:Int)==244)=false:=by simp;omega
 have HCC:=hid hcc;clear hcc;go_enter Tryz.func129,Tryz.ntmps129
 go_wp2
 go_ret2;exact⟨rfl,rfl⟩
theorem eS (L:List UInt8)(i need lo hi m:Nat)(t:Bool)(h:i<L.length)(hl:contU need lo hi 1 (aF (L.drop (i+1)))=(m,t)):fY L i need m t 1 lo hi :=
 ⟨Nat.le_refl _,by omega,h,hl⟩
theorem aC8 (g off cap i m:Nat)(t:Bool)(L:List UInt8)(w:World)(hB:Hid (bK w g off L))(hi:i<L.length)(hL:L.length≤140737488355328)(hr:Hid (lookU (aF (L.drop i))=(m,t))) :
  Calls Tryz.prog 129 #[.slice (some ⟨g,off,none⟩) L.length cap,.int .i64 i] w fun e w'=>e=.returned (.tuple #[.int .i64 m,.bool t])∧w=w':=by
 have hc:=hB.out i hi;have h:=hr.out;rw[sX _ _ hi,look_cons]at h
 have hc256:=L[i].toNat_lt;generalize L[i].toNat=c at hc h hc256;by_cases h1:c<128
 ·rw[if_pos h1]at h
  cases h;exact aJX g off cap i c L w hi hL hc h1
 rw[if_neg h1]at h
 by_cases h2:c<194
 ·rw[if_pos h2]at h
  cases h;exact aHM g off cap i c L w hi hL hc ⟨by omega,h2⟩
 rw[if_neg h2]at h
 by_cases h3:c<224
 ·rw[if_pos h3]at h
  exact jB g off cap i m c 1 128 191 t L w hB hi hL hc (by omega) (.inl ⟨h3,rfl,rfl,rfl⟩) (hid (eS L i _ _ _ m t hi h))
 rw[if_neg h3]at h
 by_cases h4:c=224
 ·rw[if_pos h4]at h
  exact jB g off cap i m c 2 160 191 t L w hB hi hL hc (by omega) (.inr (.inl ⟨h4,rfl,rfl,rfl⟩)) (hid (eS L i _ _ _ m t hi h))
 rw[if_neg h4]at h
 by_cases h5:c=237
 ·rw[if_pos h5]at h
  exact jB g off cap i m c 2 128 159 t L w hB hi hL hc (by omega) (.inr (.inr (.inl ⟨h5,rfl,rfl,rfl⟩))) (hid (eS L i _ _ _ m t hi h))
 rw[if_neg h5]at h
 by_cases h6:c<240
 ·rw[if_pos h6]at h
  exact jB g off cap i m c 2 128 191 t L w hB hi hL hc (by omega) (.inr (.inr (.inr (.inl ⟨⟨by omega,h6,h5⟩,rfl,rfl,rfl⟩)))) (hid (eS L i _ _ _ m t hi h))
 rw[if_neg h6]at h
 by_cases h7:c=240
 ·rw[if_pos h7]at h
  exact jB g off cap i m c 3 144 191 t L w hB hi hL hc (by omega) (.inr (.inr (.inr (.inr (.inl ⟨h7,rfl,rfl,rfl⟩))))) (hid (eS L i _ _ _ m t hi h))
 rw[if_neg h7]at h
 by_cases h8:c<244
 ·rw[if_pos h8]at h
  exact jB g off cap i m c 3 128 191 t L w hB hi hL hc (by omega) (.inr (.inr (.inr (.inr (.inr (.inl ⟨⟨by omega,h8⟩,rfl,rfl,rfl⟩)))))) (hid (eS L i _ _ _ m t hi h))
 rw[if_neg h8]at h
 by_cases h9:c=244
 ·rw[if_pos h9]at h
  exact jB g off cap i m c 3 128 143 t L w hB hi hL hc (by omega) (.inr (.inr (.inr (.inr (.inr (.inr ⟨h9,rfl,rfl,rfl⟩)))))) (hid (eS L i _ _ _ m t hi h))
 rw[if_neg h9]at h
 cases h;exact aHL g off cap i c L w hi hL hc (by omega)
open Go.RowKit
section
variable {P:Program} (T E:TypeId) (ht:P.underlying T=some (.slice E)) (hs:(P.info? E).map (·.size)=some 1) (w:World) (a:Option Addr) (n c l h:Nat)
include ht hs
theorem aIo (h1:h≤c):(Instr.slice T (.slice a n c) none (some (.int .i64 h)) none).run P w=.ok (.slice a h c) w:=by
 cases hq:P.info? E with
 | none=>simp[hq]at hs
 | some i =>
  simp[Instr.slice,run_underlying ht,Instr.sliceBounds,run_sliceBound,sizeOf,typeInfo,hq,h1,Addr.add]
theorem tC (h1:l≤h)(h2:h≤c):(Instr.slice T (.slice a n c) (some (.int .i64 l)) (some (.int .i64 h)) none).run P w=.ok (.slice (if c=l then a else a.map (·.add l)) (h-l) (c-l)) w:=by
 cases hq:P.info? E with
 | none=>simp[hq]at hs
 | some i =>
  have hi:i.size=1:=by simpa [hq]using hs
  simp[Instr.slice,run_underlying ht,Instr.sliceBounds,run_sliceBound,sizeOf,typeInfo,hq,hi,h1,h2]
end
theorem fW.empty (w:World)(base:Nat)(E:TypeId)(h:base≤w.heap.size):fW (w.alloc (.cells #[] E)) base E (some ⟨w.heap.size,0,none⟩) 0 [] :=
 World.ownsRow_made w #[] 0 h (by unfold maxLen;omega) rfl
theorem IsB.same {w w':World}{a:Option Addr}{bs:List UInt8}(h:IsB w a bs)(hh:w'.heap=w.heap):IsB w' a bs:=by
 intro j b hb;obtain⟨x,hx,hc⟩:=h j b hb;exact⟨x,hx,by unfold World.cell? at *;rw[hh];exact hc⟩
open Go.RowKit PU8
theorem aDL (g off cap k h:Nat)(n:Nat)(hk:k<cap)(h1:k≤h)(h2:h≤cap)(w:World) :
  (Instr.slice 35 (.slice (some ⟨g,off,none⟩) n cap) (some (.int .i64 k)) (some (.int .i64 h)) none).run Tryz.prog w=.ok (.slice (some ⟨g,off+k,none⟩) (h-k) (cap-k)) w:=by
 rw[tC 35 5 Tryz.underlying35 (by kernel_rfl) w (some ⟨g,off,none⟩) n cap k h h1 h2,if_neg (by omega)];have hadd:(⟨g,off,none⟩:Addr).add k=⟨g,off+k,none⟩:=by unfold Addr.add;split<;>simp_all
 simp[hadd]
theorem bK.cut {w:World}{g off:Nat}{L:List UInt8}(h:bK w g off L)(k m:Nat):bK w g (off+k) ((L.drop k).take m):=by
 intro j hj;rw[List.length_take,List.length_drop]at hj
 rw[Nat.add_assoc,h (k+j) (by omega)];simp
theorem aIp:Lib.runeCells 65533=Lib.byteCells [239,191,189]:=by
 rw[←Lib.byteCells_encodeRune];have:Lib.encodeRune 65533=[239,191,189]:=by decide
 rw[this]
theorem kW (a b:List UInt8):Lib.byteCells a++Lib.byteCells b=Lib.byteCells (a++b):=by simp[Lib.byteCells]
theorem aE6 (l:List UInt8)(h:l≠[]):(lookU (aF l)).1≤l.length:=by
 have hc:∀need lo hi n (r:List Nat),(contU need lo hi n r).1≤n+r.length:=by
  intro need;induction need with
  | zero=>intro lo hi n r;simp[contU]
  | succ k ih =>
   intro lo hi n r;cases r with
   | nil=>simp[contU]
   | cons c r =>
    unfold contU;split
    ·simp
    ·have:=ih 0x80 0xbf (n+1) r;simp only[List.length_cons];omega
 have hl:(aF l).length=l.length:=by unfold aF;simp
 rw[←hl];cases hb:aF l with
 | nil=>exact absurd hb (lG h)
 | cons c r =>
  rw[look_cons];simp only[List.length_cons];repeat' split
  all_goals first
   | (have:=hc 1 0x80 0xbf 1 r;omega)
   | (have:=hc 2 0xa0 0xbf 1 r;omega)
   | (have:=hc 2 0x80 0x9f 1 r;omega)
   | (have:=hc 2 0x80 0xbf 1 r;omega)
   | (have:=hc 3 0x90 0xbf 1 r;omega)
   | (have:=hc 3 0x80 0xbf 1 r;omega)
   | (have:=hc 3 0x80 0x8f 1 r;omega)
   | (simp only;omega)
structure yW (L:List UInt8) (B k:Nat) (w wx:World) (o:List UInt8):Prop where
 le:k≤L.length
 bld:Lib.IsBuilderF 112 5 B B (Lib.byteCells o) wx
 bel:Below B w wx
 out:o++jZ (L.drop k)=jZ L
theorem yW.len {L:List UInt8}{B k:Nat}{w wx:World}{o:List UInt8}(h:yW L B k w wx o):o.length≤3*L.length:=by
 have:=congrArg List.length h.out;rw[List.length_append]at this
 have h2:=aAX L.length L (Nat.le_refl _);omega
theorem aFF (g off cap:Nat)(L:List UInt8)(hL:L.length≤1000000000)(hcap:L.length≤cap)(w:World)(hB:Hid (bK w g off L))(hg:g<w.heap.size) :
  Calls Tryz.prog 77 #[.slice (some ⟨g,off,none⟩) L.length cap] w fun e w'=>e=.returned (.string ⟨(jZ L).toArray⟩)∧Below w.heap.size w w':=by
 go_enter Tryz.func77,Tryz.ntmps77
 go_wp2
 go_loopw [4] (fun i wx=>∃k:Nat,i=.int .i64 k∧∃o,Hid (yW L w.heap.size k w wx o)) (fun i _=>L.length-(intOf i).toNat)
 case atStart =>
  refine⟨0,rfl,[],⟨Nat.zero_le _,?_,(Below.refl _ w).alloc (Nat.le_refl _) _,rfl⟩⟩;exact .inl ⟨Nat.le_refl _,.slice none 0 0,heap_alloc_new w _,World.ownsRowF_nil _ _ _ _,by simp[Value.ownBlock]⟩
 case round =>
  obtain⟨k,rfl,o,hD⟩:=hrel;have hk:=hD.out.le;rcases Nat.lt_or_ge k L.length with hlt|hge
  ·have hBr:Hid (bK wr g off L):=hB.out.below hD.out.bel hg;have hne:L.drop k≠[]:=by
    intro e;have:=congrArg List.length e;rw[List.length_drop]at this
    simp at this;omega
   have hst:=aCK (L.drop k) hne;have hpw:=qT (L.drop k) hne;cases hlk:lookU (aF (L.drop k))with
   | mk m t =>
   rw[hlk]at hst hpw
   simp only at hst hpw;have HLK:Hid (lookU (aF (L.drop k))=(m,t)):=hlk;have hol:=hD.out.len;cases t with
   | true =>
    obtain⟨_,hm1,hm2⟩:=hpw rfl;rw[List.length_drop]at hm2
    have hmax:max m 1=m:=by omega
    rw[if_pos rfl,hmax]at hst
    have HST:=hid hst;have hsl:=aDL g off cap k (k+m) L.length (by omega) (by omega) (by omega);have hkm:k+m-k=m:=by omega
    rw[hkm]at hsl
    rw[Int.natCast_add]at hsl
    clear hst hpw hlk hmax hne hkm;go_wp2_with fail
    refine(aC8 g off cap k m true L _ hBr hlt (by omega) HLK).mono ?_;rintro e w' ⟨rfl,rfl⟩;go_wp2_with fail
    refine(aMI w.heap.size w.heap.size (Lib.byteCells o) g (off+k) (cap-k) m ((L.drop k).take m) (by rw[List.length_take,List.length_drop];omega) _ hD.out.bld (hid (hBr.out.cut k m)) hg (by rw[iJ,List.length_take,List.length_drop];omega) hD.out.bel.size).mono ?_;rintro e w2 ⟨rfl,b1,b2,b3⟩;have HN:Hid (yW L w.heap.size (k+m) w w2 (o++(L.drop k).take m)):=by
     refine⟨by omega,.inr (by rw[←kW];exact b1),hD.out.bel.trans b2,?_⟩;have:=hD.out.out;rw[HST.out,List.drop_drop]at this
     rw[List.append_assoc];exact this
    clear b1 b2 b3;go_wp2
    refine⟨⟨k+m,by congr 1;omega,_,HN⟩,?_⟩;simp[intOf];omega
   | false =>
    rw[if_neg (by simp),List.drop_drop]at hst
    have HST:=hid hst;clear hst hpw hlk hne;go_wp2_with fail
    refine(aC8 g off cap k m false L _ hBr hlt (by omega) HLK).mono ?_;rintro e w' ⟨rfl,rfl⟩;go_wp2_with fail
    refine(Tryz.Builder_WriteRune_k w.heap.size w.heap.size (Lib.byteCells o) 65533 (by omega) (by omega) _ hD.out.bld (by rw[iJ];omega) hD.out.bel.size).mono ?_;rintro e w2 ⟨rfl,b1,b2,b3⟩;have HN:Hid (k+max m 1≤L.length→yW L w.heap.size (k+max m 1) w w2 (o++[239,191,189])):=by
     intro hle;refine⟨hle,.inr (by rw[←kW,←aIp];exact b1),hD.out.bel.trans b2,?_⟩;have:=hD.out.out;rw[HST.out]at this
     rw[List.append_assoc];exact this
    have hle:m≤L.length-k:=by
     have:=aE6 (L.drop k) (by intro e;have:=congrArg List.length e;rw[List.length_drop]at this;simp at this;omega);rw[HLK.out,List.length_drop]at this
     exact this
    clear b1 b2 b3;go_wp2
    refine⟨⟨k+max m 1,by congr 1;omega,_,HN.out (by omega)⟩,?_⟩;simp[intOf];omega
  ·have hE:o=jZ L:=by
    have:=hD.out.out;rw[List.drop_eq_nil_of_le (by omega),aAY,List.append_nil]at this
    exact this
   have HE:=hid hE;clear hE;go_wp2_with fail
   refine(Tryz.Builder_String_any_k w.heap.size w.heap.size o _ hD.out.bld hD.out.bel.size).mono ?_;rintro e w2 ⟨rfl,b1,b2,b3⟩;clear b1 b3;go_wp2
   go_ret;refine⟨?_,hD.out.bel.trans b2⟩;rw[HE.out];rfl
open PU8
theorem aDc (r:Nat)(h:Val r):aF (aQ r)=encN r:=by
 obtain⟨h1,h2⟩:=h;unfold aF aQ;rw[List.map_map];conv=>rhs;rw[←List.map_id (encN r)]
 apply List.map_congr_left;intro c hc;have hlt:c<256:=by
  unfold encN at hc;repeat' split at hc
  all_goals simp only[List.mem_cons,List.mem_nil_iff,or_false]at hc
  all_goals omega
 simp only[Function.comp];exact ofN c hlt
theorem wJ (a b:List UInt8):aF (a++b)=aF a++aF b:=by simp[aF]
theorem aCH (lo hi n c:Nat)(r:List Nat)(h:¬(c<lo∨hi<c)):contU 1 lo hi n (c :: r)=(n+1,true):=by
 unfold contU;rw[if_neg h];rfl
theorem sJ (lo hi n c d:Nat)(r:List Nat)(h:¬(c<lo∨hi<c))(h2:¬(d<0x80∨0xbf<d)):contU 2 lo hi n (c :: d :: r)=(n+2,true):=by
 unfold contU;rw[if_neg h,aCH _ _ _ _ _ h2]
theorem sI (lo hi n c d e:Nat)(r:List Nat)(h:¬(c<lo∨hi<c))(h2:¬(d<0x80∨0xbf<d))(h3:¬(e<0x80∨0xbf<e)):contU 3 lo hi n (c :: d :: e :: r)=(n+3,true):=by
 unfold contU;rw[if_neg h,sJ _ _ _ _ _ _ h2 h3]
theorem aJW (r:Nat)(h:Val r)(t:List Nat):lookU (encN r++t)=((encN r).length,true):=by
 obtain⟨h1,h2⟩:=h;by_cases a:r<0x80
 ·have e:encN r=[r]:=by unfold encN;rw[if_pos a]
  rw[e,List.singleton_append,look_cons,if_pos a];rfl
 ·by_cases b:r<0x800
  ·rw[enc_two r (by omega) b];simp only[List.cons_append,List.nil_append];rw[look_cons,if_neg (by omega),if_neg (by omega),if_pos (by omega),aCH _ _ _ _ _ (by omega)];rfl
  ·by_cases c:r<0x10000
   ·rw[enc_three r (by omega) c];simp only[List.cons_append,List.nil_append];rw[look_cons,if_neg (by omega),if_neg (by omega),if_neg (by omega)];by_cases d:r / 4096=0
    ·rw[if_pos (by omega),sJ _ _ _ _ _ _ (by omega) (by omega)];rfl
    ·rw[if_neg (by omega)];by_cases f:r / 4096=13
     ·rw[if_pos (by omega),sJ _ _ _ _ _ _ (by omega) (by omega)];rfl
     ·rw[if_neg (by omega),if_pos (by omega),sJ _ _ _ _ _ _ (by omega) (by omega)];rfl
   ·rw[enc_four r (by omega)];simp only[List.cons_append,List.nil_append];rw[look_cons,if_neg (by omega),if_neg (by omega),if_neg (by omega),if_neg (by omega),if_neg (by omega),if_neg (by omega)];by_cases d:r / 262144=0
    ·rw[if_pos (by omega),sI _ _ _ _ _ _ _ (by omega) (by omega) (by omega)];rfl
    ·rw[if_neg (by omega)];by_cases f:r / 262144<4
     ·rw[if_pos (by omega),sI _ _ _ _ _ _ _ (by omega) (by omega) (by omega)];rfl
     ·rw[if_neg (by omega),if_pos (by omega),sI _ _ _ _ _ _ _ (by omega) (by omega) (by omega)];rfl
theorem aLm (r v:Nat)(h:encN r=encN v):r=v:=by
 unfold encN at h;repeat' split at h
 all_goals simp only[List.cons.injEq,and_true,reduceCtorEq,and_false]at h
 all_goals omega
theorem aH4 (r:Nat)(h:Val r)(t:List UInt8):(pieceU (aF (aQ r++t))).2.1=r∧(pieceU (aF (aQ r++t))).1=(aQ r).length:=by
 have hl:lookU (aF (aQ r++t))=((encN r).length,true):=by
  rw[wJ,aDc r h];exact aJW r h _
 have s:=sameU (aF (aQ r++t)) (lG (zL r t));have hn:=s.num;rw[hl]at hn
 have h1:=(oS r).1;have e1:(aQ r).length=(encN r).length:=by unfold aQ;simp
 have hn':(pieceU (aF (aQ r++t))).1=(aQ r).length:=by
  rw[hn,e1];simp only;omega
 refine⟨?_,hn'⟩;have hv:=(s.val (by rw[hl])).1;have ht:(aF (aQ r++t)).take (encN r).length=encN r:=by
  rw[wJ,aDc r h,List.take_left]
 rw[hn',e1,ht]at hv
 exact aLm _ _ hv
theorem aIq (rs:List Nat)(h:∀r∈rs,Val r):dY (rs.flatMap aQ)=rs:=by
 induction rs with
 | nil=>rfl
 | cons r rs ih =>
  have hr:=h r (List.mem_cons_self ..);rw[List.flatMap_cons,mH _ (zL r _)];obtain⟨e1,e2⟩:=aH4 r hr (rs.flatMap aQ);rw[e1,e2,List.drop_left,ih fun x hx=>h x (List.mem_cons_of_mem _ hx)]
def jP (l:List UInt8):Prop:=∃rs:List Nat,l=rs.flatMap aQ∧∀r∈rs,Val r∧dU r=true
theorem vB (l:List UInt8):jP (bT l) :=
 ⟨_,rfl,fun r hr=>by
  obtain⟨h1,h2⟩:=List.mem_filter.1 hr;exact⟨qC l.length l (Nat.le_refl _) r h1,h2⟩⟩
theorem qH {l:List UInt8}(h:jP l):bT l=l:=by
 obtain⟨rs,rfl,hrs⟩:=h;unfold bT;rw[aIq rs fun r hr=>(hrs r hr).1,List.filter_eq_self.2 fun r hr=>(hrs r hr).2]
theorem aIJ (l:List UInt8):bT (bT l)=bT l:=qH (vB l)
theorem pA (r:Nat)(h:r<128):aQ r=[UInt8.ofNat r]:=by unfold aQ encN;rw[if_pos (by omega)];rfl
theorem xI (r:Nat)(h:128≤r)(h2:r≤0x10ffff):∀b∈aQ r,128≤b.toNat:=by
 intro b hb;unfold aQ at hb;obtain⟨c,hc,rfl⟩:=List.mem_map.1 hb;unfold encN at hc;rw[if_neg (by omega)]at hc
 repeat' split at hc
 all_goals simp only[List.mem_cons,List.mem_nil_iff,or_false]at hc
 all_goals (rw[ofN c (by omega)];omega)
theorem zQ (c:Nat)(hc:c<128)(rs:List Nat)(h:∀r∈rs,Val r):(rs.flatMap aQ).filter (fun b=>b !=UInt8.ofNat c)=(rs.filter (fun r=>r !=c)).flatMap aQ:=by
 induction rs with
 | nil=>rfl
 | cons r rs ih =>
  have hr:=h r (List.mem_cons_self ..);rw[List.flatMap_cons,List.filter_append,ih fun x hx=>h x (List.mem_cons_of_mem _ hx)];by_cases hl:r<128
  ·rw[pA r hl];by_cases e:r=c
   ·subst e;rw[List.filter_cons_of_neg (by simp),List.filter_cons_of_neg (by simp)];rfl
   ·have hne:UInt8.ofNat r≠UInt8.ofNat c:=by
     intro e2;have:=congrArg UInt8.toNat e2;rw[ofN r (by omega),ofN c (by omega)]at this
     exact e this
    rw[List.filter_cons_of_pos (by simpa using hne),List.filter_cons_of_pos (by simpa using e),List.flatMap_cons,pA r hl];rfl
  ·have hkeep:(aQ r).filter (fun b=>b !=UInt8.ofNat c)=aQ r:=by
    rw[List.filter_eq_self];intro b hb;have:=xI r (by omega) hr.2 b hb;simp only[bne_iff_ne,ne_eq];intro e2;rw[e2,ofN c (by omega)]at this
    omega
   rw[hkeep,List.filter_cons_of_pos (by simp;omega),List.flatMap_cons]
theorem aJI (r c:Nat)(hc:c<128)(h:Val r)(hne:r≠c)(t:List UInt8):∀b,(aQ r++t).head?=some b→b≠UInt8.ofNat c:=by
 intro b hb e;have hm:b∈aQ r:=by
  cases he:aQ r with
  | nil=>have:=(oS r).1;rw[he]at this;simp at this
  | cons x l=>rw[he]at hb;simp at hb;subst hb;exact List.mem_cons_self ..
 by_cases hl:r<128
 ·rw[pA r hl]at hm
  simp at hm;rw[hm]at e
  have:=congrArg UInt8.toNat e;rw[ofN r (by omega),ofN c (by omega)]at this
  exact hne this
 ·have:=xI r (by omega) h.2 b hm;rw[e,ofN c (by omega)]at this
  omega
theorem aB0 (c:Nat)(hc:c<128)(rs:List Nat)(h:∀r∈rs,Val r):(rs.flatMap aQ).dropWhile (· == UInt8.ofNat c)=(rs.dropWhile (· == c)).flatMap aQ:=by
 induction rs with
 | nil=>rfl
 | cons r rs ih =>
  have hr:=h r (List.mem_cons_self ..);by_cases e:r=c
  ·subst e;rw[List.flatMap_cons,pA r hc,List.singleton_append,List.dropWhile_cons_of_pos (by simp),List.dropWhile_cons_of_pos (by simp)];exact ih fun x hx=>h x (List.mem_cons_of_mem _ hx)
  ·rw[List.dropWhile_cons_of_neg (by simpa using e),List.flatMap_cons];have hh:=aJI r c hc hr e (rs.flatMap aQ);cases hl:aQ r++rs.flatMap aQ with
   | nil=>exact absurd hl (zL r _)
   | cons b l =>
    rw[hl]at hh
    rw[List.dropWhile_cons_of_neg];simpa using hh b rfl
theorem yP {l:List UInt8}(h:jP l):jP (Lib.trimLeftB l 32):=by
 obtain⟨rs,rfl,hrs⟩:=h;refine⟨rs.dropWhile (· == 32),aB0 32 (by omega) rs fun r hr=>(hrs r hr).1,fun r hr=>hrs r ?_⟩;exact(List.dropWhile_sublist _).subset hr
theorem fK (l:List UInt8)(b c:UInt8):Lib.trimRightB (l++[b]) c=if b=c then Lib.trimRightB l c else l++[b]:=by
 unfold Lib.trimRightB;rw[List.reverse_append];simp only[List.reverse_cons,List.reverse_nil,List.nil_append,List.singleton_append];by_cases h:b=c
 ·rw[if_pos h,List.dropWhile_cons_of_pos (by simpa using h)]
 ·rw[if_neg h,List.dropWhile_cons_of_neg (by simpa using h)];simp
theorem aBm (l m:List UInt8)(c:UInt8)(hm:m≠[])(h:∀b∈m,b≠c):Lib.trimRightB (l++m) c=l++m:=by
 obtain⟨m',b,rfl⟩:∃m' b,m=m'++[b]:=⟨m.dropLast,m.getLast hm,(List.dropLast_concat_getLast hm).symm⟩
 rw[←List.append_assoc,fK,if_neg (h b (by simp))]
theorem aBN {α : Type}{P:List α → Prop}(h0:P [])(h1:∀l x,P l→P (l++[x]))(l:List α):P l:=by
 have:∀n (l:List α),l.length=n→P l:=by
  intro n;induction n with
  | zero =>
   intro l hl;have:=List.eq_nil_of_length_eq_zero hl;subst this;exact h0
  | succ n ih =>
   intro l hl;have hne:l≠[]:=by intro e;subst e;simp at hl
   rw[←List.dropLast_concat_getLast hne];exact h1 _ _ (ih _ (by rw[List.length_dropLast];omega))
 exact this l.length l rfl
theorem wA {l:List UInt8}(h:jP l):jP (Lib.trimRightB l 32):=by
 obtain⟨rs,rfl,hrs⟩:=h;revert hrs;refine aBN (P:=fun rs=>(∀r∈rs,Val r∧dU r=true)→jP (Lib.trimRightB (rs.flatMap aQ) 32)) ?_ ?_ rs
 ·intro _;exact⟨[],rfl,fun r hr=>by cases hr⟩
 ·intro rs r ih hrs;have hr:=hrs r (by simp);have hrs':∀x∈rs,Val x∧dU x=true:=fun x hx=>hrs x (by simp[hx])
  rw[List.flatMap_append,List.flatMap_singleton];by_cases e:r=32
  ·subst e;have e32:aQ 32=[32]:=by decide
   rw[e32,fK,if_pos rfl];exact ih hrs'
  ·rw[aBm _ _ 32 (by intro h0;have:=(oS r).1;rw[h0]at this;simp at this)]
   ·refine⟨rs++[r],by rw[List.flatMap_append,List.flatMap_singleton],hrs⟩
   ·intro b hb e2;by_cases hl:r<128
    ·rw[pA r hl]at hb
     simp at hb;rw[hb]at e2
     have:=congrArg UInt8.toNat e2;rw[ofN r (by omega)]at this
     exact e this
    ·have:=xI r (by omega) hr.1.2 b hb;rw[e2]at this
     exact absurd this (by decide)
theorem aCC (l:List UInt8):jP (dC l):=by
 obtain⟨rs,e,hrs⟩:=vB l;unfold dC;rw[e];have h9:=zQ 9 (by omega) rs fun r hr=>(hrs r hr).1
 have e9:UInt8.ofNat 9=9:=rfl;rw[e9]at h9
 rw[h9];have h10:=zQ 10 (by omega) (rs.filter (fun r=>r !=9)) fun r hr=>(hrs r (List.mem_filter.1 hr).1).1
 have e10:UInt8.ofNat 10=10:=rfl;rw[e10]at h10
 rw[h10];exact⟨_,rfl,fun r hr=>hrs r (List.mem_filter.1 (List.mem_filter.1 hr).1).1⟩
theorem aC7 (l:List UInt8):jP (aZ l):=by
 unfold aZ Lib.trimB;exact yP (wA (aCC l))
theorem aII (l:List UInt8):bT (aZ l)=aZ l:=qH (aC7 l)
theorem aBQ (l:List UInt8)(c:UInt8):(Lib.trimB l c).Sublist l:=by
 unfold Lib.trimB Lib.trimLeftB Lib.trimRightB;refine(List.dropWhile_sublist _).trans ?_;have:=(List.dropWhile_sublist (fun x=>x==c) (l:=l.reverse)).reverse;rwa[List.reverse_reverse]at this
theorem aJU (l:List UInt8):(aZ l).Sublist (bT l):=by
 unfold aZ;refine(aBQ _ _).trans ?_;unfold dC;exact(List.filter_sublist).trans List.filter_sublist
theorem aBl (l:List UInt8)(c:UInt8):Lib.trimRightB (Lib.trimRightB l c) c=Lib.trimRightB l c:=by
 refine aBN (P:=fun l=>Lib.trimRightB (Lib.trimRightB l c) c=Lib.trimRightB l c) rfl ?_ l;intro l b ih;rw[fK];by_cases h:b=c
 ·rw[if_pos h];exact ih
 ·rw[if_neg h,fK,if_neg h]
theorem aCf (l:List UInt8)(c:UInt8):Lib.trimLeftB (Lib.trimLeftB l c) c=Lib.trimLeftB l c:=by
 unfold Lib.trimLeftB;induction l with
 | nil=>rfl
 | cons b l ih =>
  by_cases h:b=c
  ·rw[List.dropWhile_cons_of_pos (by simpa using h)];exact ih
  ·rw[List.dropWhile_cons_of_neg (by simpa using h),List.dropWhile_cons_of_neg (by simpa using h)]
theorem aBn (l:List UInt8)(c:UInt8)(h:Lib.trimRightB l c=l):Lib.trimRightB (Lib.trimLeftB l c) c=Lib.trimLeftB l c:=by
 unfold Lib.trimLeftB;induction l with
 | nil=>rfl
 | cons b l ih =>
  by_cases hb:b=c
  ·rw[List.dropWhile_cons_of_pos (by simpa using hb)];apply ih;by_cases hl:l=[]
   ·subst hl;rfl
   ·obtain⟨m,x,rfl⟩:∃m x,l=m++[x]:=⟨l.dropLast,l.getLast hl,(List.dropLast_concat_getLast hl).symm⟩
    rw[←List.cons_append,fK]at h
    by_cases hx:x=c
    ·rw[if_pos hx]at h
     have hle:(Lib.trimRightB (b :: m) c).length≤(b :: m).length:=by
      unfold Lib.trimRightB;rw[List.length_reverse];exact Nat.le_trans (List.dropWhile_sublist _).length_le (by simp)
     rw[h]at hle
     simp at hle;omega
    ·rw[fK,if_neg hx]
  ·rw[List.dropWhile_cons_of_neg (by simpa using hb)];exact h
theorem aGs (l:List UInt8)(c:UInt8):Lib.trimB (Lib.trimB l c) c=Lib.trimB l c:=by
 unfold Lib.trimB;rw[aBn _ _ (aBl l c),aCf]
theorem uI (l:List UInt8):aZ (aZ l)=aZ l:=by
 have h:dC (aZ l)=aZ l:=by
  rw[mZ,aII,List.filter_eq_self];intro b hb;have hm:b∈dC l:=(aBQ _ _).subset hb;rw[mZ]at hm
  exact(List.mem_filter.1 hm).2
 show Lib.trimB (dC (aZ l)) 32=aZ l;rw[h];exact aGs _ _
open Go.RowKit PU8
theorem aMq (c:Nat)(h:c<128):PU8.size c=(1,c):=by unfold PU8.size;rw[if_pos h]
theorem aMp (c:Nat)(h:128≤c)(h2:c<192):PU8.size c=(0,0):=by unfold PU8.size;rw[if_neg (by omega),if_neg (by omega),if_neg (by omega),if_neg (by omega)]
theorem aMr (c:Nat)(h:192≤c)(h2:c<224):PU8.size c=(2,c-192):=by unfold PU8.size;rw[if_neg (by omega),if_pos (by omega)]
theorem aMs (c:Nat)(h:224≤c)(h2:c<240):PU8.size c=(3,c-224):=by unfold PU8.size;rw[if_neg (by omega),if_neg (by omega),if_pos (by omega)]
theorem aMt (c:Nat)(h:240≤c)(h2:c<248):PU8.size c=(4,c-240):=by unfold PU8.size;rw[if_neg (by omega),if_neg (by omega),if_neg (by omega),if_pos (by omega)]
theorem aMu (c:Nat)(h:248≤c):PU8.size c=(0,0):=by unfold PU8.size;rw[if_neg (by omega),if_neg (by omega),if_neg (by omega),if_neg (by omega)]
theorem rR {a b c d:Int}(h:a=c)(h2:b=d):Ending.returned (.tuple #[.int .i64 a,.int .i64 b])=.returned (.tuple #[.int .i64 c,.int .i64 d]):=by rw[h,h2]
theorem aNC {a b:Bool}(h:a=b):Ending.returned (.bool a)=.returned (.bool b):=by rw[h]
theorem aMf {a b:Int}(h:a=b):Ending.returned (.int .i64 a)=.returned (.int .i64 b):=by rw[h]
theorem qB (c:UInt8)(n v:Nat)(w:World)(hs:Hid (PU8.size c.toNat=(n,v))) :
  Calls Tryz.prog 180 #[.int .u8 c.toNat] w fun e w'=>e=.returned (.tuple #[.int .i64 n,.int .i64 v])∧w=w':=by
 have hc:c.toNat<256:=c.toNat_lt;generalize c.toNat=c at hs hc;have hcases:c<128∨(128≤c∧c<192)∨(192≤c∧c<224)∨(224≤c∧c<240)∨(240≤c∧c<248)∨248≤c:=by omega
 rcases hcases with h|⟨h,h2⟩|⟨h,h2⟩|⟨h,h2⟩|⟨h,h2⟩|h
 ·have hb:=aMq c h;rw[hs.out]at hb
  obtain⟨rfl,rfl⟩:=Prod.mk.inj hb;clear hb;go_enter Tryz.func180,Tryz.ntmps180
  go_wp2
  go_ret2;exact⟨rR (by omega) (by omega),rfl⟩
 ·have hb:=aMp c h h2;rw[hs.out]at hb
  obtain⟨rfl,rfl⟩:=Prod.mk.inj hb;clear hb;go_enter Tryz.func180,Tryz.ntmps180
  go_wp2
  go_ret2;exact⟨rR (by omega) (by omega),rfl⟩
 ·have hb:=aMr c h h2;rw[hs.out]at hb
  obtain⟨rfl,rfl⟩:=Prod.mk.inj hb;clear hb;go_enter Tryz.func180,Tryz.ntmps180
  go_wp2
  go_ret2;exact⟨rR (by omega) (by omega),rfl⟩
 ·have hb:=aMs c h h2;rw[hs.out]at hb
  obtain⟨rfl,rfl⟩:=Prod.mk.inj hb;clear hb;go_enter Tryz.func180,Tryz.ntmps180
  go_wp2
  go_ret2;exact⟨rR (by omega) (by omega),rfl⟩
 ·have hb:=aMt c h h2;rw[hs.out]at hb
  obtain⟨rfl,rfl⟩:=Prod.mk.inj hb;clear hb;go_enter Tryz.func180,Tryz.ntmps180
  go_wp2
  go_ret2;exact⟨rR (by omega) (by omega),rfl⟩
 ·have hb:=aMu c h;rw[hs.out]at hb
  obtain⟨rfl,rfl⟩:=Prod.mk.inj hb;clear hb;go_enter Tryz.func180,Tryz.ntmps180
  go_wp2
  go_ret2;exact⟨rR (by omega) (by omega),rfl⟩
theorem aGb (n:Nat)(hn:n≤4)(w:World):Calls Tryz.prog 181 #[.int .i64 n] w fun e w'=>e=.returned (.int .i64 (PU8.least n:Nat))∧w=w':=by
 have hcases:n=0∨n=1∨n=2∨n=3∨n=4:=by omega
 have hl0:PU8.least 0=0:=rfl;have hl1:PU8.least 1=0:=rfl;have hl2:PU8.least 2=128:=rfl;have hl3:PU8.least 3=2048:=rfl;have hl4:PU8.least 4=65536:=rfl;rcases hcases with rfl|rfl|rfl|rfl|rfl
 all_goals
  simp only[hl0,hl1,hl2,hl3,hl4];clear hl0 hl1 hl2 hl3 hl4;go_enter Tryz.func181,Tryz.ntmps181
  go_wp2
  go_ret;exact⟨aMf (by simp),rfl⟩
theorem aIe (c:Nat)(h:Val c)(w:World):Calls Tryz.prog 131 #[.int .i64 c] w fun e w'=>e=.returned (.bool true)∧w=w':=by
 obtain⟨h1,h2⟩:=h;rcases h1 with h1|h1
 ·go_enter Tryz.func131,Tryz.ntmps131
  go_wp2
  go_ret;exact⟨rfl,rfl⟩
 ·go_enter Tryz.func131,Tryz.ntmps131
  go_wp2
  go_ret;exact⟨aNC (by simp;omega),rfl⟩
open Go.RowKit PU8
structure jN (L:List UInt8) (i k v0 j v:Nat):Prop where
 lo:1≤j
 hi:j≤k
 bd:v<256*64^(j-1)
 out:PU8.follow (k-1) v0 (aF (L.drop (i+1)))=PU8.follow (k-j) v (aF (L.drop (i+j)))
theorem aNB (j:Nat)(h1:1≤j)(h:j≤4):256*64^(j-1)≤67108864:=by
 have:j=1∨j=2∨j=3∨j=4:=by omega
 rcases this with rfl|rfl|rfl|rfl<;>decide
theorem jN.le {L:List UInt8}{i k v0 j v:Nat}(h:jN L i k v0 j v)(hk:k≤4):v<67108864:=by
 have h1:=h.bd;have h2:=aNB j h.lo (by have:=h.hi;omega);omega
theorem jN.start (L:List UInt8)(i k v0:Nat)(hk:1≤k)(hv:v0<256):jN L i k v0 1 v0:=⟨Nat.le_refl _,hk,by simpa using hv,rfl⟩
theorem vT (L:List UInt8)(i:Nat)(h:i<L.length):aF (L.drop i)=L[i].toNat :: aF (L.drop (i+1)):=by
 rw[List.drop_eq_getElem_cons h];rfl
theorem jN.next {L:List UInt8}{i k v0 j v:Nat}(h:jN L i k v0 j v)(hj:j<k)(hl:i+j<L.length)(c:Nat)(hc:L[i+j].toNat=c)(h1:128≤c)(h2:c≤191):jN L i k v0 (j+1) (v*64+c-128):=by
 refine⟨by omega,by omega,?_,?_⟩
 ·have hb:=h.bd;have hlo:=h.lo;have:64^(j+1-1)=64^(j-1)*64:=by rw[←Nat.pow_succ];congr 1;omega
  rw[this];omega
 ·rw[h.out,vT L (i+j) hl,hc,show k-j=(k-(j+1))+1 from by omega];conv=>lhs;unfold PU8.follow
  rw[if_neg (by omega),Nat.add_assoc]
theorem jN.none {L:List UInt8}{i k v0 j v:Nat}(h:jN L i k v0 j v)(hj:j<k)(hl:i+j<L.length)(c:Nat)(hc:L[i+j].toNat=c)(h1:c<128∨191<c):PU8.follow (k-1) v0 (aF (L.drop (i+1)))=.none:=by
 rw[h.out,vT L (i+j) hl,hc,show k-j=(k-(j+1))+1 from by omega];unfold PU8.follow;rw[if_pos (by omega)]
theorem jN.done {L:List UInt8}{i k v0 j v:Nat}(h:jN L i k v0 j v)(hj:k≤j):PU8.follow (k-1) v0 (aF (L.drop (i+1)))=some v:=by
 rw[h.out,show k-j=0 from by omega];rfl
structure lS (n k v j lo hi:Nat):Prop where
 le1:k≤j
 le2:j≤n
 bl:lo<67108864*64^(j-k)
 bh:hi<67108864*64^(j-k)
 out:PU8.widen (n-k) v v=PU8.widen (n-j) lo hi
theorem aMD (j:Nat)(h:j≤3):67108864*64^j≤17592186044416:=by
 have:j=0∨j=1∨j=2∨j=3:=by omega
 rcases this with rfl|rfl|rfl|rfl<;>decide
theorem lS.le {n k v j lo hi:Nat}(h:lS n k v j lo hi)(hk:1≤k)(hn:n≤4):lo<17592186044416∧hi<17592186044416:=by
 have h1:=h.bl;have h3:=h.bh;have h2:=aMD (j-k) (by have:=h.le1;have:=h.le2;omega);omega
theorem lS.start (n k v:Nat)(hk:k≤n)(hv:v<67108864):lS n k v k v v:=⟨Nat.le_refl _,hk,by simpa using hv,by simpa using hv,rfl⟩
theorem lS.next {n k v j lo hi:Nat}(h:lS n k v j lo hi)(hj:j<n):lS n k v (j+1) (lo*64) (hi*64+63):=by
 have h1:=h.le1;have hp:64^(j+1-k)=64^(j-k)*64:=by rw[←Nat.pow_succ];congr 1;omega
 have hb:=h.bl;have hh:=h.bh;refine⟨by omega,by omega,by rw[hp];omega,by rw[hp];omega,?_⟩;rw[h.out,show n-j=(n-(j+1))+1 from by omega];rfl
theorem lS.done {n k v j lo hi:Nat}(h:lS n k v j lo hi)(hj:n≤j):PU8.widen (n-k) v v=(lo,hi):=by
 rw[h.out,show n-j=0 from by omega];rfl
end Go.Proofs.YtcfgbdhpcboikaaGreatDoor
