/-
utf8.look: what it answers of the bytes at a place (printed by wip/gen/lookw.py).
-/
import Derived.Test.YtcfgbdhpcboikaaGreatDoorAttrL
namespace Go.Proofs.YtcfgbdhpcboikaaGreatDoor
open Go.Lib (hid)
set_option maxHeartbeats 8000000
set_option maxRecDepth 100000
open Go.RowKit PU8
def bP (w:World)(g off:Nat)(L:List UInt8):Prop:=∀j (h:j<L.length),w.cell? ⟨g,off+j,none⟩=some (.int .u8 (L[j].toNat:Nat))
theorem vN (L:List UInt8)(k:Nat)(h:k<L.length):aO (L.drop k)=L[k].toNat :: aO (L.drop (k+1)):=by
 rw[List.drop_eq_getElem_cons h];rfl
theorem aJx (L:List UInt8)(k:Nat)(h:L.length≤k):aO (L.drop k)=[]:=by
 rw[List.drop_eq_nil_of_le h];rfl
def iA (L:List UInt8)(i need m:Nat)(t:Bool)(n lo hi:Nat):Prop :=
 1≤n∧n≤need+1∧i+n≤L.length∧contU (need+1-n) lo hi n (aO (L.drop (i+n)))=(m,t)
theorem iA.stop {L:List UInt8}{i need m:Nat}{t:Bool}{n lo hi:Nat}(h:iA L i need m t n lo hi)(hn:n=need+1):m=n∧t=true:=by
 obtain⟨_,_,_,h⟩:=h;rw[hn,Nat.sub_self]at h
 unfold contU at h;cases h;exact⟨hn.symm,rfl⟩
theorem iA.short {L:List UInt8}{i need m:Nat}{t:Bool}{n lo hi:Nat}(h:iA L i need m t n lo hi)(hn:n≤need)(he:i+n=L.length):m=n∧t=false:=by
 obtain⟨_,_,_,h⟩:=h;obtain⟨k,hk⟩:∃k,need+1-n=k+1:=⟨need-n,by omega⟩
 rw[hk,aJx _ _ (by omega)]at h
 unfold contU at h;cases h;exact⟨rfl,rfl⟩
theorem iA.bad {L:List UInt8}{i need m:Nat}{t:Bool}{n lo hi:Nat}(h:iA L i need m t n lo hi)(hn:n≤need)(he:i+n<L.length)(hb:L[i+n].toNat<lo∨hi<L[i+n].toNat):m=n∧t=false:=by
 obtain⟨_,_,_,h⟩:=h;obtain⟨k,hk⟩:∃k,need+1-n=k+1:=⟨need-n,by omega⟩
 rw[hk,vN _ _ he]at h
 unfold contU at h;rw[if_pos hb]at h
 cases h;exact⟨rfl,rfl⟩
theorem iA.next {L:List UInt8}{i need m:Nat}{t:Bool}{n lo hi:Nat}(h:iA L i need m t n lo hi)(hn:n≤need)(he:i+n<L.length)(hb:¬(L[i+n].toNat<lo∨hi<L[i+n].toNat)):iA L i need m t (n+1) 128 191:=by
 obtain⟨h1,_,_,h⟩:=h;obtain⟨k,hk⟩:∃k,need+1-n=k+1:=⟨need-n,by omega⟩
 rw[hk,vN _ _ he]at h
 unfold contU at h;rw[if_neg hb]at h
 refine⟨by omega,by omega,by omega,?_⟩;rw[show need+1-(n+1)=k by omega];exact h
theorem kT (g off cap i m c N l0 h0:Nat)(t:Bool)(L:List UInt8)(w:World)(hB:Hid (bP w g off L))(hi:i<L.length)(hL:L.length≤140737488355328)(hc:w.cell? ⟨g,off+i,none⟩=some (.int .u8 (c:Nat)))(h0c:194≤c)
  (hcc:c<224∧N=1∧l0=128∧h0=191∨c=224∧N=2∧l0=160∧h0=191∨c=237∧N=2∧l0=128∧h0=159∨(225≤c∧c<240∧c≠237)∧N=2∧l0=128∧h0=191∨c=240∧N=3∧l0=144∧h0=191∨(241≤c∧c<244)∧N=3∧l0=128∧h0=191∨c=244∧N=3∧l0=128∧h0=143)
  (hR:Hid (iA L i N m t 1 l0 h0)):Calls Tryz.prog 129 #[.slice (some ⟨g,off,none⟩) L.length cap,.int .i64 i] w fun e w'=>e=.returned (.tuple #[.int .i64 m,.bool t])∧w=w':=by
 have l128:decide ((c:Int)<128)=false:=by simp;omega
 have l194:decide ((c:Int)<194)=false:=by simp;omega
 rcases hcc with⟨hc2,hN,rfl,rfl⟩|⟨hc2,hN,rfl,rfl⟩|⟨hc2,hN,rfl,rfl⟩|⟨hc2,hN,rfl,rfl⟩|⟨hc2,hN,rfl,rfl⟩|⟨hc2,hN,rfl,rfl⟩|⟨hc2,hN,rfl,rfl⟩
 all_goals (first|have f224:decide ((c:Int)<224)=true:=(by simp;omega)|have f224:decide ((c:Int)<224)=false:=(by simp;omega)|skip)
 all_goals (first|have f240:decide ((c:Int)<240)=true:=(by simp;omega)|have f240:decide ((c:Int)<240)=false:=(by simp;omega)|skip)
 all_goals (first|have f244:decide ((c:Int)<244)=true:=(by simp;omega)|have f244:decide ((c:Int)<244)=false:=(by simp;omega)|skip)
 all_goals (first|have f224q:((c:Int)==224)=true:=(by simp;omega)|have f224q:((c:Int)==224)=false:=(by simp;omega)|skip)
 all_goals (first|have f237q:((c:Int)==237)=true:=(by simp;omega)|have f237q:((c:Int)==237)=false:=(by simp;omega)|skip)
 all_goals (first|have f240q:((c:Int)==240)=true:=(by simp;omega)|have f240q:((c:Int)==240)=false:=(by simp;omega)|skip)
 all_goals (first|have f244q:((c:Int)==244)=true:=(by simp;omega)|have f244q:((c:Int)==244)=false:=(by simp;omega)|skip)
 all_goals (have HN:=hid hN)
 all_goals (have HCC:=hid hc2)
 all_goals clear hN hc2
 all_goals (go_enter Tryz.func129,Tryz.ntmps129)
 all_goals go_wp2
 all_goals clear hc l128 l194
 all_goals ((try clear f224);(try clear f240);(try clear f244);(try clear f224q);(try clear f237q);(try clear f240q);(try clear f244q))
 all_goals (
  go_loop [4,5,8,9,10] (fun r4 r5 l h n=>r4=.int .i64 0∧r5=.bool false∧∃n' lo hi:Nat,n=.int .i64 n'∧l=.int .u8 lo∧h=.int .u8 hi∧Hid (iA L i N m t n' lo hi)) (fun _ _ _ _ n=>N+1-(intOf n).toNat)
  case atStart=>exact⟨rfl,rfl,1,_,_,rfl,rfl,rfl,hR⟩
  case round =>
   obtain⟨rfl,rfl,n,lo,hi',rfl,rfl,rfl,hQ⟩:=hrel;have n1:1≤n:=hQ.out.1;have n2:n≤3+1:=by have h1:=hQ.out.2.1;have h2:=HN.out;omega
   have n3:i+n≤L.length:=hQ.out.2.2.1;rcases Nat.lt_or_ge N n with hn|hn
   ·have hE:=hQ.out.stop (by have h1:=hQ.out.2.1;omega);have HE:=hid hE;clear hE;rw[HN.out]at hn
    go_wp2
    go_ret2;refine⟨?_,rfl⟩;rw[HE.out.1,HE.out.2];rfl
   ·rcases Nat.lt_or_ge (i+n) L.length with hlt|hge
    ·have hcell:=hB.out (i+n) hlt;by_cases hbad:L[i+n].toNat<lo∨hi'<L[i+n].toNat
     ·have HE:=hid (hQ.out.bad hn hlt hbad);rw[HN.out]at hn
      have HQ2:=hid hbad;generalize L[i+n].toNat=d at hcell hbad;have hne:((i:Int)+(n:Int)==(L.length:Int))=false:=by rw[beq_eq_false_iff_ne];omega
      rcases Nat.lt_or_ge d lo with hd|hd
      ·clear hbad HQ2;go_wp2
       go_ret2;refine⟨?_,rfl⟩;rw[HE.out.1,HE.out.2];rfl
      ·have hd2:hi'<d:=by omega
       clear hbad HQ2;go_wp2
       go_ret2;refine⟨?_,rfl⟩;rw[HE.out.1,HE.out.2];rfl
     ·have HE:=hid (hQ.out.next hn hlt hbad);rw[HN.out]at hn
      generalize L[i+n].toNat=d at hcell hbad;have hne:((i:Int)+(n:Int)==(L.length:Int))=false:=by rw[beq_eq_false_iff_ne];omega
      have hd1:lo≤d:=by omega
      have hd2:d≤hi':=by omega
      clear hbad;go_wp2
      go_round
      case rel=>exact⟨rfl,rfl,n+1,128,191,by go_num,rfl,rfl,HE⟩
      case measure=>have h2:=HN.out;simp[intOf];omega
    ·have he:i+n=L.length:=by omega
     have HE:=hid (hQ.out.short hn he);rw[HN.out]at hn
     have heq:((i:Int)+(n:Int)==(L.length:Int))=true:=by rw[beq_iff_eq];omega
     clear he;go_wp2
     go_ret2;refine⟨?_,rfl⟩;rw[HE.out.1,HE.out.2];rfl)
open Go.RowKit PU8
theorem aLQ (g off cap i c:Nat)(L:List UInt8)(w:World)(hi:i<L.length)(_hL:L.length≤140737488355328)(hc:w.cell? ⟨g,off+i,none⟩=some (.int .u8 (c:Nat)))(hcc:c<128) :
  Calls Tryz.prog 129 #[.slice (some ⟨g,off,none⟩) L.length cap,.int .i64 i] w fun e w'=>e=.returned (.tuple #[.int .i64 1,.bool true])∧w=w':=by
 have l128:decide ((c:Int)<128)=true:=by simp;omega
 have HCC:=hid hcc;clear hcc;go_enter Tryz.func129,Tryz.ntmps129
 go_wp2
 go_ret2;exact⟨rfl,rfl⟩
theorem aJt (g off cap i c:Nat)(L:List UInt8)(w:World)(hi:i<L.length)(_hL:L.length≤140737488355328)(hc:w.cell? ⟨g,off+i,none⟩=some (.int .u8 (c:Nat)))(hcc:128≤c∧c<194) :
  Calls Tryz.prog 129 #[.slice (some ⟨g,off,none⟩) L.length cap,.int .i64 i] w fun e w'=>e=.returned (.tuple #[.int .i64 0,.bool false])∧w=w':=by
 have l128:decide ((c:Int)<128)=false:=by simp;omega
 have l194:decide ((c:Int)<194)=true:=by simp;omega
 have HCC:=hid hcc;clear hcc;go_enter Tryz.func129,Tryz.ntmps129
 go_wp2
 go_ret2;exact⟨rfl,rfl⟩
theorem aJs (g off cap i c:Nat)(L:List UInt8)(w:World)(hi:i<L.length)(_hL:L.length≤140737488355328)(hc:w.cell? ⟨g,off+i,none⟩=some (.int .u8 (c:Nat)))(hcc:244<c) :
  Calls Tryz.prog 129 #[.slice (some ⟨g,off,none⟩) L.length cap,.int .i64 i] w fun e w'=>e=.returned (.tuple #[.int .i64 0,.bool false])∧w=w':=by
 have l128:decide ((c:Int)<128)=false:=by simp;omega
 have l194:decide ((c:Int)<194)=false:=by simp;omega
 have l224:decide ((c:Int)<224)=false:=by simp;omega
 have l240:decide ((c:Int)<240)=false:=by simp;omega
 have l244:decide ((c:Int)<244)=false:=by simp;omega
 have q224:((c:Int)==224)=false:=by simp;omega
 have q237:((c:Int)==237)=false:=by simp;omega
 have q240:((c:Int)==240)=false:=by simp;omega
 have q244:((c:Int)==244)=false:=by simp;omega
 have HCC:=hid hcc;clear hcc;go_enter Tryz.func129,Tryz.ntmps129
 go_wp2
 go_ret2;exact⟨rfl,rfl⟩
theorem fS (L:List UInt8)(i need lo hi m:Nat)(t:Bool)(h:i<L.length)(hl:contU need lo hi 1 (aO (L.drop (i+1)))=(m,t)):iA L i need m t 1 lo hi :=
 ⟨Nat.le_refl _,by omega,h,hl⟩
theorem aEu (g off cap i m:Nat)(t:Bool)(L:List UInt8)(w:World)(hB:Hid (bP w g off L))(hi:i<L.length)(hL:L.length≤140737488355328)(hr:Hid (lookU (aO (L.drop i))=(m,t))) :
  Calls Tryz.prog 129 #[.slice (some ⟨g,off,none⟩) L.length cap,.int .i64 i] w fun e w'=>e=.returned (.tuple #[.int .i64 m,.bool t])∧w=w':=by
 have hc:=hB.out i hi;have h:=hr.out;rw[vN _ _ hi,look_cons]at h
 have hc256:=L[i].toNat_lt;generalize L[i].toNat=c at hc h hc256;by_cases h1:c<128
 ·rw[if_pos h1]at h
  cases h;exact aLQ g off cap i c L w hi hL hc h1
 rw[if_neg h1]at h
 by_cases h2:c<194
 ·rw[if_pos h2]at h
  cases h;exact aJt g off cap i c L w hi hL hc ⟨by omega,h2⟩
 rw[if_neg h2]at h
 by_cases h3:c<224
 ·rw[if_pos h3]at h
  exact kT g off cap i m c 1 128 191 t L w hB hi hL hc (by omega) (.inl ⟨h3,rfl,rfl,rfl⟩) (hid (fS L i _ _ _ m t hi h))
 rw[if_neg h3]at h
 by_cases h4:c=224
 ·rw[if_pos h4]at h
  exact kT g off cap i m c 2 160 191 t L w hB hi hL hc (by omega) (.inr (.inl ⟨h4,rfl,rfl,rfl⟩)) (hid (fS L i _ _ _ m t hi h))
 rw[if_neg h4]at h
 by_cases h5:c=237
 ·rw[if_pos h5]at h
  exact kT g off cap i m c 2 128 159 t L w hB hi hL hc (by omega) (.inr (.inr (.inl ⟨h5,rfl,rfl,rfl⟩))) (hid (fS L i _ _ _ m t hi h))
 rw[if_neg h5]at h
 by_cases h6:c<240
 ·rw[if_pos h6]at h
  exact kT g off cap i m c 2 128 191 t L w hB hi hL hc (by omega) (.inr (.inr (.inr (.inl ⟨⟨by omega,h6,h5⟩,rfl,rfl,rfl⟩)))) (hid (fS L i _ _ _ m t hi h))
 rw[if_neg h6]at h
 by_cases h7:c=240
 ·rw[if_pos h7]at h
  exact kT g off cap i m c 3 144 191 t L w hB hi hL hc (by omega) (.inr (.inr (.inr (.inr (.inl ⟨h7,rfl,rfl,rfl⟩))))) (hid (fS L i _ _ _ m t hi h))
 rw[if_neg h7]at h
 by_cases h8:c<244
 ·rw[if_pos h8]at h
  exact kT g off cap i m c 3 128 191 t L w hB hi hL hc (by omega) (.inr (.inr (.inr (.inr (.inr (.inl ⟨⟨by omega,h8⟩,rfl,rfl,rfl⟩)))))) (hid (fS L i _ _ _ m t hi h))
 rw[if_neg h8]at h
 by_cases h9:c=244
 ·rw[if_pos h9]at h
  exact kT g off cap i m c 3 128 143 t L w hB hi hL hc (by omega) (.inr (.inr (.inr (.inr (.inr (.inr ⟨h9,rfl,rfl,rfl⟩)))))) (hid (fS L i _ _ _ m t hi h))
 rw[if_neg h9]at h
 cases h;exact aJs g off cap i c L w hi hL hc (by omega)
open Go.RowKit
theorem Tryz.info5:(Tryz.prog.info? 5).map (fun i=>(i.zero,i.size,i.bytes))=some (some (.int .u8 0),1,1):=by kernel_rfl
theorem bP.below {w w':World}{g off B:Nat}{L:List UInt8}(h:bP w g off L)(hb:Below B w w')(hg:g<B):bP w' g off L:=by
 intro j hj;rw[hb.cell (p:=⟨g,off+j,none⟩) hg];exact h j hj
theorem bP.news {w:World}{g off:Nat}{L:List UInt8}(h:bP w g off L):∀j u,(Lib.byteCells L)[j]?=some u→w.cell? ((⟨g,off,none⟩:Addr).add j)=some u:=by
 intro j u hu;unfold Lib.byteCells at hu;rw[List.getElem?_map]at hu
 rcases Nat.lt_or_ge j L.length with hj|hj
 ·rw[List.getElem?_eq_getElem hj]at hu
  simp at hu;have hadd:(⟨g,off,none⟩:Addr).add j=⟨g,off+j,none⟩:=by unfold Addr.add;split<;>simp_all
  rw[hadd,h j hj,hu]
 ·rw[List.getElem?_eq_none hj]at hu
  simp at hu
theorem wF (L:List UInt8):∀u∈Lib.byteCells L,u.oneCell'=true:=by
 intro u hu;unfold Lib.byteCells at hu;obtain⟨b,_,rfl⟩:=List.mem_map.1 hu;rfl
theorem jX (L:List UInt8):(Lib.byteCells L).length=L.length:=by unfold Lib.byteCells;simp
theorem aO5 (B b:Nat)(bs:List Value)(g off cap n:Nat)(L:List UInt8)(hn:L.length=n)(w:World)(h:Lib.IsBuilderF 112 5 B b bs w)(hsrc:Hid (bP w g off L))(hgB:g<B)(hlen:bs.length+L.length≤140737488355328)(hBw:B≤w.heap.size) :
  Calls Tryz.prog 130 #[.pointer (some ⟨b,0,none⟩),.slice (some ⟨g,off,none⟩) n cap] w fun e w'=>e=.returned (.tuple #[.int .i64 n,.nilIface])∧(Lib.BuilderAtF 112 5 B b (.pointer (some ⟨b,0,none⟩)) (bs++Lib.byteCells L) w'∧Below B w w'∧Lib.OthersKept 5 (some b) w w'):=by
 subst hn;obtain⟨i0,hi,hz0,hz1,hz2⟩:=info_parts Tryz.info5;go_enter Tryz.func130,Tryz.ntmps130
 go_wp2_with (go_at_call 156;refine(Tryz.Builder_copyCheck_k B b bs _ h).mono ?_)
 rintro e w1 ⟨rfl,h1,hb1,hk1⟩;obtain⟨hB,v,hbk,hown,hne⟩:=h1;have hs1:Hid (bP w1 g off L):=hsrc.out.below hb1 hgB;have c0:w1.cell? ⟨b,0,none⟩=some (.pointer (some ⟨b,0,none⟩)):=by rw[Lib.cell_of_heap hbk];rfl
 have c1:w1.cell? ⟨b,1,none⟩=some v:=by rw[Lib.cell_of_heap hbk];rfl
 go_wp2_with (at_builtin;refine wpList_append_ownF _ rfl _ _ 35 rfl B 5 i0 (.int .u8 0) 1 1 Tryz.underlying35 hi hz0 hz1 hz2 rfl (by decide) _ _ _ rfl hown ⟨g,off,none⟩ L.length cap (Lib.byteCells L) rfl ?c1 hs1.out.news (wF L) ?c3 ?c4 ?c5 ?_)
 case c1=>rw[jX,Nat.mul_one]
 case c3=>unfold maxLen;omega
 case c4=>omega
 case c5=>have:=hb1.size;omega
 intro v' w2 hown' hgrow _;have hlt:b<w1.heap.size:=by
  rcases Nat.lt_or_ge b w1.heap.size with h'|h'
  ·exact h'
  ·simp[Array.getElem?_eq_none h']at hbk
 have hb2:w2.heap[b]?=some (.cells #[.pointer (some ⟨b,0,none⟩),v] 112 (0,0)):=by
  rw[hgrow.block b hlt (fun e=>hne e.symm)];exact hbk
 have d0:w2.cell? ⟨b,0,none⟩=some (.pointer (some ⟨b,0,none⟩)):=by rw[Lib.cell_of_heap hb2];rfl
 have d1:w2.cell? ⟨b,1,none⟩=some v:=by rw[Lib.cell_of_heap hb2];rfl
 have f1:w2.frozen? ⟨b,1,none⟩=false:=Lib.frozen_of_heap hb2 1;obtain⟨ao,n',cap',rfl⟩:∃ao n' cap,v'=.slice ao n' cap:=by
  rcases hown'.2 with⟨hv,_⟩|⟨g,cap,cur,fz,hv,_⟩
  ·exact⟨_,_,_,hv⟩
  ·exact⟨_,_,_,hv⟩
 go_wp2
 go_ret2;refine⟨rfl,?_,?_,(hk1.grown hgrow (Lib.ownsRowF_kind hown)).setCell ⟨b,1,none⟩ rfl _⟩
 ·exact Lib.BuilderAtF.put (T:=112) (e:=5) hB hb2 (bs':=bs++Lib.byteCells L) (by simpa [jX]using hown') (by decide)
 ·exact(hb1.grown hgrow (by have:=hb1.size;omega) (fun k hk=>(hown.lt k hk).1)).setCell (p:=⟨b,1,none⟩) hB _
open Go.RowKit PU8
theorem aFc (g off cap k h:Nat)(n:Nat)(hk:k<cap)(h1:k≤h)(h2:h≤cap)(w:World) :
  (Instr.slice 35 (.slice (some ⟨g,off,none⟩) n cap) (some (.int .i64 k)) (some (.int .i64 h)) none).run Tryz.prog w=.ok (.slice (some ⟨g,off+k,none⟩) (h-k) (cap-k)) w:=by
 rw[vU 35 5 Tryz.underlying35 (by kernel_rfl) w (some ⟨g,off,none⟩) n cap k h h1 h2,if_neg (by omega)];have hadd:(⟨g,off,none⟩:Addr).add k=⟨g,off+k,none⟩:=by unfold Addr.add;split<;>simp_all
 simp[hadd]
theorem bP.cut {w:World}{g off:Nat}{L:List UInt8}(h:bP w g off L)(k m:Nat):bP w g (off+k) ((L.drop k).take m):=by
 intro j hj;rw[List.length_take,List.length_drop]at hj
 rw[Nat.add_assoc,h (k+j) (by omega)];simp
theorem aKc:Lib.runeCells 65533=Lib.byteCells [239,191,189]:=by
 rw[←Lib.byteCells_encodeRune];have:Lib.encodeRune 65533=[239,191,189]:=by decide
 rw[this]
theorem mU (a b:List UInt8):Lib.byteCells a++Lib.byteCells b=Lib.byteCells (a++b):=by simp[Lib.byteCells]
theorem aGz (l:List UInt8)(h:l≠[]):(lookU (aO l)).1≤l.length:=by
 have hc:∀need lo hi n (r:List Nat),(contU need lo hi n r).1≤n+r.length:=by
  intro need;induction need with
  | zero=>intro lo hi n r;simp[contU]
  | succ k ih =>
   intro lo hi n r;cases r with
   | nil=>simp[contU]
   | cons c r =>
    unfold contU;split
    ·simp
    ·have:=ih 0x80 0xbf (n+1) r;simp only[List.length_cons];omega
 have hl:(aO l).length=l.length:=by unfold aO;simp
 rw[←hl];cases hb:aO l with
 | nil=>exact absurd hb (oQ h)
 | cons c r =>
  rw[look_cons];simp only[List.length_cons];repeat' split
  all_goals first
   | (have:=hc 1 0x80 0xbf 1 r;omega)
   | (have:=hc 2 0xa0 0xbf 1 r;omega)
   | (have:=hc 2 0x80 0x9f 1 r;omega)
   | (have:=hc 2 0x80 0xbf 1 r;omega)
   | (have:=hc 3 0x90 0xbf 1 r;omega)
   | (have:=hc 3 0x80 0xbf 1 r;omega)
   | (have:=hc 3 0x80 0x8f 1 r;omega)
   | (simp only;omega)
structure aAV (L:List UInt8) (B k:Nat) (w wx:World) (o:List UInt8):Prop where
 le:k≤L.length
 bld:Lib.IsBuilderF 112 5 B B (Lib.byteCells o) wx
 bel:Below B w wx
 out:o++lV (L.drop k)=lV L
theorem aAV.len {L:List UInt8}{B k:Nat}{w wx:World}{o:List UInt8}(h:aAV L B k w wx o):o.length≤3*L.length:=by
 have:=congrArg List.length h.out;rw[List.length_append]at this
 have h2:=aCd L.length L (Nat.le_refl _);omega
theorem aHd (g off cap:Nat)(L:List UInt8)(hL:L.length≤1000000000)(hcap:L.length≤cap)(w:World)(hB:Hid (bP w g off L))(hg:g<w.heap.size) :
  Calls Tryz.prog 77 #[.slice (some ⟨g,off,none⟩) L.length cap] w fun e w'=>e=.returned (.string ⟨(lV L).toArray⟩)∧Below w.heap.size w w':=by
 go_enter Tryz.func77,Tryz.ntmps77
 go_wp2
 go_loopw [4] (fun i wx=>∃k:Nat,i=.int .i64 k∧∃o,Hid (aAV L w.heap.size k w wx o)) (fun i _=>L.length-(intOf i).toNat)
 case atStart =>
  refine⟨0,rfl,[],⟨Nat.zero_le _,?_,(Below.refl _ w).alloc (Nat.le_refl _) _,rfl⟩⟩;exact .inl ⟨Nat.le_refl _,.slice none 0 0,heap_alloc_new w _,World.ownsRowF_nil _ _ _ _,by simp[Value.ownBlock]⟩
 case round =>
  obtain⟨k,rfl,o,hD⟩:=hrel;have hk:=hD.out.le;rcases Nat.lt_or_ge k L.length with hlt|hge
  ·have hBr:Hid (bP wr g off L):=hB.out.below hD.out.bel hg;have hne:L.drop k≠[]:=by
    intro e;have:=congrArg List.length e;rw[List.length_drop]at this
    simp at this;omega
   have hst:=aD4 (L.drop k) hne;have hpw:=tN (L.drop k) hne;cases hlk:lookU (aO (L.drop k))with
   | mk m t =>
   rw[hlk]at hst hpw
   simp only at hst hpw;have HLK:Hid (lookU (aO (L.drop k))=(m,t)):=hlk;have hol:=hD.out.len;cases t with
   | true =>
    obtain⟨_,hm1,hm2⟩:=hpw rfl;rw[List.length_drop]at hm2
    have hmax:max m 1=m:=by omega
    rw[if_pos rfl,hmax]at hst
    have HST:=hid hst;have hsl:=aFc g off cap k (k+m) L.length (by omega) (by omega) (by omega);have hkm:k+m-k=m:=by omega
    rw[hkm]at hsl
    rw[Int.natCast_add]at hsl
    clear hst hpw hlk hmax hne hkm;go_wp2_with fail
    refine(aEu g off cap k m true L _ hBr hlt (by omega) HLK).mono ?_;rintro e w' ⟨rfl,rfl⟩;go_wp2_with fail
    refine(aO5 w.heap.size w.heap.size (Lib.byteCells o) g (off+k) (cap-k) m ((L.drop k).take m) (by rw[List.length_take,List.length_drop];omega) _ hD.out.bld (hid (hBr.out.cut k m)) hg (by rw[jX,List.length_take,List.length_drop];omega) hD.out.bel.size).mono ?_;rintro e w2 ⟨rfl,b1,b2,b3⟩;have HN:Hid (aAV L w.heap.size (k+m) w w2 (o++(L.drop k).take m)):=by
     refine⟨by omega,.inr (by rw[←mU];exact b1),hD.out.bel.trans b2,?_⟩;have:=hD.out.out;rw[HST.out,List.drop_drop]at this
     rw[List.append_assoc];exact this
    clear b1 b2 b3;go_wp2
    refine⟨⟨k+m,by congr 1;omega,_,HN⟩,?_⟩;simp[intOf];omega
   | false =>
    rw[if_neg (by simp),List.drop_drop]at hst
    have HST:=hid hst;clear hst hpw hlk hne;go_wp2_with fail
    refine(aEu g off cap k m false L _ hBr hlt (by omega) HLK).mono ?_;rintro e w' ⟨rfl,rfl⟩;go_wp2_with fail
    refine(Tryz.Builder_WriteRune_k w.heap.size w.heap.size (Lib.byteCells o) 65533 (by omega) (by omega) _ hD.out.bld (by rw[jX];omega) hD.out.bel.size).mono ?_;rintro e w2 ⟨rfl,b1,b2,b3⟩;have HN:Hid (k+max m 1≤L.length→aAV L w.heap.size (k+max m 1) w w2 (o++[239,191,189])):=by
     intro hle;refine⟨hle,.inr (by rw[←mU,←aKc];exact b1),hD.out.bel.trans b2,?_⟩;have:=hD.out.out;rw[HST.out]at this
     rw[List.append_assoc];exact this
    have hle:m≤L.length-k:=by
     have:=aGz (L.drop k) (by intro e;have:=congrArg List.length e;rw[List.length_drop]at this;simp at this;omega);rw[HLK.out,List.length_drop]at this
     exact this
    clear b1 b2 b3;go_wp2
    refine⟨⟨k+max m 1,by congr 1;omega,_,HN.out (by omega)⟩,?_⟩;simp[intOf];omega
  ·have hE:o=lV L:=by
    have:=hD.out.out;rw[List.drop_eq_nil_of_le (by omega),aCe,List.append_nil]at this
    exact this
   have HE:=hid hE;clear hE;go_wp2_with fail
   refine(Tryz.Builder_String_any_k w.heap.size w.heap.size o _ hD.out.bld hD.out.bel.size).mono ?_;rintro e w2 ⟨rfl,b1,b2,b3⟩;clear b1 b3;go_wp2
   go_ret;refine⟨?_,hD.out.bel.trans b2⟩;rw[HE.out];rfl
open Go.RowKit PU8
structure lF (L:List UInt8) (i k v0 j v:Nat):Prop where
 lo:1≤j
 hi:j≤k
 bd:v<256*64^(j-1)
 out:PU8.follow (k-1) v0 (aO (L.drop (i+1)))=PU8.follow (k-j) v (aO (L.drop (i+j)))
theorem aP3 (j:Nat)(h1:1≤j)(h:j≤4):256*64^(j-1)≤67108864:=by
 have:j=1∨j=2∨j=3∨j=4:=by omega
 rcases this with rfl|rfl|rfl|rfl<;>decide
theorem lF.le {L:List UInt8}{i k v0 j v:Nat}(h:lF L i k v0 j v)(hk:k≤4):v<67108864:=by
 have h1:=h.bd;have h2:=aP3 j h.lo (by have:=h.hi;omega);omega
theorem lF.start (L:List UInt8)(i k v0:Nat)(hk:1≤k)(hv:v0<256):lF L i k v0 1 v0:=⟨Nat.le_refl _,hk,by simpa using hv,rfl⟩
theorem zL (L:List UInt8)(i:Nat)(h:i<L.length):aO (L.drop i)=L[i].toNat :: aO (L.drop (i+1)):=by
 rw[List.drop_eq_getElem_cons h];rfl
theorem lF.next {L:List UInt8}{i k v0 j v:Nat}(h:lF L i k v0 j v)(hj:j<k)(hl:i+j<L.length)(c:Nat)(hc:L[i+j].toNat=c)(h1:128≤c)(h2:c≤191):lF L i k v0 (j+1) (v*64+c-128):=by
 refine⟨by omega,by omega,?_,?_⟩
 ·have hb:=h.bd;have hlo:=h.lo;have:64^(j+1-1)=64^(j-1)*64:=by rw[←Nat.pow_succ];congr 1;omega
  rw[this];omega
 ·rw[h.out,zL L (i+j) hl,hc,show k-j=(k-(j+1))+1 from by omega];conv=>lhs;unfold PU8.follow
  rw[if_neg (by omega),Nat.add_assoc]
theorem lF.none {L:List UInt8}{i k v0 j v:Nat}(h:lF L i k v0 j v)(hj:j<k)(hl:i+j<L.length)(c:Nat)(hc:L[i+j].toNat=c)(h1:c<128∨191<c):PU8.follow (k-1) v0 (aO (L.drop (i+1)))=.none:=by
 rw[h.out,zL L (i+j) hl,hc,show k-j=(k-(j+1))+1 from by omega];unfold PU8.follow;rw[if_pos (by omega)]
theorem lF.done {L:List UInt8}{i k v0 j v:Nat}(h:lF L i k v0 j v)(hj:k≤j):PU8.follow (k-1) v0 (aO (L.drop (i+1)))=some v:=by
 rw[h.out,show k-j=0 from by omega];rfl
structure nS (n k v j lo hi:Nat):Prop where
 le1:k≤j
 le2:j≤n
 bl:lo<67108864*64^(j-k)
 bh:hi<67108864*64^(j-k)
 out:PU8.widen (n-k) v v=PU8.widen (n-j) lo hi
theorem aOY (j:Nat)(h:j≤3):67108864*64^j≤17592186044416:=by
 have:j=0∨j=1∨j=2∨j=3:=by omega
 rcases this with rfl|rfl|rfl|rfl<;>decide
theorem nS.le {n k v j lo hi:Nat}(h:nS n k v j lo hi)(hk:1≤k)(hn:n≤4):lo<17592186044416∧hi<17592186044416:=by
 have h1:=h.bl;have h3:=h.bh;have h2:=aOY (j-k) (by have:=h.le1;have:=h.le2;omega);omega
theorem nS.start (n k v:Nat)(hk:k≤n)(hv:v<67108864):nS n k v k v v:=⟨Nat.le_refl _,hk,by simpa using hv,by simpa using hv,rfl⟩
theorem nS.next {n k v j lo hi:Nat}(h:nS n k v j lo hi)(hj:j<n):nS n k v (j+1) (lo*64) (hi*64+63):=by
 have h1:=h.le1;have hp:64^(j+1-k)=64^(j-k)*64:=by rw[←Nat.pow_succ];congr 1;omega
 have hb:=h.bl;have hh:=h.bh;refine⟨by omega,by omega,by rw[hp];omega,by rw[hp];omega,?_⟩;rw[h.out,show n-j=(n-(j+1))+1 from by omega];rfl
theorem nS.done {n k v j lo hi:Nat}(h:nS n k v j lo hi)(hj:n≤j):PU8.widen (n-k) v v=(lo,hi):=by
 rw[h.out,show n-j=0 from by omega];rfl
end Go.Proofs.YtcfgbdhpcboikaaGreatDoor
