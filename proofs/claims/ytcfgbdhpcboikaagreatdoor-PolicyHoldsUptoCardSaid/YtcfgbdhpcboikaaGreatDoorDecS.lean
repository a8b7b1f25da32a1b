/-
The slow decimals: leftShift.
-/
import Derived.Test.YtcfgbdhpcboikaaGreatDoorBase
import Derived.Deep.CutBlock
import Derived.Deep.DeepCutAuto
namespace Go.Proofs.YtcfgbdhpcboikaaGreatDoor
open Go.Lib (hid)
set_option maxHeartbeats 8000000
set_option maxRecDepth 100000
open Go.RowKit
structure nR (w:World) (B:Nat):Prop where
 cheats:∃b o,b≠B∧w.cell? ⟨14,0,none⟩=some (.slice (some ⟨b,o,none⟩) 61 61)∧∀i,i<61→w.cell? ⟨b,o+i*2,none⟩=some (.int .i64 (Pinned.cheatRows.getD i (0,[])).1)∧w.cell? ⟨b,o+i*2+1,none⟩=some (.string ⟨(Pinned.cheatRows.getD i (0,[])).2.toArray⟩)
 p2:∃b o,b≠B∧w.cell? ⟨11,0,none⟩=some (.slice (some ⟨b,o,none⟩) 9 9)∧∀i,i<9→w.cell? ⟨b,o+i,none⟩=some (.int .i64 (([1,3,6,9,13,16,19,23,26]:List Int).getD i 0))
 info0:w.cell? ⟨8,0,none⟩=some (.int .u64 52)
 info1:w.cell? ⟨8,1,none⟩=some (.int .u64 11)
 info2:w.cell? ⟨8,2,none⟩=some (.int .i64 (-1023))
 far:14<B
theorem nR.kept {w w':World}{B:Nat}(h:nR w B)(k:aD (· = B) w w'):nR w' B:=by
 obtain⟨b,o,hb,h1,h2⟩:=h.cheats;obtain⟨b2,o2,hb2,h3,h4⟩:=h.p2;have hf:=h.far;have c:∀ {p:Addr} {v:Value},w.cell? p=some v→p.block≠B→w'.cell? p=some v:=fun hc hp=>k.cell hc hp
 exact⟨⟨b,o,hb,c h1 (show 14≠B by omega),fun i hi=>⟨c (h2 i hi).1 hb,c (h2 i hi).2 hb⟩⟩,⟨b2,o2,hb2,c h3 (show 11≠B by omega),fun i hi=>c (h4 i hi) hb2⟩,
  c h.info0 (show 8≠B by omega),c h.info1 (show 8≠B by omega),c h.info2 (show 8≠B by omega),hf⟩
theorem aJq:Tryz.prog.arrayLen 232=800:=by kernel_rfl
theorem aKn (B n:Nat)(hn:n≤800)(w:World):(Instr.sliceAt 232 (.pointer (some ⟨B,0,none⟩)) (some (.int .i64 0)) (some (.int .i64 n)) none).run Tryz.prog w=.ok (.slice (some ⟨B,0,none⟩) n 800) w:=by
 rw[run_sliceAt_array_lh w 232 ⟨B,0,none⟩ (by kernel_rfl) .i64 .i64 0 n (Int.le_refl _) (by omega) (by rw[aJq];omega),aJq];have hz:(sizeOf (Tryz.prog.elem 232)).run Tryz.prog w=.ok 1 w:=by
  rw[show Tryz.prog.elem 232=5 by kernel_rfl];exact Tryz.sizeOf5 w
 rw[hz];simp[Result.andThen,slicedAt,Addr.add]
def kN (B:Nat)(s:Dec.Dc)(w:World)(e:Ending)(w':World):Prop:=e=.returned (.tuple #[])∧aC w' B s∧aD (· = B) w w'
theorem iY (z:Int):IntKind.u64.wrap z=z%18446744073709551616:=by
 have h1:IntKind.u64.signed=false:=rfl;have h2:IntKind.u64.bits=64:=rfl;unfold IntKind.wrap;simp only[h1,h2,Bool.false_and,Bool.false_eq_true,if_false];rfl
theorem aDL (k:Nat)(hk:k<61):2^k≤1152921504606846976:=Nat.le_trans (Nat.pow_le_pow_right (by decide) (show k≤60 by omega)) (by decide)
structure aO1 (Y q rm Z:Nat):Prop where
 e3:(Y:Int).tdiv 10=q
 e3':IntKind.u64.wrap (q:Int)=q
 e4:IntKind.u64.wrap (10*(q:Int))=Z
 e5:IntKind.u64.wrap ((Y:Int)-Z)=rm
 r9:rm≤9
 hq:q=Y / 10
 hr:rm=Y%10
theorem aGE (Y:Nat)(h:Y<18446744073709551616):∃q rm Z,aO1 Y q rm Z:=by
 refine⟨Y / 10,Y%10,10*(Y / 10),?_,?_,?_,?_,by omega,rfl,rfl⟩
 ·rw[Int.tdiv_eq_ediv_of_nonneg (by omega)];omega
 ·rw[iY];omega
 ·rw[iY];omega
 ·rw[iY];omega
theorem aMt (f n:Nat):Dec.steps f n≤f:=by
 induction f generalizing n with
 | zero=>simp[Dec.steps]
 | succ f ih=>unfold Dec.steps;split<;>first|omega|(have:=ih (n / 10);omega)
theorem aNW (B k:Nat)(s:Dec.Dc)(w:World)(T:nR w B)(h:aC w B s)(hF:Dec.Fine s)(hn:1≤s.nd)(k1:1≤k)(k2:k<61)(p1:-100000000≤s.dp)(p2:s.dp≤100000000) :
  Calls Tryz.prog 288 #[.pointer (some ⟨B,0,none⟩),.int .u64 k] w (kN B (Dec.lsh k s) w):=by
 obtain⟨b,o,hb,t1,t2⟩:=T.cheats;obtain⟨t3,t4⟩:=t2 k k2;obtain⟨r1,r2,r3⟩:=aIE k k2 (by omega);obtain⟨str,hstr⟩:∃str:ByteArray,str=⟨(Pinned.cheatRows.getD k (0,[])).2.toArray⟩:=⟨_,rfl⟩
 rw[←hstr]at t4
 obtain⟨δ,hδ⟩:∃ δ,Dec.steps 25 (Dec.carry k (Dec.dgs s.D s.nd))=δ := ⟨_,rfl⟩
 obtain⟨L,hL⟩:∃L,Dec.less (Dec.dgs s.D s.nd) (Dec.cut k)=L:=⟨_,rfl⟩
 obtain⟨dd,dr,f1,f2,_,f4,f5⟩:=Dec.fine_cons hF hn;have hds:∀d∈Dec.dgs s.D s.nd,d<10:=by rw[f1];exact f4
 have hlen:(Dec.dgs s.D s.nd).length=s.nd:=by rw[f1,List.length_cons];exact f5
 have PL:∀u,aC u B s→Calls Tryz.prog 296 #[.slice (some ⟨B,0,none⟩) s.nd 800,.string str] u fun e w'=>e=.returned (.bool L)∧∃m,w'=u.drewN m:=by
  intro u hu;have:=aJP B s.nd 800 s str u hu hF.le (by rw[hstr];show(Pinned.cheatRows.getD k (0,[])).2.length≤1000;omega);rw[aLS s hF,show lX str.data.toList=(Dec.cut k).map (· + 48) by rw[hstr];exact r2,aHs,hL]at this
  exact this
 have c25:=Dec.carry_25 k (Dec.dgs s.D s.nd) k2 hds;have hmore:(Pinned.cheatRows.getD k (0,[])).1=(if L then δ + 1 else δ):=by
  have ft:=Dec.front_table (Dec.dgs s.D s.nd) k 25 k2 (by omega) hds (by rw[f1];simpa using f2) (by rw[f1];simp) c25;obtain⟨_,_,_,_,_,g1,g2⟩:=Dec.cuts k k2 (by omega);rw[hδ,hL]at ft
  rw[r1];have hm:1≤Dec.more k:=by unfold Dec.more;omega
  cases L
  ·simpa using ft.symm
  ·simp at ft ⊢;omega
 have hnd:=hF.le;have d25:δ ≤ 25:=by rw[←hδ];exact aMt 25 _
 have c800:=h.nd;have f800:=h.fz 800;have SL:=aKn B s.nd hnd;have H:=hid h;have HF:=hid hF;have HPL:=hid PL;have HDel:=hid hδ;have HDS0:=hid hds;have HLEN:=hid hlen;have HC25:=hid c25;rw[hmore]at t3
 have lsb:∀m,∀d∈(Dec.dgs s.D s.nd).drop m,d<10:=fun m d hd=>hds d (List.mem_of_mem_drop hd)
 have HLSB:=hid lsb;clear h hF PL r1 r2 r3 hstr T t2 hδ hL hmore hds hlen c25 f1 f2 f4 f5 lsb;cases L;all_goals
  simp only[Bool.false_eq_true,if_false,if_true]at t3;go_enter Tryz.func288,Tryz.ntmps288
  go_wp2_with fail
  go_quiet ((go_at_call 296;exact Calls.quiet_of (HPL.out _ (H.out.drewN _))))
  go_wp2_with fail
  go_loopw [5,6,7] (fun r wv n wr=>∃m:Nat,m≤s.nd∧r=.int .i64 ((m:Int)-1)∧wv=.int .i64 ((m:Int)+δ)∧n=.int .u64 (Dec.carry k ((Dec.dgs s.D s.nd).drop m):Nat)∧aD (· = B) w wr ∧
   aC wr B { s with D:=Dec.ow s.D (m+δ) ((Dec.lows k ((Dec.dgs s.D s.nd).drop m)).map Dec.ch),trunc:=s.trunc||Dec.over (m+δ) ((Dec.lows k ((Dec.dgs s.D s.nd).drop m)).map Dec.ch) }) (fun r _ _ _=>(intOf r+1).toNat)
  case atStart =>
   have e:(Dec.dgs s.D s.nd).drop s.nd=[]:=List.drop_eq_nil_of_le (by rw[HLEN.out];omega);refine⟨s.nd,Nat.le_refl _,rfl,?_,by rw[e];rfl,(aD.refl _ w).drewN _,?_⟩
   ·first|rfl|exact congrArg (Value.int .i64) (by unfold wrap64;omega)|exact congrArg (Value.int .i64) (by omega)
   ·rw[e];have:=H.out.drewN nq;simpa [Dec.lows,Dec.ow_nil,Dec.over_nil]using this
  case round =>
   obtain⟨m,hm,hr,hw,hn,hK,hD⟩:=hrel;cases m with
   | zero =>
    obtain rfl:=(show _=Value.int .i64 (-1)from hr.trans (congrArg (Value.int .i64) (by omega)))
    obtain rfl:=(show _=Value.int .i64 (δ : Int)from hw.trans (congrArg (Value.int .i64) (by omega)))
    rw[List.drop_zero]at hn hD
    rw[Nat.zero_add]at hD
    obtain⟨Q,hQ⟩:∃Q,Dec.carry k (Dec.dgs s.D s.nd)=Q:=⟨_,rfl⟩
    rw[hQ]at hn
    subst hn;have HQ:=hid hQ;have HK0:=hid hK;have HD0:=hid hD;have hQ64:Q<18446744073709551616:=by
     have:=Dec.carry_lt k (Dec.dgs s.D s.nd) HDS0.out;have:=aDL k k2;omega
    have HQ64:=hid hQ64;clear hK hD hQ hr hw hQ64;obtain⟨wo,rfl⟩:∃wo:World,wo=wr:=⟨_,rfl⟩
    go_wp2_with fail
    go_loopw [6,7] (fun wv n wr=>∃(f W q:Nat) (t:List Nat),wv=.int .i64 (W:Int)∧n=.int .u64 (q:Int)∧q<10^f∧Dec.steps f q=W∧W≤25∧q<18446744073709551616∧Dec.digs f q t=Dec.fullN k (Dec.dgs s.D s.nd)∧aD (· = B) w wr ∧
     aC wr B { s with D:=Dec.ow s.D W (t.map Dec.ch),trunc:=s.trunc||Dec.over W (t.map Dec.ch) }) (fun wv _ _=>(intOf wv).toNat)
    case atStart =>
     refine⟨25,δ,Q,Dec.lows k (Dec.dgs s.D s.nd),rfl,rfl,?_,?_,d25,HQ64.out,?_,HK0.out,HD0.out⟩
     ·rw[←HQ.out];exact HC25.out
     ·rw[←HQ.out];exact HDel.out
     ·rw[←HQ.out];rfl
    case round =>
     obtain⟨f,W,q,t,rfl,rfl,g1,g2,g3,g4,g5,hK,hD⟩:=hrel;have HK:=hid hK;have HD:=hid hD;by_cases hq0:q=0
     ·subst hq0;have hz:∀g,Dec.steps g 0=0:=by intro g;cases g<;>simp[Dec.steps]
      have hz2:∀g (l:List Nat),Dec.digs g 0 l=l:=by intro g l;cases g<;>simp[Dec.digs]
      rw[hz]at g2
      subst g2;rw[hz2]at g5
      subst g5;have hfl:((Dec.fullN k (Dec.dgs s.D s.nd)).map Dec.ch).length=s.nd+δ := by
       rw[List.length_map,Dec.fullN_len,HDel.out,HLEN.out];omega
      have HFL:=hid hfl;have q800:wr.cell? ⟨B,800,none⟩=some (.int .i64 s.nd):=hD.nd;have q801:wr.cell? ⟨B,801,none⟩=some (.int .i64 s.dp):=hD.dp;have z800:=hD.fz 800;have z801:=hD.fz 801;have elsh:Dec.lshD k s={ ({ ({ s with D:=Dec.ow s.D 0 ((Dec.fullN k (Dec.dgs s.D s.nd)).map Dec.ch),trunc:=s.trunc||Dec.over 0 ((Dec.fullN k (Dec.dgs s.D s.nd)).map Dec.ch) }:Dec.Dc)with nd:=min (s.nd+δ) 800 }:Dec.Dc)with dp:=s.dp+δ }:=by
       unfold Dec.lshD Dec.fullL;rw[hfl];simp only[Dec.Dc.mk.injEq,true_and,and_true];omega
      have HEL:=hid elsh;clear hK hD hz hz2 g1 g3 g4 hfl elsh;by_cases hbig:800≤s.nd+δ
      ·go_wp2_with fail
       refine(aAP B (Dec.lshD k s) _ ?_ ?_).mono ?_
       ·rw[HEL.out,show min (s.nd+δ) 800=800 by omega];exact((HD.out.setNdV (s.nd+δ) _ (by omega)).setNdV 800 _ (by omega)).setDpV _ _ (by omega)
       ·rw[HEL.out];exact Nat.min_le_right _ _
       rintro e w' ⟨rfl,hd',hk'⟩;have HD':=hid hd';have HK':=hid hk';clear hd' hk';go_wp2
       go_end0
       exact⟨rfl,HD'.out,(((HK.out.setCell _ _ (fun _=>rfl)).setCell _ _ (fun _=>rfl)).setCell _ _ (fun _=>rfl)).trans HK'.out⟩
      ·go_wp2_with fail
       refine(aAP B (Dec.lshD k s) _ ?_ ?_).mono ?_
       ·rw[HEL.out,show min (s.nd+δ) 800=s.nd+δ by omega];exact(HD.out.setNdV (s.nd+δ) _ (by omega)).setDpV _ _ (by omega)
       ·rw[HEL.out];exact Nat.min_le_right _ _
       rintro e w' ⟨rfl,hd',hk'⟩;have HD':=hid hd';have HK':=hid hk';clear hd' hk';go_wp2
       go_end0
       exact⟨rfl,HD'.out,((HK.out.setCell _ _ (fun _=>rfl)).setCell _ _ (fun _=>rfl)).trans HK'.out⟩
     ·cases f with
      | zero=>exact absurd (by simpa using g1) hq0
      | succ f =>
       have gs:Dec.steps (f+1) q=if q=0 then 0 else 1+Dec.steps f (q / 10):=rfl
       have gd:Dec.digs (f+1) q t=if q=0 then t else Dec.digs f (q / 10) (q%10 :: t):=rfl
       rw[if_neg hq0]at gs gd
       obtain⟨q',rm,Z,O⟩:=aGE q g4;obtain⟨o1,o2,o3,o4,o5,o6,o7⟩:=O;rw[gs,←o6]at g2
       rw[gd,←o6,←o7]at g5
       have g1':q'<10^f:=by rw[Nat.pow_succ]at g1;omega
       have g4':q'<18446744073709551616:=by omega
       obtain⟨W',rfl⟩:∃W',W=W'+1:=⟨W-1,by omega⟩
       have g2':Dec.steps f q'=W':=by omega
       have hlt:W'<800:=by omega
       have w25:W'≤25:=by omega
       have hqp:(0:Int)<q:=by omega
       have fB:=hD.fz W';obtain⟨cold,cw⟩:∃x:Value,wr.cell? ⟨B,W',none⟩=some x:=⟨_,hD.byte W' (by rw[Dec.ow_len _ _ _ H.out.len];exact hlt)⟩
       have hcw:((Dec.ch rm).toNat:Int)=(rm:Int)+48:=by rw[Dec.ch_nat rm (by omega)];omega
       have HCW:=hid hcw;have G1:=hid g1';have G2:=hid g2';have G4:=hid g4';have G5:=hid g5;clear hK hD gs gd g1 g2 g3 g4 g5 g1' g2' g4' o6 o7 hcw;go_wp2
       go_roundw
       case measure=>(simp[intOf];try omega)
       case rel =>
        refine⟨f,W',q',rm :: t,?_,rfl,G1.out,G2.out,w25,G4.out,G5.out,HK.out.setCell _ _ (fun _=>rfl),?_⟩
        ·exact congrArg (Value.int .i64) (by omega)
        ·rw[List.map_cons,←Dec.ow_set _ _ _ _ H.out.len hlt,Dec.over_in _ _ _ hlt];exact HD.out.setByte W' hlt (Dec.ch rm) _ HCW.out.symm
   | succ m =>
    obtain rfl:=(show _=Value.int .i64 (m:Int)from hr.trans (congrArg (Value.int .i64) (by omega)))
    obtain⟨W,hW⟩:∃W,m+δ = W:=⟨_,rfl⟩
    obtain rfl:=(show _=Value.int .i64 ((W:Int)+1)from hw.trans (congrArg (Value.int .i64) (by omega)))
    obtain⟨X,hX⟩:∃X,Dec.carry k ((Dec.dgs s.D s.nd).drop (m+1))=X:=⟨_,rfl⟩
    rw[hX]at hn
    subst hn;rw[show m+1+δ = W+1 by omega]at hD
    have hmD:m<s.D.length:=by have:=H.out.len;omega
    have hmO:m<(Dec.ow s.D (W+1) ((Dec.lows k ((Dec.dgs s.D s.nd).drop (m+1))).map Dec.ch)).length:=by rw[Dec.ow_len _ _ _ H.out.len];omega
    have ci:=hD.byte m hmO;obtain⟨c,hc⟩:∃c,s.D[m]=c:=⟨_,rfl⟩
    have hg:(Dec.ow s.D (W+1) ((Dec.lows k ((Dec.dgs s.D s.nd).drop (m+1))).map Dec.ch))[m]?=some c:=by
     rw[Dec.ow_get _ _ _ H.out.len,if_pos (by omega),List.getElem?_eq_getElem hmD,hc]
    rw[show(Dec.ow s.D (W+1) ((Dec.lows k ((Dec.dgs s.D s.nd).drop (m+1))).map Dec.ch))[m]=c from(List.getElem?_eq_some_iff.1 hg).2]at ci
    have hcd:=HF.out.dig c (by rw[←hc];exact List.mem_take_iff_getElem.2 ⟨m,by omega,rfl⟩);obtain⟨d,hd⟩:∃d,Dec.un c=d:=⟨_,rfl⟩
    have hcv:(c.toNat:Int)=(d:Int)+48:=by unfold Dec.un at hd;omega
    rw[hcv]at ci
    have hds:(Dec.dgs s.D s.nd).drop m=d :: (Dec.dgs s.D s.nd).drop (m+1):=by
     have:(Dec.dgs s.D s.nd)[m]?=some d:=by
      unfold Dec.dgs;rw[List.getElem?_map,List.getElem?_take,if_pos (by omega),List.getElem?_eq_getElem hmD,hc];exact congrArg some hd
     obtain⟨h1,h2⟩:=List.getElem?_eq_some_iff.1 this;rw[List.drop_eq_getElem_cons h1,h2]
    have d9:d≤9:=by unfold Dec.un at hd;omega
    obtain⟨P,hP⟩:∃P,d*2^k=P:=⟨_,rfl⟩
    have hXP:X+P<18446744073709551616:=by
     have:=Dec.carry_add_lt k d ((Dec.dgs s.D s.nd).drop (m+1)) (HLSB.out (m+1)) (by omega);have:=aDL k k2;omega
    obtain⟨Y,hY⟩:∃Y,X+P=Y:=⟨_,rfl⟩
    have e1:IntKind.u64.wrap ((d:Int)*2^k)=(P:Int):=by
     rw[iY,←hP];have:((d:Int)*2^k)=((d*2^k:Nat):Int):=by simp
     rw[this,hP];omega
    have e2:IntKind.u64.wrap ((X:Int)+P)=(Y:Int):=by rw[iY];omega
    obtain⟨q,rm,Z,O⟩:=aGE Y (by omega);obtain⟨o1,o2,o3,o4,o5,o6,o7⟩:=O;have hlow:Dec.lows k ((Dec.dgs s.D s.nd).drop m)=rm :: Dec.lows k ((Dec.dgs s.D s.nd).drop (m+1)):=by
     rw[hds];show(Dec.carry k _+d*2^k)%10 :: _=_;rw[hX,hP,hY,o7]
    have hcar:Dec.carry k ((Dec.dgs s.D s.nd).drop m)=q:=by
     rw[hds];show(Dec.carry k _+d*2^k) / 10=_;rw[hX,hP,hY,o6]
    have hcw:((Dec.ch rm).toNat:Int)=(rm:Int)+48:=by rw[Dec.ch_nat rm (by omega)];omega
    have HKr:=hid hK;have HDr:=hid hD;have HW:=hid hW;have HLO:=hid hlow;have HCA:=hid hcar;have HCW:=hid hcw;have fB:=hD.fz W;have f803:=hD.fz 803;have c803:wr.cell? ⟨B,803,none⟩=some (.bool _):=hD.trunc;have hW800:W≤825:=by omega
    have hm8:m<800:=by omega
    by_cases hlt:W<800
    ·obtain⟨cold,cw⟩:∃x:Value,wr.cell? ⟨B,W,none⟩=some x:=⟨_,hD.byte W (by rw[Dec.ow_len _ _ _ H.out.len];exact hlt)⟩
     clear hK hD hW hX hds hg hmO hc hd hcv hcd hmD hr hw hP hY o6 o7 hXP hlow hcar hcw;go_wp2
     go_roundw
     case measure=>(simp[intOf];try omega)
     case rel =>
      refine⟨m,by omega,by go_num,?_,?_,HKr.out.setCell _ _ (fun _=>rfl),?_⟩
      ·exact congrArg (Value.int .i64) (by have:=HW.out;omega)
      ·rw[HCA.out]
      ·rw[HW.out,HLO.out,List.map_cons,←Dec.ow_set _ _ _ _ H.out.len hlt,Dec.over_in _ _ _ hlt];exact HDr.out.setByte W hlt (Dec.ch rm) _ HCW.out.symm
    ·have hge:800≤W:=by omega
     by_cases h0:rm=0
     ·subst h0;clear hK hD hX hds hg hmO hc hd hcv hcd hmD hr hw hP hY o6 o7 hXP hlow hcar hcw hlt hW;go_wp2
      go_roundw
      case measure=>(simp[intOf];try omega)
      case rel =>
       refine⟨m,by omega,by go_num,?_,?_,HKr.out,?_⟩
       ·exact congrArg (Value.int .i64) (by have:=HW.out;omega)
       ·rw[HCA.out]
       ·rw[HW.out,HLO.out,List.map_cons,←Dec.ow_out _ _ _ _ H.out.len hge,Dec.over_out _ _ _ hge];have e0:(Dec.ch 0 !=48)=false:=by decide
        rw[e0,Bool.false_or];exact HDr.out
     ·have hrz:((rm:Int) !=0)=true:=bne_iff_ne.2 (by omega);clear hK hD hX hds hg hmO hc hd hcv hcd hmD hr hw hP hY o6 o7 hXP hlow hcar hcw hlt hW;go_wp2
      go_roundw
      case measure=>(simp[intOf];try omega)
      case rel =>
       refine⟨m,by omega,by go_num,?_,?_,HKr.out.setCell _ _ (fun _=>rfl),?_⟩
       ·exact congrArg (Value.int .i64) (by have:=HW.out;omega)
       ·rw[HCA.out]
       ·rw[HW.out,HLO.out,List.map_cons,←Dec.ow_out _ _ _ _ H.out.len hge,Dec.over_out _ _ _ hge];have e0:(Dec.ch rm !=48)=true:=by
         rw[bne_iff_ne];intro e;have:=congrArg UInt8.toNat e;rw[Dec.ch_nat rm (by omega)]at this
         have e48:(48:UInt8).toNat=48:=rfl;omega
        rw[e0,Bool.true_or,Bool.or_true];exact HDr.out.setTr true
open Go.RowKit
theorem aJL (k:Nat)(l:List Nat)(n r:Nat)(h:n / 2^k≠0):Dec.pick k l n r=(n,r):=by
 cases l with
 | nil =>
  show Dec.pickz k 20 n r=_;show(if n / 2^k=0 then _ else _)=_;rw[if_neg h]
 | cons d l =>
  show(if n / 2^k=0 then _ else _)=_;rw[if_neg h]
theorem rA (n k:Nat):((n:Int) / 2^k)=((n / 2^k:Nat):Int):=by
 rw[Int.natCast_ediv];simp
theorem aEW (N C d:Nat)(hN:N≤1152921504606846976)(hC:C=d+48)(hd:d≤9) :
  ∃M S,IntKind.u64.wrap ((N:Int)*10)=(M:Int)∧IntKind.u64.wrap ((M:Int)+C)=(S:Int)∧IntKind.u64.wrap ((S:Int)-48)=((N*10+d:Nat):Int):=by
 refine⟨N*10,N*10+d+48,?_,?_,?_⟩
 ·rw[iY];omega
 ·rw[iY];omega
 ·rw[iY];omega
theorem aDT (N k:Nat)(hN:N<18446744073709551616)(hk:k<61):bits .and .u64 (N:Int) ((2^k-1:Nat):Int)=((N%2^k:Nat):Int):=by
 have:=aDL k hk;rw[u64_and_nat N (2^k-1) hN (by omega),Nat.and_two_pow_sub_one_eq_mod]
theorem aGJ (B k:Nat)(s:Dec.Dc)(w:World)(h:aC w B s)(hF:Dec.Fine s)(hn:1≤s.nd)(k1:1≤k)(k2:k<61)(p1:-100000000≤s.dp)(p2:s.dp≤100000000) :
  Calls Tryz.prog 289 #[.pointer (some ⟨B,0,none⟩),.int .u64 k] w (kN B (Dec.rsh k s) w):=by
 have hnd:=hF.le;obtain⟨dd,dr,f1,f2,_,f4,f5⟩:=Dec.fine_cons hF hn;have hds:∀d∈Dec.dgs s.D s.nd,d<10:=by rw[f1];exact f4
 have hlen:(Dec.dgs s.D s.nd).length=s.nd:=by rw[f1,List.length_cons];exact f5
 have hp:=Dec.pick_ok k (Dec.dgs s.D s.nd) 0 0 k2 hds (.inr ⟨dd,dr,f1,f2⟩) (by have:=Nat.two_pow_pos k;omega);obtain⟨_,_,g1,g2,g3,g4,g5,_⟩:=Dec.fullR_head k dd dr k1 k2 f2 f4;rw[←f1]at g4 g5
 obtain⟨NF,hNF⟩:∃NF,(Dec.pick k (Dec.dgs s.D s.nd) 0 0).1=NF:=⟨_,rfl⟩
 obtain⟨JF,hJF⟩:∃JF,(Dec.pick k (Dec.dgs s.D s.nd) 0 0).2=JF:=⟨_,rfl⟩
 have hpk:Dec.pick k (Dec.dgs s.D s.nd) 0 0=(NF,JF):=by rw[←hNF,←hJF]
 rw[hNF,hJF]at hp
 rw[hJF]at g4 g5
 have kp:=aDL k k2;have byt:∀j,j<s.nd→∃c:UInt8,s.D[j]?=some c∧(Dec.dgs s.D s.nd).drop j=Dec.un c :: (Dec.dgs s.D s.nd).drop (j+1)∧c.toNat=Dec.un c+48∧Dec.un c≤9:=by
  intro j hj;have hjD:j<s.D.length:=by have:=h.len;omega
  refine⟨s.D[j],List.getElem?_eq_getElem hjD,?_,?_⟩
  ·have:(Dec.dgs s.D s.nd)[j]?=some (Dec.un s.D[j]):=by
    unfold Dec.dgs;rw[List.getElem?_map,List.getElem?_take,if_pos hj,List.getElem?_eq_getElem hjD];rfl
   obtain⟨h1,h2⟩:=List.getElem?_eq_some_iff.1 this;rw[List.drop_eq_getElem_cons h1,h2]
  ·have:=hF.dig s.D[j] (List.mem_take_iff_getElem.2 ⟨j,by omega,rfl⟩);unfold Dec.un;omega
 have H:=hid h;have HF:=hid hF;have HDS:=hid hds;have HLEN:=hid hlen;have HP:=hid hp;have HPK:=hid hpk;have HBY:=hid byt;have HKP:=hid kp;have lsb:∀m,∀d∈(Dec.dgs s.D s.nd).drop m,d<10:=fun m d hd=>hds d (List.mem_of_mem_drop hd)
 have jb:JF≤821:=by omega
 have j1:1≤JF:=by omega
 have htop:∀e q,Dec.dgs s.D s.nd=e :: q→e≠0:=by
  intro e q he;rw[f1]at he
  injection he with h1 h2;rw[←h1];exact f2
 have HTOP:=hid htop;have c801:=h.dp;have f801:=h.fz 801;have c800:=h.nd;clear lsb htop h hF hds hlen hp hpk byt kp hNF hJF f1 f2 f4 f5 g1 g2 g3 g5;go_enter Tryz.func289,Tryz.ntmps289
 go_upto_block 0 with fail
 go_cut [4,6] (fun a b wx=>a=.int .i64 JF∧b=.int .u64 NF∧wx=w)
 case first =>
  as_aux_lemma =>
   go_wp2_with fail
   go_loopw [4,6] (fun r n wr=>∃j N:Nat,j≤s.nd∧r=.int .i64 (j:Int)∧n=.int .u64 (N:Int)∧Dec.pick k ((Dec.dgs s.D s.nd).drop j) N j=(NF,JF)∧N<10*2^k∧(1≤N∨j=0)∧wr=w) (fun r _ _=>s.nd-(intOf r).toNat)
   case atStart=>exact⟨0,0,Nat.zero_le _,rfl,rfl,HPK.out,by have:=Nat.two_pow_pos k;omega,.inr rfl,rfl⟩
   case round =>
    obtain⟨j,N,hj,rfl,rfl,hp,hN,h1,rfl⟩:=hrel;by_cases hq:N / 2^k=0
    ·have et:((N:Int) / 2^k==0)=true:=by rw[rA,hq];rfl
     have hN2:N<2^k:=by
      rcases Nat.lt_or_ge N (2^k)with g|g
      ·exact g
      ·have:=Nat.div_pos g (Nat.two_pow_pos k);omega
     have hN3:N≤1152921504606846976:=by have:=HKP.out;omega
     by_cases hjn:j<s.nd
     ·obtain⟨c,b1,b2,b3,b4⟩:=HBY.out j hjn;obtain⟨C,hC⟩:∃C,c.toNat=C:=⟨_,rfl⟩
      obtain⟨hjD,b1'⟩:=List.getElem?_eq_some_iff.1 b1;have ci:wr.cell? ⟨B,j,none⟩=some (.int .u8 (C:Int)):=by rw[H.out.byte j hjD,b1',hC]
      have cb:C≤57:=by omega
      obtain⟨M,S,e1,e2,e3⟩:=aEW N C (Dec.un c) hN3 (by omega) b4;obtain⟨R,hR⟩:∃R,N*10+Dec.un c=R:=⟨_,rfl⟩
      rw[hR]at e3
      have hp2:Dec.pick k ((Dec.dgs s.D s.nd).drop (j+1)) R (j+1)=(NF,JF):=by
       rw[←hp,b2,←hR];show _=(if N / 2^k=0 then _ else _)
       rw[if_pos hq]
      have hR2:R<10*2^k:=by rw[←hR];exact Dec.first_add k N _ hq (by omega)
      have hR1:1≤R∨j+1=0:=by
       left;rcases h1 with h1|h1
       ·omega
       ·subst h1;rw[List.drop_zero]at b2
        have:=HTOP.out _ _ b2;omega
      have HP2:=hid hp2;have HR2:=hid hR2;have HR1:=hid hR1;clear hp hN h1 hq hN2 hN3 b1 b2 b3 b4 hC b1' hjD hR hp2 hR2 hR1;go_wp2
      go_roundw
      case measure=>(simp[intOf];try omega)
      case rel=>exact⟨j+1,R,by omega,by go_num,rfl,HP2.out,HR2.out,HR1.out,by trivial⟩
     ·have hje:j=s.nd:=by omega
      subst hje;have hN1:1≤N:=by omega
      have ez:((N:Int)==0)=false:=beq_eq_false_iff_ne.2 (by omega);have hd0:(Dec.dgs s.D s.nd).drop s.nd=[]:=List.drop_eq_nil_of_le (by rw[HLEN.out];omega);rw[hd0]at hp
      have hpz:Dec.pickz k 20 N s.nd=(NF,JF):=hp;have hN4:2^k≤N*10^20:=by
       have h3:(1152921504606846976:Nat)≤10^20:=by decide
       have h4:1*10^20≤N*10^20:=Nat.mul_le_mul_right _ hN1;have:=HKP.out;omega
      have HPZ:=hid hpz;have HN:=hid hN;have HN4:=hid hN4;clear hp hN h1 hq hN2 hN3 hN1 hd0 hpz hN4 hjn;obtain⟨wo,rfl⟩:∃wo:World,wo=wr:=⟨_,rfl⟩
      go_wp2_with fail
      go_loop [4,6] (fun r n=>∃f j N:Nat,j+f=s.nd+20∧r=.int .i64 (j:Int)∧n=.int .u64 (N:Int)∧Dec.pickz k f N j=(NF,JF)∧2^k≤N*10^f∧N<10*2^k) (fun r _=>s.nd+20-(intOf r).toNat)
      case atStart=>exact⟨20,s.nd,N,rfl,rfl,rfl,HPZ.out,HN4.out,HN.out⟩
      case round =>
       clear et ez;obtain⟨f,j,N,hjf,rfl,rfl,hp,hl,hN⟩:=hrel;by_cases hq:N / 2^k=0
       ·have et:((N:Int) / 2^k==0)=true:=by rw[rA,hq];rfl
        have hN2:N<2^k:=by
         rcases Nat.lt_or_ge N (2^k)with g|g
         ·exact g
         ·have:=Nat.div_pos g (Nat.two_pow_pos k);omega
        cases f with
        | zero=>rw[Nat.pow_zero]at hl;omega
        | succ f =>
         obtain⟨R,hR⟩:∃R,N*10=R:=⟨_,rfl⟩
         have e1:IntKind.u64.wrap ((N:Int)*10)=(R:Int):=by rw[iY];have:=HKP.out;omega
         have hp2:Dec.pickz k f R (j+1)=(NF,JF):=by
          rw[←hp,←hR];show _=(if N / 2^k=0 then _ else _)
          rw[if_pos hq]
         have hl2:2^k≤R*10^f:=by rw[←hR,Nat.mul_assoc,←Nat.pow_succ'];exact hl
         have hR2:R<10*2^k:=by omega
         have HP2:=hid hp2;have HL2:=hid hl2;have HR2:=hid hR2;have jb2:j≤820:=by omega
         clear hp hl hN hq hN2 hR hp2 hl2 hR2;go_wp2
         go_round
         case measure=>(simp[intOf];try omega)
         case rel=>exact⟨f,j+1,R,by omega,by go_num,rfl,HP2.out,HL2.out,HR2.out⟩
       ·have et:((N:Int) / 2^k==0)=false:=by rw[rA];exact beq_eq_false_iff_ne.2 (by omega)
        have he:(N,j)=(NF,JF):=by
         rw[←hp];cases f with
         | zero=>rfl
         | succ f =>
          show _=(if N / 2^k=0 then _ else _)
          rw[if_neg hq]
        obtain⟨rfl,rfl⟩:=Prod.mk.inj he;clear hp hl hN hq he;go_wp2_with fail
        go_meet
        case rel=>exact⟨rfl,rfl,rfl⟩
    ·have et:((N:Int) / 2^k==0)=false:=by rw[rA];exact beq_eq_false_iff_ne.2 (by omega)
     have he:(N,j)=(NF,JF):=by rw[←hp,aJL _ _ _ _ hq]
     obtain⟨rfl,rfl⟩:=Prod.mk.inj he;clear hp hN hq he h1;go_wp2_with fail
     go_meet
     case rel=>exact⟨rfl,rfl,rfl⟩
 case rest =>
  as_aux_lemma =>
   obtain⟨rfl,rfl,rfl⟩:=hcut;obtain⟨dp',hdp⟩:∃dp':Int,s.dp-(JF-1)=dp':=⟨_,rfl⟩
   have H2:=H.out.setDpV dp' (s.dp-(JF-1)) hdp;have H2:=hid H2;obtain⟨E,hE⟩:∃E,2^k=E:=⟨_,rfl⟩
   obtain⟨MK,hMK⟩:∃MK,2^k-1=MK:=⟨_,rfl⟩
   have hE':((2:Int)^k)=(E:Int):=by rw[←hE];simp
   have em1:IntKind.u64.wrap (2^k)=(E:Int):=by rw[iY,hE'];have:=HKP.out;omega
   have em2:IntKind.u64.wrap ((E:Int)-1)=(MK:Int):=by rw[iY];have:=HKP.out;have:=Nat.two_pow_pos k;omega
   have HMK:=hid hMK;have HDP:=hid hdp;have hpk:=HPK.out;have hpp:=HP.out;have HPP:=hid hpp;have HPK2:=hid hpk;clear hdp hE hE' hMK hpk hpp;go_wp2_with fail
   go_loopw [4,5,6] (fun r wv n wr=>∃(j N:Nat) (xs:List Nat),r=.int .i64 (j:Int)∧wv=.int .i64 (xs.length:Nat)∧n=.int .u64 (N:Int)∧xs.length+JF=j∧(j≤s.nd∨j=JF)∧N<10*2^k ∧
    xs++Dec.out2 k N ((Dec.dgs s.D s.nd).drop j)=Dec.out2 k NF ((Dec.dgs s.D s.nd).drop JF)∧Dec.left2 k N ((Dec.dgs s.D s.nd).drop j)=Dec.left2 k NF ((Dec.dgs s.D s.nd).drop JF)∧aD (· = B) wc wr ∧
    aC wr B { s with D:=Dec.ow s.D 0 (xs.map Dec.ch),dp:=dp' }) (fun r _ _ _=>s.nd-(intOf r).toNat)
   case atStart =>
    exact⟨JF,NF,[],rfl,rfl,rfl,by simp,.inr rfl,HPP.out.2.1,rfl,rfl,(aD.refl _ wc).setCell _ _ (fun _=>rfl),by rw[List.map_nil,Dec.ow_nil];exact H2.out⟩
   case round =>
    obtain⟨j,N,xs,rfl,rfl,rfl,hj,hjn,hN,hx,hl,hK,hD⟩:=hrel;have HK:=hid hK;have HD:=hid hD;obtain⟨q,hq⟩:∃q,N / 2^k=q:=⟨_,rfl⟩
    have edig:(N:Int) / 2^k=(q:Int):=by rw[rA,hq]
    have q9:q≤9:=by
     have:N / 2^k<10:=(Nat.div_lt_iff_lt_mul (Nat.two_pow_pos k)).2 hN;omega
    obtain⟨R,hR⟩:∃R,N%2^k=R:=⟨_,rfl⟩
    have hN64:N<18446744073709551616:=by have:=HKP.out;omega
    have eand:bits .and .u64 (N:Int) (MK:Int)=(R:Int):=by rw[←HMK.out,aDT N k hN64 k2,hR]
    have hR60:R≤1152921504606846976:=by
     have:=Nat.mod_lt N (Nat.two_pow_pos k);have:=HKP.out;omega
    have hcq:((Dec.ch q).toNat:Int)=(q:Int)+48:=by rw[Dec.ch_nat q (by omega)];omega
    have f800:=hD.fz 800;have c800:wr.cell? ⟨B,800,none⟩=some (.int .i64 s.nd):=hD.nd;by_cases hlt:j<s.nd
    ·obtain⟨c,b1,b2,b3,b4⟩:=HBY.out j hlt;obtain⟨W,hW⟩:∃W,xs.length=W:=⟨_,rfl⟩
     have hW8:W<800:=by omega
     obtain⟨C,hC⟩:∃C,c.toNat=C:=⟨_,rfl⟩
     have ci:wr.cell? ⟨B,j,none⟩=some (.int .u8 (C:Int)):=by
      have hjO:j<(Dec.ow s.D 0 (xs.map Dec.ch)).length:=by rw[Dec.ow_len _ _ _ H.out.len];omega
      have g:(Dec.ow s.D 0 (xs.map Dec.ch))[j]?=some c:=by
       rw[Dec.ow_get _ _ _ H.out.len,if_neg (by omega),if_neg (by rw[List.length_map];omega),b1]
      have:=hD.byte j hjO;rw[show(Dec.ow s.D 0 (xs.map Dec.ch))[j]=c from(List.getElem?_eq_some_iff.1 g).2,hC]at this
      exact this
     have cb:C≤57:=by omega
     obtain⟨M,S,e1,e2,e3⟩:=aEW R C (Dec.un c) hR60 (by omega) b4;obtain⟨N',hN'⟩:∃N',R*10+Dec.un c=N':=⟨_,rfl⟩
     rw[hN']at e3
     have hre:Dec.rest k N+Dec.un c=N':=by unfold Dec.rest;rw[hR,hN']
     have hx2:(xs++[q])++Dec.out2 k N' ((Dec.dgs s.D s.nd).drop (j+1))=Dec.out2 k NF ((Dec.dgs s.D s.nd).drop JF):=by
      rw[←hx,b2,List.append_assoc];show _=xs++(N / 2^k :: Dec.out2 k (Dec.rest k N+Dec.un c) _)
      rw[hq,hre];rfl
     have hl2:Dec.left2 k N' ((Dec.dgs s.D s.nd).drop (j+1))=Dec.left2 k NF ((Dec.dgs s.D s.nd).drop JF):=by
      rw[←hl,b2];show _=Dec.left2 k (Dec.rest k N+Dec.un c) _;rw[hre]
     have hN2:N'<10*2^k:=by rw[←hre];exact(Dec.rest_add k N _ (by omega)).1
     have fB:=hD.fz W;obtain⟨cold,cw⟩:∃x:Value,wr.cell? ⟨B,W,none⟩=some x:=⟨_,hD.byte W (by rw[Dec.ow_len _ _ _ H.out.len];exact hW8)⟩
     have HX2:=hid hx2;have HL2:=hid hl2;have HN2:=hid hN2;have HCQ:=hid hcq;have HW:=hid hW;have HJ:=hid hj;rw[hW];clear hK hD hj hjn hN hx hl hq hR hN64 hR60 hcq b1 b2 b3 b4 hC hN' hre hx2 hl2 hN2 hW;go_wp2
     go_roundw
     case measure=>(simp[intOf];try omega)
     case rel =>
      refine⟨j+1,N',xs++[q],by go_num,?_,rfl,?_,.inl (by omega),HN2.out,HX2.out,HL2.out,HK.out.setCell _ _ (fun _=>rfl),?_⟩
      ·exact congrArg (Value.int .i64) (by rw[List.length_append,HW.out];rfl)
      ·rw[List.length_append,HW.out];have:=HJ.out;have:=HW.out;simp only[List.length_singleton];omega
      ·have hlm:(xs.map Dec.ch).length=W:=by rw[List.length_map,HW.out]
       have:=HD.out.setByte W hW8 (Dec.ch q) _ HCQ.out.symm;rw[List.map_append,List.map_singleton,←Dec.ow_snoc _ _ _ H.out.len (by omega),hlm];exact this
    ·have hd0:(Dec.dgs s.D s.nd).drop j=[]:=List.drop_eq_nil_of_le (by rw[HLEN.out];omega);rw[hd0]at hx hl
     have hx0:xs=Dec.out2 k NF ((Dec.dgs s.D s.nd).drop JF):=by rw[←hx];exact(List.append_nil xs).symm
     have hl0:N=Dec.left2 k NF ((Dec.dgs s.D s.nd).drop JF):=hl;have hfull:Dec.fullR k (Dec.dgs s.D s.nd)=xs++Dec.out3 k (k+2) N:=by
      unfold Dec.fullR;rw[HPK2.out,←hx0,←hl0]
     have hxl:xs.length≤800:=by omega
     have HF2:=hid hfull;have HN:=hid hN;obtain⟨W,hW⟩:∃W,xs.length=W:=⟨_,rfl⟩
     have HW:=hid hW;rw[hW];rw[hW]at hxl
     clear hK hD hj hjn hN hx hl hq hR hN64 hR60 hcq hd0 hx0 hl0 hfull edig eand hW q9;obtain⟨wo,rfl⟩:∃wo:World,wo=wr:=⟨_,rfl⟩
     go_wp2_with fail
     go_loopg [5,6] (k+1) (fun g wv n wr=>∃(f N:Nat) (zs:List Nat),g=f∧wv=.int .i64 (min zs.length 800:Nat)∧n=.int .u64 (N:Int)∧Dec.restN k f N=0∧zs++Dec.out3 k (f+1) N=Dec.fullR k (Dec.dgs s.D s.nd)∧N<10*2^k∧aD (· = B) wc wr ∧
      aC wr B { s with D:=Dec.ow s.D 0 (zs.map Dec.ch),dp:=dp',trunc:=s.trunc||Dec.over 0 (zs.map Dec.ch) })
     case atStart =>
      refine⟨k+1,N,xs,rfl,?_,rfl,Dec.rest_all k N,HF2.out.symm,HN.out,HK.out,?_⟩
      ·exact congrArg (Value.int .i64) (by rw[HW.out];omega)
      ·have:Dec.over 0 (xs.map Dec.ch)=false:=by
        unfold Dec.over;rw[List.drop_eq_nil_of_le (by rw[List.length_map,HW.out];omega)];rfl
       rw[this,Bool.or_false];exact HD.out
     case round =>
      clear c800;obtain⟨f,N,zs,hg,rfl,rfl,hr,hz,hN,hK,hD⟩:=hrel;have HG:=hid hg;have HK3:=hid hK;have HD3:=hid hD;obtain⟨W2,hW2⟩:∃W2,min zs.length 800=W2:=⟨_,rfl⟩
      have HW2:=hid hW2;rw[hW2];by_cases hN0:N=0
      ·subst hN0;have hz0:zs=Dec.fullR k (Dec.dgs s.D s.nd):=by
        rw[←hz];show _=zs++(if 0=0 then []else _)
        rw[if_pos rfl,List.append_nil]
       have c800:wr.cell? ⟨B,800,none⟩=some (.int .i64 s.nd):=hD.nd;have f800:=hD.fz 800;have f801:=hD.fz 801;have ersh:Dec.rshD k s={ ({ s with D:=Dec.ow s.D 0 (zs.map Dec.ch),dp:=dp',trunc:=s.trunc||Dec.over 0 (zs.map Dec.ch) }:Dec.Dc)with nd:=W2 }:=by
        unfold Dec.rshD;rw[←hz0,HPK2.out,←HDP.out,←hW2,List.length_map]
       have HEL:=hid ersh;have w28:W2≤800:=by omega
       clear hr hz hN hK hD hW2 hz0 ersh hg;go_wp2_with fail
       refine(aAP B (Dec.rshD k s) _ ?_ ?_).mono ?_
       ·rw[HEL.out];exact HD3.out.setNdV W2 _ rfl
       ·rw[HEL.out];exact w28
       rintro e w' ⟨rfl,hd',hk'⟩;have HD':=hid hd';have HK':=hid hk';clear hd' hk';go_wp2
       go_end0
       exact⟨rfl,HD'.out,(HK3.out.setCell _ _ (fun _=>rfl)).trans HK'.out⟩
      ·cases f with
       | zero=>exact absurd hr hN0
       | succ f =>
        have hNp:(0:Int)<N:=by omega
        obtain⟨q,hq⟩:∃q,N / 2^k=q:=⟨_,rfl⟩
        have edig:(N:Int) / 2^k=(q:Int):=by rw[rA,hq]
        have q9:q≤9:=by
         have:N / 2^k<10:=(Nat.div_lt_iff_lt_mul (Nat.two_pow_pos k)).2 hN;omega
        obtain⟨R,hR⟩:∃R,N%2^k=R:=⟨_,rfl⟩
        have hN64:N<18446744073709551616:=by have:=HKP.out;omega
        have eand:bits .and .u64 (N:Int) (MK:Int)=(R:Int):=by rw[←HMK.out,aDT N k hN64 k2,hR]
        obtain⟨N',hN'⟩:∃N',R*10=N':=⟨_,rfl⟩
        have e1:IntKind.u64.wrap ((R:Int)*10)=(N':Int):=by
         rw[iY];have:=Nat.mod_lt N (Nat.two_pow_pos k);have:=HKP.out;omega
        have hre:Dec.rest k N=N':=by unfold Dec.rest;rw[hR,hN']
        have hr2:Dec.restN k f N'=0:=by rw[←hre];exact hr
        have hz2:(zs++[q])++Dec.out3 k (f+1) N'=Dec.fullR k (Dec.dgs s.D s.nd):=by
         rw[←hz,List.append_assoc];show _=zs++(if N=0 then []else N / 2^k :: Dec.out3 k (f+1) (Dec.rest k N))
         rw[if_neg hN0,hq,hre];rfl
        have hN2:N'<10*2^k:=by rw[←hre];exact Dec.rest_lt k N
        have hcq:((Dec.ch q).toNat:Int)=(q:Int)+48:=by rw[Dec.ch_nat q (by omega)];omega
        have HR2:=hid hr2;have HZ2:=hid hz2;have HN2:=hid hN2;have HCQ:=hid hcq;have f803:=hD.fz 803;have fB:=hD.fz W2;have c803:wr.cell? ⟨B,803,none⟩=some (.bool _):=hD.trunc;by_cases hlt:zs.length<800
        ·have hW3:zs.length=W2:=by omega
         have HW3:=hid hW3;have hW8:W2<800:=by omega
         obtain⟨cold,cw⟩:∃x:Value,wr.cell? ⟨B,W2,none⟩=some x:=⟨_,hD.byte W2 (by rw[Dec.ow_len _ _ _ H.out.len];exact hW8)⟩
         clear hr hz hN hK hD hg hW2 hN0 hq hR hN64 hN' hre hr2 hz2 hN2 hcq hW3;go_wp2
         go_roundg f
         case measure=>have:=HG.out;omega
         case rel =>
          refine⟨f,N',zs++[q],rfl,?_,rfl,HR2.out,HZ2.out,HN2.out,HK3.out.setCell _ _ (fun _=>rfl),?_⟩
          ·exact congrArg (Value.int .i64) (by rw[List.length_append,HW3.out,List.length_singleton];omega)
          ·have hlm:(zs.map Dec.ch).length=W2:=by rw[List.length_map,HW3.out]
           have:=HD3.out.setByte W2 hW8 (Dec.ch q) _ HCQ.out.symm;rw[List.map_append,List.map_singleton,←Dec.ow_snoc _ _ _ H.out.len (by omega),hlm,Dec.over_snoc_in _ _ (by omega)];exact this
        ·have hge:800≤(zs.map Dec.ch).length:=by rw[List.length_map];omega
         have hW8:W2=800:=by omega
         subst hW8;have HGE:=hid hge;by_cases h0:q=0
         ·subst h0;clear hr hz hN hK hD hg hW2 hN0 hq hR hN64 hN' hre hr2 hz2 hN2 hcq hge;go_wp2
          go_roundg f
          case measure=>have:=HG.out;omega
          case rel =>
           refine⟨f,N',zs++[0],rfl,?_,rfl,HR2.out,HZ2.out,HN2.out,HK3.out,?_⟩
           ·exact congrArg (Value.int .i64) (by rw[List.length_append,List.length_singleton];omega)
           ·rw[List.map_append,List.map_singleton,←Dec.ow_full _ _ _ HGE.out H.out.len,Dec.over_snoc_out _ _ HGE.out];have e0:(Dec.ch 0 !=48)=false:=by decide
            rw[e0,Bool.or_false];exact HD3.out
         ·have hqp:(0:Int)<q:=by omega
          clear hr hz hN hK hD hg hW2 hN0 hq hR hN64 hN' hre hr2 hz2 hN2 hcq hge;go_wp2
          go_roundg f
          case measure=>have:=HG.out;omega
          case rel =>
           refine⟨f,N',zs++[q],rfl,?_,rfl,HR2.out,HZ2.out,HN2.out,HK3.out.setCell _ _ (fun _=>rfl),?_⟩
           ·exact congrArg (Value.int .i64) (by rw[List.length_append,List.length_singleton];omega)
           ·rw[List.map_append,List.map_singleton,←Dec.ow_full _ _ _ HGE.out H.out.len,Dec.over_snoc_out _ _ HGE.out];have e0:(Dec.ch q !=48)=true:=by
             rw[bne_iff_ne];intro e;have:=congrArg UInt8.toNat e;rw[Dec.ch_nat q (by omega)]at this
             have e48:(48:UInt8).toNat=48:=rfl;omega
            rw[e0,Bool.or_true,Bool.or_true];exact HD3.out.setTr true
end Go.Proofs.YtcfgbdhpcboikaaGreatDoor
