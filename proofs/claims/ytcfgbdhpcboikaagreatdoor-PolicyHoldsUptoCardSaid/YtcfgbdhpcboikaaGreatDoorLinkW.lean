/-
policy.Link and small: what they answer.
-/
import Derived.Test.YtcfgbdhpcboikaaGreatDoorNum
namespace Go.Proofs.YtcfgbdhpcboikaaGreatDoor
open Go.Lib (hid)
set_option maxHeartbeats 4000000
set_option maxRecDepth 100000
open Go.RowKit
theorem aBr {n:Nat}:n≤n:=Nat.le_refl n
theorem jP (l:List UInt8):(⟨l.toArray⟩:ByteArray).size=l.length:=rfl
theorem tB (l:List UInt8):(cT l).length≤3*l.length:=Nat.le_trans (aMz l) (aCd l.length l aBr)
theorem aEt (s:ByteArray)(hs:s.size≤1000000000)(w:World)(T:aA w):Calls Tryz.prog 34 #[.string s] w fun e w'=>e=.returned (.string ⟨(cM s.data.toList).toArray⟩)∧Below w.heap.size w w':=by
 have HT:=hid T;clear T;have htl:=tB s.data.toList;have hsl:s.data.toList.length=s.size:=rfl;have h1:(⟨(cT s.data.toList).toArray⟩:ByteArray).size<4294967281:=by rw[jP];omega
 have h2:((cT s.data.toList).filter (fun b=>b !=9)).length≤(cT s.data.toList).length:=List.length_filter_le ..;have h3:(((cT s.data.toList).filter (fun b=>b !=9)).filter (fun b=>b !=10)).length≤((cT s.data.toList).filter (fun b=>b !=9)).length:=List.length_filter_le ..;have H1:=hid h1;have H2:=hid h2;have H3:=hid h3;have HL:=hid htl;have HSL:=hid hsl;clear h1 h2 h3 htl hsl;go_enter Tryz.func34,Tryz.ntmps34
 go_wp2_with fail
 refine(wA s hs w HT.out).mono ?_;rintro e W1 ⟨rfl,B1⟩;have HB1:=hid B1;have HT1:=hid (HT.out.below HB1.out aBr);clear B1;go_wp2_with fail
 obtain⟨m,hm⟩:=HT1.out.most;refine(Tryz.strings_ReplaceAll ⟨(cT s.data.toList).toArray⟩ ⟨#[9]⟩ ⟨#[]⟩ m _ H1.out hm (by decide) ?_).mono ?_
 ·have e:(⟨#[]⟩:ByteArray).size=0:=rfl;rw[e,Nat.mul_zero];have:=H1.out;omega
 have e1:Lib.replaceAll (⟨(cT s.data.toList).toArray⟩:ByteArray).data.toList (⟨#[9]⟩:ByteArray).data.toList (⟨#[]⟩:ByteArray).data.toList=(cT s.data.toList).filter (fun b=>b !=9):=uM 9 _;rw[e1];rintro e W2 ⟨rfl,B2⟩;have HB2:=hid (HB1.out.trans (B2.mono HB1.out.size));have HT2:=hid (HT.out.below HB2.out aBr);clear B2 e1 hm;go_wp2_with fail
 obtain⟨m2,hm2⟩:=HT2.out.most;have h4:(⟨((cT s.data.toList).filter (fun b=>b !=9)).toArray⟩:ByteArray).size<4294967281:=by
  rw[jP];have:=H2.out;have:=HL.out;have:=HSL.out;omega
 refine(Tryz.strings_ReplaceAll ⟨((cT s.data.toList).filter (fun b=>b !=9)).toArray⟩ ⟨#[10]⟩ ⟨#[]⟩ m2 _ h4 hm2 (by decide) ?_).mono ?_
 ·have e:(⟨#[]⟩:ByteArray).size=0:=rfl;rw[e,Nat.mul_zero];omega
 have e2:Lib.replaceAll (⟨((cT s.data.toList).filter (fun b=>b !=9)).toArray⟩:ByteArray).data.toList (⟨#[10]⟩:ByteArray).data.toList (⟨#[]⟩:ByteArray).data.toList=fD s.data.toList:=uM 10 _;rw[e2];rintro e W3 ⟨rfl,B3⟩;have HB3:=hid (HB2.out.trans (B3.mono HB2.out.size));clear B3 e2 hm2 h4;go_wp2_with fail
 have h5:(⟨(fD s.data.toList).toArray⟩:ByteArray).size≤9223372036854775807:=by
  rw[jP];have:=H2.out;have:=H3.out;have:=HL.out;have:=HSL.out;unfold fD;omega
 refine(Tryz.strings_Trim_one ⟨(fD s.data.toList).toArray⟩ 32 (by decide) _ h5).mono ?_;clear h5;rintro e W4 ⟨rfl,hW4⟩;have HB4:Hid (Below w.heap.size w W4):=by
  rcases hW4 with rfl|rfl
  ·exact HB3.out
  ·exact HB3.out.drew
 clear hW4;go_wp2
 go_ret;exact⟨rfl,HB4.out⟩
def nQ (w:World)(B:Nat)(L:List UInt8):Prop :=
 ∃cur:Array Value,w.heap[B]?=some (.cells cur 5 (cur.size,cur.size+1))∧L.length≤cur.size∧∀j (h:j<L.length),cur[j]?=some (.int .u8 (L[j].toNat:Nat))
theorem nQ.bytes {w:World}{B:Nat}{L:List UInt8}(h:nQ w B L):bP w B 0 L:=by
 obtain⟨cur,h1,h2,h3⟩:=h;intro j hj;rw[Nat.zero_add,cell_of_row w B j cur 5 _ h1];exact h3 j hj
theorem nQ.free {w:World}{B:Nat}{L:List UInt8}(h:nQ w B L){j:Nat}(hj:j<L.length):w.frozen? ⟨B,j,none⟩=false:=by
 obtain⟨cur,h1,h2,h3⟩:=h;simp only[World.frozen?,h1,Bool.and_eq_false_iff,decide_eq_false_iff_not];left;omega
theorem nQ.lt {w:World}{B:Nat}{L:List UInt8}(h:nQ w B L):B<w.heap.size:=by
 obtain⟨cur,h1,_⟩:=h;exact(Array.getElem?_eq_some_iff.1 h1).1
theorem nQ.set {w:World}{B:Nat}{L:List UInt8}(h:nQ w B L)(j:Nat)(hj:j<L.length)(c:UInt8)(v:Value)(hv:v=.int .u8 (c.toNat:Nat)):nQ (w.setCell ⟨B,j,none⟩ v) B (L.set j c):=by
 obtain⟨cur,h1,h2,h3⟩:=h;subst hv;rw[setCell_eq_setRow w B j cur 5 _ _ h1];refine⟨cur.setIfInBounds j (.int .u8 (c.toNat:Nat)),?_,by simpa using h2,?_⟩
 ·have:=setRow_heap w B cur (cur.setIfInBounds j (.int .u8 (c.toNat:Nat))) 5 _ h1;simpa using this
 ·intro i hi;have hi':i<L.length:=by simpa using hi
  by_cases e:j=i
  ·subst e;rw[Array.getElem?_setIfInBounds_self_of_lt (by omega)];simp
  ·rw[Array.getElem?_setIfInBounds_ne e,h3 i hi'];simp[e]
theorem aAq (s:ByteArray)(w:World):∃cap W,(convert 9 35 (.string s)).run Tryz.prog w=.ok (.slice (some ⟨w.heap.size,0,none⟩) s.size cap) W∧Below w.heap.size w W∧nQ W w.heap.size s.data.toList∧s.size≤cap:=by
 obtain⟨cap,W,h1,h2,h3,h4,h5⟩:=qI s w;refine⟨cap,W,h1,h2,?_,h4⟩;have e:=Lib.run_convert_string_bytes (P:=Tryz.prog) w 9 35 5 s Tryz.underlying9 Tryz.underlying35 Tryz.underlying5;rw[h1]at e
 cases e;refine⟨_,Lib.bytesWorld_at_new w 5 s,?_,?_⟩
 ·unfold Lib.bytesCells;simp
 ·intro j hj;have hj':j<s.data.size:=hj;unfold Lib.bytesCells;rw[Array.getElem?_append_left (by simpa using hj')];rw[Array.getElem?_map,Array.getElem?_eq_getElem hj'];simp
open Go.RowKit
def oL (L:List UInt8)(B k:Nat)(w wx:World):Prop:=k≤L.length∧nQ wx B (bK (L.take k)++L.drop k)∧Below B w wx
theorem aC9 (L:List UInt8)(k:Nat)(h:k≤L.length):(bK (L.take k)++L.drop k).length=L.length:=by
 unfold bK;simp;omega
theorem aFe (L:List UInt8)(k:Nat)(h:k<L.length):(bK (L.take k)++L.drop k)[k]'(by rw[aC9 L k (by omega)];exact h)=L[k]:=by
 have hl:(bK (L.take k)).length=k:=by unfold bK;simp;omega
 rw[List.getElem_append_right (by omega)];simp[hl]
theorem aBZ (L:List UInt8)(k:Nat)(h:k<L.length):(bK (L.take k)++L.drop k).set k (bB L[k])=bK (L.take (k+1))++L.drop (k+1):=by
 have hl:(bK (L.take k)).length=k:=by unfold bK;simp;omega
 rw[List.set_append_right _ _ (by omega),hl,Nat.sub_self,List.drop_eq_getElem_cons h,List.set_cons_zero,List.take_succ_eq_append_getElem h];unfold bK;rw[List.map_append,List.map_cons,List.map_nil,List.append_assoc,List.singleton_append]
theorem aH1 (L:List UInt8)(k:Nat)(h:k<L.length)(hs:bB L[k]=L[k]):bK (L.take k)++L.drop k=bK (L.take (k+1))++L.drop (k+1):=by
 rw[←aBZ L k h,hs];have:=aFe L k h;conv=>rhs;rw[←this]
 rw[List.set_getElem_self]
theorem aBY (L:List UInt8)(B k:Nat)(w wx:World)(h:oL L B k w wx)(hk:k<L.length):∃c:UInt8,wx.cell? ⟨B,k,none⟩=some (.int .u8 (c.toNat:Nat))∧wx.frozen? ⟨B,k,none⟩=false ∧
  (bB c=c→oL L B (k+1) w wx)∧(∀v,v=.int .u8 ((bB c).toNat:Nat)→oL L B (k+1) w (wx.setCell ⟨B,k,none⟩ v)):=by
 obtain⟨h1,h2,h3⟩:=h;have hl:=aC9 L k h1;refine⟨L[k],?_,h2.free (by omega),fun e=>⟨hk,by rw[←aH1 L k hk e];exact h2,h3⟩,fun v hv=>⟨hk,?_,h3.setCell (p:=⟨B,k,none⟩) aBr _⟩⟩
 ·have:=h2.bytes k (by omega);rw[aFe L k hk,Nat.zero_add]at this
  exact this
 ·rw[←aBZ L k hk];exact h2.set k (by omega) _ v hv
theorem aC8 (s:ByteArray)(hs:s.size≤140737488355328)(w:World):Calls Tryz.prog 72 #[.string s] w fun e w'=>e=.returned (.string ⟨(bK s.data.toList).toArray⟩)∧Below w.heap.size w w':=by
 obtain⟨cap,W,hrun,hb,hrow,hcap⟩:=aAq s w;have H0:Hid (oL s.data.toList w.heap.size 0 w W):=⟨Nat.zero_le _,hrow,hb⟩
 have HC:=hid hcap;clear hb hrow hcap;go_enter Tryz.func72,Tryz.ntmps72
 go_wp2
 go_loopw [10] (fun i wx=>∃k:Nat,i=.int .i64 k∧Hid (oL s.data.toList w.heap.size k w wx)) (fun i _=>s.size-(intOf i).toNat)
 case atStart=>exact⟨0,rfl,H0⟩
 case round =>
  obtain⟨k,rfl,hR⟩:=hrel;rcases Nat.lt_or_ge k s.size with hlt|hge
  ·obtain⟨c,hcell,hfree,h1,h2⟩:=aBY _ _ _ _ _ hR.out hlt;have H1:=hid h1;have H2:=hid h2;have hb8:=c.toNat_lt;have HN:=hid (qS c);clear h1 h2;by_cases hc:65≤c.toNat∧c.toNat≤90
   ·have hc1:65≤c.toNat:=hc.1;have hc2:c.toNat≤90:=hc.2;have l1:decide (65≤(c.toNat:Int))=true:=by simp;omega
    have l2:decide ((c.toNat:Int)≤90)=true:=by simp;omega
    have HE:Hid ((bB c).toNat=c.toNat+32):=by
     show _=_;rw[HN.out,if_pos hc]
    clear hc;go_wp2
    refine⟨⟨k+1,by congr 1,H2.out _ (by rw[HE.out];congr 1)⟩,?_⟩;simp[intOf];omega
   ·have HE:Hid (bB c=c):=by
     show _=_;apply UInt8.toNat_inj.1;rw[HN.out,if_neg hc]
    rcases Nat.lt_or_ge c.toNat 65 with hc1|hc1
    ·have l1:decide (65≤(c.toNat:Int))=false:=by simp;omega
     clear hc;go_wp2
     refine⟨⟨k+1,by congr 1,H1.out HE.out⟩,?_⟩;simp[intOf];omega
    ·have l1:decide (65≤(c.toNat:Int))=true:=by simp;omega
     have l2:decide ((c.toNat:Int)≤90)=false:=by simp;omega
     clear hc;go_wp2
     refine⟨⟨k+1,by congr 1,H1.out HE.out⟩,?_⟩;simp[intOf];omega
  ·have hR2:=hR.out.2.1;have hk:k=s.data.toList.length:=Nat.le_antisymm hR.out.1 hge;rw[hk,List.take_length,List.drop_length,List.append_nil]at hR2
   have hlen:(bK s.data.toList).length=s.size:=by unfold bK;simp
   have hcv:(convert 35 9 (.slice (some ⟨w.heap.size,0,none⟩) s.size cap)).run Tryz.prog wr=.ok (.string ⟨(bK s.data.toList).toArray⟩) wr:=by
    rw[←hlen];refine run_convert_bytes_back wr 35 9 5 _ cap _ Tryz.underlying35 Tryz.underlying5 Tryz.underlying9 ?_;intro j hj;have hadd:(⟨w.heap.size,0,none⟩:Addr).add j=⟨w.heap.size,0+j,none⟩:=by unfold Addr.add;split<;>simp_all
    rw[hadd];exact hR2.bytes j hj
   clear hR2 hlen hk;go_wp2
   go_ret;exact⟨rfl,hR.out.2.2⟩
open Go.RowKit
def iF (l:List UInt8):Value:=match fP l with
 | some w=>.tuple #[.string ⟨w.toArray⟩,.bool true]
 | none=>.tuple #[.string ⟨#[]⟩,.bool false]
theorem lD {l w:List UInt8}(h:fP l=some w):iF l=.tuple #[.string ⟨w.toArray⟩,.bool true]:=by unfold iF;rw[h]
theorem gQ {l:List UInt8}(h:fP l=none):iF l=.tuple #[.string ⟨#[]⟩,.bool false]:=by unfold iF;rw[h]
theorem aKg (s:ByteArray)(hs:s.size<4294967281)(h:(58:UInt8)∉s.data.toList)(w:World)(T:aA w):Calls Tryz.prog 30 #[.string s] w fun e w'=>e=.returned (.tuple #[.string ⟨#[]⟩,.bool false])∧Below w.heap.size w w':=by
 obtain⟨m,hm⟩:=T.most;have C:=Tryz.strings_Cut s ⟨#[58]⟩ m w hs hm;have hc:Lib.cut s.data.toList (⟨#[58]⟩:ByteArray).data.toList=(s.data.toList,[],false):=aD3 _ 58 h;rw[hc]at C
 dsimp only at C
 have HC:=hid C;clear C hm T hc h;go_enter Tryz.func30,Tryz.ntmps30
 go_wp2_with fail
 refine HC.out.mono ?_;rintro e W1 ⟨rfl,hW⟩;have HB1:Hid (Below w.heap.size w W1):=by obtain⟨n,rfl⟩:=hW;exact below_drewNm w n
 clear hW;go_wp2
 go_ret2;exact⟨rfl,HB1.out⟩
theorem aF3 (s:ByteArray)(q:List UInt8)(hs:s.size<4294967281)(h:s.data.toList=58 :: q)(w:World)(T:aA w):Calls Tryz.prog 30 #[.string s] w fun e w'=>e=.returned (.tuple #[.string ⟨#[]⟩,.bool false])∧Below w.heap.size w w':=by
 obtain⟨m,hm⟩:=T.most;have C:=Tryz.strings_Cut s ⟨#[58]⟩ m w hs hm;have hc:Lib.cut s.data.toList (⟨#[58]⟩:ByteArray).data.toList=([],q,true):=by rw[h];exact aCb [] q 58 (by simp)
 rw[hc]at C
 dsimp only at C
 have HC:=hid C;clear C hm T hc h;go_enter Tryz.func30,Tryz.ntmps30
 go_wp2_with fail
 refine HC.out.mono ?_;rintro e W1 ⟨rfl,hW⟩;have HB1:Hid (Below w.heap.size w W1):=by obtain⟨n,rfl⟩:=hW;exact below_drewNm w n
 clear hW;go_wp2
 go_ret2;exact⟨rfl,HB1.out⟩
def mB (p:List UInt8)(k:Nat):Prop:=k≤p.length∧∀j (h:j<p.length),j<k→aI (bB p[j]) j=true
theorem mB.step {p:List UInt8}{k:Nat}(h:mB p k)(hk:k<p.length)(hb:aI (bB p[k]) k=true):mB p (k+1) :=
 ⟨hk,fun j hj hlt=>by
  rcases Nat.lt_or_ge j k with h1|h1
  ·exact h.2 j hj h1
  ·obtain rfl:j=k:=by omega
   exact hb⟩
theorem mB.all {p:List UInt8}{k:Nat}(h:mB p k)(hk:p.length≤k):gH 0 p=true:=by
 rw[mQ];intro j c hc;have hj:j<p.length:=(List.getElem?_eq_some_iff.1 hc).1;rw[List.getElem?_eq_getElem hj]at hc
 cases hc;rw[Nat.zero_add];exact h.2 j hj (by omega)
theorem bS {p:List UInt8}{k:Nat}(hk:k<p.length)(hb:aI (bB p[k]) k=false):¬gH 0 p=true:=by
 intro h;rw[mQ]at h
 have:=h k p[k] (List.getElem?_eq_getElem hk);rw[Nat.zero_add,hb]at this
 cases this
def aQ9 (p:List UInt8)(e:Ending):Prop:=¬gH 0 p=true∧e=.returned (.tuple #[.string ⟨#[]⟩,.bool false])
def aQq (p:List UInt8)(e:Ending):Prop:=gH 0 p=true∧e=.returned (.tuple #[.string ⟨(bK p).toArray⟩,.bool true])
def aQx (p:List UInt8)(w:World)(e:Ending)(w':World):Prop:=(aQq p e∨aQ9 p e)∧Below w.heap.size w w'
theorem aF4 (s:ByteArray)(p q:List UInt8)(hs:s.size<4294967281)(h:s.data.toList=p++58 :: q)(h58:(58:UInt8)∉p)(hp:p≠[])(w:World)(T:aA w):Calls Tryz.prog 30 #[.string s] w (aQx p w):=by
 obtain⟨m,hm⟩:=T.most;have C:=Tryz.strings_Cut s ⟨#[58]⟩ m w hs hm;have hc:Lib.cut s.data.toList (⟨#[58]⟩:ByteArray).data.toList=(p,q,true):=by rw[h];exact aCb p q 58 h58
 rw[hc]at C
 dsimp only at C
 have hps:p.length≤s.size:=by
  have e:s.size=s.data.toList.length:=rfl;rw[e,h,List.length_append];omega
 obtain⟨wd,hwd⟩:∃wd:ByteArray,wd=⟨p.toArray⟩:=⟨_,rfl⟩
 have hwl:wd.data.toList=p:=by rw[hwd]
 have hwn:¬wd.toList=[]:=by rw[toList_data,hwl];exact hp
 have hwe:wd.toList.isEmpty=false:=by rw[toList_data,hwl,List.isEmpty_eq_false_iff];exact hp
 rw[←hwd]at C
 have S:=fun W=>aC8 wd (by rw[hwd];show p.length≤_;omega) W
 rw[hwl]at S
 obtain⟨sm,hsm⟩:∃sm:ByteArray,sm=⟨(bK p).toArray⟩:=⟨_,rfl⟩
 rw[←hsm]at S
 have hsmz:sm.size=p.length:=by rw[hsm];show(bK p).length=_;unfold bK;simp
 have hsml:sm.data.toList=bK p:=by rw[hsm]
 have HC:=hid C;have HS:=hid S;have HSZ:=hid hsmz;have HSL:=hid hsml;have HSM:=hid hsm;have HPS:=hid hps;clear C S hm T hc h hp hwl hwd hsmz hsml hps h58 hsm;go_enter Tryz.func30,Tryz.ntmps30
 go_wp2_with fail
 refine HC.out.mono ?_;rintro e W1 ⟨rfl,hW⟩;have HB1:Hid (Below w.heap.size w W1):=by obtain⟨n,rfl⟩:=hW;exact below_drewNm w n
 clear hW;go_wp2_with fail
 refine(HS.out W1).mono ?_;rintro e W2 ⟨rfl,B2⟩;have HB2:=hid (HB1.out.trans (B2.mono HB1.out.size));clear B2 hwn hwe;obtain⟨cap,W3,hrun,hb3,hrow,hcap⟩:=aAq sm W2;have HB3:=hid (HB2.out.trans (hb3.mono HB2.out.size));have HROW:=hid (hrow.bytes);have HCAP:=hid hcap;have hszb:sm.size≤140737488355328:=by have:=HSZ.out;have:=HPS.out;omega
 clear hb3 hrow hcap;go_wp2
 clear hrun;generalize W2.heap.size=B at HROW;go_loop [2,3,27] (fun a b i=>a=.string ⟨#[]⟩∧b=.bool false∧∃k:Nat,i=.int .i64 k∧Hid (mB p k)) (fun _ _ i=>sm.size-(intOf i).toNat)
 case atStart=>exact⟨rfl,rfl,0,rfl,Nat.zero_le _,fun j _ h=>absurd h (by omega)⟩
 case round =>
  obtain⟨rfl,rfl,k,rfl,hR⟩:=hrel;rcases Nat.lt_or_ge k sm.size with hlt|hge
  ·have hkp:k<p.length:=by rw[←HSZ.out];exact hlt
   have hcell:=HROW.out k (by show k<sm.size;exact hlt);have hget:sm.data.toList[k]'(by show k<sm.size;exact hlt)=bB p[k]:=by
    have:=HSL.out;simp only[this];unfold bK;simp
   rw[hget,Nat.zero_add]at hcell
   obtain⟨c,hc⟩:∃c,bB p[k]=c:=⟨_,rfl⟩
   rw[hc]at hcell
   have HCC:Hid (bB p[k]=c):=hc;have HKP:=hid hkp;clear hget hc;have hb8:=c.toNat_lt;have hst:∀b,aI c k=b→aI (bB (p[k]'HKP.out)) k=b:=fun b hb=>by rw[HCC.out,hb]
   have HST:=hid hst;clear hst;by_cases hk0:k=0
   ·have hk1:((k:Int)==0)=true:=by simp;omega
    have hcls:(0≤c.toNat∧c.toNat≤42)∨(43≤c.toNat∧c.toNat≤43)∨(44≤c.toNat∧c.toNat≤44)∨(45≤c.toNat∧c.toNat≤45)∨(46≤c.toNat∧c.toNat≤46)∨(47≤c.toNat∧c.toNat≤47)∨(48≤c.toNat∧c.toNat≤57)∨(58≤c.toNat∧c.toNat≤96)∨(97≤c.toNat∧c.toNat≤122)∨(123≤c.toNat∧c.toNat≤255):=by omega
    rcases hcls with hcls|hcls|hcls|hcls|hcls|hcls|hcls|hcls|hcls|hcls
    ·obtain⟨c1,c2⟩:=hcls;have t0:decide (97≤(c.toNat:Int))=false:=by simp;omega
     have t1:decide ((c.toNat:Int)≤122)=true:=by simp;omega
     have t2:decide (48≤(c.toNat:Int))=false:=by simp;omega
     have t3:decide ((c.toNat:Int)≤57)=true:=by simp;omega
     have t4:((c.toNat:Int)==43)=false:=by simp;omega
     have t5:((c.toNat:Int)==45)=false:=by simp;omega
     have t6:((c.toNat:Int)==46)=false:=by simp;omega
     have HE:Hid (aI c k=false):=by show _=_;unfold aI;simp;omega
     clear c1 c2 hk0;go_wp2
     go_ret2;exact⟨.inr ⟨bS HKP.out (HST.out _ HE.out),rfl⟩,HB3.out⟩
    ·obtain⟨c1,c2⟩:=hcls;have t0:decide (97≤(c.toNat:Int))=false:=by simp;omega
     have t1:decide ((c.toNat:Int)≤122)=true:=by simp;omega
     have t2:decide (48≤(c.toNat:Int))=false:=by simp;omega
     have t3:decide ((c.toNat:Int)≤57)=true:=by simp;omega
     have t4:((c.toNat:Int)==43)=true:=by simp;omega
     have t5:((c.toNat:Int)==45)=false:=by simp;omega
     have t6:((c.toNat:Int)==46)=false:=by simp;omega
     have HE:Hid (aI c k=false):=by show _=_;unfold aI;simp;omega
     clear c1 c2 hk0;go_wp2
     go_ret2;exact⟨.inr ⟨bS HKP.out (HST.out _ HE.out),rfl⟩,HB3.out⟩
    ·obtain⟨c1,c2⟩:=hcls;have t0:decide (97≤(c.toNat:Int))=false:=by simp;omega
     have t1:decide ((c.toNat:Int)≤122)=true:=by simp;omega
     have t2:decide (48≤(c.toNat:Int))=false:=by simp;omega
     have t3:decide ((c.toNat:Int)≤57)=true:=by simp;omega
     have t4:((c.toNat:Int)==43)=false:=by simp;omega
     have t5:((c.toNat:Int)==45)=false:=by simp;omega
     have t6:((c.toNat:Int)==46)=false:=by simp;omega
     have HE:Hid (aI c k=false):=by show _=_;unfold aI;simp;omega
     clear c1 c2 hk0;go_wp2
     go_ret2;exact⟨.inr ⟨bS HKP.out (HST.out _ HE.out),rfl⟩,HB3.out⟩
    ·obtain⟨c1,c2⟩:=hcls;have t0:decide (97≤(c.toNat:Int))=false:=by simp;omega
     have t1:decide ((c.toNat:Int)≤122)=true:=by simp;omega
     have t2:decide (48≤(c.toNat:Int))=false:=by simp;omega
     have t3:decide ((c.toNat:Int)≤57)=true:=by simp;omega
     have t4:((c.toNat:Int)==43)=false:=by simp;omega
     have t5:((c.toNat:Int)==45)=true:=by simp;omega
     have t6:((c.toNat:Int)==46)=false:=by simp;omega
     have HE:Hid (aI c k=false):=by show _=_;unfold aI;simp;omega
     clear c1 c2 hk0;go_wp2
     go_ret2;exact⟨.inr ⟨bS HKP.out (HST.out _ HE.out),rfl⟩,HB3.out⟩
    ·obtain⟨c1,c2⟩:=hcls;have t0:decide (97≤(c.toNat:Int))=false:=by simp;omega
     have t1:decide ((c.toNat:Int)≤122)=true:=by simp;omega
     have t2:decide (48≤(c.toNat:Int))=false:=by simp;omega
     have t3:decide ((c.toNat:Int)≤57)=true:=by simp;omega
     have t4:((c.toNat:Int)==43)=false:=by simp;omega
     have t5:((c.toNat:Int)==45)=false:=by simp;omega
     have t6:((c.toNat:Int)==46)=true:=by simp;omega
     have HE:Hid (aI c k=false):=by show _=_;unfold aI;simp;omega
     clear c1 c2 hk0;go_wp2
     go_ret2;exact⟨.inr ⟨bS HKP.out (HST.out _ HE.out),rfl⟩,HB3.out⟩
    ·obtain⟨c1,c2⟩:=hcls;have t0:decide (97≤(c.toNat:Int))=false:=by simp;omega
     have t1:decide ((c.toNat:Int)≤122)=true:=by simp;omega
     have t2:decide (48≤(c.toNat:Int))=false:=by simp;omega
     have t3:decide ((c.toNat:Int)≤57)=true:=by simp;omega
     have t4:((c.toNat:Int)==43)=false:=by simp;omega
     have t5:((c.toNat:Int)==45)=false:=by simp;omega
     have t6:((c.toNat:Int)==46)=false:=by simp;omega
     have HE:Hid (aI c k=false):=by show _=_;unfold aI;simp;omega
     clear c1 c2 hk0;go_wp2
     go_ret2;exact⟨.inr ⟨bS HKP.out (HST.out _ HE.out),rfl⟩,HB3.out⟩
    ·obtain⟨c1,c2⟩:=hcls;have t0:decide (97≤(c.toNat:Int))=false:=by simp;omega
     have t1:decide ((c.toNat:Int)≤122)=true:=by simp;omega
     have t2:decide (48≤(c.toNat:Int))=true:=by simp;omega
     have t3:decide ((c.toNat:Int)≤57)=true:=by simp;omega
     have t4:((c.toNat:Int)==43)=false:=by simp;omega
     have t5:((c.toNat:Int)==45)=false:=by simp;omega
     have t6:((c.toNat:Int)==46)=false:=by simp;omega
     have HE:Hid (aI c k=false):=by show _=_;unfold aI;simp;omega
     clear c1 c2 hk0;go_wp2
     go_ret2;exact⟨.inr ⟨bS HKP.out (HST.out _ HE.out),rfl⟩,HB3.out⟩
    ·obtain⟨c1,c2⟩:=hcls;have t0:decide (97≤(c.toNat:Int))=false:=by simp;omega
     have t1:decide ((c.toNat:Int)≤122)=true:=by simp;omega
     have t2:decide (48≤(c.toNat:Int))=true:=by simp;omega
     have t3:decide ((c.toNat:Int)≤57)=false:=by simp;omega
     have t4:((c.toNat:Int)==43)=false:=by simp;omega
     have t5:((c.toNat:Int)==45)=false:=by simp;omega
     have t6:((c.toNat:Int)==46)=false:=by simp;omega
     have HE:Hid (aI c k=false):=by show _=_;unfold aI;simp;omega
     clear c1 c2 hk0;go_wp2
     go_ret2;exact⟨.inr ⟨bS HKP.out (HST.out _ HE.out),rfl⟩,HB3.out⟩
    ·obtain⟨c1,c2⟩:=hcls;have t0:decide (97≤(c.toNat:Int))=true:=by simp;omega
     have t1:decide ((c.toNat:Int)≤122)=true:=by simp;omega
     have t2:decide (48≤(c.toNat:Int))=true:=by simp;omega
     have t3:decide ((c.toNat:Int)≤57)=false:=by simp;omega
     have t4:((c.toNat:Int)==43)=false:=by simp;omega
     have t5:((c.toNat:Int)==45)=false:=by simp;omega
     have t6:((c.toNat:Int)==46)=false:=by simp;omega
     have HE:Hid (aI c k=true):=by show _=_;unfold aI;simp;omega
     clear c1 c2 hk0;go_wp2
     go_round
     case rel=>exact⟨rfl,rfl,k+1,by go_num,hR.out.step HKP.out (HST.out _ HE.out)⟩
     case measure=>simp[intOf];omega
    ·obtain⟨c1,c2⟩:=hcls;have t0:decide (97≤(c.toNat:Int))=true:=by simp;omega
     have t1:decide ((c.toNat:Int)≤122)=false:=by simp;omega
     have t2:decide (48≤(c.toNat:Int))=true:=by simp;omega
     have t3:decide ((c.toNat:Int)≤57)=false:=by simp;omega
     have t4:((c.toNat:Int)==43)=false:=by simp;omega
     have t5:((c.toNat:Int)==45)=false:=by simp;omega
     have t6:((c.toNat:Int)==46)=false:=by simp;omega
     have HE:Hid (aI c k=false):=by show _=_;unfold aI;simp;omega
     clear c1 c2 hk0;go_wp2
     go_ret2;exact⟨.inr ⟨bS HKP.out (HST.out _ HE.out),rfl⟩,HB3.out⟩
   ·have hk1:((k:Int)==0)=false:=by simp;omega
    have hcls:(0≤c.toNat∧c.toNat≤42)∨(43≤c.toNat∧c.toNat≤43)∨(44≤c.toNat∧c.toNat≤44)∨(45≤c.toNat∧c.toNat≤45)∨(46≤c.toNat∧c.toNat≤46)∨(47≤c.toNat∧c.toNat≤47)∨(48≤c.toNat∧c.toNat≤57)∨(58≤c.toNat∧c.toNat≤96)∨(97≤c.toNat∧c.toNat≤122)∨(123≤c.toNat∧c.toNat≤255):=by omega
    rcases hcls with hcls|hcls|hcls|hcls|hcls|hcls|hcls|hcls|hcls|hcls
    ·obtain⟨c1,c2⟩:=hcls;have t0:decide (97≤(c.toNat:Int))=false:=by simp;omega
     have t1:decide ((c.toNat:Int)≤122)=true:=by simp;omega
     have t2:decide (48≤(c.toNat:Int))=false:=by simp;omega
     have t3:decide ((c.toNat:Int)≤57)=true:=by simp;omega
     have t4:((c.toNat:Int)==43)=false:=by simp;omega
     have t5:((c.toNat:Int)==45)=false:=by simp;omega
     have t6:((c.toNat:Int)==46)=false:=by simp;omega
     have HE:Hid (aI c k=false):=by show _=_;unfold aI;simp;omega
     clear c1 c2 hk0;go_wp2
     go_ret2;exact⟨.inr ⟨bS HKP.out (HST.out _ HE.out),rfl⟩,HB3.out⟩
    ·obtain⟨c1,c2⟩:=hcls;have t0:decide (97≤(c.toNat:Int))=false:=by simp;omega
     have t1:decide ((c.toNat:Int)≤122)=true:=by simp;omega
     have t2:decide (48≤(c.toNat:Int))=false:=by simp;omega
     have t3:decide ((c.toNat:Int)≤57)=true:=by simp;omega
     have t4:((c.toNat:Int)==43)=true:=by simp;omega
     have t5:((c.toNat:Int)==45)=false:=by simp;omega
     have t6:((c.toNat:Int)==46)=false:=by simp;omega
     have HE:Hid (aI c k=true):=by show _=_;unfold aI;simp;omega
     clear c1 c2 hk0;go_wp2
     go_round
     case rel=>exact⟨rfl,rfl,k+1,by go_num,hR.out.step HKP.out (HST.out _ HE.out)⟩
     case measure=>simp[intOf];omega
    ·obtain⟨c1,c2⟩:=hcls;have t0:decide (97≤(c.toNat:Int))=false:=by simp;omega
     have t1:decide ((c.toNat:Int)≤122)=true:=by simp;omega
     have t2:decide (48≤(c.toNat:Int))=false:=by simp;omega
     have t3:decide ((c.toNat:Int)≤57)=true:=by simp;omega
     have t4:((c.toNat:Int)==43)=false:=by simp;omega
     have t5:((c.toNat:Int)==45)=false:=by simp;omega
     have t6:((c.toNat:Int)==46)=false:=by simp;omega
     have HE:Hid (aI c k=false):=by show _=_;unfold aI;simp;omega
     clear c1 c2 hk0;go_wp2
     go_ret2;exact⟨.inr ⟨bS HKP.out (HST.out _ HE.out),rfl⟩,HB3.out⟩
    ·obtain⟨c1,c2⟩:=hcls;have t0:decide (97≤(c.toNat:Int))=false:=by simp;omega
     have t1:decide ((c.toNat:Int)≤122)=true:=by simp;omega
     have t2:decide (48≤(c.toNat:Int))=false:=by simp;omega
     have t3:decide ((c.toNat:Int)≤57)=true:=by simp;omega
     have t4:((c.toNat:Int)==43)=false:=by simp;omega
     have t5:((c.toNat:Int)==45)=true:=by simp;omega
     have t6:((c.toNat:Int)==46)=false:=by simp;omega
     have HE:Hid (aI c k=true):=by show _=_;unfold aI;simp;omega
     clear c1 c2 hk0;go_wp2
     go_round
     case rel=>exact⟨rfl,rfl,k+1,by go_num,hR.out.step HKP.out (HST.out _ HE.out)⟩
     case measure=>simp[intOf];omega
    ·obtain⟨c1,c2⟩:=hcls;have t0:decide (97≤(c.toNat:Int))=false:=by simp;omega
     have t1:decide ((c.toNat:Int)≤122)=true:=by simp;omega
     have t2:decide (48≤(c.toNat:Int))=false:=by simp;omega
     have t3:decide ((c.toNat:Int)≤57)=true:=by simp;omega
     have t4:((c.toNat:Int)==43)=false:=by simp;omega
     have t5:((c.toNat:Int)==45)=false:=by simp;omega
     have t6:((c.toNat:Int)==46)=true:=by simp;omega
     have HE:Hid (aI c k=true):=by show _=_;unfold aI;simp;omega
     clear c1 c2 hk0;go_wp2
     go_round
     case rel=>exact⟨rfl,rfl,k+1,by go_num,hR.out.step HKP.out (HST.out _ HE.out)⟩
     case measure=>simp[intOf];omega
    ·obtain⟨c1,c2⟩:=hcls;have t0:decide (97≤(c.toNat:Int))=false:=by simp;omega
     have t1:decide ((c.toNat:Int)≤122)=true:=by simp;omega
     have t2:decide (48≤(c.toNat:Int))=false:=by simp;omega
     have t3:decide ((c.toNat:Int)≤57)=true:=by simp;omega
     have t4:((c.toNat:Int)==43)=false:=by simp;omega
     have t5:((c.toNat:Int)==45)=false:=by simp;omega
     have t6:((c.toNat:Int)==46)=false:=by simp;omega
     have HE:Hid (aI c k=false):=by show _=_;unfold aI;simp;omega
     clear c1 c2 hk0;go_wp2
     go_ret2;exact⟨.inr ⟨bS HKP.out (HST.out _ HE.out),rfl⟩,HB3.out⟩
    ·obtain⟨c1,c2⟩:=hcls;have t0:decide (97≤(c.toNat:Int))=false:=by simp;omega
     have t1:decide ((c.toNat:Int)≤122)=true:=by simp;omega
     have t2:decide (48≤(c.toNat:Int))=true:=by simp;omega
     have t3:decide ((c.toNat:Int)≤57)=true:=by simp;omega
     have t4:((c.toNat:Int)==43)=false:=by simp;omega
     have t5:((c.toNat:Int)==45)=false:=by simp;omega
     have t6:((c.toNat:Int)==46)=false:=by simp;omega
     have HE:Hid (aI c k=true):=by show _=_;unfold aI;simp;omega
     clear c1 c2 hk0;go_wp2
     go_round
     case rel=>exact⟨rfl,rfl,k+1,by go_num,hR.out.step HKP.out (HST.out _ HE.out)⟩
     case measure=>simp[intOf];omega
    ·obtain⟨c1,c2⟩:=hcls;have t0:decide (97≤(c.toNat:Int))=false:=by simp;omega
     have t1:decide ((c.toNat:Int)≤122)=true:=by simp;omega
     have t2:decide (48≤(c.toNat:Int))=true:=by simp;omega
     have t3:decide ((c.toNat:Int)≤57)=false:=by simp;omega
     have t4:((c.toNat:Int)==43)=false:=by simp;omega
     have t5:((c.toNat:Int)==45)=false:=by simp;omega
     have t6:((c.toNat:Int)==46)=false:=by simp;omega
     have HE:Hid (aI c k=false):=by show _=_;unfold aI;simp;omega
     clear c1 c2 hk0;go_wp2
     go_ret2;exact⟨.inr ⟨bS HKP.out (HST.out _ HE.out),rfl⟩,HB3.out⟩
    ·obtain⟨c1,c2⟩:=hcls;have t0:decide (97≤(c.toNat:Int))=true:=by simp;omega
     have t1:decide ((c.toNat:Int)≤122)=true:=by simp;omega
     have t2:decide (48≤(c.toNat:Int))=true:=by simp;omega
     have t3:decide ((c.toNat:Int)≤57)=false:=by simp;omega
     have t4:((c.toNat:Int)==43)=false:=by simp;omega
     have t5:((c.toNat:Int)==45)=false:=by simp;omega
     have t6:((c.toNat:Int)==46)=false:=by simp;omega
     have HE:Hid (aI c k=true):=by show _=_;unfold aI;simp;omega
     clear c1 c2 hk0;go_wp2
     go_round
     case rel=>exact⟨rfl,rfl,k+1,by go_num,hR.out.step HKP.out (HST.out _ HE.out)⟩
     case measure=>simp[intOf];omega
    ·obtain⟨c1,c2⟩:=hcls;have t0:decide (97≤(c.toNat:Int))=true:=by simp;omega
     have t1:decide ((c.toNat:Int)≤122)=false:=by simp;omega
     have t2:decide (48≤(c.toNat:Int))=true:=by simp;omega
     have t3:decide ((c.toNat:Int)≤57)=false:=by simp;omega
     have t4:((c.toNat:Int)==43)=false:=by simp;omega
     have t5:((c.toNat:Int)==45)=false:=by simp;omega
     have t6:((c.toNat:Int)==46)=false:=by simp;omega
     have HE:Hid (aI c k=false):=by show _=_;unfold aI;simp;omega
     clear c1 c2 hk0;go_wp2
     go_ret2;exact⟨.inr ⟨bS HKP.out (HST.out _ HE.out),rfl⟩,HB3.out⟩
  ·have HG:=hid (hR.out.all (by rw[←HSZ.out];exact hge));go_wp2
   go_ret2;exact⟨.inl ⟨HG.out,by rw[HSM.out];rfl⟩,HB3.out⟩
theorem aBR (s:ByteArray)(hs:s.size<4294967281)(w:World)(T:aA w):Calls Tryz.prog 30 #[.string s] w fun e w'=>e=.returned (iF s.data.toList)∧Below w.heap.size w w':=by
 by_cases h:(58:UInt8)∈s.data.toList
 ·obtain⟨p,q,e,hp⟩:=aAO h;by_cases h0:p=[]
  ·subst h0;rw[gQ (by rw[e,mH [] q hp,if_neg (by simp)])];exact aF3 s q hs e w T
  ·refine(aF4 s p q hs e hp h0 w T).mono ?_;rintro x w' ⟨hx|hx,hb⟩
   ·refine⟨?_,hb⟩;rw[hx.2,lD (by rw[e,mH p q hp,if_pos ⟨h0,hx.1⟩])]
   ·refine⟨?_,hb⟩;rw[hx.2,gQ (by rw[e,mH p q hp,if_neg (fun h=>hx.1 h.2)])]
 ·rw[gQ (rU _ h)];exact aKg s hs h w T
open Go.RowKit
def aDJ (b:UInt8):Bool:=b !=9&&b !=10
structure lY (t:List UInt8) (k:Nat) (bs:List UInt8):Prop where
 le:k≤t.length
 len:bs.length≤k
 out:bs=(t.take k).filter aDJ
theorem lY.start (t:List UInt8):lY t 0 []:=⟨Nat.zero_le _,Nat.le_refl _,rfl⟩
theorem lY.yes {t:List UInt8}{k:Nat}{bs:List UInt8}(h:lY t k bs)(hk:k<t.length)(hr:aDJ t[k]=true):lY t (k+1) (bs++[t[k]]):=by
 refine⟨hk,?_,?_⟩
 ·have:=h.len;simp;omega
 ·rw[List.take_succ_eq_append_getElem hk,List.filter_append,←h.out];simp[hr]
theorem lY.no {t:List UInt8}{k:Nat}{bs:List UInt8}(h:lY t k bs)(hk:k<t.length)(hr:aDJ t[k]=false):lY t (k+1) bs:=by
 refine⟨hk,?_,?_⟩
 ·have:=h.len;omega
 ·rw[List.take_succ_eq_append_getElem hk,List.filter_append,←h.out];simp[hr]
theorem aGl (c:UInt8)(n:Nat)(h:c.toNat=n)(hn:n<256):c=UInt8.ofNat n:=UInt8.toNat_inj.1 (by rw[h];simp;omega)
structure aA1 (O:List UInt8) (f:Nat):Prop where
 le:f≤O.length
 low:∀j b,j<f→O[j]?=some b→b.toNat≤32
theorem aA1.next {O:List UInt8}{f:Nat}(h:aA1 O f)(hf:f<O.length)(hb:O[f].toNat≤32):aA1 O (f+1):=by
 refine⟨hf,fun j b hj he=>?_⟩;rcases Nat.lt_or_ge j f with h1|h1
 ·exact h.low j b h1 he
 ·obtain rfl:j=f:=by omega
  rw[List.getElem?_eq_getElem hf]at he
  cases he;exact hb
structure pJ (O:List UInt8) (f t:Nat):Prop where
 ge:f≤t
 le:t≤O.length
 low:∀j b,t≤j→O[j]?=some b→b.toNat≤32
theorem pJ.start {O:List UInt8}{f:Nat}(h:f≤O.length):pJ O f O.length:=⟨h,Nat.le_refl _,fun j b hj he=>by rw[List.getElem?_eq_none hj]at he;cases he⟩
theorem pJ.next {O:List UInt8}{f t:Nat}(h:pJ O f (t+1))(hf:f<t+1)(hb:∀ht:t<O.length,O[t].toNat≤32):pJ O f t:=by
 have hle:=h.le;refine⟨by omega,by omega,fun j b hj he=>?_⟩;rcases Nat.lt_or_ge t j with h1|h1
 ·exact h.low j b h1 he
 ·obtain rfl:j=t:=by omega
  rw[List.getElem?_eq_getElem (by omega)]at he
  cases he;exact hb (by omega)
theorem aHt (L:List UInt8)(f t:Nat)(hl:aA1 (fD L) f)(hh:pJ (fD L) f t)(h1:∀h:f<(fD L).length,32<(fD L)[f].toNat)(h2:f<t→∀h:t-1<(fD L).length,32<(fD L)[t-1].toNat) :
  cM L=((fD L).drop f).take (t-f):=by
 have e:((fD L).drop f).take (t-f)=((fD L).take t).drop f:=by
  rw[List.drop_take]
 rw[e];have hle:=hh.le;have hge:=hh.ge;refine aH6 (fD L) f t (aK1 L) hge hle hl.low (fun hft=>?_) hh.low (fun hft=>?_) (fun hft=>?_)
 ·exact⟨_,List.getElem?_eq_getElem (by omega),h1 (by omega)⟩
 ·exact⟨_,List.getElem?_eq_getElem (by omega),h2 hft (by omega)⟩
 ·rcases Nat.lt_or_ge f (fD L).length with h|h
  ·have a:=h1 h;have b:=hh.low f _ (by omega) (List.getElem?_eq_getElem h);omega
  ·omega
theorem bP.isB {w:World}{g off:Nat}{L:List UInt8}(h:bP w g off L):IsB w (some ⟨g,off,none⟩) L:=by
 intro j b hb;have hj:j<L.length:=(List.getElem?_eq_some_iff.1 hb).1;rw[List.getElem?_eq_getElem hj]at hb
 cases hb;refine⟨_,rfl,?_⟩;have hadd:(⟨g,off,none⟩:Addr).add j=⟨g,off+j,none⟩:=by unfold Addr.add;split<;>simp_all
 rw[hadd];exact h j hj
theorem aDY (b:UInt8):cX b=.int .u8 b.toNat:=rfl
theorem aJ6 (s:ByteArray)(hs:s.size≤1000000000)(w:World):Calls Tryz.prog 35 #[.string s] w fun e w'=>e=.returned (.string ⟨(cM s.data.toList).toArray⟩)∧Below w.heap.size w w':=by
 obtain⟨i0,hi,hz0,hz1,hz2⟩:=info_parts Tryz.info5;have HTX:=hid (yB s hs w);have htl:=tB s.data.toList;have hsl:s.data.toList.length=s.size:=rfl;have hbl:=zU s.data.toList;have HLF:=hid (aHt s.data.toList);obtain⟨t,ht⟩:∃t:ByteArray,t=⟨(cT s.data.toList).toArray⟩:=⟨_,rfl⟩
 have htt:t.data.toList=cT s.data.toList:=by rw[ht]
 have htz:t.size≤3000000000:=by rw[ht,jP];omega
 rw[←ht]at HTX
 rw[←htt]at hbl
 have HBL:=hid hbl;clear htl hsl hbl htt ht;generalize fD s.data.toList=O at *
 go_enter Tryz.func35,Tryz.ntmps35
 go_wp2_with fail
 refine HTX.out.mono ?_;rintro e W1 ⟨rfl,B1⟩;have HB1:=hid B1;clear B1;go_wp2
 go_loopw [4,5] (fun o i wx=>∃(k:Nat) (bs:List UInt8),i=.int .i64 k∧Hid (lY t.data.toList k bs)∧Hid (aT W1.heap.size 5 1 o bs.length (bs.map cX) W1 wx)) (fun _ i _=>t.size-(intOf i).toNat)
 case atStart=>exact⟨0,[],rfl,hid (lY.start _),hid (aT.nil W1 5 1)⟩
 case round =>
  obtain⟨k,bs,rfl,hK,hO⟩:=hrel;have hkl:=hK.out.len;have hkt:k≤t.size:=hK.out.le;rcases Nat.lt_or_ge k t.size with hlt|hge
  ·have HY:=hid (hK.out.yes hlt);have HN:=hid (hK.out.no hlt);have e:t.data.toList[k]'hlt=t[k]:=rfl;rw[e]at HY HN
   have hb8:=t[k].toNat_lt;by_cases h9:t[k].toNat=9
   ·have HF:=hid (HN.out (by rw[aGl _ _ h9 (by omega)];rfl));have t1:((t[k].toNat:Int)==9)=true:=by rw[h9];rfl
    have t1':((t[k].toNat:Int) !=9)=false:=by rw[h9];rfl
    clear h9;go_wp2
    go_roundw
    case rel=>exact⟨k+1,bs,by go_num,HF,hO⟩
    case measure=>simp[intOf];omega
   ·have t1:((t[k].toNat:Int)==9)=false:=by rw[beq_eq_false_iff_ne];omega
    have t1':((t[k].toNat:Int) !=9)=true:=by rw[bne_iff_ne];omega
    by_cases h10:t[k].toNat=10
    ·have HF:=hid (HN.out (by rw[aGl _ _ h10 (by omega)];rfl));have t2:((t[k].toNat:Int)==10)=true:=by rw[h10];rfl
     have t2':((t[k].toNat:Int) !=10)=false:=by rw[h10];rfl
     clear h9 h10;go_wp2
     go_roundw
     case rel=>exact⟨k+1,bs,by go_num,HF,hO⟩
     case measure=>simp[intOf];omega
    ·have t2:((t[k].toNat:Int)==10)=false:=by rw[beq_eq_false_iff_ne];omega
     have t2':((t[k].toNat:Int) !=10)=true:=by rw[bne_iff_ne];omega
     have HF:=hid (HY.out (by
      unfold aDJ;rw[Bool.and_eq_true,bne_iff_ne,bne_iff_ne];exact⟨fun e=>h9 (by rw[e];rfl),fun e=>h10 (by rw[e];rfl)⟩))
     clear h9 h10;go_wp2_with (at_builtin;refine bY (by rfl) _ _ 35 (by rfl) 5 i0 (.int .u8 0) 1 1 Tryz.underlying35 hi hz0 hz1 hz2 rfl (by decide) _ _ _ rfl hO.out #[.int .u8 t[k].toNat] rfl rfl rfl rfl (by omega) (by omega) ?_)
     intro v' w' hO' _;go_wp2
     go_roundw
     case rel=>exact⟨k+1,bs++[t[k]],by go_num,HF,hid (hO'.out.cast (by simp) (by simp[cX]))⟩
     case measure=>simp[intOf];omega
  ·have hX:bs=O:=by
    have:=hK.out.out;rw[List.take_of_length_le (by exact hge)]at this
    rw[this,HBL.out];rfl
   subst hX;have HB2:=hid (HB1.out.trans (hO.out.bel.mono HB1.out.size));obtain⟨a,c,rfl,hac,_⟩:=hO.out.slice;have HI:=hid (hO.out.isB rfl);have HV:=hid hO.out.vec;go_wp2
   go_loop [6] (fun x=>∃f:Nat,x=.int .i64 f∧Hid (aA1 bs f)) (fun x=>bs.length-(intOf x).toNat)
   case atStart=>exact⟨0,rfl,hid ⟨Nat.zero_le _,fun j b hj=>absurd hj (by omega)⟩⟩
   case round =>
    obtain⟨f,rfl,hF⟩:=hrel;have hfl:=hF.out.le;rcases Nat.lt_or_ge f bs.length with hlt|hge'
    ·obtain⟨g,off,c',hva,hcell⟩:=HV.out.get f (by simpa using hlt);simp only[Value.slice.injEq,true_and]at hva;obtain⟨rfl,rfl⟩:=hva;rw[List.getElem_map,aDY]at hcell
     have hb8:=bs[f].toNat_lt;have HFN:=hid (hF.out.next hlt);have HFX:=hid (fun(hh:32<bs[f].toNat)=>(fun _=>hh:∀h:f<bs.length,32<bs[f].toNat));have HBF:Hid (∀h:f<bs.length,bs[f]=bs[f]):=fun _=>rfl
     obtain⟨bf,hbf⟩:∃bf,bs[f].toNat=bf:=⟨_,rfl⟩
     have HBFE:=hid hbf;rw[hbf]at hcell hb8
     clear hbf;rcases Nat.lt_or_ge 32 bf with hhi|hlo
     ·have HG:=hid (HFX.out (by rw[HBFE.out];exact hhi));have HBY:Hid (bP wr g off bs):=by
       intro j hj;obtain⟨g',off',c'',hva',hcell'⟩:=HV.out.get j (by simpa using hj);simp only[Value.slice.injEq,Option.some.injEq,Addr.mk.injEq,true_and,and_true]at hva';obtain⟨⟨rfl,rfl⟩,_⟩:=hva';rw[List.getElem_map,aDY]at hcell'
       exact hcell'
      go_wp2
      go_loop [7] (fun x=>∃u:Nat,x=.int .i64 u∧Hid (pJ bs f u)) (fun x=>(intOf x).toNat)
      case atStart=>exact⟨bs.length,rfl,hid (pJ.start hfl)⟩
      case round =>
       obtain⟨u,rfl,hU⟩:=hrel;have hul:=hU.out.le;have huf:f<u:=by
        rcases Nat.lt_or_ge f u with h|h
        ·exact h
        ·have:=hU.out.low f _ h (List.getElem?_eq_getElem hlt);have:=HG.out hlt;omega
       obtain⟨q,rfl⟩:∃q,u=q+1:=⟨u-1,by omega⟩
       have hcq:=HBY.out q (by omega);have hq8:=(bs[q]'(by omega)).toNat_lt;obtain⟨bq,hbq⟩:∃bq,(bs[q]'(by omega)).toNat=bq:=⟨_,rfl⟩
       have HBQ:=hid hbq;rw[hbq]at hcq hq8
       clear hbq;rcases Nat.lt_or_ge 32 bq with hqh|hql
       ·have HR:=hid (HLF.out f (q+1) hF.out hU.out HG.out (fun _ _=>by simp only[Nat.add_sub_cancel];rw[HBQ.out];exact hqh));have hsl:=aFc g off c f (q+1) bs.length (by omega) (by omega) (by omega) wr;have hcv:=pX (P:=Tryz.prog) wr 35 5 9 Tryz.underlying35 Tryz.underlying5 Tryz.underlying9 (some ⟨g,off+f,none⟩) ((bs.drop f).take (q+1-f)) (q+1-f) (c-f) (by rw[List.length_take,List.length_drop];omega) (HBY.out.cut f (q+1-f)).isB;rw[Int.natCast_add]at hsl
        go_wp2
        go_ret;refine⟨?_,HB2.out⟩;rw[HR.out];rfl
       ·have HN:=hid (hU.out.next huf (fun _=>by rw[HBQ.out];exact hql));go_wp2
        go_round
        case rel=>exact⟨q,by go_num,HN⟩
        case measure=>simp[intOf]
     ·have HN:=hid (HFN.out (by rw[HBFE.out];exact hlo));go_wp2
      go_round
      case rel=>exact⟨f+1,by go_num,HN⟩
      case measure=>simp[intOf];omega
    ·obtain rfl:f=bs.length:=by omega
     have HR:=hid (HLF.out bs.length bs.length hF.out ⟨Nat.le_refl _,Nat.le_refl _,fun j b hj he=>by rw[List.getElem?_eq_none hj]at he;cases he⟩ (fun h=>absurd h (Nat.lt_irrefl _)) (fun h=>absurd h (Nat.lt_irrefl _)));have hsl:=vU 35 5 Tryz.underlying35 (by kernel_rfl) wr a bs.length c bs.length bs.length aBr hac;generalize (if c=bs.length then a else a.map (·.add bs.length))=a' at hsl;rw[Nat.sub_self]at hsl
     have hcv:=pX (P:=Tryz.prog) wr 35 5 9 Tryz.underlying35 Tryz.underlying5 Tryz.underlying9 a' [] 0 (c-bs.length) rfl (IsB.nil _ _);go_wp2
     go_loop [7] (fun x=>x=.int .i64 bs.length) (fun _=>0)
     case atStart=>rfl
     case round =>
      subst hrel;go_wp2
      go_ret;refine⟨?_,HB2.out⟩;rw[HR.out];simp
end Go.Proofs.YtcfgbdhpcboikaaGreatDoor
