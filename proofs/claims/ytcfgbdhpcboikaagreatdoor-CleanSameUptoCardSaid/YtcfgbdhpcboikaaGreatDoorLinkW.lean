/-
policy.Link and small: what they answer.
-/
import Derived.Test.YtcfgbdhpcboikaaGreatDoorTabs
namespace Go.Proofs.YtcfgbdhpcboikaaGreatDoor
open Go.Lib (hid)
set_option maxHeartbeats 2000000
set_option maxRecDepth 100000
open Go.RowKit
theorem pF (l:List UInt8):(⟨l.toArray⟩:ByteArray).size=l.length:=rfl
theorem oR (l:List UInt8):(cT l).length≤3*l.length:=Nat.le_trans (aJV l) (aA7 l.length l (Nat.le_refl _))
theorem aJm (s:ByteArray)(hs:s.size≤1000000000)(w:World)(T:aB w):Calls Tryz.prog 34 #[.string s] w fun e w'=>e=.returned (.string ⟨(dG s.data.toList).toArray⟩)∧Below w.heap.size w w':=by
 have HT:=hid T;clear T;have htl:=oR s.data.toList;have hsl:s.data.toList.length=s.size:=rfl;have h1:(⟨(cT s.data.toList).toArray⟩:ByteArray).size<4294967281:=by rw[pF];omega
 have h2:((cT s.data.toList).filter (fun b=>b !=9)).length≤(cT s.data.toList).length:=List.length_filter_le ..;have h3:(((cT s.data.toList).filter (fun b=>b !=9)).filter (fun b=>b !=10)).length≤((cT s.data.toList).filter (fun b=>b !=9)).length:=List.length_filter_le ..;have H1:=hid h1;have H2:=hid h2;have H3:=hid h3;have HL:=hid htl;have HSL:=hid hsl;clear h1 h2 h3 htl hsl;go_enter Tryz.func34,Tryz.ntmps34
 go_wp2_with fail
 refine(nR s hs w HT.out).mono ?_;rintro e W1 ⟨rfl,B1⟩;have HB1:=hid B1;have HT1:=hid (HT.out.below HB1.out (Nat.le_refl _));clear B1;go_wp2_with fail
 obtain⟨m,hm⟩:=HT1.out.most;refine(Tryz.strings_ReplaceAll ⟨(cT s.data.toList).toArray⟩ ⟨#[9]⟩ ⟨#[]⟩ m _ H1.out hm (by decide) ?_).mono ?_
 ·have e:(⟨#[]⟩:ByteArray).size=0:=rfl;rw[e,Nat.mul_zero];have:=H1.out;omega
 have e1:Lib.replaceAll (⟨(cT s.data.toList).toArray⟩:ByteArray).data.toList (⟨#[9]⟩:ByteArray).data.toList (⟨#[]⟩:ByteArray).data.toList=(cT s.data.toList).filter (fun b=>b !=9):=sP 9 _;rw[e1];rintro e W2 ⟨rfl,B2⟩;have HB2:=hid (HB1.out.trans (B2.mono HB1.out.size));have HT2:=hid (HT.out.below HB2.out (Nat.le_refl _));clear B2 e1 hm;go_wp2_with fail
 obtain⟨m2,hm2⟩:=HT2.out.most;have h4:(⟨((cT s.data.toList).filter (fun b=>b !=9)).toArray⟩:ByteArray).size<4294967281:=by
  rw[pF];have:=H2.out;have:=HL.out;have:=HSL.out;omega
 refine(Tryz.strings_ReplaceAll ⟨((cT s.data.toList).filter (fun b=>b !=9)).toArray⟩ ⟨#[10]⟩ ⟨#[]⟩ m2 _ h4 hm2 (by decide) ?_).mono ?_
 ·have e:(⟨#[]⟩:ByteArray).size=0:=rfl;rw[e,Nat.mul_zero];omega
 have e2:Lib.replaceAll (⟨((cT s.data.toList).filter (fun b=>b !=9)).toArray⟩:ByteArray).data.toList (⟨#[10]⟩:ByteArray).data.toList (⟨#[]⟩:ByteArray).data.toList=kX s.data.toList:=sP 10 _;rw[e2];rintro e W3 ⟨rfl,B3⟩;have HB3:=hid (HB2.out.trans (B3.mono HB2.out.size));clear B3 e2 hm2 h4;go_wp2_with fail
 have h5:(⟨(kX s.data.toList).toArray⟩:ByteArray).size≤9223372036854775807:=by
  rw[pF];have:=H2.out;have:=H3.out;have:=HL.out;have:=HSL.out;unfold kX;omega
 refine(Tryz.strings_Trim_one ⟨(kX s.data.toList).toArray⟩ 32 (by decide) _ h5).mono ?_;clear h5;rintro e W4 ⟨rfl,hW4⟩;have HB4:Hid (Below w.heap.size w W4):=by
  rcases hW4 with rfl|rfl
  ·exact HB3.out
  ·exact HB3.out.drew
 clear hW4;go_wp2
 go_ret;exact⟨rfl,HB4.out⟩
def mN (w:World)(B:Nat)(L:List UInt8):Prop :=
 ∃cur:Array Value,w.heap[B]?=some (.cells cur 5 (cur.size,cur.size+1))∧L.length≤cur.size∧∀j (h:j<L.length),cur[j]?=some (.int .u8 (L[j].toNat:Nat))
theorem mN.bytes {w:World}{B:Nat}{L:List UInt8}(h:mN w B L):eI w B 0 L:=by
 obtain⟨cur,h1,h2,h3⟩:=h;intro j hj;rw[Nat.zero_add,cell_of_row w B j cur 5 _ h1];exact h3 j hj
theorem mN.free {w:World}{B:Nat}{L:List UInt8}(h:mN w B L){j:Nat}(hj:j<L.length):w.frozen? ⟨B,j,none⟩=false:=by
 obtain⟨cur,h1,h2,h3⟩:=h;simp only[World.frozen?,h1,Bool.and_eq_false_iff,decide_eq_false_iff_not];left;omega
theorem mN.lt {w:World}{B:Nat}{L:List UInt8}(h:mN w B L):B<w.heap.size:=by
 obtain⟨cur,h1,_⟩:=h;exact(Array.getElem?_eq_some_iff.1 h1).1
theorem mN.set {w:World}{B:Nat}{L:List UInt8}(h:mN w B L)(j:Nat)(hj:j<L.length)(c:UInt8)(v:Value)(hv:v=.int .u8 (c.toNat:Nat)):mN (w.setCell ⟨B,j,none⟩ v) B (L.set j c):=by
 obtain⟨cur,h1,h2,h3⟩:=h;subst hv;rw[setCell_eq_setRow w B j cur 5 _ _ h1];refine⟨cur.setIfInBounds j (.int .u8 (c.toNat:Nat)),?_,by simpa using h2,?_⟩
 ·have:=setRow_heap w B cur (cur.setIfInBounds j (.int .u8 (c.toNat:Nat))) 5 _ h1;simpa using this
 ·intro i hi;have hi':i<L.length:=by simpa using hi
  by_cases e:j=i
  ·subst e;rw[Array.getElem?_setIfInBounds_self_of_lt (by omega)];simp
  ·rw[Array.getElem?_setIfInBounds_ne e,h3 i hi'];simp[e]
theorem aDc (s:ByteArray)(w:World):∃cap W,(convert 9 35 (.string s)).run Tryz.prog w=.ok (.slice (some ⟨w.heap.size,0,none⟩) s.size cap) W∧Below w.heap.size w W∧mN W w.heap.size s.data.toList∧s.size≤cap:=by
 obtain⟨cap,W,h1,h2,h3,h4,h5⟩:=tJ s w;refine⟨cap,W,h1,h2,?_,h4⟩;have e:=Lib.run_convert_string_bytes (P:=Tryz.prog) w 9 35 5 s Tryz.underlying9 Tryz.underlying35 Tryz.underlying5;rw[h1]at e
 cases e;refine⟨_,Lib.bytesWorld_at_new w 5 s,?_,?_⟩
 ·unfold Lib.bytesCells;simp
 ·intro j hj;have hj':j<s.data.size:=hj;unfold Lib.bytesCells;rw[Array.getElem?_append_left (by simpa using hj')];rw[Array.getElem?_map,Array.getElem?_eq_getElem hj'];simp
open Go.RowKit
def sB (L:List UInt8)(B k:Nat)(w wx:World):Prop:=k≤L.length∧mN wx B (cZ (L.take k)++L.drop k)∧Below B w wx
theorem aCc (L:List UInt8)(k:Nat)(h:k≤L.length):(cZ (L.take k)++L.drop k).length=L.length:=by
 unfold cZ;simp;omega
theorem aD4 (L:List UInt8)(k:Nat)(h:k<L.length):(cZ (L.take k)++L.drop k)[k]'(by rw[aCc L k (by omega)];exact h)=L[k]:=by
 have hl:(cZ (L.take k)).length=k:=by unfold cZ;simp;omega
 rw[List.getElem_append_right (by omega)];simp[hl]
theorem aAT (L:List UInt8)(k:Nat)(h:k<L.length):(cZ (L.take k)++L.drop k).set k (fH L[k])=cZ (L.take (k+1))++L.drop (k+1):=by
 have hl:(cZ (L.take k)).length=k:=by unfold cZ;simp;omega
 rw[List.set_append_right _ _ (by omega),hl,Nat.sub_self,List.drop_eq_getElem_cons h,List.set_cons_zero,List.take_succ_eq_append_getElem h];unfold cZ;rw[List.map_append,List.map_cons,List.map_nil,List.append_assoc,List.singleton_append]
theorem aFZ (L:List UInt8)(k:Nat)(h:k<L.length)(hs:fH L[k]=L[k]):cZ (L.take k)++L.drop k=cZ (L.take (k+1))++L.drop (k+1):=by
 rw[←aAT L k h,hs];have:=aD4 L k h;conv=>rhs;rw[←this]
 rw[List.set_getElem_self]
theorem aFY (L:List UInt8)(B k:Nat)(w wx:World)(h:sB L B k w wx)(hk:k<L.length):∃c:UInt8,wx.cell? ⟨B,k,none⟩=some (.int .u8 (c.toNat:Nat))∧wx.frozen? ⟨B,k,none⟩=false ∧
  (fH c=c→sB L B (k+1) w wx)∧(∀v,v=.int .u8 ((fH c).toNat:Nat)→sB L B (k+1) w (wx.setCell ⟨B,k,none⟩ v)):=by
 obtain⟨h1,h2,h3⟩:=h;have hl:=aCc L k h1;refine⟨L[k],?_,h2.free (by omega),fun e=>⟨hk,by rw[←aFZ L k hk e];exact h2,h3⟩,fun v hv=>⟨hk,?_,h3.setCell (p:=⟨B,k,none⟩) (Nat.le_refl _) _⟩⟩
 ·have:=h2.bytes k (by omega);rw[aD4 L k hk,Nat.zero_add]at this
  exact this
 ·rw[←aAT L k hk];exact h2.set k (by omega) _ v hv
theorem aCb (s:ByteArray)(hs:s.size≤140737488355328)(w:World):Calls Tryz.prog 72 #[.string s] w fun e w'=>e=.returned (.string ⟨(cZ s.data.toList).toArray⟩)∧Below w.heap.size w w':=by
 obtain⟨cap,W,hrun,hb,hrow,hcap⟩:=aDc s w;have H0:Hid (sB s.data.toList w.heap.size 0 w W):=⟨Nat.zero_le _,hrow,hb⟩
 have HC:=hid hcap;clear hb hrow hcap;go_enter Tryz.func72,Tryz.ntmps72
 go_wp2
 go_loopw [10] (fun i wx=>∃k:Nat,i=.int .i64 k∧Hid (sB s.data.toList w.heap.size k w wx)) (fun i _=>s.size-(intOf i).toNat)
 case atStart=>exact⟨0,rfl,H0⟩
 case round =>
  obtain⟨k,rfl,hR⟩:=hrel;rcases Nat.lt_or_ge k s.size with hlt|hge
  ·obtain⟨c,hcell,hfree,h1,h2⟩:=aFY _ _ _ _ _ hR.out hlt;have H1:=hid h1;have H2:=hid h2;have hb8:=c.toNat_lt;have HN:=hid (aFX c);clear h1 h2;by_cases hc:65≤c.toNat∧c.toNat≤90
   ·have hc1:65≤c.toNat:=hc.1;have hc2:c.toNat≤90:=hc.2;have l1:decide (65≤(c.toNat:Int))=true:=by simp;omega
    have l2:decide ((c.toNat:Int)≤90)=true:=by simp;omega
    have HE:Hid ((fH c).toNat=c.toNat+32):=by
     show _=_;rw[HN.out,if_pos hc]
    clear hc;go_wp2
    refine⟨⟨k+1,by congr 1,H2.out _ (by rw[HE.out];congr 1)⟩,?_⟩;simp[intOf];omega
   ·have HE:Hid (fH c=c):=by
     show _=_;apply UInt8.toNat_inj.1;rw[HN.out,if_neg hc]
    rcases Nat.lt_or_ge c.toNat 65 with hc1|hc1
    ·have l1:decide (65≤(c.toNat:Int))=false:=by simp;omega
     clear hc;go_wp2
     refine⟨⟨k+1,by congr 1,H1.out HE.out⟩,?_⟩;simp[intOf];omega
    ·have l1:decide (65≤(c.toNat:Int))=true:=by simp;omega
     have l2:decide ((c.toNat:Int)≤90)=false:=by simp;omega
     clear hc;go_wp2
     refine⟨⟨k+1,by congr 1,H1.out HE.out⟩,?_⟩;simp[intOf];omega
  ·have hR2:=hR.out.2.1;have hk:k=s.data.toList.length:=Nat.le_antisymm hR.out.1 hge;rw[hk,List.take_length,List.drop_length,List.append_nil]at hR2
   have hlen:(cZ s.data.toList).length=s.size:=by unfold cZ;simp
   have hcv:(convert 35 9 (.slice (some ⟨w.heap.size,0,none⟩) s.size cap)).run Tryz.prog wr=.ok (.string ⟨(cZ s.data.toList).toArray⟩) wr:=by
    rw[←hlen];refine run_convert_bytes_back wr 35 9 5 _ cap _ Tryz.underlying35 Tryz.underlying5 Tryz.underlying9 ?_;intro j hj;have hadd:(⟨w.heap.size,0,none⟩:Addr).add j=⟨w.heap.size,0+j,none⟩:=by unfold Addr.add;split<;>simp_all
    rw[hadd];exact hR2.bytes j hj
   clear hR2 hlen hk;go_wp2
   go_ret;exact⟨rfl,hR.out.2.2⟩
open Go.RowKit
def nQ (l:List UInt8):Value:=match lB l with
 | some w=>.tuple #[.string ⟨w.toArray⟩,.bool true]
 | none=>.tuple #[.string ⟨#[]⟩,.bool false]
theorem wA {l w:List UInt8}(h:lB l=some w):nQ l=.tuple #[.string ⟨w.toArray⟩,.bool true]:=by unfold nQ;rw[h]
theorem nB {l:List UInt8}(h:lB l=none):nQ l=.tuple #[.string ⟨#[]⟩,.bool false]:=by unfold nQ;rw[h]
theorem aHW (s:ByteArray)(hs:s.size<4294967281)(h:(58:UInt8)∉s.data.toList)(w:World)(T:aB w):Calls Tryz.prog 30 #[.string s] w fun e w'=>e=.returned (.tuple #[.string ⟨#[]⟩,.bool false])∧Below w.heap.size w w':=by
 obtain⟨m,hm⟩:=T.most;have C:=Tryz.strings_Cut s ⟨#[58]⟩ m w hs hm;have hc:Lib.cut s.data.toList (⟨#[58]⟩:ByteArray).data.toList=(s.data.toList,[],false):=aDe _ 58 h;rw[hc]at C
 dsimp only at C
 have HC:=hid C;clear C hm T hc h;go_enter Tryz.func30,Tryz.ntmps30
 go_wp2_with fail
 refine HC.out.mono ?_;rintro e W1 ⟨rfl,hW⟩;have HB1:Hid (Below w.heap.size w W1):=by obtain⟨n,rfl⟩:=hW;exact below_drewNm w n
 clear hW;go_wp2
 go_ret2;exact⟨rfl,HB1.out⟩
theorem aED (s:ByteArray)(q:List UInt8)(hs:s.size<4294967281)(h:s.data.toList=58 :: q)(w:World)(T:aB w):Calls Tryz.prog 30 #[.string s] w fun e w'=>e=.returned (.tuple #[.string ⟨#[]⟩,.bool false])∧Below w.heap.size w w':=by
 obtain⟨m,hm⟩:=T.most;have C:=Tryz.strings_Cut s ⟨#[58]⟩ m w hs hm;have hc:Lib.cut s.data.toList (⟨#[58]⟩:ByteArray).data.toList=([],q,true):=by rw[h];exact aA4 [] q 58 (by simp)
 rw[hc]at C
 dsimp only at C
 have HC:=hid C;clear C hm T hc h;go_enter Tryz.func30,Tryz.ntmps30
 go_wp2_with fail
 refine HC.out.mono ?_;rintro e W1 ⟨rfl,hW⟩;have HB1:Hid (Below w.heap.size w W1):=by obtain⟨n,rfl⟩:=hW;exact below_drewNm w n
 clear hW;go_wp2
 go_ret2;exact⟨rfl,HB1.out⟩
def rZ (p:List UInt8)(k:Nat):Prop:=k≤p.length∧∀j (h:j<p.length),j<k→aS (fH p[j]) j=true
theorem rZ.step {p:List UInt8}{k:Nat}(h:rZ p k)(hk:k<p.length)(hb:aS (fH p[k]) k=true):rZ p (k+1) :=
 ⟨hk,fun j hj hlt=>by
  rcases Nat.lt_or_ge j k with h1|h1
  ·exact h.2 j hj h1
  ·obtain rfl:j=k:=by omega
   exact hb⟩
theorem rZ.all {p:List UInt8}{k:Nat}(h:rZ p k)(hk:p.length≤k):gA 0 p=true:=by
 rw[uP];intro j c hc;have hj:j<p.length:=(List.getElem?_eq_some_iff.1 hc).1;rw[List.getElem?_eq_getElem hj]at hc
 cases hc;rw[Nat.zero_add];exact h.2 j hj (by omega)
theorem cG {p:List UInt8}{k:Nat}(hk:k<p.length)(hb:aS (fH p[k]) k=false):¬gA 0 p=true:=by
 intro h;rw[uP]at h
 have:=h k p[k] (List.getElem?_eq_getElem hk);rw[Nat.zero_add,hb]at this
 cases this
def aNi (p:List UInt8)(e:Ending):Prop:=¬gA 0 p=true∧e=.returned (.tuple #[.string ⟨#[]⟩,.bool false])
def aMR (p:List UInt8)(e:Ending):Prop:=gA 0 p=true∧e=.returned (.tuple #[.string ⟨(cZ p).toArray⟩,.bool true])
def aMU (p:List UInt8)(w:World)(e:Ending)(w':World):Prop:=(aMR p e∨aNi p e)∧Below w.heap.size w w'
theorem aEE (s:ByteArray)(p q:List UInt8)(hs:s.size<4294967281)(h:s.data.toList=p++58 :: q)(h58:(58:UInt8)∉p)(hp:p≠[])(w:World)(T:aB w):Calls Tryz.prog 30 #[.string s] w (aMU p w):=by
 obtain⟨m,hm⟩:=T.most;have C:=Tryz.strings_Cut s ⟨#[58]⟩ m w hs hm;have hc:Lib.cut s.data.toList (⟨#[58]⟩:ByteArray).data.toList=(p,q,true):=by rw[h];exact aA4 p q 58 h58
 rw[hc]at C
 dsimp only at C
 have hps:p.length≤s.size:=by
  have e:s.size=s.data.toList.length:=rfl;rw[e,h,List.length_append];omega
 obtain⟨wd,hwd⟩:∃wd:ByteArray,wd=⟨p.toArray⟩:=⟨_,rfl⟩
 have hwl:wd.data.toList=p:=by rw[hwd]
 have hwn:¬wd.toList=[]:=by rw[toList_data,hwl];exact hp
 have hwe:wd.toList.isEmpty=false:=by rw[toList_data,hwl,List.isEmpty_eq_false_iff];exact hp
 rw[←hwd]at C
 have S:=fun W=>aCb wd (by rw[hwd];show p.length≤_;omega) W
 rw[hwl]at S
 obtain⟨sm,hsm⟩:∃sm:ByteArray,sm=⟨(cZ p).toArray⟩:=⟨_,rfl⟩
 rw[←hsm]at S
 have hsmz:sm.size=p.length:=by rw[hsm];show(cZ p).length=_;unfold cZ;simp
 have hsml:sm.data.toList=cZ p:=by rw[hsm]
 have HC:=hid C;have HS:=hid S;have HSZ:=hid hsmz;have HSL:=hid hsml;have HSM:=hid hsm;have HPS:=hid hps;clear C S hm T hc h hp hwl hwd hsmz hsml hps h58 hsm;go_enter Tryz.func30,Tryz.ntmps30
 go_wp2_with fail
 refine HC.out.mono ?_;rintro e W1 ⟨rfl,hW⟩;have HB1:Hid (Below w.heap.size w W1):=by obtain⟨n,rfl⟩:=hW;exact below_drewNm w n
 clear hW;go_wp2_with fail
 refine(HS.out W1).mono ?_;rintro e W2 ⟨rfl,B2⟩;have HB2:=hid (HB1.out.trans (B2.mono HB1.out.size));clear B2 hwn hwe;obtain⟨cap,W3,hrun,hb3,hrow,hcap⟩:=aDc sm W2;have HB3:=hid (HB2.out.trans (hb3.mono HB2.out.size));have HROW:=hid (hrow.bytes);have HCAP:=hid hcap;have hszb:sm.size≤140737488355328:=by have:=HSZ.out;have:=HPS.out;omega
 clear hb3 hrow hcap;go_wp2
 clear hrun;generalize W2.heap.size=B at HROW;go_loop [2,3,27] (fun a b i=>a=.string ⟨#[]⟩∧b=.bool false∧∃k:Nat,i=.int .i64 k∧Hid (rZ p k)) (fun _ _ i=>sm.size-(intOf i).toNat)
 case atStart=>exact⟨rfl,rfl,0,rfl,Nat.zero_le _,fun j _ h=>absurd h (by omega)⟩
 case round =>
  obtain⟨rfl,rfl,k,rfl,hR⟩:=hrel;rcases Nat.lt_or_ge k sm.size with hlt|hge
  ·have hkp:k<p.length:=by rw[←HSZ.out];exact hlt
   have hcell:=HROW.out k (by show k<sm.size;exact hlt);have hget:sm.data.toList[k]'(by show k<sm.size;exact hlt)=fH p[k]:=by
    have:=HSL.out;simp only[this];unfold cZ;simp
   rw[hget,Nat.zero_add]at hcell
   obtain⟨c,hc⟩:∃c,fH p[k]=c:=⟨_,rfl⟩
   rw[hc]at hcell
   have HCC:Hid (fH p[k]=c):=hc;have HKP:=hid hkp;clear hget hc;have hb8:=c.toNat_lt;have hst:∀b,aS c k=b→aS (fH (p[k]'HKP.out)) k=b:=fun b hb=>by rw[HCC.out,hb]
   have HST:=hid hst;clear hst;by_cases hk0:k=0
   ·have hk1:((k:Int)==0)=true:=by simp;omega
    have hcls:(0≤c.toNat∧c.toNat≤42)∨(43≤c.toNat∧c.toNat≤43)∨(44≤c.toNat∧c.toNat≤44)∨(45≤c.toNat∧c.toNat≤45)∨(46≤c.toNat∧c.toNat≤46)∨(47≤c.toNat∧c.toNat≤47)∨(48≤c.toNat∧c.toNat≤57)∨(58≤c.toNat∧c.toNat≤96)∨(97≤c.toNat∧c.toNat≤122)∨(123≤c.toNat∧c.toNat≤255):=by omega
    rcases hcls with hcls|hcls|hcls|hcls|hcls|hcls|hcls|hcls|hcls|hcls
    ·obtain⟨c1,c2⟩:=hcls;have t0:decide (97≤(c.toNat:Int))=false:=by simp;omega
     have t1:decide ((c.toNat:Int)≤122)=true:=by simp;omega
     have t2:decide (48≤(c.toNat:Int))=false:=by simp;omega
     have t3:decide ((c.toNat:Int)≤57)=true:=by simp;omega
     have t4:((c.toNat:Int)==43)=false:=by simp;omega
     have t5:((c.toNat:Int)==45)=false:=by simp;omega
     have t6:((c.toNat:Int)==46)=false:=by simp;omega
     have HE:Hid (aS c k=false):=by show _=_;unfold aS;simp;omega
     clear c1 c2 hk0;go_wp2
     go_ret2;exact⟨.inr ⟨cG HKP.out (HST.out _ HE.out),rfl⟩,HB3.out⟩
    ·obtain⟨c1,c2⟩:=hcls;have t0:decide (97≤(c.toNat:Int))=false:=by simp;omega
     have t1:decide ((c.toNat:Int)≤122)=true:=by simp;omega
     have t2:decide (48≤(c.toNat:Int))=false:=by simp;omega
     have t3:decide ((c.toNat:Int)≤57)=true:=by simp;omega
     have t4:((c.toNat:Int)==43)=true:=by simp;omega
     have t5:((c.toNat:Int)==45)=false:=by simp;omega
     have t6:((c.toNat:Int)==46)=false:=by simp;omega
     have HE:Hid (aS c k=false):=by show _=_;unfold aS;simp;omega
     clear c1 c2 hk0;go_wp2
     go_ret2;exact⟨.inr ⟨cG HKP.out (HST.out _ HE.out),rfl⟩,HB3.out⟩
    ·obtain⟨c1,c2⟩:=hcls;have t0:decide (97≤(c.toNat:Int))=false:=by simp;omega
     have t1:decide ((c.toNat:Int)≤122)=true:=by simp;omega
     have t2:decide (48≤(c.toNat:Int))=false:=by simp;omega
     have t3:decide ((c.toNat:Int)≤57)=true:=by simp;omega
     have t4:((c.toNat:Int)==43)=false:=by simp;omega
     have t5:((c.toNat:Int)==45)=false:=by simp;omega
     have t6:((c.toNat:Int)==46)=false:=by simp;omega
     have HE:Hid (aS c k=false):=by show _=_;unfold aS;simp;omega
     clear c1 c2 hk0;go_wp2
     go_ret2;exact⟨.inr ⟨cG HKP.out (HST.out _ HE.out),rfl⟩,HB3.out⟩
    ·obtain⟨c1,c2⟩:=hcls;have t0:decide (97≤(c.toNat:Int))=false:=by simp;omega
     have t1:decide ((c.toNat:Int)≤122)=true:=by simp;omega
     have t2:decide (48≤(c.toNat:Int))=false:=by simp;omega
     have t3:decide ((c.toNat:Int)≤57)=true:=by simp;omega
     have t4:((c.toNat:Int)==43)=false:=by simp;omega
     have t5:((c.toNat:Int)==45)=true:=by simp;omega
     have t6:((c.toNat:Int)==46)=false:=by simp;omega
     have HE:Hid (aS c k=false):=by show _=_;unfold aS;simp;omega
     clear c1 c2 hk0;go_wp2
     go_ret2;exact⟨.inr ⟨cG HKP.out (HST.out _ HE.out),rfl⟩,HB3.out⟩
    ·obtain⟨c1,c2⟩:=hcls;have t0:decide (97≤(c.toNat:Int))=false:=by simp;omega
     have t1:decide ((c.toNat:Int)≤122)=true:=by simp;omega
     have t2:decide (48≤(c.toNat:Int))=false:=by simp;omega
     have t3:decide ((c.toNat:Int)≤57)=true:=by simp;omega
     have t4:((c.toNat:Int)==43)=false:=by simp;omega
     have t5:((c.toNat:Int)==45)=false:=by simp;omega
     have t6:((c.toNat:Int)==46)=true:=by simp;omega
     have HE:Hid (aS c k=false):=by show _=_;unfold aS;simp;omega
     clear c1 c2 hk0;go_wp2
     go_ret2;exact⟨.inr ⟨cG HKP.out (HST.out _ HE.out),rfl⟩,HB3.out⟩
    ·obtain⟨c1,c2⟩:=hcls;have t0:decide (97≤(c.toNat:Int))=false:=by simp;omega
     have t1:decide ((c.toNat:Int)≤122)=true:=by simp;omega
     have t2:decide (48≤(c.toNat:Int))=false:=by simp;omega
     have t3:decide ((c.toNat:Int)≤57)=true:=by simp;omega
     have t4:((c.toNat:Int)==43)=false:=by simp;omega
     have t5:((c.toNat:Int)==45)=false:=by simp;omega
     have t6:((c.toNat:Int)==46)=false:=by simp;omega
     have HE:Hid (aS c k=false):=by show _=_;unfold aS;simp;omega
     clear c1 c2 hk0;go_wp2
     go_ret2;exact⟨.inr ⟨cG HKP.out (HST.out _ HE.out),rfl⟩,HB3.out⟩
    ·obtain⟨c1,c2⟩:=hcls;have t0:decide (97≤(c.toNat:Int))=false:=by simp;omega
     have t1:decide ((c.toNat:Int)≤122)=true:=by simp;omega
     have t2:decide (48≤(c.toNat:Int))=true:=by simp;omega
     have t3:decide ((c.toNat:Int)≤57)=true:=by simp;omega
     have t4:((c.toNat:Int)==43)=false:=by simp;omega
     have t5:((c.toNat:Int)==45)=false:=by simp;omega
     have t6:((c.toNat:Int)==46)=false:=by simp;omega
     have HE:Hid (aS c k=false):=by show _=_;unfold aS;simp;omega
     clear c1 c2 hk0;go_wp2
     go_ret2;exact⟨.inr ⟨cG HKP.out (HST.out _ HE.out),rfl⟩,HB3.out⟩
    ·obtain⟨c1,c2⟩:=hcls;have t0:decide (97≤(c.toNat:Int))=false:=by simp;omega
     have t1:decide ((c.toNat:Int)≤122)=true:=by simp;omega
     have t2:decide (48≤(c.toNat:Int))=true:=by simp;omega
     have t3:decide ((c.toNat:Int)≤57)=false:=by simp;omega
     have t4:((c.toNat:Int)==43)=false:=by simp;omega
     have t5:((c.toNat:Int)==45)=false:=by simp;omega
     have t6:((c.toNat:Int)==46)=false:=by simp;omega
     have HE:Hid (aS c k=false):=by show _=_;unfold aS;simp;omega
     clear c1 c2 hk0;go_wp2
     go_ret2;exact⟨.inr ⟨cG HKP.out (HST.out _ HE.out),rfl⟩,HB3.out⟩
    ·obtain⟨c1,c2⟩:=hcls;have t0:decide (97≤(c.toNat:Int))=true:=by simp;omega
     have t1:decide ((c.toNat:Int)≤122)=true:=by simp;omega
     have t2:decide (48≤(c.toNat:Int))=true:=by simp;omega
     have t3:decide ((c.toNat:Int)≤57)=false:=by simp;omega
     have t4:((c.toNat:Int)==43)=false:=by simp;omega
     have t5:((c.toNat:Int)==45)=false:=by simp;omega
     have t6:((c.toNat:Int)==46)=false:=by simp;omega
     have HE:Hid (aS c k=true):=by show _=_;unfold aS;simp;omega
     clear c1 c2 hk0;go_wp2
     go_round
     case rel=>exact⟨rfl,rfl,k+1,by go_num,hR.out.step HKP.out (HST.out _ HE.out)⟩
     case measure=>simp[intOf];omega
    ·obtain⟨c1,c2⟩:=hcls;have t0:decide (97≤(c.toNat:Int))=true:=by simp;omega
     have t1:decide ((c.toNat:Int)≤122)=false:=by simp;omega
     have t2:decide (48≤(c.toNat:Int))=true:=by simp;omega
     have t3:decide ((c.toNat:Int)≤57)=false:=by simp;omega
     have t4:((c.toNat:Int)==43)=false:=by simp;omega
     have t5:((c.toNat:Int)==45)=false:=by simp;omega
     have t6:((c.toNat:Int)==46)=false:=by simp;omega
     have HE:Hid (aS c k=false):=by show _=_;unfold aS;simp;omega
     clear c1 c2 hk0;go_wp2
     go_ret2;exact⟨.inr ⟨cG HKP.out (HST.out _ HE.out),rfl⟩,HB3.out⟩
   ·have hk1:((k:Int)==0)=false:=by simp;omega
    have hcls:(0≤c.toNat∧c.toNat≤42)∨(43≤c.toNat∧c.toNat≤43)∨(44≤c.toNat∧c.toNat≤44)∨(45≤c.toNat∧c.toNat≤45)∨(46≤c.toNat∧c.toNat≤46)∨(47≤c.toNat∧c.toNat≤47)∨(48≤c.toNat∧c.toNat≤57)∨(58≤c.toNat∧c.toNat≤96)∨(97≤c.toNat∧c.toNat≤122)∨(123≤c.toNat∧c.toNat≤255):=by omega
    rcases hcls with hcls|hcls|hcls|hcls|hcls|hcls|hcls|hcls|hcls|hcls
    ·obtain⟨c1,c2⟩:=hcls;have t0:decide (97≤(c.toNat:Int))=false:=by simp;omega
     have t1:decide ((c.toNat:Int)≤122)=true:=by simp;omega
     have t2:decide (48≤(c.toNat:Int))=false:=by simp;omega
     have t3:decide ((c.toNat:Int)≤57)=true:=by simp;omega
     have t4:((c.toNat:Int)==43)=false:=by simp;omega
     have t5:((c.toNat:Int)==45)=false:=by simp;omega
     have t6:((c.toNat:Int)==46)=false:=by simp;omega
     have HE:Hid (aS c k=false):=by show _=_;unfold aS;simp;omega
     clear c1 c2 hk0;go_wp2
     go_ret2;exact⟨.inr ⟨cG HKP.out (HST.out _ HE.out),rfl⟩,HB3.out⟩
    ·obtain⟨c1,c2⟩:=hcls;have t0:decide (97≤(c.toNat:Int))=false:=by simp;omega
     have t1:decide ((c.toNat:Int)≤122)=true:=by simp;omega
     have t2:decide (48≤(c.toNat:Int))=false:=by simp;omega
     have t3:decide ((c.toNat:Int)≤57)=true:=by simp;omega
     have t4:((c.toNat:Int)==43)=true:=by simp;omega
     have t5:((c.toNat:Int)==45)=false:=by simp;omega
     have t6:((c.toNat:Int)==46)=false:=by simp;omega
     have HE:Hid (aS c k=true):=by show _=_;unfold aS;simp;omega
     clear c1 c2 hk0;go_wp2
     go_round
     case rel=>exact⟨rfl,rfl,k+1,by go_num,hR.out.step HKP.out (HST.out _ HE.out)⟩
     case measure=>simp[intOf];omega
    ·obtain⟨c1,c2⟩:=hcls;have t0:decide (97≤(c.toNat:Int))=false:=by simp;omega
     have t1:decide ((c.toNat:Int)≤122)=true:=by simp;omega
     have t2:decide (48≤(c.toNat:Int))=false:=by simp;omega
     have t3:decide ((c.toNat:Int)≤57)=true:=by simp;omega
     have t4:((c.toNat:Int)==43)=false:=by simp;omega
     have t5:((c.toNat:Int)==45)=false:=by simp;omega
     have t6:((c.toNat:Int)==46)=false:=by simp;omega
     have HE:Hid (aS c k=false):=by show _=_;unfold aS;simp;omega
     clear c1 c2 hk0;go_wp2
     go_ret2;exact⟨.inr ⟨cG HKP.out (HST.out _ HE.out),rfl⟩,HB3.out⟩
    ·obtain⟨c1,c2⟩:=hcls;have t0:decide (97≤(c.toNat:Int))=false:=by simp;omega
     have t1:decide ((c.toNat:Int)≤122)=true:=by simp;omega
     have t2:decide (48≤(c.toNat:Int))=false:=by simp;omega
     have t3:decide ((c.toNat:Int)≤57)=true:=by simp;omega
     have t4:((c.toNat:Int)==43)=false:=by simp;omega
     have t5:((c.toNat:Int)==45)=true:=by simp;omega
     have t6:((c.toNat:Int)==46)=false:=by simp;omega
     have HE:Hid (aS c k=true):=by show _=_;unfold aS;simp;omega
     clear c1 c2 hk0;go_wp2
     go_round
     case rel=>exact⟨rfl,rfl,k+1,by go_num,hR.out.step HKP.out (HST.out _ HE.out)⟩
     case measure=>simp[intOf];omega
    ·obtain⟨c1,c2⟩:=hcls;have t0:decide (97≤(c.toNat:Int))=false:=by simp;omega
     have t1:decide ((c.toNat:Int)≤122)=true:=by simp;omega
     have t2:decide (48≤(c.toNat:Int))=false:=by simp;omega
     have t3:decide ((c.toNat:Int)≤57)=true:=by simp;omega
     have t4:((c.toNat:Int)==43)=false:=by simp;omega
     have t5:((c.toNat:Int)==45)=false:=by simp;omega
     have t6:((c.toNat:Int)==46)=true:=by simp;omega
     have HE:Hid (aS c k=true):=by show _=_;unfold aS;simp;omega
     clear c1 c2 hk0;go_wp2
     go_round
     case rel=>exact⟨rfl,rfl,k+1,by go_num,hR.out.step HKP.out (HST.out _ HE.out)⟩
     case measure=>simp[intOf];omega
    ·obtain⟨c1,c2⟩:=hcls;have t0:decide (97≤(c.toNat:Int))=false:=by simp;omega
     have t1:decide ((c.toNat:Int)≤122)=true:=by simp;omega
     have t2:decide (48≤(c.toNat:Int))=false:=by simp;omega
     have t3:decide ((c.toNat:Int)≤57)=true:=by simp;omega
     have t4:((c.toNat:Int)==43)=false:=by simp;omega
     have t5:((c.toNat:Int)==45)=false:=by simp;omega
     have t6:((c.toNat:Int)==46)=false:=by simp;omega
     have HE:Hid (aS c k=false):=by show _=_;unfold aS;simp;omega
     clear c1 c2 hk0;go_wp2
     go_ret2;exact⟨.inr ⟨cG HKP.out (HST.out _ HE.out),rfl⟩,HB3.out⟩
    ·obtain⟨c1,c2⟩:=hcls;have t0:decide (97≤(c.toNat:Int))=false:=by simp;omega
     have t1:decide ((c.toNat:Int)≤122)=true:=by simp;omega
     have t2:decide (48≤(c.toNat:Int))=true:=by simp;omega
     have t3:decide ((c.toNat:Int)≤57)=true:=by simp;omega
     have t4:((c.toNat:Int)==43)=false:=by simp;omega
     have t5:((c.toNat:Int)==45)=false:=by simp;omega
     have t6:((c.toNat:Int)==46)=false:=by simp;omega
     have HE:Hid (aS c k=true):=by show _=_;unfold aS;simp;omega
     clear c1 c2 hk0;go_wp2
     go_round
     case rel=>exact⟨rfl,rfl,k+1,by go_num,hR.out.step HKP.out (HST.out _ HE.out)⟩
     case measure=>simp[intOf];omega
    ·obtain⟨c1,c2⟩:=hcls;have t0:decide (97≤(c.toNat:Int))=false:=by simp;omega
     have t1:decide ((c.toNat:Int)≤122)=true:=by simp;omega
     have t2:decide (48≤(c.toNat:Int))=true:=by simp;omega
     have t3:decide ((c.toNat:Int)≤57)=false:=by simp;omega
     have t4:((c.toNat:Int)==43)=false:=by simp;omega
     have t5:((c.toNat:Int)==45)=false:=by simp;omega
     have t6:((c.toNat:Int)==46)=false:=by simp;omega
     have HE:Hid (aS c k=false):=by show _=_;unfold aS;simp;omega
     clear c1 c2 hk0;go_wp2
     go_ret2;exact⟨.inr ⟨cG HKP.out (HST.out _ HE.out),rfl⟩,HB3.out⟩
    ·obtain⟨c1,c2⟩:=hcls;have t0:decide (97≤(c.toNat:Int))=true:=by simp;omega
     have t1:decide ((c.toNat:Int)≤122)=true:=by simp;omega
     have t2:decide (48≤(c.toNat:Int))=true:=by simp;omega
     have t3:decide ((c.toNat:Int)≤57)=false:=by simp;omega
     have t4:((c.toNat:Int)==43)=false:=by simp;omega
     have t5:((c.toNat:Int)==45)=false:=by simp;omega
     have t6:((c.toNat:Int)==46)=false:=by simp;omega
     have HE:Hid (aS c k=true):=by show _=_;unfold aS;simp;omega
     clear c1 c2 hk0;go_wp2
     go_round
     case rel=>exact⟨rfl,rfl,k+1,by go_num,hR.out.step HKP.out (HST.out _ HE.out)⟩
     case measure=>simp[intOf];omega
    ·obtain⟨c1,c2⟩:=hcls;have t0:decide (97≤(c.toNat:Int))=true:=by simp;omega
     have t1:decide ((c.toNat:Int)≤122)=false:=by simp;omega
     have t2:decide (48≤(c.toNat:Int))=true:=by simp;omega
     have t3:decide ((c.toNat:Int)≤57)=false:=by simp;omega
     have t4:((c.toNat:Int)==43)=false:=by simp;omega
     have t5:((c.toNat:Int)==45)=false:=by simp;omega
     have t6:((c.toNat:Int)==46)=false:=by simp;omega
     have HE:Hid (aS c k=false):=by show _=_;unfold aS;simp;omega
     clear c1 c2 hk0;go_wp2
     go_ret2;exact⟨.inr ⟨cG HKP.out (HST.out _ HE.out),rfl⟩,HB3.out⟩
  ·have HG:=hid (hR.out.all (by rw[←HSZ.out];exact hge));go_wp2
   go_ret2;exact⟨.inl ⟨HG.out,by rw[HSM.out];rfl⟩,HB3.out⟩
theorem aFS (s:ByteArray)(hs:s.size<4294967281)(w:World)(T:aB w):Calls Tryz.prog 30 #[.string s] w fun e w'=>e=.returned (nQ s.data.toList)∧Below w.heap.size w w':=by
 by_cases h:(58:UInt8)∈s.data.toList
 ·obtain⟨p,q,e,hp⟩:=aD6 h;by_cases h0:p=[]
  ·subst h0;rw[nB (by rw[e,rV [] q hp,if_neg (by simp)])];exact aED s q hs e w T
  ·refine(aEE s p q hs e hp h0 w T).mono ?_;rintro x w' ⟨hx|hx,hb⟩
   ·refine⟨?_,hb⟩;rw[hx.2,wA (by rw[e,rV p q hp,if_pos ⟨h0,hx.1⟩])]
   ·refine⟨?_,hb⟩;rw[hx.2,nB (by rw[e,rV p q hp,if_neg (fun h=>hx.1 h.2)])]
 ·rw[nB (aDZ _ h)];exact aHW s hs h w T
