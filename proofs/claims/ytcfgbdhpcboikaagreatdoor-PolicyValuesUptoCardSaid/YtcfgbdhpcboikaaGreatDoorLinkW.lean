/-
policy.Link and small: what they answer.
-/
import Derived.Test.YtcfgbdhpcboikaaGreatDoorNumD
namespace Go.Proofs.YtcfgbdhpcboikaaGreatDoor
open Go.Lib (hid)
set_option maxHeartbeats 4000000
set_option maxRecDepth 100000
open Go.RowKit
theorem aAd {n:Nat}:n≤n:=Nat.le_refl n
theorem iD (l:List UInt8):(⟨l.toArray⟩:ByteArray).size=l.length:=rfl
theorem qI (l:List UInt8):(bT l).length≤3*l.length:=Nat.le_trans (aKu l) (aAX l.length l aAd)
theorem aC6 (s:ByteArray)(hs:s.size≤1000000000)(w:World)(T:aA w):Calls Tryz.prog 34 #[.string s] w fun e w'=>e=.returned (.string ⟨(aZ s.data.toList).toArray⟩)∧Below w.heap.size w w':=by
 have HT:=hid T;clear T;have htl:=qI s.data.toList;have hsl:s.data.toList.length=s.size:=rfl;have h1:(⟨(bT s.data.toList).toArray⟩:ByteArray).size<4294967281:=by rw[iD];omega
 have h2:((bT s.data.toList).filter (fun b=>b !=9)).length≤(bT s.data.toList).length:=List.length_filter_le ..;have h3:(((bT s.data.toList).filter (fun b=>b !=9)).filter (fun b=>b !=10)).length≤((bT s.data.toList).filter (fun b=>b !=9)).length:=List.length_filter_le ..;have H1:=hid h1;have H2:=hid h2;have H3:=hid h3;have HL:=hid htl;have HSL:=hid hsl;clear h1 h2 h3 htl hsl;go_enter Tryz.func34,Tryz.ntmps34
 go_wp2_with fail
 refine(yN s hs w HT.out).mono ?_;rintro e W1 ⟨rfl,B1⟩;have HB1:=hid B1;have HT1:=hid (HT.out.below HB1.out aAd);clear B1;go_wp2_with fail
 obtain⟨m,hm⟩:=HT1.out.most;refine(Tryz.strings_ReplaceAll ⟨(bT s.data.toList).toArray⟩ ⟨#[9]⟩ ⟨#[]⟩ m _ H1.out hm (by decide) ?_).mono ?_
 ·have e:(⟨#[]⟩:ByteArray).size=0:=rfl;rw[e,Nat.mul_zero];have:=H1.out;omega
 have e1:Lib.replaceAll (⟨(bT s.data.toList).toArray⟩:ByteArray).data.toList (⟨#[9]⟩:ByteArray).data.toList (⟨#[]⟩:ByteArray).data.toList=(bT s.data.toList).filter (fun b=>b !=9):=rQ 9 _;rw[e1];rintro e W2 ⟨rfl,B2⟩;have HB2:=hid (HB1.out.trans (B2.mono HB1.out.size));have HT2:=hid (HT.out.below HB2.out aAd);clear B2 e1 hm;go_wp2_with fail
 obtain⟨m2,hm2⟩:=HT2.out.most;have h4:(⟨((bT s.data.toList).filter (fun b=>b !=9)).toArray⟩:ByteArray).size<4294967281:=by
  rw[iD];have:=H2.out;have:=HL.out;have:=HSL.out;omega
 refine(Tryz.strings_ReplaceAll ⟨((bT s.data.toList).filter (fun b=>b !=9)).toArray⟩ ⟨#[10]⟩ ⟨#[]⟩ m2 _ h4 hm2 (by decide) ?_).mono ?_
 ·have e:(⟨#[]⟩:ByteArray).size=0:=rfl;rw[e,Nat.mul_zero];omega
 have e2:Lib.replaceAll (⟨((bT s.data.toList).filter (fun b=>b !=9)).toArray⟩:ByteArray).data.toList (⟨#[10]⟩:ByteArray).data.toList (⟨#[]⟩:ByteArray).data.toList=dC s.data.toList:=rQ 10 _;rw[e2];rintro e W3 ⟨rfl,B3⟩;have HB3:=hid (HB2.out.trans (B3.mono HB2.out.size));clear B3 e2 hm2 h4;go_wp2_with fail
 have h5:(⟨(dC s.data.toList).toArray⟩:ByteArray).size≤9223372036854775807:=by
  rw[iD];have:=H2.out;have:=H3.out;have:=HL.out;have:=HSL.out;unfold dC;omega
 refine(Tryz.strings_Trim_one ⟨(dC s.data.toList).toArray⟩ 32 (by decide) _ h5).mono ?_;clear h5;rintro e W4 ⟨rfl,hW4⟩;have HB4:Hid (Below w.heap.size w W4):=by
  rcases hW4 with rfl|rfl
  ·exact HB3.out
  ·exact HB3.out.drew
 clear hW4;go_wp2
 go_ret;exact⟨rfl,HB4.out⟩
def lQ (w:World)(B:Nat)(L:List UInt8):Prop :=
 ∃cur:Array Value,w.heap[B]?=some (.cells cur 5 (cur.size,cur.size+1))∧L.length≤cur.size∧∀j (h:j<L.length),cur[j]?=some (.int .u8 (L[j].toNat:Nat))
theorem lQ.bytes {w:World}{B:Nat}{L:List UInt8}(h:lQ w B L):bK w B 0 L:=by
 obtain⟨cur,h1,h2,h3⟩:=h;intro j hj;rw[Nat.zero_add,cell_of_row w B j cur 5 _ h1];exact h3 j hj
theorem lQ.free {w:World}{B:Nat}{L:List UInt8}(h:lQ w B L){j:Nat}(hj:j<L.length):w.frozen? ⟨B,j,none⟩=false:=by
 obtain⟨cur,h1,h2,h3⟩:=h;simp only[World.frozen?,h1,Bool.and_eq_false_iff,decide_eq_false_iff_not];left;omega
theorem lQ.lt {w:World}{B:Nat}{L:List UInt8}(h:lQ w B L):B<w.heap.size:=by
 obtain⟨cur,h1,_⟩:=h;exact(Array.getElem?_eq_some_iff.1 h1).1
theorem lQ.set {w:World}{B:Nat}{L:List UInt8}(h:lQ w B L)(j:Nat)(hj:j<L.length)(c:UInt8)(v:Value)(hv:v=.int .u8 (c.toNat:Nat)):lQ (w.setCell ⟨B,j,none⟩ v) B (L.set j c):=by
 obtain⟨cur,h1,h2,h3⟩:=h;subst hv;rw[setCell_eq_setRow w B j cur 5 _ _ h1];refine⟨cur.setIfInBounds j (.int .u8 (c.toNat:Nat)),?_,by simpa using h2,?_⟩
 ·have:=setRow_heap w B cur (cur.setIfInBounds j (.int .u8 (c.toNat:Nat))) 5 _ h1;simpa using this
 ·intro i hi;have hi':i<L.length:=by simpa using hi
  by_cases e:j=i
  ·subst e;rw[Array.getElem?_setIfInBounds_self_of_lt (by omega)];simp
  ·rw[Array.getElem?_setIfInBounds_ne e,h3 i hi'];simp[e]
theorem wY (s:ByteArray)(w:World):∃cap W,(convert 9 35 (.string s)).run Tryz.prog w=.ok (.slice (some ⟨w.heap.size,0,none⟩) s.size cap) W∧Below w.heap.size w W∧lQ W w.heap.size s.data.toList∧s.size≤cap:=by
 obtain⟨cap,W,h1,h2,h3,h4,h5⟩:=oC s w;refine⟨cap,W,h1,h2,?_,h4⟩;have e:=Lib.run_convert_string_bytes (P:=Tryz.prog) w 9 35 5 s Tryz.underlying9 Tryz.underlying35 Tryz.underlying5;rw[h1]at e
 cases e;refine⟨_,Lib.bytesWorld_at_new w 5 s,?_,?_⟩
 ·unfold Lib.bytesCells;simp
 ·intro j hj;have hj':j<s.data.size:=hj;unfold Lib.bytesCells;rw[Array.getElem?_append_left (by simpa using hj')];rw[Array.getElem?_map,Array.getElem?_eq_getElem hj'];simp
open Go.RowKit
def mM (L:List UInt8)(B k:Nat)(w wx:World):Prop:=k≤L.length∧lQ wx B (bF (L.take k)++L.drop k)∧Below B w wx
theorem aBM (L:List UInt8)(k:Nat)(h:k≤L.length):(bF (L.take k)++L.drop k).length=L.length:=by
 unfold bF;simp;omega
theorem aDN (L:List UInt8)(k:Nat)(h:k<L.length):(bF (L.take k)++L.drop k)[k]'(by rw[aBM L k (by omega)];exact h)=L[k]:=by
 have hl:(bF (L.take k)).length=k:=by unfold bF;simp;omega
 rw[List.getElem_append_right (by omega)];simp[hl]
theorem aAL (L:List UInt8)(k:Nat)(h:k<L.length):(bF (L.take k)++L.drop k).set k (aW L[k])=bF (L.take (k+1))++L.drop (k+1):=by
 have hl:(bF (L.take k)).length=k:=by unfold bF;simp;omega
 rw[List.set_append_right _ _ (by omega),hl,Nat.sub_self,List.drop_eq_getElem_cons h,List.set_cons_zero,List.take_succ_eq_append_getElem h];unfold bF;rw[List.map_append,List.map_cons,List.map_nil,List.append_assoc,List.singleton_append]
theorem aGo (L:List UInt8)(k:Nat)(h:k<L.length)(hs:aW L[k]=L[k]):bF (L.take k)++L.drop k=bF (L.take (k+1))++L.drop (k+1):=by
 rw[←aAL L k h,hs];have:=aDN L k h;conv=>rhs;rw[←this]
 rw[List.set_getElem_self]
theorem aAK (L:List UInt8)(B k:Nat)(w wx:World)(h:mM L B k w wx)(hk:k<L.length):∃c:UInt8,wx.cell? ⟨B,k,none⟩=some (.int .u8 (c.toNat:Nat))∧wx.frozen? ⟨B,k,none⟩=false ∧
  (aW c=c→mM L B (k+1) w wx)∧(∀v,v=.int .u8 ((aW c).toNat:Nat)→mM L B (k+1) w (wx.setCell ⟨B,k,none⟩ v)):=by
 obtain⟨h1,h2,h3⟩:=h;have hl:=aBM L k h1;refine⟨L[k],?_,h2.free (by omega),fun e=>⟨hk,by rw[←aGo L k hk e];exact h2,h3⟩,fun v hv=>⟨hk,?_,h3.setCell (p:=⟨B,k,none⟩) aAd _⟩⟩
 ·have:=h2.bytes k (by omega);rw[aDN L k hk,Nat.zero_add]at this
  exact this
 ·rw[←aAL L k hk];exact h2.set k (by omega) _ v hv
theorem aBL (s:ByteArray)(hs:s.size≤140737488355328)(w:World):Calls Tryz.prog 72 #[.string s] w fun e w'=>e=.returned (.string ⟨(bF s.data.toList).toArray⟩)∧Below w.heap.size w w':=by
 obtain⟨cap,W,hrun,hb,hrow,hcap⟩:=wY s w;have H0:Hid (mM s.data.toList w.heap.size 0 w W):=⟨Nat.zero_le _,hrow,hb⟩
 have HC:=hid hcap;clear hb hrow hcap;go_enter Tryz.func72,Tryz.ntmps72
 go_wp2
 go_loopw [10] (fun i wx=>∃k:Nat,i=.int .i64 k∧Hid (mM s.data.toList w.heap.size k w wx)) (fun i _=>s.size-(intOf i).toNat)
 case atStart=>exact⟨0,rfl,H0⟩
 case round =>
  obtain⟨k,rfl,hR⟩:=hrel;rcases Nat.lt_or_ge k s.size with hlt|hge
  ·obtain⟨c,hcell,hfree,h1,h2⟩:=aAK _ _ _ _ _ hR.out hlt;have H1:=hid h1;have H2:=hid h2;have hb8:=c.toNat_lt;have HN:=hid (oL c);clear h1 h2;by_cases hc:65≤c.toNat∧c.toNat≤90
   ·have hc1:65≤c.toNat:=hc.1;have hc2:c.toNat≤90:=hc.2;have l1:decide (65≤(c.toNat:Int))=true:=by simp;omega
    have l2:decide ((c.toNat:Int)≤90)=true:=by simp;omega
    have HE:Hid ((aW c).toNat=c.toNat+32):=by
     show _=_;rw[HN.out,if_pos hc]
    clear hc;go_wp2
    refine⟨⟨k+1,by congr 1,H2.out _ (by rw[HE.out];congr 1)⟩,?_⟩;simp[intOf];omega
   ·have HE:Hid (aW c=c):=by
     show _=_;apply UInt8.toNat_inj.1;rw[HN.out,if_neg hc]
    rcases Nat.lt_or_ge c.toNat 65 with hc1|hc1
    ·have l1:decide (65≤(c.toNat:Int))=false:=by simp;omega
     clear hc;go_wp2
     refine⟨⟨k+1,by congr 1,H1.out HE.out⟩,?_⟩;simp[intOf];omega
    ·have l1:decide (65≤(c.toNat:Int))=true:=by simp;omega
     have l2:decide ((c.toNat:Int)≤90)=false:=by simp;omega
     clear hc;go_wp2
     refine⟨⟨k+1,by congr 1,H1.out HE.out⟩,?_⟩;simp[intOf];omega
  ·have hR2:=hR.out.2.1;have hk:k=s.data.toList.length:=Nat.le_antisymm hR.out.1 hge;rw[hk,List.take_length,List.drop_length,List.append_nil]at hR2
   have hlen:(bF s.data.toList).length=s.size:=by unfold bF;simp
   have hcv:(convert 35 9 (.slice (some ⟨w.heap.size,0,none⟩) s.size cap)).run Tryz.prog wr=.ok (.string ⟨(bF s.data.toList).toArray⟩) wr:=by
    rw[←hlen];refine run_convert_bytes_back wr 35 9 5 _ cap _ Tryz.underlying35 Tryz.underlying5 Tryz.underlying9 ?_;intro j hj;have hadd:(⟨w.heap.size,0,none⟩:Addr).add j=⟨w.heap.size,0+j,none⟩:=by unfold Addr.add;split<;>simp_all
    rw[hadd];exact hR2.bytes j hj
   clear hR2 hlen hk;go_wp2
   go_ret;exact⟨rfl,hR.out.2.2⟩
open Go.RowKit
def aCp (b:UInt8):Bool:=b !=9&&b !=10
structure kG (t:List UInt8) (k:Nat) (bs:List UInt8):Prop where
 le:k≤t.length
 len:bs.length≤k
 out:bs=(t.take k).filter aCp
theorem kG.start (t:List UInt8):kG t 0 []:=⟨Nat.zero_le _,Nat.le_refl _,rfl⟩
theorem kG.yes {t:List UInt8}{k:Nat}{bs:List UInt8}(h:kG t k bs)(hk:k<t.length)(hr:aCp t[k]=true):kG t (k+1) (bs++[t[k]]):=by
 refine⟨hk,?_,?_⟩
 ·have:=h.len;simp;omega
 ·rw[List.take_succ_eq_append_getElem hk,List.filter_append,←h.out];simp[hr]
theorem kG.no {t:List UInt8}{k:Nat}{bs:List UInt8}(h:kG t k bs)(hk:k<t.length)(hr:aCp t[k]=false):kG t (k+1) bs:=by
 refine⟨hk,?_,?_⟩
 ·have:=h.len;omega
 ·rw[List.take_succ_eq_append_getElem hk,List.filter_append,←h.out];simp[hr]
theorem aET (c:UInt8)(n:Nat)(h:c.toNat=n)(hn:n<256):c=UInt8.ofNat n:=UInt8.toNat_inj.1 (by rw[h];simp;omega)
structure zD (O:List UInt8) (f:Nat):Prop where
 le:f≤O.length
 low:∀j b,j<f→O[j]?=some b→b.toNat≤32
theorem zD.next {O:List UInt8}{f:Nat}(h:zD O f)(hf:f<O.length)(hb:O[f].toNat≤32):zD O (f+1):=by
 refine⟨hf,fun j b hj he=>?_⟩;rcases Nat.lt_or_ge j f with h1|h1
 ·exact h.low j b h1 he
 ·obtain rfl:j=f:=by omega
  rw[List.getElem?_eq_getElem hf]at he
  cases he;exact hb
structure nJ (O:List UInt8) (f t:Nat):Prop where
 ge:f≤t
 le:t≤O.length
 low:∀j b,t≤j→O[j]?=some b→b.toNat≤32
theorem nJ.start {O:List UInt8}{f:Nat}(h:f≤O.length):nJ O f O.length:=⟨h,Nat.le_refl _,fun j b hj he=>by rw[List.getElem?_eq_none hj]at he;cases he⟩
theorem nJ.next {O:List UInt8}{f t:Nat}(h:nJ O f (t+1))(hf:f<t+1)(hb:∀ht:t<O.length,O[t].toNat≤32):nJ O f t:=by
 have hle:=h.le;refine⟨by omega,by omega,fun j b hj he=>?_⟩;rcases Nat.lt_or_ge t j with h1|h1
 ·exact h.low j b h1 he
 ·obtain rfl:j=t:=by omega
  rw[List.getElem?_eq_getElem (by omega)]at he
  cases he;exact hb (by omega)
theorem aFW (L:List UInt8)(f t:Nat)(hl:zD (dC L) f)(hh:nJ (dC L) f t)(h1:∀h:f<(dC L).length,32<(dC L)[f].toNat)(h2:f<t→∀h:t-1<(dC L).length,32<(dC L)[t-1].toNat) :
  aZ L=((dC L).drop f).take (t-f):=by
 have e:((dC L).drop f).take (t-f)=((dC L).take t).drop f:=by
  rw[List.drop_take]
 rw[e];have hle:=hh.le;have hge:=hh.ge;refine aGt (dC L) f t (aJa L) hge hle hl.low (fun hft=>?_) hh.low (fun hft=>?_) (fun hft=>?_)
 ·exact⟨_,List.getElem?_eq_getElem (by omega),h1 (by omega)⟩
 ·exact⟨_,List.getElem?_eq_getElem (by omega),h2 hft (by omega)⟩
 ·rcases Nat.lt_or_ge f (dC L).length with h|h
  ·have a:=h1 h;have b:=hh.low f _ (by omega) (List.getElem?_eq_getElem h);omega
  ·omega
theorem bK.isB {w:World}{g off:Nat}{L:List UInt8}(h:bK w g off L):IsB w (some ⟨g,off,none⟩) L:=by
 intro j b hb;have hj:j<L.length:=(List.getElem?_eq_some_iff.1 hb).1;rw[List.getElem?_eq_getElem hj]at hb
 cases hb;refine⟨_,rfl,?_⟩;have hadd:(⟨g,off,none⟩:Addr).add j=⟨g,off+j,none⟩:=by unfold Addr.add;split<;>simp_all
 rw[hadd];exact h j hj
theorem aCD (b:UInt8):cO b=.int .u8 b.toNat:=rfl
theorem aIk (s:ByteArray)(hs:s.size≤1000000000)(w:World):Calls Tryz.prog 35 #[.string s] w fun e w'=>e=.returned (.string ⟨(aZ s.data.toList).toArray⟩)∧Below w.heap.size w w':=by
 obtain⟨i0,hi,hz0,hz1,hz2⟩:=info_parts Tryz.info5;have HTX:=hid (aBJ s hs w);have htl:=qI s.data.toList;have hsl:s.data.toList.length=s.size:=rfl;have hbl:=mZ s.data.toList;have HLF:=hid (aFW s.data.toList);obtain⟨t,ht⟩:∃t:ByteArray,t=⟨(bT s.data.toList).toArray⟩:=⟨_,rfl⟩
 have htt:t.data.toList=bT s.data.toList:=by rw[ht]
 have htz:t.size≤3000000000:=by rw[ht,iD];omega
 rw[←ht]at HTX
 rw[←htt]at hbl
 have HBL:=hid hbl;clear htl hsl hbl htt ht;generalize dC s.data.toList=O at *
 go_enter Tryz.func35,Tryz.ntmps35
 go_wp2_with fail
 refine HTX.out.mono ?_;rintro e W1 ⟨rfl,B1⟩;have HB1:=hid B1;clear B1;go_wp2
 go_loopw [4,5] (fun o i wx=>∃(k:Nat) (bs:List UInt8),i=.int .i64 k∧Hid (kG t.data.toList k bs)∧Hid (aM W1.heap.size 5 1 o bs.length (bs.map cO) W1 wx)) (fun _ i _=>t.size-(intOf i).toNat)
 case atStart=>exact⟨0,[],rfl,hid (kG.start _),hid (aM.nil W1 5 1)⟩
 case round =>
  obtain⟨k,bs,rfl,hK,hO⟩:=hrel;have hkl:=hK.out.len;have hkt:k≤t.size:=hK.out.le;rcases Nat.lt_or_ge k t.size with hlt|hge
  ·have HY:=hid (hK.out.yes hlt);have HN:=hid (hK.out.no hlt);have e:t.data.toList[k]'hlt=t[k]:=rfl;rw[e]at HY HN
   have hb8:=t[k].toNat_lt;by_cases h9:t[k].toNat=9
   ·have HF:=hid (HN.out (by rw[aET _ _ h9 (by omega)];rfl));have t1:((t[k].toNat:Int)==9)=true:=by rw[h9];rfl
    have t1':((t[k].toNat:Int) !=9)=false:=by rw[h9];rfl
    clear h9;go_wp2
    go_roundw
    case rel=>exact⟨k+1,bs,by go_num,HF,hO⟩
    case measure=>simp[intOf];omega
   ·have t1:((t[k].toNat:Int)==9)=false:=by rw[beq_eq_false_iff_ne];omega
    have t1':((t[k].toNat:Int) !=9)=true:=by rw[bne_iff_ne];omega
    by_cases h10:t[k].toNat=10
    ·have HF:=hid (HN.out (by rw[aET _ _ h10 (by omega)];rfl));have t2:((t[k].toNat:Int)==10)=true:=by rw[h10];rfl
     have t2':((t[k].toNat:Int) !=10)=false:=by rw[h10];rfl
     clear h9 h10;go_wp2
     go_roundw
     case rel=>exact⟨k+1,bs,by go_num,HF,hO⟩
     case measure=>simp[intOf];omega
    ·have t2:((t[k].toNat:Int)==10)=false:=by rw[beq_eq_false_iff_ne];omega
     have t2':((t[k].toNat:Int) !=10)=true:=by rw[bne_iff_ne];omega
     have HF:=hid (HY.out (by
      unfold aCp;rw[Bool.and_eq_true,bne_iff_ne,bne_iff_ne];exact⟨fun e=>h9 (by rw[e];rfl),fun e=>h10 (by rw[e];rfl)⟩))
     clear h9 h10;go_wp2_with (at_builtin;refine bC (by rfl) _ _ 35 (by rfl) 5 i0 (.int .u8 0) 1 1 Tryz.underlying35 hi hz0 hz1 hz2 rfl (by decide) _ _ _ rfl hO.out #[.int .u8 t[k].toNat] rfl rfl rfl rfl (by omega) (by omega) ?_)
     intro v' w' hO' _;go_wp2
     go_roundw
     case rel=>exact⟨k+1,bs++[t[k]],by go_num,HF,hid (hO'.out.cast (by simp) (by simp[cO]))⟩
     case measure=>simp[intOf];omega
  ·have hX:bs=O:=by
    have:=hK.out.out;rw[List.take_of_length_le (by exact hge)]at this
    rw[this,HBL.out];rfl
   subst hX;have HB2:=hid (HB1.out.trans (hO.out.bel.mono HB1.out.size));obtain⟨a,c,rfl,hac,_⟩:=hO.out.slice;have HI:=hid (hO.out.isB rfl);have HV:=hid hO.out.vec;go_wp2
   go_loop [6] (fun x=>∃f:Nat,x=.int .i64 f∧Hid (zD bs f)) (fun x=>bs.length-(intOf x).toNat)
   case atStart=>exact⟨0,rfl,hid ⟨Nat.zero_le _,fun j b hj=>absurd hj (by omega)⟩⟩
   case round =>
    obtain⟨f,rfl,hF⟩:=hrel;have hfl:=hF.out.le;rcases Nat.lt_or_ge f bs.length with hlt|hge'
    ·obtain⟨g,off,c',hva,hcell⟩:=HV.out.get f (by simpa using hlt);simp only[Value.slice.injEq,true_and]at hva;obtain⟨rfl,rfl⟩:=hva;rw[List.getElem_map,aCD]at hcell
     have hb8:=bs[f].toNat_lt;have HFN:=hid (hF.out.next hlt);have HFX:=hid (fun(hh:32<bs[f].toNat)=>(fun _=>hh:∀h:f<bs.length,32<bs[f].toNat));have HBF:Hid (∀h:f<bs.length,bs[f]=bs[f]):=fun _=>rfl
     obtain⟨bf,hbf⟩:∃bf,bs[f].toNat=bf:=⟨_,rfl⟩
     have HBFE:=hid hbf;rw[hbf]at hcell hb8
     clear hbf;rcases Nat.lt_or_ge 32 bf with hhi|hlo
     ·have HG:=hid (HFX.out (by rw[HBFE.out];exact hhi));have HBY:Hid (bK wr g off bs):=by
       intro j hj;obtain⟨g',off',c'',hva',hcell'⟩:=HV.out.get j (by simpa using hj);simp only[Value.slice.injEq,Option.some.injEq,Addr.mk.injEq,true_and,and_true]at hva';obtain⟨⟨rfl,rfl⟩,_⟩:=hva';rw[List.getElem_map,aCD]at hcell'
       exact hcell'
      go_wp2
      go_loop [7] (fun x=>∃u:Nat,x=.int .i64 u∧Hid (nJ bs f u)) (fun x=>(intOf x).toNat)
      case atStart=>exact⟨bs.length,rfl,hid (nJ.start hfl)⟩
      case round =>
       obtain⟨u,rfl,hU⟩:=hrel;have hul:=hU.out.le;have huf:f<u:=by
        rcases Nat.lt_or_ge f u with h|h
        ·exact h
        ·have:=hU.out.low f _ h (List.getElem?_eq_getElem hlt);have:=HG.out hlt;omega
       obtain⟨q,rfl⟩:∃q,u=q+1:=⟨u-1,by omega⟩
       have hcq:=HBY.out q (by omega);have hq8:=(bs[q]'(by omega)).toNat_lt;obtain⟨bq,hbq⟩:∃bq,(bs[q]'(by omega)).toNat=bq:=⟨_,rfl⟩
       have HBQ:=hid hbq;rw[hbq]at hcq hq8
       clear hbq;rcases Nat.lt_or_ge 32 bq with hqh|hql
       ·have HR:=hid (HLF.out f (q+1) hF.out hU.out HG.out (fun _ _=>by simp only[Nat.add_sub_cancel];rw[HBQ.out];exact hqh));have hsl:=aDL g off c f (q+1) bs.length (by omega) (by omega) (by omega) wr;have hcv:=nT (P:=Tryz.prog) wr 35 5 9 Tryz.underlying35 Tryz.underlying5 Tryz.underlying9 (some ⟨g,off+f,none⟩) ((bs.drop f).take (q+1-f)) (q+1-f) (c-f) (by rw[List.length_take,List.length_drop];omega) (HBY.out.cut f (q+1-f)).isB;rw[Int.natCast_add]at hsl
        go_wp2
        go_ret;refine⟨?_,HB2.out⟩;rw[HR.out];rfl
       ·have HN:=hid (hU.out.next huf (fun _=>by rw[HBQ.out];exact hql));go_wp2
        go_round
        case rel=>exact⟨q,by go_num,HN⟩
        case measure=>simp[intOf]
     ·have HN:=hid (HFN.out (by rw[HBFE.out];exact hlo));go_wp2
      go_round
      case rel=>exact⟨f+1,by go_num,HN⟩
      case measure=>simp[intOf];omega
    ·obtain rfl:f=bs.length:=by omega
     have HR:=hid (HLF.out bs.length bs.length hF.out ⟨Nat.le_refl _,Nat.le_refl _,fun j b hj he=>by rw[List.getElem?_eq_none hj]at he;cases he⟩ (fun h=>absurd h (Nat.lt_irrefl _)) (fun h=>absurd h (Nat.lt_irrefl _)));have hsl:=tC 35 5 Tryz.underlying35 (by kernel_rfl) wr a bs.length c bs.length bs.length aAd hac;generalize (if c=bs.length then a else a.map (·.add bs.length))=a' at hsl;rw[Nat.sub_self]at hsl
     have hcv:=nT (P:=Tryz.prog) wr 35 5 9 Tryz.underlying35 Tryz.underlying5 Tryz.underlying9 a' [] 0 (c-bs.length) rfl (IsB.nil _ _);go_wp2
     go_loop [7] (fun x=>x=.int .i64 bs.length) (fun _=>0)
     case atStart=>rfl
     case round =>
      subst hrel;go_wp2
      go_ret;refine⟨?_,HB2.out⟩;rw[HR.out];simp
end Go.Proofs.YtcfgbdhpcboikaaGreatDoor
