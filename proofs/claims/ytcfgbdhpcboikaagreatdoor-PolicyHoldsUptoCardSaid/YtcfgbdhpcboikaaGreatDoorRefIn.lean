/-
The document's 'in' (a word of a list's, with blanks between): what it answers.
-/
import Derived.Test.YtcfgbdhpcboikaaGreatDoorLinkF
namespace Go.Proofs.YtcfgbdhpcboikaaGreatDoor
open Go.Lib (hid)
set_option maxHeartbeats 4000000
set_option maxRecDepth 100000
open Go.RowKit
theorem aBt {n:Nat}:n≤n:=Nat.le_refl n
theorem aDk (cur:List UInt8):dR cur []=if cur.isEmpty then []else [cur]:=by unfold dR;rfl
theorem mK (cur l:List UInt8):dR cur (32 :: l)=if cur.isEmpty then dR [] l else cur :: dR [] l:=by
 conv=>lhs;unfold dR
 rw[if_pos rfl]
theorem aB4 (cur l:List UInt8)(c:UInt8)(h:¬c=32):dR cur (c :: l)=dR (cur++[c]) l:=by
 conv=>lhs;unfold dR
 rw[if_neg h]
def eW (l:List UInt8)(f k:Nat):List UInt8:=(l.take k).drop f
theorem oE (l:List UInt8)(k:Nat):eW l k k=[]:=by
 unfold eW;apply List.drop_eq_nil_of_le;rw[List.length_take];omega
theorem aHC (l:List UInt8)(f k:Nat)(h:k<l.length)(hf:f≤k):eW l f (k+1)=eW l f k++[l[k]]:=by
 unfold eW;rw[List.take_succ_eq_append_getElem h,List.drop_append_of_le_length (by rw[List.length_take];omega)]
theorem pD (l:List UInt8)(f k:Nat)(h:k≤l.length)(hf:f<k):(eW l f k).isEmpty=false:=by
 unfold eW;rw[List.isEmpty_eq_false_iff];intro e;have:=congrArg List.length e;rw[List.length_drop,List.length_take]at this
 simp at this;omega
def fL (w l:List UInt8)(f k:Nat):Bool:=(dR (eW l f k) (l.drop k)).contains w
theorem aHb (w l:List UInt8):fL w l 0 0=inB w l:=by
 unfold fL inB wE;rw[oE];rfl
theorem aIH (w l:List UInt8)(f k:Nat)(h:k<l.length)(hf:f≤k)(hc:¬l[k]=32):fL w l f (k+1)=fL w l f k:=by
 unfold fL;rw[List.drop_eq_getElem_cons h,aB4 _ _ _ hc,aHC l f k h hf]
theorem aHa (w l:List UInt8)(f k:Nat)(h:k<l.length)(hf:f<k)(hc:l[k]=32)(hw:¬eW l f k=w):fL w l (k+1) (k+1)=fL w l f k:=by
 unfold fL;rw[List.drop_eq_getElem_cons h,hc,mK,oE,pD l f k (by omega) hf];simp only[Bool.false_eq_true,if_false,List.contains_cons];have:(w==eW l f k)=false:=by rw[beq_eq_false_iff_ne];exact fun e=>hw e.symm
 rw[this,Bool.false_or]
theorem aIG (w l:List UInt8)(k:Nat)(h:k<l.length)(hc:l[k]=32):fL w l (k+1) (k+1)=fL w l k k:=by
 unfold fL;rw[List.drop_eq_getElem_cons h,hc,mK,oE,oE];rfl
theorem aD1 (w l:List UInt8)(f k:Nat)(h:k≤l.length)(hf:f<k)(hc:k=l.length∨∃h:k<l.length,l[k]=32)(hw:eW l f k=w):fL w l f k=true:=by
 unfold fL;rcases hc with rfl|⟨h,hc⟩
 ·rw[List.drop_eq_nil_of_le aBt,aDk,pD l f _ h hf,hw];simp
 ·rw[List.drop_eq_getElem_cons h,hc,mK,pD l f k (by omega) hf,hw];simp
theorem aD0 (w l:List UInt8)(f:Nat)(hf:f≤l.length)(hw:f<l.length→¬eW l f l.length=w):fL w l f l.length=false:=by
 unfold fL;rw[List.drop_eq_nil_of_le aBt,aDk];rcases Nat.lt_or_ge f l.length with h|h
 ·rw[pD l f _ aBt h];have:=hw h;simp only[Bool.false_eq_true,if_false,List.contains_cons,List.contains_nil,Bool.or_false];rw[beq_eq_false_iff_ne];exact fun e=>this e.symm
 ·obtain rfl:f=l.length:=by omega
  rw[oE];rfl
theorem iC (l:ByteArray)(f k:Nat):(l.extract f k).toList=eW l.data.toList f k:=by
 rw[toList_data];unfold eW;simp[List.drop_take]
def aQr (s l:ByteArray)(f k:Nat)(b:Bool):Prop :=
 f≤k∧(k≤l.size∧fL s.data.toList l.data.toList f k=b∨k=l.size+1∧b=false)
theorem mE (s l:ByteArray)(b:Bool)(hb:Hid (inB s.data.toList l.data.toList=b))(ml:l.size≤1000000000)(w:World) :
  Calls Tryz.prog 69 #[.string s,.string l] w fun e w'=>e=.returned (.bool b)∧w=w':=by
 go_enter Tryz.func69,Tryz.ntmps69
 go_wp2
 go_loop [4,5,6] (fun r fr i=>r=.bool false∧∃f k:Nat,fr=.int .i64 f∧i=.int .i64 k∧Hid (aQr s l f k b)) (fun _ _ i=>l.size+1-(intOf i).toNat)
 case atStart=>exact⟨rfl,0,0,rfl,rfl,⟨Nat.le_refl _,.inl ⟨Nat.zero_le _,by rw[aHb];exact hb.out⟩⟩⟩
 case round =>
  obtain⟨rfl,f,k,rfl,rfl,hR⟩:=hrel;rcases Nat.lt_or_ge l.size k with hk|hk
  ·have hfalse:b=false:=by
    rcases hR.out.2 with⟨h1,_⟩|⟨_,h⟩
    ·omega
    ·exact h
   have HF:=hid hfalse;clear hfalse;go_wp2
   go_ret;refine⟨?_,rfl⟩;rw[HF.out];rfl
  ·have hfk:f≤k:=hR.out.1;have hto:fL s.data.toList l.data.toList f k=b:=by
    rcases hR.out.2 with⟨_,h⟩|⟨h,_⟩
    ·exact h
    ·omega
   have hlen:l.data.toList.length=l.size:=rfl;have HT:=hid hto;have HL:=hid hlen;clear hto hlen;rcases Nat.lt_or_ge k l.size with hlt|hge
   ·by_cases hc:l[k]=32
    ·have hb32:((l[k].toNat:Int)==32)=true:=by rw[hc];rfl
     have HC:=hid hc;clear hc;rcases Nat.lt_or_ge f k with hf|hf
     ·by_cases hw:eW l.data.toList f k=s.data.toList
      ·have hx:((l.extract f k).toList==s.toList)=true:=by rw[iC,toList_data,hw];simp
       have HW:=hid hw;clear hw;go_wp2
       go_ret;refine⟨?_,rfl⟩;rw[←HT.out,aD1 _ _ f k (Nat.le_of_lt (HL.out▸hlt)) hf (.inr ⟨HL.out▸hlt,HC.out⟩) HW.out];rfl
      ·have hx:((l.extract f k).toList==s.toList)=false:=by rw[iC,toList_data,beq_eq_false_iff_ne];exact hw
       have HW:=hid hw;clear hw;go_wp2
       go_round
       case rel=>exact⟨rfl,k+1,k+1,by go_num,by go_num,⟨Nat.le_refl _,.inl ⟨hlt,(aHa _ _ f k (HL.out▸hlt) hf HC.out HW.out).trans HT.out⟩⟩⟩
       case measure=>simp[intOf];omega
     ·obtain rfl:f=k:=by omega
      go_wp2
      go_round
      case rel=>exact⟨rfl,f+1,f+1,by go_num,by go_num,⟨Nat.le_refl _,.inl ⟨hlt,(aIG _ _ f (HL.out▸hlt) HC.out).trans HT.out⟩⟩⟩
      case measure=>simp[intOf];omega
    ·have hb32:((l[k].toNat:Int)==32)=false:=by
      rw[beq_eq_false_iff_ne];intro e;exact hc (UInt8.toNat_inj.1 (by simpa using (by omega:l[k].toNat=32)))
     have hks:((k:Int)==(l.size:Int))=false:=by
      rw[beq_eq_false_iff_ne];omega
     have HC:=hid hc;clear hc;go_wp2
     go_round
     case rel=>exact⟨rfl,f,k+1,rfl,by go_num,⟨by omega,.inl ⟨hlt,(aIH _ _ f k (HL.out▸hlt) hfk HC.out).trans HT.out⟩⟩⟩
     case measure=>simp[intOf];omega
   ·obtain rfl:k=l.size:=by omega
    rcases Nat.lt_or_ge f l.size with hf|hf
    ·by_cases hw:eW l.data.toList f l.size=s.data.toList
     ·have hx:((l.extract f l.size).toList==s.toList)=true:=by rw[iC,toList_data,hw];simp
      have HW:=hid hw;clear hw;go_wp2
      go_ret;refine⟨?_,rfl⟩;rw[←HT.out,aD1 _ _ f l.size (Nat.le_of_eq HL.out.symm) hf (.inl HL.out.symm) HW.out];rfl
     ·have hx:((l.extract f l.size).toList==s.toList)=false:=by rw[iC,toList_data,beq_eq_false_iff_ne];exact hw
      have HB:Hid (b=false):=by
       show b=false;rw[←HT.out];have:=aD0 s.data.toList l.data.toList f (by rw[HL.out];exact hfk) (fun _=>by rw[HL.out];exact hw);rwa[HL.out]at this
      clear hw;go_wp2
      go_round
      case rel=>exact⟨rfl,l.size+1,l.size+1,by go_num,by go_num,⟨Nat.le_refl _,.inr ⟨rfl,HB.out⟩⟩⟩
      case measure=>simp[intOf]
    ·obtain rfl:f=l.size:=by omega
     have HB:Hid (b=false):=by
      show b=false;rw[←HT.out];have:=aD0 s.data.toList l.data.toList l.size (by rw[HL.out];exact hfk) (fun h=>by rw[HL.out]at h;omega);rwa[HL.out]at this
     go_wp2
     go_round
     case rel=>exact⟨rfl,l.size+1,l.size+1,by go_num,by go_num,⟨Nat.le_refl _,.inr ⟨rfl,HB.out⟩⟩⟩
     case measure=>simp[intOf]
open Go.RowKit
def kE (j:Nat):ByteArray:=⟨(bU.getD j []).toArray⟩
def aM1 (w W:World)(b:Nat):Prop:=Below w.heap.size w W∧∀j,j<15→W.cell? ⟨b,j,none⟩=some (.string (kE j))
theorem aFL (w:World)(j:Nat)(h:j<15):(w.alloc (.cells (bU.map fun l=>Value.string ⟨l.toArray⟩).toArray 9)).cell? ⟨w.heap.size,j,none⟩=some (.string (kE j)):=by
 rw[cell_of_row _ w.heap.size j _ 9 (0,0) (heap_alloc_new w _)];have:∀j<15,(bU.map fun l=>Value.string ⟨l.toArray⟩).toArray[j]?=some (Value.string (kE j)):=by
  intro j hj;have hl:bU.length=15:=rfl;rw[List.getElem?_toArray,List.getElem?_map,List.getElem?_eq_getElem (by omega)];unfold kE;simp[List.getD_eq_getElem?_getD,List.getElem?_eq_getElem (show j<bU.length by omega)]
 exact this j h
theorem aJp (w:World):Calls Tryz.prog 68 #[] w fun e w'=>e=.returned (.slice (some ⟨w.heap.size,0,none⟩) 15 15)∧Hid (aM1 w w' w.heap.size):=by
 go_enter Tryz.func68,Tryz.ntmps68
 go_wp2
 go_ret;exact⟨rfl,(Below.refl _ w).alloc aBt _,fun j hj=>aFL w j hj⟩
theorem aQC (w:World):Calls Tryz.prog 70 #[.int .i64 0] w fun e w'=>e=.returned (.int .i64 0)∧w=w':=by
 go_enter Tryz.func70,Tryz.ntmps70
 go_wp2
 go_ret;exact⟨rfl,rfl⟩
theorem aQD (w:World):Calls Tryz.prog 70 #[.int .i64 1] w fun e w'=>e=.returned (.int .i64 0)∧w=w':=by
 go_enter Tryz.func70,Tryz.ntmps70
 go_wp2
 go_ret;exact⟨rfl,rfl⟩
theorem aQE (w:World):Calls Tryz.prog 70 #[.int .i64 2] w fun e w'=>e=.returned (.int .i64 765)∧w=w':=by
 go_enter Tryz.func70,Tryz.ntmps70
 go_wp2
 go_ret;exact⟨rfl,rfl⟩
theorem aQF (w:World):Calls Tryz.prog 70 #[.int .i64 3] w fun e w'=>e=.returned (.int .i64 49)∧w=w':=by
 go_enter Tryz.func70,Tryz.ntmps70
 go_wp2
 go_ret;exact⟨rfl,rfl⟩
theorem aQG (w:World):Calls Tryz.prog 70 #[.int .i64 4] w fun e w'=>e=.returned (.int .i64 49)∧w=w':=by
 go_enter Tryz.func70,Tryz.ntmps70
 go_wp2
 go_ret;exact⟨rfl,rfl⟩
theorem aQH (w:World):Calls Tryz.prog 70 #[.int .i64 5] w fun e w'=>e=.returned (.int .i64 0)∧w=w':=by
 go_enter Tryz.func70,Tryz.ntmps70
 go_wp2
 go_ret;exact⟨rfl,rfl⟩
theorem aQI (w:World):Calls Tryz.prog 70 #[.int .i64 6] w fun e w'=>e=.returned (.int .i64 0)∧w=w':=by
 go_enter Tryz.func70,Tryz.ntmps70
 go_wp2
 go_ret;exact⟨rfl,rfl⟩
theorem aQJ (w:World):Calls Tryz.prog 70 #[.int .i64 7] w fun e w'=>e=.returned (.int .i64 256)∧w=w':=by
 go_enter Tryz.func70,Tryz.ntmps70
 go_wp2
 go_ret;exact⟨rfl,rfl⟩
theorem aQK (w:World):Calls Tryz.prog 70 #[.int .i64 8] w fun e w'=>e=.returned (.int .i64 765)∧w=w':=by
 go_enter Tryz.func70,Tryz.ntmps70
 go_wp2
 go_ret;exact⟨rfl,rfl⟩
theorem aQL (w:World):Calls Tryz.prog 70 #[.int .i64 9] w fun e w'=>e=.returned (.int .i64 3072)∧w=w':=by
 go_enter Tryz.func70,Tryz.ntmps70
 go_wp2
 go_ret;exact⟨rfl,rfl⟩
theorem aPI (w:World):Calls Tryz.prog 70 #[.int .i64 10] w fun e w'=>e=.returned (.int .i64 49)∧w=w':=by
 go_enter Tryz.func70,Tryz.ntmps70
 go_wp2
 go_ret;exact⟨rfl,rfl⟩
theorem aPJ (w:World):Calls Tryz.prog 70 #[.int .i64 11] w fun e w'=>e=.returned (.int .i64 4096)∧w=w':=by
 go_enter Tryz.func70,Tryz.ntmps70
 go_wp2
 go_ret;exact⟨rfl,rfl⟩
theorem aPK (w:World):Calls Tryz.prog 70 #[.int .i64 12] w fun e w'=>e=.returned (.int .i64 8192)∧w=w':=by
 go_enter Tryz.func70,Tryz.ntmps70
 go_wp2
 go_ret;exact⟨rfl,rfl⟩
theorem aPL (w:World):Calls Tryz.prog 70 #[.int .i64 13] w fun e w'=>e=.returned (.int .i64 765)∧w=w':=by
 go_enter Tryz.func70,Tryz.ntmps70
 go_wp2
 go_ret;exact⟨rfl,rfl⟩
theorem aPM (w:World):Calls Tryz.prog 70 #[.int .i64 14] w fun e w'=>e=.returned (.int .i64 765)∧w=w':=by
 go_enter Tryz.func70,Tryz.ntmps70
 go_wp2
 go_ret;exact⟨rfl,rfl⟩
theorem aLF (s:List UInt8)(k:Nat)(h:k<15):qM s (bU.drop k) k=if inB s (bU.getD k [])then k else qM s (bU.drop (k+1)) (k+1):=by
 have hl:bU.length=15:=rfl;rw[List.drop_eq_getElem_cons (by omega)];have e:bU.getD k []=bU[k]'(by omega):=by simp[List.getD_eq_getElem?_getD,List.getElem?_eq_getElem (show k<bU.length by omega)]
 rw[e];conv=>lhs;unfold qM
theorem xK (k:Nat):(kE k).size≤1000000000:=by
 have h:∀k<15,(bU.getD k []).length≤1000:=by decide +kernel
 have e:(kE k).size=(bU.getD k []).length:=rfl;rw[e];rcases Nat.lt_or_ge k 15 with hk|hk
 ·have:=h k hk;omega
 ·have hl:bU.length=15:=rfl;rw[List.getD_eq_getElem?_getD,List.getElem?_eq_none (by omega)];simp
def aQv (s:ByteArray)(r k:Nat):Prop:=k≤15∧qM s.data.toList (bU.drop k) k=r
theorem aHI (s:ByteArray)(r:Nat)(hr:Hid (aW s.data.toList=r))(w:World):Calls Tryz.prog 25 #[.string s] w fun e w'=>e=.returned (.int .i64 (r:Nat))∧Below w.heap.size w w':=by
 go_enter Tryz.func25,Tryz.ntmps25
 go_wp2_with fail
 refine(aJp _).mono ?_;rintro e W ⟨rfl,hK⟩;have hg:Hid (w.heap.size=w.heap.size):=rfl;generalize w.heap.size=b at hK;go_wp2
 go_loop [2,4] (fun v i=>v=.int .i64 0∧∃k:Nat,i=.int .i64 k∧Hid (aQv s r k)) (fun _ i=>15-(intOf i).toNat)
 case atStart=>exact⟨rfl,0,rfl,⟨Nat.zero_le _,(aJo s.data.toList).trans hr.out⟩⟩
 case round =>
  obtain⟨rfl,k,rfl,hR⟩:=hrel;rcases Nat.lt_or_ge k 15 with hk|hk
  ·have hcell:=hK.out.2 k hk;have hst:=aLF s.data.toList k hk;have h2:=hR.out.2;rw[hst]at h2
   cases hb:inB s.data.toList (bU.getD k [])with
   | true =>
    rw[hb,if_pos rfl]at h2
    have HB:Hid (inB s.data.toList (kE k).data.toList=true):=hb;have H2:=hid h2;clear h2 hst hb;go_wp2_with (go_at_call 69;refine(mE s (kE k) true HB (xK k) _).mono ?_;rintro e w' ⟨rfl,rfl⟩)
    go_ret;refine⟨?_,hK.out.1⟩;rw[←H2.out];rfl
   | false =>
    rw[hb,if_neg (by simp)]at h2
    have HB:Hid (inB s.data.toList (kE k).data.toList=false):=hb;have H2:=hid h2;clear h2 hst hb;go_wp2_with (go_at_call 69;refine(mE s (kE k) false HB (xK k) _).mono ?_;rintro e w' ⟨rfl,rfl⟩)
    go_round
    case rel=>exact⟨rfl,k+1,by go_num,⟨hk,H2.out⟩⟩
    case measure=>simp[intOf];omega
  ·have hz:r=0:=by
    have h2:=hR.out.2;have:k=15:=by have:=hR.out.1;omega
    subst this;rw[←h2];rfl
   have HZ:=hid hz;clear hz;go_wp2
   go_ret;refine⟨?_,hK.out.1⟩;rw[HZ.out];rfl
theorem iO (s:ByteArray)(w:World):Calls Tryz.prog 25 #[.string s] w fun e w'=>e=.returned (.int .i64 (aW s.data.toList:Nat))∧Below w.heap.size w w':=aHI s _ (hid rfl) w
open Go.RowKit
def iB (s:ByteArray)(n:Int):Prop:=∀w,Calls Tryz.prog 25 #[.string s] w fun e w'=>e=.returned (.int .i64 n)∧Below w.heap.size w w'
def aA0 (n h:Int):Prop:=∀w,Calls Tryz.prog 70 #[.int .i64 n] w fun e w'=>e=.returned (.int .i64 h)∧w=w'
theorem aJa (p:Nat)(hp:p≤14):aA0 (p:Nat) (rM p:Nat):=by
 have h:p=0∨p=1∨p=2∨p=3∨p=4∨p=5∨p=6∨p=7∨p=8∨p=9∨p=10∨p=11∨p=12∨p=13∨p=14:=by omega
 rcases h with rfl|rfl|rfl|rfl|rfl|rfl|rfl|rfl|rfl|rfl|rfl|rfl|rfl|rfl|rfl
 ·exact aQC
 ·exact aQD
 ·exact aQE
 ·exact aQF
 ·exact aQG
 ·exact aQH
 ·exact aQI
 ·exact aQJ
 ·exact aQK
 ·exact aQL
 ·exact aPI
 ·exact aPJ
 ·exact aPK
 ·exact aPL
 ·exact aPM
theorem aL9 (p k:ByteArray)(hk:Hid (iB k 0))(w:World) :
  Calls Tryz.prog 27 #[.string p,.string k] w fun e w'=>e=.returned (.bool false)∧Below w.heap.size w w':=by
 go_enter Tryz.func27,Tryz.ntmps27
 go_wp2_with fail
 refine(hk.out _).mono ?_;rintro e w1 ⟨rfl,B1⟩;have HB1:=hid B1;clear B1;go_wp2
 go_ret;exact⟨rfl,HB1.out⟩
theorem aJZ (p k:ByteArray)(P h:Int)(K:Int)(h0:0<K)(h1:K≤14)(_hh0:0≤h)(_hh1:h≤100000)(hp:Hid (iB p P))(hk:Hid (iB k K))(hh:Hid (aA0 P h))
  (ht:(bits BinOp.and IntKind.i64 (h / 2^K.toNat) 1==1)=false) (w:World) :
  Calls Tryz.prog 27 #[.string p,.string k] w fun e w'=>e=.returned (.bool false)∧Below w.heap.size w w':=by
 go_enter Tryz.func27,Tryz.ntmps27
 go_wp2_with fail
 refine(hk.out _).mono ?_;rintro e w1 ⟨rfl,B1⟩;have HB1:=hid B1;clear B1;go_wp2_with fail
 refine(hp.out _).mono ?_;rintro e w2 ⟨rfl,B2⟩;have HB2:=hid (HB1.out.trans (B2.mono HB1.out.size));clear B2;go_wp2_with fail
 refine(hh.out _).mono ?_;rintro e w' ⟨rfl,rfl⟩;go_wp2
 go_ret;exact⟨rfl,HB2.out⟩
theorem aHK (p k:ByteArray)(P h:Int)(K:Int)(h0:0<K)(h1:K≤14)(_hh0:0≤h)(_hh1:h≤100000)(hp:Hid (iB p P))(hk:Hid (iB k K))(hh:Hid (aA0 P h))
  (ht:(bits BinOp.and IntKind.i64 (h / 2^K.toNat) 1==1)=true) (h4:(K==4)=false) (w:World) :
  Calls Tryz.prog 27 #[.string p,.string k] w fun e w'=>e=.returned (.bool true)∧Below w.heap.size w w':=by
 go_enter Tryz.func27,Tryz.ntmps27
 go_wp2_with fail
 refine(hk.out _).mono ?_;rintro e w1 ⟨rfl,B1⟩;have HB1:=hid B1;clear B1;go_wp2_with fail
 refine(hp.out _).mono ?_;rintro e w2 ⟨rfl,B2⟩;have HB2:=hid (HB1.out.trans (B2.mono HB1.out.size));clear B2;go_wp2_with fail
 refine(hh.out _).mono ?_;rintro e w' ⟨rfl,rfl⟩;go_wp2
 go_ret;exact⟨rfl,HB2.out⟩
theorem aMa (p k:ByteArray)(P h:Int)(b:Bool)(_hh0:0≤h)(_hh1:h≤100000)(hp:Hid (iB p P))(hk:Hid (iB k 4))(hh:Hid (aA0 P h))
  (ht:(bits BinOp.and IntKind.i64 (h / 16) 1==1)=true) (hb:(p.toList==k.toList)=b) (w:World) :
  Calls Tryz.prog 27 #[.string p,.string k] w fun e w'=>e=.returned (.bool (!b))∧Below w.heap.size w w':=by
 go_enter Tryz.func27,Tryz.ntmps27
 go_wp2_with fail
 refine(hk.out _).mono ?_;rintro e w1 ⟨rfl,B1⟩;have HB1:=hid B1;clear B1;go_wp2_with fail
 refine(hp.out _).mono ?_;rintro e w2 ⟨rfl,B2⟩;have HB2:=hid (HB1.out.trans (B2.mono HB1.out.size));clear B2;go_wp2_with fail
 refine(hh.out _).mono ?_;rintro e w' ⟨rfl,rfl⟩;go_wp2
 all_goals
  go_ret;refine⟨?_,HB2.out⟩;rfl
theorem aDX:∀p<15,∀k<15,(bits BinOp.and IntKind.i64 (((rM p:Nat):Int) / 2^((k:Nat):Int).toNat) 1==1)=decide (rM p / 2^k%2=1):=by decide +kernel
theorem aJb:∀p<15,rM p≤100000:=by decide +kernel
theorem aHJ (p k:ByteArray)(w:World):Calls Tryz.prog 27 #[.string p,.string k] w fun e w'=>e=.returned (.bool (mY p.data.toList k.data.toList))∧Below w.heap.size w w':=by
 have hp:iB p (aW p.data.toList:Nat):=fun w=>iO p w
 have hk:iB k (aW k.data.toList:Nat):=fun w=>iO k w
 have lk:=rN k.data.toList;have lp:=rN p.data.toList;have hs:(k.data.toList==p.data.toList)=(p.toList==k.toList):=by
  rw[toList_data,toList_data,Bool.eq_iff_iff];simp only[beq_iff_eq];exact⟨fun e=>e.symm,fun e=>e.symm⟩
 have hsame:(p.toList==k.toList)=true→aW p.data.toList=aW k.data.toList:=by
  intro h;rw[←hs]at h
  rw[beq_iff_eq.1 h]
 unfold mY;rw[hs];generalize aW k.data.toList=K at hk lk hsame;generalize aW p.data.toList=P at hp lp hsame;rw[←aLR P (by omega) K (by omega) _ hsame];have hb:=aDX P (by omega) K (by omega);have hh:=aJa P lp;have hl:=aJb P (by omega);by_cases k0:K=0
 ·subst k0;exact aL9 p k (hid hk) w
 ·have e0:decide (0<K)=true:=by simp;omega
  rw[e0,Bool.true_and];cases ht:decide (rM P / 2^K%2=1)with
  | false =>
   rw[ht]at hb
   rw[Bool.false_and];exact aJZ p k P (rM P) K (by omega) (by omega) (by omega) (by omega) (hid hp) (hid hk) (hid hh) hb w
  | true =>
   rw[ht]at hb
   rw[Bool.true_and];by_cases k4:K=4
   ·subst k4;have e4:decide (4=4)=true:=rfl;rw[e4,Bool.true_and];exact aMa p k P (rM P) _ (by omega) (by omega) (hid hp) (hid hk) (hid hh) hb rfl w
   ·have e4:decide (K=4)=false:=by simp[k4]
    rw[e4,Bool.false_and];exact aHK p k P (rM P) K (by omega) (by omega) (by omega) (by omega) (hid hp) (hid hk) (hid hh) hb (by rw[beq_eq_false_iff_ne];omega) w
theorem aFW (p:ByteArray)(P h:Int)(b:Bool)(_hh0:0≤h)(_hh1:h≤100000)(hp:Hid (iB p P))(hh:Hid (aA0 P h))
  (ht:(bits BinOp.and IntKind.i64 h 1==1)=b) (w:World) :
  Calls Tryz.prog 29 #[.string p] w fun e w'=>e=.returned (.bool b)∧Below w.heap.size w w':=by
 go_enter Tryz.func29,Tryz.ntmps29
 go_wp2_with fail
 refine(hp.out _).mono ?_;rintro e w2 ⟨rfl,B2⟩;have HB2:=hid B2;clear B2;go_wp2_with fail
 refine(hh.out _).mono ?_;rintro e w' ⟨rfl,rfl⟩;go_wp2
 all_goals
  go_ret;refine⟨?_,HB2.out⟩;rfl
theorem aEX (p:ByteArray)(w:World):Calls Tryz.prog 29 #[.string p] w fun e w'=>e=.returned (.bool (mI p.data.toList))∧Below w.heap.size w w':=by
 have hp:iB p (aW p.data.toList:Nat):=fun w=>iO p w
 have lp:=rN p.data.toList;unfold mI;generalize aW p.data.toList=P at hp lp;rw[←aH3 P (by omega)];have hb:=aDX P (by omega) 0 (by omega);have hl:=aJb P (by omega);refine aFW p P (rM P) _ (by omega) (by omega) (hid hp) (hid (aJa P lp)) ?_ w;simpa using hb
theorem rC (old new:List UInt8)(ho:old≠[]):Lib.replaceAll [] old new=[]:=by
 unfold Lib.replaceAll Lib.replace;split
 ·rfl
 ·have h:Lib.index [] old=-1:=by
   cases old with
   | nil=>exact absurd rfl ho
   | cons a t=>rfl
  have hn:Lib.replaceNum [] old (-1)=Lib.count [] old:=if_pos (Or.inl (by omega));rw[hn,Lib.count_miss h];rfl
theorem qO (s old new:List UInt8)(hne:old≠new):Lib.replaceAll s old new=Lib.replaceK old new (Lib.count s old) s:=by
 unfold Lib.replaceAll Lib.replace;rw[if_neg (by simpa using hne)];have hn:Lib.replaceNum s old (-1)=Lib.count s old:=if_pos (Or.inl (by omega));rw[hn]
theorem rB (old new b:List UInt8)(ho:old≠[])(hne:old≠new):Lib.replaceAll (old++b) old new=new++Lib.replaceAll b old new:=by
 have hi:Lib.index (old++b) old=(0:Nat):=by
  cases old with
  | nil=>exact absurd rfl ho
  | cons a t =>
   show(if (a :: t).isPrefixOf (a :: (t++b))then (0:Int)else _)=_;rw[if_pos (by rw[List.isPrefixOf_iff_prefix];exact⟨b,rfl⟩)];rfl
 have hc:=Lib.count_hit ho hi;rw[Nat.zero_add,List.drop_left]at hc
 rw[qO _ _ _ hne,qO _ _ _ hne,hc,Nat.add_comm 1,Lib.replaceK_hit old new _ _ 0 hi,Nat.zero_add,List.drop_left];rfl
theorem kY (old new:List UInt8)(c:UInt8)(l:List UInt8)(ho:old≠[])(hne:old≠new)(h:old.isPrefixOf (c :: l)=false):Lib.replaceAll (c :: l) old new=c :: Lib.replaceAll l old new:=by
 have e:Lib.index (c :: l) old=if Lib.index l old==-1 then -1 else Lib.index l old+1:=by
  show(if old.isPrefixOf (c :: l)then (0:Int)else _)=_;rw[h];rfl
 rw[qO _ _ _ hne,qO _ _ _ hne];by_cases hm:Lib.index l old=-1
 ·rw[hm]at e
  rw[Lib.count_miss hm,Lib.count_miss (show Lib.index (c :: l) old=-1 from e)];rfl
 ·have hge:=Lib.index_ge l old;obtain⟨i,hi⟩:∃i:Nat,Lib.index l old=i:=⟨(Lib.index l old).toNat,by omega⟩
  rw[hi,if_neg (by simp)]at e
  have e2:Lib.index (c :: l) old=((i+1:Nat):Int):=e;have h1:=Lib.count_hit ho hi;have h2:=Lib.count_hit ho e2;have hd:(c :: l).drop (i+1+old.length)=l.drop (i+old.length):=by
   rw[show i+1+old.length=i+old.length+1 by omega,List.drop_succ_cons]
  rw[hd,←h1]at h2
  rw[h2,h1,Nat.add_comm 1,Lib.replaceK_hit old new _ _ _ e2,Lib.replaceK_hit old new _ _ _ hi,hd];rfl
theorem rR (o:UInt8)(old new:List UInt8)(hne:o :: old≠new):∀(a b:List UInt8),o∉a→Lib.replaceAll (a++b) (o :: old) new=a++Lib.replaceAll b (o :: old) new:=by
 intro a b;induction a with
 | nil=>intro _;rfl
 | cons c a ih =>
  intro h;rw[List.cons_append,kY _ _ _ _ (by simp) hne,ih (fun hh=>h (List.mem_cons_of_mem _ hh))]
  ·rfl
  ·have:(o==c)=false:=by
    rw[beq_eq_false_iff_ne];intro e;exact h (e▸List.mem_cons_self)
   show((o==c)&&_)=false;rw[this];rfl
def dS:List UInt8→List UInt8
 | []=>[]
 | c :: l=>if c=38 then [38,97,109,112,59]++dS l else if c=60 then [38,108,116,59]++dS l else if c=62 then [38,103,116,59]++dS l else if c=34 then [38,113,117,111,116,59]++dS l
  else if c=194∧l.head?=some 160 then [38,110,98,115,112,59]++dS (l.drop 1)else c :: dS l
termination_by l=>l.length
decreasing_by all_goals (simp;try omega)
def rp1 (l:List UInt8):=Lib.replaceAll l [38] [38,97,109,112,59]
def rp2 (l:List UInt8):=Lib.replaceAll l [194,160] [38,110,98,115,112,59]
def rp3 (l:List UInt8):=Lib.replaceAll l [60] [38,108,116,59]
def rp4 (l:List UInt8):=Lib.replaceAll l [62] [38,103,116,59]
def rp5 (l:List UInt8):=Lib.replaceAll l [34] [38,113,117,111,116,59]
theorem aOw (c:UInt8)(l:List UInt8)(h1:c≠38)(h3:c≠60)(h4:c≠62)(h5:c≠34)(h2:c≠194∨(rp1 l).head?≠some 160):rp5 (rp4 (rp3 (rp2 (rp1 (c :: l)))))=c :: rp5 (rp4 (rp3 (rp2 (rp1 l)))):=by
 have one:∀(o:UInt8) (l:List UInt8),c≠o→[o].isPrefixOf (c :: l)=false:=fun o l h=>by
  show((o==c)&&_)=false;rw[beq_eq_false_iff_ne.2 fun e=>h e.symm];rfl
 have e1:rp1 (c :: l)=c :: rp1 l:=kY _ _ c l (by simp) (by simp) (one _ _ h1);have e2:rp2 (c :: rp1 l)=c :: rp2 (rp1 l):=by
  refine kY _ _ c _ (by simp) (by simp) ?_;show((194==c)&&[160].isPrefixOf (rp1 l))=false;rcases h2 with h2|h2
  ·rw[beq_eq_false_iff_ne.2 fun e=>h2 e.symm];rfl
  ·cases hh:rp1 l with
   | nil=>rw[Bool.and_comm];rfl
   | cons d t =>
    rw[hh]at h2
    have:((160:UInt8)==d)=false:=beq_eq_false_iff_ne.2 fun e=>h2 (by rw[←e];rfl)
    show((194==c)&&((160==d)&&_))=false;rw[this,Bool.false_and,Bool.and_false]
 have e3:∀l,rp3 (c :: l)=c :: rp3 l:=fun l=>kY _ _ c l (by simp) (by simp) (one _ _ h3)
 have e4:∀l,rp4 (c :: l)=c :: rp4 l:=fun l=>kY _ _ c l (by simp) (by simp) (one _ _ h4)
 have e5:∀l,rp5 (c :: l)=c :: rp5 l:=fun l=>kY _ _ c l (by simp) (by simp) (one _ _ h5)
 rw[e1,e2,e3,e4,e5]
theorem aMg (l:List UInt8)(h:l.head?≠some 160):(rp1 l).head?≠some 160:=by
 cases l with
 | nil=>unfold rp1;rw[rC _ _ (by simp)];simp
 | cons c l =>
  by_cases hc:c=38
  ·subst hc;have:rp1 (38 :: l)=[38,97,109,112,59]++rp1 l:=rB [38] _ l (by simp) (by simp);rw[this];simp
  ·have:rp1 (c :: l)=c :: rp1 l:=kY _ _ c l (by simp) (by simp) (by
    show((38==c)&&_)=false;rw[beq_eq_false_iff_ne.2 fun e=>hc e.symm];rfl)
   rw[this];exact h
theorem aP9:∀(n:Nat) (l:List UInt8),l.length≤n→rp5 (rp4 (rp3 (rp2 (rp1 l))))=dS l:=by
 intro n;have k2:∀a b:List UInt8,(194:UInt8)∉a→rp2 (a++b)=a++rp2 b:=rR 194 [160] _ (by simp);have k3:∀a b:List UInt8,(60:UInt8)∉a→rp3 (a++b)=a++rp3 b:=rR 60 [] _ (by simp);have k4:∀a b:List UInt8,(62:UInt8)∉a→rp4 (a++b)=a++rp4 b:=rR 62 [] _ (by simp);have k5:∀a b:List UInt8,(34:UInt8)∉a→rp5 (a++b)=a++rp5 b:=rR 34 [] _ (by simp);induction n with
 | zero =>
  intro l hl;obtain rfl:l=[]:=List.eq_nil_of_length_eq_zero (by omega);unfold rp1 rp2 rp3 rp4 rp5 dS;rw[rC _ _ (by simp),rC _ _ (by simp),rC _ _ (by simp),rC _ _ (by simp),rC _ _ (by simp)]
 | succ n ih =>
  intro l hl;cases l with
  | nil=>exact ih [] (by simp)
  | cons c l =>
   have hl':l.length≤n:=by simpa using hl
   unfold dS;by_cases c1:c=38
   ·subst c1;rw[if_pos rfl,←ih l hl'];have:rp1 (38 :: l)=[38,97,109,112,59]++rp1 l:=rB [38] _ l (by simp) (by simp);rw[this,k2 _ _ (by decide),k3 _ _ (by decide),k4 _ _ (by decide),k5 _ _ (by decide)]
   rw[if_neg c1];have o1:rp1 (c :: l)=c :: rp1 l:=kY _ _ c l (by simp) (by simp) (by
    show((38==c)&&_)=false;rw[beq_eq_false_iff_ne.2 fun e=>c1 e.symm];rfl)
   by_cases c2:c=60
   ·subst c2;rw[if_pos rfl,←ih l hl',o1];have e2:rp2 (60 :: rp1 l)=60 :: rp2 (rp1 l):=k2 [60] _ (by decide);have e3:∀x,rp3 (60 :: x)=[38,108,116,59]++rp3 x:=fun x=>rB [60] _ x (by simp) (by simp)
    rw[e2,e3,k4 _ _ (by decide),k5 _ _ (by decide)]
   rw[if_neg c2];by_cases c3:c=62
   ·subst c3;rw[if_pos rfl,←ih l hl',o1];have e2:rp2 (62 :: rp1 l)=62 :: rp2 (rp1 l):=k2 [62] _ (by decide);have e3:∀x,rp3 (62 :: x)=62 :: rp3 x:=fun x=>k3 [62] _ (by decide)
    have e4:∀x,rp4 (62 :: x)=[38,103,116,59]++rp4 x:=fun x=>rB [62] _ x (by simp) (by simp)
    rw[e2,e3,e4,k5 _ _ (by decide)]
   rw[if_neg c3];by_cases c4:c=34
   ·subst c4;rw[if_pos rfl,←ih l hl',o1];have e2:rp2 (34 :: rp1 l)=34 :: rp2 (rp1 l):=k2 [34] _ (by decide);have e3:∀x,rp3 (34 :: x)=34 :: rp3 x:=fun x=>k3 [34] _ (by decide)
    have e4:∀x,rp4 (34 :: x)=34 :: rp4 x:=fun x=>k4 [34] _ (by decide)
    have e5:∀x,rp5 (34 :: x)=[38,113,117,111,116,59]++rp5 x:=fun x=>rB [34] _ x (by simp) (by simp)
    rw[e2,e3,e4,e5]
   rw[if_neg c4];by_cases c5:c=194∧l.head?=some 160
   ·rw[if_pos c5];obtain⟨rfl,h160⟩:=c5;cases l with
    | nil=>cases h160
    | cons d l =>
     obtain rfl:d=160:=by simpa using h160
     have hl2:l.length≤n:=by simp at hl';omega
     show _=[38,110,98,115,112,59]++dS l;rw[←ih l hl2,o1];have e1:rp1 (160 :: l)=160 :: rp1 l:=rR 38 [] _ (by simp) [160] l (by decide);have e2:∀x,rp2 (194 :: 160 :: x)=[38,110,98,115,112,59]++rp2 x:=fun x=>rB [194,160] _ x (by simp) (by simp)
     rw[e1,e2,k3 _ _ (by decide),k4 _ _ (by decide),k5 _ _ (by decide)]
   ·rw[if_neg c5,aOw c l c1 c2 c3 c4 ?_,ih l hl'];by_cases c6:c=194
    ·exact .inr (aMg l fun h=>c5 ⟨c6,h⟩)
    ·exact .inl c6
open Go.RowKit
theorem aNw (s:ByteArray):gZ s=⟨(dS s.data.toList).toArray⟩:=by
 refine fI ?_;show rp5 (rp4 (rp3 (rp2 (rp1 s.data.toList))))=_;rw[aP9 _ _ aBt]
structure dJ (s:List UInt8) (k:Nat) (bs:List UInt8):Prop where
 le:k≤s.length
 sz:bs.length≤6*k
 out:dS s=bs++dS (s.drop k)
theorem dJ.start (s:List UInt8):dJ s 0 []:=⟨Nat.zero_le _,Nat.le_refl _,rfl⟩
theorem dJ.put {s:List UInt8}{k:Nat}{bs:List UInt8}(h:dJ s k bs)(hk:k<s.length)(o:UInt8)(t:List UInt8)(ho:s[k]=o)(ht:t.length≤6)
  (hc:∀l,dS (o :: l)=t++dS l):dJ s (k+1) (bs++t):=by
 have h1:=h.sz;refine⟨hk,by rw[List.length_append];omega,?_⟩;rw[h.out,List.drop_eq_getElem_cons hk,ho,hc,List.append_assoc]
theorem aPx (l:List UInt8):dS (38 :: l)=[38,97,109,112,59]++dS l:=by
 conv=>lhs;unfold dS
 rfl
theorem dJ.amp {s:List UInt8}{k:Nat}{bs:List UInt8}(h:dJ s k bs)(hk:k<s.length)(hc:s[k]=38):dJ s (k+1) (bs++[38,97,109,112,59]):=h.put hk 38 [38,97,109,112,59] hc (by decide) aPx
theorem aPy (l:List UInt8):dS (60 :: l)=[38,108,116,59]++dS l:=by
 conv=>lhs;unfold dS
 rfl
theorem dJ.lt {s:List UInt8}{k:Nat}{bs:List UInt8}(h:dJ s k bs)(hk:k<s.length)(hc:s[k]=60):dJ s (k+1) (bs++[38,108,116,59]):=h.put hk 60 [38,108,116,59] hc (by decide) aPy
theorem aPz (l:List UInt8):dS (62 :: l)=[38,103,116,59]++dS l:=by
 conv=>lhs;unfold dS
 rfl
theorem dJ.gt {s:List UInt8}{k:Nat}{bs:List UInt8}(h:dJ s k bs)(hk:k<s.length)(hc:s[k]=62):dJ s (k+1) (bs++[38,103,116,59]):=h.put hk 62 [38,103,116,59] hc (by decide) aPz
theorem aPw (l:List UInt8):dS (34 :: l)=[38,113,117,111,116,59]++dS l:=by
 conv=>lhs;unfold dS
 rfl
theorem dJ.quot {s:List UInt8}{k:Nat}{bs:List UInt8}(h:dJ s k bs)(hk:k<s.length)(hc:s[k]=34):dJ s (k+1) (bs++[38,113,117,111,116,59]):=h.put hk 34 [38,113,117,111,116,59] hc (by decide) aPw
theorem dJ.nbsp {s:List UInt8}{k:Nat}{bs:List UInt8}(h:dJ s k bs)(hp:[194,160].isPrefixOf (s.drop k)=true):dJ s (k+2) (bs++[38,110,98,115,112,59]):=by
 have h1:=h.sz;rw[List.isPrefixOf_iff_prefix]at hp
 obtain⟨t,ht⟩:=hp;have hl:k+2≤s.length:=by
  have:=congrArg List.length ht;simp only[List.length_append,List.length_cons,List.length_nil,List.length_drop]at this;omega
 have e:s.drop (k+2)=t:=by rw[←List.drop_drop,←ht];rfl
 refine⟨hl,by rw[List.length_append];simp;omega,?_⟩;rw[h.out,e,←ht,List.append_assoc];congr 1;show dS (194 :: 160 :: t)=_;conv=>lhs;unfold dS
 rfl
theorem dJ.rest {s:List UInt8}{k:Nat}{bs:List UInt8}(h:dJ s k bs)(hk:k<s.length)(h1:s[k]≠38)(h2:s[k]≠60)(h3:s[k]≠62)(h4:s[k]≠34)(hp:[194,160].isPrefixOf (s.drop k)=false):dJ s (k+1) (bs++[s[k]]):=by
 have hz:=h.sz;refine⟨hk,by rw[List.length_append];simp;omega,?_⟩;rw[List.drop_eq_getElem_cons hk]at hp
 rw[h.out,List.drop_eq_getElem_cons hk,List.append_assoc];congr 1;conv=>lhs;unfold dS
 rw[if_neg h1,if_neg h2,if_neg h3,if_neg h4,if_neg ?_]
 ·rfl
 ·rintro⟨c1,c2⟩;rw[c1]at hp
  cases hd:s.drop (k+1)with
  | nil=>rw[hd]at c2;cases c2
  | cons d t =>
   rw[hd]at c2 hp
   obtain rfl:d=160:=by simpa using c2
   simp at hp
theorem dJ.done {s:List UInt8}{k:Nat}{bs:List UInt8}(h:dJ s k bs)(hk:s.length≤k):dS s=bs:=by
 rw[h.out,List.drop_eq_nil_of_le hk];unfold dS;rw[List.append_nil]
theorem aD9 (s:ByteArray)(k:Nat):(s.extract k s.size).data.toList=s.data.toList.drop k:=by
 rw[ByteArray.data_extract,Array.toList_extract];simp[List.extract];have:s.size=s.data.toList.length:=rfl;rw[this];exact List.take_of_length_le (by simp)
theorem aG4 (s t:ByteArray)(w:World):Calls Tryz.prog 154 #[.string s,.string t] w fun e w'=>e=.returned (.bool (t.data.toList.isPrefixOf s.data.toList))∧w=w':=by
 rcases Nat.lt_or_ge s.size t.size with h|h
 ·have hb:t.data.toList.isPrefixOf s.data.toList=false:=by
   rw[←Bool.not_eq_true,List.isPrefixOf_iff_prefix];intro hp;have:=hp.length_le;have e1:t.data.toList.length=t.size:=rfl;have e2:s.data.toList.length=s.size:=rfl;omega
  rw[hb];clear hb;go_enter Tryz.func154,Tryz.ntmps154
  go_wp2
  go_ret;exact⟨rfl,rfl⟩
 ·have hx:((s.extract 0 t.size).toList==t.toList)=t.data.toList.isPrefixOf s.data.toList:=by
   rw[iC,toList_data,Bool.eq_iff_iff,beq_iff_eq,List.isPrefixOf_iff_prefix,List.prefix_iff_eq_take];unfold eW;rw[List.drop_zero];exact eq_comm
  generalize t.data.toList.isPrefixOf s.data.toList=b at *
  go_enter Tryz.func154,Tryz.ntmps154
  go_wp2
  go_ret;exact⟨rfl,rfl⟩
section
variable {ops:Array Oper} {rest:List Oper} {o:Oper} {a:Act} {Q:Exit→Act→World→Prop}
theorem fX {w:World}(hgd:o.guard=none)(sl x:Operand)(ho:o.op=.call { callee:=.builtin .append,args:=#[sl,x],argTypes:=#[35,9] })
  (i:TypeInfo) (hi:Tryz.prog.info? 5=some i) (hz:i.zero=some (.int .u8 0)) (hsize:i.size=1) (hby:i.bytes=1)
  {B:Nat} {W0:World} (v:Value) (bs L:List UInt8) (hs:a.eval sl=v) (hO:aT B 5 1 v bs.length (bs.map cX) W0 w)
  (s:ByteArray) (hx:a.eval x=.string s) (hL:s.data.toList=L) (hn:bs.length+L.length≤140737488355328)
  (h:∀v' w',Hid (aT B 5 1 v' (bs++L).length ((bs++L).map cX) W0 w')→wpList Tryz.prog ops Q rest (a.put o.dst v') w'):wpList Tryz.prog ops Q (o :: rest) a w:=by
 have hl:s.size=L.length:=by rw[←hL];rfl
 refine Lib.wpList_append_own_string _ hgd sl x 35 9 ho B 5 i Tryz.underlying35 Tryz.underlying9 hi hz hsize hby v bs.length _ hs hO.own s hx (by unfold maxLen;omega) (by omega) hO.base ?_;intro v' w' ho' hg _;refine h v' w' (aT.cast ⟨ho',hO.bel.grown hg hO.base hO.lo,Nat.le_trans hO.base hg.size⟩ (by rw[List.length_append,hl]) ?_);rw[List.map_append,←hL];rfl
end
theorem aMb (s:ByteArray)(hs:s.size≤20000000)(w:World):Calls Tryz.prog 96 #[.string s,.bool true] w fun e w'=>e=.returned (.string (gZ s))∧Below w.heap.size w w':=by
 obtain⟨i0,hi,hz0,hz1,hz2⟩:=info_parts Tryz.info5;rw[aNw];go_enter Tryz.func96,Tryz.ntmps96
 go_wp2
 go_loopw [5,6] (fun o i wx=>∃(k:Nat) (bs:List UInt8),i=.int .i64 k∧Hid (dJ s.data.toList k bs)∧Hid (aT w.heap.size 5 1 o bs.length (bs.map cX) w wx)) (fun _ i _=>s.size-(intOf i).toNat)
 case atStart=>exact⟨0,[],rfl,hid (dJ.start _),hid (aT.nil w 5 1)⟩
 case round =>
  obtain⟨k,bs,rfl,hK,hO⟩:=hrel;have hkt:k≤s.size:=hK.out.le;have hsz:=hK.out.sz;rcases Nat.lt_or_ge k s.size with hlt|hge
  ·have hb8:=s[k].toNat_lt;have HA:=hid (hK.out.amp hlt);have HL:=hid (hK.out.lt hlt);have HG:=hid (hK.out.gt hlt);have HQ:=hid (hK.out.quot hlt);have HN:=hid hK.out.nbsp;have HR:=hid (hK.out.rest hlt);have e:s.data.toList[k]'hlt=s[k]:=rfl;rw[e]at HA HL HG HQ HR
   clear e;by_cases h1:s[k]=38
   ·have HF:=hid (HA.out h1);have t1:((s[k].toNat:Int)==38)=true:=by rw[h1];rfl
    clear h1;go_wp2_with (at_builtin;refine fX (by rfl) _ _ (by rfl) i0 hi hz0 hz1 hz2 _ bs [38,97,109,112,59] rfl hO.out _ rfl rfl (by simp;omega) ?_)
    intro v' w' hO';go_wp2
    go_roundw
    case rel=>exact⟨k+1,_,by go_num,HF,hid (hO'.out.cast (by simp) (by simp))⟩
    case measure=>simp[intOf];omega
   have t1:((s[k].toNat:Int)==38)=false:=by rw[beq_eq_false_iff_ne];exact fun e=>h1 (UInt8.toNat_inj.1 (by show _=38;omega))
   by_cases h2:s[k]=60
   ·have HF:=hid (HL.out h2);have t2:((s[k].toNat:Int)==60)=true:=by rw[h2];rfl
    clear h1 h2;go_wp2_with (at_builtin;refine fX (by rfl) _ _ (by rfl) i0 hi hz0 hz1 hz2 _ bs [38,108,116,59] rfl hO.out _ rfl rfl (by simp;omega) ?_)
    intro v' w' hO';go_wp2
    go_roundw
    case rel=>exact⟨k+1,_,by go_num,HF,hid (hO'.out.cast (by simp) (by simp))⟩
    case measure=>simp[intOf];omega
   have t2:((s[k].toNat:Int)==60)=false:=by rw[beq_eq_false_iff_ne];exact fun e=>h2 (UInt8.toNat_inj.1 (by show _=60;omega))
   by_cases h3:s[k]=62
   ·have HF:=hid (HG.out h3);have t3:((s[k].toNat:Int)==62)=true:=by rw[h3];rfl
    clear h1 h2 h3;go_wp2_with (at_builtin;refine fX (by rfl) _ _ (by rfl) i0 hi hz0 hz1 hz2 _ bs [38,103,116,59] rfl hO.out _ rfl rfl (by simp;omega) ?_)
    intro v' w' hO';go_wp2
    go_roundw
    case rel=>exact⟨k+1,_,by go_num,HF,hid (hO'.out.cast (by simp) (by simp))⟩
    case measure=>simp[intOf];omega
   have t3:((s[k].toNat:Int)==62)=false:=by rw[beq_eq_false_iff_ne];exact fun e=>h3 (UInt8.toNat_inj.1 (by show _=62;omega))
   by_cases h4:s[k]=34
   ·have HF:=hid (HQ.out h4);have t4:((s[k].toNat:Int)==34)=true:=by rw[h4];rfl
    clear h1 h2 h3 h4;go_wp2_with (at_builtin;refine fX (by rfl) _ _ (by rfl) i0 hi hz0 hz1 hz2 _ bs [38,113,117,111,116,59] rfl hO.out _ rfl rfl (by simp;omega) ?_)
    intro v' w' hO';go_wp2
    go_roundw
    case rel=>exact⟨k+1,_,by go_num,HF,hid (hO'.out.cast (by simp) (by simp))⟩
    case measure=>simp[intOf];omega
   have t4:((s[k].toNat:Int)==34)=false:=by rw[beq_eq_false_iff_ne];exact fun e=>h4 (UInt8.toNat_inj.1 (by show _=34;omega))
   have BG:∀W,Calls Tryz.prog 154 #[.string (s.extract k s.size),.string ⟨#[194,160]⟩] W fun e w'=>e=.returned (.bool ([194,160].isPrefixOf (s.data.toList.drop k)))∧W=w':=fun W=>by
    have:=aG4 (s.extract k s.size) ⟨#[194,160]⟩ W;rw[aD9]at this
    exact this
   cases hp:[194,160].isPrefixOf (s.data.toList.drop k)with
   | true =>
    have HF:=hid (HN.out hp);rw[hp]at BG
    have HBG:=hid BG;clear h1 h2 h3 h4 hp BG;go_wp2_with fail
    refine(HBG.out _).mono ?_;rintro x w' ⟨rfl,rfl⟩;go_wp2_with (at_builtin;refine fX (by rfl) _ _ (by rfl) i0 hi hz0 hz1 hz2 _ bs [38,110,98,115,112,59] rfl hO.out _ rfl rfl (by simp;omega) ?_)
    intro v' w' hO';go_wp2
    go_roundw
    case rel=>exact⟨k+1+1,_,by go_num,HF,hid (hO'.out.cast (by simp) (by simp))⟩
    case measure=>simp[intOf];omega
   | false =>
    have HF:=hid (HR.out h1 h2 h3 h4 hp);rw[hp]at BG
    have HBG:=hid BG;clear h1 h2 h3 h4 hp BG;go_wp2_with fail
    refine(HBG.out _).mono ?_;rintro x w' ⟨rfl,rfl⟩;go_wp2_with (at_builtin;refine bY (by rfl) _ _ 35 (by rfl) 5 i0 (.int .u8 0) 1 1 Tryz.underlying35 hi hz0 hz1 hz2 rfl (by decide) _ _ _ rfl hO.out #[.int .u8 s[k].toNat] rfl rfl rfl rfl (by omega) (by omega) ?_)
    intro v' w' hO' _;go_wp2
    go_roundw
    case rel=>exact⟨k+1,bs++[s[k]],by go_num,HF,hid (hO'.out.cast (by simp) (by simp[cX]))⟩
    case measure=>simp[intOf];omega
  ·have HX:=hid (hK.out.done hge);obtain⟨a,c,rfl,hac,_⟩:=hO.out.slice;have hI:=hO.out.isB rfl;have hcv:=pX (P:=Tryz.prog) wr 35 5 9 Tryz.underlying35 Tryz.underlying5 Tryz.underlying9 a bs bs.length c rfl hI;have HB:=hid hO.out.bel;clear hI;go_wp2
   go_ret;exact⟨by rw[HX.out];rfl,HB.out⟩
end Go.Proofs.YtcfgbdhpcboikaaGreatDoor
