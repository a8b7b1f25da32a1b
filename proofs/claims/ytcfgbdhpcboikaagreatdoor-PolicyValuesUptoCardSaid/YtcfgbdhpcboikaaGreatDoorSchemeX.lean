/-
policy.Scheme: what it answers (printed by wip/gen/schemew.py).
-/
import Derived.Test.YtcfgbdhpcboikaaGreatDoorLinkW
namespace Go.Proofs.YtcfgbdhpcboikaaGreatDoor
open Go.Lib (hid)
set_option maxHeartbeats 2000000
set_option maxRecDepth 100000
open Go.RowKit
def gC (l:List UInt8):Value:=match eN l with
 | some w=>.tuple #[.string ⟨w.toArray⟩,.bool true]
 | none=>.tuple #[.string ⟨#[]⟩,.bool false]
theorem jL {l w:List UInt8}(h:eN l=some w):gC l=.tuple #[.string ⟨w.toArray⟩,.bool true]:=by unfold gC;rw[h]
theorem fR {l:List UInt8}(h:eN l=none):gC l=.tuple #[.string ⟨#[]⟩,.bool false]:=by unfold gC;rw[h]
theorem aIu (s:ByteArray)(hs:s.size<4294967281)(h:(58:UInt8)∉s.data.toList)(w:World)(T:aA w):Calls Tryz.prog 30 #[.string s] w fun e w'=>e=.returned (.tuple #[.string ⟨#[]⟩,.bool false])∧Below w.heap.size w w':=by
 obtain⟨m,hm⟩:=T.most;have C:=Tryz.strings_Cut s ⟨#[58]⟩ m w hs hm;have hc:Lib.cut s.data.toList (⟨#[58]⟩:ByteArray).data.toList=(s.data.toList,[],false):=aCJ _ 58 h;rw[hc]at C
 dsimp only at C
 have HC:=hid C;clear C hm T hc h;go_enter Tryz.func30,Tryz.ntmps30
 go_wp2_with fail
 refine HC.out.mono ?_;rintro e W1 ⟨rfl,hW⟩;have HB1:Hid (Below w.heap.size w W1):=by obtain⟨n,rfl⟩:=hW;exact below_drewNm w n
 clear hW;go_wp2
 go_ret2;exact⟨rfl,HB1.out⟩
theorem aEy (s:ByteArray)(q:List UInt8)(hs:s.size<4294967281)(h:s.data.toList=58 :: q)(w:World)(T:aA w):Calls Tryz.prog 30 #[.string s] w fun e w'=>e=.returned (.tuple #[.string ⟨#[]⟩,.bool false])∧Below w.heap.size w w':=by
 obtain⟨m,hm⟩:=T.most;have C:=Tryz.strings_Cut s ⟨#[58]⟩ m w hs hm;have hc:Lib.cut s.data.toList (⟨#[58]⟩:ByteArray).data.toList=([],q,true):=by rw[h];exact aAV [] q 58 (by simp)
 rw[hc]at C
 dsimp only at C
 have HC:=hid C;clear C hm T hc h;go_enter Tryz.func30,Tryz.ntmps30
 go_wp2_with fail
 refine HC.out.mono ?_;rintro e W1 ⟨rfl,hW⟩;have HB1:Hid (Below w.heap.size w W1):=by obtain⟨n,rfl⟩:=hW;exact below_drewNm w n
 clear hW;go_wp2
 go_ret2;exact⟨rfl,HB1.out⟩
def kJ (p:List UInt8)(k:Nat):Prop:=k≤p.length∧∀j (h:j<p.length),j<k→aH (aW p[j]) j=true
theorem kJ.step {p:List UInt8}{k:Nat}(h:kJ p k)(hk:k<p.length)(hb:aH (aW p[k]) k=true):kJ p (k+1) :=
 ⟨hk,fun j hj hlt=>by
  rcases Nat.lt_or_ge j k with h1|h1
  ·exact h.2 j hj h1
  ·obtain rfl:j=k:=by omega
   exact hb⟩
theorem kJ.all {p:List UInt8}{k:Nat}(h:kJ p k)(hk:p.length≤k):fI 0 p=true:=by
 rw[kT];intro j c hc;have hj:j<p.length:=(List.getElem?_eq_some_iff.1 hc).1;rw[List.getElem?_eq_getElem hj]at hc
 cases hc;rw[Nat.zero_add];exact h.2 j hj (by omega)
theorem bN {p:List UInt8}{k:Nat}(hk:k<p.length)(hb:aH (aW p[k]) k=false):¬fI 0 p=true:=by
 intro h;rw[kT]at h
 have:=h k p[k] (List.getElem?_eq_getElem hk);rw[Nat.zero_add,hb]at this
 cases this
def aOx (p:List UInt8)(e:Ending):Prop:=¬fI 0 p=true∧e=.returned (.tuple #[.string ⟨#[]⟩,.bool false])
def aNV (p:List UInt8)(e:Ending):Prop:=fI 0 p=true∧e=.returned (.tuple #[.string ⟨(bF p).toArray⟩,.bool true])
def aN3 (p:List UInt8)(w:World)(e:Ending)(w':World):Prop:=(aNV p e∨aOx p e)∧Below w.heap.size w w'
theorem aEz (s:ByteArray)(p q:List UInt8)(hs:s.size<4294967281)(h:s.data.toList=p++58 :: q)(h58:(58:UInt8)∉p)(hp:p≠[])(w:World)(T:aA w):Calls Tryz.prog 30 #[.string s] w (aN3 p w):=by
 obtain⟨m,hm⟩:=T.most;have C:=Tryz.strings_Cut s ⟨#[58]⟩ m w hs hm;have hc:Lib.cut s.data.toList (⟨#[58]⟩:ByteArray).data.toList=(p,q,true):=by rw[h];exact aAV p q 58 h58
 rw[hc]at C
 dsimp only at C
 have hps:p.length≤s.size:=by
  have e:s.size=s.data.toList.length:=rfl;rw[e,h,List.length_append];omega
 obtain⟨wd,hwd⟩:∃wd:ByteArray,wd=⟨p.toArray⟩:=⟨_,rfl⟩
 have hwl:wd.data.toList=p:=by rw[hwd]
 have hwn:¬wd.toList=[]:=by rw[toList_data,hwl];exact hp
 have hwe:wd.toList.isEmpty=false:=by rw[toList_data,hwl,List.isEmpty_eq_false_iff];exact hp
 rw[←hwd]at C
 have S:=fun W=>aBL wd (by rw[hwd];show p.length≤_;omega) W
 rw[hwl]at S
 obtain⟨sm,hsm⟩:∃sm:ByteArray,sm=⟨(bF p).toArray⟩:=⟨_,rfl⟩
 rw[←hsm]at S
 have hsmz:sm.size=p.length:=by rw[hsm];show(bF p).length=_;unfold bF;simp
 have hsml:sm.data.toList=bF p:=by rw[hsm]
 have HC:=hid C;have HS:=hid S;have HSZ:=hid hsmz;have HSL:=hid hsml;have HSM:=hid hsm;have HPS:=hid hps;clear C S hm T hc h hp hwl hwd hsmz hsml hps h58 hsm;go_enter Tryz.func30,Tryz.ntmps30
 go_wp2_with fail
 refine HC.out.mono ?_;rintro e W1 ⟨rfl,hW⟩;have HB1:Hid (Below w.heap.size w W1):=by obtain⟨n,rfl⟩:=hW;exact below_drewNm w n
 clear hW;go_wp2_with fail
 refine(HS.out W1).mono ?_;rintro e W2 ⟨rfl,B2⟩;have HB2:=hid (HB1.out.trans (B2.mono HB1.out.size));clear B2 hwn hwe;obtain⟨cap,W3,hrun,hb3,hrow,hcap⟩:=wY sm W2;have HB3:=hid (HB2.out.trans (hb3.mono HB2.out.size));have HROW:=hid (hrow.bytes);have HCAP:=hid hcap;have hszb:sm.size≤140737488355328:=by have:=HSZ.out;have:=HPS.out;omega
 clear hb3 hrow hcap;go_wp2
 clear hrun;generalize W2.heap.size=B at HROW;go_loop [2,3,27] (fun a b i=>a=.string ⟨#[]⟩∧b=.bool false∧∃k:Nat,i=.int .i64 k∧Hid (kJ p k)) (fun _ _ i=>sm.size-(intOf i).toNat)
 case atStart=>exact⟨rfl,rfl,0,rfl,Nat.zero_le _,fun j _ h=>absurd h (by omega)⟩
 case round =>
  obtain⟨rfl,rfl,k,rfl,hR⟩:=hrel;rcases Nat.lt_or_ge k sm.size with hlt|hge
  ·have hkp:k<p.length:=by rw[←HSZ.out];exact hlt
   have hcell:=HROW.out k (by show k<sm.size;exact hlt);have hget:sm.data.toList[k]'(by show k<sm.size;exact hlt)=aW p[k]:=by
    have:=HSL.out;simp only[this];unfold bF;simp
   rw[hget,Nat.zero_add]at hcell
   obtain⟨c,hc⟩:∃c,aW p[k]=c:=⟨_,rfl⟩
   rw[hc]at hcell
   have HCC:Hid (aW p[k]=c):=hc;have HKP:=hid hkp;clear hget hc;have hb8:=c.toNat_lt;have hst:∀b,aH c k=b→aH (aW (p[k]'HKP.out)) k=b:=fun b hb=>by rw[HCC.out,hb]
   have HST:=hid hst;clear hst;by_cases hk0:k=0
   ·have hk1:((k:Int)==0)=true:=by simp;omega
    have hcls:(0≤c.toNat∧c.toNat≤42)∨(43≤c.toNat∧c.toNat≤43)∨(44≤c.toNat∧c.toNat≤44)∨(45≤c.toNat∧c.toNat≤45)∨(46≤c.toNat∧c.toNat≤46)∨(47≤c.toNat∧c.toNat≤47)∨(48≤c.toNat∧c.toNat≤57)∨(58≤c.toNat∧c.toNat≤96)∨(97≤c.toNat∧c.toNat≤122)∨(123≤c.toNat∧c.toNat≤255):=by omega
    rcases hcls with hcls|hcls|hcls|hcls|hcls|hcls|hcls|hcls|hcls|hcls
    ·obtain⟨c1,c2⟩:=hcls;have t0:decide (97≤(c.toNat:Int))=false:=by simp;omega
     have t1:decide ((c.toNat:Int)≤122)=true:=by simp;omega
     have t2:decide (48≤(c.toNat:Int))=false:=by simp;omega
     have t3:decide ((c.toNat:Int)≤57)=true:=by simp;omega
     have t4:((c.toNat:Int)==43)=false:=by simp;omega
     have t5:((c.toNat:Int)==45)=false:=by simp;omega
     have t6:((c.toNat:Int)==46)=false:=by simp;omega
     have HE:Hid (aH c k=false):=by show _=_;unfold aH;simp;omega
     clear c1 c2 hk0;go_wp2
     go_ret2;exact⟨.inr ⟨bN HKP.out (HST.out _ HE.out),rfl⟩,HB3.out⟩
    ·obtain⟨c1,c2⟩:=hcls;have t0:decide (97≤(c.toNat:Int))=false:=by simp;omega
     have t1:decide ((c.toNat:Int)≤122)=true:=by simp;omega
     have t2:decide (48≤(c.toNat:Int))=false:=by simp;omega
     have t3:decide ((c.toNat:Int)≤57)=true:=by simp;omega
     have t4:((c.toNat:Int)==43)=true:=by simp;omega
     have t5:((c.toNat:Int)==45)=false:=by simp;omega
     have t6:((c.toNat:Int)==46)=false:=by simp;omega
     have HE:Hid (aH c k=false):=by show _=_;unfold aH;simp;omega
     clear c1 c2 hk0;go_wp2
     go_ret2;exact⟨.inr ⟨bN HKP.out (HST.out _ HE.out),rfl⟩,HB3.out⟩
    ·obtain⟨c1,c2⟩:=hcls;have t0:decide (97≤(c.toNat:Int))=false:=by simp;omega
     have t1:decide ((c.toNat:Int)≤122)=true:=by simp;omega
     have t2:decide (48≤(c.toNat:Int))=false:=by simp;omega
     have t3:decide ((c.toNat:Int)≤57)=true:=by simp;omega
     have t4:((c.toNat:Int)==43)=false:=by simp;omega
     have t5:((c.toNat:Int)==45)=false:=by simp;omega
     have t6:((c.toNat:Int)==46)=false:=by simp;omega
     have HE:Hid (aH c k=false):=by show _=_;unfold aH;simp;omega
     clear c1 c2 hk0;go_wp2
     go_ret2;exact⟨.inr ⟨bN HKP.out (HST.out _ HE.out),rfl⟩,HB3.out⟩
    ·obtain⟨c1,c2⟩:=hcls;have t0:decide (97≤(c.toNat:Int))=false:=by simp;omega
     have t1:decide ((c.toNat:Int)≤122)=true:=by simp;omega
     have t2:decide (48≤(c.toNat:Int))=false:=by simp;omega
     have t3:decide ((c.toNat:Int)≤57)=true:=by simp;omega
     have t4:((c.toNat:Int)==43)=false:=by simp;omega
     have t5:((c.toNat:Int)==45)=true:=by simp;omega
     have t6:((c.toNat:Int)==46)=false:=by simp;omega
     have HE:Hid (aH c k=false):=by show _=_;unfold aH;simp;omega
     clear c1 c2 hk0;go_wp2
     go_ret2;exact⟨.inr ⟨bN HKP.out (HST.out _ HE.out),rfl⟩,HB3.out⟩
    ·obtain⟨c1,c2⟩:=hcls;have t0:decide (97≤(c.toNat:Int))=false:=by simp;omega
     have t1:decide ((c.toNat:Int)≤122)=true:=by simp;omega
     have t2:decide (48≤(c.toNat:Int))=false:=by simp;omega
     have t3:decide ((c.toNat:Int)≤57)=true:=by simp;omega
     have t4:((c.toNat:Int)==43)=false:=by simp;omega
     have t5:((c.toNat:Int)==45)=false:=by simp;omega
     have t6:((c.toNat:Int)==46)=true:=by simp;omega
     have HE:Hid (aH c k=false):=by show _=_;unfold aH;simp;omega
     clear c1 c2 hk0;go_wp2
     go_ret2;exact⟨.inr ⟨bN HKP.out (HST.out _ HE.out),rfl⟩,HB3.out⟩
    ·obtain⟨c1,c2⟩:=hcls;have t0:decide (97≤(c.toNat:Int))=false:=by simp;omega
     have t1:decide ((c.toNat:Int)≤122)=true:=by simp;omega
     have t2:decide (48≤(c.toNat:Int))=false:=by simp;omega
     have t3:decide ((c.toNat:Int)≤57)=true:=by simp;omega
     have t4:((c.toNat:Int)==43)=false:=by simp;omega
     have t5:((c.toNat:Int)==45)=false:=by simp;omega
     have t6:((c.toNat:Int)==46)=false:=by simp;omega
     have HE:Hid (aH c k=false):=by show _=_;unfold aH;simp;omega
     clear c1 c2 hk0;go_wp2
     go_ret2;exact⟨.inr ⟨bN HKP.out (HST.out _ HE.out),rfl⟩,HB3.out⟩
    ·obtain⟨c1,c2⟩:=hcls;have t0:decide (97≤(c.toNat:Int))=false:=by simp;omega
     have t1:decide ((c.toNat:Int)≤122)=true:=by simp;omega
     have t2:decide (48≤(c.toNat:Int))=true:=by simp;omega
     have t3:decide ((c.toNat:Int)≤57)=true:=by simp;omega
     have t4:((c.toNat:Int)==43)=false:=by simp;omega
     have t5:((c.toNat:Int)==45)=false:=by simp;omega
     have t6:((c.toNat:Int)==46)=false:=by simp;omega
     have HE:Hid (aH c k=false):=by show _=_;unfold aH;simp;omega
     clear c1 c2 hk0;go_wp2
     go_ret2;exact⟨.inr ⟨bN HKP.out (HST.out _ HE.out),rfl⟩,HB3.out⟩
    ·obtain⟨c1,c2⟩:=hcls;have t0:decide (97≤(c.toNat:Int))=false:=by simp;omega
     have t1:decide ((c.toNat:Int)≤122)=true:=by simp;omega
     have t2:decide (48≤(c.toNat:Int))=true:=by simp;omega
     have t3:decide ((c.toNat:Int)≤57)=false:=by simp;omega
     have t4:((c.toNat:Int)==43)=false:=by simp;omega
     have t5:((c.toNat:Int)==45)=false:=by simp;omega
     have t6:((c.toNat:Int)==46)=false:=by simp;omega
     have HE:Hid (aH c k=false):=by show _=_;unfold aH;simp;omega
     clear c1 c2 hk0;go_wp2
     go_ret2;exact⟨.inr ⟨bN HKP.out (HST.out _ HE.out),rfl⟩,HB3.out⟩
    ·obtain⟨c1,c2⟩:=hcls;have t0:decide (97≤(c.toNat:Int))=true:=by simp;omega
     have t1:decide ((c.toNat:Int)≤122)=true:=by simp;omega
     have t2:decide (48≤(c.toNat:Int))=true:=by simp;omega
     have t3:decide ((c.toNat:Int)≤57)=false:=by simp;omega
     have t4:((c.toNat:Int)==43)=false:=by simp;omega
     have t5:((c.toNat:Int)==45)=false:=by simp;omega
     have t6:((c.toNat:Int)==46)=false:=by simp;omega
     have HE:Hid (aH c k=true):=by show _=_;unfold aH;simp;omega
     clear c1 c2 hk0;go_wp2
     go_round
     case rel=>exact⟨rfl,rfl,k+1,by go_num,hR.out.step HKP.out (HST.out _ HE.out)⟩
     case measure=>simp[intOf];omega
    ·obtain⟨c1,c2⟩:=hcls;have t0:decide (97≤(c.toNat:Int))=true:=by simp;omega
     have t1:decide ((c.toNat:Int)≤122)=false:=by simp;omega
     have t2:decide (48≤(c.toNat:Int))=true:=by simp;omega
     have t3:decide ((c.toNat:Int)≤57)=false:=by simp;omega
     have t4:((c.toNat:Int)==43)=false:=by simp;omega
     have t5:((c.toNat:Int)==45)=false:=by simp;omega
     have t6:((c.toNat:Int)==46)=false:=by simp;omega
     have HE:Hid (aH c k=false):=by show _=_;unfold aH;simp;omega
     clear c1 c2 hk0;go_wp2
     go_ret2;exact⟨.inr ⟨bN HKP.out (HST.out _ HE.out),rfl⟩,HB3.out⟩
   ·have hk1:((k:Int)==0)=false:=by simp;omega
    have hcls:(0≤c.toNat∧c.toNat≤42)∨(43≤c.toNat∧c.toNat≤43)∨(44≤c.toNat∧c.toNat≤44)∨(45≤c.toNat∧c.toNat≤45)∨(46≤c.toNat∧c.toNat≤46)∨(47≤c.toNat∧c.toNat≤47)∨(48≤c.toNat∧c.toNat≤57)∨(58≤c.toNat∧c.toNat≤96)∨(97≤c.toNat∧c.toNat≤122)∨(123≤c.toNat∧c.toNat≤255):=by omega
    rcases hcls with hcls|hcls|hcls|hcls|hcls|hcls|hcls|hcls|hcls|hcls
    ·obtain⟨c1,c2⟩:=hcls;have t0:decide (97≤(c.toNat:Int))=false:=by simp;omega
     have t1:decide ((c.toNat:Int)≤122)=true:=by simp;omega
     have t2:decide (48≤(c.toNat:Int))=false:=by simp;omega
     have t3:decide ((c.toNat:Int)≤57)=true:=by simp;omega
     have t4:((c.toNat:Int)==43)=false:=by simp;omega
     have t5:((c.toNat:Int)==45)=false:=by simp;omega
     have t6:((c.toNat:Int)==46)=false:=by simp;omega
     have HE:Hid (aH c k=false):=by show _=_;unfold aH;simp;omega
     clear c1 c2 hk0;go_wp2
     go_ret2;exact⟨.inr ⟨bN HKP.out (HST.out _ HE.out),rfl⟩,HB3.out⟩
    ·obtain⟨c1,c2⟩:=hcls;have t0:decide (97≤(c.toNat:Int))=false:=by simp;omega
     have t1:decide ((c.toNat:Int)≤122)=true:=by simp;omega
     have t2:decide (48≤(c.toNat:Int))=false:=by simp;omega
     have t3:decide ((c.toNat:Int)≤57)=true:=by simp;omega
     have t4:((c.toNat:Int)==43)=true:=by simp;omega
     have t5:((c.toNat:Int)==45)=false:=by simp;omega
     have t6:((c.toNat:Int)==46)=false:=by simp;omega
     have HE:Hid (aH c k=true):=by show _=_;unfold aH;simp;omega
     clear c1 c2 hk0;go_wp2
     go_round
     case rel=>exact⟨rfl,rfl,k+1,by go_num,hR.out.step HKP.out (HST.out _ HE.out)⟩
     case measure=>simp[intOf];omega
    ·obtain⟨c1,c2⟩:=hcls;have t0:decide (97≤(c.toNat:Int))=false:=by simp;omega
     have t1:decide ((c.toNat:Int)≤122)=true:=by simp;omega
     have t2:decide (48≤(c.toNat:Int))=false:=by simp;omega
     have t3:decide ((c.toNat:Int)≤57)=true:=by simp;omega
     have t4:((c.toNat:Int)==43)=false:=by simp;omega
     have t5:((c.toNat:Int)==45)=false:=by simp;omega
     have t6:((c.toNat:Int)==46)=false:=by simp;omega
     have HE:Hid (aH c k=false):=by show _=_;unfold aH;simp;omega
     clear c1 c2 hk0;go_wp2
     go_ret2;exact⟨.inr ⟨bN HKP.out (HST.out _ HE.out),rfl⟩,HB3.out⟩
    ·obtain⟨c1,c2⟩:=hcls;have t0:decide (97≤(c.toNat:Int))=false:=by simp;omega
     have t1:decide ((c.toNat:Int)≤122)=true:=by simp;omega
     have t2:decide (48≤(c.toNat:Int))=false:=by simp;omega
     have t3:decide ((c.toNat:Int)≤57)=true:=by simp;omega
     have t4:((c.toNat:Int)==43)=false:=by simp;omega
     have t5:((c.toNat:Int)==45)=true:=by simp;omega
     have t6:((c.toNat:Int)==46)=false:=by simp;omega
     have HE:Hid (aH c k=true):=by show _=_;unfold aH;simp;omega
     clear c1 c2 hk0;go_wp2
     go_round
     case rel=>exact⟨rfl,rfl,k+1,by go_num,hR.out.step HKP.out (HST.out _ HE.out)⟩
     case measure=>simp[intOf];omega
    ·obtain⟨c1,c2⟩:=hcls;have t0:decide (97≤(c.toNat:Int))=false:=by simp;omega
     have t1:decide ((c.toNat:Int)≤122)=true:=by simp;omega
     have t2:decide (48≤(c.toNat:Int))=false:=by simp;omega
     have t3:decide ((c.toNat:Int)≤57)=true:=by simp;omega
     have t4:((c.toNat:Int)==43)=false:=by simp;omega
     have t5:((c.toNat:Int)==45)=false:=by simp;omega
     have t6:((c.toNat:Int)==46)=true:=by simp;omega
     have HE:Hid (aH c k=true):=by show _=_;unfold aH;simp;omega
     clear c1 c2 hk0;go_wp2
     go_round
     case rel=>exact⟨rfl,rfl,k+1,by go_num,hR.out.step HKP.out (HST.out _ HE.out)⟩
     case measure=>simp[intOf];omega
    ·obtain⟨c1,c2⟩:=hcls;have t0:decide (97≤(c.toNat:Int))=false:=by simp;omega
     have t1:decide ((c.toNat:Int)≤122)=true:=by simp;omega
     have t2:decide (48≤(c.toNat:Int))=false:=by simp;omega
     have t3:decide ((c.toNat:Int)≤57)=true:=by simp;omega
     have t4:((c.toNat:Int)==43)=false:=by simp;omega
     have t5:((c.toNat:Int)==45)=false:=by simp;omega
     have t6:((c.toNat:Int)==46)=false:=by simp;omega
     have HE:Hid (aH c k=false):=by show _=_;unfold aH;simp;omega
     clear c1 c2 hk0;go_wp2
     go_ret2;exact⟨.inr ⟨bN HKP.out (HST.out _ HE.out),rfl⟩,HB3.out⟩
    ·obtain⟨c1,c2⟩:=hcls;have t0:decide (97≤(c.toNat:Int))=false:=by simp;omega
     have t1:decide ((c.toNat:Int)≤122)=true:=by simp;omega
     have t2:decide (48≤(c.toNat:Int))=true:=by simp;omega
     have t3:decide ((c.toNat:Int)≤57)=true:=by simp;omega
     have t4:((c.toNat:Int)==43)=false:=by simp;omega
     have t5:((c.toNat:Int)==45)=false:=by simp;omega
     have t6:((c.toNat:Int)==46)=false:=by simp;omega
     have HE:Hid (aH c k=true):=by show _=_;unfold aH;simp;omega
     clear c1 c2 hk0;go_wp2
     go_round
     case rel=>exact⟨rfl,rfl,k+1,by go_num,hR.out.step HKP.out (HST.out _ HE.out)⟩
     case measure=>simp[intOf];omega
    ·obtain⟨c1,c2⟩:=hcls;have t0:decide (97≤(c.toNat:Int))=false:=by simp;omega
     have t1:decide ((c.toNat:Int)≤122)=true:=by simp;omega
     have t2:decide (48≤(c.toNat:Int))=true:=by simp;omega
     have t3:decide ((c.toNat:Int)≤57)=false:=by simp;omega
     have t4:((c.toNat:Int)==43)=false:=by simp;omega
     have t5:((c.toNat:Int)==45)=false:=by simp;omega
     have t6:((c.toNat:Int)==46)=false:=by simp;omega
     have HE:Hid (aH c k=false):=by show _=_;unfold aH;simp;omega
     clear c1 c2 hk0;go_wp2
     go_ret2;exact⟨.inr ⟨bN HKP.out (HST.out _ HE.out),rfl⟩,HB3.out⟩
    ·obtain⟨c1,c2⟩:=hcls;have t0:decide (97≤(c.toNat:Int))=true:=by simp;omega
     have t1:decide ((c.toNat:Int)≤122)=true:=by simp;omega
     have t2:decide (48≤(c.toNat:Int))=true:=by simp;omega
     have t3:decide ((c.toNat:Int)≤57)=false:=by simp;omega
     have t4:((c.toNat:Int)==43)=false:=by simp;omega
     have t5:((c.toNat:Int)==45)=false:=by simp;omega
     have t6:((c.toNat:Int)==46)=false:=by simp;omega
     have HE:Hid (aH c k=true):=by show _=_;unfold aH;simp;omega
     clear c1 c2 hk0;go_wp2
     go_round
     case rel=>exact⟨rfl,rfl,k+1,by go_num,hR.out.step HKP.out (HST.out _ HE.out)⟩
     case measure=>simp[intOf];omega
    ·obtain⟨c1,c2⟩:=hcls;have t0:decide (97≤(c.toNat:Int))=true:=by simp;omega
     have t1:decide ((c.toNat:Int)≤122)=false:=by simp;omega
     have t2:decide (48≤(c.toNat:Int))=true:=by simp;omega
     have t3:decide ((c.toNat:Int)≤57)=false:=by simp;omega
     have t4:((c.toNat:Int)==43)=false:=by simp;omega
     have t5:((c.toNat:Int)==45)=false:=by simp;omega
     have t6:((c.toNat:Int)==46)=false:=by simp;omega
     have HE:Hid (aH c k=false):=by show _=_;unfold aH;simp;omega
     clear c1 c2 hk0;go_wp2
     go_ret2;exact⟨.inr ⟨bN HKP.out (HST.out _ HE.out),rfl⟩,HB3.out⟩
  ·have HG:=hid (hR.out.all (by rw[←HSZ.out];exact hge));go_wp2
   go_ret2;exact⟨.inl ⟨HG.out,by rw[HSM.out];rfl⟩,HB3.out⟩
theorem aAD (s:ByteArray)(hs:s.size<4294967281)(w:World)(T:aA w):Calls Tryz.prog 30 #[.string s] w fun e w'=>e=.returned (gC s.data.toList)∧Below w.heap.size w w':=by
 by_cases h:(58:UInt8)∈s.data.toList
 ·obtain⟨p,q,e,hp⟩:=yJ h;by_cases h0:p=[]
  ·subst h0;rw[fR (by rw[e,kM [] q hp,if_neg (by simp)])];exact aEy s q hs e w T
  ·refine(aEz s p q hs e hp h0 w T).mono ?_;rintro x w' ⟨hx|hx,hb⟩
   ·refine⟨?_,hb⟩;rw[hx.2,jL (by rw[e,kM p q hp,if_pos ⟨h0,hx.1⟩])]
   ·refine⟨?_,hb⟩;rw[hx.2,fR (by rw[e,kM p q hp,if_neg (fun h=>hx.1 h.2)])]
 ·rw[fR (pL _ h)];exact aIu s hs h w T
end Go.Proofs.YtcfgbdhpcboikaaGreatDoor
