/-
The document's Small, Lower and Scheme: what they answer.
-/
import Derived.Test.YtcfgbdhpcboikaaGreatDoorRefIn
import Derived.Test.YtcfgbdhpcboikaaGreatDoorFormV
namespace Go.Proofs.YtcfgbdhpcboikaaGreatDoor
open Go.Lib (hid)
set_option maxHeartbeats 8000000
set_option maxRecDepth 100000
open Go.RowKit
theorem qF {a w v:World}(h:Go.RowKit.Hid (Go.RowKit.Below a.heap.size a w))(b:Go.RowKit.Below w.heap.size w v):Go.RowKit.Hid (Go.RowKit.Below a.heap.size a v):=hid (h.out.trans (b.mono h.out.size))
theorem aP5 {a b:Int}(h:a=b):Ending.returned (.int .u8 a)=.returned (.int .u8 b):=by rw[h]
theorem bF (c:UInt8)(d:Nat)(hd:Hid ((bB c).toNat=d))(w:World):Calls Tryz.prog 73 #[.int .u8 c.toNat] w fun e w'=>e=.returned (.int .u8 d)∧w=w':=by
 have hn:=qS c;rw[hd.out]at hn
 have hc:=c.toNat_lt;generalize c.toNat=n at *
 have hcases:n<65∨(65≤n∧n≤90)∨90<n:=by omega
 rcases hcases with h|⟨h,h2⟩|h
 ·rw[if_neg (by omega)]at hn
  subst hn;go_enter Tryz.func73,Tryz.ntmps73
  go_wp2
  go_ret;exact⟨rfl,rfl⟩
 ·rw[if_pos (by omega)]at hn
  have HN:=hid hn;clear hn;go_enter Tryz.func73,Tryz.ntmps73
  go_wp2
  go_ret;exact⟨aP5 (by rw[HN.out];omega),rfl⟩
 ·rw[if_neg (by omega)]at hn
  subst hn;go_enter Tryz.func73,Tryz.ntmps73
  go_wp2
  go_ret;exact⟨rfl,rfl⟩
theorem aBK (s:ByteArray)(hs:s.size≤140737488355328)(w:World):Calls Tryz.prog 74 #[.string s] w fun e w'=>e=.returned (.string ⟨(bK s.data.toList).toArray⟩)∧Below w.heap.size w w':=by
 obtain⟨cap,W,hrun,hb,hrow,hcap⟩:=aAq s w;have H0:Hid (oL s.data.toList w.heap.size 0 w W):=⟨Nat.zero_le _,hrow,hb⟩
 have HC:=hid hcap;clear hb hrow hcap;go_enter Tryz.func74,Tryz.ntmps74
 go_wp2
 go_loopw [4] (fun i wx=>∃k:Nat,i=.int .i64 k∧Hid (oL s.data.toList w.heap.size k w wx)) (fun i _=>s.size-(intOf i).toNat)
 case atStart=>exact⟨0,rfl,H0⟩
 case round =>
  obtain⟨k,rfl,hR⟩:=hrel;rcases Nat.lt_or_ge k s.size with hlt|hge
  ·obtain⟨c,hcell,hfree,h1,h2⟩:=aBY _ _ _ _ _ hR.out hlt;have H2:=hid h2;have hb8:=c.toNat_lt;clear h1 h2;obtain⟨d,hd⟩:∃d,(bB c).toNat=d:=⟨_,rfl⟩
   have HD:=hid hd;have hd8:d<256:=by rw[←hd];exact(bB c).toNat_lt
   clear hd;go_wp2_with (go_at_call 73;refine(bF c d HD _).mono ?_;rintro e w' ⟨rfl,rfl⟩)
   go_roundw
   case rel=>exact⟨k+1,by go_num,H2.out _ (by rw[HD.out])⟩
   case measure=>simp[intOf];omega
  ·have hR2:=hR.out.2.1;have hk:k=s.data.toList.length:=Nat.le_antisymm hR.out.1 hge;rw[hk,List.take_length,List.drop_length,List.append_nil]at hR2
   have hlen:(bK s.data.toList).length=s.size:=by unfold bK;simp
   have hcv:(convert 35 9 (.slice (some ⟨w.heap.size,0,none⟩) s.size cap)).run Tryz.prog wr=.ok (.string ⟨(bK s.data.toList).toArray⟩) wr:=by
    rw[←hlen];refine run_convert_bytes_back wr 35 9 5 _ cap _ Tryz.underlying35 Tryz.underlying5 Tryz.underlying9 ?_;intro j hj;have hadd:(⟨w.heap.size,0,none⟩:Addr).add j=⟨w.heap.size,0+j,none⟩:=by unfold Addr.add;split<;>simp_all
    rw[hadd];exact hR2.bytes j hj
   clear hR2 hlen hk;go_wp2
   go_ret;exact⟨rfl,hR.out.2.2⟩
theorem aBQ (c:UInt8)(d k:Nat)(h:(bB c).toNat=d):aI (bB c) k=((decide (97≤d)&&decide (d≤122))||(decide (0<k)&&((decide (48≤d)&&decide (d≤57))||decide (d=43)||decide (d=45)||decide (d=46)))):=by
 unfold aI;rw[h]
theorem aMp (c:UInt8)(h:(bB c).toNat=58):c=58:=by
 rw[qS]at h
 split at h
 ·omega
 ·exact UInt8.toNat_inj.1 (by rw[h];rfl)
theorem aCA {p:List UInt8}{k:Nat}(h:mB p k):∀j c,j<k→p[j]?=some c→aI (bB c) j=true:=by
 intro j c hj hc;have hl:j<p.length:=(List.getElem?_eq_some_iff.1 hc).1;rw[List.getElem?_eq_getElem hl]at hc
 cases hc;exact h.2 j hl hj
structure aB6 (s:ByteArray) (k d:Nat):Prop where
 yes:((decide (97≤d)&&decide (d≤122))||(decide (0<k)&&((decide (48≤d)&&decide (d≤57))||decide (d=43)||decide (d=45)||decide (d=46))))=true→mB s.data.toList (k+1)
 no:((decide (97≤d)&&decide (d≤122))||(decide (0<k)&&((decide (48≤d)&&decide (d≤57))||decide (d=43)||decide (d=45)||decide (d=46))))=false→(d=58→k=0)→iF s.data.toList=.tuple #[.string ⟨#[]⟩,.bool false]
 colon:d=58→0<k→iF s.data.toList=.tuple #[.string ⟨(bK (s.data.toList.take k)).toArray⟩,.bool true]
theorem aB6.of (s:ByteArray)(k d:Nat)(hk:k<s.size)(h:mB s.data.toList k)(hd:(bB s[k]).toNat=d):aB6 s k d:=by
 have hl:k<s.data.toList.length:=hk;have hg:s.data.toList[k]?=some s[k]:=by rw[List.getElem?_eq_getElem hl];rfl
 have he:s.data.toList[k]=s[k]:=by rw[List.getElem?_eq_getElem hl]at hg;exact Option.some.inj hg
 refine⟨fun hy=>?_,fun hn h58=>?_,fun h58 h0=>?_⟩
 ·rw[←aBQ s[k] d k hd,←he]at hy
  exact h.step hl hy
 ·rw[←aBQ s[k] d k hd]at hn
  exact gQ (aHU _ k s[k] hg hn (fun e=>h58 (by rw[←hd,e];rfl)) (aCA h))
 ·have hc:s[k]=58:=aMp _ (by rw[hd,h58]);rw[hc]at hg
  exact lD (aE4 _ k h0 hg (aCA h))
theorem aEa (s:ByteArray)(k:Nat)(_hk:k≤s.size):(s.extract 0 k).data.toList=s.data.toList.take k:=by
 have:=iC s 0 k;rw[toList_data]at this
 rw[this];unfold eW;simp
def aGf (s:ByteArray)(w:World)(e:Ending)(w':World):Prop:=e=.returned (iF s.data.toList)∧Below w.heap.size w w'
theorem aF1 (s:ByteArray)(hs:s.size≤140737488355328)(w:World):Calls Tryz.prog 31 #[.string s] w (aGf s w):=by
 go_enter Tryz.func31,Tryz.ntmps31
 go_wp2
 go_loop [2,3,4] (fun r2 r3 i=>r2=.string ⟨#[]⟩∧r3=.bool false∧∃k:Nat,i=.int .i64 k∧Hid (mB s.data.toList k)) (fun _ _ i=>s.size-(intOf i).toNat)
 case atStart=>exact⟨rfl,rfl,0,rfl,hid ⟨Nat.zero_le _,fun j hj h0=>absurd h0 (by omega)⟩⟩
 case round =>
  obtain⟨rfl,rfl,k,rfl,hR⟩:=hrel;rcases Nat.lt_or_ge k s.size with hlt|hge
  ·obtain⟨d,hd⟩:∃d,(bB s[k]).toNat=d:=⟨_,rfl⟩
   have HD:=hid hd;have hd8:d<256:=by rw[←hd];exact(bB s[k]).toNat_lt
   have HS:=hid (aB6.of s k d hlt hR.out hd);clear hd;have hcases:(97≤d∧d≤122)∨122<d∨(58<d∧d<97)∨d=58∨(48≤d∧d≤57)∨d=47∨d=46∨d=45∨d=44∨d=43∨d<43:=by omega
   rcases Nat.eq_zero_or_pos k with hk0|hk0
   ·subst hk0;rcases hcases with⟨h,h2⟩|h|⟨h,h2⟩|rfl|⟨h,h2⟩|rfl|rfl|rfl|rfl|rfl|h
    ·have HF:=hid (HS.out.yes (by simp;omega));have t58:((d:Int)==58)=false:=by rw[beq_eq_false_iff_ne];omega
     go_wp2_with (go_at_call 73;refine(bF _ _ HD _).mono ?_;rintro e w' ⟨rfl,rfl⟩)
     go_round
     case rel=>exact⟨rfl,rfl,1,by go_num,HF⟩
     case measure=>simp[intOf];omega
    ·have HF:=hid (HS.out.no (by simp;omega) (by omega));have t58:((d:Int)==58)=false:=by rw[beq_eq_false_iff_ne];omega
     go_wp2_with (go_at_call 73;refine(bF _ _ HD _).mono ?_;rintro e w' ⟨rfl,rfl⟩)
     go_ret2;exact⟨by rw[HF.out];rfl,Below.refl _ _⟩
    ·have HF:=hid (HS.out.no (by simp;omega) (by omega));have t58:((d:Int)==58)=false:=by rw[beq_eq_false_iff_ne];omega
     go_wp2_with (go_at_call 73;refine(bF _ _ HD _).mono ?_;rintro e w' ⟨rfl,rfl⟩)
     go_ret2;exact⟨by rw[HF.out];rfl,Below.refl _ _⟩
    ·have HF:=hid (HS.out.no (by simp) (by simp));go_wp2_with (go_at_call 73;refine(bF _ _ HD _).mono ?_;rintro e w' ⟨rfl,rfl⟩)
     go_ret2;exact⟨by rw[HF.out];rfl,Below.refl _ _⟩
    ·have HF:=hid (HS.out.no (by simp;omega) (by omega));have t58:((d:Int)==58)=false:=by rw[beq_eq_false_iff_ne];omega
     go_wp2_with (go_at_call 73;refine(bF _ _ HD _).mono ?_;rintro e w' ⟨rfl,rfl⟩)
     go_ret2;exact⟨by rw[HF.out];rfl,Below.refl _ _⟩
    all_goals
     have HF:=hid (HS.out.no (by simp;try omega) (by omega));try have t58:((d:Int)==58)=false:=by rw[beq_eq_false_iff_ne];omega
     go_wp2_with (go_at_call 73;refine(bF _ _ HD _).mono ?_;rintro e w' ⟨rfl,rfl⟩)
     go_ret2;exact⟨by rw[HF.out];rfl,Below.refl _ _⟩
   ·rcases hcases with⟨h,h2⟩|h|⟨h,h2⟩|rfl|⟨h,h2⟩|rfl|rfl|rfl|rfl|rfl|h
    ·have HF:=hid (HS.out.yes (by simp;omega));have t58:((d:Int)==58)=false:=by rw[beq_eq_false_iff_ne];omega
     go_wp2_with (go_at_call 73;refine(bF _ _ HD _).mono ?_;rintro e w' ⟨rfl,rfl⟩)
     go_round
     case rel=>exact⟨rfl,rfl,k+1,by go_num,HF⟩
     case measure=>simp[intOf];omega
    ·have HF:=hid (HS.out.no (by simp;omega) (by omega));have t58:((d:Int)==58)=false:=by rw[beq_eq_false_iff_ne];omega
     have t43:((d:Int)==43)=false:=by rw[beq_eq_false_iff_ne];omega
     have t45:((d:Int)==45)=false:=by rw[beq_eq_false_iff_ne];omega
     have t46:((d:Int)==46)=false:=by rw[beq_eq_false_iff_ne];omega
     go_wp2_with (go_at_call 73;refine(bF _ _ HD _).mono ?_;rintro e w' ⟨rfl,rfl⟩)
     go_ret2;exact⟨by rw[HF.out];rfl,Below.refl _ _⟩
    ·have HF:=hid (HS.out.no (by simp;omega) (by omega));have t58:((d:Int)==58)=false:=by rw[beq_eq_false_iff_ne];omega
     have t43:((d:Int)==43)=false:=by rw[beq_eq_false_iff_ne];omega
     have t45:((d:Int)==45)=false:=by rw[beq_eq_false_iff_ne];omega
     have t46:((d:Int)==46)=false:=by rw[beq_eq_false_iff_ne];omega
     go_wp2_with (go_at_call 73;refine(bF _ _ HD _).mono ?_;rintro e w' ⟨rfl,rfl⟩)
     go_ret2;exact⟨by rw[HF.out];rfl,Below.refl _ _⟩
    ·have HF:=hid (HS.out.colon rfl hk0);have hxs:(s.extract 0 k).size≤140737488355328:=by rw[ByteArray.size_extract];omega
     have L:=aBK (s.extract 0 k) hxs w;rw[aEa s k (by omega)]at L
     have HL:=hid L;clear L hxs;go_wp2_with (go_at_call 73;refine(bF _ _ HD _).mono ?_;rintro e w' ⟨rfl,rfl⟩)
     refine HL.out.mono ?_;rintro e W2 ⟨rfl,B2⟩;have HB2:=hid B2;clear B2;go_wp2
     go_ret2;exact⟨by rw[HF.out];rfl,HB2.out⟩
    ·have HF:=hid (HS.out.yes (by simp;omega));have t58:((d:Int)==58)=false:=by rw[beq_eq_false_iff_ne];omega
     go_wp2_with (go_at_call 73;refine(bF _ _ HD _).mono ?_;rintro e w' ⟨rfl,rfl⟩)
     go_round
     case rel=>exact⟨rfl,rfl,k+1,by go_num,HF⟩
     case measure=>simp[intOf];omega
    ·have HF:=hid (HS.out.no (by simp) (by omega));go_wp2_with (go_at_call 73;refine(bF _ _ HD _).mono ?_;rintro e w' ⟨rfl,rfl⟩)
     go_ret2;exact⟨by rw[HF.out];rfl,Below.refl _ _⟩
    ·have HF:=hid (HS.out.yes (by simp;omega));go_wp2_with (go_at_call 73;refine(bF _ _ HD _).mono ?_;rintro e w' ⟨rfl,rfl⟩)
     go_round
     case rel=>exact⟨rfl,rfl,k+1,by go_num,HF⟩
     case measure=>simp[intOf];omega
    ·have HF:=hid (HS.out.yes (by simp;omega));go_wp2_with (go_at_call 73;refine(bF _ _ HD _).mono ?_;rintro e w' ⟨rfl,rfl⟩)
     go_round
     case rel=>exact⟨rfl,rfl,k+1,by go_num,HF⟩
     case measure=>simp[intOf];omega
    ·have HF:=hid (HS.out.no (by simp) (by omega));go_wp2_with (go_at_call 73;refine(bF _ _ HD _).mono ?_;rintro e w' ⟨rfl,rfl⟩)
     go_ret2;exact⟨by rw[HF.out];rfl,Below.refl _ _⟩
    ·have HF:=hid (HS.out.yes (by simp;omega));go_wp2_with (go_at_call 73;refine(bF _ _ HD _).mono ?_;rintro e w' ⟨rfl,rfl⟩)
     go_round
     case rel=>exact⟨rfl,rfl,k+1,by go_num,HF⟩
     case measure=>simp[intOf];omega
    ·have HF:=hid (HS.out.no (by simp;omega) (by omega));have t58:((d:Int)==58)=false:=by rw[beq_eq_false_iff_ne];omega
     have t43:((d:Int)==43)=false:=by rw[beq_eq_false_iff_ne];omega
     have t45:((d:Int)==45)=false:=by rw[beq_eq_false_iff_ne];omega
     have t46:((d:Int)==46)=false:=by rw[beq_eq_false_iff_ne];omega
     go_wp2_with (go_at_call 73;refine(bF _ _ HD _).mono ?_;rintro e w' ⟨rfl,rfl⟩)
     go_ret2;exact⟨by rw[HF.out];rfl,Below.refl _ _⟩
  ·have hX:iF s.data.toList=.tuple #[.string ⟨#[]⟩,.bool false]:=gQ (aHV _ (fun j c hj hc=>aCA hR.out j c (by have:s.data.toList.length=s.size:=rfl;omega) hc));have HX:=hid hX;clear hX;go_wp2
   go_ret2;exact⟨by rw[HX.out];rfl,Below.refl _ _⟩
open Go.RowKit
def yZ (s:ByteArray)(w:World)(e:Ending)(w':World):Prop:=e=.returned (.string s)∧Below w.heap.size w w'
def rH (b:Bool)(w:World)(e:Ending)(w':World):Prop:=e=.returned (.bool b)∧w=w'
def pM (s:ByteArray)(b:Bool)(w:World)(e:Ending)(w':World):Prop:=e=.returned (.tuple #[.string s,.bool b])∧Below w.heap.size w w'
theorem aFd (c:UInt8):(uD c=true∧97≤(bB c).toNat∧(bB c).toNat≤122)∨(uD c=false∧¬(97≤(bB c).toNat∧(bB c).toNat≤122)∧(bB c).toNat=c.toNat):=by
 have h:=qS c;unfold uD;simp only[Bool.or_eq_true,Bool.and_eq_true,decide_eq_true_eq,Bool.or_eq_false_iff,Bool.and_eq_false_iff,decide_eq_false_iff_not];split at h<;>omega
theorem aFN (c:UInt8)(k d:Nat)(h:(bB c).toNat=d):pB c k=((decide (97≤d)&&decide (d≤122))||(decide (0<k)&&(decide (d=45)||(decide (48≤d)&&decide (d≤57))))):=by
 subst h;unfold pB;rcases aFd c with⟨h1,h2,h3⟩|⟨h1,h2,h3⟩
 ·rw[h1,decide_eq_true h2,decide_eq_true h3];rfl
 ·rw[h1,h3];have:(decide (97≤c.toNat)&&decide (c.toNat≤122))=false:=by
   rw[h3]at h2
   simp only[Bool.and_eq_false_iff,decide_eq_false_iff_not];omega
  rw[this]
structure jM (v:ByteArray) (k:Nat) (b:Bool):Prop where
 le:k≤v.size
 iff:b=true↔(1≤v.size∧v.size≤16)∧∀j (h:j<v.data.toList.length),j<k→pB v.data.toList[j] j=true
theorem jM.start (v:ByteArray)(b:Bool)(h:b=true↔1≤v.size∧v.size≤16):jM v 0 b:=⟨Nat.zero_le _,by rw[h];exact⟨fun x=>⟨x,fun j _ hj=>absurd hj (by omega)⟩,fun x=>x.1⟩⟩
theorem jM.next {v:ByteArray}{k:Nat}{b:Bool}(h:jM v k b)(hk:k<v.size):jM v (k+1) (b&&pB v[k] k):=by
 have e:v.data.toList[k]'hk=v[k]:=rfl;refine⟨hk,?_⟩;rw[Bool.and_eq_true,h.iff];constructor
 ·rintro⟨⟨h1,h2⟩,h3⟩;refine⟨h1,fun j hj hjk=>?_⟩;rcases Nat.lt_or_ge j k with h4|h4
  ·exact h2 j hj h4
  ·obtain rfl:j=k:=by omega
   rw[e];exact h3
 ·rintro⟨h1,h2⟩;exact⟨⟨h1,fun j hj hjk=>h2 j hj (by omega)⟩,by have:=h2 k hk (by omega);rwa[e]at this⟩
theorem jM.done {v:ByteArray}{k:Nat}{b ok:Bool}(h:jM v k b)(hk:v.size≤k)(ho:ok=true↔mM v):b=ok:=by
 rw[Bool.eq_iff_iff,h.iff,ho];unfold mM zI;have e:v.data.toList.length=v.size:=rfl;exact⟨fun x=>⟨fun j hj=>x.2 j hj (by omega),x.1.1,x.1.2⟩,fun x=>⟨x.2,fun j hj _=>x.1 j hj⟩⟩
theorem jM.no {v:ByteArray}{k:Nat}(h:jM v k false)(hk:k<v.size):jM v (k+1) false:=h.next hk
theorem jM.yes {v:ByteArray}{k d:Nat}(h:jM v k true)(hk:k<v.size)(hd:(bB v[k]).toNat=d)(c:Bool)(hc:((decide (97≤d)&&decide (d≤122))||(decide (0<k)&&(decide (d=45)||(decide (48≤d)&&decide (d≤57)))))=c):jM v (k+1) c:=by
 have:=h.next hk;rw[aFN _ k d hd,hc,Bool.true_and]at this
 exact this
theorem aF2 (e n v s:ByteArray)(hv:v.size≤1048576)(ok:Bool)(o:Option ByteArray)(k:Nat)(h2:2≤k)(h14:((k:Int)==14)=false)(w:World)(HT:Hid (aA w))(HK:Hid (iB e k))
  (xT xA xG xD xR xS xH xB xC xM xL yI yA yO yK yE yM:Bool)
  (fxT:(n.toList==[116,105,116,108,101])=xT)
  (fxA:(n.toList==[97,108,116])=xA)
  (fxG:(n.toList==[108,97,110,103])=xG)
  (fxD:(n.toList==[100,105,114])=xD)
  (fxR:(n.toList==[104,114,101,102])=xR)
  (fxS:(n.toList==[115,114,99])=xS)
  (fxH:Hid (∀W,Calls Tryz.prog 69 #[.string n,.string ⟨#[104,101,105,103,104,116,32,119,105,100,116,104]⟩] W (rH xH W)))
  (fxB:(n.toList==[115,116,97,114,116])=xB)
  (fxC:Hid (∀W,Calls Tryz.prog 69 #[.string n,.string ⟨#[99,111,108,115,112,97,110,32,114,111,119,115,112,97,110]⟩] W (rH xC W)))
  (fxM:Hid (∀W,Calls Tryz.prog 69 #[.string n,.string ⟨#[109,97,120,32,118,97,108,117,101]⟩] W (rH xM W)))
  (fxL:Hid (∀W,Calls Tryz.prog 69 #[.string n,.string ⟨#[104,105,103,104,32,108,111,119,32,109,105,110]⟩] W (rH xL W)))
  (fyI:(e.toList==[105,109,103])=yI)
  (fyA:(e.toList==[97])=yA)
  (fyO:(e.toList==[111,108])=yO)
  (fyK:((k:Int)==13)=yK)
  (fyE:Hid (∀W,Calls Tryz.prog 69 #[.string e,.string ⟨#[109,101,116,101,114,32,112,114,111,103,114,101,115,115]⟩] W (rH yE W)))
  (fyM:(e.toList==[109,101,116,101,114])=yM)
  (hE:Hid (ok=true→∀W,Calls Tryz.prog 96 #[.string s,.bool true] W (yZ (gZ s) W)))
  (hO:(ok=false∧o=none)∨(ok=true∧120<(gZ s).size∧o=none)∨(ok=true∧(gZ s).size≤120∧o=some s))
  (hc:(xT=true∧(Hid (∀W,Calls Tryz.prog 33 #[.string v] W (yZ s W))∧ok=true)) ∨
   (xT=false∧xA=true∧yI=true∧(Hid (∀W,Calls Tryz.prog 33 #[.string v] W (yZ s W))∧ok=true)) ∨
   (xT=false∧xA=true∧yI=false∧xG=false∧xD=false∧xR=false∧xS=false∧xH=false∧xB=false∧xC=false∧xM=false∧xL=false∧(v=s∧ok=false)) ∨
   (xT=false∧xA=false∧xG=true∧(v=s∧Hid (ok=true↔mM v))) ∨
   (xT=false∧xA=false∧xG=false∧xD=true∧(Hid (∀W,Calls Tryz.prog 74 #[.string v] W (yZ s W))∧Hid (∀W,Calls Tryz.prog 69 #[.string s,.string ⟨#[97,117,116,111,32,108,116,114,32,114,116,108]⟩] W (rH ok W)))) ∨
   (xT=false∧xA=false∧xG=false∧xD=false∧xR=true∧yA=true∧(Hid (∀W,Calls Tryz.prog 93 #[.string v,.string ⟨#[104,116,116,112,32,104,116,116,112,115,32,109,97,105,108,116,111]⟩] W (pM s ok W)))) ∨
   (xT=false∧xA=false∧xG=false∧xD=false∧xR=true∧yA=false∧xS=false∧xH=false∧xB=false∧xC=false∧xM=false∧xL=false∧(v=s∧ok=false)) ∨
   (xT=false∧xA=false∧xG=false∧xD=false∧xR=false∧xS=true∧yI=true∧(Hid (∀W,Calls Tryz.prog 93 #[.string v,.string ⟨#[104,116,116,112,32,104,116,116,112,115]⟩] W (pM s ok W)))) ∨
   (xT=false∧xA=false∧xG=false∧xD=false∧xR=false∧xS=true∧yI=false∧xH=false∧xB=false∧xC=false∧xM=false∧xL=false∧(v=s∧ok=false)) ∨
   (xT=false∧xA=false∧xG=false∧xD=false∧xR=false∧xS=false∧xH=true∧yI=true∧(v=s∧∃x:Int,Hid (∀W,Calls Tryz.prog 94 #[.string v,.int .i64 0,.int .i64 9999] W (fun e w'=>e=.returned (.tuple #[.int .i64 x,.bool ok])∧W=w')))) ∨
   (xT=false∧xA=false∧xG=false∧xD=false∧xR=false∧xS=false∧xH=true∧yI=false∧xB=false∧xC=false∧xM=false∧xL=false∧(v=s∧ok=false)) ∨
   (xT=false∧xA=false∧xG=false∧xD=false∧xR=false∧xS=false∧xH=false∧xB=true∧yO=true∧(v=s∧∃x:Int,Hid (∀W,Calls Tryz.prog 94 #[.string v,.int .i64 0,.int .i64 999999] W (fun e w'=>e=.returned (.tuple #[.int .i64 x,.bool ok])∧W=w')))) ∨
   (xT=false∧xA=false∧xG=false∧xD=false∧xR=false∧xS=false∧xH=false∧xB=true∧yO=false∧xC=false∧xM=false∧xL=false∧(v=s∧ok=false)) ∨
   (xT=false∧xA=false∧xG=false∧xD=false∧xR=false∧xS=false∧xH=false∧xB=false∧xC=true∧yK=true∧(v=s∧∃x:Int,Hid (∀W,Calls Tryz.prog 94 #[.string v,.int .i64 1,.int .i64 1000] W (fun e w'=>e=.returned (.tuple #[.int .i64 x,.bool ok])∧W=w')))) ∨
   (xT=false∧xA=false∧xG=false∧xD=false∧xR=false∧xS=false∧xH=false∧xB=false∧xC=true∧yK=false∧xM=false∧xL=false∧(v=s∧ok=false)) ∨
   (xT=false∧xA=false∧xG=false∧xD=false∧xR=false∧xS=false∧xH=false∧xB=false∧xC=false∧xM=true∧yE=true∧(Hid (∀W,aA W→Calls Tryz.prog 95 #[.string v] W (pM s ok W)))) ∨
   (xT=false∧xA=false∧xG=false∧xD=false∧xR=false∧xS=false∧xH=false∧xB=false∧xC=false∧xM=true∧yE=false∧xL=false∧(v=s∧ok=false)) ∨
   (xT=false∧xA=false∧xG=false∧xD=false∧xR=false∧xS=false∧xH=false∧xB=false∧xC=false∧xM=false∧xL=true∧yM=true∧(Hid (∀W,aA W→Calls Tryz.prog 95 #[.string v] W (pM s ok W)))) ∨
   (xT=false∧xA=false∧xG=false∧xD=false∧xR=false∧xS=false∧xH=false∧xB=false∧xC=false∧xM=false∧xL=true∧yM=false∧(v=s∧ok=false)) ∨
   (xT=false∧xA=false∧xG=false∧xD=false∧xR=false∧xS=false∧xH=false∧xB=false∧xC=false∧xM=false∧xL=false∧(v=s∧ok=false))) :
  Calls Tryz.prog 44 #[.string e,.string n,.string v] w fun x w'=>x=.returned (kD o)∧Below w.heap.size w w':=by
 have HO:=hid hO;have l2:decide ((k:Int)<2)=false:=by simp;omega
 have HHO:Hid (ok=false∨ok=true):=by cases ok<;>simp[Hid]
 have HC:=hid hc;clear hO hc;go_enter Tryz.func44,Tryz.ntmps44
 go_wp2_with fail
 refine(HK.out _).mono ?_;rintro x W1 ⟨rfl,B1⟩;have HB1:=hid B1;have HT1:=hid (HT.out.below B1 (Nat.le_refl _));clear B1;go_upto_block 0 with fail
 go_cut [9,10] (fun a b wx=>a=.string s∧b=.bool ok∧Hid (Below w.heap.size w wx))
 case first =>
  have hc:=HC.out;clear HC;rcases hc with⟨rfl,HP⟩|⟨rfl,rfl,rfl,HP⟩|⟨rfl,rfl,rfl,rfl,rfl,rfl,rfl,rfl,rfl,rfl,rfl,rfl,HP⟩|⟨rfl,rfl,rfl,HP⟩|⟨rfl,rfl,rfl,rfl,HP⟩|⟨rfl,rfl,rfl,rfl,rfl,rfl,HP⟩|⟨rfl,rfl,rfl,rfl,rfl,rfl,rfl,rfl,rfl,rfl,rfl,rfl,HP⟩|⟨rfl,rfl,rfl,rfl,rfl,rfl,rfl,HP⟩|⟨rfl,rfl,rfl,rfl,rfl,rfl,rfl,rfl,rfl,rfl,rfl,rfl,HP⟩|⟨rfl,rfl,rfl,rfl,rfl,rfl,rfl,rfl,HP⟩|⟨rfl,rfl,rfl,rfl,rfl,rfl,rfl,rfl,rfl,rfl,rfl,rfl,HP⟩|⟨rfl,rfl,rfl,rfl,rfl,rfl,rfl,rfl,rfl,HP⟩|⟨rfl,rfl,rfl,rfl,rfl,rfl,rfl,rfl,rfl,rfl,rfl,rfl,HP⟩|⟨rfl,rfl,rfl,rfl,rfl,rfl,rfl,rfl,rfl,rfl,HP⟩|⟨rfl,rfl,rfl,rfl,rfl,rfl,rfl,rfl,rfl,rfl,rfl,rfl,HP⟩|⟨rfl,rfl,rfl,rfl,rfl,rfl,rfl,rfl,rfl,rfl,rfl,HP⟩|⟨rfl,rfl,rfl,rfl,rfl,rfl,rfl,rfl,rfl,rfl,rfl,rfl,HP⟩|⟨rfl,rfl,rfl,rfl,rfl,rfl,rfl,rfl,rfl,rfl,rfl,rfl,HP⟩|⟨rfl,rfl,rfl,rfl,rfl,rfl,rfl,rfl,rfl,rfl,rfl,rfl,HP⟩|⟨rfl,rfl,rfl,rfl,rfl,rfl,rfl,rfl,rfl,rfl,rfl,HP⟩
  ·obtain⟨HP,rfl⟩:=HP;go_wp2_with fail
   refine(HP.out _).mono ?_;rintro x W2 ⟨rfl,B2⟩;have HB2:=qF HB1 B2;clear B2;go_wp2_with fail
   go_meet
   case rel=>exact⟨rfl,rfl,HB2⟩
  ·obtain⟨HP,rfl⟩:=HP;go_wp2_with fail
   refine(HP.out _).mono ?_;rintro x W2 ⟨rfl,B2⟩;have HB2:=qF HB1 B2;clear B2;go_wp2_with fail
   go_meet
   case rel=>exact⟨rfl,rfl,HB2⟩
  ·obtain⟨rfl,rfl⟩:=HP;go_wp2_with (go_at_call 69;(first|(with_reducible refine(fxH.out _).mono ?_)|(with_reducible refine(fxC.out _).mono ?_)|(with_reducible refine(fxM.out _).mono ?_)|(with_reducible refine(fxL.out _).mono ?_)|(with_reducible refine(fyE.out _).mono ?_));rintro x w' ⟨rfl,rfl⟩)
   go_meet
   case rel=>exact⟨rfl,rfl,HB1⟩
  ·obtain⟨rfl,HP⟩:=HP;have hsz:v.size=0∨(1≤v.size∧v.size≤16)∨16<v.size:=by omega
   obtain⟨b0,hb0⟩:∃b0:Bool,b0=(decide (1≤v.size)&&decide (v.size≤16)):=⟨_,rfl⟩
   have HS:=hid (jM.start v b0 (by rw[hb0];simp));go_upto_region 11 with fail
   go_cut [10] (fun b wx=>b=.bool b0∧wx=W1)
   case first =>
    rcases hsz with h|⟨h,h'⟩|h
    ·have hz:b0=false:=by rw[hb0,Bool.and_eq_false_iff,decide_eq_false_iff_not,decide_eq_false_iff_not];omega
     clear hb0;subst hz;have q1:decide ((0:Int)<(v.size:Int))=false:=decide_eq_false (by omega);go_wp2_with fail
     go_meet
     case rel=>exact⟨rfl,rfl⟩
    ·have hz:b0=true:=by rw[hb0,Bool.and_eq_true,decide_eq_true_eq,decide_eq_true_eq];omega
     clear hb0;subst hz;have q1:decide ((0:Int)<(v.size:Int))=true:=decide_eq_true (by omega);have q2:decide ((v.size:Int)≤16)=true:=decide_eq_true (by omega);go_wp2_with fail
     go_meet
     case rel=>exact⟨rfl,rfl⟩
    ·have hz:b0=false:=by rw[hb0,Bool.and_eq_false_iff,decide_eq_false_iff_not,decide_eq_false_iff_not];omega
     clear hb0;subst hz;have q1:decide ((0:Int)<(v.size:Int))=true:=decide_eq_true (by omega);have q2:decide ((v.size:Int)≤16)=false:=decide_eq_false (by omega);go_wp2_with fail
     go_meet
     case rel=>exact⟨rfl,rfl⟩
   case rest =>
    obtain⟨rfl,rfl⟩:=hcut;clear hb0 hsz;go_wp2_with fail
    go_loop [10,11,12,13] (fun b i _ _=>∃(q:Nat) (c:Bool),b=.bool c∧i=.int .i64 q∧Hid (jM v q c)) (fun _ i _ _=>v.size-(intOf i).toNat)
    case atStart=>exact⟨0,b0,rfl,rfl,HS⟩
    case round =>
     obtain⟨q,c,rfl,rfl,hR⟩:=hrel;rcases Nat.lt_or_ge q v.size with hlt|hge
     ·obtain⟨d,hd⟩:∃d,(bB v[q]).toNat=d:=⟨_,rfl⟩
      have HD:=hid hd;have hd8:d<256:=by rw[←hd];exact(bB v[q]).toNat_lt
      cases c with
      | false =>
       have HF:=hid (hR.out.no hlt);clear hd hR;have hcs:(97≤d∧d≤122)∨d<97∨122<d:=by omega
       rcases hcs with⟨h,h'⟩|h|h
       all_goals
        go_wp2_with (go_at_call 73;refine(bF _ _ HD _).mono ?_;rintro x w' ⟨rfl,rfl⟩)
        go_round
        case rel=>exact⟨q+1,false,rfl,by go_num,HF⟩
        case measure=>simp[intOf];omega
      | true =>
       have HY:=hid (fun c=>hR.out.yes hlt hd c);clear hd hR;have hcs:(97≤d∧d≤122)∨122<d∨(57<d∧d<97)∨(48≤d∧d≤57)∨(45<d∧d<48)∨d=45∨d<45:=by omega
       rcases Nat.eq_zero_or_pos q with hq|hq
       ·subst hq;rcases hcs with⟨h,h'⟩|h|⟨h,h'⟩|⟨h,h'⟩|⟨h,h'⟩|rfl|h
        all_goals
         try first|have t0:decide ((97:Int)≤(d:Int))=true:=decide_eq_true (by omega)|have t0:decide ((97:Int)≤(d:Int))=false:=decide_eq_false (by omega)
         try first|have t1:decide ((d:Int)≤122)=true:=decide_eq_true (by omega)|have t1:decide ((d:Int)≤122)=false:=decide_eq_false (by omega)
         try first|have t2:decide ((48:Int)≤(d:Int))=true:=decide_eq_true (by omega)|have t2:decide ((48:Int)≤(d:Int))=false:=decide_eq_false (by omega)
         try first|have t3:decide ((d:Int)≤57)=true:=decide_eq_true (by omega)|have t3:decide ((d:Int)≤57)=false:=decide_eq_false (by omega)
         first
         |have HF:=hid (HY.out true (by simp<;>omega))
          go_wp2_with (go_at_call 73;refine(bF _ _ HD _).mono ?_;rintro x w' ⟨rfl,rfl⟩)
          go_round
          case rel=>exact⟨1,true,rfl,by go_num,HF⟩
          case measure=>simp[intOf];omega
         |have HF:=hid (HY.out false (by simp<;>omega))
          go_wp2_with (go_at_call 73;refine(bF _ _ HD _).mono ?_;rintro x w' ⟨rfl,rfl⟩)
          go_round
          case rel=>exact⟨1,false,rfl,by go_num,HF⟩
          case measure=>simp[intOf];omega
       ·have q1:decide ((0:Int)<(q:Int))=true:=decide_eq_true (by omega);rcases hcs with⟨h,h'⟩|h|⟨h,h'⟩|⟨h,h'⟩|⟨h,h'⟩|rfl|h
        all_goals
         try first|have t0:decide ((97:Int)≤(d:Int))=true:=decide_eq_true (by omega)|have t0:decide ((97:Int)≤(d:Int))=false:=decide_eq_false (by omega)
         try first|have t1:decide ((d:Int)≤122)=true:=decide_eq_true (by omega)|have t1:decide ((d:Int)≤122)=false:=decide_eq_false (by omega)
         try first|have t2:decide ((48:Int)≤(d:Int))=true:=decide_eq_true (by omega)|have t2:decide ((48:Int)≤(d:Int))=false:=decide_eq_false (by omega)
         try first|have t3:decide ((d:Int)≤57)=true:=decide_eq_true (by omega)|have t3:decide ((d:Int)≤57)=false:=decide_eq_false (by omega)
         try have t45:((d:Int)==45)=false:=by rw[beq_eq_false_iff_ne];omega
         first
         |have HF:=hid (HY.out true (by simp<;>omega))
          go_wp2_with (go_at_call 73;refine(bF _ _ HD _).mono ?_;rintro x w' ⟨rfl,rfl⟩)
          go_round
          case rel=>exact⟨q+1,true,rfl,by go_num,HF⟩
          case measure=>simp[intOf];omega
         |have HF:=hid (HY.out false (by simp<;>omega))
          go_wp2_with (go_at_call 73;refine(bF _ _ HD _).mono ?_;rintro x w' ⟨rfl,rfl⟩)
          go_round
          case rel=>exact⟨q+1,false,rfl,by go_num,HF⟩
          case measure=>simp[intOf];omega
     ·obtain rfl:c=ok:=hR.out.done hge HP.out;go_wp2_with fail
      go_meet
      case rel=>exact⟨rfl,rfl,HB1⟩
  ·obtain⟨HP,HQ⟩:=HP;go_wp2_with fail
   refine(HP.out _).mono ?_;rintro x W2 ⟨rfl,B2⟩;have HB2:=qF HB1 B2;clear B2;go_wp2_with fail
   refine(HQ.out _).mono ?_;rintro x W3 ⟨rfl,rfl⟩;go_wp2_with fail
   go_meet
   case rel=>exact⟨rfl,rfl,HB2⟩
  ·go_wp2_with fail
   refine(HP.out _).mono ?_;rintro x W2 ⟨rfl,B2⟩;have HB2:=qF HB1 B2;clear B2;go_wp2_with fail
   go_meet
   case rel=>exact⟨rfl,rfl,HB2⟩
  ·obtain⟨rfl,rfl⟩:=HP;go_wp2_with (go_at_call 69;(first|(with_reducible refine(fxH.out _).mono ?_)|(with_reducible refine(fxC.out _).mono ?_)|(with_reducible refine(fxM.out _).mono ?_)|(with_reducible refine(fxL.out _).mono ?_)|(with_reducible refine(fyE.out _).mono ?_));rintro x w' ⟨rfl,rfl⟩)
   go_meet
   case rel=>exact⟨rfl,rfl,HB1⟩
  ·go_wp2_with fail
   refine(HP.out _).mono ?_;rintro x W2 ⟨rfl,B2⟩;have HB2:=qF HB1 B2;clear B2;go_wp2_with fail
   go_meet
   case rel=>exact⟨rfl,rfl,HB2⟩
  ·obtain⟨rfl,rfl⟩:=HP;go_wp2_with (go_at_call 69;(first|(with_reducible refine(fxH.out _).mono ?_)|(with_reducible refine(fxC.out _).mono ?_)|(with_reducible refine(fxM.out _).mono ?_)|(with_reducible refine(fxL.out _).mono ?_)|(with_reducible refine(fyE.out _).mono ?_));rintro x w' ⟨rfl,rfl⟩)
   go_meet
   case rel=>exact⟨rfl,rfl,HB1⟩
  ·obtain⟨rfl,z,HP⟩:=HP;go_wp2_with (go_at_call 69;(first|(with_reducible refine(fxH.out _).mono ?_)|(with_reducible refine(fxC.out _).mono ?_)|(with_reducible refine(fxM.out _).mono ?_)|(with_reducible refine(fxL.out _).mono ?_)|(with_reducible refine(fyE.out _).mono ?_));rintro x w' ⟨rfl,rfl⟩)
   refine(HP.out _).mono ?_;rintro x W2 ⟨rfl,rfl⟩;go_wp2_with fail
   go_meet
   case rel=>exact⟨rfl,rfl,HB1⟩
  ·obtain⟨rfl,rfl⟩:=HP;go_wp2_with (go_at_call 69;(first|(with_reducible refine(fxH.out _).mono ?_)|(with_reducible refine(fxC.out _).mono ?_)|(with_reducible refine(fxM.out _).mono ?_)|(with_reducible refine(fxL.out _).mono ?_)|(with_reducible refine(fyE.out _).mono ?_));rintro x w' ⟨rfl,rfl⟩)
   go_meet
   case rel=>exact⟨rfl,rfl,HB1⟩
  ·obtain⟨rfl,z,HP⟩:=HP;go_wp2_with (go_at_call 69;(first|(with_reducible refine(fxH.out _).mono ?_)|(with_reducible refine(fxC.out _).mono ?_)|(with_reducible refine(fxM.out _).mono ?_)|(with_reducible refine(fxL.out _).mono ?_)|(with_reducible refine(fyE.out _).mono ?_));rintro x w' ⟨rfl,rfl⟩)
   refine(HP.out _).mono ?_;rintro x W2 ⟨rfl,rfl⟩;go_wp2_with fail
   go_meet
   case rel=>exact⟨rfl,rfl,HB1⟩
  ·obtain⟨rfl,rfl⟩:=HP;go_wp2_with (go_at_call 69;(first|(with_reducible refine(fxH.out _).mono ?_)|(with_reducible refine(fxC.out _).mono ?_)|(with_reducible refine(fxM.out _).mono ?_)|(with_reducible refine(fxL.out _).mono ?_)|(with_reducible refine(fyE.out _).mono ?_));rintro x w' ⟨rfl,rfl⟩)
   go_meet
   case rel=>exact⟨rfl,rfl,HB1⟩
  ·obtain⟨rfl,z,HP⟩:=HP;go_wp2_with (go_at_call 69;(first|(with_reducible refine(fxH.out _).mono ?_)|(with_reducible refine(fxC.out _).mono ?_)|(with_reducible refine(fxM.out _).mono ?_)|(with_reducible refine(fxL.out _).mono ?_)|(with_reducible refine(fyE.out _).mono ?_));rintro x w' ⟨rfl,rfl⟩)
   refine(HP.out _).mono ?_;rintro x W2 ⟨rfl,rfl⟩;go_wp2_with fail
   go_meet
   case rel=>exact⟨rfl,rfl,HB1⟩
  ·obtain⟨rfl,rfl⟩:=HP;go_wp2_with (go_at_call 69;(first|(with_reducible refine(fxH.out _).mono ?_)|(with_reducible refine(fxC.out _).mono ?_)|(with_reducible refine(fxM.out _).mono ?_)|(with_reducible refine(fxL.out _).mono ?_)|(with_reducible refine(fyE.out _).mono ?_));rintro x w' ⟨rfl,rfl⟩)
   go_meet
   case rel=>exact⟨rfl,rfl,HB1⟩
  ·go_wp2_with (go_at_call 69;(first|(with_reducible refine(fxH.out _).mono ?_)|(with_reducible refine(fxC.out _).mono ?_)|(with_reducible refine(fxM.out _).mono ?_)|(with_reducible refine(fxL.out _).mono ?_)|(with_reducible refine(fyE.out _).mono ?_));rintro x w' ⟨rfl,rfl⟩)
   refine(HP.out _ HT1.out).mono ?_;rintro x W2 ⟨rfl,B2⟩;have HB2:=qF HB1 B2;clear B2;go_wp2_with fail
   go_meet
   case rel=>exact⟨rfl,rfl,HB2⟩
  ·obtain⟨rfl,rfl⟩:=HP;go_wp2_with (go_at_call 69;(first|(with_reducible refine(fxH.out _).mono ?_)|(with_reducible refine(fxC.out _).mono ?_)|(with_reducible refine(fxM.out _).mono ?_)|(with_reducible refine(fxL.out _).mono ?_)|(with_reducible refine(fyE.out _).mono ?_));rintro x w' ⟨rfl,rfl⟩)
   go_meet
   case rel=>exact⟨rfl,rfl,HB1⟩
  ·go_wp2_with (go_at_call 69;(first|(with_reducible refine(fxH.out _).mono ?_)|(with_reducible refine(fxC.out _).mono ?_)|(with_reducible refine(fxM.out _).mono ?_)|(with_reducible refine(fxL.out _).mono ?_)|(with_reducible refine(fyE.out _).mono ?_));rintro x w' ⟨rfl,rfl⟩)
   refine(HP.out _ HT1.out).mono ?_;rintro x W2 ⟨rfl,B2⟩;have HB2:=qF HB1 B2;clear B2;go_wp2_with fail
   go_meet
   case rel=>exact⟨rfl,rfl,HB2⟩
  ·obtain⟨rfl,rfl⟩:=HP;go_wp2_with (go_at_call 69;(first|(with_reducible refine(fxH.out _).mono ?_)|(with_reducible refine(fxC.out _).mono ?_)|(with_reducible refine(fxM.out _).mono ?_)|(with_reducible refine(fxL.out _).mono ?_)|(with_reducible refine(fyE.out _).mono ?_));rintro x w' ⟨rfl,rfl⟩)
   go_meet
   case rel=>exact⟨rfl,rfl,HB1⟩
  ·obtain⟨rfl,rfl⟩:=HP;go_wp2_with (go_at_call 69;(first|(with_reducible refine(fxH.out _).mono ?_)|(with_reducible refine(fxC.out _).mono ?_)|(with_reducible refine(fxM.out _).mono ?_)|(with_reducible refine(fxL.out _).mono ?_)|(with_reducible refine(fyE.out _).mono ?_));rintro x w' ⟨rfl,rfl⟩)
   go_meet
   case rel=>exact⟨rfl,rfl,HB1⟩
 case rest =>
  obtain⟨rfl,rfl,HBc⟩:=hcut;rcases HO.out with⟨rfl,rfl⟩|⟨rfl,h1,rfl⟩|⟨rfl,h1,rfl⟩
  ·go_wp2
   go_ret2;exact⟨rfl,HBc.out⟩
  ·go_wp2_with fail
   refine(hE.out (by trivial) _).mono ?_;rintro x W2 ⟨rfl,B2⟩;have HB2:=qF HBc B2;clear B2;have l1:decide ((120:Int)<((gZ s).size:Int))=true:=by simp;omega
   go_wp2
   go_ret2;exact⟨rfl,HB2.out⟩
  ·go_wp2_with fail
   refine(hE.out (by trivial) _).mono ?_;rintro x W2 ⟨rfl,B2⟩;have HB2:=qF HBc B2;clear B2;have l1:decide ((120:Int)<((gZ s).size:Int))=false:=by simp;omega
   go_wp2
   go_ret2;exact⟨rfl,HB2.out⟩
end Go.Proofs.YtcfgbdhpcboikaaGreatDoor
