/-
The document's 'in' (a word of a list's, with blanks between): what it answers.
-/
import Derived.Test.YtcfgbdhpcboikaaGreatDoorLinkF
namespace Go.Proofs.YtcfgbdhpcboikaaGreatDoor
open Go.Lib (hid)
set_option maxHeartbeats 4000000
set_option maxRecDepth 100000
open Go.RowKit
theorem aBY (cur:List UInt8):eQ cur []=if cur.isEmpty then []else [cur]:=by unfold eQ;rfl
theorem qY (cur l:List UInt8):eQ cur (32 :: l)=if cur.isEmpty then eQ [] l else cur :: eQ [] l:=by
 conv=>lhs;unfold eQ
 rw[if_pos rfl]
theorem aGH (cur l:List UInt8)(c:UInt8)(h:¬c=32):eQ cur (c :: l)=eQ (cur++[c]) l:=by
 conv=>lhs;unfold eQ
 rw[if_neg h]
def dX (l:List UInt8)(f k:Nat):List UInt8:=(l.take k).drop f
theorem mE (l:List UInt8)(k:Nat):dX l k k=[]:=by
 unfold dX;apply List.drop_eq_nil_of_le;rw[List.length_take];omega
theorem aF4 (l:List UInt8)(f k:Nat)(h:k<l.length)(hf:f≤k):dX l f (k+1)=dX l f k++[l[k]]:=by
 unfold dX;rw[List.take_succ_eq_append_getElem h,List.drop_append_of_le_length (by rw[List.length_take];omega)]
theorem nC (l:List UInt8)(f k:Nat)(h:k≤l.length)(hf:f<k):(dX l f k).isEmpty=false:=by
 unfold dX;rw[List.isEmpty_eq_false_iff];intro e;have:=congrArg List.length e;rw[List.length_drop,List.length_take]at this
 simp at this;omega
def eJ (w l:List UInt8)(f k:Nat):Bool:=(eQ (dX l f k) (l.drop k)).contains w
theorem aFD (w l:List UInt8):eJ w l 0 0=inB w l:=by
 unfold eJ inB vX;rw[mE];rfl
theorem aG4 (w l:List UInt8)(f k:Nat)(h:k<l.length)(hf:f≤k)(hc:¬l[k]=32):eJ w l f (k+1)=eJ w l f k:=by
 unfold eJ;rw[List.drop_eq_getElem_cons h,aGH _ _ _ hc,aF4 l f k h hf]
theorem aFC (w l:List UInt8)(f k:Nat)(h:k<l.length)(hf:f<k)(hc:l[k]=32)(hw:¬dX l f k=w):eJ w l (k+1) (k+1)=eJ w l f k:=by
 unfold eJ;rw[List.drop_eq_getElem_cons h,hc,qY,mE,nC l f k (by omega) hf];simp only[Bool.false_eq_true,if_false,List.contains_cons];have:(w==dX l f k)=false:=by rw[beq_eq_false_iff_ne];exact fun e=>hw e.symm
 rw[this,Bool.false_or]
theorem aG3 (w l:List UInt8)(k:Nat)(h:k<l.length)(hc:l[k]=32):eJ w l (k+1) (k+1)=eJ w l k k:=by
 unfold eJ;rw[List.drop_eq_getElem_cons h,hc,qY,mE,mE];rfl
theorem aCG (w l:List UInt8)(f k:Nat)(h:k≤l.length)(hf:f<k)(hc:k=l.length∨∃h:k<l.length,l[k]=32)(hw:dX l f k=w):eJ w l f k=true:=by
 unfold eJ;rcases hc with rfl|⟨h,hc⟩
 ·rw[List.drop_eq_nil_of_le (Nat.le_refl _),aBY,nC l f _ h hf,hw];simp
 ·rw[List.drop_eq_getElem_cons h,hc,qY,nC l f k (by omega) hf,hw];simp
theorem aCF (w l:List UInt8)(f:Nat)(hf:f≤l.length)(hw:f<l.length→¬dX l f l.length=w):eJ w l f l.length=false:=by
 unfold eJ;rw[List.drop_eq_nil_of_le (Nat.le_refl _),aBY];rcases Nat.lt_or_ge f l.length with h|h
 ·rw[nC l f _ (Nat.le_refl _) h];have:=hw h;simp only[Bool.false_eq_true,if_false,List.contains_cons,List.contains_nil,Bool.or_false];rw[beq_eq_false_iff_ne];exact fun e=>this e.symm
 ·obtain rfl:f=l.length:=by omega
  rw[mE];rfl
theorem fZ (l:ByteArray)(f k:Nat):(l.extract f k).toList=dX l.data.toList f k:=by
 rw[toList_data];unfold dX;simp[List.drop_take]
def aNW (s l:ByteArray)(f k:Nat)(b:Bool):Prop :=
 f≤k∧(k≤l.size∧eJ s.data.toList l.data.toList f k=b∨k=l.size+1∧b=false)
theorem lY (s l:ByteArray)(b:Bool)(hb:Hid (inB s.data.toList l.data.toList=b))(ml:l.size≤1000000000)(w:World) :
  Calls Tryz.prog 69 #[.string s,.string l] w fun e w'=>e=.returned (.bool b)∧w=w':=by
 go_enter Tryz.func69,Tryz.ntmps69
 go_wp2
 go_loop [4,5,6] (fun r fr i=>r=.bool false∧∃f k:Nat,fr=.int .i64 f∧i=.int .i64 k∧Hid (aNW s l f k b)) (fun _ _ i=>l.size+1-(intOf i).toNat)
 case atStart=>exact⟨rfl,0,0,rfl,rfl,⟨Nat.le_refl _,.inl ⟨Nat.zero_le _,by rw[aFD];exact hb.out⟩⟩⟩
 case round =>
  obtain⟨rfl,f,k,rfl,rfl,hR⟩:=hrel;rcases Nat.lt_or_ge l.size k with hk|hk
  ·have hfalse:b=false:=by
    rcases hR.out.2 with⟨h1,_⟩|⟨_,h⟩
    ·omega
    ·exact h
   have HF:=hid hfalse;clear hfalse;go_wp2
   go_ret;refine⟨?_,rfl⟩;rw[HF.out];rfl
  ·have hfk:f≤k:=hR.out.1;have hto:eJ s.data.toList l.data.toList f k=b:=by
    rcases hR.out.2 with⟨_,h⟩|⟨h,_⟩
    ·exact h
    ·omega
   have hlen:l.data.toList.length=l.size:=rfl;have HT:=hid hto;have HL:=hid hlen;clear hto hlen;rcases Nat.lt_or_ge k l.size with hlt|hge
   ·by_cases hc:l[k]=32
    ·have hb32:((l[k].toNat:Int)==32)=true:=by rw[hc];rfl
     have HC:=hid hc;clear hc;rcases Nat.lt_or_ge f k with hf|hf
     ·by_cases hw:dX l.data.toList f k=s.data.toList
      ·have hx:((l.extract f k).toList==s.toList)=true:=by rw[fZ,toList_data,hw];simp
       have HW:=hid hw;clear hw;go_wp2
       go_ret;refine⟨?_,rfl⟩;rw[←HT.out,aCG _ _ f k (Nat.le_of_lt (HL.out▸hlt)) hf (.inr ⟨HL.out▸hlt,HC.out⟩) HW.out];rfl
      ·have hx:((l.extract f k).toList==s.toList)=false:=by rw[fZ,toList_data,beq_eq_false_iff_ne];exact hw
       have HW:=hid hw;clear hw;go_wp2
       go_round
       case rel=>exact⟨rfl,k+1,k+1,by go_num,by go_num,⟨Nat.le_refl _,.inl ⟨hlt,(aFC _ _ f k (HL.out▸hlt) hf HC.out HW.out).trans HT.out⟩⟩⟩
       case measure=>simp[intOf];omega
     ·obtain rfl:f=k:=by omega
      go_wp2
      go_round
      case rel=>exact⟨rfl,f+1,f+1,by go_num,by go_num,⟨Nat.le_refl _,.inl ⟨hlt,(aG3 _ _ f (HL.out▸hlt) HC.out).trans HT.out⟩⟩⟩
      case measure=>simp[intOf];omega
    ·have hb32:((l[k].toNat:Int)==32)=false:=by
      rw[beq_eq_false_iff_ne];intro e;exact hc (UInt8.toNat_inj.1 (by simpa using (by omega:l[k].toNat=32)))
     have hks:((k:Int)==(l.size:Int))=false:=by
      rw[beq_eq_false_iff_ne];omega
     have HC:=hid hc;clear hc;go_wp2
     go_round
     case rel=>exact⟨rfl,f,k+1,rfl,by go_num,⟨by omega,.inl ⟨hlt,(aG4 _ _ f k (HL.out▸hlt) hfk HC.out).trans HT.out⟩⟩⟩
     case measure=>simp[intOf];omega
   ·obtain rfl:k=l.size:=by omega
    rcases Nat.lt_or_ge f l.size with hf|hf
    ·by_cases hw:dX l.data.toList f l.size=s.data.toList
     ·have hx:((l.extract f l.size).toList==s.toList)=true:=by rw[fZ,toList_data,hw];simp
      have HW:=hid hw;clear hw;go_wp2
      go_ret;refine⟨?_,rfl⟩;rw[←HT.out,aCG _ _ f l.size (Nat.le_of_eq HL.out.symm) hf (.inl HL.out.symm) HW.out];rfl
     ·have hx:((l.extract f l.size).toList==s.toList)=false:=by rw[fZ,toList_data,beq_eq_false_iff_ne];exact hw
      have HB:Hid (b=false):=by
       show b=false;rw[←HT.out];have:=aCF s.data.toList l.data.toList f (by rw[HL.out];exact hfk) (fun _=>by rw[HL.out];exact hw);rwa[HL.out]at this
      clear hw;go_wp2
      go_round
      case rel=>exact⟨rfl,l.size+1,l.size+1,by go_num,by go_num,⟨Nat.le_refl _,.inr ⟨rfl,HB.out⟩⟩⟩
      case measure=>simp[intOf]
    ·obtain rfl:f=l.size:=by omega
     have HB:Hid (b=false):=by
      show b=false;rw[←HT.out];have:=aCF s.data.toList l.data.toList l.size (by rw[HL.out];exact hfk) (fun h=>by rw[HL.out]at h;omega);rwa[HL.out]at this
     go_wp2
     go_round
     case rel=>exact⟨rfl,l.size+1,l.size+1,by go_num,by go_num,⟨Nat.le_refl _,.inr ⟨rfl,HB.out⟩⟩⟩
     case measure=>simp[intOf]
open Go.RowKit
theorem aND {a b:Int}(h:a=b):Ending.returned (.int .u8 a)=.returned (.int .u8 b):=by rw[h]
theorem aY (c:UInt8)(d:Nat)(hd:Hid ((aW c).toNat=d))(w:World):Calls Tryz.prog 73 #[.int .u8 c.toNat] w fun e w'=>e=.returned (.int .u8 d)∧w=w':=by
 have hn:=oL c;rw[hd.out]at hn
 have hc:=c.toNat_lt;generalize c.toNat=n at *
 have hcases:n<65∨(65≤n∧n≤90)∨90<n:=by omega
 rcases hcases with h|⟨h,h2⟩|h
 ·rw[if_neg (by omega)]at hn
  subst hn;go_enter Tryz.func73,Tryz.ntmps73
  go_wp2
  go_ret;exact⟨rfl,rfl⟩
 ·rw[if_pos (by omega)]at hn
  have HN:=hid hn;clear hn;go_enter Tryz.func73,Tryz.ntmps73
  go_wp2
  go_ret;exact⟨aND (by rw[HN.out];omega),rfl⟩
 ·rw[if_neg (by omega)]at hn
  subst hn;go_enter Tryz.func73,Tryz.ntmps73
  go_wp2
  go_ret;exact⟨rfl,rfl⟩
theorem aAu (s:ByteArray)(hs:s.size≤140737488355328)(w:World):Calls Tryz.prog 74 #[.string s] w fun e w'=>e=.returned (.string ⟨(bF s.data.toList).toArray⟩)∧Below w.heap.size w w':=by
 obtain⟨cap,W,hrun,hb,hrow,hcap⟩:=wY s w;have H0:Hid (mM s.data.toList w.heap.size 0 w W):=⟨Nat.zero_le _,hrow,hb⟩
 have HC:=hid hcap;clear hb hrow hcap;go_enter Tryz.func74,Tryz.ntmps74
 go_wp2
 go_loopw [4] (fun i wx=>∃k:Nat,i=.int .i64 k∧Hid (mM s.data.toList w.heap.size k w wx)) (fun i _=>s.size-(intOf i).toNat)
 case atStart=>exact⟨0,rfl,H0⟩
 case round =>
  obtain⟨k,rfl,hR⟩:=hrel;rcases Nat.lt_or_ge k s.size with hlt|hge
  ·obtain⟨c,hcell,hfree,h1,h2⟩:=aAK _ _ _ _ _ hR.out hlt;have H2:=hid h2;have hb8:=c.toNat_lt;clear h1 h2;obtain⟨d,hd⟩:∃d,(aW c).toNat=d:=⟨_,rfl⟩
   have HD:=hid hd;have hd8:d<256:=by rw[←hd];exact(aW c).toNat_lt
   clear hd;go_wp2_with (go_at_call 73;refine(aY c d HD _).mono ?_;rintro e w' ⟨rfl,rfl⟩)
   go_roundw
   case rel=>exact⟨k+1,by go_num,H2.out _ (by rw[HD.out])⟩
   case measure=>simp[intOf];omega
  ·have hR2:=hR.out.2.1;have hk:k=s.data.toList.length:=Nat.le_antisymm hR.out.1 hge;rw[hk,List.take_length,List.drop_length,List.append_nil]at hR2
   have hlen:(bF s.data.toList).length=s.size:=by unfold bF;simp
   have hcv:(convert 35 9 (.slice (some ⟨w.heap.size,0,none⟩) s.size cap)).run Tryz.prog wr=.ok (.string ⟨(bF s.data.toList).toArray⟩) wr:=by
    rw[←hlen];refine run_convert_bytes_back wr 35 9 5 _ cap _ Tryz.underlying35 Tryz.underlying5 Tryz.underlying9 ?_;intro j hj;have hadd:(⟨w.heap.size,0,none⟩:Addr).add j=⟨w.heap.size,0+j,none⟩:=by unfold Addr.add;split<;>simp_all
    rw[hadd];exact hR2.bytes j hj
   clear hR2 hlen hk;go_wp2
   go_ret;exact⟨rfl,hR.out.2.2⟩
theorem aAC (c:UInt8)(d k:Nat)(h:(aW c).toNat=d):aH (aW c) k=((decide (97≤d)&&decide (d≤122))||(decide (0<k)&&((decide (48≤d)&&decide (d≤57))||decide (d=43)||decide (d=45)||decide (d=46)))):=by
 unfold aH;rw[h]
theorem aKp (c:UInt8)(h:(aW c).toNat=58):c=58:=by
 rw[oL]at h
 split at h
 ·omega
 ·exact UInt8.toNat_inj.1 (by rw[h];rfl)
theorem aBi {p:List UInt8}{k:Nat}(h:kJ p k):∀j c,j<k→p[j]?=some c→aH (aW c) j=true:=by
 intro j c hj hc;have hl:j<p.length:=(List.getElem?_eq_some_iff.1 hc).1;rw[List.getElem?_eq_getElem hl]at hc
 cases hc;exact h.2 j hl hj
structure aAR (s:ByteArray) (k d:Nat):Prop where
 yes:((decide (97≤d)&&decide (d≤122))||(decide (0<k)&&((decide (48≤d)&&decide (d≤57))||decide (d=43)||decide (d=45)||decide (d=46))))=true→kJ s.data.toList (k+1)
 no:((decide (97≤d)&&decide (d≤122))||(decide (0<k)&&((decide (48≤d)&&decide (d≤57))||decide (d=43)||decide (d=45)||decide (d=46))))=false→(d=58→k=0)→gC s.data.toList=.tuple #[.string ⟨#[]⟩,.bool false]
 colon:d=58→0<k→gC s.data.toList=.tuple #[.string ⟨(bF (s.data.toList.take k)).toArray⟩,.bool true]
theorem aAR.of (s:ByteArray)(k d:Nat)(hk:k<s.size)(h:kJ s.data.toList k)(hd:(aW s[k]).toNat=d):aAR s k d:=by
 have hl:k<s.data.toList.length:=hk;have hg:s.data.toList[k]?=some s[k]:=by rw[List.getElem?_eq_getElem hl];rfl
 have he:s.data.toList[k]=s[k]:=by rw[List.getElem?_eq_getElem hl]at hg;exact Option.some.inj hg
 refine⟨fun hy=>?_,fun hn h58=>?_,fun h58 h0=>?_⟩
 ·rw[←aAC s[k] d k hd,←he]at hy
  exact h.step hl hy
 ·rw[←aAC s[k] d k hd]at hn
  exact fR (aGh _ k s[k] hg hn (fun e=>h58 (by rw[←hd,e];rfl)) (aBi h))
 ·have hc:s[k]=58:=aKp _ (by rw[hd,h58]);rw[hc]at hg
  exact jL (aDE _ k h0 hg (aBi h))
theorem aCP (s:ByteArray)(k:Nat)(_hk:k≤s.size):(s.extract 0 k).data.toList=s.data.toList.take k:=by
 have:=fZ s 0 k;rw[toList_data]at this
 rw[this];unfold dX;simp
def aEN (s:ByteArray)(w:World)(e:Ending)(w':World):Prop:=e=.returned (gC s.data.toList)∧Below w.heap.size w w'
theorem aEw (s:ByteArray)(hs:s.size≤140737488355328)(w:World):Calls Tryz.prog 31 #[.string s] w (aEN s w):=by
 go_enter Tryz.func31,Tryz.ntmps31
 go_wp2
 go_loop [2,3,4] (fun r2 r3 i=>r2=.string ⟨#[]⟩∧r3=.bool false∧∃k:Nat,i=.int .i64 k∧Hid (kJ s.data.toList k)) (fun _ _ i=>s.size-(intOf i).toNat)
 case atStart=>exact⟨rfl,rfl,0,rfl,hid ⟨Nat.zero_le _,fun j hj h0=>absurd h0 (by omega)⟩⟩
 case round =>
  obtain⟨rfl,rfl,k,rfl,hR⟩:=hrel;rcases Nat.lt_or_ge k s.size with hlt|hge
  ·obtain⟨d,hd⟩:∃d,(aW s[k]).toNat=d:=⟨_,rfl⟩
   have HD:=hid hd;have hd8:d<256:=by rw[←hd];exact(aW s[k]).toNat_lt
   have HS:=hid (aAR.of s k d hlt hR.out hd);clear hd;have hcases:(97≤d∧d≤122)∨122<d∨(58<d∧d<97)∨d=58∨(48≤d∧d≤57)∨d=47∨d=46∨d=45∨d=44∨d=43∨d<43:=by omega
   rcases Nat.eq_zero_or_pos k with hk0|hk0
   ·subst hk0;rcases hcases with⟨h,h2⟩|h|⟨h,h2⟩|rfl|⟨h,h2⟩|rfl|rfl|rfl|rfl|rfl|h
    ·have HF:=hid (HS.out.yes (by simp;omega));have t58:((d:Int)==58)=false:=by rw[beq_eq_false_iff_ne];omega
     go_wp2_with (go_at_call 73;refine(aY _ _ HD _).mono ?_;rintro e w' ⟨rfl,rfl⟩)
     go_round
     case rel=>exact⟨rfl,rfl,1,by go_num,HF⟩
     case measure=>simp[intOf];omega
    ·have HF:=hid (HS.out.no (by simp;omega) (by omega));have t58:((d:Int)==58)=false:=by rw[beq_eq_false_iff_ne];omega
     go_wp2_with (go_at_call 73;refine(aY _ _ HD _).mono ?_;rintro e w' ⟨rfl,rfl⟩)
     go_ret2;exact⟨by rw[HF.out];rfl,Below.refl _ _⟩
    ·have HF:=hid (HS.out.no (by simp;omega) (by omega));have t58:((d:Int)==58)=false:=by rw[beq_eq_false_iff_ne];omega
     go_wp2_with (go_at_call 73;refine(aY _ _ HD _).mono ?_;rintro e w' ⟨rfl,rfl⟩)
     go_ret2;exact⟨by rw[HF.out];rfl,Below.refl _ _⟩
    ·have HF:=hid (HS.out.no (by simp) (by simp));go_wp2_with (go_at_call 73;refine(aY _ _ HD _).mono ?_;rintro e w' ⟨rfl,rfl⟩)
     go_ret2;exact⟨by rw[HF.out];rfl,Below.refl _ _⟩
    ·have HF:=hid (HS.out.no (by simp;omega) (by omega));have t58:((d:Int)==58)=false:=by rw[beq_eq_false_iff_ne];omega
     go_wp2_with (go_at_call 73;refine(aY _ _ HD _).mono ?_;rintro e w' ⟨rfl,rfl⟩)
     go_ret2;exact⟨by rw[HF.out];rfl,Below.refl _ _⟩
    all_goals
     have HF:=hid (HS.out.no (by simp;try omega) (by omega));try have t58:((d:Int)==58)=false:=by rw[beq_eq_false_iff_ne];omega
     go_wp2_with (go_at_call 73;refine(aY _ _ HD _).mono ?_;rintro e w' ⟨rfl,rfl⟩)
     go_ret2;exact⟨by rw[HF.out];rfl,Below.refl _ _⟩
   ·rcases hcases with⟨h,h2⟩|h|⟨h,h2⟩|rfl|⟨h,h2⟩|rfl|rfl|rfl|rfl|rfl|h
    ·have HF:=hid (HS.out.yes (by simp;omega));have t58:((d:Int)==58)=false:=by rw[beq_eq_false_iff_ne];omega
     go_wp2_with (go_at_call 73;refine(aY _ _ HD _).mono ?_;rintro e w' ⟨rfl,rfl⟩)
     go_round
     case rel=>exact⟨rfl,rfl,k+1,by go_num,HF⟩
     case measure=>simp[intOf];omega
    ·have HF:=hid (HS.out.no (by simp;omega) (by omega));have t58:((d:Int)==58)=false:=by rw[beq_eq_false_iff_ne];omega
     have t43:((d:Int)==43)=false:=by rw[beq_eq_false_iff_ne];omega
     have t45:((d:Int)==45)=false:=by rw[beq_eq_false_iff_ne];omega
     have t46:((d:Int)==46)=false:=by rw[beq_eq_false_iff_ne];omega
     go_wp2_with (go_at_call 73;refine(aY _ _ HD _).mono ?_;rintro e w' ⟨rfl,rfl⟩)
     go_ret2;exact⟨by rw[HF.out];rfl,Below.refl _ _⟩
    ·have HF:=hid (HS.out.no (by simp;omega) (by omega));have t58:((d:Int)==58)=false:=by rw[beq_eq_false_iff_ne];omega
     have t43:((d:Int)==43)=false:=by rw[beq_eq_false_iff_ne];omega
     have t45:((d:Int)==45)=false:=by rw[beq_eq_false_iff_ne];omega
     have t46:((d:Int)==46)=false:=by rw[beq_eq_false_iff_ne];omega
     go_wp2_with (go_at_call 73;refine(aY _ _ HD _).mono ?_;rintro e w' ⟨rfl,rfl⟩)
     go_ret2;exact⟨by rw[HF.out];rfl,Below.refl _ _⟩
    ·have HF:=hid (HS.out.colon rfl hk0);have hxs:(s.extract 0 k).size≤140737488355328:=by rw[ByteArray.size_extract];omega
     have L:=aAu (s.extract 0 k) hxs w;rw[aCP s k (by omega)]at L
     have HL:=hid L;clear L hxs;go_wp2_with (go_at_call 73;refine(aY _ _ HD _).mono ?_;rintro e w' ⟨rfl,rfl⟩)
     refine HL.out.mono ?_;rintro e W2 ⟨rfl,B2⟩;have HB2:=hid B2;clear B2;go_wp2
     go_ret2;exact⟨by rw[HF.out];rfl,HB2.out⟩
    ·have HF:=hid (HS.out.yes (by simp;omega));have t58:((d:Int)==58)=false:=by rw[beq_eq_false_iff_ne];omega
     go_wp2_with (go_at_call 73;refine(aY _ _ HD _).mono ?_;rintro e w' ⟨rfl,rfl⟩)
     go_round
     case rel=>exact⟨rfl,rfl,k+1,by go_num,HF⟩
     case measure=>simp[intOf];omega
    ·have HF:=hid (HS.out.no (by simp) (by omega));go_wp2_with (go_at_call 73;refine(aY _ _ HD _).mono ?_;rintro e w' ⟨rfl,rfl⟩)
     go_ret2;exact⟨by rw[HF.out];rfl,Below.refl _ _⟩
    ·have HF:=hid (HS.out.yes (by simp;omega));go_wp2_with (go_at_call 73;refine(aY _ _ HD _).mono ?_;rintro e w' ⟨rfl,rfl⟩)
     go_round
     case rel=>exact⟨rfl,rfl,k+1,by go_num,HF⟩
     case measure=>simp[intOf];omega
    ·have HF:=hid (HS.out.yes (by simp;omega));go_wp2_with (go_at_call 73;refine(aY _ _ HD _).mono ?_;rintro e w' ⟨rfl,rfl⟩)
     go_round
     case rel=>exact⟨rfl,rfl,k+1,by go_num,HF⟩
     case measure=>simp[intOf];omega
    ·have HF:=hid (HS.out.no (by simp) (by omega));go_wp2_with (go_at_call 73;refine(aY _ _ HD _).mono ?_;rintro e w' ⟨rfl,rfl⟩)
     go_ret2;exact⟨by rw[HF.out];rfl,Below.refl _ _⟩
    ·have HF:=hid (HS.out.yes (by simp;omega));go_wp2_with (go_at_call 73;refine(aY _ _ HD _).mono ?_;rintro e w' ⟨rfl,rfl⟩)
     go_round
     case rel=>exact⟨rfl,rfl,k+1,by go_num,HF⟩
     case measure=>simp[intOf];omega
    ·have HF:=hid (HS.out.no (by simp;omega) (by omega));have t58:((d:Int)==58)=false:=by rw[beq_eq_false_iff_ne];omega
     have t43:((d:Int)==43)=false:=by rw[beq_eq_false_iff_ne];omega
     have t45:((d:Int)==45)=false:=by rw[beq_eq_false_iff_ne];omega
     have t46:((d:Int)==46)=false:=by rw[beq_eq_false_iff_ne];omega
     go_wp2_with (go_at_call 73;refine(aY _ _ HD _).mono ?_;rintro e w' ⟨rfl,rfl⟩)
     go_ret2;exact⟨by rw[HF.out];rfl,Below.refl _ _⟩
  ·have hX:gC s.data.toList=.tuple #[.string ⟨#[]⟩,.bool false]:=fR (aGi _ (fun j c hj hc=>aBi hR.out j c (by have:s.data.toList.length=s.size:=rfl;omega) hc));have HX:=hid hX;clear hX;go_wp2
   go_ret2;exact⟨by rw[HX.out];rfl,Below.refl _ _⟩
open Go.RowKit
def iN (j:Nat):ByteArray:=⟨(bO.getD j []).toArray⟩
def aKS (w W:World)(b:Nat):Prop:=Below w.heap.size w W∧∀j,j<15→W.cell? ⟨b,j,none⟩=some (.string (iN j))
theorem aEh (w:World)(j:Nat)(h:j<15):(w.alloc (.cells (bO.map fun l=>Value.string ⟨l.toArray⟩).toArray 9)).cell? ⟨w.heap.size,j,none⟩=some (.string (iN j)):=by
 rw[cell_of_row _ w.heap.size j _ 9 (0,0) (heap_alloc_new w _)];have:∀j<15,(bO.map fun l=>Value.string ⟨l.toArray⟩).toArray[j]?=some (Value.string (iN j)):=by
  intro j hj;have hl:bO.length=15:=rfl;rw[List.getElem?_toArray,List.getElem?_map,List.getElem?_eq_getElem (by omega)];unfold iN;simp[List.getD_eq_getElem?_getD,List.getElem?_eq_getElem (show j<bO.length by omega)]
 exact this j h
theorem aHI (w:World):Calls Tryz.prog 68 #[] w fun e w'=>e=.returned (.slice (some ⟨w.heap.size,0,none⟩) 15 15)∧Hid (aKS w w' w.heap.size):=by
 go_enter Tryz.func68,Tryz.ntmps68
 go_wp2
 go_ret;exact⟨rfl,(Below.refl _ w).alloc (Nat.le_refl _) _,fun j hj=>aEh w j hj⟩
theorem aJL (s:List UInt8)(k:Nat)(h:k<15):oG s (bO.drop k) k=if inB s (bO.getD k [])then k else oG s (bO.drop (k+1)) (k+1):=by
 have hl:bO.length=15:=rfl;rw[List.drop_eq_getElem_cons (by omega)];have e:bO.getD k []=bO[k]'(by omega):=by simp[List.getD_eq_getElem?_getD,List.getElem?_eq_getElem (show k<bO.length by omega)]
 rw[e];conv=>lhs;unfold oG
theorem uG (k:Nat):(iN k).size≤1000000000:=by
 have h:∀k<15,(bO.getD k []).length≤1000:=by decide +kernel
 have e:(iN k).size=(bO.getD k []).length:=rfl;rw[e];rcases Nat.lt_or_ge k 15 with hk|hk
 ·have:=h k hk;omega
 ·have hl:bO.length=15:=rfl;rw[List.getD_eq_getElem?_getD,List.getElem?_eq_none (by omega)];simp
def aN0 (s:ByteArray)(r k:Nat):Prop:=k≤15∧oG s.data.toList (bO.drop k) k=r
theorem aF9 (s:ByteArray)(r:Nat)(hr:Hid (cH s.data.toList=r))(w:World):Calls Tryz.prog 25 #[.string s] w fun e w'=>e=.returned (.int .i64 (r:Nat))∧Below w.heap.size w w':=by
 go_enter Tryz.func25,Tryz.ntmps25
 go_wp2_with fail
 refine(aHI _).mono ?_;rintro e W ⟨rfl,hK⟩;have hg:Hid (w.heap.size=w.heap.size):=rfl;generalize w.heap.size=b at hK;go_wp2
 go_loop [2,4] (fun v i=>v=.int .i64 0∧∃k:Nat,i=.int .i64 k∧Hid (aN0 s r k)) (fun _ i=>15-(intOf i).toNat)
 case atStart=>exact⟨rfl,0,rfl,⟨Nat.zero_le _,(aHH s.data.toList).trans hr.out⟩⟩
 case round =>
  obtain⟨rfl,k,rfl,hR⟩:=hrel;rcases Nat.lt_or_ge k 15 with hk|hk
  ·have hcell:=hK.out.2 k hk;have hst:=aJL s.data.toList k hk;have h2:=hR.out.2;rw[hst]at h2
   cases hb:inB s.data.toList (bO.getD k [])with
   | true =>
    rw[hb,if_pos rfl]at h2
    have HB:Hid (inB s.data.toList (iN k).data.toList=true):=hb;have H2:=hid h2;clear h2 hst hb;go_wp2_with (go_at_call 69;refine(lY s (iN k) true HB (uG k) _).mono ?_;rintro e w' ⟨rfl,rfl⟩)
    go_ret;refine⟨?_,hK.out.1⟩;rw[←H2.out];rfl
   | false =>
    rw[hb,if_neg (by simp)]at h2
    have HB:Hid (inB s.data.toList (iN k).data.toList=false):=hb;have H2:=hid h2;clear h2 hst hb;go_wp2_with (go_at_call 69;refine(lY s (iN k) false HB (uG k) _).mono ?_;rintro e w' ⟨rfl,rfl⟩)
    go_round
    case rel=>exact⟨rfl,k+1,by go_num,⟨hk,H2.out⟩⟩
    case measure=>simp[intOf];omega
  ·have hz:r=0:=by
    have h2:=hR.out.2;have:k=15:=by have:=hR.out.1;omega
    subst this;rw[←h2];rfl
   have HZ:=hid hz;clear hz;go_wp2
   go_ret;refine⟨?_,hK.out.1⟩;rw[HZ.out];rfl
theorem wO (s:ByteArray)(w:World):Calls Tryz.prog 25 #[.string s] w fun e w'=>e=.returned (.int .i64 (cH s.data.toList:Nat))∧Below w.heap.size w w':=aF9 s _ (hid rfl) w
open Go.RowKit
def aKT (s:ByteArray)(n:Int):Prop:=∀w,Calls Tryz.prog 25 #[.string s] w fun e w'=>e=.returned (.int .i64 n)∧Below w.heap.size w w'
end Go.Proofs.YtcfgbdhpcboikaaGreatDoor
