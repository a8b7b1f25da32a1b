/-
The document's Numeral: which texts are numerals.
-/
import Derived.Test.YtcfgbdhpcboikaaGreatDoorNumD
namespace Go.Proofs.YtcfgbdhpcboikaaGreatDoor
open Go.Lib (hid)
set_option maxHeartbeats 4000000
set_option maxRecDepth 100000
open Go.RowKit
def xJ (l:List UInt8)(j:Nat):Bool:=if digs (l.drop j)=0 then false else decide (j+digs (l.drop j)=l.length)
def pC (l:List UInt8)(i:Nat):Bool:=if l[i]?=some 101∨l[i]?=some 69 then xJ l (if l[i+1]?=some 43∨l[i+1]?=some 45 then i+1+1 else i+1)else decide (i=l.length)
def xW (l:List UInt8)(i0 i1:Nat):Bool :=
 if l[i1]?=some 46 then if digs (l.drop (i1+1))=0 then false else pC l (i1+1+digs (l.drop (i1+1)))else if i1=i0 then false else pC l i1
theorem vN (l:List UInt8)(i:Nat):(l.drop i).head?=l[i]?:=List.head?_drop
theorem aLS (l:List UInt8)(i:Nat)(hi:i≤l.length):mC (l.drop i)=xJ l (if l[i]?=some 43∨l[i]?=some 45 then i+1 else i):=by
 have key:∀j,j≤l.length→(!(l.drop j).isEmpty&&digs (l.drop j)==(l.drop j).length)=xJ l j:=by
  intro j hj;have hd:=gT (l.drop j);rw[List.length_drop]at hd
  unfold xJ;by_cases h0:digs (l.drop j)=0
  ·rw[if_pos h0,h0];cases hh:l.drop j with
   | nil=>rfl
   | cons a t=>simp
  ·rw[if_neg h0];have hne:(l.drop j).isEmpty=false:=by
    cases hh:l.drop j with
    | nil=>rw[hh]at h0;exact absurd rfl h0
    | cons a t=>rfl
   rw[hne,Bool.not_false,Bool.true_and,List.length_drop,Bool.eq_iff_iff,beq_iff_eq,decide_eq_true_eq];omega
 unfold mC;simp only[vN];by_cases h:l[i]?=some 43∨l[i]?=some 45
 ·rw[if_pos h,if_pos h,List.drop_drop];refine key _ ?_;have:i<l.length:=by
   refine Nat.lt_of_not_le fun hh=>?_
   rw[List.getElem?_eq_none hh]at h
   rcases h with h|h<;>cases h
  exact this
 ·rw[if_neg h,if_neg h];exact key _ hi
theorem aE9 (n:Nat)(l:List UInt8)(i:Nat)(hi:i≤l.length):iF n (l.drop i)=if n=0 then false else pC l i:=by
 unfold iF pC;by_cases h0:n=0
 ·rw[if_pos h0,if_pos h0]
 ·rw[if_neg h0,if_neg h0,vN];by_cases he:l.drop i=[]
  ·have hl:l.length≤i:=by simpa using he
   rw[if_pos he,if_neg (by rw[List.getElem?_eq_none hl];simp),decide_eq_true (by omega)]
  ·have hl:i<l.length:=by
    refine Nat.lt_of_not_le fun hh=>he ?_
    exact List.drop_eq_nil_of_le hh
   rw[if_neg he];by_cases h:l[i]?=some 101∨l[i]?=some 69
   ·rw[if_pos h,if_pos h,List.drop_drop,aLS l (i+1) hl]
   ·rw[if_neg h,if_neg h,decide_eq_false (by omega)]
theorem aE8 (l:List UInt8)(i:Nat)(hi:i≤l.length):pE (l.drop i)=xW l i (i+digs (l.drop i)):=by
 have hd:=gT (l.drop i);rw[List.length_drop]at hd
 unfold pE xW;simp only[List.drop_drop,vN];by_cases h:l[i+digs (l.drop i)]?=some 46
 ·rw[if_pos h,if_pos h];have hl:i+digs (l.drop i)<l.length:=by
   refine Nat.lt_of_not_le fun hh=>?_
   rw[List.getElem?_eq_none hh]at h
   cases h
  have hd2:=gT (l.drop (i+digs (l.drop i)+1));rw[List.length_drop]at hd2
  by_cases h2:digs (l.drop (i+digs (l.drop i)+1))=0
  ·rw[if_pos h2,if_pos h2]
  ·rw[if_neg h2,if_neg h2,←Nat.add_assoc,aE9 _ l _ (by omega),if_neg (by omega)]
 ·rw[if_neg h,if_neg h,aE9 _ l _ (by omega)];by_cases h2:digs (l.drop i)=0
  ·rw[if_pos h2,if_pos (by omega)]
  ·rw[if_neg h2,if_neg (by omega)]
theorem aLU (l:List UInt8)(h:¬ 40<l.length):bR l=xW l (if l[0]?=some 45 then 1 else 0) ((if l[0]?=some 45 then 1 else 0)+digs (l.drop (if l[0]?=some 45 then 1 else 0))):=by
 have e:l.head?=l[0]?:=by rw[←vN];rfl
 unfold bR;rw[if_neg h,e];by_cases h2:l[0]?=some 45
 ·rw[if_pos h2,if_pos h2];refine aE8 l 1 ?_;cases l with
  | nil=>cases h2
  | cons a t=>simp
 ·rw[if_neg h2,if_neg h2];exact aE8 l 0 (Nat.zero_le _)
theorem aG8 (l:List UInt8)(k:Nat)(h:k<digs l):∃h2:k<l.length,aD l[k]=true:=by
 have hl:=gT l;refine⟨by omega,?_⟩;have e:l.take (digs l)=l.takeWhile aD:=by
  unfold digs;exact(List.prefix_iff_eq_take.1 (List.takeWhile_prefix aD)).symm
 have h3:k<(l.takeWhile aD).length:=h;have h4:(l.takeWhile aD)[k]=l[k]:=by
  have:=List.takeWhile_prefix (l:=l) aD;exact this.getElem h3
 have:=List.all_eq_true.1 (List.all_takeWhile (l:=l) (p:=aD)) _ (List.getElem_mem h3);rw[h4]at this
 exact this
theorem aJq (l:List UInt8)(h:digs l<l.length):aD l[digs l]=false:=by
 cases hd:aD l[digs l]with
 | false=>rfl
 | true =>
  have:=uB l (digs l) h (Nat.le_refl _) hd;omega
theorem aG7 (l:List UInt8)(i n:Nat)(hn:digs (l.drop i)=n):(∀k (h:k<l.length),i≤k→k<i+n→aD l[k]=true)∧∀h:i+n<l.length,aD l[i+n]=false:=by
 subst hn;refine⟨fun k h h1 h2=>?_,fun h=>?_⟩
 ·obtain⟨h3,h4⟩:=aG8 (l.drop i) (k-i) (by omega);rw[List.getElem_drop]at h4
  have e:i+(k-i)=k:=by omega
  simp only[e]at h4;exact h4
 ·have:=aJq (l.drop i) (by rw[List.length_drop];omega);rw[List.getElem_drop]at this
  exact this
theorem yC {a b:Int}(h:a=b):Ending.returned (.int .i64 a)=.returned (.int .i64 b):=by rw[h]
theorem aKo (s:ByteArray)(i:Nat)(hi:i≤s.size)(hs:s.size≤1000)(w:World):Calls Tryz.prog 223 #[.string s,.int .i64 i] w fun e w'=>e=.returned (.int .i64 ((i:Int)+(digs (s.data.toList.drop i):Nat)))∧w=w':=by
 have hlen:s.data.toList.length=s.size:=(aP s).symm;obtain⟨n,hn⟩:∃n,digs (s.data.toList.drop i)=n:=⟨_,rfl⟩
 have hd:=gT (s.data.toList.drop i);rw[List.length_drop,hlen,hn]at hd
 have HN:=hid hn;have HD:=hid hd;have HFR:=hid (aG7 s.data.toList i n hn);rw[hn];clear hn hd hlen;go_enter Tryz.func223,Tryz.ntmps223
 go_wp2
 go_loop [1] (fun v=>∃k:Nat,v=.int .i64 k∧Hid (i≤k∧k≤i+n)) (fun v=>i+n-(intOf v).toNat)
 case atStart=>exact⟨i,rfl,hid ⟨Nat.le_refl _,Nat.le_add_right _ _⟩⟩
 case round =>
  obtain⟨k,rfl,hR⟩:=hrel;have h1:=hR.out.1;have h2:=hR.out.2;rcases Nat.lt_or_ge k (i+n)with h|h
  ·have hk:k<s.size:=by have:=HD.out;omega
   have hd:aD s[k]=true:=HFR.out.1 k hk h1 h;unfold aD at hd;simp only[Bool.and_eq_true,decide_eq_true_eq]at hd;have c1:(48:Int)≤s[k].toNat:=by omega
   have c2:(s[k].toNat:Int)≤57:=by omega
   clear hd;go_wp2
   go_round
   case rel=>exact⟨k+1,by go_num,hid ⟨by omega,h⟩⟩
   case measure=>simp[intOf];omega
  ·obtain rfl:k=i+n:=by omega
   have hend:(i+n=s.size)∨∃h:i+n<s.size,aD (s[i+n])=false:=by
    rcases Nat.lt_or_ge (i+n) s.size with h5|h5
    ·exact .inr ⟨h5,HFR.out.2 h5⟩
    ·left;have:=HD.out;omega
   have e9:((i+n:Nat):Int)=(i:Int)+n:=by omega
   rcases hend with h5|⟨h5,h6⟩
   ·have h7:¬(((i+n:Nat):Int)<s.size):=by omega
    clear h5;go_wp2
    go_ret;exact⟨yC e9,rfl⟩
   ·unfold aD at h6;rw[Bool.and_eq_false_iff,decide_eq_false_iff_not,decide_eq_false_iff_not]at h6
    rcases h6 with h6|h6
    ·have c1:¬((48:Int)≤s[i+n].toNat):=by omega
     go_wp2
     go_ret;exact⟨yC e9,rfl⟩
    ·have c1:((48:Int)≤s[i+n].toNat):=by omega
     have c2:¬((s[i+n].toNat:Int)≤57):=by omega
     go_wp2
     go_ret;exact⟨yC e9,rfl⟩
theorem pG (s:ByteArray)(k:Nat):(s.size≤k∧∀c,¬s.data.toList[k]?=some c)∨∃h:k<s.size,∀c:UInt8,s.data.toList[k]?=some c↔s[k]=c:=by
 rcases Nat.lt_or_ge k s.size with h|h
 ·right;refine⟨h,fun c=>?_⟩;have e:s.data.toList[k]?=some s[k]:=List.getElem?_eq_getElem (l:=s.data.toList) (i:=k) h;rw[e,Option.some.injEq]
 ·left;refine⟨h,fun c hc=>?_⟩;have:s.data.toList[k]?=none:=List.getElem?_eq_none h;rw[this]at hc
  cases hc
theorem mU {s:ByteArray}{k:Nat}{c:UInt8}(h:s.data.toList[k]?=some c):k+1≤s.size:=by
 rcases pG s k with⟨_,p⟩|⟨p,_⟩
 ·exact absurd h (p c)
 ·exact p
theorem mWx {a b:Bool}(h:a=b):Ending.returned (.bool a)=.returned (.bool b):=by rw[h]
theorem oN {x c:UInt8}{n:Int}(hn:n=c.toNat)(h:x=c):((x.toNat:Int)==n)=true:=by rw[hn,h];exact beq_self_eq_true _
theorem oO {x c:UInt8}{n:Int}(hn:n=c.toNat)(h:¬x=c):((x.toNat:Int)==n)=false:=by
 rw[beq_eq_false_iff_ne,hn];intro e;exact h (UInt8.toNat_inj.1 (by omega))
theorem pI (s:ByteArray)(ms:s.size≤maxLen)(w:World):Calls Tryz.prog 193 #[.string s] w fun e w'=>e=.returned (.bool (bR s.data.toList))∧w=w':=by
 have hlen:s.data.toList.length=s.size:=(aP s).symm;by_cases h40:40<s.size
 ·have hb:bR s.data.toList=false:=by unfold bR;rw[if_pos (by rw[hlen];exact h40)]
  have HB:=hid hb;clear hb hlen;unfold maxLen at ms;go_enter Tryz.func193,Tryz.ntmps193
  go_wp2
  go_ret;exact⟨by rw[HB.out];rfl,rfl⟩
 ·have HN:=hid (aLU s.data.toList (by rw[hlen];exact h40));have HL:=hid hlen;have HDL:Hid (∀k,digs (s.data.toList.drop k)≤s.size-k):=fun k=>by have:=gT (s.data.toList.drop k);rw[List.length_drop,hlen]at this;exact this
  have h41:s.size≤40:=by omega
  have HSK:=hid (fun k hk w=>aKo s k hk (by omega) w);clear hlen ms h40;go_enter Tryz.func193,Tryz.ntmps193
  go_upto_region 4 with fail
  go_cut [18] (fun b wx=>b=.bool (decide (s.data.toList[0]?=some 45))∧w=wx)
  case first =>
   rcases pG s (0)with⟨p1,p2⟩|⟨p1,p2⟩
   ·have HP:=hid (p2 45);clear p2;go_wp2
    go_meet
    case rel=>exact⟨by rw[decide_eq_false HP.out],rfl⟩
   ·by_cases hc:s[0]=45
    ·have c1:=oN (n:=45) rfl hc;have HP:=hid ((p2 45).2 hc);clear p2 hc;go_wp2
     go_meet
     case rel=>exact⟨by rw[decide_eq_true HP.out],rfl⟩
    ·have c1:=oO (n:=45) rfl hc;have HP:=hid (fun h=>hc ((p2 45).1 h));clear p2 hc;go_wp2
     go_meet
     case rel=>exact⟨by rw[decide_eq_false HP.out],rfl⟩
  case rest =>
   obtain⟨rfl,rfl⟩:=hcut;go_upto_if 18 with fail
   go_cut [3] (fun i wx=>∃k:Nat,i=.int .i64 k∧w=wx∧Hid (k≤s.size∧bR s.data.toList=xW s.data.toList k (k+digs (s.data.toList.drop k))))
   case first =>
    by_cases hc:s.data.toList[0]?=some 45
    ·have HP:=hid hc;have hd:=decide_eq_true hc;clear hc;go_wp2
     go_meet
     case rel=>exact⟨1,rfl,rfl,hid ⟨mU HP.out,by rw[HN.out,if_pos HP.out]⟩⟩
    ·have HP:=hid hc;have hd:=decide_eq_false hc;clear hc;go_wp2
     go_meet
     case rel=>exact⟨0,rfl,rfl,hid ⟨Nat.zero_le _,by rw[HN.out,if_neg HP.out]⟩⟩
   case rest =>
    obtain⟨k,rfl,rfl,hK⟩:=hcut;have h1:=hK.out.1;have hkd:=HDL.out k;have HQ:=hid (fun w=>HSK.out k h1 w);have HKK:=hid hK.out.2;clear hK;generalize digs (s.data.toList.drop k)=d at *
    obtain⟨i1,hi1⟩:∃i1,i1=k+d:=⟨_,rfl⟩
    rw[←hi1]at HKK
    have e9:(k:Int)+(d:Int)=(i1:Int):=by omega
    have hz:(i1:Int)-(k:Int)=(d:Int):=by omega
    have HK1:Hid (i1≤s.size∧i1=k+d):=hid ⟨by omega,hi1⟩;have hd9:(d:Int)≤40:=by omega
    have hi9:(i1:Int)≤40:=by omega
    clear hi1 hkd;go_upto_region 9 with(go_at_call 223;refine(HQ.out _).mono ?_;rintro e w' ⟨rfl,rfl⟩)
    go_cut [37] (fun b wx=>b=.bool (decide (s.data.toList[i1]?=some 46))∧w=wx)
    case first =>
     rcases pG s (i1)with⟨p1,p2⟩|⟨p1,p2⟩
     ·have HP:=hid (p2 46);clear p2;go_wp2
      go_meet
      case rel=>exact⟨by rw[decide_eq_false HP.out],rfl⟩
     ·by_cases hc:s[i1]=46
      ·have c1:=oN (n:=46) rfl hc;have HP:=hid ((p2 46).2 hc);clear p2 hc;go_wp2
       go_meet
       case rel=>exact⟨by rw[decide_eq_true HP.out],rfl⟩
      ·have c1:=oO (n:=46) rfl hc;have HP:=hid (fun h=>hc ((p2 46).1 h));clear p2 hc;go_wp2
       go_meet
       case rel=>exact⟨by rw[decide_eq_false HP.out],rfl⟩
    case rest =>
     obtain⟨rfl,rfl⟩:=hcut;go_upto_if 37 with fail
     go_cut [3,5] (fun i n wx=>∃k n2:Nat,i=.int .i64 k∧n=.int .i64 n2∧w=wx∧Hid (k≤s.size∧bR s.data.toList=if n2=0 then false else pC s.data.toList k))
     case first =>
      have HJ:Hid (bR s.data.toList=xW s.data.toList k i1):=HKK;by_cases hc:s.data.toList[i1]?=some 46
      ·have HP:=hid hc;have hd:=decide_eq_true hc;have hl:i1+1≤s.size:=mU hc;have hkd:=HDL.out (i1+1);have HQ2:=hid (fun w=>HSK.out (i1+1) hl w);have HZ:Hid (bR s.data.toList=if digs (s.data.toList.drop (i1+1))=0 then false else pC s.data.toList (i1+1+digs (s.data.toList.drop (i1+1)))):=hid (by rw[HJ.out];unfold xW;rw[if_pos HP.out]);clear hc;generalize digs (s.data.toList.drop (i1+1))=d2 at *
       obtain⟨i2,hi2⟩:∃i2,i2=i1+1:=⟨_,rfl⟩
       obtain⟨i3,hi3⟩:∃i3,i3=i2+d2:=⟨_,rfl⟩
       rw[←hi2]at hkd HQ2 HZ
       rw[←hi3]at HZ
       have f1:(i1:Int)+1=(i2:Int):=by omega
       have f2:(i2:Int)+(d2:Int)=(i3:Int):=by omega
       have HI:Hid (i3≤s.size∧i3=i2+d2):=hid ⟨by omega,hi3⟩;have g1:(d2:Int)≤40:=by omega
       have g2:(i2:Int)≤40:=by omega
       have g3:(i3:Int)≤40:=by omega
       have g4:(d:Int)+(i3:Int)≤100:=by omega
       have g5:-100≤(d:Int)+(i3:Int)-(i2:Int):=by omega
       have g6:(d:Int)+(i3:Int)-(i2:Int)≤100:=by omega
       clear hi2 hi3 hkd hl;by_cases h0:d2=0
       ·have c0:((i3:Int)==(i2:Int))=true:=by rw[beq_iff_eq];have:=HI.out.2;omega
        have HF:Hid (bR s.data.toList=false):=hid (by rw[HZ.out,if_pos h0]);clear h0;go_wp2_with (go_at_call 223;refine(HQ2.out _).mono ?_;rintro e w' ⟨rfl,rfl⟩)
        go_ret;exact⟨by rw[HF.out];rfl,rfl⟩
       ·have c0:((i3:Int)==(i2:Int))=false:=by rw[beq_eq_false_iff_ne];have:=HI.out.2;omega
        have HF:Hid (bR s.data.toList=pC s.data.toList i3):=hid (by rw[HZ.out,if_neg h0]);have HD0:Hid (d2≠0):=h0;clear h0;go_wp2_with (go_at_call 223;refine(HQ2.out _).mono ?_;rintro e w' ⟨rfl,rfl⟩)
        go_meet
        case rel=>exact⟨i3,d+d2,rfl,by have:=HI.out.2;congr 1;omega,rfl,hid ⟨HI.out.1,by rw[HF.out,if_neg (by have:=HD0.out;omega)]⟩⟩
      ·have HP:=hid hc;have hd:=decide_eq_false hc;have HF:Hid (bR s.data.toList=if d=0 then false else pC s.data.toList i1):=by
        show _=_;rw[HJ.out];unfold xW;rw[if_neg HP.out];have:=HK1.out.2;by_cases h0:d=0
        ·rw[if_pos h0,if_pos (by omega)]
        ·rw[if_neg h0,if_neg (by omega)]
       clear hc;go_wp2
       go_meet
       case rel=>exact⟨i1,d,rfl,rfl,rfl,hid ⟨HK1.out.1,HF.out⟩⟩
     case rest =>
      obtain⟨k2,n2,rfl,rfl,rfl,hK2⟩:=hcut;have hk2:=hK2.out.1;have HE:=hid hK2.out.2;clear hK2;by_cases h0:n2=0
      ·have c0:((n2:Int)==0)=true:=by rw[h0];rfl
       have HF:Hid (bR s.data.toList=false):=hid (by rw[HE.out,if_pos h0]);clear h0;go_wp2
       go_ret;exact⟨by rw[HF.out];rfl,rfl⟩
      ·have c0:((n2:Int)==0)=false:=by rw[beq_eq_false_iff_ne];omega
       have HF:Hid (bR s.data.toList=pC s.data.toList k2):=hid (by rw[HE.out,if_neg h0]);clear h0 HE;have hk9:(k2:Int)≤40:=by omega
       go_upto_region 18 with fail
       go_cut [69] (fun b wx=>b=.bool (decide (s.data.toList[k2]?=some 101∨s.data.toList[k2]?=some 69))∧w=wx)
       case first =>
        rcases pG s (k2)with⟨p1,p2⟩|⟨p1,p2⟩
        ·have HP:=hid (not_or.2 ⟨p2 101,p2 69⟩);clear p2;go_wp2
         go_meet
         case rel=>exact⟨by rw[decide_eq_false HP.out],rfl⟩
        ·by_cases hc:s[k2]=101
         ·have c1:=oN (n:=101) rfl hc;have HP:Hid (s.data.toList[k2]?=some 101∨s.data.toList[k2]?=some 69):=hid (.inl ((p2 101).2 hc));clear p2 hc;go_wp2
          go_meet
          case rel=>exact⟨by rw[decide_eq_true HP.out],rfl⟩
         ·have c1:=oO (n:=101) rfl hc;by_cases hd:s[k2]=69
          ·have c2:=oN (n:=69) rfl hd;have HP:Hid (s.data.toList[k2]?=some 101∨s.data.toList[k2]?=some 69):=hid (.inr ((p2 69).2 hd));clear p2 hc hd;go_wp2
           go_meet
           case rel=>exact⟨by rw[decide_eq_true HP.out],rfl⟩
          ·have c2:=oO (n:=69) rfl hd;have HP:=hid (not_or.2 ⟨fun h=>hc ((p2 101).1 h),fun h=>hd ((p2 69).1 h)⟩);clear p2 hc hd;go_wp2
           go_meet
           case rel=>exact⟨by rw[decide_eq_false HP.out],rfl⟩
       case rest =>
        obtain⟨rfl,rfl⟩:=hcut;go_upto_if 69 with fail
        go_cut [3] (fun i wx=>∃k3:Nat,i=.int .i64 k3∧w=wx∧Hid (bR s.data.toList=decide (k3=s.size)))
        case first =>
         by_cases hc:s.data.toList[k2]?=some 101∨s.data.toList[k2]?=some 69
         ·have HP:=hid hc;have hd:=decide_eq_true hc;have hl:k2+1≤s.size:=hc.elim mU mU;obtain⟨k4,hk4⟩:∃k4,k4=k2+1:=⟨_,rfl⟩
          have f1:(k2:Int)+1=(k4:Int):=by omega
          have HZ:Hid (bR s.data.toList=xJ s.data.toList (if s.data.toList[k4]?=some 43∨s.data.toList[k4]?=some 45 then k4+1 else k4)):=by
           show _=_;rw[HF.out];unfold pC;rw[if_pos HP.out,←hk4]
          have hl4:k4≤s.size:=by omega
          have hk49:(k4:Int)≤40:=by omega
          clear hc hk4 hl;go_upto_region 20 with fail
          go_cut [87] (fun b wx=>b=.bool (decide (s.data.toList[k4]?=some 43∨s.data.toList[k4]?=some 45))∧w=wx)
          case first =>
           rcases pG s (k4)with⟨p1,p2⟩|⟨p1,p2⟩
           ·have HP:=hid (not_or.2 ⟨p2 43,p2 45⟩);clear p2;go_wp2
            go_meet
            case rel=>exact⟨by rw[decide_eq_false HP.out],rfl⟩
           ·by_cases hc:s[k4]=43
            ·have c1:=oN (n:=43) rfl hc;have HP:Hid (s.data.toList[k4]?=some 43∨s.data.toList[k4]?=some 45):=hid (.inl ((p2 43).2 hc));clear p2 hc;go_wp2
             go_meet
             case rel=>exact⟨by rw[decide_eq_true HP.out],rfl⟩
            ·have c1:=oO (n:=43) rfl hc;by_cases hd:s[k4]=45
             ·have c2:=oN (n:=45) rfl hd;have HP:Hid (s.data.toList[k4]?=some 43∨s.data.toList[k4]?=some 45):=hid (.inr ((p2 45).2 hd));clear p2 hc hd;go_wp2
              go_meet
              case rel=>exact⟨by rw[decide_eq_true HP.out],rfl⟩
             ·have c2:=oO (n:=45) rfl hd;have HP:=hid (not_or.2 ⟨fun h=>hc ((p2 43).1 h),fun h=>hd ((p2 45).1 h)⟩);clear p2 hc hd;go_wp2
              go_meet
              case rel=>exact⟨by rw[decide_eq_false HP.out],rfl⟩
          case rest =>
           obtain⟨rfl,rfl⟩:=hcut;go_upto_if 87 with fail
           go_cut [3] (fun i wx=>∃j:Nat,i=.int .i64 j∧w=wx∧Hid (j≤s.size∧bR s.data.toList=xJ s.data.toList j))
           case first =>
            by_cases hc:s.data.toList[k4]?=some 43∨s.data.toList[k4]?=some 45
            ·have HP:=hid hc;have hd:=decide_eq_true hc;clear hc;go_wp2
             go_meet
             case rel=>exact⟨k4+1,by go_num,rfl,hid ⟨HP.out.elim mU mU,by rw[HZ.out,if_pos HP.out]⟩⟩
            ·have HP:=hid hc;have hd:=decide_eq_false hc;clear hc;go_wp2
             go_meet
             case rel=>exact⟨k4,rfl,rfl,hid ⟨hl4,by rw[HZ.out,if_neg HP.out]⟩⟩
           case rest =>
            obtain⟨j,rfl,rfl,hJ⟩:=hcut;have hj:=hJ.out.1;have hjd:=HDL.out j;have HQ3:=hid (fun w=>HSK.out j hj w);have HY:=hid hJ.out.2;clear hJ;unfold xJ at HY;rw[HL.out]at HY
            generalize digs (s.data.toList.drop j)=d3 at *
            obtain⟨k5,hk5⟩:∃k5,k5=j+d3:=⟨_,rfl⟩
            rw[←hk5]at HY
            have f2:(j:Int)+(d3:Int)=(k5:Int):=by omega
            have hk59:(k5:Int)≤40:=by omega
            by_cases h0:d3=0
            ·have c0:((k5:Int)==(j:Int))=true:=by rw[beq_iff_eq];omega
             have HF2:Hid (bR s.data.toList=false):=hid (by rw[HY.out,if_pos h0]);clear h0 hk5 hjd;go_wp2_with (go_at_call 223;refine(HQ3.out _).mono ?_;rintro e w' ⟨rfl,rfl⟩)
             go_ret;exact⟨by rw[HF2.out];rfl,rfl⟩
            ·have c0:((k5:Int)==(j:Int))=false:=by rw[beq_eq_false_iff_ne];omega
             have HF2:Hid (bR s.data.toList=decide (k5=s.size)):=hid (by rw[HY.out,if_neg h0]);clear h0 hk5 hjd;go_wp2_with (go_at_call 223;refine(HQ3.out _).mono ?_;rintro e w' ⟨rfl,rfl⟩)
             go_meet
             case rel=>exact⟨k5,rfl,rfl,HF2⟩
         ·have HP:=hid hc;have hd:=decide_eq_false hc;have HF2:Hid (bR s.data.toList=decide (k2=s.size)):=by
           show _=_;rw[HF.out];unfold pC;rw[if_neg HP.out,HL.out]
          clear hc;go_wp2
          go_meet
          case rel=>exact⟨k2,rfl,rfl,HF2⟩
        case rest =>
         obtain⟨k3,rfl,rfl,hK3⟩:=hcut;go_wp2
         go_ret;refine⟨?_,rfl⟩;rw[hK3.out];exact mWx (by rw[Bool.eq_iff_iff,beq_iff_eq,decide_eq_true_eq];omega)
end Go.Proofs.YtcfgbdhpcboikaaGreatDoor
