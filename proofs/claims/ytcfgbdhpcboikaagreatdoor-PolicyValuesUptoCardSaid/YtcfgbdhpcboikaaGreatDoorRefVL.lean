/-
The document's Value: its walk, over what it calls (printed by wip/gen/refvl.py).
-/
import Derived.Test.YtcfgbdhpcboikaaGreatDoorFormV
namespace Go.Proofs.YtcfgbdhpcboikaaGreatDoor
open Go.Lib (hid)
set_option maxHeartbeats 8000000
set_option maxRecDepth 100000
open Go.RowKit
theorem oA {a w v:World}(h:Go.RowKit.Hid (Go.RowKit.Below a.heap.size a w))(b:Go.RowKit.Below w.heap.size w v):Go.RowKit.Hid (Go.RowKit.Below a.heap.size a v):=hid (h.out.trans (b.mono h.out.size))
def vH (s:ByteArray)(w:World)(e:Ending)(w':World):Prop:=e=.returned (.string s)∧Below w.heap.size w w'
def oY (b:Bool)(w:World)(e:Ending)(w':World):Prop:=e=.returned (.bool b)∧w=w'
def nL (s:ByteArray)(b:Bool)(w:World)(e:Ending)(w':World):Prop:=e=.returned (.tuple #[.string s,.bool b])∧Below w.heap.size w w'
theorem aDM (c:UInt8):(rI c=true∧97≤(aW c).toNat∧(aW c).toNat≤122)∨(rI c=false∧¬(97≤(aW c).toNat∧(aW c).toNat≤122)∧(aW c).toNat=c.toNat):=by
 have h:=oL c;unfold rI;simp only[Bool.or_eq_true,Bool.and_eq_true,decide_eq_true_eq,Bool.or_eq_false_iff,Bool.and_eq_false_iff,decide_eq_false_iff_not];split at h<;>omega
theorem aEj (c:UInt8)(k d:Nat)(h:(aW c).toNat=d):nA c k=((decide (97≤d)&&decide (d≤122))||(decide (0<k)&&(decide (d=45)||(decide (48≤d)&&decide (d≤57))))):=by
 subst h;unfold nA;rcases aDM c with⟨h1,h2,h3⟩|⟨h1,h2,h3⟩
 ·rw[h1,decide_eq_true h2,decide_eq_true h3];rfl
 ·rw[h1,h3];have:(decide (97≤c.toNat)&&decide (c.toNat≤122))=false:=by
   rw[h3]at h2
   simp only[Bool.and_eq_false_iff,decide_eq_false_iff_not];omega
  rw[this]
structure iC (v:ByteArray) (k:Nat) (b:Bool):Prop where
 le:k≤v.size
 iff:b=true↔(1≤v.size∧v.size≤16)∧∀j (h:j<v.data.toList.length),j<k→nA v.data.toList[j] j=true
theorem iC.start (v:ByteArray)(b:Bool)(h:b=true↔1≤v.size∧v.size≤16):iC v 0 b:=⟨Nat.zero_le _,by rw[h];exact⟨fun x=>⟨x,fun j _ hj=>absurd hj (by omega)⟩,fun x=>x.1⟩⟩
theorem iC.next {v:ByteArray}{k:Nat}{b:Bool}(h:iC v k b)(hk:k<v.size):iC v (k+1) (b&&nA v[k] k):=by
 have e:v.data.toList[k]'hk=v[k]:=rfl;refine⟨hk,?_⟩;rw[Bool.and_eq_true,h.iff];constructor
 ·rintro⟨⟨h1,h2⟩,h3⟩;refine⟨h1,fun j hj hjk=>?_⟩;rcases Nat.lt_or_ge j k with h4|h4
  ·exact h2 j hj h4
  ·obtain rfl:j=k:=by omega
   rw[e];exact h3
 ·rintro⟨h1,h2⟩;exact⟨⟨h1,fun j hj hjk=>h2 j hj (by omega)⟩,by have:=h2 k hk (by omega);rwa[e]at this⟩
theorem iC.done {v:ByteArray}{k:Nat}{b ok:Bool}(h:iC v k b)(hk:v.size≤k)(ho:ok=true↔kQ v):b=ok:=by
 rw[Bool.eq_iff_iff,h.iff,ho];unfold kQ vO;have e:v.data.toList.length=v.size:=rfl;exact⟨fun x=>⟨fun j hj=>x.2 j hj (by omega),x.1.1,x.1.2⟩,fun x=>⟨x.2,fun j hj _=>x.1 j hj⟩⟩
theorem iC.no {v:ByteArray}{k:Nat}(h:iC v k false)(hk:k<v.size):iC v (k+1) false:=h.next hk
theorem iC.yes {v:ByteArray}{k d:Nat}(h:iC v k true)(hk:k<v.size)(hd:(aW v[k]).toNat=d)(c:Bool)(hc:((decide (97≤d)&&decide (d≤122))||(decide (0<k)&&(decide (d=45)||(decide (48≤d)&&decide (d≤57)))))=c):iC v (k+1) c:=by
 have:=h.next hk;rw[aEj _ k d hd,hc,Bool.true_and]at this
 exact this
theorem aEx (e n v s:ByteArray)(hv:v.size≤1048576)(ok:Bool)(o:Option ByteArray)(k:Nat)(h2:2≤k)(h14:((k:Int)==14)=false)(w:World)(HT:Hid (aA w))(HK:Hid (aKT e k))
  (xT xA xG xD xR xS xH xB xC xM xL yI yA yO yK yE yM:Bool)
  (fxT:(n.toList==[116,105,116,108,101])=xT)
  (fxA:(n.toList==[97,108,116])=xA)
  (fxG:(n.toList==[108,97,110,103])=xG)
  (fxD:(n.toList==[100,105,114])=xD)
  (fxR:(n.toList==[104,114,101,102])=xR)
  (fxS:(n.toList==[115,114,99])=xS)
  (fxH:Hid (∀W,Calls Tryz.prog 69 #[.string n,.string ⟨#[104,101,105,103,104,116,32,119,105,100,116,104]⟩] W (oY xH W)))
  (fxB:(n.toList==[115,116,97,114,116])=xB)
  (fxC:Hid (∀W,Calls Tryz.prog 69 #[.string n,.string ⟨#[99,111,108,115,112,97,110,32,114,111,119,115,112,97,110]⟩] W (oY xC W)))
  (fxM:Hid (∀W,Calls Tryz.prog 69 #[.string n,.string ⟨#[109,97,120,32,118,97,108,117,101]⟩] W (oY xM W)))
  (fxL:Hid (∀W,Calls Tryz.prog 69 #[.string n,.string ⟨#[104,105,103,104,32,108,111,119,32,109,105,110]⟩] W (oY xL W)))
  (fyI:(e.toList==[105,109,103])=yI)
  (fyA:(e.toList==[97])=yA)
  (fyO:(e.toList==[111,108])=yO)
  (fyK:((k:Int)==13)=yK)
  (fyE:Hid (∀W,Calls Tryz.prog 69 #[.string e,.string ⟨#[109,101,116,101,114,32,112,114,111,103,114,101,115,115]⟩] W (oY yE W)))
  (fyM:(e.toList==[109,101,116,101,114])=yM)
  (hE:Hid (ok=true→∀W,Calls Tryz.prog 96 #[.string s,.bool true] W (vH (fC s) W)))
  (hO:(ok=false∧o=none)∨(ok=true∧120<(fC s).size∧o=none)∨(ok=true∧(fC s).size≤120∧o=some s))
  (hc:(xT=true∧(Hid (∀W,Calls Tryz.prog 33 #[.string v] W (vH s W))∧ok=true)) ∨
   (xT=false∧xA=true∧yI=true∧(Hid (∀W,Calls Tryz.prog 33 #[.string v] W (vH s W))∧ok=true)) ∨
   (xT=false∧xA=true∧yI=false∧xG=false∧xD=false∧xR=false∧xS=false∧xH=false∧xB=false∧xC=false∧xM=false∧xL=false∧(v=s∧ok=false)) ∨
   (xT=false∧xA=false∧xG=true∧(v=s∧Hid (ok=true↔kQ v))) ∨
   (xT=false∧xA=false∧xG=false∧xD=true∧(Hid (∀W,Calls Tryz.prog 74 #[.string v] W (vH s W))∧Hid (∀W,Calls Tryz.prog 69 #[.string s,.string ⟨#[97,117,116,111,32,108,116,114,32,114,116,108]⟩] W (oY ok W)))) ∨
   (xT=false∧xA=false∧xG=false∧xD=false∧xR=true∧yA=true∧(Hid (∀W,Calls Tryz.prog 93 #[.string v,.string ⟨#[104,116,116,112,32,104,116,116,112,115,32,109,97,105,108,116,111]⟩] W (nL s ok W)))) ∨
   (xT=false∧xA=false∧xG=false∧xD=false∧xR=true∧yA=false∧xS=false∧xH=false∧xB=false∧xC=false∧xM=false∧xL=false∧(v=s∧ok=false)) ∨
   (xT=false∧xA=false∧xG=false∧xD=false∧xR=false∧xS=true∧yI=true∧(Hid (∀W,Calls Tryz.prog 93 #[.string v,.string ⟨#[104,116,116,112,32,104,116,116,112,115]⟩] W (nL s ok W)))) ∨
   (xT=false∧xA=false∧xG=false∧xD=false∧xR=false∧xS=true∧yI=false∧xH=false∧xB=false∧xC=false∧xM=false∧xL=false∧(v=s∧ok=false)) ∨
   (xT=false∧xA=false∧xG=false∧xD=false∧xR=false∧xS=false∧xH=true∧yI=true∧(v=s∧∃x:Int,Hid (∀W,Calls Tryz.prog 94 #[.string v,.int .i64 0,.int .i64 9999] W (fun e w'=>e=.returned (.tuple #[.int .i64 x,.bool ok])∧W=w')))) ∨
   (xT=false∧xA=false∧xG=false∧xD=false∧xR=false∧xS=false∧xH=true∧yI=false∧xB=false∧xC=false∧xM=false∧xL=false∧(v=s∧ok=false)) ∨
   (xT=false∧xA=false∧xG=false∧xD=false∧xR=false∧xS=false∧xH=false∧xB=true∧yO=true∧(v=s∧∃x:Int,Hid (∀W,Calls Tryz.prog 94 #[.string v,.int .i64 0,.int .i64 999999] W (fun e w'=>e=.returned (.tuple #[.int .i64 x,.bool ok])∧W=w')))) ∨
   (xT=false∧xA=false∧xG=false∧xD=false∧xR=false∧xS=false∧xH=false∧xB=true∧yO=false∧xC=false∧xM=false∧xL=false∧(v=s∧ok=false)) ∨
   (xT=false∧xA=false∧xG=false∧xD=false∧xR=false∧xS=false∧xH=false∧xB=false∧xC=true∧yK=true∧(v=s∧∃x:Int,Hid (∀W,Calls Tryz.prog 94 #[.string v,.int .i64 1,.int .i64 1000] W (fun e w'=>e=.returned (.tuple #[.int .i64 x,.bool ok])∧W=w')))) ∨
   (xT=false∧xA=false∧xG=false∧xD=false∧xR=false∧xS=false∧xH=false∧xB=false∧xC=true∧yK=false∧xM=false∧xL=false∧(v=s∧ok=false)) ∨
   (xT=false∧xA=false∧xG=false∧xD=false∧xR=false∧xS=false∧xH=false∧xB=false∧xC=false∧xM=true∧yE=true∧(Hid (∀W,aA W→Calls Tryz.prog 95 #[.string v] W (nL s ok W)))) ∨
   (xT=false∧xA=false∧xG=false∧xD=false∧xR=false∧xS=false∧xH=false∧xB=false∧xC=false∧xM=true∧yE=false∧xL=false∧(v=s∧ok=false)) ∨
   (xT=false∧xA=false∧xG=false∧xD=false∧xR=false∧xS=false∧xH=false∧xB=false∧xC=false∧xM=false∧xL=true∧yM=true∧(Hid (∀W,aA W→Calls Tryz.prog 95 #[.string v] W (nL s ok W)))) ∨
   (xT=false∧xA=false∧xG=false∧xD=false∧xR=false∧xS=false∧xH=false∧xB=false∧xC=false∧xM=false∧xL=true∧yM=false∧(v=s∧ok=false)) ∨
   (xT=false∧xA=false∧xG=false∧xD=false∧xR=false∧xS=false∧xH=false∧xB=false∧xC=false∧xM=false∧xL=false∧(v=s∧ok=false))) :
  Calls Tryz.prog 44 #[.string e,.string n,.string v] w fun x w'=>x=.returned (fU o)∧Below w.heap.size w w':=by
 have HO:=hid hO;have l2:decide ((k:Int)<2)=false:=by simp;omega
 have HHO:Hid (ok=false∨ok=true):=by cases ok<;>simp[Hid]
 have HC:=hid hc;clear hO hc;go_enter Tryz.func44,Tryz.ntmps44
 go_wp2_with fail
 refine(HK.out _).mono ?_;rintro x W1 ⟨rfl,B1⟩;have HB1:=hid B1;have HT1:=hid (HT.out.below B1 (Nat.le_refl _));clear B1;go_upto_block 0 with fail
 go_cut [9,10] (fun a b wx=>a=.string s∧b=.bool ok∧Hid (Below w.heap.size w wx))
 case first =>
  have hc:=HC.out;clear HC;rcases hc with⟨rfl,HP⟩|⟨rfl,rfl,rfl,HP⟩|⟨rfl,rfl,rfl,rfl,rfl,rfl,rfl,rfl,rfl,rfl,rfl,rfl,HP⟩|⟨rfl,rfl,rfl,HP⟩|⟨rfl,rfl,rfl,rfl,HP⟩|⟨rfl,rfl,rfl,rfl,rfl,rfl,HP⟩|⟨rfl,rfl,rfl,rfl,rfl,rfl,rfl,rfl,rfl,rfl,rfl,rfl,HP⟩|⟨rfl,rfl,rfl,rfl,rfl,rfl,rfl,HP⟩|⟨rfl,rfl,rfl,rfl,rfl,rfl,rfl,rfl,rfl,rfl,rfl,rfl,HP⟩|⟨rfl,rfl,rfl,rfl,rfl,rfl,rfl,rfl,HP⟩|⟨rfl,rfl,rfl,rfl,rfl,rfl,rfl,rfl,rfl,rfl,rfl,rfl,HP⟩|⟨rfl,rfl,rfl,rfl,rfl,rfl,rfl,rfl,rfl,HP⟩|⟨rfl,rfl,rfl,rfl,rfl,rfl,rfl,rfl,rfl,rfl,rfl,rfl,HP⟩|⟨rfl,rfl,rfl,rfl,rfl,rfl,rfl,rfl,rfl,rfl,HP⟩|⟨rfl,rfl,rfl,rfl,rfl,rfl,rfl,rfl,rfl,rfl,rfl,rfl,HP⟩|⟨rfl,rfl,rfl,rfl,rfl,rfl,rfl,rfl,rfl,rfl,rfl,HP⟩|⟨rfl,rfl,rfl,rfl,rfl,rfl,rfl,rfl,rfl,rfl,rfl,rfl,HP⟩|⟨rfl,rfl,rfl,rfl,rfl,rfl,rfl,rfl,rfl,rfl,rfl,rfl,HP⟩|⟨rfl,rfl,rfl,rfl,rfl,rfl,rfl,rfl,rfl,rfl,rfl,rfl,HP⟩|⟨rfl,rfl,rfl,rfl,rfl,rfl,rfl,rfl,rfl,rfl,rfl,HP⟩
  ·obtain⟨HP,rfl⟩:=HP;go_wp2_with fail
   refine(HP.out _).mono ?_;rintro x W2 ⟨rfl,B2⟩;have HB2:=oA HB1 B2;clear B2;go_wp2_with fail
   go_meet
   case rel=>exact⟨rfl,rfl,HB2⟩
  ·obtain⟨HP,rfl⟩:=HP;go_wp2_with fail
   refine(HP.out _).mono ?_;rintro x W2 ⟨rfl,B2⟩;have HB2:=oA HB1 B2;clear B2;go_wp2_with fail
   go_meet
   case rel=>exact⟨rfl,rfl,HB2⟩
  ·obtain⟨rfl,rfl⟩:=HP;go_wp2_with (go_at_call 69;(first|(with_reducible refine(fxH.out _).mono ?_)|(with_reducible refine(fxC.out _).mono ?_)|(with_reducible refine(fxM.out _).mono ?_)|(with_reducible refine(fxL.out _).mono ?_)|(with_reducible refine(fyE.out _).mono ?_));rintro x w' ⟨rfl,rfl⟩)
   go_meet
   case rel=>exact⟨rfl,rfl,HB1⟩
  ·obtain⟨rfl,HP⟩:=HP;have hsz:v.size=0∨(1≤v.size∧v.size≤16)∨16<v.size:=by omega
   obtain⟨b0,hb0⟩:∃b0:Bool,b0=(decide (1≤v.size)&&decide (v.size≤16)):=⟨_,rfl⟩
   have HS:=hid (iC.start v b0 (by rw[hb0];simp));go_upto_region 11 with fail
   go_cut [10] (fun b wx=>b=.bool b0∧wx=W1)
   case first =>
    rcases hsz with h|⟨h,h'⟩|h
    ·have hz:b0=false:=by rw[hb0,Bool.and_eq_false_iff,decide_eq_false_iff_not,decide_eq_false_iff_not];omega
     clear hb0;subst hz;have q1:decide ((0:Int)<(v.size:Int))=false:=decide_eq_false (by omega);go_wp2_with fail
     go_meet
     case rel=>exact⟨rfl,rfl⟩
    ·have hz:b0=true:=by rw[hb0,Bool.and_eq_true,decide_eq_true_eq,decide_eq_true_eq];omega
     clear hb0;subst hz;have q1:decide ((0:Int)<(v.size:Int))=true:=decide_eq_true (by omega);have q2:decide ((v.size:Int)≤16)=true:=decide_eq_true (by omega);go_wp2_with fail
     go_meet
     case rel=>exact⟨rfl,rfl⟩
    ·have hz:b0=false:=by rw[hb0,Bool.and_eq_false_iff,decide_eq_false_iff_not,decide_eq_false_iff_not];omega
     clear hb0;subst hz;have q1:decide ((0:Int)<(v.size:Int))=true:=decide_eq_true (by omega);have q2:decide ((v.size:Int)≤16)=false:=decide_eq_false (by omega);go_wp2_with fail
     go_meet
     case rel=>exact⟨rfl,rfl⟩
   case rest =>
    obtain⟨rfl,rfl⟩:=hcut;clear hb0 hsz;go_wp2_with fail
    go_loop [10,11,12,13] (fun b i _ _=>∃(q:Nat) (c:Bool),b=.bool c∧i=.int .i64 q∧Hid (iC v q c)) (fun _ i _ _=>v.size-(intOf i).toNat)
    case atStart=>exact⟨0,b0,rfl,rfl,HS⟩
    case round =>
     obtain⟨q,c,rfl,rfl,hR⟩:=hrel;rcases Nat.lt_or_ge q v.size with hlt|hge
     ·obtain⟨d,hd⟩:∃d,(aW v[q]).toNat=d:=⟨_,rfl⟩
      have HD:=hid hd;have hd8:d<256:=by rw[←hd];exact(aW v[q]).toNat_lt
      cases c with
      | false =>
       have HF:=hid (hR.out.no hlt);clear hd hR;have hcs:(97≤d∧d≤122)∨d<97∨122<d:=by omega
       rcases hcs with⟨h,h'⟩|h|h
       all_goals
        go_wp2_with (go_at_call 73;refine(aY _ _ HD _).mono ?_;rintro x w' ⟨rfl,rfl⟩)
        go_round
        case rel=>exact⟨q+1,false,rfl,by go_num,HF⟩
        case measure=>simp[intOf];omega
      | true =>
       have HY:=hid (fun c=>hR.out.yes hlt hd c);clear hd hR;have hcs:(97≤d∧d≤122)∨122<d∨(57<d∧d<97)∨(48≤d∧d≤57)∨(45<d∧d<48)∨d=45∨d<45:=by omega
       rcases Nat.eq_zero_or_pos q with hq|hq
       ·subst hq;rcases hcs with⟨h,h'⟩|h|⟨h,h'⟩|⟨h,h'⟩|⟨h,h'⟩|rfl|h
        all_goals
         try first|have t0:decide ((97:Int)≤(d:Int))=true:=decide_eq_true (by omega)|have t0:decide ((97:Int)≤(d:Int))=false:=decide_eq_false (by omega)
         try first|have t1:decide ((d:Int)≤122)=true:=decide_eq_true (by omega)|have t1:decide ((d:Int)≤122)=false:=decide_eq_false (by omega)
         try first|have t2:decide ((48:Int)≤(d:Int))=true:=decide_eq_true (by omega)|have t2:decide ((48:Int)≤(d:Int))=false:=decide_eq_false (by omega)
         try first|have t3:decide ((d:Int)≤57)=true:=decide_eq_true (by omega)|have t3:decide ((d:Int)≤57)=false:=decide_eq_false (by omega)
         first
         |have HF:=hid (HY.out true (by simp<;>omega))
          go_wp2_with (go_at_call 73;refine(aY _ _ HD _).mono ?_;rintro x w' ⟨rfl,rfl⟩)
          go_round
          case rel=>exact⟨1,true,rfl,by go_num,HF⟩
          case measure=>simp[intOf];omega
         |have HF:=hid (HY.out false (by simp<;>omega))
          go_wp2_with (go_at_call 73;refine(aY _ _ HD _).mono ?_;rintro x w' ⟨rfl,rfl⟩)
          go_round
          case rel=>exact⟨1,false,rfl,by go_num,HF⟩
          case measure=>simp[intOf];omega
       ·have q1:decide ((0:Int)<(q:Int))=true:=decide_eq_true (by omega);rcases hcs with⟨h,h'⟩|h|⟨h,h'⟩|⟨h,h'⟩|⟨h,h'⟩|rfl|h
        all_goals
         try first|have t0:decide ((97:Int)≤(d:Int))=true:=decide_eq_true (by omega)|have t0:decide ((97:Int)≤(d:Int))=false:=decide_eq_false (by omega)
         try first|have t1:decide ((d:Int)≤122)=true:=decide_eq_true (by omega)|have t1:decide ((d:Int)≤122)=false:=decide_eq_false (by omega)
         try first|have t2:decide ((48:Int)≤(d:Int))=true:=decide_eq_true (by omega)|have t2:decide ((48:Int)≤(d:Int))=false:=decide_eq_false (by omega)
         try first|have t3:decide ((d:Int)≤57)=true:=decide_eq_true (by omega)|have t3:decide ((d:Int)≤57)=false:=decide_eq_false (by omega)
         try have t45:((d:Int)==45)=false:=by rw[beq_eq_false_iff_ne];omega
         first
         |have HF:=hid (HY.out true (by simp<;>omega))
          go_wp2_with (go_at_call 73;refine(aY _ _ HD _).mono ?_;rintro x w' ⟨rfl,rfl⟩)
          go_round
          case rel=>exact⟨q+1,true,rfl,by go_num,HF⟩
          case measure=>simp[intOf];omega
         |have HF:=hid (HY.out false (by simp<;>omega))
          go_wp2_with (go_at_call 73;refine(aY _ _ HD _).mono ?_;rintro x w' ⟨rfl,rfl⟩)
          go_round
          case rel=>exact⟨q+1,false,rfl,by go_num,HF⟩
          case measure=>simp[intOf];omega
     ·obtain rfl:c=ok:=hR.out.done hge HP.out;go_wp2_with fail
      go_meet
      case rel=>exact⟨rfl,rfl,HB1⟩
  ·obtain⟨HP,HQ⟩:=HP;go_wp2_with fail
   refine(HP.out _).mono ?_;rintro x W2 ⟨rfl,B2⟩;have HB2:=oA HB1 B2;clear B2;go_wp2_with fail
   refine(HQ.out _).mono ?_;rintro x W3 ⟨rfl,rfl⟩;go_wp2_with fail
   go_meet
   case rel=>exact⟨rfl,rfl,HB2⟩
  ·go_wp2_with fail
   refine(HP.out _).mono ?_;rintro x W2 ⟨rfl,B2⟩;have HB2:=oA HB1 B2;clear B2;go_wp2_with fail
   go_meet
   case rel=>exact⟨rfl,rfl,HB2⟩
  ·obtain⟨rfl,rfl⟩:=HP;go_wp2_with (go_at_call 69;(first|(with_reducible refine(fxH.out _).mono ?_)|(with_reducible refine(fxC.out _).mono ?_)|(with_reducible refine(fxM.out _).mono ?_)|(with_reducible refine(fxL.out _).mono ?_)|(with_reducible refine(fyE.out _).mono ?_));rintro x w' ⟨rfl,rfl⟩)
   go_meet
   case rel=>exact⟨rfl,rfl,HB1⟩
  ·go_wp2_with fail
   refine(HP.out _).mono ?_;rintro x W2 ⟨rfl,B2⟩;have HB2:=oA HB1 B2;clear B2;go_wp2_with fail
   go_meet
   case rel=>exact⟨rfl,rfl,HB2⟩
  ·obtain⟨rfl,rfl⟩:=HP;go_wp2_with (go_at_call 69;(first|(with_reducible refine(fxH.out _).mono ?_)|(with_reducible refine(fxC.out _).mono ?_)|(with_reducible refine(fxM.out _).mono ?_)|(with_reducible refine(fxL.out _).mono ?_)|(with_reducible refine(fyE.out _).mono ?_));rintro x w' ⟨rfl,rfl⟩)
   go_meet
   case rel=>exact⟨rfl,rfl,HB1⟩
  ·obtain⟨rfl,z,HP⟩:=HP;go_wp2_with (go_at_call 69;(first|(with_reducible refine(fxH.out _).mono ?_)|(with_reducible refine(fxC.out _).mono ?_)|(with_reducible refine(fxM.out _).mono ?_)|(with_reducible refine(fxL.out _).mono ?_)|(with_reducible refine(fyE.out _).mono ?_));rintro x w' ⟨rfl,rfl⟩)
   refine(HP.out _).mono ?_;rintro x W2 ⟨rfl,rfl⟩;go_wp2_with fail
   go_meet
   case rel=>exact⟨rfl,rfl,HB1⟩
  ·obtain⟨rfl,rfl⟩:=HP;go_wp2_with (go_at_call 69;(first|(with_reducible refine(fxH.out _).mono ?_)|(with_reducible refine(fxC.out _).mono ?_)|(with_reducible refine(fxM.out _).mono ?_)|(with_reducible refine(fxL.out _).mono ?_)|(with_reducible refine(fyE.out _).mono ?_));rintro x w' ⟨rfl,rfl⟩)
   go_meet
   case rel=>exact⟨rfl,rfl,HB1⟩
  ·obtain⟨rfl,z,HP⟩:=HP;go_wp2_with (go_at_call 69;(first|(with_reducible refine(fxH.out _).mono ?_)|(with_reducible refine(fxC.out _).mono ?_)|(with_reducible refine(fxM.out _).mono ?_)|(with_reducible refine(fxL.out _).mono ?_)|(with_reducible refine(fyE.out _).mono ?_));rintro x w' ⟨rfl,rfl⟩)
   refine(HP.out _).mono ?_;rintro x W2 ⟨rfl,rfl⟩;go_wp2_with fail
   go_meet
   case rel=>exact⟨rfl,rfl,HB1⟩
  ·obtain⟨rfl,rfl⟩:=HP;go_wp2_with (go_at_call 69;(first|(with_reducible refine(fxH.out _).mono ?_)|(with_reducible refine(fxC.out _).mono ?_)|(with_reducible refine(fxM.out _).mono ?_)|(with_reducible refine(fxL.out _).mono ?_)|(with_reducible refine(fyE.out _).mono ?_));rintro x w' ⟨rfl,rfl⟩)
   go_meet
   case rel=>exact⟨rfl,rfl,HB1⟩
  ·obtain⟨rfl,z,HP⟩:=HP;go_wp2_with (go_at_call 69;(first|(with_reducible refine(fxH.out _).mono ?_)|(with_reducible refine(fxC.out _).mono ?_)|(with_reducible refine(fxM.out _).mono ?_)|(with_reducible refine(fxL.out _).mono ?_)|(with_reducible refine(fyE.out _).mono ?_));rintro x w' ⟨rfl,rfl⟩)
   refine(HP.out _).mono ?_;rintro x W2 ⟨rfl,rfl⟩;go_wp2_with fail
   go_meet
   case rel=>exact⟨rfl,rfl,HB1⟩
  ·obtain⟨rfl,rfl⟩:=HP;go_wp2_with (go_at_call 69;(first|(with_reducible refine(fxH.out _).mono ?_)|(with_reducible refine(fxC.out _).mono ?_)|(with_reducible refine(fxM.out _).mono ?_)|(with_reducible refine(fxL.out _).mono ?_)|(with_reducible refine(fyE.out _).mono ?_));rintro x w' ⟨rfl,rfl⟩)
   go_meet
   case rel=>exact⟨rfl,rfl,HB1⟩
  ·go_wp2_with (go_at_call 69;(first|(with_reducible refine(fxH.out _).mono ?_)|(with_reducible refine(fxC.out _).mono ?_)|(with_reducible refine(fxM.out _).mono ?_)|(with_reducible refine(fxL.out _).mono ?_)|(with_reducible refine(fyE.out _).mono ?_));rintro x w' ⟨rfl,rfl⟩)
   refine(HP.out _ HT1.out).mono ?_;rintro x W2 ⟨rfl,B2⟩;have HB2:=oA HB1 B2;clear B2;go_wp2_with fail
   go_meet
   case rel=>exact⟨rfl,rfl,HB2⟩
  ·obtain⟨rfl,rfl⟩:=HP;go_wp2_with (go_at_call 69;(first|(with_reducible refine(fxH.out _).mono ?_)|(with_reducible refine(fxC.out _).mono ?_)|(with_reducible refine(fxM.out _).mono ?_)|(with_reducible refine(fxL.out _).mono ?_)|(with_reducible refine(fyE.out _).mono ?_));rintro x w' ⟨rfl,rfl⟩)
   go_meet
   case rel=>exact⟨rfl,rfl,HB1⟩
  ·go_wp2_with (go_at_call 69;(first|(with_reducible refine(fxH.out _).mono ?_)|(with_reducible refine(fxC.out _).mono ?_)|(with_reducible refine(fxM.out _).mono ?_)|(with_reducible refine(fxL.out _).mono ?_)|(with_reducible refine(fyE.out _).mono ?_));rintro x w' ⟨rfl,rfl⟩)
   refine(HP.out _ HT1.out).mono ?_;rintro x W2 ⟨rfl,B2⟩;have HB2:=oA HB1 B2;clear B2;go_wp2_with fail
   go_meet
   case rel=>exact⟨rfl,rfl,HB2⟩
  ·obtain⟨rfl,rfl⟩:=HP;go_wp2_with (go_at_call 69;(first|(with_reducible refine(fxH.out _).mono ?_)|(with_reducible refine(fxC.out _).mono ?_)|(with_reducible refine(fxM.out _).mono ?_)|(with_reducible refine(fxL.out _).mono ?_)|(with_reducible refine(fyE.out _).mono ?_));rintro x w' ⟨rfl,rfl⟩)
   go_meet
   case rel=>exact⟨rfl,rfl,HB1⟩
  ·obtain⟨rfl,rfl⟩:=HP;go_wp2_with (go_at_call 69;(first|(with_reducible refine(fxH.out _).mono ?_)|(with_reducible refine(fxC.out _).mono ?_)|(with_reducible refine(fxM.out _).mono ?_)|(with_reducible refine(fxL.out _).mono ?_)|(with_reducible refine(fyE.out _).mono ?_));rintro x w' ⟨rfl,rfl⟩)
   go_meet
   case rel=>exact⟨rfl,rfl,HB1⟩
 case rest =>
  obtain⟨rfl,rfl,HBc⟩:=hcut;rcases HO.out with⟨rfl,rfl⟩|⟨rfl,h1,rfl⟩|⟨rfl,h1,rfl⟩
  ·go_wp2
   go_ret2;exact⟨rfl,HBc.out⟩
  ·go_wp2_with fail
   refine(hE.out (by trivial) _).mono ?_;rintro x W2 ⟨rfl,B2⟩;have HB2:=oA HBc B2;clear B2;have l1:decide ((120:Int)<((fC s).size:Int))=true:=by simp;omega
   go_wp2
   go_ret2;exact⟨rfl,HB2.out⟩
  ·go_wp2_with fail
   refine(hE.out (by trivial) _).mono ?_;rintro x W2 ⟨rfl,B2⟩;have HB2:=oA HBc B2;clear B2;have l1:decide ((120:Int)<((fC s).size:Int))=false:=by simp;omega
   go_wp2
   go_ret2;exact⟨rfl,HB2.out⟩
end Go.Proofs.YtcfgbdhpcboikaaGreatDoor
