/-
The document's Value: its walk, over what it calls (printed by wip/gen/refvl.py).
-/
import Derived.Test.YtcfgbdhpcboikaaGreatDoorRefPA
namespace Go.Proofs.YtcfgbdhpcboikaaGreatDoor
set_option maxHeartbeats 8000000
set_option maxRecDepth 100000
open Go.RowKit
theorem qU {a w v:H}(h:G (Go.RowKit.Below a.heap.size a w))(b:Go.RowKit.Below w.heap.size w v):G (Go.RowKit.Below a.heap.size a v):=Z (h.o.trans (b.mono h.o.size))
def zW (s:I)(w:H)(e:Ending)(w':H):Prop:=e=.returned (.string s)/\Below w.heap.size w w'
def sE (b:Bool)(w:H)(e:Ending)(w':H):Prop:=e=.returned (.bool b)/\w=w'
def qC (s:I)(b:Bool)(w:H)(e:Ending)(w':H):Prop:=e=.returned (.tuple #[.string s,.bool b])/\Below w.heap.size w w'
theorem aFX (c:UInt8):(uW c=true/\97<=(bD c).toNat/\(bD c).toNat<=122)\/(uW c=false/\¬(97<=(bD c).toNat/\(bD c).toNat<=122)/\(bD c).toNat=c.toNat):=by
 have h:=rH c;unfold uW;simp only[la,bp,bi,te,i6,gq];split at h<;>omega
theorem aGp (c:UInt8)(k d:Nat)(h:(bD c).toNat=d):pP c k=((decide (97<=d)&&decide (d<=122))||(decide (0<k)&&(decide (d=45)||(decide (48<=d)&&decide (d<=57))))):=by
 subst h;unfold pP;rcases aFX c with⟨b,e,a⟩|⟨b,e,a⟩;{rw[b,bt e,bt a];rfl};{rw[b,a];have:(decide (97<=c.toNat)&&decide (c.toNat<=122))=false:=by{rw[a]at e;simp only[i6,gq];omega};rw[this]}
structure jS (v:I) (k:Nat) (b:Bool):Prop where
 le:k<=v.size
 iff:b=true↔(1<=v.size/\v.size<=16)/\∀j (h:j<v.data.toList.length),j<k->pP v.data.toList[j] j=true
theorem jS.start (v:I)(b:Bool)(h:b=true↔1<=v.size/\v.size<=16):jS v 0 b:=⟨bb _,by rw[h];exact⟨fun x=>⟨x,fun j _ a=>absurd a (by omega)⟩,fun x=>x.1⟩⟩
theorem jS.next {v:I}{k:Nat}{b:Bool}(h:jS v k b)(f:k<v.size):jS v (k+1) (b&&pP v[k] k):=by
 have e:v.data.toList[k]'f=v[k]:=rfl;refine⟨f,?_⟩;rw[bp,h.iff];constructor;{rintro⟨⟨c,a⟩,i⟩;refine⟨c,fun j d l=>?_⟩;rcases ak j k with g|g;{exact a j d g};{obtain rfl:j=k:=by{omega};rw[e];exact i}};{rintro⟨c,a⟩;exact⟨⟨c,fun j d l=>a j d (by omega)⟩,by have:=a k f (by omega);rwa[e]at this⟩}
theorem jS.done {v:I}{k:Nat}{b ok:Bool}(h:jS v k b)(d:v.size<=k)(c:ok=true↔nA v):b=ok:=by
 rw[ay,h.iff,c];unfold nA aAe;have e:v.data.toList.length=v.size:=rfl;exact⟨fun x=>⟨fun j a=>x.2 j a (by omega),x.1.1,x.1.2⟩,fun x=>⟨x.2,fun j a _=>x.1 j a⟩⟩
theorem jS.no {v:I}{k:Nat}(h:jS v k false)(hk:k<v.size):jS v (k+1) false:=h.next hk
theorem jS.yes {v:I}{k d:Nat}(h:jS v k true)(hk:k<v.size)(hd:(bD v[k]).toNat=d)(c:Bool)(a:((decide (97<=d)&&decide (d<=122))||(decide (0<k)&&(decide (d=45)||(decide (48<=d)&&decide (d<=57)))))=c):jS v (k+1) c:=by
 have:=h.next hk;rw[aGp _ k d hd,a,jn]at this;exact this
theorem aGG (e n v s:I)(hv:v.size<=1048576)(ok:Bool)(o:Option I)(k:Nat)(h2:2<=k)(bd:((k:Int)==14)=false)(w:H)(HT:G (aA w))(HK:G (iE e k))
  (j m p r u y A J K L N T yA yO yK yE yM:Bool)
  (a4:(n.toList==[116,105,116,108,101])=j)
  (av:(n.toList==[97,108,116])=m)
  (a1:(n.toList==[108,97,110,103])=p)
  (a0:(n.toList==[100,105,114])=r)
  (a2:(n.toList==[104,114,101,102])=u)
  (a3:(n.toList==[115,114,99])=y)
  (C:G (∀W,Y 69 #[.string n,.string ⟨#[104,101,105,103,104,116,32,119,105,100,116,104]⟩] W (sE A W)))
  (aw:(n.toList==[115,116,97,114,116])=J)
  (B:G (∀W,Y 69 #[.string n,.string ⟨#[99,111,108,115,112,97,110,32,114,111,119,115,112,97,110]⟩] W (sE K W)))
  (E:G (∀W,Y 69 #[.string n,.string ⟨#[109,97,120,32,118,97,108,117,101]⟩] W (sE L W)))
  (D:G (∀W,Y 69 #[.string n,.string ⟨#[104,105,103,104,32,108,111,119,32,109,105,110]⟩] W (sE N W)))
  (a6:(e.toList==[105,109,103])=T)
  (a5:(e.toList==[97])=yA)
  (a9:(e.toList==[111,108])=yO)
  (a7:((k:Int)==13)=yK)
  (F:G (∀W,Y 69 #[.string e,.string ⟨#[109,101,116,101,114,32,112,114,111,103,114,101,115,115]⟩] W (sE yE W)))
  (a8:(e.toList==[109,101,116,101,114])=yM)
  (hE:G (ok=true->∀W,Y 96 #[.string s,.bool true] W (zW (gP s) W)))
  (hO:(ok=false/\o=none)\/(ok=true/\120<(gP s).size/\o=none)\/(ok=true/\(gP s).size<=120/\o=some s))
  (hc:(j=true/\(G (∀W,Y 33 #[.string v] W (zW s W))/\ok=true)) \/
   (j=false/\m=true/\T=true/\(G (∀W,Y 33 #[.string v] W (zW s W))/\ok=true)) \/
   (j=false/\m=true/\T=false/\p=false/\r=false/\u=false/\y=false/\A=false/\J=false/\K=false/\L=false/\N=false/\(v=s/\ok=false)) \/
   (j=false/\m=false/\p=true/\(v=s/\G (ok=true↔nA v))) \/
   (j=false/\m=false/\p=false/\r=true/\(G (∀W,Y 74 #[.string v] W (zW s W))/\G (∀W,Y 69 #[.string s,.string ⟨#[97,117,116,111,32,108,116,114,32,114,116,108]⟩] W (sE ok W)))) \/
   (j=false/\m=false/\p=false/\r=false/\u=true/\yA=true/\(G (∀W,Y 93 #[.string v,.string ⟨#[104,116,116,112,32,104,116,116,112,115,32,109,97,105,108,116,111]⟩] W (qC s ok W)))) \/
   (j=false/\m=false/\p=false/\r=false/\u=true/\yA=false/\y=false/\A=false/\J=false/\K=false/\L=false/\N=false/\(v=s/\ok=false)) \/
   (j=false/\m=false/\p=false/\r=false/\u=false/\y=true/\T=true/\(G (∀W,Y 93 #[.string v,.string ⟨#[104,116,116,112,32,104,116,116,112,115]⟩] W (qC s ok W)))) \/
   (j=false/\m=false/\p=false/\r=false/\u=false/\y=true/\T=false/\A=false/\J=false/\K=false/\L=false/\N=false/\(v=s/\ok=false)) \/
   (j=false/\m=false/\p=false/\r=false/\u=false/\y=false/\A=true/\T=true/\(v=s/\∃x:Int,G (∀W,Y 94 #[.string v,.int .i64 0,.int .i64 9999] W (fun e w'=>e=.returned (.tuple #[.int .i64 x,.bool ok])/\W=w')))) \/
   (j=false/\m=false/\p=false/\r=false/\u=false/\y=false/\A=true/\T=false/\J=false/\K=false/\L=false/\N=false/\(v=s/\ok=false)) \/
   (j=false/\m=false/\p=false/\r=false/\u=false/\y=false/\A=false/\J=true/\yO=true/\(v=s/\∃x:Int,G (∀W,Y 94 #[.string v,.int .i64 0,.int .i64 999999] W (fun e w'=>e=.returned (.tuple #[.int .i64 x,.bool ok])/\W=w')))) \/
   (j=false/\m=false/\p=false/\r=false/\u=false/\y=false/\A=false/\J=true/\yO=false/\K=false/\L=false/\N=false/\(v=s/\ok=false)) \/
   (j=false/\m=false/\p=false/\r=false/\u=false/\y=false/\A=false/\J=false/\K=true/\yK=true/\(v=s/\∃x:Int,G (∀W,Y 94 #[.string v,.int .i64 1,.int .i64 1000] W (fun e w'=>e=.returned (.tuple #[.int .i64 x,.bool ok])/\W=w')))) \/
   (j=false/\m=false/\p=false/\r=false/\u=false/\y=false/\A=false/\J=false/\K=true/\yK=false/\L=false/\N=false/\(v=s/\ok=false)) \/
   (j=false/\m=false/\p=false/\r=false/\u=false/\y=false/\A=false/\J=false/\K=false/\L=true/\yE=true/\(G (∀W,aA W->Y 95 #[.string v] W (qC s ok W)))) \/
   (j=false/\m=false/\p=false/\r=false/\u=false/\y=false/\A=false/\J=false/\K=false/\L=true/\yE=false/\N=false/\(v=s/\ok=false)) \/
   (j=false/\m=false/\p=false/\r=false/\u=false/\y=false/\A=false/\J=false/\K=false/\L=false/\N=true/\yM=true/\(G (∀W,aA W->Y 95 #[.string v] W (qC s ok W)))) \/
   (j=false/\m=false/\p=false/\r=false/\u=false/\y=false/\A=false/\J=false/\K=false/\L=false/\N=true/\yM=false/\(v=s/\ok=false)) \/
   (j=false/\m=false/\p=false/\r=false/\u=false/\y=false/\A=false/\J=false/\K=false/\L=false/\N=false/\(v=s/\ok=false))) :
  Y 44 #[.string e,.string n,.string v] w (O (kK o) w):=by
 have HO:=Z hO;have l2:decide ((k:Int)<2)=false:=by simp;omega
 have ao:G (ok=false\/ok=true):=by cases ok<;>simp[G]
 have HC:=Z hc;clear hO hc;go_enter Tryz.func44,Tryz.ntmps44
 go_wp2_with fail
 refine(HK.o _).mono ?_;rintro x W1 ⟨rfl,B1⟩;have l:=Z B1;have ac:=Z (HT.o.below B1 (ah _));clear B1;go_upto_block 0 with fail
 go_cut [9,10] (fun a b wx=>a=.string s/\b=.bool ok/\G (Below w.heap.size w wx))
 case first =>
  have hc:=HC.o;clear HC;rcases hc with⟨rfl,f⟩|⟨rfl,rfl,rfl,f⟩|⟨rfl,rfl,rfl,rfl,rfl,rfl,rfl,rfl,rfl,rfl,rfl,rfl,f⟩|⟨rfl,rfl,rfl,f⟩|⟨rfl,rfl,rfl,rfl,f⟩|⟨rfl,rfl,rfl,rfl,rfl,rfl,f⟩|⟨rfl,rfl,rfl,rfl,rfl,rfl,rfl,rfl,rfl,rfl,rfl,rfl,f⟩|⟨rfl,rfl,rfl,rfl,rfl,rfl,rfl,f⟩|⟨rfl,rfl,rfl,rfl,rfl,rfl,rfl,rfl,rfl,rfl,rfl,rfl,f⟩|⟨rfl,rfl,rfl,rfl,rfl,rfl,rfl,rfl,f⟩|⟨rfl,rfl,rfl,rfl,rfl,rfl,rfl,rfl,rfl,rfl,rfl,rfl,f⟩|⟨rfl,rfl,rfl,rfl,rfl,rfl,rfl,rfl,rfl,f⟩|⟨rfl,rfl,rfl,rfl,rfl,rfl,rfl,rfl,rfl,rfl,rfl,rfl,f⟩|⟨rfl,rfl,rfl,rfl,rfl,rfl,rfl,rfl,rfl,rfl,f⟩|⟨rfl,rfl,rfl,rfl,rfl,rfl,rfl,rfl,rfl,rfl,rfl,rfl,f⟩|⟨rfl,rfl,rfl,rfl,rfl,rfl,rfl,rfl,rfl,rfl,rfl,f⟩|⟨rfl,rfl,rfl,rfl,rfl,rfl,rfl,rfl,rfl,rfl,rfl,rfl,f⟩|⟨rfl,rfl,rfl,rfl,rfl,rfl,rfl,rfl,rfl,rfl,rfl,rfl,f⟩|⟨rfl,rfl,rfl,rfl,rfl,rfl,rfl,rfl,rfl,rfl,rfl,rfl,f⟩|⟨rfl,rfl,rfl,rfl,rfl,rfl,rfl,rfl,rfl,rfl,rfl,f⟩
  ·obtain⟨f,rfl⟩:=f;go_wp2_with fail
   refine(f.o _).mono ?_;rintro x M ⟨rfl,g⟩;have t:=qU l g;clear g;go_wp2_with fail
   go_meet
   case rel=>exact⟨rfl,rfl,t⟩
  ·obtain⟨f,rfl⟩:=f;go_wp2_with fail
   refine(f.o _).mono ?_;rintro x M ⟨rfl,g⟩;have t:=qU l g;clear g;go_wp2_with fail
   go_meet
   case rel=>exact⟨rfl,rfl,t⟩
  ·obtain⟨rfl,rfl⟩:=f;go_wp2_with (go_at_call 69;(first|(with_reducible refine(C.o _).mono ?_)|(with_reducible refine(B.o _).mono ?_)|(with_reducible refine(E.o _).mono ?_)|(with_reducible refine(D.o _).mono ?_)|(with_reducible refine(F.o _).mono ?_));rintro x w' ⟨rfl,rfl⟩)
   go_meet
   case rel=>exact⟨rfl,rfl,l⟩
  ·obtain⟨rfl,f⟩:=f;have al:v.size=0\/(1<=v.size/\v.size<=16)\/16<v.size:=by omega
   obtain⟨R,S⟩:∃R:Bool,R=(decide (1<=v.size)&&decide (v.size<=16)):=⟨_,rfl⟩
   have HS:=Z (jS.start v R (by rw[S];simp));go_upto_region 11 with fail
   go_cut [10] (fun b wx=>b=.bool R/\wx=W1)
   case first =>
    rcases al with h|⟨h,Q⟩|h
    ·have hz:R=false:=by rw[S,i6,gq,gq];omega
     clear S;subst hz;have q1:decide ((0:Int)<(v.size:Int))=false:=bo (by omega);go_wp2_with fail
     go_meet
     case rel=>exact⟨rfl,rfl⟩
    ·have hz:R=true:=by rw[S,bp,bi,bi];omega
     clear S;subst hz;have q1:decide ((0:Int)<(v.size:Int))=true:=bt (by omega);have q2:decide ((v.size:Int)<=16)=true:=bt (by omega);go_wp2_with fail
     go_meet
     case rel=>exact⟨rfl,rfl⟩
    ·have hz:R=false:=by rw[S,i6,gq,gq];omega
     clear S;subst hz;have q1:decide ((0:Int)<(v.size:Int))=true:=bt (by omega);have q2:decide ((v.size:Int)<=16)=false:=bo (by omega);go_wp2_with fail
     go_meet
     case rel=>exact⟨rfl,rfl⟩
   case rest =>
    obtain⟨rfl,rfl⟩:=hcut;clear S al;go_wp2_with fail
    go_loop [10,11,12,13] (fun b i _ _=>∃(q:Nat) (c:Bool),b=.bool c/\i=.int .i64 q/\G (jS v q c)) (fun _ i _ _=>v.size-(intOf i).toNat)
    case atStart=>exact⟨0,R,rfl,rfl,HS⟩
    case round =>
     obtain⟨q,c,rfl,rfl,X⟩:=hrel;rcases ak q v.size with ad|an
     ·obtain⟨d,hd⟩:∃d,(bD v[q]).toNat=d:=⟨_,rfl⟩
      have V:=Z hd;have be:d<256:=by rw[<-hd];exact(bD v[q]).toNat_lt
      cases c with
      | false =>
       have P:=Z (X.o.no ad);clear hd X;have aa:(97<=d/\d<=122)\/d<97\/122<d:=by omega
       rcases aa with⟨h,Q⟩|h|h
       all_goals
        go_wp2_with (go_at_call 73;refine(bE _ _ V _).mono ?_;rintro x w' ⟨rfl,rfl⟩)
        go_round
        case rel=>exact⟨q+1,false,rfl,by go_num,P⟩
        case measure=>simp[intOf];omega
      | true =>
       have HY:=Z (fun c=>X.o.yes ad hd c);clear hd X;have aa:(97<=d/\d<=122)\/122<d\/(57<d/\d<97)\/(48<=d/\d<=57)\/(45<d/\d<48)\/d=45\/d<45:=by omega
       rcases gp q with hq|hq
       ·subst hq;rcases aa with⟨h,Q⟩|h|⟨h,Q⟩|⟨h,Q⟩|⟨h,Q⟩|rfl|h
        all_goals
         try first|have t0:decide ((97:Int)<=(d:Int))=true:=bt (by omega)|have t0:decide ((97:Int)<=(d:Int))=false:=bo (by omega)
         try first|have t1:decide ((d:Int)<=122)=true:=bt (by omega)|have t1:decide ((d:Int)<=122)=false:=bo (by omega)
         try first|have t2:decide ((48:Int)<=(d:Int))=true:=bt (by omega)|have t2:decide ((48:Int)<=(d:Int))=false:=bo (by omega)
         try first|have t3:decide ((d:Int)<=57)=true:=bt (by omega)|have t3:decide ((d:Int)<=57)=false:=bo (by omega)
         first
         |have P:=Z (HY.o true (by simp<;>omega))
          go_wp2_with (go_at_call 73;refine(bE _ _ V _).mono ?_;rintro x w' ⟨rfl,rfl⟩)
          go_round
          case rel=>exact⟨1,true,rfl,by go_num,P⟩
          case measure=>simp[intOf];omega
         |have P:=Z (HY.o false (by simp<;>omega))
          go_wp2_with (go_at_call 73;refine(bE _ _ V _).mono ?_;rintro x w' ⟨rfl,rfl⟩)
          go_round
          case rel=>exact⟨1,false,rfl,by go_num,P⟩
          case measure=>simp[intOf];omega
       ·have q1:decide ((0:Int)<(q:Int))=true:=bt (by omega);rcases aa with⟨h,Q⟩|h|⟨h,Q⟩|⟨h,Q⟩|⟨h,Q⟩|rfl|h
        all_goals
         try first|have t0:decide ((97:Int)<=(d:Int))=true:=bt (by omega)|have t0:decide ((97:Int)<=(d:Int))=false:=bo (by omega)
         try first|have t1:decide ((d:Int)<=122)=true:=bt (by omega)|have t1:decide ((d:Int)<=122)=false:=bo (by omega)
         try first|have t2:decide ((48:Int)<=(d:Int))=true:=bt (by omega)|have t2:decide ((48:Int)<=(d:Int))=false:=bo (by omega)
         try first|have t3:decide ((d:Int)<=57)=true:=bt (by omega)|have t3:decide ((d:Int)<=57)=false:=bo (by omega)
         try have bf:((d:Int)==45)=false:=by rw[ai];omega
         first
         |have P:=Z (HY.o true (by simp<;>omega))
          go_wp2_with (go_at_call 73;refine(bE _ _ V _).mono ?_;rintro x w' ⟨rfl,rfl⟩)
          go_round
          case rel=>exact⟨q+1,true,rfl,by go_num,P⟩
          case measure=>simp[intOf];omega
         |have P:=Z (HY.o false (by simp<;>omega))
          go_wp2_with (go_at_call 73;refine(bE _ _ V _).mono ?_;rintro x w' ⟨rfl,rfl⟩)
          go_round
          case rel=>exact⟨q+1,false,rfl,by go_num,P⟩
          case measure=>simp[intOf];omega
     ·obtain rfl:c=ok:=X.o.done an f.o;go_wp2_with fail
      go_meet
      case rel=>exact⟨rfl,rfl,l⟩
  ·obtain⟨f,HQ⟩:=f;go_wp2_with fail
   refine(f.o _).mono ?_;rintro x M ⟨rfl,g⟩;have t:=qU l g;clear g;go_wp2_with fail
   refine(HQ.o _).mono ?_;rintro x W3 ⟨rfl,rfl⟩;go_wp2_with fail
   go_meet
   case rel=>exact⟨rfl,rfl,t⟩
  ·go_wp2_with fail
   refine(f.o _).mono ?_;rintro x M ⟨rfl,g⟩;have t:=qU l g;clear g;go_wp2_with fail
   go_meet
   case rel=>exact⟨rfl,rfl,t⟩
  ·obtain⟨rfl,rfl⟩:=f;go_wp2_with (go_at_call 69;(first|(with_reducible refine(C.o _).mono ?_)|(with_reducible refine(B.o _).mono ?_)|(with_reducible refine(E.o _).mono ?_)|(with_reducible refine(D.o _).mono ?_)|(with_reducible refine(F.o _).mono ?_));rintro x w' ⟨rfl,rfl⟩)
   go_meet
   case rel=>exact⟨rfl,rfl,l⟩
  ·go_wp2_with fail
   refine(f.o _).mono ?_;rintro x M ⟨rfl,g⟩;have t:=qU l g;clear g;go_wp2_with fail
   go_meet
   case rel=>exact⟨rfl,rfl,t⟩
  ·obtain⟨rfl,rfl⟩:=f;go_wp2_with (go_at_call 69;(first|(with_reducible refine(C.o _).mono ?_)|(with_reducible refine(B.o _).mono ?_)|(with_reducible refine(E.o _).mono ?_)|(with_reducible refine(D.o _).mono ?_)|(with_reducible refine(F.o _).mono ?_));rintro x w' ⟨rfl,rfl⟩)
   go_meet
   case rel=>exact⟨rfl,rfl,l⟩
  ·obtain⟨rfl,z,f⟩:=f;go_wp2_with (go_at_call 69;(first|(with_reducible refine(C.o _).mono ?_)|(with_reducible refine(B.o _).mono ?_)|(with_reducible refine(E.o _).mono ?_)|(with_reducible refine(D.o _).mono ?_)|(with_reducible refine(F.o _).mono ?_));rintro x w' ⟨rfl,rfl⟩)
   refine(f.o _).mono ?_;rintro x M ⟨rfl,rfl⟩;go_wp2_with fail
   go_meet
   case rel=>exact⟨rfl,rfl,l⟩
  ·obtain⟨rfl,rfl⟩:=f;go_wp2_with (go_at_call 69;(first|(with_reducible refine(C.o _).mono ?_)|(with_reducible refine(B.o _).mono ?_)|(with_reducible refine(E.o _).mono ?_)|(with_reducible refine(D.o _).mono ?_)|(with_reducible refine(F.o _).mono ?_));rintro x w' ⟨rfl,rfl⟩)
   go_meet
   case rel=>exact⟨rfl,rfl,l⟩
  ·obtain⟨rfl,z,f⟩:=f;go_wp2_with (go_at_call 69;(first|(with_reducible refine(C.o _).mono ?_)|(with_reducible refine(B.o _).mono ?_)|(with_reducible refine(E.o _).mono ?_)|(with_reducible refine(D.o _).mono ?_)|(with_reducible refine(F.o _).mono ?_));rintro x w' ⟨rfl,rfl⟩)
   refine(f.o _).mono ?_;rintro x M ⟨rfl,rfl⟩;go_wp2_with fail
   go_meet
   case rel=>exact⟨rfl,rfl,l⟩
  ·obtain⟨rfl,rfl⟩:=f;go_wp2_with (go_at_call 69;(first|(with_reducible refine(C.o _).mono ?_)|(with_reducible refine(B.o _).mono ?_)|(with_reducible refine(E.o _).mono ?_)|(with_reducible refine(D.o _).mono ?_)|(with_reducible refine(F.o _).mono ?_));rintro x w' ⟨rfl,rfl⟩)
   go_meet
   case rel=>exact⟨rfl,rfl,l⟩
  ·obtain⟨rfl,z,f⟩:=f;go_wp2_with (go_at_call 69;(first|(with_reducible refine(C.o _).mono ?_)|(with_reducible refine(B.o _).mono ?_)|(with_reducible refine(E.o _).mono ?_)|(with_reducible refine(D.o _).mono ?_)|(with_reducible refine(F.o _).mono ?_));rintro x w' ⟨rfl,rfl⟩)
   refine(f.o _).mono ?_;rintro x M ⟨rfl,rfl⟩;go_wp2_with fail
   go_meet
   case rel=>exact⟨rfl,rfl,l⟩
  ·obtain⟨rfl,rfl⟩:=f;go_wp2_with (go_at_call 69;(first|(with_reducible refine(C.o _).mono ?_)|(with_reducible refine(B.o _).mono ?_)|(with_reducible refine(E.o _).mono ?_)|(with_reducible refine(D.o _).mono ?_)|(with_reducible refine(F.o _).mono ?_));rintro x w' ⟨rfl,rfl⟩)
   go_meet
   case rel=>exact⟨rfl,rfl,l⟩
  ·go_wp2_with (go_at_call 69;(first|(with_reducible refine(C.o _).mono ?_)|(with_reducible refine(B.o _).mono ?_)|(with_reducible refine(E.o _).mono ?_)|(with_reducible refine(D.o _).mono ?_)|(with_reducible refine(F.o _).mono ?_));rintro x w' ⟨rfl,rfl⟩)
   refine(f.o _ ac.o).mono ?_;rintro x M ⟨rfl,g⟩;have t:=qU l g;clear g;go_wp2_with fail
   go_meet
   case rel=>exact⟨rfl,rfl,t⟩
  ·obtain⟨rfl,rfl⟩:=f;go_wp2_with (go_at_call 69;(first|(with_reducible refine(C.o _).mono ?_)|(with_reducible refine(B.o _).mono ?_)|(with_reducible refine(E.o _).mono ?_)|(with_reducible refine(D.o _).mono ?_)|(with_reducible refine(F.o _).mono ?_));rintro x w' ⟨rfl,rfl⟩)
   go_meet
   case rel=>exact⟨rfl,rfl,l⟩
  ·go_wp2_with (go_at_call 69;(first|(with_reducible refine(C.o _).mono ?_)|(with_reducible refine(B.o _).mono ?_)|(with_reducible refine(E.o _).mono ?_)|(with_reducible refine(D.o _).mono ?_)|(with_reducible refine(F.o _).mono ?_));rintro x w' ⟨rfl,rfl⟩)
   refine(f.o _ ac.o).mono ?_;rintro x M ⟨rfl,g⟩;have t:=qU l g;clear g;go_wp2_with fail
   go_meet
   case rel=>exact⟨rfl,rfl,t⟩
  ·obtain⟨rfl,rfl⟩:=f;go_wp2_with (go_at_call 69;(first|(with_reducible refine(C.o _).mono ?_)|(with_reducible refine(B.o _).mono ?_)|(with_reducible refine(E.o _).mono ?_)|(with_reducible refine(D.o _).mono ?_)|(with_reducible refine(F.o _).mono ?_));rintro x w' ⟨rfl,rfl⟩)
   go_meet
   case rel=>exact⟨rfl,rfl,l⟩
  ·obtain⟨rfl,rfl⟩:=f;go_wp2_with (go_at_call 69;(first|(with_reducible refine(C.o _).mono ?_)|(with_reducible refine(B.o _).mono ?_)|(with_reducible refine(E.o _).mono ?_)|(with_reducible refine(D.o _).mono ?_)|(with_reducible refine(F.o _).mono ?_));rintro x w' ⟨rfl,rfl⟩)
   go_meet
   case rel=>exact⟨rfl,rfl,l⟩
 case rest =>
  obtain⟨rfl,rfl,ab⟩:=hcut;rcases HO.o with⟨rfl,rfl⟩|⟨rfl,h1,rfl⟩|⟨rfl,h1,rfl⟩
  ·go_wp2
   go_ret2;exact⟨rfl,ab.o⟩
  ·go_wp2_with fail
   refine(hE.o (by trivial) _).mono ?_;rintro x M ⟨rfl,g⟩;have t:=qU ab g;clear g;have l1:decide ((120:Int)<((gP s).size:Int))=true:=by simp;omega
   go_wp2
   go_ret2;exact⟨rfl,t.o⟩
  ·go_wp2_with fail
   refine(hE.o (by trivial) _).mono ?_;rintro x M ⟨rfl,g⟩;have t:=qU ab g;clear g;have l1:decide ((120:Int)<((gP s).size:Int))=false:=by simp;omega
   go_wp2
   go_ret2;exact⟨rfl,t.o⟩
