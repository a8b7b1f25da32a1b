/-
readFloat: the walk.
-/
import Derived.Test.YtcfgbdhpcboikaaGreatDoorExact
namespace Go.Proofs.YtcfgbdhpcboikaaGreatDoor
set_option maxHeartbeats 16000000
set_option maxRecDepth 100000
open Go.RowKit
theorem qS (s:I)(b q j:Nat)(r a:RS)(f:b<=j)(g:j<q)(hq:q<=s.size)(hr:aU (aR s b j)=r)(d:dZ r (s[j]'(by omega))=a){mant trunc i c dot dig nd ndM dp:Value}
  (e:mant=.int .u64 a.mant/\trunc=.bool a.trunc/\i=.int .i64 (j+1:Nat)/\c=.bool false/\dot=.bool a.dot/\dig=.bool a.dig/\nd=.int .i64 a.nd/\ndM=.int .i64 a.ndM/\dp=.int .i64 a.dp) :
  aHM s b q mant trunc i c dot dig nd ndM dp:=by
 refine⟨j+1,a,by omega,by omega,?_,e⟩;rw[jV s b j f (by omega),dX,hr,d]
theorem aBW (s:I)(neg:Bool)(f q:Nat)(w:H)(hs:s.size<=40)(V:zW s neg f)(N:oX s f q)(ev:Int)(hE:aCd s q ev) :
  Y 234 #[.string s] w fun e w'=>e=.returned (.tuple #[.int .u64 (aU (aR s f q)).mant,.int .i64 ((aU (aR s f q)).expo ev),.bool neg,.bool (aU (aR s f q)).trunc,.bool false,.int .i64 s.size,.bool true])/\w=w':=by
 obtain⟨h0,V⟩:=V;have y:=N.lt;have ah:=N.le;have HN:=Z N;have HS:=Z V;have bd:¬s=ByteArray.empty:=by rintro rfl;simp at h0
 have HE:=Z hE;have ad:=N.dig;have BB:=aC7 s f q N q (b9 y) (ag _);obtain⟨R,hR⟩:=ex (aU (aR s f q))
 rw[<-hR];rw[<-hR]at ad BB
 have a6:=Z hR;have a5:=Z ad;have al:=Z BB;clear N V hE hR ad BB;go_enter Tryz.func234,Tryz.ntmps234
 go_wp2_with fail
 go_step3
 go_upto_block 0 with fail
 go_cut [4,7] (fun a b wx=>a=.bool neg/\b=.int .i64 f/\wx=w)
 case first =>
  as_aux_lemma =>
   rcases HS.o with⟨rfl,rfl,g1,g2⟩|⟨rfl,rfl,g1,g2⟩
   all_goals
    as_aux_lemma =>
     go_wp2_with fail
     go_meet
     case rel=>exact⟨rfl,rfl,rfl⟩
 case rest =>
  as_aux_lemma =>
   obtain⟨rfl,rfl,rfl⟩:=hcut;go_upto_region 12 with fail
   go_cut [54] (fun a wx=>a=.bool false/\wx=wc)
   case first =>
    as_aux_lemma =>
     by_cases h2:f+2<s.size
     ·by_cases C:s[f].toNat=48
      ·have hl:=aPq s[f+1] (by
        by_cases e:f+1<q
        ·exact .inl (HN.o.ch (f+1) (by omega) (by omega) e)
        ·have eq:q=f+1:=by omega
         subst eq;exact .inr (HN.o.stop (by omega)))
       go_wp2_with (go_at_call 251;refine(aBP _ _).mono ?_;rintro e w' ⟨rfl,rfl⟩)
       go_meet
       case rel=>exact⟨rfl,rfl⟩
      ·go_wp2_with fail
       go_meet
       case rel=>exact⟨rfl,rfl⟩
     ·go_wp2_with fail
      go_meet
      case rel=>exact⟨rfl,rfl⟩
   case rest =>
    as_aux_lemma =>
     obtain⟨rfl,rfl⟩:=hcut;go_wp2_with fail
     go_step3
     go_upto_block 1 with fail
     go_cut [2,5,7,9,13,14,15,16,17] (fun mant trunc i x dot dig nd ndM dp wx=>aOA s f q mant trunc i x dot dig nd ndM dp/\wx=wc)
     case first =>
      as_aux_lemma =>
       go_wp2_with fail
       go_loopg [2,5,7,9,13,14,15,16,17] (q-f) (fun g mant trunc i x dot dig nd ndM dp wx=>aHM s f q mant trunc i x dot dig nd ndM dp/\g=q-(intOf i).toNat/\wx=wc)
       case atStart=>exact⟨⟨f,rs0,ag _,by omega,by rw[iF];rfl,rfl,rfl,rfl,rfl,rfl,rfl,rfl,rfl,rfl⟩,rfl,rfl⟩
       case round =>
        as_aux_lemma =>
         obtain⟨⟨j,r,J,hj,hr,rfl,rfl,rfl,rfl,rfl,rfl,rfl,rfl,rfl⟩,p,rfl⟩:=hrel;have B:=aC7 s f q HN.o j J hj;rw[hr]at B
         obtain⟨mant,nd,ndM,dp,dot,dig,trunc⟩:=r;obtain⟨b1,b2,b3,b4,b5⟩:=B;dsimp only at b1 b2 b3 b4 b5
         have z:=Z hr;have k:=Z p;clear hr p;have c1:nd<=40:=by omega
         have c2:ndM<=nd:=by omega
         have c3:ndM<=19:=by omega
         have c4:-40<=dp:=by omega
         have c5:dp<=40:=by omega
         have HM:=Z b3;have a9:=Z b2;clear b1 b2 b3 b4 b5;by_cases S:j<q
         ·have av:j<s.size:=by omega
          have a1:=HN.o.ch j av J S;by_cases P:s[j]=46
          ·have hd:=HN.o.dots j av J S P;rw[z.o]at hd
           dsimp only at hd
           subst hd;have A:((s[j].toNat:Int)==95)=false:=by rw[P];rfl
           have f2:((s[j].toNat:Int)==46)=true:=by rw[P];rfl
           have W:=Z P;clear a1 P;as_aux_lemma =>
            go_wp2_with fail
            go_roundg (q-(j+1))
            case measure=>have:=k.o;simp[intOf]at this;omega
            case rel=>exact⟨qS s f q j _ ⟨mant,nd,ndM,nd,true,dig,trunc⟩ J S ah z.o (by unfold dZ;rw[ae W.o]) ⟨rfl,rfl,by go_num,rfl,rfl,rfl,rfl,rfl,rfl⟩,by simp[intOf],rfl⟩
          ·have ad:aI s[j]=true:=by simpa [dJ,P]using a1
           obtain⟨d1,d2⟩:=fD s[j] ad;have A:((s[j].toNat:Int)==95)=false:=by simp;omega
           have f2:((s[j].toNat:Int)==46)=false:=by simp;omega
           have W:=Z P;clear a1 P ad;by_cases C:s[j]=48
           ·have f3:((s[j].toNat:Int)==48)=true:=by rw[C];rfl
            have f5:((s[j].toNat:Int) !=48)=false:=by rw[C];rfl
            have X:=Z C;clear C;by_cases ao:nd=0
            ·have f4:((nd:Int)==0)=true:=by simp[ao]
             have ar:=Z ao;clear ao;as_aux_lemma =>
              go_wp2_with fail
              go_roundg (q-(j+1))
              case measure=>have:=k.o;simp[intOf]at this;omega
              case rel=>exact⟨qS s f q j _ ⟨mant,nd,ndM,dp-1,dot,true,trunc⟩ J S ah z.o (by unfold dZ;rw[ac W.o,ae ⟨X.o,ar.o⟩]) ⟨by go_num,by first|rfl|simp,by go_num,rfl,rfl,rfl,by go_num,by go_num,by go_num⟩,by simp[intOf],rfl⟩
            ·have f4:((nd:Int)==0)=false:=by simp;omega
             have ar:=Z ao;clear ao;have hz:s[j].toNat-48=0:=by rw[X.o];rfl
             have HZ:=Z hz;clear hz;by_cases hM:ndM<19
             ·have l:mant<=999999999999999999:=by have:=HM.o;have:=aOs ndM (by omega);omega
              as_aux_lemma =>
               go_wp2_with fail
               go_roundg (q-(j+1))
               case measure=>have:=k.o;simp[intOf]at this;omega
               case rel=>exact⟨qS s f q j _ ⟨mant*10+(s[j].toNat-48),nd+1,ndM+1,dp,dot,true,trunc⟩ J S ah z.o (by unfold dZ;rw[ac W.o,ac (fun h=>ar.o h.2),ae hM]) ⟨by go_num,by first|rfl|simp,by go_num,rfl,rfl,rfl,by go_num,by go_num,by go_num⟩,by simp[intOf],rfl⟩
             ·have c:(trunc||s[j] !=48)=trunc:=by rw[X.o];simp
              have al:=Z c;clear c;as_aux_lemma =>
               go_wp2_with fail
               go_roundg (q-(j+1))
               case measure=>have:=k.o;simp[intOf]at this;omega
               case rel=>exact⟨qS s f q j _ ⟨mant,nd+1,ndM,dp,dot,true,trunc⟩ J S ah z.o (by unfold dZ;rw[ac W.o,ac (fun h=>ar.o h.2),ac hM,al.o]) ⟨by go_num,by first|rfl|simp,by go_num,rfl,rfl,rfl,by go_num,by go_num,by go_num⟩,by simp[intOf],rfl⟩
           ·have f3:((s[j].toNat:Int)==48)=false:=by simp;intro e;exact C (dx.1 (by simp at e ⊢;omega))
            have f5:((s[j].toNat:Int) !=48)=true:=by simp;intro e;exact C (dx.1 (by simp at e ⊢;omega))
            have X:=Z C;clear C;by_cases hM:ndM<19
            ·have l:mant<=999999999999999999:=by have:=HM.o;have:=aOs ndM (by omega);omega
             as_aux_lemma =>
              go_wp2_with fail
              go_roundg (q-(j+1))
              case measure=>have:=k.o;simp[intOf]at this;omega
              case rel=>exact⟨qS s f q j _ ⟨mant*10+(s[j].toNat-48),nd+1,ndM+1,dp,dot,true,trunc⟩ J S ah z.o (by unfold dZ;rw[ac W.o,ac (fun h=>X.o h.1),ae hM]) ⟨by go_num,by first|rfl|simp,by go_num,rfl,rfl,rfl,by go_num,by go_num,by go_num⟩,by simp[intOf],rfl⟩
            ·have c:(trunc||s[j] !=48)=true:=by simp[X.o]
             have al:=Z c;clear c;as_aux_lemma =>
              go_wp2_with fail
              go_roundg (q-(j+1))
              case measure=>have:=k.o;simp[intOf]at this;omega
              case rel=>exact⟨qS s f q j _ ⟨mant,nd+1,ndM,dp,dot,true,true⟩ J S ah z.o (by unfold dZ;rw[ac W.o,ac (fun h=>X.o h.1),ac hM,al.o]) ⟨by go_num,by first|rfl|simp,by go_num,rfl,rfl,rfl,by go_num,by go_num,by go_num⟩,by simp[intOf],rfl⟩
         ·obtain rfl:j=q:=by omega
          by_cases a0:j=s.size
          ·have a7:¬j<s.size:=by omega
           have HQ:=Z a0;clear a0;as_aux_lemma =>
            go_wp2_with fail
            go_meet
            case rel=>exact⟨⟨_,z.o,rfl,rfl,rfl,rfl,rfl,rfl,rfl,rfl,rfl⟩,rfl⟩
          ·have av:j<s.size:=by omega
           rcases HN.o.stop av with n|n
           all_goals
            have A:((s[j].toNat:Int)==95)=false:=by rw[n];rfl
            have f2:((s[j].toNat:Int)==46)=false:=by rw[n];rfl
            have d1:57<s[j].toNat:=by rw[n];decide
            clear n;as_aux_lemma =>
             go_wp2_with fail
             go_meet
             case rel=>exact⟨⟨_,z.o,rfl,rfl,rfl,rfl,rfl,rfl,rfl,rfl,rfl⟩,rfl⟩
     case rest =>
      as_aux_lemma =>
       obtain⟨⟨r,hr,rfl,rfl,rfl,rfl,rfl,rfl,rfl,rfl,rfl⟩,rfl⟩:=hcut;rw[<-a6.o]at hr
       subst hr;have hd:=a5.o;have c:=al.o;obtain⟨b1,b2,b3,b4,b5⟩:=c;have HM:=Z b3;clear b3;have c1:R.nd<=40:=by omega
       have c3:R.ndM<=19:=by omega
       have c4:-40<=R.dp:=by omega
       have c5:R.dp<=40:=by omega
       clear b1 b2 b4 b5;go_upto_if 142 with fail
       go_cut [13,17] (fun d dp wx=>d=.bool R.dot/\dp=.int .i64 R.place/\wx=wc)
       case first =>
        as_aux_lemma =>
         cases hdot:R.dot
         ·have e:=Z hdot;clear hdot;as_aux_lemma =>
           go_wp2_with fail
           go_meet
           case rel=>exact⟨by rw[e.o],by unfold RS.place;rw[e.o];rfl,rfl⟩
         ·have e:=Z hdot;clear hdot;as_aux_lemma =>
           go_wp2_with fail
           go_meet
           case rel=>exact⟨by rw[e.o],by unfold RS.place;rw[e.o];rfl,rfl⟩
       case rest =>
        as_aux_lemma =>
         obtain⟨rfl,rfl,rfl⟩:=hcut;have p1:-40<=R.place:=by unfold RS.place;split<;>omega
         have p2:R.place<=40:=by unfold RS.place;split<;>omega
         go_upto_region 57 with fail
         have a8:=HE.o;rcases a8 with⟨hq,rfl⟩|⟨hq,t,es,V,a4,F,rfl⟩
         ·have a7:¬q<s.size:=by omega
          have HQ:=Z hq;clear hq;by_cases l:R.mant=0
          ·have A:((R.mant:Int) !=0)=false:=by simp[l]
           have aa:=Z l;clear l;as_aux_lemma =>
            go_wp2_with fail
            rw[gl];refine fk (v:=.tuple #[.int .u64 R.mant,.int .i64 0,.bool neg,.bool R.trunc,.bool false,.int .i64 q,.bool true]) (by simp[results,Tryz.results234,go_sem]) rfl ⟨?_,rfl⟩;unfold RS.expo;rw[ae aa.o,HQ.o]
          ·have A:((R.mant:Int) !=0)=true:=by simp[l]
           have aa:=Z l;clear l;as_aux_lemma =>
            go_wp2_with fail
            rw[gl];refine fk (v:=.tuple #[.int .u64 R.mant,.int .i64 (R.place-R.ndM),.bool neg,.bool R.trunc,.bool false,.int .i64 q,.bool true]) (by simp[results,Tryz.results234,go_sem]) rfl ⟨?_,rfl⟩;unfold RS.expo;rw[ac aa.o,HQ.o,Int.add_zero]
         ·have a0:q<s.size:=by omega
          have hl:=aOq s[q] (HN.o.stop a0);go_upto_if 161 with(go_at_call 251;refine(aBP _ _).mono ?_;rintro e w' ⟨rfl,rfl⟩)
          go_cut [7,9,17] (fun i x dp wx=>i=.int .i64 s.size/\x=.bool false/\dp=.int .i64 (R.place+(cQ (aR s t s.size):Nat)*es)/\wx=wc)
          case first =>
           as_aux_lemma =>
            have a2:=F t a4 (ag _);have ab:=Z F;rcases V with⟨rfl,rfl,D⟩|⟨rfl,rfl,D⟩|⟨rfl,rfl,D⟩
            ·have c:=fD _ D;have A:((s[q+1].toNat:Int)==43)=false:=by simp;omega
             have f2:((s[q+1].toNat:Int)==45)=false:=by simp;omega
             have f3:=c.1;have f4:=c.2;clear c D a2 F hl;go_wp2_with fail
             go_loopg [7,9,20] (s.size-(q+1)) (fun g i x e wx=>∃j,q+1<=j/\j<=s.size/\i=.int .i64 (j:Nat)/\x=.bool false/\e=.int .i64 (cQ (aR s (q+1) j):Nat)/\g=s.size-j/\wx=wc)
             case atStart=>exact⟨q+1,ag _,by omega,by go_num,rfl,by rw[iF];rfl,rfl,rfl⟩
             case round =>
              as_aux_lemma =>
               obtain⟨j,u,an,rfl,rfl,rfl,p,rfl⟩:=hrel;have k:=Z p;have ef:=oO s (q+1) j u an ab.o;obtain⟨E,m⟩:=ex (cQ (aR s (q+1) j))
               rw[<-m]at ef
               rw[<-m];have K:=Z m;clear p m;by_cases y:j<s.size
               ·have c:=fD _ (ab.o j y u);have g1:((s[j].toNat:Int)==95)=false:=by simp;omega
                have g3:=c.1;have g4:=c.2;clear c;have T:cQ (aR s (q+1) (j+1))=fG E s[j]:=by rw[jV s (q+1) j u y,jS,<-K.o]
                have M:=Z T;clear T;by_cases n:E<10000
                ·as_aux_lemma =>
                  go_wp2_with fail
                  go_roundg (s.size-(j+1))
                  case measure=>have:=k.o;omega
                  case rel=>exact⟨j+1,by omega,by omega,by go_num,rfl,by rw[M.o];unfold fG;rw[ae n];go_num,rfl,rfl⟩
                ·as_aux_lemma =>
                  go_wp2_with fail
                  go_roundg (s.size-(j+1))
                  case measure=>have:=k.o;omega
                  case rel=>exact⟨j+1,by omega,by omega,by go_num,rfl,by rw[M.o];unfold fG;rw[ac n],rfl,rfl⟩
               ·have Q:s.size=j:=by omega
                have L:=Z Q;clear Q;as_aux_lemma =>
                 go_wp2_with fail
                 go_meet
                 case rel=>exact⟨by rw[L.o],rfl,by rw[L.o,<-K.o];go_num,rfl⟩
            ·have c:=fD _ (F (q+1+1) (by omega) (by omega));have A:((s[q+1].toNat:Int)==43)=true:=by rw[D];rfl
             have f3:=c.1;have f4:=c.2;clear c D a2 F hl;go_wp2_with fail
             go_loopg [7,9,20] (s.size-(q+2)) (fun g i x e wx=>∃j,q+2<=j/\j<=s.size/\i=.int .i64 (j:Nat)/\x=.bool false/\e=.int .i64 (cQ (aR s (q+2) j):Nat)/\g=s.size-j/\wx=wc)
             case atStart=>exact⟨q+2,ag _,by omega,by go_num,rfl,by rw[iF];rfl,rfl,rfl⟩
             case round =>
              as_aux_lemma =>
               obtain⟨j,u,an,rfl,rfl,rfl,p,rfl⟩:=hrel;have k:=Z p;have ef:=oO s (q+2) j u an ab.o;obtain⟨E,m⟩:=ex (cQ (aR s (q+2) j))
               rw[<-m]at ef
               rw[<-m];have K:=Z m;clear p m;by_cases y:j<s.size
               ·have c:=fD _ (ab.o j y u);have g1:((s[j].toNat:Int)==95)=false:=by simp;omega
                have g3:=c.1;have g4:=c.2;clear c;have T:cQ (aR s (q+2) (j+1))=fG E s[j]:=by rw[jV s (q+2) j u y,jS,<-K.o]
                have M:=Z T;clear T;by_cases n:E<10000
                ·as_aux_lemma =>
                  go_wp2_with fail
                  go_roundg (s.size-(j+1))
                  case measure=>have:=k.o;omega
                  case rel=>exact⟨j+1,by omega,by omega,by go_num,rfl,by rw[M.o];unfold fG;rw[ae n];go_num,rfl,rfl⟩
                ·as_aux_lemma =>
                  go_wp2_with fail
                  go_roundg (s.size-(j+1))
                  case measure=>have:=k.o;omega
                  case rel=>exact⟨j+1,by omega,by omega,by go_num,rfl,by rw[M.o];unfold fG;rw[ac n],rfl,rfl⟩
               ·have Q:s.size=j:=by omega
                have L:=Z Q;clear Q;as_aux_lemma =>
                 go_wp2_with fail
                 go_meet
                 case rel=>exact⟨by rw[L.o],rfl,by rw[L.o,<-K.o];go_num,rfl⟩
            ·have c:=fD _ (F (q+1+1) (by omega) (by omega));have A:((s[q+1].toNat:Int)==43)=false:=by rw[D];rfl
             have f2:((s[q+1].toNat:Int)==45)=true:=by rw[D];rfl
             have f3:=c.1;have f4:=c.2;clear c D a2 F hl;go_wp2_with fail
             go_loopg [7,9,20] (s.size-(q+2)) (fun g i x e wx=>∃j,q+2<=j/\j<=s.size/\i=.int .i64 (j:Nat)/\x=.bool false/\e=.int .i64 (cQ (aR s (q+2) j):Nat)/\g=s.size-j/\wx=wc)
             case atStart=>exact⟨q+2,ag _,by omega,by go_num,rfl,by rw[iF];rfl,rfl,rfl⟩
             case round =>
              as_aux_lemma =>
               obtain⟨j,u,an,rfl,rfl,rfl,p,rfl⟩:=hrel;have k:=Z p;have ef:=oO s (q+2) j u an ab.o;obtain⟨E,m⟩:=ex (cQ (aR s (q+2) j))
               rw[<-m]at ef
               rw[<-m];have K:=Z m;clear p m;by_cases y:j<s.size
               ·have c:=fD _ (ab.o j y u);have g1:((s[j].toNat:Int)==95)=false:=by simp;omega
                have g3:=c.1;have g4:=c.2;clear c;have T:cQ (aR s (q+2) (j+1))=fG E s[j]:=by rw[jV s (q+2) j u y,jS,<-K.o]
                have M:=Z T;clear T;by_cases n:E<10000
                ·as_aux_lemma =>
                  go_wp2_with fail
                  go_roundg (s.size-(j+1))
                  case measure=>have:=k.o;omega
                  case rel=>exact⟨j+1,by omega,by omega,by go_num,rfl,by rw[M.o];unfold fG;rw[ae n];go_num,rfl,rfl⟩
                ·as_aux_lemma =>
                  go_wp2_with fail
                  go_roundg (s.size-(j+1))
                  case measure=>have:=k.o;omega
                  case rel=>exact⟨j+1,by omega,by omega,by go_num,rfl,by rw[M.o];unfold fG;rw[ac n],rfl,rfl⟩
               ·have Q:s.size=j:=by omega
                have L:=Z Q;clear Q;as_aux_lemma =>
                 go_wp2_with fail
                 go_meet
                 case rel=>exact⟨by rw[L.o],rfl,by rw[L.o,<-K.o];go_num,rfl⟩
          case rest =>
           as_aux_lemma =>
            obtain⟨rfl,rfl,rfl,rfl⟩:=hcut;have ef:=oO s t s.size (b9 a4) (ag _) F;have a3:-100000<=(cQ (aR s t s.size):Nat)*es/\(cQ (aR s t s.size):Nat)*es<=100000:=by
             rcases V with⟨_,rfl,_⟩|⟨_,rfl,_⟩|⟨_,rfl,_⟩<;>omega
            obtain⟨ev,hv⟩:=ex (((cQ (aR s t s.size):Nat):Int)*es)
            rw[<-hv]at a3 ⊢
            obtain⟨v1,v2⟩:=a3;have HV:=Z hv;clear hv ef F V hl;by_cases l:R.mant=0
            ·have A:((R.mant:Int) !=0)=false:=by simp[l]
             have aa:=Z l;clear l;as_aux_lemma =>
              go_wp2_with fail
              rw[gl];refine fk (v:=.tuple #[.int .u64 R.mant,.int .i64 0,.bool neg,.bool R.trunc,.bool false,.int .i64 s.size,.bool true]) (by simp[results,Tryz.results234,go_sem]) rfl ⟨?_,rfl⟩;unfold RS.expo;rw[ae aa.o]
            ·have A:((R.mant:Int) !=0)=true:=by simp[l]
             have aa:=Z l;clear l;as_aux_lemma =>
              go_wp2_with fail
              rw[gl];refine fk (v:=.tuple #[.int .u64 R.mant,.int .i64 (R.place+ev-R.ndM),.bool neg,.bool R.trunc,.bool false,.int .i64 s.size,.bool true]) (by simp[results,Tryz.results234,go_sem]) rfl ⟨?_,rfl⟩;have hx:R.expo (((cQ (aR s t s.size):Nat):Int)*es)=R.place+ev-R.ndM:=by rw[<-HV.o];unfold RS.expo;rw[ac aa.o]
              rw[hx]
