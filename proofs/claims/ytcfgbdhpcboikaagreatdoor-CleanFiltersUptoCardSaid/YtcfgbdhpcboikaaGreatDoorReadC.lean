/-
readFloat: the walk.
-/
import Derived.Test.YtcfgbdhpcboikaaGreatDoorExact
namespace Go.Proofs.YtcfgbdhpcboikaaGreatDoor
set_option maxHeartbeats 16000000
set_option maxRecDepth 100000
open Go.RowKit
theorem pI (s:I)(b q j:Nat)(r a:RS)(f:b<=j)(g:j<q)(hq:q<=s.size)(hr:aO (aM s b j)=r)(d:dJ r (s[j]'(by omega))=a){mant trunc i c dot dig nd ndM dp:Value}
  (e:mant=.int .u64 a.mant/\trunc=.bool a.trunc/\i=.int .i64 (j+1:Nat)/\c=.bool false/\dot=.bool a.dot/\dig=.bool a.dig/\nd=.int .i64 a.nd/\ndM=.int .i64 a.ndM/\dp=.int .i64 a.dp) :
  aGR s b q mant trunc i c dot dig nd ndM dp:=by
 refine⟨j+1,a,by omega,by omega,?_,e⟩;rw[iP s b j f (by omega),dG,hr,d]
theorem aBa (s:I)(neg:Bool)(f q:Nat)(w:H)(hs:s.size<=40)(V:xU s neg f)(N:nP s f q)(ev:Int)(hE:aBs s q ev) :
  Y 234 #[.string s] w fun e w'=>e=.returned (.tuple #[.int .u64 (aO (aM s f q)).mant,.int .i64 ((aO (aM s f q)).expo ev),.bool neg,.bool (aO (aM s f q)).trunc,.bool false,.int .i64 s.size,.bool true])/\w=w':=by
 obtain⟨h0,V⟩:=V;have y:=N.lt;have ad:=N.le;have HN:=Z N;have HS:=Z V;have bd:¬s=ByteArray.empty:=by rintro rfl;simp at h0
 have HE:=Z hE;have ac:=N.dig;have BB:=aCd s f q N q (b6 y) (ah _);obtain⟨R,hR⟩:=ex (aO (aM s f q))
 rw[<-hR];rw[<-hR]at ac BB
 have a6:=Z hR;have a5:=Z ac;have al:=Z BB;clear N V hE hR ac BB;go_enter Tryz.func234,Tryz.ntmps234
 go_wp2_with fail
 go_step3
 go_upto_block 0 with fail
 go_cut [4,7] (fun a b wx=>a=.bool neg/\b=.int .i64 f/\wx=w)
 case first =>
  as_aux_lemma =>
   rcases HS.o with⟨rfl,rfl,g1,g2⟩|⟨rfl,rfl,g1,g2⟩
   all_goals
    as_aux_lemma =>
     go_wp2_with fail
     go_meet
     case rel=>exact⟨rfl,rfl,rfl⟩
 case rest =>
  as_aux_lemma =>
   obtain⟨rfl,rfl,rfl⟩:=hcut;go_upto_region 12 with fail
   go_cut [54] (fun a wx=>a=.bool false/\wx=wc)
   case first =>
    as_aux_lemma =>
     by_cases h2:f+2<s.size
     ·by_cases C:s[f].toNat=48
      ·have hl:=aOq s[f+1] (by
        by_cases e:f+1<q
        ·exact .inl (HN.o.ch (f+1) (by omega) (by omega) e)
        ·have eq:q=f+1:=by omega
         subst eq;exact .inr (HN.o.stop (by omega)))
       go_wp2_with (go_at_call 251;refine(aA3 _ _).mono ?_;rintro e w' ⟨rfl,rfl⟩)
       go_meet
       case rel=>exact⟨rfl,rfl⟩
      ·go_wp2_with fail
       go_meet
       case rel=>exact⟨rfl,rfl⟩
     ·go_wp2_with fail
      go_meet
      case rel=>exact⟨rfl,rfl⟩
   case rest =>
    as_aux_lemma =>
     obtain⟨rfl,rfl⟩:=hcut;go_wp2_with fail
     go_step3
     go_upto_block 1 with fail
     go_cut [2,5,7,9,13,14,15,16,17] (fun mant trunc i x dot dig nd ndM dp wx=>aNz s f q mant trunc i x dot dig nd ndM dp/\wx=wc)
     case first =>
      as_aux_lemma =>
       go_wp2_with fail
       go_loopg [2,5,7,9,13,14,15,16,17] (q-f) (fun g mant trunc i x dot dig nd ndM dp wx=>aGR s f q mant trunc i x dot dig nd ndM dp/\g=q-(intOf i).toNat/\wx=wc)
       case atStart=>exact⟨⟨f,rs0,ah _,by omega,by rw[gH];rfl,rfl,rfl,rfl,rfl,rfl,rfl,rfl,rfl,rfl⟩,rfl,rfl⟩
       case round =>
        as_aux_lemma =>
         obtain⟨⟨j,r,J,hj,hr,rfl,rfl,rfl,rfl,rfl,rfl,rfl,rfl,rfl⟩,p,rfl⟩:=hrel;have B:=aCd s f q HN.o j J hj;rw[hr]at B
         obtain⟨mant,nd,ndM,dp,dot,dig,trunc⟩:=r;obtain⟨b1,b2,b3,b4,b5⟩:=B;dsimp only at b1 b2 b3 b4 b5
         have z:=Z hr;have k:=Z p;clear hr p;have c1:nd<=40:=by omega
         have c2:ndM<=nd:=by omega
         have c3:ndM<=19:=by omega
         have c4:-40<=dp:=by omega
         have c5:dp<=40:=by omega
         have HM:=Z b3;have a9:=Z b2;clear b1 b2 b3 b4 b5;by_cases S:j<q
         ·have aw:j<s.size:=by omega
          have a1:=HN.o.ch j aw J S;by_cases P:s[j]=46
          ·have hd:=HN.o.dots j aw J S P;rw[z.o]at hd
           dsimp only at hd
           subst hd;have A:((s[j].toNat:Int)==95)=false:=by rw[P];rfl
           have f2:((s[j].toNat:Int)==46)=true:=by rw[P];rfl
           have W:=Z P;clear a1 P;as_aux_lemma =>
            go_wp2_with fail
            go_roundg (q-(j+1))
            case measure=>have:=k.o;simp[intOf]at this;omega
            case rel=>exact⟨pI s f q j _ ⟨mant,nd,ndM,nd,true,dig,trunc⟩ J S ad z.o (by unfold dJ;rw[af W.o]) ⟨rfl,rfl,by go_num,rfl,rfl,rfl,rfl,rfl,rfl⟩,by simp[intOf],rfl⟩
          ·have ac:aE s[j]=true:=by simpa [cR,P]using a1
           obtain⟨d1,d2⟩:=eE s[j] ac;have A:((s[j].toNat:Int)==95)=false:=by simp;omega
           have f2:((s[j].toNat:Int)==46)=false:=by simp;omega
           have W:=Z P;clear a1 P ac;by_cases C:s[j]=48
           ·have f3:((s[j].toNat:Int)==48)=true:=by rw[C];rfl
            have f5:((s[j].toNat:Int) !=48)=false:=by rw[C];rfl
            have X:=Z C;clear C;by_cases ao:nd=0
            ·have f4:((nd:Int)==0)=true:=by simp[ao]
             have av:=Z ao;clear ao;as_aux_lemma =>
              go_wp2_with fail
              go_roundg (q-(j+1))
              case measure=>have:=k.o;simp[intOf]at this;omega
              case rel=>exact⟨pI s f q j _ ⟨mant,nd,ndM,dp-1,dot,true,trunc⟩ J S ad z.o (by unfold dJ;rw[ae W.o,af ⟨X.o,av.o⟩]) ⟨by go_num,by first|rfl|simp,by go_num,rfl,rfl,rfl,by go_num,by go_num,by go_num⟩,by simp[intOf],rfl⟩
            ·have f4:((nd:Int)==0)=false:=by simp;omega
             have av:=Z ao;clear ao;have hz:s[j].toNat-48=0:=by rw[X.o];rfl
             have HZ:=Z hz;clear hz;by_cases hM:ndM<19
             ·have l:mant<=999999999999999999:=by have:=HM.o;have:=aNr ndM (by omega);omega
              as_aux_lemma =>
               go_wp2_with fail
               go_roundg (q-(j+1))
               case measure=>have:=k.o;simp[intOf]at this;omega
               case rel=>exact⟨pI s f q j _ ⟨mant*10+(s[j].toNat-48),nd+1,ndM+1,dp,dot,true,trunc⟩ J S ad z.o (by unfold dJ;rw[ae W.o,ae (fun h=>av.o h.2),af hM]) ⟨by go_num,by first|rfl|simp,by go_num,rfl,rfl,rfl,by go_num,by go_num,by go_num⟩,by simp[intOf],rfl⟩
             ·have c:(trunc||s[j] !=48)=trunc:=by rw[X.o];simp
              have al:=Z c;clear c;as_aux_lemma =>
               go_wp2_with fail
               go_roundg (q-(j+1))
               case measure=>have:=k.o;simp[intOf]at this;omega
               case rel=>exact⟨pI s f q j _ ⟨mant,nd+1,ndM,dp,dot,true,trunc⟩ J S ad z.o (by unfold dJ;rw[ae W.o,ae (fun h=>av.o h.2),ae hM,al.o]) ⟨by go_num,by first|rfl|simp,by go_num,rfl,rfl,rfl,by go_num,by go_num,by go_num⟩,by simp[intOf],rfl⟩
           ·have f3:((s[j].toNat:Int)==48)=false:=by simp;intro e;exact C (de.1 (by simp at e ⊢;omega))
            have f5:((s[j].toNat:Int) !=48)=true:=by simp;intro e;exact C (de.1 (by simp at e ⊢;omega))
            have X:=Z C;clear C;by_cases hM:ndM<19
            ·have l:mant<=999999999999999999:=by have:=HM.o;have:=aNr ndM (by omega);omega
             as_aux_lemma =>
              go_wp2_with fail
              go_roundg (q-(j+1))
              case measure=>have:=k.o;simp[intOf]at this;omega
              case rel=>exact⟨pI s f q j _ ⟨mant*10+(s[j].toNat-48),nd+1,ndM+1,dp,dot,true,trunc⟩ J S ad z.o (by unfold dJ;rw[ae W.o,ae (fun h=>X.o h.1),af hM]) ⟨by go_num,by first|rfl|simp,by go_num,rfl,rfl,rfl,by go_num,by go_num,by go_num⟩,by simp[intOf],rfl⟩
            ·have c:(trunc||s[j] !=48)=true:=by simp[X.o]
             have al:=Z c;clear c;as_aux_lemma =>
              go_wp2_with fail
              go_roundg (q-(j+1))
              case measure=>have:=k.o;simp[intOf]at this;omega
              case rel=>exact⟨pI s f q j _ ⟨mant,nd+1,ndM,dp,dot,true,true⟩ J S ad z.o (by unfold dJ;rw[ae W.o,ae (fun h=>X.o h.1),ae hM,al.o]) ⟨by go_num,by first|rfl|simp,by go_num,rfl,rfl,rfl,by go_num,by go_num,by go_num⟩,by simp[intOf],rfl⟩
         ·obtain rfl:j=q:=by omega
          by_cases a0:j=s.size
          ·have a7:¬j<s.size:=by omega
           have HQ:=Z a0;clear a0;as_aux_lemma =>
            go_wp2_with fail
            go_meet
            case rel=>exact⟨⟨_,z.o,rfl,rfl,rfl,rfl,rfl,rfl,rfl,rfl,rfl⟩,rfl⟩
          ·have aw:j<s.size:=by omega
           rcases HN.o.stop aw with n|n
           all_goals
            have A:((s[j].toNat:Int)==95)=false:=by rw[n];rfl
            have f2:((s[j].toNat:Int)==46)=false:=by rw[n];rfl
            have d1:57<s[j].toNat:=by rw[n];decide
            clear n;as_aux_lemma =>
             go_wp2_with fail
             go_meet
             case rel=>exact⟨⟨_,z.o,rfl,rfl,rfl,rfl,rfl,rfl,rfl,rfl,rfl⟩,rfl⟩
     case rest =>
      as_aux_lemma =>
       obtain⟨⟨r,hr,rfl,rfl,rfl,rfl,rfl,rfl,rfl,rfl,rfl⟩,rfl⟩:=hcut;rw[<-a6.o]at hr
       subst hr;have hd:=a5.o;have c:=al.o;obtain⟨b1,b2,b3,b4,b5⟩:=c;have HM:=Z b3;clear b3;have c1:R.nd<=40:=by omega
       have c3:R.ndM<=19:=by omega
       have c4:-40<=R.dp:=by omega
       have c5:R.dp<=40:=by omega
       clear b1 b2 b4 b5;go_upto_if 142 with fail
       go_cut [13,17] (fun d dp wx=>d=.bool R.dot/\dp=.int .i64 R.place/\wx=wc)
       case first =>
        as_aux_lemma =>
         cases hdot:R.dot
         ·have e:=Z hdot;clear hdot;as_aux_lemma =>
           go_wp2_with fail
           go_meet
           case rel=>exact⟨by rw[e.o],by unfold RS.place;rw[e.o];rfl,rfl⟩
         ·have e:=Z hdot;clear hdot;as_aux_lemma =>
           go_wp2_with fail
           go_meet
           case rel=>exact⟨by rw[e.o],by unfold RS.place;rw[e.o];rfl,rfl⟩
       case rest =>
        as_aux_lemma =>
         obtain⟨rfl,rfl,rfl⟩:=hcut;have p1:-40<=R.place:=by unfold RS.place;split<;>omega
         have p2:R.place<=40:=by unfold RS.place;split<;>omega
         go_upto_region 57 with fail
         have a8:=HE.o;rcases a8 with⟨hq,rfl⟩|⟨hq,t,es,V,a4,F,rfl⟩
         ·have a7:¬q<s.size:=by omega
          have HQ:=Z hq;clear hq;by_cases l:R.mant=0
          ·have A:((R.mant:Int) !=0)=false:=by simp[l]
           have aa:=Z l;clear l;as_aux_lemma =>
            go_wp2_with fail
            rw[gc];refine io (v:=.tuple #[.int .u64 R.mant,.int .i64 0,.bool neg,.bool R.trunc,.bool false,.int .i64 q,.bool true]) (by simp[results,Tryz.results234,go_sem]) rfl ⟨?_,rfl⟩;unfold RS.expo;rw[af aa.o,HQ.o]
          ·have A:((R.mant:Int) !=0)=true:=by simp[l]
           have aa:=Z l;clear l;as_aux_lemma =>
            go_wp2_with fail
            rw[gc];refine io (v:=.tuple #[.int .u64 R.mant,.int .i64 (R.place-R.ndM),.bool neg,.bool R.trunc,.bool false,.int .i64 q,.bool true]) (by simp[results,Tryz.results234,go_sem]) rfl ⟨?_,rfl⟩;unfold RS.expo;rw[ae aa.o,HQ.o,Int.add_zero]
         ·have a0:q<s.size:=by omega
          have hl:=aNp s[q] (HN.o.stop a0);go_upto_if 161 with(go_at_call 251;refine(aA3 _ _).mono ?_;rintro e w' ⟨rfl,rfl⟩)
          go_cut [7,9,17] (fun i x dp wx=>i=.int .i64 s.size/\x=.bool false/\dp=.int .i64 (R.place+(bX (aM s t s.size):Nat)*es)/\wx=wc)
          case first =>
           as_aux_lemma =>
            have a2:=F t a4 (ah _);have ab:=Z F;rcases V with⟨rfl,rfl,D⟩|⟨rfl,rfl,D⟩|⟨rfl,rfl,D⟩
            ·have c:=eE _ D;have A:((s[q+1].toNat:Int)==43)=false:=by simp;omega
             have f2:((s[q+1].toNat:Int)==45)=false:=by simp;omega
             have f3:=c.1;have f4:=c.2;clear c D a2 F hl;go_wp2_with fail
             go_loopg [7,9,20] (s.size-(q+1)) (fun g i x e wx=>∃j,q+1<=j/\j<=s.size/\i=.int .i64 (j:Nat)/\x=.bool false/\e=.int .i64 (bX (aM s (q+1) j):Nat)/\g=s.size-j/\wx=wc)
             case atStart=>exact⟨q+1,ah _,by omega,by go_num,rfl,by rw[gH];rfl,rfl,rfl⟩
             case round =>
              as_aux_lemma =>
               obtain⟨j,u,an,rfl,rfl,rfl,p,rfl⟩:=hrel;have k:=Z p;have ef:=nH s (q+1) j u an ab.o;obtain⟨E,m⟩:=ex (bX (aM s (q+1) j))
               rw[<-m]at ef
               rw[<-m];have K:=Z m;clear p m;by_cases y:j<s.size
               ·have c:=eE _ (ab.o j y u);have g1:((s[j].toNat:Int)==95)=false:=by simp;omega
                have g3:=c.1;have g4:=c.2;clear c;have T:bX (aM s (q+1) (j+1))=eI E s[j]:=by rw[iP s (q+1) j u y,iN,<-K.o]
                have M:=Z T;clear T;by_cases n:E<10000
                ·as_aux_lemma =>
                  go_wp2_with fail
                  go_roundg (s.size-(j+1))
                  case measure=>have:=k.o;omega
                  case rel=>exact⟨j+1,by omega,by omega,by go_num,rfl,by rw[M.o];unfold eI;rw[af n];go_num,rfl,rfl⟩
                ·as_aux_lemma =>
                  go_wp2_with fail
                  go_roundg (s.size-(j+1))
                  case measure=>have:=k.o;omega
                  case rel=>exact⟨j+1,by omega,by omega,by go_num,rfl,by rw[M.o];unfold eI;rw[ae n],rfl,rfl⟩
               ·have Q:s.size=j:=by omega
                have L:=Z Q;clear Q;as_aux_lemma =>
                 go_wp2_with fail
                 go_meet
                 case rel=>exact⟨by rw[L.o],rfl,by rw[L.o,<-K.o];go_num,rfl⟩
            ·have c:=eE _ (F (q+1+1) (by omega) (by omega));have A:((s[q+1].toNat:Int)==43)=true:=by rw[D];rfl
             have f3:=c.1;have f4:=c.2;clear c D a2 F hl;go_wp2_with fail
             go_loopg [7,9,20] (s.size-(q+2)) (fun g i x e wx=>∃j,q+2<=j/\j<=s.size/\i=.int .i64 (j:Nat)/\x=.bool false/\e=.int .i64 (bX (aM s (q+2) j):Nat)/\g=s.size-j/\wx=wc)
             case atStart=>exact⟨q+2,ah _,by omega,by go_num,rfl,by rw[gH];rfl,rfl,rfl⟩
             case round =>
              as_aux_lemma =>
               obtain⟨j,u,an,rfl,rfl,rfl,p,rfl⟩:=hrel;have k:=Z p;have ef:=nH s (q+2) j u an ab.o;obtain⟨E,m⟩:=ex (bX (aM s (q+2) j))
               rw[<-m]at ef
               rw[<-m];have K:=Z m;clear p m;by_cases y:j<s.size
               ·have c:=eE _ (ab.o j y u);have g1:((s[j].toNat:Int)==95)=false:=by simp;omega
                have g3:=c.1;have g4:=c.2;clear c;have T:bX (aM s (q+2) (j+1))=eI E s[j]:=by rw[iP s (q+2) j u y,iN,<-K.o]
                have M:=Z T;clear T;by_cases n:E<10000
                ·as_aux_lemma =>
                  go_wp2_with fail
                  go_roundg (s.size-(j+1))
                  case measure=>have:=k.o;omega
                  case rel=>exact⟨j+1,by omega,by omega,by go_num,rfl,by rw[M.o];unfold eI;rw[af n];go_num,rfl,rfl⟩
                ·as_aux_lemma =>
                  go_wp2_with fail
                  go_roundg (s.size-(j+1))
                  case measure=>have:=k.o;omega
                  case rel=>exact⟨j+1,by omega,by omega,by go_num,rfl,by rw[M.o];unfold eI;rw[ae n],rfl,rfl⟩
               ·have Q:s.size=j:=by omega
                have L:=Z Q;clear Q;as_aux_lemma =>
                 go_wp2_with fail
                 go_meet
                 case rel=>exact⟨by rw[L.o],rfl,by rw[L.o,<-K.o];go_num,rfl⟩
            ·have c:=eE _ (F (q+1+1) (by omega) (by omega));have A:((s[q+1].toNat:Int)==43)=false:=by rw[D];rfl
             have f2:((s[q+1].toNat:Int)==45)=true:=by rw[D];rfl
             have f3:=c.1;have f4:=c.2;clear c D a2 F hl;go_wp2_with fail
             go_loopg [7,9,20] (s.size-(q+2)) (fun g i x e wx=>∃j,q+2<=j/\j<=s.size/\i=.int .i64 (j:Nat)/\x=.bool false/\e=.int .i64 (bX (aM s (q+2) j):Nat)/\g=s.size-j/\wx=wc)
             case atStart=>exact⟨q+2,ah _,by omega,by go_num,rfl,by rw[gH];rfl,rfl,rfl⟩
             case round =>
              as_aux_lemma =>
               obtain⟨j,u,an,rfl,rfl,rfl,p,rfl⟩:=hrel;have k:=Z p;have ef:=nH s (q+2) j u an ab.o;obtain⟨E,m⟩:=ex (bX (aM s (q+2) j))
               rw[<-m]at ef
               rw[<-m];have K:=Z m;clear p m;by_cases y:j<s.size
               ·have c:=eE _ (ab.o j y u);have g1:((s[j].toNat:Int)==95)=false:=by simp;omega
                have g3:=c.1;have g4:=c.2;clear c;have T:bX (aM s (q+2) (j+1))=eI E s[j]:=by rw[iP s (q+2) j u y,iN,<-K.o]
                have M:=Z T;clear T;by_cases n:E<10000
                ·as_aux_lemma =>
                  go_wp2_with fail
                  go_roundg (s.size-(j+1))
                  case measure=>have:=k.o;omega
                  case rel=>exact⟨j+1,by omega,by omega,by go_num,rfl,by rw[M.o];unfold eI;rw[af n];go_num,rfl,rfl⟩
                ·as_aux_lemma =>
                  go_wp2_with fail
                  go_roundg (s.size-(j+1))
                  case measure=>have:=k.o;omega
                  case rel=>exact⟨j+1,by omega,by omega,by go_num,rfl,by rw[M.o];unfold eI;rw[ae n],rfl,rfl⟩
               ·have Q:s.size=j:=by omega
                have L:=Z Q;clear Q;as_aux_lemma =>
                 go_wp2_with fail
                 go_meet
                 case rel=>exact⟨by rw[L.o],rfl,by rw[L.o,<-K.o];go_num,rfl⟩
          case rest =>
           as_aux_lemma =>
            obtain⟨rfl,rfl,rfl,rfl⟩:=hcut;have ef:=nH s t s.size (b6 a4) (ah _) F;have a3:-100000<=(bX (aM s t s.size):Nat)*es/\(bX (aM s t s.size):Nat)*es<=100000:=by
             rcases V with⟨_,rfl,_⟩|⟨_,rfl,_⟩|⟨_,rfl,_⟩<;>omega
            obtain⟨ev,hv⟩:=ex (((bX (aM s t s.size):Nat):Int)*es)
            rw[<-hv]at a3 ⊢
            obtain⟨v1,v2⟩:=a3;have HV:=Z hv;clear hv ef F V hl;by_cases l:R.mant=0
            ·have A:((R.mant:Int) !=0)=false:=by simp[l]
             have aa:=Z l;clear l;as_aux_lemma =>
              go_wp2_with fail
              rw[gc];refine io (v:=.tuple #[.int .u64 R.mant,.int .i64 0,.bool neg,.bool R.trunc,.bool false,.int .i64 s.size,.bool true]) (by simp[results,Tryz.results234,go_sem]) rfl ⟨?_,rfl⟩;unfold RS.expo;rw[af aa.o]
            ·have A:((R.mant:Int) !=0)=true:=by simp[l]
             have aa:=Z l;clear l;as_aux_lemma =>
              go_wp2_with fail
              rw[gc];refine io (v:=.tuple #[.int .u64 R.mant,.int .i64 (R.place+ev-R.ndM),.bool neg,.bool R.trunc,.bool false,.int .i64 s.size,.bool true]) (by simp[results,Tryz.results234,go_sem]) rfl ⟨?_,rfl⟩;have hx:R.expo (((bX (aM s t s.size):Nat):Int)*es)=R.place+ev-R.ndM:=by rw[<-HV.o];unfold RS.expo;rw[ae aa.o]
              rw[hx]
