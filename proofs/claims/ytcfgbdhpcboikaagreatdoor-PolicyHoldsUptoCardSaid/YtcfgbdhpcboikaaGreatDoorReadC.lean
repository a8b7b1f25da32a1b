/-
readFloat: the walk.
-/
import Derived.Test.YtcfgbdhpcboikaaGreatDoorExact
namespace Go.Proofs.YtcfgbdhpcboikaaGreatDoor
open Go.Lib (hid)
set_option maxHeartbeats 16000000
set_option maxRecDepth 100000
open Go.RowKit
theorem oU (s:ByteArray)(p0 q j:Nat)(r r':RS)(hp:p0≤j)(hj:j<q)(hq:q≤s.size)(hr:aL (aK s p0 j)=r)(h':dC r (s[j]'(by omega))=r'){mant trunc i us dot dig nd ndM dp:Value}
  (e:mant=.int .u64 r'.mant∧trunc=.bool r'.trunc∧i=.int .i64 (j+1:Nat)∧us=.bool false∧dot=.bool r'.dot∧dig=.bool r'.dig∧nd=.int .i64 r'.nd∧ndM=.int .i64 r'.ndM∧dp=.int .i64 r'.dp) :
  aGd s p0 q mant trunc i us dot dig nd ndM dp:=by
 refine⟨j+1,r',by omega,by omega,?_,e⟩;rw[iM s p0 j hp (by omega),cY,hr,h']
theorem aAH (s:ByteArray)(neg:Bool)(p0 q:Nat)(w:World)(hs:s.size≤40)(hsg:wP s neg p0)(N:nD s p0 q)(ev:Int)(hE:aAY s q ev) :
  Calls Tryz.prog 234 #[.string s] w fun e w'=>e=.returned (.tuple #[.int .u64 (aL (aK s p0 q)).mant,.int .i64 ((aL (aK s p0 q)).expo ev),.bool neg,.bool (aL (aK s p0 q)).trunc,.bool false,.int .i64 s.size,.bool true])∧w=w':=by
 obtain⟨h0,hsg⟩:=hsg;have hlt:=N.lt;have hle:=N.le;have HN:=hid N;have HS:=hid hsg;have hne:¬s=ByteArray.empty:=by rintro rfl;simp at h0
 have HE:=hid hE;have hdig:=N.dig;have BB:=aBF s p0 q N q (Nat.le_of_lt hlt) (Nat.le_refl _);obtain⟨R,hR⟩:∃R,R=aL (aK s p0 q):=⟨_,rfl⟩
 rw[←hR];rw[←hR]at hdig BB
 have HRR:=hid hR;have HDG:=hid hdig;have HBB:=hid BB;clear N hsg hE hR hdig BB;go_enter Tryz.func234,Tryz.ntmps234
 go_wp2_with fail
 go_step3
 go_upto_block 0 with fail
 go_cut [4,7] (fun a b wx=>a=.bool neg∧b=.int .i64 p0∧wx=w)
 case first =>
  as_aux_lemma =>
   rcases HS.out with⟨rfl,rfl,g1,g2⟩|⟨rfl,rfl,g1,g2⟩
   all_goals
    as_aux_lemma =>
     go_wp2_with fail
     go_meet
     case rel=>exact⟨rfl,rfl,rfl⟩
 case rest =>
  as_aux_lemma =>
   obtain⟨rfl,rfl,rfl⟩:=hcut;go_upto_region 12 with fail
   go_cut [54] (fun a wx=>a=.bool false∧wx=wc)
   case first =>
    as_aux_lemma =>
     by_cases h2:p0+2<s.size
     ·by_cases h48:s[p0].toNat=48
      ·have hl:=aNV s[p0+1] (by
        by_cases e:p0+1<q
        ·exact .inl (HN.out.ch (p0+1) (by omega) (by omega) e)
        ·have eq:q=p0+1:=by omega
         subst eq;exact .inr (HN.out.stop (by omega)))
       go_wp2_with (go_at_call 251;refine(aAA _ _).mono ?_;rintro e w' ⟨rfl,rfl⟩)
       go_meet
       case rel=>exact⟨rfl,rfl⟩
      ·go_wp2_with fail
       go_meet
       case rel=>exact⟨rfl,rfl⟩
     ·go_wp2_with fail
      go_meet
      case rel=>exact⟨rfl,rfl⟩
   case rest =>
    as_aux_lemma =>
     obtain⟨rfl,rfl⟩:=hcut;go_wp2_with fail
     go_step3
     go_upto_block 1 with fail
     go_cut [2,5,7,9,13,14,15,16,17] (fun mant trunc i us dot dig nd ndM dp wx=>aM3 s p0 q mant trunc i us dot dig nd ndM dp∧wx=wc)
     case first =>
      as_aux_lemma =>
       go_wp2_with fail
       go_loopg [2,5,7,9,13,14,15,16,17] (q-p0) (fun g mant trunc i us dot dig nd ndM dp wx=>aGd s p0 q mant trunc i us dot dig nd ndM dp∧g=q-(intOf i).toNat∧wx=wc)
       case atStart=>exact⟨⟨p0,rs0,Nat.le_refl _,by omega,by rw[gG];rfl,rfl,rfl,rfl,rfl,rfl,rfl,rfl,rfl,rfl⟩,rfl,rfl⟩
       case round =>
        as_aux_lemma =>
         obtain⟨⟨j,r,hp,hj,hr,rfl,rfl,rfl,rfl,rfl,rfl,rfl,rfl,rfl⟩,hg,rfl⟩:=hrel;have B:=aBF s p0 q HN.out j hp hj;rw[hr]at B
         obtain⟨mant,nd,ndM,dp,dot,dig,trunc⟩:=r;obtain⟨b1,b2,b3,b4,b5⟩:=B;dsimp only at b1 b2 b3 b4 b5
         have HR:=hid hr;have HG:=hid hg;clear hr hg;have c1:nd≤40:=by omega
         have c2:ndM≤nd:=by omega
         have c3:ndM≤19:=by omega
         have c4:-40≤dp:=by omega
         have c5:dp≤40:=by omega
         have HM:=hid b3;have HN2:=hid b2;clear b1 b2 b3 b4 b5;by_cases hjq:j<q
         ·have hjs:j<s.size:=by omega
          have hch:=HN.out.ch j hjs hp hjq;by_cases h46:s[j]=46
          ·have hd:=HN.out.dots j hjs hp hjq h46;rw[HR.out]at hd
           dsimp only at hd
           subst hd;have f1:((s[j].toNat:Int)==95)=false:=by rw[h46];rfl
           have f2:((s[j].toNat:Int)==46)=true:=by rw[h46];rfl
           have H46:=hid h46;clear hch h46;as_aux_lemma =>
            go_wp2_with fail
            go_roundg (q-(j+1))
            case measure=>have:=HG.out;simp[intOf]at this;omega
            case rel=>exact⟨oU s p0 q j _ ⟨mant,nd,ndM,nd,true,dig,trunc⟩ hp hjq hle HR.out (by unfold dC;rw[if_pos H46.out]) ⟨rfl,rfl,by go_num,rfl,rfl,rfl,rfl,rfl,rfl⟩,by simp[intOf],rfl⟩
          ·have hdig:aE s[j]=true:=by simpa [cO,h46]using hch
           obtain⟨d1,d2⟩:=dV s[j] hdig;have f1:((s[j].toNat:Int)==95)=false:=by simp;omega
           have f2:((s[j].toNat:Int)==46)=false:=by simp;omega
           have H46:=hid h46;clear hch h46 hdig;by_cases h48:s[j]=48
           ·have f3:((s[j].toNat:Int)==48)=true:=by rw[h48];rfl
            have f5:((s[j].toNat:Int) !=48)=false:=by rw[h48];rfl
            have H48:=hid h48;clear h48;by_cases hnd:nd=0
            ·have f4:((nd:Int)==0)=true:=by simp[hnd]
             have HND:=hid hnd;clear hnd;as_aux_lemma =>
              go_wp2_with fail
              go_roundg (q-(j+1))
              case measure=>have:=HG.out;simp[intOf]at this;omega
              case rel=>exact⟨oU s p0 q j _ ⟨mant,nd,ndM,dp-1,dot,true,trunc⟩ hp hjq hle HR.out (by unfold dC;rw[if_neg H46.out,if_pos ⟨H48.out,HND.out⟩]) ⟨by go_num,by first|rfl|simp,by go_num,rfl,rfl,rfl,by go_num,by go_num,by go_num⟩,by simp[intOf],rfl⟩
            ·have f4:((nd:Int)==0)=false:=by simp;omega
             have HND:=hid hnd;clear hnd;have hz:s[j].toNat-48=0:=by rw[H48.out];rfl
             have HZ:=hid hz;clear hz;by_cases hM:ndM<19
             ·have hm:mant≤999999999999999999:=by have:=HM.out;have:=aMT ndM (by omega);omega
              as_aux_lemma =>
               go_wp2_with fail
               go_roundg (q-(j+1))
               case measure=>have:=HG.out;simp[intOf]at this;omega
               case rel=>exact⟨oU s p0 q j _ ⟨mant*10+(s[j].toNat-48),nd+1,ndM+1,dp,dot,true,trunc⟩ hp hjq hle HR.out (by unfold dC;rw[if_neg H46.out,if_neg (fun h=>HND.out h.2),if_pos hM]) ⟨by go_num,by first|rfl|simp,by go_num,rfl,rfl,rfl,by go_num,by go_num,by go_num⟩,by simp[intOf],rfl⟩
             ·have hb:(trunc||s[j] !=48)=trunc:=by rw[H48.out];simp
              have HBB:=hid hb;clear hb;as_aux_lemma =>
               go_wp2_with fail
               go_roundg (q-(j+1))
               case measure=>have:=HG.out;simp[intOf]at this;omega
               case rel=>exact⟨oU s p0 q j _ ⟨mant,nd+1,ndM,dp,dot,true,trunc⟩ hp hjq hle HR.out (by unfold dC;rw[if_neg H46.out,if_neg (fun h=>HND.out h.2),if_neg hM,HBB.out]) ⟨by go_num,by first|rfl|simp,by go_num,rfl,rfl,rfl,by go_num,by go_num,by go_num⟩,by simp[intOf],rfl⟩
           ·have f3:((s[j].toNat:Int)==48)=false:=by simp;intro e;exact h48 (UInt8.toNat_inj.1 (by simp at e ⊢;omega))
            have f5:((s[j].toNat:Int) !=48)=true:=by simp;intro e;exact h48 (UInt8.toNat_inj.1 (by simp at e ⊢;omega))
            have H48:=hid h48;clear h48;by_cases hM:ndM<19
            ·have hm:mant≤999999999999999999:=by have:=HM.out;have:=aMT ndM (by omega);omega
             as_aux_lemma =>
              go_wp2_with fail
              go_roundg (q-(j+1))
              case measure=>have:=HG.out;simp[intOf]at this;omega
              case rel=>exact⟨oU s p0 q j _ ⟨mant*10+(s[j].toNat-48),nd+1,ndM+1,dp,dot,true,trunc⟩ hp hjq hle HR.out (by unfold dC;rw[if_neg H46.out,if_neg (fun h=>H48.out h.1),if_pos hM]) ⟨by go_num,by first|rfl|simp,by go_num,rfl,rfl,rfl,by go_num,by go_num,by go_num⟩,by simp[intOf],rfl⟩
            ·have hb:(trunc||s[j] !=48)=true:=by simp[H48.out]
             have HBB:=hid hb;clear hb;as_aux_lemma =>
              go_wp2_with fail
              go_roundg (q-(j+1))
              case measure=>have:=HG.out;simp[intOf]at this;omega
              case rel=>exact⟨oU s p0 q j _ ⟨mant,nd+1,ndM,dp,dot,true,true⟩ hp hjq hle HR.out (by unfold dC;rw[if_neg H46.out,if_neg (fun h=>H48.out h.1),if_neg hM,HBB.out]) ⟨by go_num,by first|rfl|simp,by go_num,rfl,rfl,rfl,by go_num,by go_num,by go_num⟩,by simp[intOf],rfl⟩
         ·obtain rfl:j=q:=by omega
          by_cases hqs:j=s.size
          ·have hnl:¬j<s.size:=by omega
           have HQ:=hid hqs;clear hqs;as_aux_lemma =>
            go_wp2_with fail
            go_meet
            case rel=>exact⟨⟨_,HR.out,rfl,rfl,rfl,rfl,rfl,rfl,rfl,rfl,rfl⟩,rfl⟩
          ·have hjs:j<s.size:=by omega
           rcases HN.out.stop hjs with he|he
           all_goals
            have f1:((s[j].toNat:Int)==95)=false:=by rw[he];rfl
            have f2:((s[j].toNat:Int)==46)=false:=by rw[he];rfl
            have d1:57<s[j].toNat:=by rw[he];decide
            clear he;as_aux_lemma =>
             go_wp2_with fail
             go_meet
             case rel=>exact⟨⟨_,HR.out,rfl,rfl,rfl,rfl,rfl,rfl,rfl,rfl,rfl⟩,rfl⟩
     case rest =>
      as_aux_lemma =>
       obtain⟨⟨r,hr,rfl,rfl,rfl,rfl,rfl,rfl,rfl,rfl,rfl⟩,rfl⟩:=hcut;rw[←HRR.out]at hr
       subst hr;have hd:=HDG.out;have hb:=HBB.out;obtain⟨b1,b2,b3,b4,b5⟩:=hb;have HM:=hid b3;clear b3;have c1:R.nd≤40:=by omega
       have c3:R.ndM≤19:=by omega
       have c4:-40≤R.dp:=by omega
       have c5:R.dp≤40:=by omega
       clear b1 b2 b4 b5;go_upto_if 142 with fail
       go_cut [13,17] (fun d dp wx=>d=.bool R.dot∧dp=.int .i64 R.place∧wx=wc)
       case first =>
        as_aux_lemma =>
         cases hdot:R.dot
         ·have e:=hid hdot;clear hdot;as_aux_lemma =>
           go_wp2_with fail
           go_meet
           case rel=>exact⟨by rw[e.out],by unfold RS.place;rw[e.out];rfl,rfl⟩
         ·have e:=hid hdot;clear hdot;as_aux_lemma =>
           go_wp2_with fail
           go_meet
           case rel=>exact⟨by rw[e.out],by unfold RS.place;rw[e.out];rfl,rfl⟩
       case rest =>
        as_aux_lemma =>
         obtain⟨rfl,rfl,rfl⟩:=hcut;have p1:-40≤R.place:=by unfold RS.place;split<;>omega
         have p2:R.place≤40:=by unfold RS.place;split<;>omega
         go_upto_region 57 with fail
         have hq1:=HE.out;rcases hq1 with⟨hq,rfl⟩|⟨hq,t,es,hsg,htl,hds,rfl⟩
         ·have hnl:¬q<s.size:=by omega
          have HQ:=hid hq;clear hq;by_cases hm:R.mant=0
          ·have f1:((R.mant:Int) !=0)=false:=by simp[hm]
           have HMM:=hid hm;clear hm;as_aux_lemma =>
            go_wp2_with fail
            rw[Exit.noGoto_ret];refine bodyPost_ret (v:=.tuple #[.int .u64 R.mant,.int .i64 0,.bool neg,.bool R.trunc,.bool false,.int .i64 q,.bool true]) (by simp[results,Tryz.results234,go_sem]) rfl ⟨?_,rfl⟩;unfold RS.expo;rw[if_pos HMM.out,HQ.out]
          ·have f1:((R.mant:Int) !=0)=true:=by simp[hm]
           have HMM:=hid hm;clear hm;as_aux_lemma =>
            go_wp2_with fail
            rw[Exit.noGoto_ret];refine bodyPost_ret (v:=.tuple #[.int .u64 R.mant,.int .i64 (R.place-R.ndM),.bool neg,.bool R.trunc,.bool false,.int .i64 q,.bool true]) (by simp[results,Tryz.results234,go_sem]) rfl ⟨?_,rfl⟩;unfold RS.expo;rw[if_neg HMM.out,HQ.out,Int.add_zero]
         ·have hqs:q<s.size:=by omega
          have hl:=aMR s[q] (HN.out.stop hqs);go_upto_if 161 with(go_at_call 251;refine(aAA _ _).mono ?_;rintro e w' ⟨rfl,rfl⟩)
          go_cut [7,9,17] (fun i us dp wx=>i=.int .i64 s.size∧us=.bool false∧dp=.int .i64 (R.place+(bR (aK s t s.size):Nat)*es)∧wx=wc)
          case first =>
           as_aux_lemma =>
            have hds0:=hds t htl (Nat.le_refl _);have HDS:=hid hds;rcases hsg with⟨rfl,rfl,hc⟩|⟨rfl,rfl,hc⟩|⟨rfl,rfl,hc⟩
            ·have hb:=dV _ hc;have f1:((s[q+1].toNat:Int)==43)=false:=by simp;omega
             have f2:((s[q+1].toNat:Int)==45)=false:=by simp;omega
             have f3:=hb.1;have f4:=hb.2;clear hb hc hds0 hds hl;go_wp2_with fail
             go_loopg [7,9,20] (s.size-(q+1)) (fun g i us e wx=>∃j,q+1≤j∧j≤s.size∧i=.int .i64 (j:Nat)∧us=.bool false∧e=.int .i64 (bR (aK s (q+1) j):Nat)∧g=s.size-j∧wx=wc)
             case atStart=>exact⟨q+1,Nat.le_refl _,by omega,by go_num,rfl,by rw[gG];rfl,rfl,rfl⟩
             case round =>
              as_aux_lemma =>
               obtain⟨j,hj1,hj2,rfl,rfl,rfl,hg,rfl⟩:=hrel;have HG:=hid hg;have ef:=mV s (q+1) j hj1 hj2 HDS.out;obtain⟨E,hEE⟩:∃E,E=bR (aK s (q+1) j):=⟨_,rfl⟩
               rw[←hEE]at ef
               rw[←hEE];have HE2:=hid hEE;clear hg hEE;by_cases hlt:j<s.size
               ·have hb:=dV _ (HDS.out j hlt hj1);have g1:((s[j].toNat:Int)==95)=false:=by simp;omega
                have g3:=hb.1;have g4:=hb.2;clear hb;have hnx:bR (aK s (q+1) (j+1))=eD E s[j]:=by rw[iM s (q+1) j hj1 hlt,iI,←HE2.out]
                have HNX:=hid hnx;clear hnx;by_cases he:E<10000
                ·as_aux_lemma =>
                  go_wp2_with fail
                  go_roundg (s.size-(j+1))
                  case measure=>have:=HG.out;omega
                  case rel=>exact⟨j+1,by omega,by omega,by go_num,rfl,by rw[HNX.out];unfold eD;rw[if_pos he];go_num,rfl,rfl⟩
                ·as_aux_lemma =>
                  go_wp2_with fail
                  go_roundg (s.size-(j+1))
                  case measure=>have:=HG.out;omega
                  case rel=>exact⟨j+1,by omega,by omega,by go_num,rfl,by rw[HNX.out];unfold eD;rw[if_neg he],rfl,rfl⟩
               ·have hje:s.size=j:=by omega
                have HJE:=hid hje;clear hje;as_aux_lemma =>
                 go_wp2_with fail
                 go_meet
                 case rel=>exact⟨by rw[HJE.out],rfl,by rw[HJE.out,←HE2.out];go_num,rfl⟩
            ·have hb:=dV _ (hds (q+1+1) (by omega) (by omega));have f1:((s[q+1].toNat:Int)==43)=true:=by rw[hc];rfl
             have f3:=hb.1;have f4:=hb.2;clear hb hc hds0 hds hl;go_wp2_with fail
             go_loopg [7,9,20] (s.size-(q+2)) (fun g i us e wx=>∃j,q+2≤j∧j≤s.size∧i=.int .i64 (j:Nat)∧us=.bool false∧e=.int .i64 (bR (aK s (q+2) j):Nat)∧g=s.size-j∧wx=wc)
             case atStart=>exact⟨q+2,Nat.le_refl _,by omega,by go_num,rfl,by rw[gG];rfl,rfl,rfl⟩
             case round =>
              as_aux_lemma =>
               obtain⟨j,hj1,hj2,rfl,rfl,rfl,hg,rfl⟩:=hrel;have HG:=hid hg;have ef:=mV s (q+2) j hj1 hj2 HDS.out;obtain⟨E,hEE⟩:∃E,E=bR (aK s (q+2) j):=⟨_,rfl⟩
               rw[←hEE]at ef
               rw[←hEE];have HE2:=hid hEE;clear hg hEE;by_cases hlt:j<s.size
               ·have hb:=dV _ (HDS.out j hlt hj1);have g1:((s[j].toNat:Int)==95)=false:=by simp;omega
                have g3:=hb.1;have g4:=hb.2;clear hb;have hnx:bR (aK s (q+2) (j+1))=eD E s[j]:=by rw[iM s (q+2) j hj1 hlt,iI,←HE2.out]
                have HNX:=hid hnx;clear hnx;by_cases he:E<10000
                ·as_aux_lemma =>
                  go_wp2_with fail
                  go_roundg (s.size-(j+1))
                  case measure=>have:=HG.out;omega
                  case rel=>exact⟨j+1,by omega,by omega,by go_num,rfl,by rw[HNX.out];unfold eD;rw[if_pos he];go_num,rfl,rfl⟩
                ·as_aux_lemma =>
                  go_wp2_with fail
                  go_roundg (s.size-(j+1))
                  case measure=>have:=HG.out;omega
                  case rel=>exact⟨j+1,by omega,by omega,by go_num,rfl,by rw[HNX.out];unfold eD;rw[if_neg he],rfl,rfl⟩
               ·have hje:s.size=j:=by omega
                have HJE:=hid hje;clear hje;as_aux_lemma =>
                 go_wp2_with fail
                 go_meet
                 case rel=>exact⟨by rw[HJE.out],rfl,by rw[HJE.out,←HE2.out];go_num,rfl⟩
            ·have hb:=dV _ (hds (q+1+1) (by omega) (by omega));have f1:((s[q+1].toNat:Int)==43)=false:=by rw[hc];rfl
             have f2:((s[q+1].toNat:Int)==45)=true:=by rw[hc];rfl
             have f3:=hb.1;have f4:=hb.2;clear hb hc hds0 hds hl;go_wp2_with fail
             go_loopg [7,9,20] (s.size-(q+2)) (fun g i us e wx=>∃j,q+2≤j∧j≤s.size∧i=.int .i64 (j:Nat)∧us=.bool false∧e=.int .i64 (bR (aK s (q+2) j):Nat)∧g=s.size-j∧wx=wc)
             case atStart=>exact⟨q+2,Nat.le_refl _,by omega,by go_num,rfl,by rw[gG];rfl,rfl,rfl⟩
             case round =>
              as_aux_lemma =>
               obtain⟨j,hj1,hj2,rfl,rfl,rfl,hg,rfl⟩:=hrel;have HG:=hid hg;have ef:=mV s (q+2) j hj1 hj2 HDS.out;obtain⟨E,hEE⟩:∃E,E=bR (aK s (q+2) j):=⟨_,rfl⟩
               rw[←hEE]at ef
               rw[←hEE];have HE2:=hid hEE;clear hg hEE;by_cases hlt:j<s.size
               ·have hb:=dV _ (HDS.out j hlt hj1);have g1:((s[j].toNat:Int)==95)=false:=by simp;omega
                have g3:=hb.1;have g4:=hb.2;clear hb;have hnx:bR (aK s (q+2) (j+1))=eD E s[j]:=by rw[iM s (q+2) j hj1 hlt,iI,←HE2.out]
                have HNX:=hid hnx;clear hnx;by_cases he:E<10000
                ·as_aux_lemma =>
                  go_wp2_with fail
                  go_roundg (s.size-(j+1))
                  case measure=>have:=HG.out;omega
                  case rel=>exact⟨j+1,by omega,by omega,by go_num,rfl,by rw[HNX.out];unfold eD;rw[if_pos he];go_num,rfl,rfl⟩
                ·as_aux_lemma =>
                  go_wp2_with fail
                  go_roundg (s.size-(j+1))
                  case measure=>have:=HG.out;omega
                  case rel=>exact⟨j+1,by omega,by omega,by go_num,rfl,by rw[HNX.out];unfold eD;rw[if_neg he],rfl,rfl⟩
               ·have hje:s.size=j:=by omega
                have HJE:=hid hje;clear hje;as_aux_lemma =>
                 go_wp2_with fail
                 go_meet
                 case rel=>exact⟨by rw[HJE.out],rfl,by rw[HJE.out,←HE2.out];go_num,rfl⟩
          case rest =>
           as_aux_lemma =>
            obtain⟨rfl,rfl,rfl,rfl⟩:=hcut;have ef:=mV s t s.size (Nat.le_of_lt htl) (Nat.le_refl _) hds;have hev:-100000≤(bR (aK s t s.size):Nat)*es∧(bR (aK s t s.size):Nat)*es≤100000:=by
             rcases hsg with⟨_,rfl,_⟩|⟨_,rfl,_⟩|⟨_,rfl,_⟩<;>omega
            obtain⟨ev,hv⟩:∃ev,ev=((bR (aK s t s.size):Nat):Int)*es:=⟨_,rfl⟩
            rw[←hv]at hev ⊢
            obtain⟨v1,v2⟩:=hev;have HV:=hid hv;clear hv ef hds hsg hl;by_cases hm:R.mant=0
            ·have f1:((R.mant:Int) !=0)=false:=by simp[hm]
             have HMM:=hid hm;clear hm;as_aux_lemma =>
              go_wp2_with fail
              rw[Exit.noGoto_ret];refine bodyPost_ret (v:=.tuple #[.int .u64 R.mant,.int .i64 0,.bool neg,.bool R.trunc,.bool false,.int .i64 s.size,.bool true]) (by simp[results,Tryz.results234,go_sem]) rfl ⟨?_,rfl⟩;unfold RS.expo;rw[if_pos HMM.out]
            ·have f1:((R.mant:Int) !=0)=true:=by simp[hm]
             have HMM:=hid hm;clear hm;as_aux_lemma =>
              go_wp2_with fail
              rw[Exit.noGoto_ret];refine bodyPost_ret (v:=.tuple #[.int .u64 R.mant,.int .i64 (R.place+ev-R.ndM),.bool neg,.bool R.trunc,.bool false,.int .i64 s.size,.bool true]) (by simp[results,Tryz.results234,go_sem]) rfl ⟨?_,rfl⟩;have hx:R.expo (((bR (aK s t s.size):Nat):Int)*es)=R.place+ev-R.ndM:=by rw[←HV.out];unfold RS.expo;rw[if_neg HMM.out]
              rw[hx]
end Go.Proofs.YtcfgbdhpcboikaaGreatDoor
