/-
The slow decimals: decimal.set at a numeral.
-/
import Derived.Test.YtcfgbdhpcboikaaGreatDoorExact
namespace Go.Proofs.YtcfgbdhpcboikaaGreatDoor
open Go.Lib (hid)
set_option maxHeartbeats 16000000
set_option maxRecDepth 100000
open Go.RowKit
theorem aEv {n:Nat}:n≤n:=Nat.le_refl n
def aPq:List UInt8:=List.replicate 800 0
theorem aLh:aPq.length=800:=List.length_replicate
def aLf:Dec.Dc:=⟨aPq,0,0,false,false⟩
def sZ (s:Dec.Dc)(c:UInt8):Dec.Dc :=
 if c=46 then { s with dp:=s.nd }else if c=48∧s.nd=0 then { s with dp:=s.dp-1 }else { s with D:=s.D.set s.nd c,nd:=s.nd+1 }
def iX (neg:Bool)(l:List UInt8):Dec.Dc:=l.foldl sZ { aLf with neg:=neg }
theorem aBT (neg:Bool)(l:List UInt8)(c:UInt8):iX neg (l++[c])=sZ (iX neg l) c:=by simp[iX]
structure SOk (s:Dec.Dc) (r:RS) (neg:Bool) (k:Nat):Prop where
 len:s.D.length=800
 nd:s.nd=r.nd
 dp:s.dp=r.dp
 le:s.nd≤k
 neg:s.neg=neg
 tr:s.trunc=false
 dig:∀c∈s.D.take s.nd,48≤c.toNat∧c.toNat≤57
 head:∀c,(s.D.take s.nd).head?=some c→c≠48
theorem aMq {s:Dec.Dc}{r:RS}{neg:Bool}{k:Nat}{c:UInt8}(h:SOk s r neg k)(hk:k<800)(hc:cO c=true):SOk (sZ s c) (dC r c) neg (k+1):=by
 obtain⟨h1,h2,h3,h4,h5,h6,h7,h8⟩:=h;unfold sZ dC;by_cases h46:c=46
 ·rw[if_pos h46,if_pos h46];exact⟨h1,h2,by show(s.nd:Int)=r.nd;rw[h2],by show s.nd≤k+1;omega,h5,h6,h7,h8⟩
 ·rw[if_neg h46,if_neg h46];have hd:aE c=true:=by simpa [cO,h46]using hc
  have hb:=dV c hd;by_cases hz:c=48∧s.nd=0
  ·rw[if_pos hz,if_pos ⟨hz.1,by rw[←h2];exact hz.2⟩];exact⟨h1,h2,by show s.dp-1=r.dp-1;rw[h3],by show s.nd≤k+1;omega,h5,h6,h7,h8⟩
  ·rw[if_neg hz,if_neg (show ¬(c=48∧r.nd=0) by rw[←h2];exact hz)];have hlt:s.nd<s.D.length:=by omega
   have htk:(s.D.set s.nd c).take (s.nd+1)=s.D.take s.nd++[c]:=by
    rw[List.take_add_one,List.getElem?_set_self hlt];congr 1;rw[List.take_set_of_le aEv]
   have nd':∀r':RS,r'.nd=r.nd+1→s.nd+1=r'.nd:=fun r' e=>by omega
   have rest:∀r':RS,r'.nd=r.nd+1→r'.dp=r.dp→SOk { s with D:=s.D.set s.nd c,nd:=s.nd+1 } r' neg (k+1):=by
    intro r' e1 e2;refine⟨by rw[List.length_set];exact h1,nd' r' e1,by show s.dp=r'.dp;rw[h3,e2],by show s.nd+1≤k+1;omega,h5,h6,?_,?_⟩
    ·intro x hx;rw[show(({ s with D:=s.D.set s.nd c,nd:=s.nd+1 }:Dec.Dc).D.take ({ s with D:=s.D.set s.nd c,nd:=s.nd+1 }:Dec.Dc).nd)=s.D.take s.nd++[c]from htk]at hx
     rcases List.mem_append.1 hx with g|g
     ·exact h7 x g
     ·rw[List.mem_singleton.1 g];exact hb
    ·intro x hx;rw[show(({ s with D:=s.D.set s.nd c,nd:=s.nd+1 }:Dec.Dc).D.take ({ s with D:=s.D.set s.nd c,nd:=s.nd+1 }:Dec.Dc).nd)=s.D.take s.nd++[c]from htk]at hx
     by_cases hn0:s.nd=0
     ·rw[hn0]at hx
      have e:x=c:=by simpa using hx.symm
      rw[e];exact fun e48=>hz ⟨e48,hn0⟩
     ·have e:(s.D.take s.nd++[c]).head?=(s.D.take s.nd).head?:=by
       cases hq:s.D.take s.nd with
       | nil =>
        have hql:=congrArg List.length hq;rw[List.length_take,List.length_nil]at hql
        omega
       | cons a b=>rfl
      rw[e]at hx
      exact h8 x hx
   split
   ·exact rest _ rfl rfl
   ·exact rest _ rfl rfl
theorem aFf (neg:Bool)(l:List UInt8)(hl:l.length≤800)(h:∀c∈l,cO c=true):SOk (iX neg l) (aL l) neg l.length:=by
 induction l using gS with
 | h0=>exact⟨aLh,rfl,rfl,Nat.le_refl _,rfl,rfl,fun c hc=>(by cases (show c∈([]:List UInt8)from hc)),fun c hc=>(by cases (show([]:List UInt8).head?=some c from hc))⟩
 | h1 l c ih =>
  rw[List.length_append]at hl
  rw[aBT,cY,List.length_append];exact aMq (ih (by simp at hl;omega) (fun x hx=>h x (by simp[hx]))) (by simp at hl;omega) (h c (by simp))
def aE5 (neg:Bool)(l:List UInt8)(ev:Int):Dec.Dc:={ iX neg l with dp:=(aL l).place+ev }
def aM4 (B:Nat)(s:Dec.Dc)(w:World)(e:Ending)(w':World):Prop:=e=.returned (.bool true)∧aC w' B s∧aD (· = B) w w'
theorem aOy (B:Nat)(s:ByteArray)(neg:Bool)(p0 q:Nat)(w:World)(h:aC w B aLf)(hs:s.size≤40)(hsg:wP s neg p0)(N:nD s p0 q)(ev:Int)(hE:aAY s q ev) :
  Calls Tryz.prog 240 #[.pointer (some ⟨B,0,none⟩),.string s] w (aM4 B (aE5 neg (aK s p0 q) ev) w):=by
 obtain⟨h0,hsg⟩:=hsg;have hlt:=N.lt;have hle:=N.le;have HN:=hid N;have HS:=hid hsg;have hne:¬s=ByteArray.empty:=by rintro rfl;simp at h0
 have HE:=hid hE;have HDG:=hid N.dig;have c802:w.cell? ⟨B,802,none⟩=some (.bool false):=h.neg;have c803:w.cell? ⟨B,803,none⟩=some (.bool false):=h.trunc;have f802:=h.fz 802;have f803:=h.fz 803;have H:=hid h;clear N hsg hE h;obtain⟨R,hR⟩:∃R,R=aL (aK s p0 q):=⟨_,rfl⟩
 have hch:=vQ s p0 q HN.out q (Nat.le_of_lt hlt) aEv;have hpl:=kV s p0 q (Nat.le_of_lt hlt) hle;have sok:∀j,p0≤j→j≤q→SOk (iX neg (aK s p0 j)) (aL (aK s p0 j)) neg 40:=by
  intro j h1 h2;have hl:=kV s p0 j h1 (by omega);obtain⟨a1,a2,a3,a4,a5,a6,a7,a8⟩:=aFf neg (aK s p0 j) (by omega) (vQ s p0 q HN.out j h1 h2);exact⟨a1,a2,a3,by omega,a5,a6,a7,a8⟩
 have HSO:=hid sok;have HRR:=hid hR;clear sok hR hch hpl;go_enter Tryz.func240,Tryz.ntmps240
 go_upto_block 0 with fail
 go_cut [5] (fun b wx=>b=.int .i64 p0∧aC wx B { aLf with neg:=neg }∧aD (· = B) w wx)
 case first =>
  as_aux_lemma =>
   rcases HS.out with⟨rfl,rfl,g1,g2⟩|⟨rfl,rfl,g1,g2⟩
   ·as_aux_lemma =>
     go_wp2_with fail
     go_meet
     case rel=>exact⟨rfl,(H.out.setNeg false).setTr false,((aD.refl (· = B) _).setCell _ _ (fun _=>rfl)).setCell _ _ (fun _=>rfl)⟩
   ·as_aux_lemma =>
     go_wp2_with fail
     go_meet
     case rel=>exact⟨rfl,((H.out.setNeg false).setTr false).setNeg true,(((aD.refl (· = B) _).setCell _ _ (fun _=>rfl)).setCell _ _ (fun _=>rfl)).setCell _ _ (fun _=>rfl)⟩
 case rest =>
  as_aux_lemma =>
   obtain⟨rfl,hD0,hK0⟩:=hcut;have HD0:=hid hD0;have HK0:=hid hK0;clear hD0 hK0 c802 c803 f802 f803;go_upto_block 1 with fail
   go_cut [5,6,7] (fun i dot dg wx=>i=.int .i64 q∧dot=.bool (aL (aK s p0 q)).dot∧dg=.bool true∧aC wx B (iX neg (aK s p0 q))∧aD (· = B) w wx)
   case first =>
    as_aux_lemma =>
     go_wp2_with fail
     go_loopw [5,6,7] (fun i dot dg wr=>∃j:Nat,p0≤j∧j≤q∧i=.int .i64 j∧dot=.bool (aL (aK s p0 j)).dot∧dg=.bool (aL (aK s p0 j)).dig∧aC wr B (iX neg (aK s p0 j))∧aD (· = B) w wr) (fun i _ _ _=>q-(intOf i).toNat)
     case atStart=>exact⟨p0,Nat.le_refl _,Nat.le_of_lt hlt,rfl,by rw[gG];rfl,by rw[gG];rfl,by rw[gG];exact HD0.out,HK0.out⟩
     case round =>
      as_aux_lemma =>
       obtain⟨j,hp,hj,rfl,rfl,rfl,hD,hK⟩:=hrel;have so:=HSO.out j hp hj;have HD:=hid hD;have HK:=hid hK;obtain⟨S,hS⟩:∃S,iX neg (aK s p0 j)=S:=⟨_,rfl⟩
       obtain⟨r,hr⟩:∃r,aL (aK s p0 j)=r:=⟨_,rfl⟩
       rw[hS]at so HD
       rw[hr]at so ⊢
       have e1:=so.nd;have e2:=so.le;have e3:-100≤S.dp∧S.dp≤100:=by
        have:=aBF s p0 q HN.out j hp hj;rw[hr]at this
        have h1:=this.lo;have h2:=this.hi;have h3:=so.dp;omega
       obtain⟨e3,e4⟩:=e3;obtain⟨n,hn⟩:∃n,S.nd=n:=⟨_,rfl⟩
       have c800:wr.cell? ⟨B,800,none⟩=some (.int .i64 n):=by rw[←hn];exact HD.out.nd
       have c801:wr.cell? ⟨B,801,none⟩=some (.int .i64 S.dp):=HD.out.dp;have f800:=HD.out.fz 800;have f801:=HD.out.fz 801;rw[hn]at e2
       have HSN:=hid hn;have HS2:=hid hS;have HR2:=hid hr;have HSO2:=hid so;clear hD hK hS hr hn e1 so;by_cases hjq:j<q
       ·have hjs:j<s.size:=by omega
        have hcc:=HN.out.ch j hjs hp hjq;have nx1:aL (aK s p0 (j+1))=dC r s[j]:=by rw[iM s p0 j hp hjs,cY,HR2.out]
        have nx2:iX neg (aK s p0 (j+1))=sZ S s[j]:=by rw[iM s p0 j hp hjs,aBT,HS2.out]
        by_cases h46:s[j]=46
        ·have hd:=HN.out.dots j hjs hp hjq h46;rw[HR2.out]at hd
         have f1:((s[j].toNat:Int)==95)=false:=by rw[h46];rfl
         have f2:((s[j].toNat:Int)==46)=true:=by rw[h46];rfl
         have n1:(aL (aK s p0 (j+1))).dot=true∧(aL (aK s p0 (j+1))).dig=r.dig:=by rw[nx1];unfold dC;rw[if_pos h46];exact⟨rfl,rfl⟩
         have n2:iX neg (aK s p0 (j+1))={ S with dp:=S.nd }:=by rw[nx2];unfold sZ;rw[if_pos h46]
         have N1:=hid n1;have N2:=hid n2;rw[hd];clear hcc h46 nx1 nx2 n1 n2 hd;as_aux_lemma =>
          go_wp2_with fail
          go_roundw
          case measure=>(simp[intOf];try omega)
          case rel=>exact⟨j+1,by omega,by omega,by go_num,by rw[N1.out.1],by rw[N1.out.2],by rw[N2.out];exact HD.out.setDpV _ _ (by rw[HSN.out]),HK.out.setCell _ _ (fun _=>rfl)⟩
        ·have hdig:aE s[j]=true:=by simpa [cO,h46]using hcc
         obtain⟨d1,d2⟩:=dV s[j] hdig;have f1:((s[j].toNat:Int)==95)=false:=by simp;omega
         have f2:((s[j].toNat:Int)==46)=false:=by simp;omega
         by_cases hz:s[j]=48∧n=0
         ·obtain⟨hz1,hz2⟩:=hz;have f3:((s[j].toNat:Int)==48)=true:=by rw[hz1];rfl
          have f4:((n:Int)==0)=true:=by simp[hz2]
          have hnr:r.nd=0:=by have:=HSO2.out.nd;have:=HSN.out;omega
          have n1:(aL (aK s p0 (j+1))).dot=r.dot∧(aL (aK s p0 (j+1))).dig=true:=by rw[nx1];unfold dC;rw[if_neg h46,if_pos ⟨hz1,hnr⟩];exact⟨rfl,rfl⟩
          have n2:iX neg (aK s p0 (j+1))={ S with dp:=S.dp-1 }:=by rw[nx2];unfold sZ;rw[if_neg h46,if_pos ⟨hz1,by rw[HSN.out];exact hz2⟩]
          have N1:=hid n1;have N2:=hid n2;clear hcc h46 nx1 nx2 n1 n2 hz1 hz2 hnr hdig;as_aux_lemma =>
           go_wp2_with fail
           go_roundw
           case measure=>(simp[intOf];try omega)
           case rel=>exact⟨j+1,by omega,by omega,by go_num,by rw[N1.out.1],by rw[N1.out.2],by rw[N2.out];exact HD.out.setDp _,HK.out.setCell _ _ (fun _=>rfl)⟩
         ·have hnr:¬(s[j]=48∧r.nd=0):=by
           intro g;have:=HSO2.out.nd;have:=HSN.out;exact hz ⟨g.1,by omega⟩
          have n1:(aL (aK s p0 (j+1))).dot=r.dot∧(aL (aK s p0 (j+1))).dig=true:=by
           rw[nx1];unfold dC;rw[if_neg h46,if_neg hnr];split<;>exact⟨rfl,rfl⟩
          have n2:iX neg (aK s p0 (j+1))={ S with D:=S.D.set n s[j],nd:=n+1 }:=by rw[nx2];unfold sZ;rw[if_neg h46,if_neg (by rw[HSN.out];exact hz),HSN.out]
          have N1:=hid n1;have N2:=hid n2;have fB:=HD.out.fz n;have n8:n<800:=by omega
          obtain⟨cold,cw⟩:∃x:Value,wr.cell? ⟨B,n,none⟩=some x:=⟨_,HD.out.byte n (by rw[HSO2.out.len];exact n8)⟩
          clear hcc nx1 nx2 n1 n2 hnr hdig;by_cases h48:s[j]=48
          ·have f3:((s[j].toNat:Int)==48)=true:=by rw[h48];rfl
           have f4:((n:Int)==0)=false:=by
            have:n≠0:=fun e=>hz ⟨h48,e⟩
            simp;omega
           clear h46 hz h48;as_aux_lemma =>
            go_wp2_with fail
            go_still_tail 11,(by kernel_rfl)
            go_wp2_with fail
            go_roundw
            case measure=>(simp[intOf];try omega)
            case rel=>exact⟨j+1,by omega,by omega,by go_num,by rw[N1.out.1],by rw[N1.out.2],by rw[N2.out];exact(((HD.out.drewN 1).setByte n n8 s[j] _ rfl).setNdV (n+1) _ (by omega)),((HK.out.drewN 1).setCell _ _ (fun _=>rfl)).setCell _ _ (fun _=>rfl)⟩
          ·have f3:((s[j].toNat:Int)==48)=false:=by simp;intro e;exact h48 (UInt8.toNat_inj.1 (by simp at e ⊢;omega))
           clear h46 hz h48;as_aux_lemma =>
            go_wp2_with fail
            go_still_tail 11,(by kernel_rfl)
            go_wp2_with fail
            go_roundw
            case measure=>(simp[intOf];try omega)
            case rel=>exact⟨j+1,by omega,by omega,by go_num,by rw[N1.out.1],by rw[N1.out.2],by rw[N2.out];exact(((HD.out.drewN 1).setByte n n8 s[j] _ rfl).setNdV (n+1) _ (by omega)),((HK.out.drewN 1).setCell _ _ (fun _=>rfl)).setCell _ _ (fun _=>rfl)⟩
       ·obtain rfl:j=q:=by omega
        have hdq:r.dig=true:=by rw[←HR2.out];exact HDG.out
        rw[hdq];by_cases hqs:j=s.size
        ·have hnl:¬j<s.size:=by omega
         have HQ:=hid hqs;clear hqs hdq;as_aux_lemma =>
          go_wp2_with fail
          go_meet
          case rel=>exact⟨rfl,by rw[HR2.out],rfl,by rw[HS2.out];exact HD.out,HK.out⟩
        ·have hjs:j<s.size:=by omega
         rcases HN.out.stop hjs with he|he
         all_goals
          have f1:((s[j].toNat:Int)==95)=false:=by rw[he];rfl
          have f2:((s[j].toNat:Int)==46)=false:=by rw[he];rfl
          have d1:57<s[j].toNat:=by rw[he];decide
          clear he hdq;as_aux_lemma =>
           go_wp2_with fail
           go_meet
           case rel=>exact⟨rfl,by rw[HR2.out],rfl,by rw[HS2.out];exact HD.out,HK.out⟩
   case rest =>
    as_aux_lemma =>
     obtain⟨rfl,rfl,rfl,hD,hK⟩:=hcut;have so:=HSO.out q (Nat.le_of_lt hlt) aEv;have rb:=aBF s p0 q HN.out q (Nat.le_of_lt hlt) aEv;obtain⟨S,hS⟩:∃S,iX neg (aK s p0 q)=S:=⟨_,rfl⟩
     have hset:aE5 neg (aK s p0 q) ev={ S with dp:=(aL (aK s p0 q)).place+ev }:=by unfold aE5;rw[hS]
     rw[←HRR.out]at so rb hset ⊢
     rw[hS]at so hD
     have e2:=so.le;have e1:=so.nd;have e5:=so.dp;have p1:-100≤R.place∧R.place≤100:=by
      have h1:=rb.lo;have h2:=rb.hi;unfold RS.place;split<;>omega
     obtain⟨p1,p2⟩:=p1;have hplace:R.place=if R.dot=true then S.dp else S.nd:=by unfold RS.place;rw[e5,e1]
     obtain⟨n,hn⟩:∃n,S.nd=n:=⟨_,rfl⟩
     have HD:=hid hD;have HK:=hid hK;have HSET:=hid hset;have HPLA:=hid hplace;have HSN:=hid hn;have c800:wc.cell? ⟨B,800,none⟩=some (.int .i64 n):=by rw[←hn];exact hD.nd
     have c801:wc.cell? ⟨B,801,none⟩=some (.int .i64 S.dp):=hD.dp;have f801:=hD.fz 801;rw[hn]at e2
     clear hD hK hS hset hplace so rb e1 e5 hn;go_upto_if 120 with fail
     go_cut [5,6] (fun i dd wx=>i=.int .i64 q∧dd=.bool R.dot∧aC wx B { S with dp:=R.place }∧aD (· = B) w wx)
     case first =>
      as_aux_lemma =>
       have hpl:=HPLA.out;cases hdot:R.dot
       ·rw[hdot]at hpl
        have HPL:=hid hpl;clear hpl;as_aux_lemma =>
         go_wp2_with fail
         go_meet
         case rel=>exact⟨rfl,by rw[hdot],HD.out.setDpV _ _ (by rw[HPL.out,if_neg (by decide),HSN.out]),HK.out.setCell _ _ (fun _=>rfl)⟩
       ·rw[hdot]at hpl
        have HPL:=hid hpl;clear hpl;as_aux_lemma =>
         go_wp2_with fail
         go_meet
         case rel=>exact⟨rfl,by rw[hdot],by have e:=HPL.out;simp only[if_true]at e;rw[e];exact HD.out,HK.out⟩
     case rest =>
      as_aux_lemma =>
       obtain⟨rfl,rfl,hD3,hK3⟩:=hcut;have HD3:=hid hD3;have HK3:=hid hK3;have c801:wc.cell? ⟨B,801,none⟩=some (.int .i64 R.place):=hD3.dp;have f801:=hD3.fz 801;clear hD3 hK3;have hq1:=HE.out;rcases hq1 with⟨hq,rfl⟩|⟨hq,t,es,hsg,htl,hds,rfl⟩
       ·have hnl:¬q<s.size:=by omega
        have HQ:=hid hq;have eqs:((q:Int) !=s.size)=false:=bne_eq_false_iff_eq.2 (by omega);clear hq;as_aux_lemma =>
         go_wp2_with fail
         go_ret;refine⟨rfl,?_,HK3.out⟩;rw[HSET.out,Int.add_zero];exact HD3.out
       ·have hqs:q<s.size:=by omega
        have hl:=aMR s[q] (HN.out.stop hqs);go_upto_if 138 with(go_at_call 251;refine(aAA _ _).mono ?_;rintro e w' ⟨rfl,rfl⟩)
        go_cut [5] (fun i wx=>i=.int .i64 s.size∧aC wx B { S with dp:=R.place+(bR (aK s t s.size):Nat)*es }∧aD (· = B) wc wx)
        case first =>
         as_aux_lemma =>
          have hds0:=hds t htl aEv;have HDS:=hid hds;rcases hsg with⟨rfl,rfl,hc⟩|⟨rfl,rfl,hc⟩|⟨rfl,rfl,hc⟩
          ·have hb:=dV _ hc;have f1:((s[q+1].toNat:Int)==43)=false:=by simp;omega
           have f2:((s[q+1].toNat:Int)==45)=false:=by simp;omega
           have f3:=hb.1;have f4:=hb.2;clear hb hc hds0 hds hl;go_wp2_with fail
           go_loopg [5,9] (s.size-(q+1)) (fun g i e wx=>∃j,q+1≤j∧j≤s.size∧i=.int .i64 (j:Nat)∧e=.int .i64 (bR (aK s (q+1) j):Nat)∧g=s.size-j∧wx=wc)
           case atStart=>exact⟨q+1,Nat.le_refl _,by omega,by go_num,by rw[gG];rfl,rfl,rfl⟩
           case round =>
            as_aux_lemma =>
             obtain⟨j,hj1,hj2,rfl,rfl,hg,rfl⟩:=hrel;have HG:=hid hg;have ef:=mV s (q+1) j hj1 hj2 HDS.out;obtain⟨E,hEE⟩:∃E,E=bR (aK s (q+1) j):=⟨_,rfl⟩
             rw[←hEE]at ef
             rw[←hEE];have HE2:=hid hEE;clear hg hEE;by_cases hlt:j<s.size
             ·have hb:=dV _ (HDS.out j hlt hj1);have g1:((s[j].toNat:Int)==95)=false:=by simp;omega
              have g3:=hb.1;have g4:=hb.2;clear hb;have hnx:bR (aK s (q+1) (j+1))=eD E s[j]:=by rw[iM s (q+1) j hj1 hlt,iI,←HE2.out]
              have HNX:=hid hnx;clear hnx;by_cases he:E<10000
              ·as_aux_lemma =>
                go_wp2_with fail
                go_roundg (s.size-(j+1))
                case measure=>have:=HG.out;omega
                case rel=>exact⟨j+1,by omega,by omega,by go_num,by rw[HNX.out];unfold eD;rw[if_pos he];go_num,rfl,by trivial⟩
              ·as_aux_lemma =>
                go_wp2_with fail
                go_roundg (s.size-(j+1))
                case measure=>have:=HG.out;omega
                case rel=>exact⟨j+1,by omega,by omega,by go_num,by rw[HNX.out];unfold eD;rw[if_neg he],rfl,by trivial⟩
             ·have hje:s.size=j:=by omega
              have HJE:=hid hje;clear hje;as_aux_lemma =>
               go_wp2_with fail
               go_meet
               case rel =>
                refine⟨by rw[HJE.out],?_,(aD.refl (· = B) _).setCell _ _ (fun _=>rfl)⟩;refine HD3.out.setDpV _ _ ?_;rw[HJE.out,←HE2.out];first|rfl|omega
          ·have hb:=dV _ (hds (q+1+1) (by omega) (by omega));have f1:((s[q+1].toNat:Int)==43)=true:=by rw[hc];rfl
           have f3:=hb.1;have f4:=hb.2;clear hb hc hds0 hds hl;go_wp2_with fail
           go_loopg [5,9] (s.size-(q+2)) (fun g i e wx=>∃j,q+2≤j∧j≤s.size∧i=.int .i64 (j:Nat)∧e=.int .i64 (bR (aK s (q+2) j):Nat)∧g=s.size-j∧wx=wc)
           case atStart=>exact⟨q+2,Nat.le_refl _,by omega,by go_num,by rw[gG];rfl,rfl,rfl⟩
           case round =>
            as_aux_lemma =>
             obtain⟨j,hj1,hj2,rfl,rfl,hg,rfl⟩:=hrel;have HG:=hid hg;have ef:=mV s (q+2) j hj1 hj2 HDS.out;obtain⟨E,hEE⟩:∃E,E=bR (aK s (q+2) j):=⟨_,rfl⟩
             rw[←hEE]at ef
             rw[←hEE];have HE2:=hid hEE;clear hg hEE;by_cases hlt:j<s.size
             ·have hb:=dV _ (HDS.out j hlt hj1);have g1:((s[j].toNat:Int)==95)=false:=by simp;omega
              have g3:=hb.1;have g4:=hb.2;clear hb;have hnx:bR (aK s (q+2) (j+1))=eD E s[j]:=by rw[iM s (q+2) j hj1 hlt,iI,←HE2.out]
              have HNX:=hid hnx;clear hnx;by_cases he:E<10000
              ·as_aux_lemma =>
                go_wp2_with fail
                go_roundg (s.size-(j+1))
                case measure=>have:=HG.out;omega
                case rel=>exact⟨j+1,by omega,by omega,by go_num,by rw[HNX.out];unfold eD;rw[if_pos he];go_num,rfl,by trivial⟩
              ·as_aux_lemma =>
                go_wp2_with fail
                go_roundg (s.size-(j+1))
                case measure=>have:=HG.out;omega
                case rel=>exact⟨j+1,by omega,by omega,by go_num,by rw[HNX.out];unfold eD;rw[if_neg he],rfl,by trivial⟩
             ·have hje:s.size=j:=by omega
              have HJE:=hid hje;clear hje;as_aux_lemma =>
               go_wp2_with fail
               go_meet
               case rel =>
                refine⟨by rw[HJE.out],?_,(aD.refl (· = B) _).setCell _ _ (fun _=>rfl)⟩;refine HD3.out.setDpV _ _ ?_;rw[HJE.out,←HE2.out];first|rfl|omega
          ·have hb:=dV _ (hds (q+1+1) (by omega) (by omega));have f1:((s[q+1].toNat:Int)==43)=false:=by rw[hc];rfl
           have f2:((s[q+1].toNat:Int)==45)=true:=by rw[hc];rfl
           have f3:=hb.1;have f4:=hb.2;clear hb hc hds0 hds hl;go_wp2_with fail
           go_loopg [5,9] (s.size-(q+2)) (fun g i e wx=>∃j,q+2≤j∧j≤s.size∧i=.int .i64 (j:Nat)∧e=.int .i64 (bR (aK s (q+2) j):Nat)∧g=s.size-j∧wx=wc)
           case atStart=>exact⟨q+2,Nat.le_refl _,by omega,by go_num,by rw[gG];rfl,rfl,rfl⟩
           case round =>
            as_aux_lemma =>
             obtain⟨j,hj1,hj2,rfl,rfl,hg,rfl⟩:=hrel;have HG:=hid hg;have ef:=mV s (q+2) j hj1 hj2 HDS.out;obtain⟨E,hEE⟩:∃E,E=bR (aK s (q+2) j):=⟨_,rfl⟩
             rw[←hEE]at ef
             rw[←hEE];have HE2:=hid hEE;clear hg hEE;by_cases hlt:j<s.size
             ·have hb:=dV _ (HDS.out j hlt hj1);have g1:((s[j].toNat:Int)==95)=false:=by simp;omega
              have g3:=hb.1;have g4:=hb.2;clear hb;have hnx:bR (aK s (q+2) (j+1))=eD E s[j]:=by rw[iM s (q+2) j hj1 hlt,iI,←HE2.out]
              have HNX:=hid hnx;clear hnx;by_cases he:E<10000
              ·as_aux_lemma =>
                go_wp2_with fail
                go_roundg (s.size-(j+1))
                case measure=>have:=HG.out;omega
                case rel=>exact⟨j+1,by omega,by omega,by go_num,by rw[HNX.out];unfold eD;rw[if_pos he];go_num,rfl,by trivial⟩
              ·as_aux_lemma =>
                go_wp2_with fail
                go_roundg (s.size-(j+1))
                case measure=>have:=HG.out;omega
                case rel=>exact⟨j+1,by omega,by omega,by go_num,by rw[HNX.out];unfold eD;rw[if_neg he],rfl,by trivial⟩
             ·have hje:s.size=j:=by omega
              have HJE:=hid hje;clear hje;as_aux_lemma =>
               go_wp2_with fail
               go_meet
               case rel =>
                refine⟨by rw[HJE.out],?_,(aD.refl (· = B) _).setCell _ _ (fun _=>rfl)⟩;refine HD3.out.setDpV _ _ ?_;rw[HJE.out,←HE2.out];first|rfl|omega
        case rest =>
         as_aux_lemma =>
          obtain⟨rfl,hD4,hK4⟩:=hcut;have HD4:=hid hD4;have HK4:=hid hK4;have HSET2:=HSET;clear hD4 hK4 c801 f801 hl;as_aux_lemma =>
           go_wp2_with fail
           go_ret;refine⟨rfl,?_,HK3.out.trans HK4.out⟩;rw[HSET2.out];exact HD4.out
end Go.Proofs.YtcfgbdhpcboikaaGreatDoor
