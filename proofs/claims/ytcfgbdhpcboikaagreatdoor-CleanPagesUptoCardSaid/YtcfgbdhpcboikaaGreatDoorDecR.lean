/-
The slow decimals: rightShift.
-/
import Derived.Test.YtcfgbdhpcboikaaGreatDoorDecM
namespace Go.Proofs.YtcfgbdhpcboikaaGreatDoor
set_option maxHeartbeats 8000000
set_option maxRecDepth 100000
open Go.RowKit
theorem aLc (k:Nat)(l:List Nat)(n r:Nat)(h:n / 2^k≠0):Dec.pick k l n r=(n,r):=by
 cases l with|nil=>{show Dec.pickz k 20 n r=_;show(if n / 2^k=0 then _ else _)=_;rw[ac h]}|cons d l=>{show(if n / 2^k=0 then _ else _)=_;rw[ac h]}
theorem tM (n k:Nat):((n:Int) / 2^k)=((n / 2^k:Nat):Int):=by
 rw[nn];simp
theorem aGB (N C d:Nat)(hN:N<=1152921504606846976)(hC:C=d+48)(hd:d<=9) :
  ∃M S,IntKind.u64.wrap ((N:Int)*10)=(M:Int)/\IntKind.u64.wrap ((M:Int)+C)=(S:Int)/\IntKind.u64.wrap ((S:Int)-48)=((N*10+d:Nat):Int):=by
 refine⟨N*10,N*10+d+48,?_,?_,?_⟩;{rw[kK];omega};{rw[kK];omega};{rw[kK];omega}
theorem aFA (N k:Nat)(hN:N<18446744073709551616)(hk:k<61):bits .and .u64 (N:Int) ((2^k-1:Nat):Int)=((N%2^k:Nat):Int):=by
 have:=aFs k hk;rw[np N (2^k-1) hN (by omega),jq]
theorem aIg (B k:Nat)(s:Dec.Dc)(w:H)(h:aF w B s)(hF:Dec.Fine s)(hn:1<=s.nd)(k1:1<=k)(k2:k<61)(p1:-100000000<=s.dp)(p2:s.dp<=100000000) :
  Y 289 #[.pointer (some ⟨B,0,none⟩),.int .u64 k] w (mE B (Dec.rsh k s) w):=by
 have hnd:=hF.le;obtain⟨dd,dr,f1,f2,_,f4,f5⟩:=Dec.fine_cons hF hn;have hds:∀d∈Dec.dgs s.D s.nd,d<10:=by{rw[f1];exact f4};have hlen:(Dec.dgs s.D s.nd).length=s.nd:=by{rw[f1,bw];exact f5};have hp:=Dec.pick_ok k (Dec.dgs s.D s.nd) 0 0 k2 hds (.inr ⟨dd,dr,f1,f2⟩) (by have:=ay k;omega);obtain⟨_,_,g1,g2,g3,g4,g5,_⟩:=Dec.fullR_head k dd dr k1 k2 f2 f4;rw[<-f1]at g4 g5;obtain⟨NF,hNF⟩:∃NF,(Dec.pick k (Dec.dgs s.D s.nd) 0 0).1=NF:=⟨_,rfl⟩;obtain⟨JF,hJF⟩:∃JF,(Dec.pick k (Dec.dgs s.D s.nd) 0 0).2=JF:=⟨_,rfl⟩;have hpk:Dec.pick k (Dec.dgs s.D s.nd) 0 0=(NF,JF):=by{rw[<-hNF,<-hJF]};rw[hNF,hJF]at hp;rw[hJF]at g4 g5;have kp:=aFs k k2;have byt:∀j,j<s.nd->∃c:UInt8,s.D[j]?=some c/\(Dec.dgs s.D s.nd).drop j=Dec.un c :: (Dec.dgs s.D s.nd).drop (j+1)/\c.toNat=Dec.un c+48/\Dec.un c<=9:=by{intro j hj;have hjD:j<s.D.length:=by{have:=h.len;omega};refine⟨s.D[j],bc hjD,?_,?_⟩;{have:(Dec.dgs s.D s.nd)[j]?=some (Dec.un s.D[j]):=by{unfold Dec.dgs;rw[gv,gg,ae hj,bc hjD];rfl};obtain⟨h1,h2⟩:=fc.1 this;rw[dy h1,h2]};{have:=hF.dig s.D[j] (ja.2 ⟨j,by omega,rfl⟩);unfold Dec.un;omega}};have H':=Z h;have HF:=Z hF;have HDS:=Z hds;have HLEN:=Z hlen;have HP:=Z hp;have HPK:=Z hpk;have HBY:=Z byt;have HKP:=Z kp;have lsb:∀m,∀d∈(Dec.dgs s.D s.nd).drop m,d<10:=fun m d hd=>hds d (jk hd);have jb:JF<=821:=by{omega};have j1:1<=JF:=by{omega};have htop:∀e q,Dec.dgs s.D s.nd=e :: q->e≠0:=by{intro e q he;rw[f1]at he;injection he with h1 h2;rw[<-h1];exact f2};have HTOP:=Z htop;have c801:=h.dp;have f801:=h.fz 801;have c800:=h.nd;clear lsb htop h hF hds hlen hp hpk byt kp hNF hJF f1 f2 f4 f5 g1 g2 g3 g5;go_enter Tryz.func289,Tryz.ntmps289;go_upto_block 0 with fail;go_cut [4,6] (fun a b wx=>a=.int .i64 JF/\b=.int .u64 NF/\wx=w)
 case first =>
  as_aux_lemma =>
   go_wp2_with fail
   go_loopw [4,6] (fun r n wr=>∃j N:Nat,j<=s.nd/\r=.int .i64 (j:Int)/\n=.int .u64 (N:Int)/\Dec.pick k ((Dec.dgs s.D s.nd).drop j) N j=(NF,JF)/\N<10*2^k/\(1<=N\/j=0)/\wr=w) (fun r _ _=>s.nd-(intOf r).toNat)
   case atStart=>exact⟨0,0,ax _,rfl,rfl,HPK.o,by have:=ay k;omega,.inr rfl,rfl⟩
   case round =>
    obtain⟨j,N,hj,rfl,rfl,hp,hN,h1,rfl⟩:=hrel;by_cases hq:N / 2^k=0
    ·have et:((N:Int) / 2^k==0)=true:=by rw[tM,hq];rfl
     have hN2:N<2^k:=by
      rcases ak N (2^k)with g|g
      ·exact g
      ·have:=po g (ay k);omega
     have hN3:N<=1152921504606846976:=by have:=HKP.o;omega
     by_cases hjn:j<s.nd
     ·obtain⟨c,b1,b2,b3,b4⟩:=HBY.o j hjn;obtain⟨C,hC⟩:∃C,c.toNat=C:=⟨_,rfl⟩
      obtain⟨hjD,b1'⟩:=fc.1 b1;have ci:wr.cell? ⟨B,j,none⟩=some (.int .u8 (C:Int)):=by rw[H'.o.byte j hjD,b1',hC]
      have cb:C<=57:=by omega
      obtain⟨M,S,e1,e2,e3⟩:=aGB N C (Dec.un c) hN3 (by omega) b4;obtain⟨R,hR⟩:∃R,N*10+Dec.un c=R:=⟨_,rfl⟩
      rw[hR]at e3
      have hp2:Dec.pick k ((Dec.dgs s.D s.nd).drop (j+1)) R (j+1)=(NF,JF):=by
       rw[<-hp,b2,<-hR];show _=(if N / 2^k=0 then _ else _)
       rw[ae hq]
      have hR2:R<10*2^k:=by rw[<-hR];exact Dec.first_add k N _ hq (by omega)
      have hR1:1<=R\/j+1=0:=by
       left;rcases h1 with h1|h1
       ·omega
       ·subst h1;rw[dt]at b2
        have:=HTOP.o _ _ b2;omega
      have HP2:=Z hp2;have HR2:=Z hR2;have HR1:=Z hR1;clear hp hN h1 hq hN2 hN3 b1 b2 b3 b4 hC b1' hjD hR hp2 hR2 hR1;go_wp2
      go_roundw
      case measure=>(simp[intOf];try omega)
      case rel=>exact⟨j+1,R,by omega,by go_num,rfl,HP2.o,HR2.o,HR1.o,by trivial⟩
     ·have hje:j=s.nd:=by omega
      subst hje;have hN1:1<=N:=by omega
      have ez:((N:Int)==0)=false:=ai.2 (by omega);have hd0:(Dec.dgs s.D s.nd).drop s.nd=[]:=d6 (by rw[HLEN.o];omega);rw[hd0]at hp
      have hpz:Dec.pickz k 20 N s.nd=(NF,JF):=hp;have hN4:2^k<=N*10^20:=by
       have h3:(1152921504606846976:Nat)<=10^20:=by decide
       have h4:1*10^20<=N*10^20:=au _ hN1;have:=HKP.o;omega
      have HPZ:=Z hpz;have HN:=Z hN;have HN4:=Z hN4;clear hp hN h1 hq hN2 hN3 hN1 hd0 hpz hN4 hjn;obtain⟨wo,rfl⟩:∃wo:H,wo=wr:=⟨_,rfl⟩
      go_wp2_with fail
      go_loop [4,6] (fun r n=>∃f j N:Nat,j+f=s.nd+20/\r=.int .i64 (j:Int)/\n=.int .u64 (N:Int)/\Dec.pickz k f N j=(NF,JF)/\2^k<=N*10^f/\N<10*2^k) (fun r _=>s.nd+20-(intOf r).toNat)
      case atStart=>exact⟨20,s.nd,N,rfl,rfl,rfl,HPZ.o,HN4.o,HN.o⟩
      case round =>
       clear et ez;obtain⟨f,j,N,hjf,rfl,rfl,hp,hl,hN⟩:=hrel;by_cases hq:N / 2^k=0
       ·have et:((N:Int) / 2^k==0)=true:=by rw[tM,hq];rfl
        have hN2:N<2^k:=by
         rcases ak N (2^k)with g|g
         ·exact g
         ·have:=po g (ay k);omega
        cases f with
        | zero=>rw[fg]at hl;omega
        | succ f =>
         obtain⟨R,hR⟩:∃R,N*10=R:=⟨_,rfl⟩
         have e1:IntKind.u64.wrap ((N:Int)*10)=(R:Int):=by rw[kK];have:=HKP.o;omega
         have hp2:Dec.pickz k f R (j+1)=(NF,JF):=by
          rw[<-hp,<-hR];show _=(if N / 2^k=0 then _ else _)
          rw[ae hq]
         have hl2:2^k<=R*10^f:=by rw[<-hR,af,<-Nat.pow_succ'];exact hl
         have hR2:R<10*2^k:=by omega
         have HP2:=Z hp2;have HL2:=Z hl2;have HR2:=Z hR2;have jb2:j<=820:=by omega
         clear hp hl hN hq hN2 hR hp2 hl2 hR2;go_wp2
         go_round
         case measure=>(simp[intOf];try omega)
         case rel=>exact⟨f,j+1,R,by omega,by go_num,rfl,HP2.o,HL2.o,HR2.o⟩
       ·have et:((N:Int) / 2^k==0)=false:=by rw[tM];exact ai.2 (by omega)
        have he:(N,j)=(NF,JF):=by
         rw[<-hp];cases f with
         | zero=>rfl
         | succ f =>
          show _=(if N / 2^k=0 then _ else _)
          rw[ac hq]
        obtain⟨rfl,rfl⟩:=gz he;clear hp hl hN hq he;go_wp2_with fail
        go_meet
        case rel=>exact⟨rfl,rfl,rfl⟩
    ·have et:((N:Int) / 2^k==0)=false:=by rw[tM];exact ai.2 (by omega)
     have he:(N,j)=(NF,JF):=by rw[<-hp,aLc _ _ _ _ hq]
     obtain⟨rfl,rfl⟩:=gz he;clear hp hN hq he h1;go_wp2_with fail
     go_meet
     case rel=>exact⟨rfl,rfl,rfl⟩
 case rest =>
  as_aux_lemma =>
   obtain⟨rfl,rfl,rfl⟩:=hcut;obtain⟨dp',hdp⟩:∃dp':Int,s.dp-(JF-1)=dp':=⟨_,rfl⟩
   have H2:=H'.o.setDpV dp' (s.dp-(JF-1)) hdp;have H2:=Z H2;obtain⟨E,hE⟩:∃E,2^k=E:=⟨_,rfl⟩
   obtain⟨MK,hMK⟩:∃MK,2^k-1=MK:=⟨_,rfl⟩
   have hE':((2:Int)^k)=(E:Int):=by rw[<-hE];simp
   have em1:IntKind.u64.wrap (2^k)=(E:Int):=by rw[kK,hE'];have:=HKP.o;omega
   have em2:IntKind.u64.wrap ((E:Int)-1)=(MK:Int):=by rw[kK];have:=HKP.o;have:=ay k;omega
   have HMK:=Z hMK;have HDP:=Z hdp;have hpk:=HPK.o;have hpp:=HP.o;have HPP:=Z hpp;have HPK2:=Z hpk;clear hdp hE hE' hMK hpk hpp;go_wp2_with fail
   go_loopw [4,5,6] (fun r wv n wr=>∃(j N:Nat) (xs:List Nat),r=.int .i64 (j:Int)/\wv=.int .i64 (xs.length:Nat)/\n=.int .u64 (N:Int)/\xs.length+JF=j/\(j<=s.nd\/j=JF)/\N<10*2^k /\
    xs++Dec.out2 k N ((Dec.dgs s.D s.nd).drop j)=Dec.out2 k NF ((Dec.dgs s.D s.nd).drop JF)/\Dec.left2 k N ((Dec.dgs s.D s.nd).drop j)=Dec.left2 k NF ((Dec.dgs s.D s.nd).drop JF)/\aG (· = B) wc wr /\
    aF wr B { s with D:=Dec.ow s.D 0 (xs.map Dec.ch),dp:=dp' }) (fun r _ _ _=>s.nd-(intOf r).toNat)
   case atStart =>
    exact⟨JF,NF,[],rfl,rfl,rfl,by simp,.inr rfl,HPP.o.2.1,rfl,rfl,(aG.refl _ wc).setCell _ _ (fun _=>rfl),by rw[fj,Dec.ow_nil];exact H2.o⟩
   case round =>
    obtain⟨j,N,xs,rfl,rfl,rfl,hj,hjn,hN,hx,hl,hK,hD⟩:=hrel;have HK:=Z hK;have HD:=Z hD;obtain⟨q,hq⟩:∃q,N / 2^k=q:=⟨_,rfl⟩
    have edig:(N:Int) / 2^k=(q:Int):=by rw[tM,hq]
    have q9:q<=9:=by
     have:N / 2^k<10:=(la (ay k)).2 hN;omega
    obtain⟨R,hR⟩:∃R,N%2^k=R:=⟨_,rfl⟩
    have hN64:N<18446744073709551616:=by have:=HKP.o;omega
    have eand:bits .and .u64 (N:Int) (MK:Int)=(R:Int):=by rw[<-HMK.o,aFA N k hN64 k2,hR]
    have hR60:R<=1152921504606846976:=by
     have:=gn N (ay k);have:=HKP.o;omega
    have hcq:((Dec.ch q).toNat:Int)=(q:Int)+48:=by rw[Dec.ch_nat q (by omega)];omega
    have f800:=hD.fz 800;have c800:wr.cell? ⟨B,800,none⟩=some (.int .i64 s.nd):=hD.nd;by_cases hlt:j<s.nd
    ·obtain⟨c,b1,b2,b3,b4⟩:=HBY.o j hlt;obtain⟨W,hW⟩:∃W,xs.length=W:=⟨_,rfl⟩
     have hW8:W<800:=by omega
     obtain⟨C,hC⟩:∃C,c.toNat=C:=⟨_,rfl⟩
     have ci:wr.cell? ⟨B,j,none⟩=some (.int .u8 (C:Int)):=by
      have hjO:j<(Dec.ow s.D 0 (xs.map Dec.ch)).length:=by rw[Dec.ow_len _ _ _ H'.o.len];omega
      have g:(Dec.ow s.D 0 (xs.map Dec.ch))[j]?=some c:=by
       rw[Dec.ow_get _ _ _ H'.o.len,ac (by omega),ac (by rw[dw];omega),b1]
      have:=hD.byte j hjO;rw[show(Dec.ow s.D 0 (xs.map Dec.ch))[j]=c from(fc.1 g).2,hC]at this
      exact this
     have cb:C<=57:=by omega
     obtain⟨M,S,e1,e2,e3⟩:=aGB R C (Dec.un c) hR60 (by omega) b4;obtain⟨N',hN'⟩:∃N',R*10+Dec.un c=N':=⟨_,rfl⟩
     rw[hN']at e3
     have hre:Dec.rest k N+Dec.un c=N':=by unfold Dec.rest;rw[hR,hN']
     have hx2:(xs++[q])++Dec.out2 k N' ((Dec.dgs s.D s.nd).drop (j+1))=Dec.out2 k NF ((Dec.dgs s.D s.nd).drop JF):=by
      rw[<-hx,b2,ct];show _=xs++(N / 2^k :: Dec.out2 k (Dec.rest k N+Dec.un c) _)
      rw[hq,hre];rfl
     have hl2:Dec.left2 k N' ((Dec.dgs s.D s.nd).drop (j+1))=Dec.left2 k NF ((Dec.dgs s.D s.nd).drop JF):=by
      rw[<-hl,b2];show _=Dec.left2 k (Dec.rest k N+Dec.un c) _;rw[hre]
     have hN2:N'<10*2^k:=by rw[<-hre];exact(Dec.rest_add k N _ (by omega)).1
     have fB:=hD.fz W;obtain⟨cold,cw⟩:∃x:Value,wr.cell? ⟨B,W,none⟩=some x:=⟨_,hD.byte W (by rw[Dec.ow_len _ _ _ H'.o.len];exact hW8)⟩
     have HX2:=Z hx2;have HL2:=Z hl2;have HN2:=Z hN2;have HCQ:=Z hcq;have HW:=Z hW;have HJ:=Z hj;rw[hW];clear hK hD hj hjn hN hx hl hq hR hN64 hR60 hcq b1 b2 b3 b4 hC hN' hre hx2 hl2 hN2 hW;go_wp2
     go_roundw
     case measure=>(simp[intOf];try omega)
     case rel =>
      refine⟨j+1,N',xs++[q],by go_num,?_,rfl,?_,.inl (by omega),HN2.o,HX2.o,HL2.o,HK.o.setCell _ _ (fun _=>rfl),?_⟩
      ·exact az (Value.int .i64) (by rw[aw,HW.o];rfl)
      ·rw[aw,HW.o];have:=HJ.o;have:=HW.o;simp only[ku];omega
      ·have hlm:(xs.map Dec.ch).length=W:=by rw[dw,HW.o]
       have:=HD.o.setByte W hW8 (Dec.ch q) _ HCQ.o.symm;rw[lf,pz,<-Dec.ow_snoc _ _ _ H'.o.len (by omega),hlm];exact this
    ·have hd0:(Dec.dgs s.D s.nd).drop j=[]:=d6 (by rw[HLEN.o];omega);rw[hd0]at hx hl
     have hx0:xs=Dec.out2 k NF ((Dec.dgs s.D s.nd).drop JF):=by rw[<-hx];exact(dc xs).symm
     have hl0:N=Dec.left2 k NF ((Dec.dgs s.D s.nd).drop JF):=hl;have hfull:Dec.fullR k (Dec.dgs s.D s.nd)=xs++Dec.out3 k (k+2) N:=by
      unfold Dec.fullR;rw[HPK2.o,<-hx0,<-hl0]
     have hxl:xs.length<=800:=by omega
     have HF2:=Z hfull;have HN:=Z hN;obtain⟨W,hW⟩:∃W,xs.length=W:=⟨_,rfl⟩
     have HW:=Z hW;rw[hW];rw[hW]at hxl
     clear hK hD hj hjn hN hx hl hq hR hN64 hR60 hcq hd0 hx0 hl0 hfull edig eand hW q9;obtain⟨wo,rfl⟩:∃wo:H,wo=wr:=⟨_,rfl⟩
     go_wp2_with fail
     go_loopg [5,6] (k+1) (fun g wv n wr=>∃(f N:Nat) (zs:List Nat),g=f/\wv=.int .i64 (min zs.length 800:Nat)/\n=.int .u64 (N:Int)/\Dec.restN k f N=0/\zs++Dec.out3 k (f+1) N=Dec.fullR k (Dec.dgs s.D s.nd)/\N<10*2^k/\aG (· = B) wc wr /\
      aF wr B { s with D:=Dec.ow s.D 0 (zs.map Dec.ch),dp:=dp',trunc:=s.trunc||Dec.over 0 (zs.map Dec.ch) })
     case atStart =>
      refine⟨k+1,N,xs,rfl,?_,rfl,Dec.rest_all k N,HF2.o.symm,HN.o,HK.o,?_⟩
      ·exact az (Value.int .i64) (by rw[HW.o];omega)
      ·have:Dec.over 0 (xs.map Dec.ch)=false:=by
        unfold Dec.over;rw[d6 (by rw[dw,HW.o];omega)];rfl
       rw[this,ru];exact HD.o
     case round =>
      clear c800;obtain⟨f,N,zs,hg,rfl,rfl,hr,hz,hN,hK,hD⟩:=hrel;have HG:=Z hg;have HK3:=Z hK;have HD3:=Z hD;obtain⟨W2,hW2⟩:∃W2,min zs.length 800=W2:=⟨_,rfl⟩
      have HW2:=Z hW2;rw[hW2];by_cases hN0:N=0
      ·subst hN0;have hz0:zs=Dec.fullR k (Dec.dgs s.D s.nd):=by
        rw[<-hz];show _=zs++(if 0=0 then []else _)
        rw[ae rfl,dc]
       have c800:wr.cell? ⟨B,800,none⟩=some (.int .i64 s.nd):=hD.nd;have f800:=hD.fz 800;have f801:=hD.fz 801;have ersh:Dec.rshD k s={ ({ s with D:=Dec.ow s.D 0 (zs.map Dec.ch),dp:=dp',trunc:=s.trunc||Dec.over 0 (zs.map Dec.ch) }:Dec.Dc)with nd:=W2 }:=by
        unfold Dec.rshD;rw[<-hz0,HPK2.o,<-HDP.o,<-hW2,dw]
       have HEL:=Z ersh;have w28:W2<=800:=by omega
       clear hr hz hN hK hD hW2 hz0 ersh hg;go_wp2_with fail
       refine(aB4 B (Dec.rshD k s) _ ?_ ?_).mono ?_
       ·rw[HEL.o];exact HD3.o.setNdV W2 _ rfl
       ·rw[HEL.o];exact w28
       rintro e w' ⟨rfl,hd',hk'⟩;have HD':=Z hd';have HK':=Z hk';clear hd' hk';go_wp2
       go_end0
       exact⟨rfl,HD'.o,(HK3.o.setCell _ _ (fun _=>rfl)).trans HK'.o⟩
      ·cases f with
       | zero=>exact absurd hr hN0
       | succ f =>
        have hNp:(0:Int)<N:=by omega
        obtain⟨q,hq⟩:∃q,N / 2^k=q:=⟨_,rfl⟩
        have edig:(N:Int) / 2^k=(q:Int):=by rw[tM,hq]
        have q9:q<=9:=by
         have:N / 2^k<10:=(la (ay k)).2 hN;omega
        obtain⟨R,hR⟩:∃R,N%2^k=R:=⟨_,rfl⟩
        have hN64:N<18446744073709551616:=by have:=HKP.o;omega
        have eand:bits .and .u64 (N:Int) (MK:Int)=(R:Int):=by rw[<-HMK.o,aFA N k hN64 k2,hR]
        obtain⟨N',hN'⟩:∃N',R*10=N':=⟨_,rfl⟩
        have e1:IntKind.u64.wrap ((R:Int)*10)=(N':Int):=by
         rw[kK];have:=gn N (ay k);have:=HKP.o;omega
        have hre:Dec.rest k N=N':=by unfold Dec.rest;rw[hR,hN']
        have hr2:Dec.restN k f N'=0:=by rw[<-hre];exact hr
        have hz2:(zs++[q])++Dec.out3 k (f+1) N'=Dec.fullR k (Dec.dgs s.D s.nd):=by
         rw[<-hz,ct];show _=zs++(if N=0 then []else N / 2^k :: Dec.out3 k (f+1) (Dec.rest k N))
         rw[ac hN0,hq,hre];rfl
        have hN2:N'<10*2^k:=by rw[<-hre];exact Dec.rest_lt k N
        have hcq:((Dec.ch q).toNat:Int)=(q:Int)+48:=by rw[Dec.ch_nat q (by omega)];omega
        have HR2:=Z hr2;have HZ2:=Z hz2;have HN2:=Z hN2;have HCQ:=Z hcq;have f803:=hD.fz 803;have fB:=hD.fz W2;have c803:wr.cell? ⟨B,803,none⟩=some (.bool _):=hD.trunc;by_cases hlt:zs.length<800
        ·have hW3:zs.length=W2:=by omega
         have HW3:=Z hW3;have hW8:W2<800:=by omega
         obtain⟨cold,cw⟩:∃x:Value,wr.cell? ⟨B,W2,none⟩=some x:=⟨_,hD.byte W2 (by rw[Dec.ow_len _ _ _ H'.o.len];exact hW8)⟩
         clear hr hz hN hK hD hg hW2 hN0 hq hR hN64 hN' hre hr2 hz2 hN2 hcq hW3;go_wp2
         go_roundg f
         case measure=>have:=HG.o;omega
         case rel =>
          refine⟨f,N',zs++[q],rfl,?_,rfl,HR2.o,HZ2.o,HN2.o,HK3.o.setCell _ _ (fun _=>rfl),?_⟩
          ·exact az (Value.int .i64) (by rw[aw,HW3.o,ku];omega)
          ·have hlm:(zs.map Dec.ch).length=W2:=by rw[dw,HW3.o]
           have:=HD3.o.setByte W2 hW8 (Dec.ch q) _ HCQ.o.symm;rw[lf,pz,<-Dec.ow_snoc _ _ _ H'.o.len (by omega),hlm,Dec.over_snoc_in _ _ (by omega)];exact this
        ·have hge:800<=(zs.map Dec.ch).length:=by rw[dw];omega
         have hW8:W2=800:=by omega
         subst hW8;have HGE:=Z hge;by_cases h0:q=0
         ·subst h0;clear hr hz hN hK hD hg hW2 hN0 hq hR hN64 hN' hre hr2 hz2 hN2 hcq hge;go_wp2
          go_roundg f
          case measure=>have:=HG.o;omega
          case rel =>
           refine⟨f,N',zs++[0],rfl,?_,rfl,HR2.o,HZ2.o,HN2.o,HK3.o,?_⟩
           ·exact az (Value.int .i64) (by rw[aw,ku];omega)
           ·rw[lf,pz,<-Dec.ow_full _ _ _ HGE.o H'.o.len,Dec.over_snoc_out _ _ HGE.o];have e0:(Dec.ch 0 !=48)=false:=by decide
            rw[e0,ru];exact HD3.o
         ·have hqp:(0:Int)<q:=by omega
          clear hr hz hN hK hD hg hW2 hN0 hq hR hN64 hN' hre hr2 hz2 hN2 hcq hge;go_wp2
          go_roundg f
          case measure=>have:=HG.o;omega
          case rel =>
           refine⟨f,N',zs++[q],rfl,?_,rfl,HR2.o,HZ2.o,HN2.o,HK3.o.setCell _ _ (fun _=>rfl),?_⟩
           ·exact az (Value.int .i64) (by rw[aw,ku];omega)
           ·rw[lf,pz,<-Dec.ow_full _ _ _ HGE.o H'.o.len,Dec.over_snoc_out _ _ HGE.o];have e0:(Dec.ch q !=48)=true:=by
             rw[db];intro e;have:=az UInt8.toNat e;rw[Dec.ch_nat q (by omega)]at this
             have e48:(48:UInt8).toNat=48:=rfl;omega
            rw[e0,rt,rt];exact HD3.o.setTr true
open Go.RowKit
def kI:Nat->Dec.Dc->Dec.Dc
 | 0,s=>s
 | j+1,s=>kI j (Dec.rsh 60 s)
theorem aIi (B k:Nat)(s:Dec.Dc)(w:H)(T:pI w B)(h:aF w B s)(hF:Dec.Fine s)(hn:1<=s.nd)(k1:1<=k)(k2:k<61)(p1:-100000000<=s.dp)(p2:s.dp<=100000000) :
  Y 263 #[.pointer (some ⟨B,0,none⟩),.int .i64 k] w (mE B (Dec.lsh k s) w):=by
 have LS:∀u,pI u B->aF u B s->Y 288 #[.pointer (some ⟨B,0,none⟩),.int .u64 k] u (mE B (Dec.lsh k s) u):=fun u hu hd=>aPr B k s u hu hd hF hn k1 k2 p1 p2;have c8:=h.nd;have hne:((s.nd:Int)==0)=false:=ai.2 (by omega);have kp:(0:Int)<k:=by{omega};have k60:¬(60:Int)<k:=by{omega};have H':=Z h;have HT:=Z T;have HLS:=Z LS;clear h T LS hF;go_enter Tryz.func263,Tryz.ntmps263;go_wp2_with fail;go_loopw [1] (fun v wr=>v=.int .i64 (k:Int)/\wr=w) (fun _ _=>0);case atStart=>exact⟨rfl,rfl⟩
 case round =>obtain⟨rfl,rfl⟩:=hrel;go_wp2_with fail;refine(HLS.o _ HT.o H'.o).mono ?_;rintro e w' ⟨rfl,hd,hk⟩;have HD:=Z hd;have HK:=Z hk;clear hd hk;go_wp2;go_end0;exact⟨rfl,HD.o,HK.o⟩
theorem aIT (j:Nat):∀(s:Dec.Dc),Dec.Fine s->1<=s.nd->Dec.Fine (kI j s)/\1<=(kI j s).nd/\(kI j s).dp<=s.dp/\s.dp-820*j<=(kI j s).dp:=by
 induction j with|zero=>{intro s h hn;exact⟨h,hn,iq _,by show s.dp-820*0<=s.dp;omega⟩}|succ j ih=>{intro s h hn;obtain⟨a,b,c,d,_,_⟩:=Dec.rsh_fine 60 s (by decide) (by decide) h hn;obtain⟨e,f,g,i⟩:=ih _ a b;exact⟨e,f,Int.le_trans g c,by show s.dp-820*((j+1:Nat):Int)<=(kI j (Dec.rsh 60 s)).dp;omega⟩}
theorem aIj (B j k:Nat)(s:Dec.Dc)(w:H)(h:aF w B s)(hF:Dec.Fine s)(hn:1<=s.nd)(k1:1<=k)(k2:k<61)(hj:j<=10000)(p1:-50000000<=s.dp)(p2:s.dp<=100000000) :
  Y 263 #[.pointer (some ⟨B,0,none⟩),.int .i64 (-((60*j+k:Nat):Int))] w (mE B (Dec.rsh k (kI j s)) w):=by
 obtain⟨n,hnn⟩:∃n:Int,n=-((60*j+k:Nat):Int):=⟨_,rfl⟩;rw[<-hnn];have c8:=h.nd;have hne:((s.nd:Int)==0)=false:=ai.2 (by omega);have kn:¬(0:Int)<n:=by{omega};have kn2:n<0:=by{omega};have H':=Z h;have HN:=Z hnn;have HF:=Z hF;clear h hF hnn;go_enter Tryz.func263,Tryz.ntmps263;go_wp2_with fail;go_loopw [1] (fun v wr=>∃(i:Nat) (t:Dec.Dc),v=.int .i64 (-((60*i+k:Nat):Int))/\i<=j/\kI i t=kI j s/\Dec.Fine t/\1<=t.nd/\t.dp<=s.dp/\s.dp-820*(j-i:Nat)<=t.dp/\aF wr B t/\aG (· = B) w wr) (fun v _=>(-(intOf v)).toNat);case atStart=>exact⟨j,s,by rw[HN.o],ag _,rfl,HF.o,hn,iq _,by omega,H'.o,aG.refl _ _⟩
 case round =>obtain⟨i,t,hv,hi,ht,hT,hn1,hd1,hd2,hD,hK⟩:=hrel;have HD:=Z hD;have HK:=Z hK;have HT:=Z hT;have HI:=Z ht;cases i with|zero=>{obtain rfl:=(show _=Value.int .i64 (-(k:Int))from hv.trans (az (Value.int .i64) (by omega)));have kk:¬(-(k:Int) < -60):=by{omega};have RS:∀u,aF u B t->Y 289 #[.pointer (some ⟨B,0,none⟩),.int .u64 k] u (mE B (Dec.rsh k t) u):=fun u hd=>aIg B k t u hd hT hn1 k1 k2 (by omega) (by omega);have HRS:=Z RS;clear hv ht hT hD hK RS;go_wp2_with fail;refine(HRS.o _ HD.o).mono ?_;rintro e w' ⟨rfl,hd,hk⟩;have HD':=Z hd;have HK':=Z hk;clear hd hk;go_wp2;go_end0;refine⟨rfl,?_,HK.o.trans HK'.o⟩;rw[<-HI.o];exact HD'.o}|succ i=>{obtain⟨m,hm⟩:∃m:Int,m=-((60*(i+1)+k:Nat):Int):=⟨_,rfl⟩;rw[<-hm]at hv;subst hv;have kk:m < -60:=by{omega};have km:-1000000<=m:=by{omega};have HM:=Z hm;have RS:∀u,aF u B t->Y 289 #[.pointer (some ⟨B,0,none⟩),.int .u64 60] u (mE B (Dec.rsh 60 t) u):=fun u hd=>aIg B 60 t u hd hT hn1 (by decide) (by decide) (by omega) (by omega);have HRS:=Z RS;obtain⟨q1,q2,q3,q4,_,_⟩:=Dec.rsh_fine 60 t (by decide) (by decide) hT hn1;have Q1:=Z q1;have Q3:=Z (Int.le_trans q3 hd1);have Q4:G (s.dp-820*(j-i:Nat)<=(Dec.rsh 60 t).dp):=by{show _<=_;omega};have Q2:=Z q2;clear ht hT hD hK RS hm q1 q2 q3 q4;go_wp2_with fail;refine(HRS.o _ HD.o).mono ?_;rintro e w' ⟨rfl,hd,hk⟩;have HD':=Z hd;have HK':=Z hk;clear hd hk;go_wp2;go_roundw;(case measure=>(simp[intOf];try omega));case rel=>exact⟨i,Dec.rsh 60 t,az (Value.int .i64) (by have:=HM.o;omega),by omega,HI.o,Q1.o,Q2.o,Q3.o,Q4.o,HD'.o,HK.o.trans HK'.o⟩}
open Go.RowKit
def dig (s:Dec.Dc)(i:Nat):Nat:=(s.D.getD i 48).toNat
theorem aF.dig {w:H}{B:Nat}{s:Dec.Dc}(h:aF w B s)(i:Nat)(hi:i<800):w.cell? ⟨B,i,none⟩=some (.int .u8 (Go.Proofs.YtcfgbdhpcboikaaGreatDoor.dig s i:Nat)):=by
 have hl:i<s.D.length:=by{rw[h.len];exact hi};rw[h.byte i hl];unfold Go.Proofs.YtcfgbdhpcboikaaGreatDoor.dig;rw[lg,bc hl];rfl
def upD (s:Dec.Dc):Bool :=
 if s.dp<0\/(s.nd:Int)<=s.dp then false
 else if dig s s.dp.toNat=53/\s.dp.toNat+1=s.nd then s.trunc||(decide (0<s.dp.toNat)&&decide ((dig s (s.dp.toNat-1)-48)%2≠0))
 else decide (53<=dig s s.dp.toNat)
theorem aFW (s:Dec.Dc)(hF:Dec.Fine s)(i:Nat)(hi:i<s.nd):48<=dig s i/\dig s i<=57:=by
 have hl:i<s.D.length:=by{have:=hF.len;have:=hF.le;omega};have:=hF.dig s.D[i] (ja.2 ⟨i,by omega,rfl⟩);unfold dig;rw[lg,bc hl];exact this
theorem aRW (B:Nat)(s:Dec.Dc)(w:H)(h:aF w B s)(hF:Dec.Fine s)(p1:-100000000<=s.dp)(p2:s.dp<=100000000) :
  Y 290 #[.pointer (some ⟨B,0,none⟩),.int .i64 s.dp] w fun e w'=>e=.returned (.bool (upD s))/\w=w':=by
 have hnd:=hF.le;have c800:=h.nd;have c803:=h.trunc;have fd:=aFW s hF;have H':=Z h;obtain⟨nd,hN⟩:∃nd,s.nd=nd:=⟨_,rfl⟩
 obtain⟨tr,hT⟩:∃tr,s.trunc=tr:=⟨_,rfl⟩
 have u0:upD s=if s.dp<0\/(s.nd:Int)<=s.dp then false
  else if dig s s.dp.toNat=53/\s.dp.toNat+1=s.nd then s.trunc||(decide (0<s.dp.toNat)&&decide ((dig s (s.dp.toNat-1)-48)%2≠0))
  else decide (53<=dig s s.dp.toNat):=rfl
 by_cases h1:s.dp<0
 ·rw[ae (.inl h1)]at u0
  rw[u0];clear fd hF h u0;go_enter Tryz.func290,Tryz.ntmps290
  go_wp2
  go_ret;exact⟨rfl,rfl⟩
 ·by_cases h2:(s.nd:Int)<=s.dp
  ·rw[ae (.inr h2)]at u0
   rw[u0];clear fd hF h u0 hN hT;go_enter Tryz.func290,Tryz.ntmps290
   go_wp2
   go_ret;exact⟨rfl,rfl⟩
  ·rw[ac (by omega)]at u0
   obtain⟨i,hi⟩:∃i:Nat,s.dp=(i:Int):=⟨s.dp.toNat,by omega⟩
   rw[hi,fh,hN,hT]at u0
   rw[hi];rw[hN]at c800
   rw[hT]at c803
   have hin:i<nd:=by omega
   have hi8:i<800:=by omega
   have ci:=h.dig i hi8;obtain⟨C,hC⟩:∃C,dig s i=C:=⟨_,rfl⟩
   rw[hC]at ci u0
   have cb:=fd i (by omega);rw[hC]at cb
   obtain⟨cb1,cb2⟩:=cb;by_cases h5:C=53
   ·subst h5;by_cases hl:i+1=nd
    ·rw[ae ⟨rfl,hl⟩]at u0
     have el:((i:Int)+1==nd)=true:=cv.2 (by omega);cases tr with
     | true =>
      rw[Bool.true_or]at u0
      rw[u0];clear fd hF h u0 hN hT hi hC h1 h2 hl;go_enter Tryz.func290,Tryz.ntmps290
      go_wp2
      go_ret;exact⟨rfl,rfl⟩
     | false =>
      rw[jw]at u0
      cases i with
      | zero =>
       rw[show(decide (0<0)&&decide ((dig s (0-1)-48)%2≠0))=false by simp]at u0
       rw[u0];have ci':w.cell? ⟨B,0,none⟩=some (.int .u8 53):=ci;have el':((0:Int)+1==nd)=true:=el;clear fd hF h u0 hN hT hi hC h1 h2 hl ci el;have el2:((1:Int)==nd)=true:=by simpa using el'
       go_enter Tryz.func290,Tryz.ntmps290
       go_wp2
       go_ret;exact⟨rfl,rfl⟩
      | succ i =>
       have cj:=h.dig i (by omega);have cd:=fd i (by omega);obtain⟨d,hd⟩:∃d,dig s i-48=d:=⟨_,rfl⟩
       rw[show dig s i=d+48 by omega]at cj
       have cj':w.cell? ⟨B,i,none⟩=some (.int .u8 ((d:Int)+48)):=by rw[cj];rfl
       have d9:d<=9:=by omega
       rw[show(decide (0<i+1)&&decide ((dig s (i+1-1)-48)%2≠0))=decide (d%2≠0) by rw[show i+1-1=i by omega,hd];simp]at u0
       rw[u0];have ci':w.cell? ⟨B,i+1,none⟩=some (.int .u8 53):=ci;have c0:(0:Int)<(i:Int)+1:=by omega
       have el':((i:Int)+1+1==nd)=true:=by rw[<-el];rfl
       have HU:G ((((d:Int)%2 !=0))=decide (d%2≠0)):=by
        show _=_;by_cases g:d%2=0
        ·have e1:(((d:Int)%2 !=0))=false:=ir.2 (by omega);rw[e1];simp[g]
        ·have e1:(((d:Int)%2 !=0))=true:=db.2 (by omega);rw[e1];simp[g]
       clear fd hF h u0 hN hT hi hC h1 h2 hl ci el cj cd hd;rw[show((i+1:Nat):Int)=(i:Int)+1 by omega];go_enter Tryz.func290,Tryz.ntmps290
       go_wp2
       go_ret;exact⟨yX HU.o,by trivial⟩
    ·have el:((i:Int)+1==nd)=false:=ai.2 (by omega);rw[ac (fun g=>hl g.2)]at u0
     rw[u0];clear fd hF h u0 hN hT hi hC h1 h2 hl;go_enter Tryz.func290,Tryz.ntmps290
     go_wp2
     go_ret;exact⟨rfl,rfl⟩
   ·rw[ac (fun g=>h5 g.1)]at u0
    have e5:((C:Int)==53)=false:=ai.2 (by omega);by_cases hge:53<=C
    ·rw[bu hge]at u0
     rw[u0];have hge':(53:Int)<=C:=by omega
     clear fd hF h u0 hN hT hi hC h1 h2 h5 hge;go_enter Tryz.func290,Tryz.ntmps290
     go_wp2
     go_ret;first|exact⟨rfl,rfl⟩|exact⟨by simp,by trivial⟩
    ·rw[bp hge]at u0
     rw[u0];have hge':¬(53:Int)<=C:=by omega
     clear fd hF h u0 hN hT hi hC h1 h2 h5 hge;go_enter Tryz.func290,Tryz.ntmps290
     go_wp2
     go_ret;first|exact⟨rfl,rfl⟩|exact⟨by simp,by trivial⟩
theorem pA {a b:Int}(h:a=b):Ending.returned (.int .u64 a)=.returned (.int .u64 b):=by rw[h]
def jF (s:Dec.Dc):Nat->Nat
 | 0=>0
 | i+1=>if i<s.nd then (jF s i*10+(dig s i-48))%18446744073709551616 else jF s i*10%18446744073709551616
theorem aAT (s:Dec.Dc)(i:Nat):jF s i<18446744073709551616:=by
 cases i with|zero=>{show 0<_;omega}|succ i=>{unfold jF;split<;>exact gn _ (by decide)}
def tA (s:Dec.Dc):Nat :=
 if 20<s.dp then 18446744073709551615 else if upD s then (jF s s.dp.toNat+1)%18446744073709551616 else jF s s.dp.toNat
theorem aNH (B:Nat)(s:Dec.Dc)(w:H)(h:aF w B s)(hF:Dec.Fine s)(p1:-100000000<=s.dp)(p2:s.dp<=100000000) :
  Y 278 #[.pointer (some ⟨B,0,none⟩)] w fun e w'=>e=.returned (.int .u64 (tA s:Nat))/\w=w':=by
 have hnd:=hF.le;have c800:=h.nd;have c801:=h.dp;have fd:=aFW s hF;have UP:∀u,aF u B s->Y 290 #[.pointer (some ⟨B,0,none⟩),.int .i64 s.dp] u fun e w'=>e=.returned (.bool (upD s))/\u=w':=fun u hu=>aRW B s u hu hF p1 p2
 have H':=Z h;have HFD:=Z fd;have HUP:=Z UP;have r0:tA s=if 20<s.dp then 18446744073709551615 else if upD s then (jF s s.dp.toNat+1)%18446744073709551616 else jF s s.dp.toNat:=rfl
 clear h fd UP hF;by_cases h20:20<s.dp
 ·rw[ae h20]at r0
  have HR:=Z r0;clear r0;go_enter Tryz.func278,Tryz.ntmps278
  go_wp2
  go_ret;exact⟨by rw[HR.o];rfl,rfl⟩
 ·rw[ac h20]at r0
  obtain⟨up,hup⟩:∃up,upD s=up:=⟨_,rfl⟩
  rw[hup]at r0
  have HUB:=Z hup;have HR:=Z r0;clear r0 hup;go_enter Tryz.func278,Tryz.ntmps278
  go_wp2_with fail
  go_loop [3,4] (fun iv nv=>∃i:Nat,i<=s.dp.toNat/\iv=.int .i64 (i:Int)/\nv=.int .u64 (jF s i:Nat)) (fun iv _=>30-(intOf iv).toNat)
  case atStart=>exact⟨0,ax _,rfl,rfl⟩
  case round =>
   obtain⟨i,hi,rfl,rfl⟩:=hrel;by_cases hd:(i:Int)<s.dp/\i<s.nd
   ·obtain⟨hd,hin⟩:=hd;have hi8:i<800:=by omega
    have ci:=H'.o.dig i hi8;have cd:=HFD.o i hin;obtain⟨d,hdd⟩:∃d,dig s i-48=d:=⟨_,rfl⟩
    rw[show dig s i=d+48 by omega]at ci
    have cj':w.cell? ⟨B,i,none⟩=some (.int .u8 ((d:Int)+48)):=by rw[ci];rfl
    have d9:d<=9:=by omega
    obtain⟨A,hA⟩:∃A,jF s i=A:=⟨_,rfl⟩
    have hA64:=aAT s i;obtain⟨M,hM⟩:∃M,A*10%18446744073709551616=M:=⟨_,rfl⟩
    obtain⟨A',hA'⟩:∃A',jF s (i+1)=A':=⟨_,rfl⟩
    have ha:jF s (i+1)=if i<s.nd then (jF s i*10+(dig s i-48))%18446744073709551616 else jF s i*10%18446744073709551616:=rfl
    rw[ae hin,hA,hdd,hA']at ha
    have e1:IntKind.u64.wrap ((A:Int)*10)=(M:Int):=by rw[kK];omega
    have e2:IntKind.u64.wrap ((M:Int)+d)=(A':Int):=by rw[kK];omega
    have HA':=Z hA';have i21:i<=20:=by omega
    have hi2:i+1<=s.dp.toNat:=by omega
    rw[hA];clear ci cd hdd hA hA64 hM hA' ha;go_wp2
    go_round
    case measure=>(simp[intOf];try omega)
    case rel=>exact⟨i+1,hi2,by go_num,by rw[HA'.o]⟩
   ·have hx:¬((i:Int)<s.dp)\/((i:Int)<s.dp/\¬(i<s.nd)):=by omega
    have HI:=Z hi;obtain⟨A0,hA0⟩:∃A0,jF s i=A0:=⟨_,rfl⟩
    have HA0:=Z hA0;rw[hA0];clear hd hi hA0;rcases hx with hx|⟨hx,hx2⟩
    all_goals
     go_wp2_with fail
     go_loop [3,4] (fun iv nv=>∃i:Nat,i<=s.dp.toNat/\iv=.int .i64 (i:Int)/\nv=.int .u64 (jF s i:Nat)/\((i:Int)<s.dp->¬i<s.nd)) (fun iv _=>30-(intOf iv).toNat)
     case atStart=>exact⟨i,HI.o,rfl,by rw[HA0.o],by first|exact fun _=>hx2|(intro g;omega)⟩
     case round =>
      obtain⟨i2,hi2,rfl,rfl,hc⟩:=hrel;by_cases hd:(i2:Int)<s.dp
      ·have hin:=hc hd;obtain⟨A,hA⟩:∃A,jF s i2=A:=⟨_,rfl⟩
       have hA64:=aAT s i2;obtain⟨A',hA'⟩:∃A',jF s (i2+1)=A':=⟨_,rfl⟩
       have ha:jF s (i2+1)=if i2<s.nd then (jF s i2*10+(dig s i2-48))%18446744073709551616 else jF s i2*10%18446744073709551616:=rfl
       rw[ac hin,hA,hA']at ha
       have e1:IntKind.u64.wrap ((A:Int)*10)=(A':Int):=by rw[kK];omega
       have HA':=Z hA';have i21:i2<=20:=by omega
       have hi3:i2+1<=s.dp.toNat:=by omega
       rw[hA];clear hA hA64 hA' ha hc hi2;go_wp2
       go_round
       case measure=>(simp[intOf];try omega)
       case rel=>exact⟨i2+1,hi3,by go_num,by rw[HA'.o],fun _=>by omega⟩
      ·have he:i2=s.dp.toNat:=by omega
       have HE:=Z he;obtain⟨A,hA⟩:∃A,jF s i2=A:=⟨_,rfl⟩
       have hA64:=aAT s i2;obtain⟨A1,hA1⟩:∃A1,(A+1)%18446744073709551616=A1:=⟨_,rfl⟩
       rw[hA]at hA64
       have e1:IntKind.u64.wrap ((A:Int)+1)=(A1:Int):=by rw[kK];omega
       have HA:=Z hA;have HA1:=Z hA1;rw[hA];clear hA hA64 hA1 he hc hi2;go_wp2_with fail
       refine(HUP.o _ H'.o).mono ?_;rintro e w' ⟨rfl,rfl⟩;have hb:=HUB.o;rw[hb];clear hb;cases up
       ·go_wp2
        go_ret;have hr:=HR.o;simp only[f9,gc]at hr;rw[<-HE.o,HA.o]at hr
        exact⟨pA (by rw[hr]),rfl⟩
       ·go_wp2
        go_ret;have hr:=HR.o;simp only[fa]at hr;rw[<-HE.o,HA.o,HA1.o]at hr
        exact⟨pA (by rw[hr]),rfl⟩
open Go.RowKit
def Exit.once (c:Code)(P:Program)(Q:Exit->Act->H->Prop):Exit->Act->H->Prop
 | .goto l,a,w=>∃rest,findLabel c l=some rest/\rest.wp P (Exit.noGoto Q) a w
 | e,a,w=>Q e a w
theorem zQ {P:Program}{a:Act}{w:H}{Q:Exit->Act->H->Prop}{c:Code}(h:c.wp P (Exit.once c P Q) a w):(Code.scope c).wp P Q a w:=by
 intro b k cs;obtain⟨e,a₁,w₁,hq,harr⟩:=h b (.inScope c :: k) cs;cases e with|normal=>exact⟨.normal,a₁,w₁,hq,.head iy (p7 harr (.one step_inScope))⟩|exit id=>exact⟨.exit id,a₁,w₁,hq,fun k' hk=>.head iy (harr k' (by simp[exitTo,hk]))⟩|goto l=>{obtain⟨rest,hf,hr⟩:=hq;have hg:gotoIn l (.inScope c :: k)=some (.code rest :: .inScope c :: k):=by{simp[gotoIn,hf]};obtain⟨e₂,a₂,w₂,hq₂,harr₂⟩:=hr b (.inScope c :: k) cs;cases e₂ with|normal=>exact⟨.normal,a₂,w₂,hq₂,p7 (.head iy (harr _ hg)) (p7 harr₂ (.one step_inScope))⟩|exit id=>exact⟨.exit id,a₂,w₂,hq₂,fun k' hk=>p7 (.head iy (harr _ hg)) (harr₂ k' (by simp[exitTo,hk]))⟩|goto l=>exact hq₂.elim|ret=>exact⟨_,a₂,w₂,hq₂,mg (.head iy (harr _ hg)) harr₂⟩|panic ch=>exact⟨_,a₂,w₂,hq₂,mg (.head iy (harr _ hg)) harr₂⟩|outgrown=>exact⟨_,a₂,w₂,hq₂,mg (.head iy (harr _ hg)) harr₂⟩}|ret=>exact⟨_,a₁,w₁,hq,mg (.one iy) harr⟩|panic ch=>exact⟨_,a₁,w₁,hq,mg (.one iy) harr⟩|outgrown=>exact⟨_,a₁,w₁,hq,mg (.one iy) harr⟩
def pw (d:Nat):Nat:=if 9<=d then 27 else [1,3,6,9,13,16,19,23,26].getD d 0
theorem sY (d:Nat):1<=pw d/\pw d<=27:=by
 unfold pw;split;{omega};{have:∀d<9,1<=([1,3,6,9,13,16,19,23,26]:List Nat).getD d 0/\([1,3,6,9,13,16,19,23,26]:List Nat).getD d 0<=27:=by{decide};exact this d (by omega)}
theorem aLn (d:Nat)(h:d<9):(([1,3,6,9,13,16,19,23,26]:List Int).getD d 0)=(pw d:Int):=by
 have:∀d<9,(([1,3,6,9,13,16,19,23,26]:List Int).getD d 0)=(pw d:Int):=by{decide};exact this d h
def gM (s:Dec.Dc):Dec.Dc:=Dec.rsh (pw s.dp.toNat) s
def aCc:Nat->Dec.Dc->Prop
 | 0,s=>¬ 0<s.dp
 | r+1,s=>0<s.dp/\aCc r (gM s)
def fO:Nat->Dec.Dc->Int->Dec.Dc × Int
 | 0,s,e=>(s,e)
 | r+1,s,e=>fO r (gM s) (e+pw s.dp.toNat)
theorem aSf (μ : Nat):∀(s:Dec.Dc),Dec.Fine s->1<=s.nd->s.top<10->s.dp.toNat*10+s.top<=μ -> ∃r,r<=μ + 1/\aCc r s:=by
 induction μ using Nat.strongRecOn with|_ μ ih=>{intro s hF hn ht hμ;by_cases h:0<s.dp;{obtain⟨b1,b2⟩:=sY s.dp.toNat;obtain⟨q1,q2,q3,_,q5,q6⟩:=Dec.rsh_fine (pw s.dp.toNat) s b1 (by omega) hF hn;have hlt:(gM s).dp.toNat*10+(gM s).top<s.dp.toNat*10+s.top:=by{unfold gM;by_cases he:(Dec.rsh (pw s.dp.toNat) s).dp=s.dp;{have:=q5 he;rw[he];omega};{have:(Dec.rsh (pw s.dp.toNat) s).dp.toNat+1<=s.dp.toNat:=by{omega};omega}};obtain⟨r,hr,he⟩:=ih _ (cf hlt hμ) (gM s) q1 q2 q6 (ag _);exact⟨r+1,by omega,h,he⟩};{exact⟨0,by omega,h⟩}}
def aBO (s:Dec.Dc):Prop:=s.dp<0\/(s.dp=0/\dig s 0<53)
def iC (s:Dec.Dc):Dec.Dc:=Dec.lsh (pw (-s.dp).toNat) s
def aFd:Nat->Dec.Dc->Prop
 | 0,s=>¬aBO s
 | r+1,s=>aBO s/\aFd r (iC s)
def mL:Nat->Dec.Dc->Int->Dec.Dc × Int
 | 0,s,e=>(s,e)
 | r+1,s,e=>mL r (iC s) (e-pw (-s.dp).toNat)
theorem aSg (μ : Nat):∀(s:Dec.Dc),Dec.Fine s->1<=s.nd->s.top<10->(1-s.dp).toNat*10+(9-s.top)<=μ -> ∃r,r<=μ + 1/\aFd r s:=by
 induction μ using Nat.strongRecOn with|_ μ ih=>{intro s hF hn ht hμ;by_cases h:aBO s;{obtain⟨b1,b2⟩:=sY (-s.dp).toNat;obtain⟨q1,q2,q3,_,q5,q6⟩:=Dec.lsh_fine (pw (-s.dp).toNat) s b1 (by omega) hF hn;have hle:s.dp<=0:=by{rcases h with h|h<;>omega};have hlt:(1-(iC s).dp).toNat*10+(9-(iC s).top)<(1-s.dp).toNat*10+(9-s.top):=by{unfold iC;by_cases he:(Dec.lsh (pw (-s.dp).toNat) s).dp=s.dp;{have:=q5 he;rw[he];omega};{omega}};obtain⟨r,hr,he⟩:=ih _ (cf hlt hμ) (iC s) q1 q2 q6 (ag _);exact⟨r+1,by omega,h,he⟩};{exact⟨0,by omega,h⟩}}
theorem aPb (r:Nat):∀(s:Dec.Dc) (e:Int),aCc r s->Dec.Fine s->1<=s.nd->s.top<10->-1000<=s.dp->s.dp<=400->0<=e ->
  Dec.Fine (fO r s e).1/\1<=(fO r s e).1.nd/\(fO r s e).1.top<10/\-1000<=(fO r s e).1.dp/\(fO r s e).1.dp<=0/\0<=(fO r s e).2/\(fO r s e).2<=e+27*r/\(fO r s e).1.neg=s.neg:=by
 induction r with|zero=>{intro s e hE hF hn ht h1 h2 h3;exact⟨hF,hn,ht,h1,Int.not_lt.1 hE,h3,by show e<=e+27*0;omega,rfl⟩}|succ r ih=>{intro s e hE hF hn ht h1 h2 h3;obtain⟨b1,b2⟩:=sY s.dp.toNat;obtain⟨q1,q2,q3,q4,q5,q6⟩:=Dec.rsh_fine (pw s.dp.toNat) s b1 (by omega) hF hn;have hp:0<s.dp:=hE.1;obtain⟨a1,a2,a3,a4,a5,a6,a7,a8⟩:=ih (gM s) (e+pw s.dp.toNat) hE.2 q1 q2 q6 (by show -1000<=(Dec.rsh (pw s.dp.toNat) s).dp;omega) (by show(Dec.rsh (pw s.dp.toNat) s).dp<=400;omega) (by omega);exact⟨a1,a2,a3,a4,a5,a6,by show(fO r (gM s) (e+pw s.dp.toNat)).2<=e+27*((r+1:Nat):Int);omega,a8⟩}
def lM (m x:Int)(neg:Bool):Int :=
 if neg then bits .or .u64 (bits .or .u64 (bits .and .u64 m 4503599627370495) (IntKind.u64.wrap (IntKind.u64.wrap (bits .and .i64 x 2047)*4503599627370496))) 9223372036854775808
 else bits .or .u64 (bits .and .u64 m 4503599627370495) (IntKind.u64.wrap (IntKind.u64.wrap (bits .and .i64 x 2047)*4503599627370496))
theorem wP (m x:Int):bits .or .u64 (bits .or .u64 (bits .and .u64 m 4503599627370495) (IntKind.u64.wrap (IntKind.u64.wrap (bits .and .i64 x 2047)*4503599627370496))) 9223372036854775808=lM m x true:=rfl
theorem wO (m x:Int):bits .or .u64 (bits .and .u64 m 4503599627370495) (IntKind.u64.wrap (IntKind.u64.wrap (bits .and .i64 x 2047)*4503599627370496))=lM m x false:=rfl
theorem aLr {a b:Int}{c:Bool}(h:a=b):Ending.returned (.tuple #[.int .u64 a,.bool c])=.returned (.tuple #[.int .u64 b,.bool c]):=by rw[h]
theorem oC {r:Int × Bool}{a b:Int}{c:Bool}(h1:r.1=b)(h2:r.2=c)(h:a=b):Ending.returned (.tuple #[.int .u64 a,.bool c])=.returned (.tuple #[.int .u64 r.1,.bool r.2]):=by rw[h1,h2,h]
open Go.RowKit
def zR (B:Nat)(r:Int × Bool)(w:H)(e:Ending)(w':H):Prop:=e=.returned (.tuple #[.int .u64 r.1,.bool r.2])/\aG (· = B) w w'
theorem aRf (B:Nat)(s:Dec.Dc)(w:H)(T:pI w B)(h:aF w B s)(hn:1<=s.nd)(p1:310<s.dp) :
  Y 241 #[.pointer (some ⟨B,0,none⟩),.pointer (some ⟨8,0,none⟩)] w (zR B (lM 0 2047 s.neg,true) w):=by
 have c800:=h.nd;have c801:=h.dp;have c802:=h.neg;have i0:=T.info0;have i1:=T.info1;have i2:=T.info2;have hne:((s.nd:Int)==0)=false:=ai.2 (by omega);clear h T;go_enter Tryz.func241,Tryz.ntmps241;go_wp2_with fail;apply zQ;go_wp2_with fail;apply ma;refine⟨_,rfl,?_⟩;go_wp2_with fail;go_quiet (fail);go_wp2_with fail;go_step3;go_wp2_with fail;go_quiet (fail);cases hng:s.neg;{rw[hng]at c802;go_wp2_with fail;rw[gl];go_ret2;exact⟨aLr (by show _=lM 0 2047 s.neg;rw[hng];exact wO _ _),by first|exact(aG.refl _ w).drewN _|exact((aG.refl _ w).drewN _).drewN _|exact(((aG.refl _ w).drewN _).drewN _).drewN _⟩};{rw[hng]at c802;go_wp2_with fail;go_quiet (fail);go_wp2_with fail;rw[gl];go_ret2;exact⟨aLr (by show _=lM 0 2047 s.neg;rw[hng];exact wP _ _),by first|exact(aG.refl _ w).drewN _|exact((aG.refl _ w).drewN _).drewN _|exact(((aG.refl _ w).drewN _).drewN _).drewN _⟩}
