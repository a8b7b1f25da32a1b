/-
The slow decimals: floatBits at every decimal that the slow way comes to: what comes out is a function of it.
-/
import Derived.Test.YtcfgbdhpcboikaaGreatDoorDecT
namespace Go.Proofs.YtcfgbdhpcboikaaGreatDoor
open Go.Lib (hid)
set_option maxHeartbeats 16000000
set_option maxRecDepth 100000
open Go.RowKit
def upS (s:Dec.Dc)(E:Int):Dec.Dc × Int :=
  if E < -1022 then (Dec.rsh ((-1022-E-1).toNat%60+1) (iV ((-1022-E-1).toNat / 60) s),-1022)else (s,E)
def tM (m:Nat)(E:Int)(neg:Bool):Int × Bool:=(jT m (if bits .and .u64 (m:Int) 4503599627370496==0 then 0 else E+1023) neg,false)
def aAE (s:Dec.Dc)(E:Int)(neg:Bool):Int × Bool :=
  if 2047≤E+1023 then (jT 0 2047 neg,true)
  else if qP (Dec.lsh 53 s)=9007199254740992 then (if 2047≤E+1+1023 then (jT 0 2047 neg,true)else tM 4503599627370496 (E+1) neg)
  else tM (qP (Dec.lsh 53 s)) E neg
def fbF (r1 r2:Nat)(s:Dec.Dc):Int × Bool :=
  aAE (upS (kR r2 (eO r1 s 0).1 (eO r1 s 0).2).1 ((kR r2 (eO r1 s 0).1 (eO r1 s 0).2).2-1)).1 (upS (kR r2 (eO r1 s 0).1 (eO r1 s 0).2).1 ((kR r2 (eO r1 s 0).1 (eO r1 s 0).2).2-1)).2 s.neg
theorem aPE (B r1 r2:Nat)(s:Dec.Dc)(w:World)(T:nR w B)(h:aC w B s)(hF:Dec.Fine s)(hn:1≤s.nd)(ht:s.top<10)(p1:-330≤s.dp)(p2:s.dp≤310)
    (E1:aAX r1 s) (E2:aDB r2 (eO r1 s 0).1) (b1:r1≤3200) (b2:r2≤10100) :
    Calls Tryz.prog 241 #[.pointer (some ⟨B,0,none⟩),.pointer (some ⟨8,0,none⟩)] w (wK B (fbF r1 r2 s) w):=by
  have c800:=h.nd;have c801:=h.dp;have hne:((s.nd:Int)==0)=false:=beq_eq_false_iff_ne.2 (by omega);obtain⟨n0,hn0⟩:∃n0,n0=s.nd:=⟨_,rfl⟩
  obtain⟨d0,hd0⟩:∃d0,d0=s.dp:=⟨_,rfl⟩
  rw[←hn0]at c800 hne
  rw[←hd0]at c801
  have g1:¬(310<d0):=by omega
  have g2:¬(d0 < -330):=by omega
  have H:=hid h;have HT:=hid T;have HF:=hid hF;have HE1:=hid E1;have HE2:=hid E2;have HP1:=hid p1;have HP2:=hid p2;have HN:=hid hn;have HTP:=hid ht;clear h T hF E1 E2 p1 p2 hn ht hn0 hd0;go_enter Tryz.func241,Tryz.ntmps241
  go_wp2_with fail
  apply wJ;go_wp2_with fail
  clear hne g1 g2 c800 c801;go_loopg [6] r1 (fun g ev wr=>∃(r:Nat) (t:Dec.Dc) (e:Int),g=r∧ev=.int .i64 e∧aAX r t∧eO r t e=eO r1 s 0∧Dec.Fine t∧1≤t.nd∧-1000≤t.dp∧t.dp≤400∧0≤e∧e+27*r≤27*r1∧aC wr B t∧aD (· = B) w wr)
  case atStart=>exact⟨r1,s,0,rfl,rfl,HE1.out,rfl,HF.out,HN.out,by have:=HP1.out;omega,by have:=HP2.out;omega,Int.le_refl _,by omega,H.out,aD.refl _ _⟩
  case round =>
    obtain⟨r,t,e,hg,rfl,hE,hf,hT,hn1,hd1,hd2,he0,he1,hD,hK⟩:=hrel;have HG:=hid hg;have HD:=hid hD;have HK:=hid hK;have HS:=hid (HT.out.kept hK);have HFI:=hid hf;have c801:wr.cell? ⟨B,801,none⟩=some (.int .i64 t.dp):=hD.dp;cases r with
    | zero =>
      have hdp:¬ 0<t.dp:=hE;have ht1:(t,e)=eO r1 s 0:=hf;have hte:t=(eO r1 s 0).1:=congrArg Prod.fst ht1;have hee:e=(eO r1 s 0).2:=congrArg Prod.snd ht1;have hE2:=HE2.out;rw[←hte]at hE2
      have HE2':=hid hE2;have HTE:=hid hte;have HEE:=hid hee;have HT1:=hid hT;have hdp':t.dp≤0:=by omega
      have HDP:=hid hdp;have HFB:Hid (fbF r1 r2 s=aAE (upS (kR r2 t e).1 ((kR r2 t e).2-1)).1 (upS (kR r2 t e).1 ((kR r2 t e).2-1)).2 s.neg):=by
        show _=_;unfold fbF;rw[←hte,←hee]
      have hneg:t.neg=s.neg:=by
        rw[hte];have tops:∀(r:Nat) (t:Dec.Dc) (e:Int),(eO r t e).1.neg=t.neg:=by
          intro r;induction r with
          | zero=>intro t e;rfl
          | succ r ih=>intro t e;exact ih (fQ t) _
        exact tops r1 s 0
      have HNG:=hid hneg;have eb0:e≤100000:=by omega
      clear hE hf hT hD hK hg ht1 hte hee hE2 hdp hneg he1;obtain⟨wo,rfl⟩:∃wo:World,wo=wr:=⟨_,rfl⟩
      go_wp2_with fail
      clear hdp';go_loopg [6] r2 (fun g ev wr=>∃(r:Nat) (u:Dec.Dc) (e2:Int),g=r∧ev=.int .i64 e2∧aDB r u∧kR r u e2=kR r2 t e∧Dec.Fine u∧1≤u.nd∧-1000≤u.dp∧u.dp≤400∧e2≤100000∧-300000≤e2-27*r∧u.neg=s.neg∧aC wr B u∧aD (· = B) w wr)
      case atStart=>exact⟨r2,t,e,rfl,rfl,HE2'.out,rfl,HT1.out,hn1,hd1,hd2,eb0,by omega,HNG.out,HD.out,HK.out⟩
      case round =>
        clear c801;obtain⟨r,u,e2,hg,rfl,hE,hf,hT,hn2,hu1,hu2,hx1,hx2,hng,hD,hK⟩:=hrel;have HG2:=hid hg;have HD2:=hid hD;have HK2:=hid hK;have HS2:=hid (HT.out.kept hK);have c801:wr.cell? ⟨B,801,none⟩=some (.int .i64 u.dp):=hD.dp;have cz:wr.cell? ⟨B,0,none⟩=some (.int .u8 (dig u 0:Nat)):=hD.dig 0 (by omega);cases r with
        | zero =>
          have hlo:¬aAz u:=hE;have hu0:(u,e2)=kR r2 t e:=hf;have hue:u=(kR r2 t e).1:=congrArg Prod.fst hu0;have hee2:e2=(kR r2 t e).2:=congrArg Prod.snd hu0;have HFB2:Hid (fbF r1 r2 s=aAE (upS u (e2-1)).1 (upS u (e2-1)).2 s.neg):=by
            show _=_;rw[HFB.out,←hue,←hee2]
          obtain⟨ng,hngg⟩:∃ng,s.neg=ng:=⟨_,rfl⟩
          rw[hngg]at HFB2 hng
          have HU:=hid hT;have HUN:=hid hng;obtain⟨E0,hE0⟩:∃E0:Int,e2=E0+1:=⟨e2-1,by omega⟩
          subst hE0;have i0:=HS2.out.info0;have i1:=HS2.out.info1;have i2:=HS2.out.info2;have x1:E0≤100000:=by omega
          have x2:-300001≤E0:=by omega
          rw[show E0+1-1=E0 by omega]at HFB2
          have hcase:(u.dp<0→False)∧((0<u.dp)∨(u.dp=0∧53≤dig u 0)):=by
            unfold aAz at hlo;constructor
            · intro h;exact hlo (.inl h)
            · omega
          have HU1:=hid hu1;have HU2:=hid hu2;obtain⟨s3,hs3⟩:∃s3,(upS u E0).1=s3:=⟨_,rfl⟩
          obtain⟨E3,hE3⟩:∃E3,(upS u E0).2=E3:=⟨_,rfl⟩
          rw[hs3,hE3]at HFB2
          have HS3:=hid hs3;have HE3:=hid hE3;clear hE hf hT hD hK hg hlo hu0 hue hee2 hng hx1 hx2 hu1 hu2 hs3 hE3;obtain⟨hca,hcb⟩:=hcase;have Hcb:=hid hcb;clear hcb hca;obtain⟨wp,rfl⟩:∃wp:World,wp=wr:=⟨_,rfl⟩
          rcases Hcb.out with hc|⟨hc,hc5⟩
          all_goals
            first
              | (have n1 : ¬u.dp < 0 := by omega
                 have n2 : ((u.dp : Int) == 0) = false := beq_eq_false_iff_ne.2 (by omega);clear hc)
              | (rw [hc]at c801
                 have n2 : ¬((dig u 0 : Int) < 53) := by omega
                 clear hc hc5)
            go_upto_if 111 with fail
            go_cut [6] (fun v wx=>v=.int .i64 E3∧aC wx B s3∧aD (· = B) w wx∧Dec.Fine s3∧1≤s3.nd∧-5000000≤s3.dp∧s3.dp≤400∧s3.neg=ng∧-300001≤E3∧E3≤100000)
            case first =>
              as_aux_lemma =>
                by_cases hlow:E0 < -1022
                · have u1:upS u E0=(Dec.rsh ((-1022-E0-1).toNat%60+1) (iV ((-1022-E0-1).toNat / 60) u),-1022):=by unfold upS;rw[if_pos hlow]
                  obtain⟨j,hj⟩:∃j,(-1022-E0-1).toNat / 60=j:=⟨_,rfl⟩
                  obtain⟨k,hk⟩:∃k,(-1022-E0-1).toNat%60+1=k:=⟨_,rfl⟩
                  rw[hj,hk]at u1
                  have e3:E3=-1022:=by rw[←HE3.out,u1]
                  have s3e:s3=Dec.rsh k (iV j u):=by rw[←HS3.out,u1]
                  have hjk:-1022-E0=((60*j+k:Nat):Int):=by omega
                  have k1:1≤k:=by omega
                  have k2:k<61:=by omega
                  have jb:j≤10000:=by omega
                  obtain⟨f1,f2,f3,f4⟩:=aHq j u HU.out hn2;have w1:=HU1.out;have w2:=HU2.out;obtain⟨q1,q2,q3,q4,_,_⟩:=Dec.rsh_fine k (iV j u) k1 k2 f1 f2;have SR:∀v (x:Int),x=E0+1022→aC v B u→Calls Tryz.prog 263 #[.pointer (some ⟨B,0,none⟩),.int .i64 x] v (kN B s3 v):=by
                    intro v x hx hu;have:=aGM B j k u v hu HU.out hn2 k1 k2 jb (by omega) (by omega);rw[show(-((60*j+k:Nat):Int))=x by omega,←s3e]at this
                    exact this
                  have HSR:=hid SR;have HQ1:Hid (Dec.Fine s3):=by show Dec.Fine s3;rw[s3e];exact q1
                  have HQ2:Hid (1≤s3.nd):=by show _≤_;rw[s3e];exact q2
                  have HQ3:Hid (-5000000≤s3.dp):=by show _≤_;rw[s3e];omega
                  have HQ4:Hid (s3.dp≤400):=by show _≤_;rw[s3e];omega
                  have HQ5:Hid (s3.neg=ng):=by
                    show _=_;rw[s3e];have itn:∀(j:Nat) (s:Dec.Dc),(iV j s).neg=s.neg:=by
                      intro j;induction j with
                      | zero=>intro s;rfl
                      | succ j ih=>intro s;exact ih _
                    show(iV j u).neg=ng;rw[itn,HUN.out]
                  have HE3':=hid e3;clear u1 hj hk e3 s3e hjk k1 k2 jb f1 f2 f3 f4 w1 w2 q1 q2 q3 q4 SR;go_wp2_with fail
                  refine(HSR.out _ _ (by omega) HD2.out).mono ?_;rintro e' w' ⟨rfl,hd',hk'⟩;have HD':=hid hd';have HK':=hid hk';clear hd' hk';go_wp2_with fail
                  go_meet
                  case rel=>exact⟨congrArg (Value.int .i64) (by have:=HE3'.out;omega),HD'.out,HK2.out.trans HK'.out,HQ1.out,HQ2.out,HQ3.out,HQ4.out,HQ5.out,by have:=HE3'.out;omega,by have:=HE3'.out;omega⟩
                · have u1:upS u E0=(u,E0):=by unfold upS;rw[if_neg hlow]
                  have e3:E0=E3:=by rw[←HE3.out,u1]
                  have s3e:u=s3:=by rw[←HS3.out,u1]
                  have HE3':=hid e3;have HS3E:=hid s3e;clear u1 e3 s3e;go_wp2_with fail
                  go_meet
                  case rel =>
                    have e3:=HE3'.out;have s3e:=HS3E.out;subst s3e;exact⟨congrArg (Value.int .i64) (by omega),HD2.out,HK2.out,HU.out,hn2,by have:=HU1.out;omega,HU2.out,HUN.out,by omega,by omega⟩
            case rest =>
              as_aux_lemma =>
                obtain⟨rfl,hD,hK,hF3,hn3,hp3,hp4,hg3,y1,y2⟩:=hcut;have HD3:=hid hD;have KK0:=hid hK;have HS4:=hid (HT.out.kept hK);have i0:=HS4.out.info0;have i1:=HS4.out.info1;have i2:=HS4.out.info2;have c802:wc.cell? ⟨B,802,none⟩=some (.bool ng):=by rw[←hg3];exact hD.neg
                have outF0:aAE s3 E3 ng=if 2047≤E3+1023 then (jT 0 2047 ng,true)
                    else if qP (Dec.lsh 53 s3)=9007199254740992 then (if 2047≤E3+1+1023 then (jT 0 2047 ng,true)else tM 4503599627370496 (E3+1) ng)
                    else tM (qP (Dec.lsh 53 s3)) E3 ng:=rfl
                by_cases hov:2047≤E3+1023
                · rw[if_pos hov]at outF0
                  have HO:Hid ((fbF r1 r2 s).1=jT 0 2047 ng∧(fbF r1 r2 s).2=true):=by show _∧_;rw[HFB2.out,outF0];exact⟨rfl,rfl⟩
                  clear hD hK hg3 outF0 hF3 hn3 hp3 hp4;go_wp2_with fail
                  go_quiet (fail)
                  go_wp2_with fail
                  apply wp_goto;refine⟨_,rfl,?_⟩;go_wp2_with fail
                  go_quiet (fail)
                  go_wp2_with fail
                  go_step3
                  go_wp2_with fail
                  go_quiet (fail)
                  cases ng
                  · go_wp2_with fail
                    rw[Exit.noGoto_ret];go_ret2;exact⟨mD HO.out.1 HO.out.2 (uF _ _),by first|exact KK0.out|exact KK0.out.drewN _|exact(KK0.out.drewN _).drewN _|exact((KK0.out.drewN _).drewN _).drewN _|exact(((KK0.out.drewN _).drewN _).drewN _).drewN _⟩
                  · go_wp2_with fail
                    go_quiet (fail)
                    go_wp2_with fail
                    rw[Exit.noGoto_ret];go_ret2;exact⟨mD HO.out.1 HO.out.2 (uG _ _),by first|exact KK0.out|exact KK0.out.drewN _|exact(KK0.out.drewN _).drewN _|exact((KK0.out.drewN _).drewN _).drewN _|exact(((KK0.out.drewN _).drewN _).drewN _).drewN _⟩
                · rw[if_neg hov]at outF0
                  obtain⟨s4,hs4⟩:∃s4,Dec.lsh 53 s3=s4:=⟨_,rfl⟩
                  obtain⟨m,hm⟩:∃m,qP s4=m:=⟨_,rfl⟩
                  rw[hs4,hm]at outF0
                  obtain⟨q1,q2,q3,q4,_,_⟩:=Dec.lsh_fine 53 s3 (by decide) (by decide) hF3 hn3;rw[hs4]at q1 q2 q3 q4
                  have SL:∀v,nR v B→aC v B s3→Calls Tryz.prog 263 #[.pointer (some ⟨B,0,none⟩),.int .i64 53] v (kN B s4 v):=by
                    intro v hv hu;have:=aGL B 53 s3 v hv hu hF3 hn3 (by decide) (by decide) (by omega) (by omega);rw[hs4]at this
                    exact this
                  have RI:∀v,aC v B s4→Calls Tryz.prog 278 #[.pointer (some ⟨B,0,none⟩)] v fun e w'=>e=.returned (.int .u64 (m:Nat))∧v=w':=by
                    intro v hu;have:=aMf B s4 v hu q1 (by omega) (by omega);rw[hm]at this
                    exact this
                  have hng4:s4.neg=ng:=by rw[←hs4];exact hg3
                  have HN4:=hid hng4;have HSL:=hid SL;have HRI:=hid RI;have HOF:=hid outF0;clear hD hK hg3 outF0 hF3 hn3 hp3 hp4 SL RI hng4 hs4 hm q1 q2 q3 q4 i0 i1 i2 c802;have i0:=HS4.out.info0;have i1:=HS4.out.info1;have i2:=HS4.out.info2;go_wp2_with fail
                  go_quiet (fail)
                  go_wp2_with fail
                  refine(HSL.out _ (HS4.out.kept ((aD.refl _ _).drewN _)) (HD3.out.drewN _)).mono ?_;rintro e' w5 ⟨rfl,hd',hk'⟩;have HD5:=hid hd';have KK5:=hid ((KK0.out.drewN _).trans hk');have HS5:=hid ((HS4.out.kept ((aD.refl _ _).drewN _)).kept hk');clear hd' hk' i0 i1 i2;have i0:=HS5.out.info0;have i1:=HS5.out.info1;have i2:=HS5.out.info2;have c802:w5.cell? ⟨B,802,none⟩=some (.bool ng):=by rw[←HN4.out];exact HD5.out.neg
                  go_wp2_with fail
                  refine(HRI.out _ HD5.out).mono ?_;rintro e' w' ⟨rfl,rfl⟩;by_cases hm53:m=9007199254740992
                  · subst hm53
                    have h1:=HOF.out;rw[if_pos rfl]at h1
                    by_cases hov2:2047≤E3+1+1023
                    · rw[if_pos hov2]at h1
                      have HO:Hid ((fbF r1 r2 s).1=jT 0 2047 ng∧(fbF r1 r2 s).2=true):=by show _∧_;rw[HFB2.out,h1];exact⟨rfl,rfl⟩
                      clear h1;go_wp2_with fail
                      go_quiet (fail)
                      go_wp2_with fail
                      apply wp_goto;refine⟨_,rfl,?_⟩;go_wp2_with fail
                      go_quiet (fail)
                      go_wp2_with fail
                      go_step3
                      go_wp2_with fail
                      go_quiet (fail)
                      cases ng
                      · go_wp2_with fail
                        rw[Exit.noGoto_ret];go_ret2;exact⟨mD HO.out.1 HO.out.2 (uF _ _),by first|exact KK5.out|exact KK5.out.drewN _|exact(KK5.out.drewN _).drewN _|exact((KK5.out.drewN _).drewN _).drewN _|exact(((KK5.out.drewN _).drewN _).drewN _).drewN _⟩
                      · go_wp2_with fail
                        go_quiet (fail)
                        go_wp2_with fail
                        rw[Exit.noGoto_ret];go_ret2;exact⟨mD HO.out.1 HO.out.2 (uG _ _),by first|exact KK5.out|exact KK5.out.drewN _|exact(KK5.out.drewN _).drewN _|exact((KK5.out.drewN _).drewN _).drewN _|exact(((KK5.out.drewN _).drewN _).drewN _).drewN _⟩
                    · rw[if_neg hov2]at h1
                      obtain⟨z,hz⟩:∃z,(bits .and .u64 ((4503599627370496:Nat):Int) 4503599627370496==0)=z:=⟨_,rfl⟩
                      have hz':(bits .and .u64 (4503599627370496:Int) 4503599627370496==0)=z:=hz;have h2:tM 4503599627370496 (E3+1) ng=(jT 4503599627370496 (if z then 0 else E3+1+1023) ng,false):=by unfold tM;rw[hz];rfl
                      have HO:Hid ((fbF r1 r2 s).1=jT 4503599627370496 (if z then 0 else E3+1+1023) ng∧(fbF r1 r2 s).2=false):=by show _∧_;rw[HFB2.out,h1,h2];exact⟨rfl,rfl⟩
                      clear h1 h2 hz;cases z
                      · go_wp2_with fail
                        go_quiet (fail)
                        go_wp2_with fail
                        apply wp_goto;refine⟨_,rfl,?_⟩;go_wp2_with fail
                        go_quiet (fail)
                        cases ng
                        · go_wp2_with fail
                          rw[Exit.noGoto_ret];go_ret2;exact⟨mD HO.out.1 HO.out.2 (uF _ _),by first|exact KK5.out|exact KK5.out.drewN _|exact(KK5.out.drewN _).drewN _|exact((KK5.out.drewN _).drewN _).drewN _|exact(((KK5.out.drewN _).drewN _).drewN _).drewN _⟩
                        · go_wp2_with fail
                          go_quiet (fail)
                          go_wp2_with fail
                          rw[Exit.noGoto_ret];go_ret2;exact⟨mD HO.out.1 HO.out.2 (uG _ _),by first|exact KK5.out|exact KK5.out.drewN _|exact(KK5.out.drewN _).drewN _|exact((KK5.out.drewN _).drewN _).drewN _|exact(((KK5.out.drewN _).drewN _).drewN _).drewN _⟩
                      · exact absurd (hz'.symm.trans (show(bits .and .u64 (4503599627370496:Int) 4503599627370496==0)=false by kernel_rfl)) (by decide)
                  · have h1:=HOF.out
                    rw[if_neg hm53]at h1
                    have hmb:((m:Int)==9007199254740992)=false:=beq_eq_false_iff_ne.2 (by omega);obtain⟨z,hz⟩:∃z,(bits .and .u64 (m:Int) 4503599627370496==0)=z:=⟨_,rfl⟩
                    have h2:tM m E3 ng=(jT m (if z then 0 else E3+1023) ng,false):=by unfold tM;rw[hz]
                    have HO:Hid ((fbF r1 r2 s).1=jT m (if z then 0 else E3+1023) ng∧(fbF r1 r2 s).2=false):=by show _∧_;rw[HFB2.out,h1,h2];exact⟨rfl,rfl⟩
                    clear h1 h2;cases z
                    · go_wp2_with fail
                      apply wp_goto;refine⟨_,rfl,?_⟩;go_wp2_with fail
                      go_quiet (fail)
                      cases ng
                      · go_wp2_with fail
                        rw[Exit.noGoto_ret];go_ret2;exact⟨mD HO.out.1 HO.out.2 (uF _ _),by first|exact KK5.out|exact KK5.out.drewN _|exact(KK5.out.drewN _).drewN _|exact((KK5.out.drewN _).drewN _).drewN _|exact(((KK5.out.drewN _).drewN _).drewN _).drewN _⟩
                      · go_wp2_with fail
                        go_quiet (fail)
                        go_wp2_with fail
                        rw[Exit.noGoto_ret];go_ret2;exact⟨mD HO.out.1 HO.out.2 (uG _ _),by first|exact KK5.out|exact KK5.out.drewN _|exact(KK5.out.drewN _).drewN _|exact((KK5.out.drewN _).drewN _).drewN _|exact(((KK5.out.drewN _).drewN _).drewN _).drewN _⟩
                    · go_wp2_with fail
                      apply wp_goto;refine⟨_,rfl,?_⟩;go_wp2_with fail
                      go_quiet (fail)
                      cases ng
                      · go_wp2_with fail
                        rw[Exit.noGoto_ret];go_ret2;exact⟨mD HO.out.1 HO.out.2 (uF _ _),by first|exact KK5.out|exact KK5.out.drewN _|exact(KK5.out.drewN _).drewN _|exact((KK5.out.drewN _).drewN _).drewN _|exact(((KK5.out.drewN _).drewN _).drewN _).drewN _⟩
                      · go_wp2_with fail
                        go_quiet (fail)
                        go_wp2_with fail
                        rw[Exit.noGoto_ret];go_ret2;exact⟨mD HO.out.1 HO.out.2 (uG _ _),by first|exact KK5.out|exact KK5.out.drewN _|exact(KK5.out.drewN _).drewN _|exact((KK5.out.drewN _).drewN _).drewN _|exact(((KK5.out.drewN _).drewN _).drewN _).drewN _⟩
        | succ r =>
          obtain⟨m,hm⟩:∃m:Nat,u.dp=-(m:Int):=⟨(-u.dp).toNat,by have:=hE.1;unfold aAz at this;omega⟩
          rw[hm]at c801
          obtain⟨pb1,pb2⟩:=qN m;obtain⟨n,hnn⟩:∃n,pw m=n:=⟨_,rfl⟩
          have hmn:(-u.dp).toNat=m:=by omega
          have SL:∀v,nR v B→aC v B u→Calls Tryz.prog 263 #[.pointer (some ⟨B,0,none⟩),.int .i64 (n:Int)] v (kN B (gD u) v):=by
            intro v hv hu;have:=aGL B n u v hv hu hT hn2 (by omega) (by omega) (by omega) (by omega);have e1:gD u=Dec.lsh n u:=by unfold gD;rw[hmn,hnn]
            rw[e1];exact this
          obtain⟨q1,q2,q3,q4,_,_⟩:=Dec.lsh_fine (pw (-u.dp).toNat) u (qN _).1 (by have:=(qN (-u.dp).toNat).2;omega) hT hn2;have HSL:=hid SL;have HEN:=hid hE.2;have HQ1:Hid (Dec.Fine (gD u)):=q1;have HQ2:Hid (1≤(gD u).nd):=q2;have HQ3:Hid (-1000≤(gD u).dp):=by show -1000≤(Dec.lsh (pw (-u.dp).toNat) u).dp;omega
          have HQ4:Hid ((gD u).dp≤400):=by show(Dec.lsh (pw (-u.dp).toNat) u).dp≤400;omega
          have HQ5:Hid ((gD u).neg=s.neg):=hng;have hfi2:kR r (gD u) (e2-n)=kR r2 t e:=by
            rw[←hf];show _=kR r (gD u) (e2-pw (-u.dp).toNat);rw[hmn,hnn]
          have HFI2:=hid hfi2;have nb1:1≤n:=by omega
          have nb2:n≤27:=by omega
          have eb:-300000≤e2:=by omega
          have HER:Hid (-300000≤e2-n-27*(r:Int)):=by show _≤_;omega
          obtain⟨b,o,hb,t1,t2⟩:=HS2.out.p2;by_cases h0:m=0
          · subst h0
            have h5:(dig u 0:Int)<53:=by have:=hE.1;unfold aAz at this;omega
            have n1:n=1:=by rw[←hnn];rfl
            subst n1;have t3:wr.cell? ⟨b,o,none⟩=some (.int .i64 1):=t2 0 (by omega);have c801':wr.cell? ⟨B,801,none⟩=some (.int .i64 0):=c801;clear hE hf hT hn2 hD hK hg SL q1 q2 q3 q4 hfi2 hnn pb1 pb2 hm hmn hu1 hu2 t2 c801 hng;go_wp2_with fail
            go_quiet (fail)
            go_wp2_with fail
            go_quiet (fail)
            go_wp2_with fail
            refine(HSL.out _ (HS2.out.kept ((aD.refl _ _).drewN _)) (HD2.out.drewN _)).mono ?_;rintro e' w' ⟨rfl,hd',hk'⟩;have HD':=hid hd';have HK':=hid hk';clear hd' hk';go_wp2
            go_roundg r
            case measure=>have:=HG2.out;omega
            case rel=>exact⟨r,gD u,_,rfl,rfl,HEN.out,HFI2.out,HQ1.out,HQ2.out,HQ3.out,HQ4.out,by omega,HER.out,HQ5.out,HD'.out,(HK2.out.drewN _).trans HK'.out⟩
          · have hlt:-(m:Int)<0:=by omega
            have m1:1≤m:=by omega
            by_cases h9:9≤m
            · have n27:n=27:=by rw[←hnn];unfold pw;rw[if_pos h9]
              subst n27;have h9':(9:Int)≤m:=by omega
              have mb:m≤1000:=by omega
              clear hE hf hT hn2 hD hK hg SL q1 q2 q3 q4 hfi2 hnn pb1 pb2 hm hmn hu1 hu2 t2 cz hng;go_wp2_with fail
              go_quiet (fail)
              go_wp2_with fail
              refine(HSL.out _ (HS2.out.kept ((aD.refl _ _).drewN _)) (HD2.out.drewN _)).mono ?_;rintro e' w' ⟨rfl,hd',hk'⟩;have HD':=hid hd';have HK':=hid hk';clear hd' hk';go_wp2
              go_roundg r
              case measure=>have:=HG2.out;omega
              case rel=>exact⟨r,gD u,_,rfl,rfl,HEN.out,HFI2.out,HQ1.out,HQ2.out,HQ3.out,HQ4.out,by omega,HER.out,HQ5.out,HD'.out,(HK2.out.drewN _).trans HK'.out⟩
            · have h9':¬(9:Int)≤m:=by omega
              have t3:=t2 m (by omega);rw[aJW m (by omega),hnn]at t3
              have hm9:(m:Int)<9:=by omega
              have hm8:m<9:=by omega
              clear hE hf hT hn2 hD hK hg SL q1 q2 q3 q4 hfi2 hnn pb1 pb2 hm hmn hu1 hu2 t2 cz h9 hng;go_wp2_with fail
              go_quiet (fail)
              go_wp2_with fail
              go_quiet (fail)
              go_wp2_with fail
              refine(HSL.out _ (HS2.out.kept ((aD.refl _ _).drewN _)) (HD2.out.drewN _)).mono ?_;rintro e' w' ⟨rfl,hd',hk'⟩;have HD':=hid hd';have HK':=hid hk';clear hd' hk';go_wp2
              go_roundg r
              case measure=>have:=HG2.out;omega
              case rel=>exact⟨r,gD u,_,rfl,rfl,HEN.out,HFI2.out,HQ1.out,HQ2.out,HQ3.out,HQ4.out,by omega,HER.out,HQ5.out,HD'.out,(HK2.out.drewN _).trans HK'.out⟩
    | succ r =>
      have hdp:0<t.dp:=hE.1;obtain⟨d,hd⟩:∃d:Nat,t.dp=(d:Int):=⟨t.dp.toNat,by omega⟩
      rw[hd]at c801
      obtain⟨pb1,pb2⟩:=qN d;obtain⟨n,hnn⟩:∃n,pw d=n:=⟨_,rfl⟩
      have SR:∀u,aC u B t→Calls Tryz.prog 263 #[.pointer (some ⟨B,0,none⟩),.int .i64 (-(n:Int))] u (kN B (fQ t) u):=by
        intro u hu;have:=aGM B 0 n t u hu hT hn1 (by omega) (by omega) (by omega) (by omega) (by omega);rw[show(-((60*0+n:Nat):Int))=-(n:Int) by omega]at this
        have e1:fQ t=Dec.rsh n (iV 0 t):=by unfold fQ;rw[hd,Int.toNat_natCast,hnn];rfl
        rw[e1];exact this
      obtain⟨q1,q2,q3,q4,_,_⟩:=Dec.rsh_fine (pw t.dp.toNat) t (qN _).1 (by have:=(qN t.dp.toNat).2;omega) hT hn1;have HSR:=hid SR;have HEN:=hid hE.2;have HQ1:Hid (Dec.Fine (fQ t)):=q1;have HQ2:Hid (1≤(fQ t).nd):=q2;have HQ3:Hid (-1000≤(fQ t).dp):=by show -1000≤(Dec.rsh (pw t.dp.toNat) t).dp;omega
      have HQ4:Hid ((fQ t).dp≤400):=by show(Dec.rsh (pw t.dp.toNat) t).dp≤400;omega
      have hfi2:eO r (fQ t) (e+n)=eO r1 s 0:=by
        rw[←hf];show _=eO r (fQ t) (e+pw t.dp.toNat);rw[hd,Int.toNat_natCast,hnn]
      have HFI2:=hid hfi2;have nb1:1≤n:=by omega
      have nb2:n≤27:=by omega
      have eb:e≤100000:=by omega
      have hdpos:(0:Int)<d:=by omega
      have HER:Hid (e+n+27*(r:Int)≤27*r1):=by show _≤_;omega
      obtain⟨b,o,hb,t1,t2⟩:=HS.out.p2;by_cases h9:9≤d
      · have n27:n=27:=by rw[←hnn];unfold pw;rw[if_pos h9]
        subst n27;have h9':(9:Int)≤d:=by omega
        clear hE hf hT hn1 hD hK hg SR q1 q2 q3 q4 hfi2 hnn pb1 pb2 hd hdp hd1 hd2 t2;go_wp2_with fail
        go_quiet (fail)
        go_wp2_with fail
        refine(HSR.out _ (HD.out.drewN _)).mono ?_;rintro e' w' ⟨rfl,hd',hk'⟩;have HD':=hid hd';have HK':=hid hk';clear hd' hk';go_wp2
        go_roundg r
        case measure=>have:=HG.out;omega
        case rel=>exact⟨r,fQ t,_,rfl,rfl,HEN.out,HFI2.out,HQ1.out,HQ2.out,HQ3.out,HQ4.out,by omega,HER.out,HD'.out,(HK.out.drewN _).trans HK'.out⟩
      · have h9':¬(9:Int)≤d:=by omega
        have t3:=t2 d (by omega);rw[aJW d (by omega),hnn]at t3
        have hd9:(d:Int)<9:=by omega
        have hd8:d<9:=by omega
        clear hE hf hT hn1 hD hK hg SR q1 q2 q3 q4 hfi2 hnn pb1 pb2 hd hdp hd1 hd2 t2 h9;go_wp2_with fail
        go_quiet (fail)
        go_wp2_with fail
        go_quiet (fail)
        go_wp2_with fail
        refine(HSR.out _ ((HD.out.drewN _))).mono ?_;rintro e' w' ⟨rfl,hd',hk'⟩;have HD':=hid hd';have HK':=hid hk';clear hd' hk';go_wp2
        go_roundg r
        case measure=>have:=HG.out;omega
        case rel=>exact⟨r,fQ t,_,rfl,rfl,HEN.out,HFI2.out,HQ1.out,HQ2.out,HQ3.out,HQ4.out,by omega,HER.out,HD'.out,(HK.out.drewN _).trans HK'.out⟩
end Go.Proofs.YtcfgbdhpcboikaaGreatDoor
