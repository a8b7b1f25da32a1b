/-
The slow decimals: floatBits at every decimal that the slow way comes to: what comes out is a function of it.
-/
import Derived.Test.YtcfgbdhpcboikaaGreatDoorDecR
namespace Go.Proofs.YtcfgbdhpcboikaaGreatDoor
set_option maxHeartbeats 16000000
set_option maxRecDepth 100000
open Go.RowKit
def upS (s:Dec.Dc)(E:Int):Dec.Dc × Int :=
  if E < -1022 then (Dec.rsh ((-1022-E-1).toNat%60+1) (kI ((-1022-E-1).toNat / 60) s),-1022)else (s,E)
def vX (m:Nat)(E:Int)(neg:Bool):Int × Bool:=(lM m (if bits .and .u64 (m:Int) 4503599627370496==0 then 0 else E+1023) neg,false)
def aBT (s:Dec.Dc)(E:Int)(neg:Bool):Int × Bool :=
  if 2047<=E+1023 then (lM 0 2047 neg,true)
  else if tA (Dec.lsh 53 s)=9007199254740992 then (if 2047<=E+1+1023 then (lM 0 2047 neg,true)else vX 4503599627370496 (E+1) neg)
  else vX (tA (Dec.lsh 53 s)) E neg
def fbF (r1 r2:Nat)(s:Dec.Dc):Int × Bool :=
  aBT (upS (mL r2 (fO r1 s 0).1 (fO r1 s 0).2).1 ((mL r2 (fO r1 s 0).1 (fO r1 s 0).2).2-1)).1 (upS (mL r2 (fO r1 s 0).1 (fO r1 s 0).2).1 ((mL r2 (fO r1 s 0).1 (fO r1 s 0).2).2-1)).2 s.neg
theorem aRe (B c f:Nat)(s:Dec.Dc)(w:H)(T:pI w B)(h:aF w B s)(hF:Dec.Fine s)(hn:1<=s.nd)(ht:s.top<10)(p1:-330<=s.dp)(p2:s.dp<=310)
    (E1:aCc c s) (E2:aFd f (fO c s 0).1) (ft:c<=3200) (fx:f<=10100) :
    Y 241 #[.pointer (some ⟨B,0,none⟩),.pointer (some ⟨8,0,none⟩)] w (zR B (fbF c f s) w):=by
 have c5:=h.nd;have S:=h.dp;have dm:((s.nd:Int)==0)=false:=ai.2 (by omega);obtain⟨n0,dl⟩:=ex s.nd;obtain⟨d0,c9⟩:=ex s.dp;rw[<-dl]at c5 dm;rw[<-c9]at S;have g1:¬(310<d0):=by{omega};have g2:¬(d0 < -330):=by{omega};have H':=Z h;have HT:=Z T;have HF:=Z hF;have d4:=Z E1;have d5:=Z E2;have ee:=Z p1;have ef:=Z p2;have HN:=Z hn;have fs:=Z ht;clear h T hF E1 E2 p1 p2 hn ht dl c9;go_enter Tryz.func241,Tryz.ntmps241;go_wp2_with fail;apply zQ;go_wp2_with fail;clear dm g1 g2 c5 S;go_loopg [6] c (fun g ev wr=>∃(r:Nat) (t:Dec.Dc) (e:Int),g=r/\ev=.int .i64 e/\aCc r t/\fO r t e=fO c s 0/\Dec.Fine t/\1<=t.nd/\-1000<=t.dp/\t.dp<=400/\0<=e/\e+27*r<=27*c/\aF wr B t/\aG (· = B) w wr);case atStart=>exact⟨c,s,0,rfl,rfl,d4.o,rfl,HF.o,HN.o,by have:=ee.o;omega,by have:=ef.o;omega,iq _,by omega,H'.o,aG.refl _ _⟩
 case round =>
  obtain⟨r,t,e,V,rfl,A,J,E,bk,cd,ci,ga,ey,q,y⟩:=hrel;have HG:=Z V;have HD:=Z q;have HK:=Z y;have HS:=Z (HT.o.kept y);have fp:=Z J;have S:wr.cell? ⟨B,801,none⟩=some (.int .i64 t.dp):=q.dp;cases r with
  | zero =>
    have bh:¬ 0<t.dp:=A;have cp:(t,e)=fO c s 0:=J;have bq:t=(fO c s 0).1:=az Prod.fst cp;have cj:e=(fO c s 0).2:=az Prod.snd cp;have ca:=d5.o;rw[<-bq]at ca
    have d9:=Z ca;have fr:=Z bq;have fn:=Z cj;have ej:=Z E;have et:t.dp<=0:=by omega
    have fd:=Z bh;have ea:G (fbF c f s=aBT (upS (mL f t e).1 ((mL f t e).2-1)).1 (upS (mL f t e).1 ((mL f t e).2-1)).2 s.neg):=by
      show _=_;unfold fbF;rw[<-bq,<-cj]
    have dn:t.neg=s.neg:=by
      rw[bq];have fb:∀(r:Nat) (t:Dec.Dc) (e:Int),(fO r t e).1.neg=t.neg:=by
        intro r;induction r with
        | zero=>intro t e;rfl
        | succ r ih=>intro t e;exact ih (gM t) _
      exact fb c s 0
    have ec:=Z dn;have em:e<=100000:=by omega
    clear A J E q y V cp bq cj ca bh dn ey;obtain⟨wo,rfl⟩:∃wo:H,wo=wr:=⟨_,rfl⟩
    go_wp2_with fail
    clear et;go_loopg [6] f (fun g ev wr=>∃(r:Nat) (u:Dec.Dc) (e2:Int),g=r/\ev=.int .i64 e2/\aFd r u/\mL r u e2=mL f t e/\Dec.Fine u/\1<=u.nd/\-1000<=u.dp/\u.dp<=400/\e2<=100000/\-300000<=e2-27*r/\u.neg=s.neg/\aF wr B u/\aG (· = B) w wr)
    case atStart=>exact⟨f,t,e,rfl,rfl,d9.o,rfl,ej.o,bk,cd,ci,em,by omega,ec.o,HD.o,HK.o⟩
    case round =>
      clear S;obtain⟨r,u,e2,V,rfl,A,J,E,ao,bs,bx,e4,e5,a0,q,y⟩:=hrel;have b4:=Z V;have a7:=Z q;have a9:=Z y;have av:=Z (HT.o.kept y);have S:wr.cell? ⟨B,801,none⟩=some (.int .i64 u.dp):=q.dp;have c7:wr.cell? ⟨B,0,none⟩=some (.int .u8 (dig u 0:Nat)):=q.dig 0 (by omega);cases r with
      | zero =>
        have ck:¬aBO u:=A;have cr:(u,e2)=mL f t e:=J;have d2:u=(mL f t e).1:=az Prod.fst cr;have dd:e2=(mL f t e).2:=az Prod.snd cr;have ar:G (fbF c f s=aBT (upS u (e2-1)).1 (upS u (e2-1)).2 s.neg):=by
          show _=_;rw[ea.o,<-d2,<-dd]
        obtain⟨ng,e0⟩:∃ng,s.neg=ng:=⟨_,rfl⟩
        rw[e0]at ar a0
        have HU:=Z E;have c4:=Z a0;obtain⟨E0,ep⟩:∃E0:Int,e2=E0+1:=⟨e2-1,by omega⟩
        subst ep;have i0:=av.o.info0;have i1:=av.o.info1;have i2:=av.o.info2;have x1:E0<=100000:=by omega
        have x2:-300001<=E0:=by omega
        rw[show E0+1-1=E0 by omega]at ar
        have es:(u.dp<0->False)/\((0<u.dp)\/(u.dp=0/\53<=dig u 0)):=by
          unfold aBO at ck;constructor
          · intro h;exact ck (.inl h)
          · omega
        have c2:=Z bs;have c3:=Z bx;obtain⟨s3,cm⟩:∃s3,(upS u E0).1=s3:=⟨_,rfl⟩
        obtain⟨E3,cb⟩:∃E3,(upS u E0).2=E3:=⟨_,rfl⟩
        rw[cm,cb]at ar
        have c1:=Z cm;have cz:=Z cb;clear A J E q y V ck cr d2 dd a0 e4 e5 bs bx cm cb;obtain⟨er,c8⟩:=es;have ek:=Z c8;clear c8 er;obtain⟨wp,rfl⟩:∃wp:H,wp=wr:=⟨_,rfl⟩
        rcases ek.o with hc|⟨hc,eq⟩
        all_goals
          first
            | (have n1 : ¬u.dp < 0 := by omega
               have n2 : ((u.dp : Int) == 0) = false := ai.2 (by omega);clear hc)
            | (rw [hc]at S
               have n2 : ¬((dig u 0 : Int) < 53) := by omega
               clear hc eq)
          go_upto_if 111 with fail
          go_cut [6] (fun v wx=>v=.int .i64 E3/\aF wx B s3/\aG (· = B) w wx/\Dec.Fine s3/\1<=s3.nd/\-5000000<=s3.dp/\s3.dp<=400/\s3.neg=ng/\-300001<=E3/\E3<=100000)
          case first =>
            as_aux_lemma =>
              by_cases dg:E0 < -1022
              · have u1:upS u E0=(Dec.rsh ((-1022-E0-1).toNat%60+1) (kI ((-1022-E0-1).toNat / 60) u),-1022):=by unfold upS;rw[ae dg]
                obtain⟨j,hj⟩:∃j,(-1022-E0-1).toNat / 60=j:=⟨_,rfl⟩
                obtain⟨k,hk⟩:∃k,(-1022-E0-1).toNat%60+1=k:=⟨_,rfl⟩
                rw[hj,hk]at u1
                have e3:E3=-1022:=by rw[<-cz.o,u1]
                have K:s3=Dec.rsh k (kI j u):=by rw[<-c1.o,u1]
                have ez:-1022-E0=((60*j+k:Nat):Int):=by omega
                have k1:1<=k:=by omega
                have k2:k<61:=by omega
                have jb:j<=10000:=by omega
                obtain⟨f1,f2,f3,f4⟩:=aIT j u HU.o ao;have w1:=c2.o;have w2:=c3.o;obtain⟨D,F,Q,R,_,_⟩:=Dec.rsh_fine k (kI j u) k1 k2 f1 f2;have SR:∀v (x:Int),x=E0+1022->aF v B u->Y 263 #[.pointer (some ⟨B,0,none⟩),.int .i64 x] v (mE B s3 v):=by
                  intro v x hx W;have:=aIj B j k u v W HU.o ao k1 k2 jb (by omega) (by omega);rw[show(-((60*j+k:Nat):Int))=x by omega,<-K]at this
                  exact this
                have b0:=Z SR;have aa:G (Dec.Fine s3):=by show Dec.Fine s3;rw[K];exact D
                have ab:G (1<=s3.nd):=by show _<=_;rw[K];exact F
                have ad:G (-5000000<=s3.dp):=by show _<=_;rw[K];omega
                have ah:G (s3.dp<=400):=by show _<=_;rw[K];omega
                have bd:G (s3.neg=ng):=by
                  show _=_;rw[K];have e7:∀(j:Nat) (s:Dec.Dc),(kI j s).neg=s.neg:=by
                    intro j;induction j with
                    | zero=>intro s;rfl
                    | succ j ih=>intro s;exact ih _
                  show(kI j u).neg=ng;rw[e7,c4.o]
                have a8:=Z e3;clear u1 hj hk e3 K ez k1 k2 jb f1 f2 f3 f4 w1 w2 D F Q R SR;go_wp2_with fail
                refine(b0.o _ _ (by omega) a7.o).mono ?_;rintro e' w' ⟨rfl,p,l⟩;have L:=Z p;have M:=Z l;clear p l;go_wp2_with fail
                go_meet
                case rel=>exact⟨az (Value.int .i64) (by have:=a8.o;omega),L.o,a9.o.trans M.o,aa.o,ab.o,ad.o,ah.o,bd.o,by have:=a8.o;omega,by have:=a8.o;omega⟩
              · have u1:upS u E0=(u,E0):=by unfold upS;rw[ac dg]
                have e3:E0=E3:=by rw[<-cz.o,u1]
                have K:u=s3:=by rw[<-c1.o,u1]
                have a8:=Z e3;have ei:=Z K;clear u1 e3 K;go_wp2_with fail
                go_meet
                case rel =>
                  have e3:=a8.o;have K:=ei.o;subst K;exact⟨az (Value.int .i64) (by omega),a7.o,a9.o,HU.o,ao,by have:=c2.o;omega,c3.o,c4.o,by omega,by omega⟩
          case rest =>
            as_aux_lemma =>
              obtain⟨rfl,q,y,b1,b3,dz,d1,b2,y1,y2⟩:=hcut;have d3:=Z q;have N:=Z y;have al:=Z (HT.o.kept y);have i0:=al.o.info0;have i1:=al.o.info1;have i2:=al.o.info2;have c6:wc.cell? ⟨B,802,none⟩=some (.bool ng):=by rw[<-b2];exact q.neg
              have a1:aBT s3 E3 ng=if 2047<=E3+1023 then (lM 0 2047 ng,true)
                  else if tA (Dec.lsh 53 s3)=9007199254740992 then (if 2047<=E3+1+1023 then (lM 0 2047 ng,true)else vX 4503599627370496 (E3+1) ng)
                  else vX (tA (Dec.lsh 53 s3)) E3 ng:=rfl
              by_cases dr:2047<=E3+1023
              · rw[ae dr]at a1
                have i:G ((fbF c f s).1=lM 0 2047 ng/\(fbF c f s).2=true):=by show _/\_;rw[ar.o,a1];exact⟨rfl,rfl⟩
                clear q y b2 a1 b1 b3 dz d1;go_wp2_with fail
                go_quiet (fail)
                go_wp2_with fail
                apply ma;refine⟨_,rfl,?_⟩;go_wp2_with fail
                go_quiet (fail)
                go_wp2_with fail
                go_step3
                go_wp2_with fail
                go_quiet (fail)
                cases ng
                · go_wp2_with fail
                  rw[gl];go_ret2;exact⟨oC i.o.1 i.o.2 (wO _ _),by first|exact N.o|exact N.o.drewN _|exact(N.o.drewN _).drewN _|exact((N.o.drewN _).drewN _).drewN _|exact(((N.o.drewN _).drewN _).drewN _).drewN _⟩
                · go_wp2_with fail
                  go_quiet (fail)
                  go_wp2_with fail
                  rw[gl];go_ret2;exact⟨oC i.o.1 i.o.2 (wP _ _),by first|exact N.o|exact N.o.drewN _|exact(N.o.drewN _).drewN _|exact((N.o.drewN _).drewN _).drewN _|exact(((N.o.drewN _).drewN _).drewN _).drewN _⟩
              · rw[ac dr]at a1
                obtain⟨s4,bl⟩:∃s4,Dec.lsh 53 s3=s4:=⟨_,rfl⟩
                obtain⟨m,hm⟩:∃m,tA s4=m:=⟨_,rfl⟩
                rw[bl,hm]at a1
                obtain⟨D,F,Q,R,_,_⟩:=Dec.lsh_fine 53 s3 (by decide) (by decide) b1 b3;rw[bl]at D F Q R
                have SL:∀v,pI v B->aF v B s3->Y 263 #[.pointer (some ⟨B,0,none⟩),.int .i64 53] v (mE B s4 v):=by
                  intro v hv W;have:=aIi B 53 s3 v hv W b1 b3 (by decide) (by decide) (by omega) (by omega);rw[bl]at this
                  exact this
                have RI:∀v,aF v B s4->Y 278 #[.pointer (some ⟨B,0,none⟩)] v fun e w'=>e=.returned (.int .u64 (m:Nat))/\v=w':=by
                  intro v W;have:=aNH B s4 v W D (by omega) (by omega);rw[hm]at this
                  exact this
                have dq:s4.neg=ng:=by rw[<-bl];exact b2
                have eb:=Z dq;have bf:=Z SL;have eg:=Z RI;have c0:=Z a1;clear q y b2 a1 b1 b3 dz d1 SL RI dq bl hm D F Q R i0 i1 i2 c6;have i0:=al.o.info0;have i1:=al.o.info1;have i2:=al.o.info2;go_wp2_with fail
                go_quiet (fail)
                go_wp2_with fail
                refine(bf.o _ (al.o.kept ((aG.refl _ _).drewN _)) (d3.o.drewN _)).mono ?_;rintro e' w5 ⟨rfl,p,l⟩;have cw:=Z p;have a:=Z ((N.o.drewN _).trans l);have b5:=Z ((al.o.kept ((aG.refl _ _).drewN _)).kept l);clear p l i0 i1 i2;have i0:=b5.o.info0;have i1:=b5.o.info1;have i2:=b5.o.info2;have c6:w5.cell? ⟨B,802,none⟩=some (.bool ng):=by rw[<-eb.o];exact cw.o.neg
                go_wp2_with fail
                refine(eg.o _ cw.o).mono ?_;rintro e' w' ⟨rfl,rfl⟩;by_cases dk:m=9007199254740992
                · subst dk
                  have P:=c0.o;rw[ae rfl]at P
                  by_cases ds:2047<=E3+1+1023
                  · rw[ae ds]at P
                    have i:G ((fbF c f s).1=lM 0 2047 ng/\(fbF c f s).2=true):=by show _/\_;rw[ar.o,P];exact⟨rfl,rfl⟩
                    clear P;go_wp2_with fail
                    go_quiet (fail)
                    go_wp2_with fail
                    apply ma;refine⟨_,rfl,?_⟩;go_wp2_with fail
                    go_quiet (fail)
                    go_wp2_with fail
                    go_step3
                    go_wp2_with fail
                    go_quiet (fail)
                    cases ng
                    · go_wp2_with fail
                      rw[gl];go_ret2;exact⟨oC i.o.1 i.o.2 (wO _ _),by first|exact a.o|exact a.o.drewN _|exact(a.o.drewN _).drewN _|exact((a.o.drewN _).drewN _).drewN _|exact(((a.o.drewN _).drewN _).drewN _).drewN _⟩
                    · go_wp2_with fail
                      go_quiet (fail)
                      go_wp2_with fail
                      rw[gl];go_ret2;exact⟨oC i.o.1 i.o.2 (wP _ _),by first|exact a.o|exact a.o.drewN _|exact(a.o.drewN _).drewN _|exact((a.o.drewN _).drewN _).drewN _|exact(((a.o.drewN _).drewN _).drewN _).drewN _⟩
                  · rw[ac ds]at P
                    obtain⟨z,hz⟩:∃z,(bits .and .u64 ((4503599627370496:Nat):Int) 4503599627370496==0)=z:=⟨_,rfl⟩
                    have e6:(bits .and .u64 (4503599627370496:Int) 4503599627370496==0)=z:=hz;have h2:vX 4503599627370496 (E3+1) ng=(lM 4503599627370496 (if z then 0 else E3+1+1023) ng,false):=by unfold vX;rw[hz];rfl
                    have i:G ((fbF c f s).1=lM 4503599627370496 (if z then 0 else E3+1+1023) ng/\(fbF c f s).2=false):=by show _/\_;rw[ar.o,P,h2];exact⟨rfl,rfl⟩
                    clear P h2 hz;cases z
                    · go_wp2_with fail
                      go_quiet (fail)
                      go_wp2_with fail
                      apply ma;refine⟨_,rfl,?_⟩;go_wp2_with fail
                      go_quiet (fail)
                      cases ng
                      · go_wp2_with fail
                        rw[gl];go_ret2;exact⟨oC i.o.1 i.o.2 (wO _ _),by first|exact a.o|exact a.o.drewN _|exact(a.o.drewN _).drewN _|exact((a.o.drewN _).drewN _).drewN _|exact(((a.o.drewN _).drewN _).drewN _).drewN _⟩
                      · go_wp2_with fail
                        go_quiet (fail)
                        go_wp2_with fail
                        rw[gl];go_ret2;exact⟨oC i.o.1 i.o.2 (wP _ _),by first|exact a.o|exact a.o.drewN _|exact(a.o.drewN _).drewN _|exact((a.o.drewN _).drewN _).drewN _|exact(((a.o.drewN _).drewN _).drewN _).drewN _⟩
                    · exact absurd (e6.symm.trans (show(bits .and .u64 (4503599627370496:Int) 4503599627370496==0)=false by kernel_rfl)) (by decide)
                · have P:=c0.o
                  rw[ac dk]at P
                  have gh:((m:Int)==9007199254740992)=false:=ai.2 (by omega);obtain⟨z,hz⟩:∃z,(bits .and .u64 (m:Int) 4503599627370496==0)=z:=⟨_,rfl⟩
                  have h2:vX m E3 ng=(lM m (if z then 0 else E3+1023) ng,false):=by unfold vX;rw[hz]
                  have i:G ((fbF c f s).1=lM m (if z then 0 else E3+1023) ng/\(fbF c f s).2=false):=by show _/\_;rw[ar.o,P,h2];exact⟨rfl,rfl⟩
                  clear P h2;cases z
                  · go_wp2_with fail
                    apply ma;refine⟨_,rfl,?_⟩;go_wp2_with fail
                    go_quiet (fail)
                    cases ng
                    · go_wp2_with fail
                      rw[gl];go_ret2;exact⟨oC i.o.1 i.o.2 (wO _ _),by first|exact a.o|exact a.o.drewN _|exact(a.o.drewN _).drewN _|exact((a.o.drewN _).drewN _).drewN _|exact(((a.o.drewN _).drewN _).drewN _).drewN _⟩
                    · go_wp2_with fail
                      go_quiet (fail)
                      go_wp2_with fail
                      rw[gl];go_ret2;exact⟨oC i.o.1 i.o.2 (wP _ _),by first|exact a.o|exact a.o.drewN _|exact(a.o.drewN _).drewN _|exact((a.o.drewN _).drewN _).drewN _|exact(((a.o.drewN _).drewN _).drewN _).drewN _⟩
                  · go_wp2_with fail
                    apply ma;refine⟨_,rfl,?_⟩;go_wp2_with fail
                    go_quiet (fail)
                    cases ng
                    · go_wp2_with fail
                      rw[gl];go_ret2;exact⟨oC i.o.1 i.o.2 (wO _ _),by first|exact a.o|exact a.o.drewN _|exact(a.o.drewN _).drewN _|exact((a.o.drewN _).drewN _).drewN _|exact(((a.o.drewN _).drewN _).drewN _).drewN _⟩
                    · go_wp2_with fail
                      go_quiet (fail)
                      go_wp2_with fail
                      rw[gl];go_ret2;exact⟨oC i.o.1 i.o.2 (wP _ _),by first|exact a.o|exact a.o.drewN _|exact(a.o.drewN _).drewN _|exact((a.o.drewN _).drewN _).drewN _|exact(((a.o.drewN _).drewN _).drewN _).drewN _⟩
      | succ r =>
        obtain⟨m,hm⟩:∃m:Nat,u.dp=-(m:Int):=⟨(-u.dp).toNat,by have:=A.1;unfold aBO at this;omega⟩
        rw[hm]at S
        obtain⟨a5,a6⟩:=sY m;obtain⟨n,C⟩:∃n,pw m=n:=⟨_,rfl⟩
        have bj:(-u.dp).toNat=m:=by omega
        have SL:∀v,pI v B->aF v B u->Y 263 #[.pointer (some ⟨B,0,none⟩),.int .i64 (n:Int)] v (mE B (iC u) v):=by
          intro v hv W;have:=aIi B n u v hv W E ao (by omega) (by omega) (by omega) (by omega);have e1:iC u=Dec.lsh n u:=by unfold iC;rw[bj,C]
          rw[e1];exact this
        obtain⟨D,F,Q,R,_,_⟩:=Dec.lsh_fine (pw (-u.dp).toNat) u (sY _).1 (by have:=(sY (-u.dp).toNat).2;omega) E ao;have bf:=Z SL;have a2:=Z A.2;have aa:G (Dec.Fine (iC u)):=D;have ab:G (1<=(iC u).nd):=F;have ad:G (-1000<=(iC u).dp):=by show -1000<=(Dec.lsh (pw (-u.dp).toNat) u).dp;omega
        have ah:G ((iC u).dp<=400):=by show(Dec.lsh (pw (-u.dp).toNat) u).dp<=400;omega
        have bd:G ((iC u).neg=s.neg):=a0;have an:mL r (iC u) (e2-n)=mL f t e:=by
          rw[<-J];show _=mL r (iC u) (e2-pw (-u.dp).toNat);rw[bj,C]
        have a4:=Z an;have e8:1<=n:=by omega
        have e9:n<=27:=by omega
        have el:-300000<=e2:=by omega
        have a3:G (-300000<=e2-n-27*(r:Int)):=by show _<=_;omega
        obtain⟨b,o,hb,t1,X⟩:=av.o.p2;by_cases h0:m=0
        · subst h0
          have h5:(dig u 0:Int)<53:=by have:=A.1;unfold aBO at this;omega
          have n1:n=1:=by rw[<-C];rfl
          subst n1;have t3:wr.cell? ⟨b,o,none⟩=some (.int .i64 1):=X 0 (by omega);have fz:wr.cell? ⟨B,801,none⟩=some (.int .i64 0):=S;clear A J E ao q y V SL D F Q R an C a5 a6 hm bj bs bx X S a0;go_wp2_with fail
          go_quiet (fail)
          go_wp2_with fail
          go_quiet (fail)
          go_wp2_with fail
          refine(bf.o _ (av.o.kept ((aG.refl _ _).drewN _)) (a7.o.drewN _)).mono ?_;rintro e' w' ⟨rfl,p,l⟩;have L:=Z p;have M:=Z l;clear p l;go_wp2
          go_roundg r
          case measure=>have:=b4.o;omega
          case rel=>exact⟨r,iC u,_,rfl,rfl,a2.o,a4.o,aa.o,ab.o,ad.o,ah.o,by omega,a3.o,bd.o,L.o,(a9.o.drewN _).trans M.o⟩
        · have gb:-(m:Int)<0:=by omega
          have m1:1<=m:=by omega
          by_cases h9:9<=m
          · have cs:n=27:=by rw[<-C];unfold pw;rw[ae h9]
            subst cs;have b6:(9:Int)<=m:=by omega
            have mb:m<=1000:=by omega
            clear A J E ao q y V SL D F Q R an C a5 a6 hm bj bs bx X c7 a0;go_wp2_with fail
            go_quiet (fail)
            go_wp2_with fail
            refine(bf.o _ (av.o.kept ((aG.refl _ _).drewN _)) (a7.o.drewN _)).mono ?_;rintro e' w' ⟨rfl,p,l⟩;have L:=Z p;have M:=Z l;clear p l;go_wp2
            go_roundg r
            case measure=>have:=b4.o;omega
            case rel=>exact⟨r,iC u,_,rfl,rfl,a2.o,a4.o,aa.o,ab.o,ad.o,ah.o,by omega,a3.o,bd.o,L.o,(a9.o.drewN _).trans M.o⟩
          · have b6:¬(9:Int)<=m:=by omega
            have t3:=X m (by omega);rw[aLn m (by omega),C]at t3
            have ge:(m:Int)<9:=by omega
            have gd:m<9:=by omega
            clear A J E ao q y V SL D F Q R an C a5 a6 hm bj bs bx X c7 h9 a0;go_wp2_with fail
            go_quiet (fail)
            go_wp2_with fail
            go_quiet (fail)
            go_wp2_with fail
            refine(bf.o _ (av.o.kept ((aG.refl _ _).drewN _)) (a7.o.drewN _)).mono ?_;rintro e' w' ⟨rfl,p,l⟩;have L:=Z p;have M:=Z l;clear p l;go_wp2
            go_roundg r
            case measure=>have:=b4.o;omega
            case rel=>exact⟨r,iC u,_,rfl,rfl,a2.o,a4.o,aa.o,ab.o,ad.o,ah.o,by omega,a3.o,bd.o,L.o,(a9.o.drewN _).trans M.o⟩
  | succ r =>
    have bh:0<t.dp:=A.1;obtain⟨d,hd⟩:∃d:Nat,t.dp=(d:Int):=⟨t.dp.toNat,by omega⟩
    rw[hd]at S
    obtain⟨a5,a6⟩:=sY d;obtain⟨n,C⟩:∃n,pw d=n:=⟨_,rfl⟩
    have SR:∀u,aF u B t->Y 263 #[.pointer (some ⟨B,0,none⟩),.int .i64 (-(n:Int))] u (mE B (gM t) u):=by
      intro u W;have:=aIj B 0 n t u W E bk (by omega) (by omega) (by omega) (by omega) (by omega);rw[show(-((60*0+n:Nat):Int))=-(n:Int) by omega]at this
      have e1:gM t=Dec.rsh n (kI 0 t):=by unfold gM;rw[hd,fh,C];rfl
      rw[e1];exact this
    obtain⟨D,F,Q,R,_,_⟩:=Dec.rsh_fine (pw t.dp.toNat) t (sY _).1 (by have:=(sY t.dp.toNat).2;omega) E bk;have b0:=Z SR;have a2:=Z A.2;have aa:G (Dec.Fine (gM t)):=D;have ab:G (1<=(gM t).nd):=F;have ad:G (-1000<=(gM t).dp):=by show -1000<=(Dec.rsh (pw t.dp.toNat) t).dp;omega
    have ah:G ((gM t).dp<=400):=by show(Dec.rsh (pw t.dp.toNat) t).dp<=400;omega
    have an:fO r (gM t) (e+n)=fO c s 0:=by
      rw[<-J];show _=fO r (gM t) (e+pw t.dp.toNat);rw[hd,fh,C]
    have a4:=Z an;have e8:1<=n:=by omega
    have e9:n<=27:=by omega
    have el:e<=100000:=by omega
    have f6:(0:Int)<d:=by omega
    have a3:G (e+n+27*(r:Int)<=27*c):=by show _<=_;omega
    obtain⟨b,o,hb,t1,X⟩:=HS.o.p2;by_cases h9:9<=d
    · have cs:n=27:=by rw[<-C];unfold pw;rw[ae h9]
      subst cs;have b6:(9:Int)<=d:=by omega
      clear A J E bk q y V SR D F Q R an C a5 a6 hd bh cd ci X;go_wp2_with fail
      go_quiet (fail)
      go_wp2_with fail
      refine(b0.o _ (HD.o.drewN _)).mono ?_;rintro e' w' ⟨rfl,p,l⟩;have L:=Z p;have M:=Z l;clear p l;go_wp2
      go_roundg r
      case measure=>have:=HG.o;omega
      case rel=>exact⟨r,gM t,_,rfl,rfl,a2.o,a4.o,aa.o,ab.o,ad.o,ah.o,by omega,a3.o,L.o,(HK.o.drewN _).trans M.o⟩
    · have b6:¬(9:Int)<=d:=by omega
      have t3:=X d (by omega);rw[aLn d (by omega),C]at t3
      have f5:(d:Int)<9:=by omega
      have f0:d<9:=by omega
      clear A J E bk q y V SR D F Q R an C a5 a6 hd bh cd ci X h9;go_wp2_with fail
      go_quiet (fail)
      go_wp2_with fail
      go_quiet (fail)
      go_wp2_with fail
      refine(b0.o _ ((HD.o.drewN _))).mono ?_;rintro e' w' ⟨rfl,p,l⟩;have L:=Z p;have M:=Z l;clear p l;go_wp2
      go_roundg r
      case measure=>have:=HG.o;omega
      case rel=>exact⟨r,gM t,_,rfl,rfl,a2.o,a4.o,aa.o,ab.o,ad.o,ah.o,by omega,a3.o,L.o,(HK.o.drewN _).trans M.o⟩
