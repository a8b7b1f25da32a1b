/-
The slow decimals: floatBits at every decimal that the slow way comes to: what comes out is a function of it.
-/
import Derived.Test.YtcfgbdhpcboikaaGreatDoorDecT
namespace Go.Proofs.YtcfgbdhpcboikaaGreatDoor
set_option maxHeartbeats 16000000
set_option maxRecDepth 100000
open Go.RowKit
def upS (s:Dec.Dc)(E:Int):Dec.Dc × Int :=
  if E < -1022 then (Dec.rsh ((-1022-E-1).toNat%60+1) (jB ((-1022-E-1).toNat / 60) s),-1022)else (s,E)
def uH (m:Nat)(E:Int)(neg:Bool):Int × Bool:=(jZ m (if bits .and .u64 (m:Int) 4503599627370496==0 then 0 else E+1023) neg,false)
def aA7 (s:Dec.Dc)(E:Int)(neg:Bool):Int × Bool :=
  if 2047<=E+1023 then (jZ 0 2047 neg,true)
  else if rF (Dec.lsh 53 s)=9007199254740992 then (if 2047<=E+1+1023 then (jZ 0 2047 neg,true)else uH 4503599627370496 (E+1) neg)
  else uH (rF (Dec.lsh 53 s)) E neg
def fbF (r1 r2:Nat)(s:Dec.Dc):Int × Bool :=
  aA7 (upS (lC r2 (eV r1 s 0).1 (eV r1 s 0).2).1 ((lC r2 (eV r1 s 0).1 (eV r1 s 0).2).2-1)).1 (upS (lC r2 (eV r1 s 0).1 (eV r1 s 0).2).1 ((lC r2 (eV r1 s 0).1 (eV r1 s 0).2).2-1)).2 s.neg
theorem aQe (B c f:Nat)(s:Dec.Dc)(w:H)(T:oC w B)(h:aC w B s)(hF:Dec.Fine s)(hn:1<=s.nd)(ht:s.top<10)(p1:-330<=s.dp)(p2:s.dp<=310)
    (E1:aBr c s) (E2:aEg f (eV c s 0).1) (fz:c<=3200) (f0:f<=10100) :
    Y 241 #[.pointer (some ⟨B,0,none⟩),.pointer (some ⟨8,0,none⟩)] w (xJ B (fbF c f s) w):=by
 have c5:=h.nd;have S:=h.dp;have dm:((s.nd:Int)==0)=false:=ai.2 (by omega);obtain⟨n0,dl⟩:=ex s.nd;obtain⟨d0,c9⟩:=ex s.dp;rw[<-dl]at c5 dm;rw[<-c9]at S;have g1:¬(310<d0):=by{omega};have g2:¬(d0 < -330):=by{omega};have H':=Z h;have HT:=Z T;have HF:=Z hF;have d9:=Z E1;have ea:=Z E2;have eg:=Z p1;have ei:=Z p2;have HN:=Z hn;have fx:=Z ht;clear h T hF E1 E2 p1 p2 hn ht dl c9;go_enter Tryz.func241,Tryz.ntmps241;go_wp2_with fail;apply xI;go_wp2_with fail;clear dm g1 g2 c5 S;go_loopg [6] c (fun g ev wr=>∃(r:Nat) (t:Dec.Dc) (e:Int),g=r/\ev=.int .i64 e/\aBr r t/\eV r t e=eV c s 0/\Dec.Fine t/\1<=t.nd/\-1000<=t.dp/\t.dp<=400/\0<=e/\e+27*r<=27*c/\aC wr B t/\aD (· = B) w wr);case atStart=>exact⟨c,s,0,rfl,rfl,d9.o,rfl,HF.o,HN.o,by have:=eg.o;omega,by have:=ei.o;omega,ig _,by omega,H'.o,aD.refl _ _⟩
 case round =>
  obtain⟨r,t,e,V,rfl,A,J,E,bj,cd,ci,gd,e0,q,y⟩:=hrel;have HG:=Z V;have HD:=Z q;have HK:=Z y;have HS:=Z (HT.o.kept y);have fs:=Z J;have S:wr.cell? ⟨B,801,none⟩=some (.int .i64 t.dp):=q.dp;cases r with
  | zero =>
    have bf:¬ 0<t.dp:=A;have co:(t,e)=eV c s 0:=J;have bl:t=(eV c s 0).1:=az Prod.fst co;have cj:e=(eV c s 0).2:=az Prod.snd co;have ca:=ea.o;rw[<-bl]at ca
    have eb:=Z ca;have ft:=Z bl;have fr:=Z cj;have el:=Z E;have ez:t.dp<=0:=by omega
    have fp:=Z bf;have ec:G (fbF c f s=aA7 (upS (lC f t e).1 ((lC f t e).2-1)).1 (upS (lC f t e).1 ((lC f t e).2-1)).2 s.neg):=by
      show _=_;unfold fbF;rw[<-bl,<-cj]
    have dn:t.neg=s.neg:=by
      rw[bl];have fn:∀(r:Nat) (t:Dec.Dc) (e:Int),(eV r t e).1.neg=t.neg:=by
        intro r;induction r with
        | zero=>intro t e;rfl
        | succ r ih=>intro t e;exact ih (fR t) _
      exact fn c s 0
    have ef:=Z dn;have eq:e<=100000:=by omega
    clear A J E q y V co bl cj ca bf dn e0;obtain⟨wo,rfl⟩:∃wo:H,wo=wr:=⟨_,rfl⟩
    go_wp2_with fail
    clear ez;go_loopg [6] f (fun g ev wr=>∃(r:Nat) (u:Dec.Dc) (e2:Int),g=r/\ev=.int .i64 e2/\aEg r u/\lC r u e2=lC f t e/\Dec.Fine u/\1<=u.nd/\-1000<=u.dp/\u.dp<=400/\e2<=100000/\-300000<=e2-27*r/\u.neg=s.neg/\aC wr B u/\aD (· = B) w wr)
    case atStart=>exact⟨f,t,e,rfl,rfl,eb.o,rfl,el.o,bj,cd,ci,eq,by omega,ef.o,HD.o,HK.o⟩
    case round =>
      clear S;obtain⟨r,u,e2,V,rfl,A,J,E,ao,bq,bs,e6,e7,a0,q,y⟩:=hrel;have b3:=Z V;have a7:=Z q;have a9:=Z y;have aw:=Z (HT.o.kept y);have S:wr.cell? ⟨B,801,none⟩=some (.int .i64 u.dp):=q.dp;have c7:wr.cell? ⟨B,0,none⟩=some (.int .u8 (dig u 0:Nat)):=q.dig 0 (by omega);cases r with
      | zero =>
        have ck:¬aA2 u:=A;have cp:(u,e2)=lC f t e:=J;have d4:u=(lC f t e).1:=az Prod.fst cp;have dd:e2=(lC f t e).2:=az Prod.snd cp;have av:G (fbF c f s=aA7 (upS u (e2-1)).1 (upS u (e2-1)).2 s.neg):=by
          show _=_;rw[ec.o,<-d4,<-dd]
        obtain⟨ng,e5⟩:∃ng,s.neg=ng:=⟨_,rfl⟩
        rw[e5]at av a0
        have HU:=Z E;have c4:=Z a0;obtain⟨E0,er⟩:∃E0:Int,e2=E0+1:=⟨e2-1,by omega⟩
        subst er;have i0:=aw.o.info0;have i1:=aw.o.info1;have i2:=aw.o.info2;have x1:E0<=100000:=by omega
        have x2:-300001<=E0:=by omega
        rw[show E0+1-1=E0 by omega]at av
        have ey:(u.dp<0->False)/\((0<u.dp)\/(u.dp=0/\53<=dig u 0)):=by
          unfold aA2 at ck;constructor
          · intro h;exact ck (.inl h)
          · omega
        have c2:=Z bq;have c3:=Z bs;obtain⟨s3,cm⟩:∃s3,(upS u E0).1=s3:=⟨_,rfl⟩
        obtain⟨E3,cb⟩:∃E3,(upS u E0).2=E3:=⟨_,rfl⟩
        rw[cm,cb]at av
        have c1:=Z cm;have cz:=Z cb;clear A J E q y V ck cp d4 dd a0 e6 e7 bq bs cm cb;obtain⟨et,c8⟩:=ey;have em:=Z c8;clear c8 et;obtain⟨wp,rfl⟩:∃wp:H,wp=wr:=⟨_,rfl⟩
        rcases em.o with hc|⟨hc,es⟩
        all_goals
          first
            | (have n1 : ¬u.dp < 0 := by omega
               have n2 : ((u.dp : Int) == 0) = false := ai.2 (by omega);clear hc)
            | (rw [hc]at S
               have n2 : ¬((dig u 0 : Int) < 53) := by omega
               clear hc es)
          go_upto_if 111 with fail
          go_cut [6] (fun v wx=>v=.int .i64 E3/\aC wx B s3/\aD (· = B) w wx/\Dec.Fine s3/\1<=s3.nd/\-5000000<=s3.dp/\s3.dp<=400/\s3.neg=ng/\-300001<=E3/\E3<=100000)
          case first =>
            as_aux_lemma =>
              by_cases dg:E0 < -1022
              · have u1:upS u E0=(Dec.rsh ((-1022-E0-1).toNat%60+1) (jB ((-1022-E0-1).toNat / 60) u),-1022):=by unfold upS;rw[af dg]
                obtain⟨j,hj⟩:∃j,(-1022-E0-1).toNat / 60=j:=⟨_,rfl⟩
                obtain⟨k,hk⟩:∃k,(-1022-E0-1).toNat%60+1=k:=⟨_,rfl⟩
                rw[hj,hk]at u1
                have e3:E3=-1022:=by rw[<-cz.o,u1]
                have K:s3=Dec.rsh k (jB j u):=by rw[<-c1.o,u1]
                have e4:-1022-E0=((60*j+k:Nat):Int):=by omega
                have k1:1<=k:=by omega
                have k2:k<61:=by omega
                have jb:j<=10000:=by omega
                obtain⟨f1,f2,f3,f4⟩:=aHW j u HU.o ao;have w1:=c2.o;have w2:=c3.o;obtain⟨D,F,Q,R,_,_⟩:=Dec.rsh_fine k (jB j u) k1 k2 f1 f2;have SR:∀v (x:Int),x=E0+1022->aC v B u->Y 263 #[.pointer (some ⟨B,0,none⟩),.int .i64 x] v (kU B s3 v):=by
                  intro v x hx W;have:=aHm B j k u v W HU.o ao k1 k2 jb (by omega) (by omega);rw[show(-((60*j+k:Nat):Int))=x by omega,<-K]at this
                  exact this
                have bx:=Z SR;have aa:G (Dec.Fine s3):=by show Dec.Fine s3;rw[K];exact D
                have ab:G (1<=s3.nd):=by show _<=_;rw[K];exact F
                have ac:G (-5000000<=s3.dp):=by show _<=_;rw[K];omega
                have ad:G (s3.dp<=400):=by show _<=_;rw[K];omega
                have bd:G (s3.neg=ng):=by
                  show _=_;rw[K];have e9:∀(j:Nat) (s:Dec.Dc),(jB j s).neg=s.neg:=by
                    intro j;induction j with
                    | zero=>intro s;rfl
                    | succ j ih=>intro s;exact ih _
                  show(jB j u).neg=ng;rw[e9,c4.o]
                have a8:=Z e3;clear u1 hj hk e3 K e4 k1 k2 jb f1 f2 f3 f4 w1 w2 D F Q R SR;go_wp2_with fail
                refine(bx.o _ _ (by omega) a7.o).mono ?_;rintro e' w' ⟨rfl,p,l⟩;have L:=Z p;have M:=Z l;clear p l;go_wp2_with fail
                go_meet
                case rel=>exact⟨az (Value.int .i64) (by have:=a8.o;omega),L.o,a9.o.trans M.o,aa.o,ab.o,ac.o,ad.o,bd.o,by have:=a8.o;omega,by have:=a8.o;omega⟩
              · have u1:upS u E0=(u,E0):=by unfold upS;rw[ae dg]
                have e3:E0=E3:=by rw[<-cz.o,u1]
                have K:u=s3:=by rw[<-c1.o,u1]
                have a8:=Z e3;have ek:=Z K;clear u1 e3 K;go_wp2_with fail
                go_meet
                case rel =>
                  have e3:=a8.o;have K:=ek.o;subst K;exact⟨az (Value.int .i64) (by omega),a7.o,a9.o,HU.o,ao,by have:=c2.o;omega,c3.o,c4.o,by omega,by omega⟩
          case rest =>
            as_aux_lemma =>
              obtain⟨rfl,q,y,b0,b2,d2,d3,b1,y1,y2⟩:=hcut;have d5:=Z q;have N:=Z y;have al:=Z (HT.o.kept y);have i0:=al.o.info0;have i1:=al.o.info1;have i2:=al.o.info2;have c6:wc.cell? ⟨B,802,none⟩=some (.bool ng):=by rw[<-b1];exact q.neg
              have a1:aA7 s3 E3 ng=if 2047<=E3+1023 then (jZ 0 2047 ng,true)
                  else if rF (Dec.lsh 53 s3)=9007199254740992 then (if 2047<=E3+1+1023 then (jZ 0 2047 ng,true)else uH 4503599627370496 (E3+1) ng)
                  else uH (rF (Dec.lsh 53 s3)) E3 ng:=rfl
              by_cases ds:2047<=E3+1023
              · rw[af ds]at a1
                have i:G ((fbF c f s).1=jZ 0 2047 ng/\(fbF c f s).2=true):=by show _/\_;rw[av.o,a1];exact⟨rfl,rfl⟩
                clear q y b1 a1 b0 b2 d2 d3;go_wp2_with fail
                go_quiet (fail)
                go_wp2_with fail
                apply lq;refine⟨_,rfl,?_⟩;go_wp2_with fail
                go_quiet (fail)
                go_wp2_with fail
                go_step3
                go_wp2_with fail
                go_quiet (fail)
                cases ng
                · go_wp2_with fail
                  rw[gc];go_ret2;exact⟨mT i.o.1 i.o.2 (uY _ _),by first|exact N.o|exact N.o.drewN _|exact(N.o.drewN _).drewN _|exact((N.o.drewN _).drewN _).drewN _|exact(((N.o.drewN _).drewN _).drewN _).drewN _⟩
                · go_wp2_with fail
                  go_quiet (fail)
                  go_wp2_with fail
                  rw[gc];go_ret2;exact⟨mT i.o.1 i.o.2 (uZ _ _),by first|exact N.o|exact N.o.drewN _|exact(N.o.drewN _).drewN _|exact((N.o.drewN _).drewN _).drewN _|exact(((N.o.drewN _).drewN _).drewN _).drewN _⟩
              · rw[ae ds]at a1
                obtain⟨s4,bk⟩:∃s4,Dec.lsh 53 s3=s4:=⟨_,rfl⟩
                obtain⟨m,hm⟩:∃m,rF s4=m:=⟨_,rfl⟩
                rw[bk,hm]at a1
                obtain⟨D,F,Q,R,_,_⟩:=Dec.lsh_fine 53 s3 (by decide) (by decide) b0 b2;rw[bk]at D F Q R
                have SL:∀v,oC v B->aC v B s3->Y 263 #[.pointer (some ⟨B,0,none⟩),.int .i64 53] v (kU B s4 v):=by
                  intro v hv W;have:=aHl B 53 s3 v hv W b0 b2 (by decide) (by decide) (by omega) (by omega);rw[bk]at this
                  exact this
                have RI:∀v,aC v B s4->Y 278 #[.pointer (some ⟨B,0,none⟩)] v fun e w'=>e=.returned (.int .u64 (m:Nat))/\v=w':=by
                  intro v W;have:=aMI B s4 v W D (by omega) (by omega);rw[hm]at this
                  exact this
                have dr:s4.neg=ng:=by rw[<-bk];exact b1
                have ee:=Z dr;have be:=Z SL;have ej:=Z RI;have c0:=Z a1;clear q y b1 a1 b0 b2 d2 d3 SL RI dr bk hm D F Q R i0 i1 i2 c6;have i0:=al.o.info0;have i1:=al.o.info1;have i2:=al.o.info2;go_wp2_with fail
                go_quiet (fail)
                go_wp2_with fail
                refine(be.o _ (al.o.kept ((aD.refl _ _).drewN _)) (d5.o.drewN _)).mono ?_;rintro e' w5 ⟨rfl,p,l⟩;have cw:=Z p;have a:=Z ((N.o.drewN _).trans l);have b4:=Z ((al.o.kept ((aD.refl _ _).drewN _)).kept l);clear p l i0 i1 i2;have i0:=b4.o.info0;have i1:=b4.o.info1;have i2:=b4.o.info2;have c6:w5.cell? ⟨B,802,none⟩=some (.bool ng):=by rw[<-ee.o];exact cw.o.neg
                go_wp2_with fail
                refine(ej.o _ cw.o).mono ?_;rintro e' w' ⟨rfl,rfl⟩;by_cases dk:m=9007199254740992
                · subst dk
                  have P:=c0.o;rw[af rfl]at P
                  by_cases d1:2047<=E3+1+1023
                  · rw[af d1]at P
                    have i:G ((fbF c f s).1=jZ 0 2047 ng/\(fbF c f s).2=true):=by show _/\_;rw[av.o,P];exact⟨rfl,rfl⟩
                    clear P;go_wp2_with fail
                    go_quiet (fail)
                    go_wp2_with fail
                    apply lq;refine⟨_,rfl,?_⟩;go_wp2_with fail
                    go_quiet (fail)
                    go_wp2_with fail
                    go_step3
                    go_wp2_with fail
                    go_quiet (fail)
                    cases ng
                    · go_wp2_with fail
                      rw[gc];go_ret2;exact⟨mT i.o.1 i.o.2 (uY _ _),by first|exact a.o|exact a.o.drewN _|exact(a.o.drewN _).drewN _|exact((a.o.drewN _).drewN _).drewN _|exact(((a.o.drewN _).drewN _).drewN _).drewN _⟩
                    · go_wp2_with fail
                      go_quiet (fail)
                      go_wp2_with fail
                      rw[gc];go_ret2;exact⟨mT i.o.1 i.o.2 (uZ _ _),by first|exact a.o|exact a.o.drewN _|exact(a.o.drewN _).drewN _|exact((a.o.drewN _).drewN _).drewN _|exact(((a.o.drewN _).drewN _).drewN _).drewN _⟩
                  · rw[ae d1]at P
                    obtain⟨z,hz⟩:∃z,(bits .and .u64 ((4503599627370496:Nat):Int) 4503599627370496==0)=z:=⟨_,rfl⟩
                    have e8:(bits .and .u64 (4503599627370496:Int) 4503599627370496==0)=z:=hz;have h2:uH 4503599627370496 (E3+1) ng=(jZ 4503599627370496 (if z then 0 else E3+1+1023) ng,false):=by unfold uH;rw[hz];rfl
                    have i:G ((fbF c f s).1=jZ 4503599627370496 (if z then 0 else E3+1+1023) ng/\(fbF c f s).2=false):=by show _/\_;rw[av.o,P,h2];exact⟨rfl,rfl⟩
                    clear P h2 hz;cases z
                    · go_wp2_with fail
                      go_quiet (fail)
                      go_wp2_with fail
                      apply lq;refine⟨_,rfl,?_⟩;go_wp2_with fail
                      go_quiet (fail)
                      cases ng
                      · go_wp2_with fail
                        rw[gc];go_ret2;exact⟨mT i.o.1 i.o.2 (uY _ _),by first|exact a.o|exact a.o.drewN _|exact(a.o.drewN _).drewN _|exact((a.o.drewN _).drewN _).drewN _|exact(((a.o.drewN _).drewN _).drewN _).drewN _⟩
                      · go_wp2_with fail
                        go_quiet (fail)
                        go_wp2_with fail
                        rw[gc];go_ret2;exact⟨mT i.o.1 i.o.2 (uZ _ _),by first|exact a.o|exact a.o.drewN _|exact(a.o.drewN _).drewN _|exact((a.o.drewN _).drewN _).drewN _|exact(((a.o.drewN _).drewN _).drewN _).drewN _⟩
                    · exact absurd (e8.symm.trans (show(bits .and .u64 (4503599627370496:Int) 4503599627370496==0)=false by kernel_rfl)) (by decide)
                · have P:=c0.o
                  rw[ae dk]at P
                  have gr:((m:Int)==9007199254740992)=false:=ai.2 (by omega);obtain⟨z,hz⟩:∃z,(bits .and .u64 (m:Int) 4503599627370496==0)=z:=⟨_,rfl⟩
                  have h2:uH m E3 ng=(jZ m (if z then 0 else E3+1023) ng,false):=by unfold uH;rw[hz]
                  have i:G ((fbF c f s).1=jZ m (if z then 0 else E3+1023) ng/\(fbF c f s).2=false):=by show _/\_;rw[av.o,P,h2];exact⟨rfl,rfl⟩
                  clear P h2;cases z
                  · go_wp2_with fail
                    apply lq;refine⟨_,rfl,?_⟩;go_wp2_with fail
                    go_quiet (fail)
                    cases ng
                    · go_wp2_with fail
                      rw[gc];go_ret2;exact⟨mT i.o.1 i.o.2 (uY _ _),by first|exact a.o|exact a.o.drewN _|exact(a.o.drewN _).drewN _|exact((a.o.drewN _).drewN _).drewN _|exact(((a.o.drewN _).drewN _).drewN _).drewN _⟩
                    · go_wp2_with fail
                      go_quiet (fail)
                      go_wp2_with fail
                      rw[gc];go_ret2;exact⟨mT i.o.1 i.o.2 (uZ _ _),by first|exact a.o|exact a.o.drewN _|exact(a.o.drewN _).drewN _|exact((a.o.drewN _).drewN _).drewN _|exact(((a.o.drewN _).drewN _).drewN _).drewN _⟩
                  · go_wp2_with fail
                    apply lq;refine⟨_,rfl,?_⟩;go_wp2_with fail
                    go_quiet (fail)
                    cases ng
                    · go_wp2_with fail
                      rw[gc];go_ret2;exact⟨mT i.o.1 i.o.2 (uY _ _),by first|exact a.o|exact a.o.drewN _|exact(a.o.drewN _).drewN _|exact((a.o.drewN _).drewN _).drewN _|exact(((a.o.drewN _).drewN _).drewN _).drewN _⟩
                    · go_wp2_with fail
                      go_quiet (fail)
                      go_wp2_with fail
                      rw[gc];go_ret2;exact⟨mT i.o.1 i.o.2 (uZ _ _),by first|exact a.o|exact a.o.drewN _|exact(a.o.drewN _).drewN _|exact((a.o.drewN _).drewN _).drewN _|exact(((a.o.drewN _).drewN _).drewN _).drewN _⟩
      | succ r =>
        obtain⟨m,hm⟩:∃m:Nat,u.dp=-(m:Int):=⟨(-u.dp).toNat,by have:=A.1;unfold aA2 at this;omega⟩
        rw[hm]at S
        obtain⟨a5,a6⟩:=rD m;obtain⟨n,C⟩:∃n,pw m=n:=⟨_,rfl⟩
        have bh:(-u.dp).toNat=m:=by omega
        have SL:∀v,oC v B->aC v B u->Y 263 #[.pointer (some ⟨B,0,none⟩),.int .i64 (n:Int)] v (kU B (gF u) v):=by
          intro v hv W;have:=aHl B n u v hv W E ao (by omega) (by omega) (by omega) (by omega);have e1:gF u=Dec.lsh n u:=by unfold gF;rw[bh,C]
          rw[e1];exact this
        obtain⟨D,F,Q,R,_,_⟩:=Dec.lsh_fine (pw (-u.dp).toNat) u (rD _).1 (by have:=(rD (-u.dp).toNat).2;omega) E ao;have be:=Z SL;have a2:=Z A.2;have aa:G (Dec.Fine (gF u)):=D;have ab:G (1<=(gF u).nd):=F;have ac:G (-1000<=(gF u).dp):=by show -1000<=(Dec.lsh (pw (-u.dp).toNat) u).dp;omega
        have ad:G ((gF u).dp<=400):=by show(Dec.lsh (pw (-u.dp).toNat) u).dp<=400;omega
        have bd:G ((gF u).neg=s.neg):=a0;have an:lC r (gF u) (e2-n)=lC f t e:=by
          rw[<-J];show _=lC r (gF u) (e2-pw (-u.dp).toNat);rw[bh,C]
        have a4:=Z an;have fb:1<=n:=by omega
        have fd:n<=27:=by omega
        have ep:-300000<=e2:=by omega
        have a3:G (-300000<=e2-n-27*(r:Int)):=by show _<=_;omega
        obtain⟨b,o,hb,t1,X⟩:=aw.o.p2;by_cases h0:m=0
        · subst h0
          have h5:(dig u 0:Int)<53:=by have:=A.1;unfold aA2 at this;omega
          have n1:n=1:=by rw[<-C];rfl
          subst n1;have t3:wr.cell? ⟨b,o,none⟩=some (.int .i64 1):=X 0 (by omega);have f5:wr.cell? ⟨B,801,none⟩=some (.int .i64 0):=S;clear A J E ao q y V SL D F Q R an C a5 a6 hm bh bq bs X S a0;go_wp2_with fail
          go_quiet (fail)
          go_wp2_with fail
          go_quiet (fail)
          go_wp2_with fail
          refine(be.o _ (aw.o.kept ((aD.refl _ _).drewN _)) (a7.o.drewN _)).mono ?_;rintro e' w' ⟨rfl,p,l⟩;have L:=Z p;have M:=Z l;clear p l;go_wp2
          go_roundg r
          case measure=>have:=b3.o;omega
          case rel=>exact⟨r,gF u,_,rfl,rfl,a2.o,a4.o,aa.o,ab.o,ac.o,ad.o,by omega,a3.o,bd.o,L.o,(a9.o.drewN _).trans M.o⟩
        · have ge:-(m:Int)<0:=by omega
          have m1:1<=m:=by omega
          by_cases h9:9<=m
          · have cs:n=27:=by rw[<-C];unfold pw;rw[af h9]
            subst cs;have b5:(9:Int)<=m:=by omega
            have mb:m<=1000:=by omega
            clear A J E ao q y V SL D F Q R an C a5 a6 hm bh bq bs X c7 a0;go_wp2_with fail
            go_quiet (fail)
            go_wp2_with fail
            refine(be.o _ (aw.o.kept ((aD.refl _ _).drewN _)) (a7.o.drewN _)).mono ?_;rintro e' w' ⟨rfl,p,l⟩;have L:=Z p;have M:=Z l;clear p l;go_wp2
            go_roundg r
            case measure=>have:=b3.o;omega
            case rel=>exact⟨r,gF u,_,rfl,rfl,a2.o,a4.o,aa.o,ab.o,ac.o,ad.o,by omega,a3.o,bd.o,L.o,(a9.o.drewN _).trans M.o⟩
          · have b5:¬(9:Int)<=m:=by omega
            have t3:=X m (by omega);rw[aKl m (by omega),C]at t3
            have gm:(m:Int)<9:=by omega
            have gh:m<9:=by omega
            clear A J E ao q y V SL D F Q R an C a5 a6 hm bh bq bs X c7 h9 a0;go_wp2_with fail
            go_quiet (fail)
            go_wp2_with fail
            go_quiet (fail)
            go_wp2_with fail
            refine(be.o _ (aw.o.kept ((aD.refl _ _).drewN _)) (a7.o.drewN _)).mono ?_;rintro e' w' ⟨rfl,p,l⟩;have L:=Z p;have M:=Z l;clear p l;go_wp2
            go_roundg r
            case measure=>have:=b3.o;omega
            case rel=>exact⟨r,gF u,_,rfl,rfl,a2.o,a4.o,aa.o,ab.o,ac.o,ad.o,by omega,a3.o,bd.o,L.o,(a9.o.drewN _).trans M.o⟩
  | succ r =>
    have bf:0<t.dp:=A.1;obtain⟨d,hd⟩:∃d:Nat,t.dp=(d:Int):=⟨t.dp.toNat,by omega⟩
    rw[hd]at S
    obtain⟨a5,a6⟩:=rD d;obtain⟨n,C⟩:∃n,pw d=n:=⟨_,rfl⟩
    have SR:∀u,aC u B t->Y 263 #[.pointer (some ⟨B,0,none⟩),.int .i64 (-(n:Int))] u (kU B (fR t) u):=by
      intro u W;have:=aHm B 0 n t u W E bj (by omega) (by omega) (by omega) (by omega) (by omega);rw[show(-((60*0+n:Nat):Int))=-(n:Int) by omega]at this
      have e1:fR t=Dec.rsh n (jB 0 t):=by unfold fR;rw[hd,eo,C];rfl
      rw[e1];exact this
    obtain⟨D,F,Q,R,_,_⟩:=Dec.rsh_fine (pw t.dp.toNat) t (rD _).1 (by have:=(rD t.dp.toNat).2;omega) E bj;have bx:=Z SR;have a2:=Z A.2;have aa:G (Dec.Fine (fR t)):=D;have ab:G (1<=(fR t).nd):=F;have ac:G (-1000<=(fR t).dp):=by show -1000<=(Dec.rsh (pw t.dp.toNat) t).dp;omega
    have ad:G ((fR t).dp<=400):=by show(Dec.rsh (pw t.dp.toNat) t).dp<=400;omega
    have an:eV r (fR t) (e+n)=eV c s 0:=by
      rw[<-J];show _=eV r (fR t) (e+pw t.dp.toNat);rw[hd,eo,C]
    have a4:=Z an;have fb:1<=n:=by omega
    have fd:n<=27:=by omega
    have ep:e<=100000:=by omega
    have gb:(0:Int)<d:=by omega
    have a3:G (e+n+27*(r:Int)<=27*c):=by show _<=_;omega
    obtain⟨b,o,hb,t1,X⟩:=HS.o.p2;by_cases h9:9<=d
    · have cs:n=27:=by rw[<-C];unfold pw;rw[af h9]
      subst cs;have b5:(9:Int)<=d:=by omega
      clear A J E bj q y V SR D F Q R an C a5 a6 hd bf cd ci X;go_wp2_with fail
      go_quiet (fail)
      go_wp2_with fail
      refine(bx.o _ (HD.o.drewN _)).mono ?_;rintro e' w' ⟨rfl,p,l⟩;have L:=Z p;have M:=Z l;clear p l;go_wp2
      go_roundg r
      case measure=>have:=HG.o;omega
      case rel=>exact⟨r,fR t,_,rfl,rfl,a2.o,a4.o,aa.o,ab.o,ac.o,ad.o,by omega,a3.o,L.o,(HK.o.drewN _).trans M.o⟩
    · have b5:¬(9:Int)<=d:=by omega
      have t3:=X d (by omega);rw[aKl d (by omega),C]at t3
      have ga:(d:Int)<9:=by omega
      have f6:d<9:=by omega
      clear A J E bj q y V SR D F Q R an C a5 a6 hd bf cd ci X h9;go_wp2_with fail
      go_quiet (fail)
      go_wp2_with fail
      go_quiet (fail)
      go_wp2_with fail
      refine(bx.o _ ((HD.o.drewN _))).mono ?_;rintro e' w' ⟨rfl,p,l⟩;have L:=Z p;have M:=Z l;clear p l;go_wp2
      go_roundg r
      case measure=>have:=HG.o;omega
      case rel=>exact⟨r,fR t,_,rfl,rfl,a2.o,a4.o,aa.o,ab.o,ac.o,ad.o,by omega,a3.o,L.o,(HK.o.drewN _).trans M.o⟩
