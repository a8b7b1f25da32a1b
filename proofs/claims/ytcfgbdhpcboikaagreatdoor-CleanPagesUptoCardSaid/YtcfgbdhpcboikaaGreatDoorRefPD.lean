/-
The document's put and Filter at every node: what they answer.
-/
import Derived.Test.YtcfgbdhpcboikaaGreatDoorCountW
namespace Go.Proofs.YtcfgbdhpcboikaaGreatDoor
set_option maxHeartbeats 16000000
set_option maxRecDepth 100000
open Go.RowKit
theorem nK {n:Nat}:n<=n:=ag n
theorem contains_nil (x:I):Lib.containsS [] x=false:=by
 cases h:Lib.containsS [] x with|false=>rfl|true=>exact absurd ((ix _ _).1 h) (by simp)
theorem aNz (A:cY)(HA:G (aIt A))(m:Nat)(ec:G (aFg A m)):aFg A (m+1):=by
 intro q hn nv pn pv ph out v P w HT T hb gs dk aa b3 hN;by_cases ao:q.kind=2;{exact aNA A q ao nv pn pv ph out v P w T hb aa hN};obtain⟨fd,bj,fb,bk,e3⟩:=cq Tryz.info45;obtain⟨g5,a2,b2,rfl,⟨a1,b1,rfl,_⟩,_,_⟩:=hN.o.get;obtain⟨va,vc,rfl⟩:=aa.o.slice;obtain⟨pa,pc,rfl,hm⟩:=b3.o.cap;have bl:=Z hN.o.partsV;have hR:eG A pn ph out q=(if q.kind≠1\/q.space≠0\/aS q.name.data.toList=1 then out else if sG pn ph out q.name=true then out++[.mk 1 0 q.name (A q.name q.attrs) ⟨#[]⟩ (aM A q.name ph q.kids)]else aT A pn ph out q.kids):=by{rw[mX,ac ao]};have dn:=aNi (pn:=pn) (nm:=q.name) (ph:=ph) (out:=out) dk.o;have gr:=(lV out).1;have g0:=cO q;have gt:=dS q;have hj:q.kids.length<=10000000:=by{have:=(kY q.kids).2;omega};have hl:out.length<=100000000:=by{omega};have eg:=Z (show wtK out+4*aE q.kids<=100000000 by omega);have eb:=Z (show ph.length+1+aB q.kids<=10000000 by omega);have HM:=Z (show aB q.kids<=m by omega);have hp:ph.length<=10000000:=by{omega};generalize eG A pn ph out q=R at *;have c7:=fun W=>jZ q.name W;have c8:=fun W=>aJc pn q.name W;obtain⟨K,hK⟩:∃K,aS q.name.data.toList=K:=⟨_,rfl⟩;obtain⟨m0,dm⟩:∃m0,yP pn.data.toList q.name.data.toList=m0:=⟨_,rfl⟩;obtain⟨my,dp⟩:∃my,sG pn ph out q.name=my:=⟨_,rfl⟩;rw[hK,dp]at hR;rw[hK,dp,dm]at dn;rw[hK]at c7;rw[dm]at c8;have HR:=Z hR;have d9:=Z dn;have d4:=Z c7;have d5:=Z c8;obtain⟨W0,bd⟩:=ex (w.alloc (.cells #[.int .i64 q.kind,.int .i64 q.space,.string q.name,.slice a1 q.attrs.length b1,.string q.text,.slice a2 q.kids.length b2] 45));have d2:G (Below w.heap.size w W0):=by{rw[bd];exact(aj _ w).alloc nK _};have cr:G (W0.heap[w.heap.size]?=some (.cells #[.int .i64 q.kind,.int .i64 q.space,.string q.name,.slice a1 q.attrs.length b1,.string q.text,.slice a2 q.kids.length b2] 45 (0,0))):=by{rw[bd];exact bi w _};have cj:G (w.heap.size<W0.heap.size):=by{rw[bd];simp[G]};have f5:=Z bd;have ea:G ((Value.slice va out.length vc).ownBlock≠some w.heap.size):=fun e=>absurd (aa.o.hi _ e) (lq _);have hf:(q.kind==2)=false:=by{rw[ai];exact ao};obtain⟨y0,y1,y2,y3,y4,y5⟩:=(tR cr.o).zero;obtain⟨nb,dq⟩:∃nb,w.heap.size=nb:=⟨_,rfl⟩;have g4:=Z dq;clear bd hb hR dn hK dm dp c7 c8 g0 gt gr hn gs;go_enter Tryz.func106,Tryz.ntmps106;go_wp2_with fail;rw[<-f5.o];rw[dq]at cr ea cj;clear dq;refine(d4.o W0).mono ?_;rintro x V2 ⟨rfl,B2⟩;have ar:=Z (d2.o.trans (B2.mono d2.o.size));have cw:G (V2.heap[nb]?=some (.cells #[.int .i64 q.kind,.int .i64 q.space,.string q.name,.slice a1 q.attrs.length b1,.string q.text,.slice a2 q.kids.length b2] 45 (0,0))):=(B2.block nb cj.o).trans cr.o;have ck:=Z (cf cj.o B2.size);clear B2 y0 y1 y2 y3 y4 y5;obtain⟨y0,y1,y2,y3,y4,y5⟩:=(tR cw.o).zero;have bs:G (R=out->∀V,Below w.heap.size w V->wI P.heap.size P w (.slice va out.length vc) R (.returned (.slice va out.length vc)) V):=fun h V y=>⟨_,rfl,by rw[h];exact aa.o.keep y,dH.below _ y⟩;by_cases h1:q.kind=1
 ·have e1:(q.kind !=1)=false:=by{rw[h1];rfl};by_cases h0:q.space=0
  ·have e0:(q.space !=0)=false:=by{rw[h0];rfl};by_cases b5:K=1;{have el:((K:Int)==1)=true:=by{rw[cv];omega};have a7:=Z (bs.o (by rw[HR.o,ae (.inr (.inr b5))]) V2 ar.o);clear h1 h0 b5 ao;go_wp2;go_ret;exact a7.o}
   ·have el:((K:Int)==1)=false:=by rw[ai];omega
    have ee:=Z (show R=if my=true then out++[.mk 1 0 q.name (A q.name q.attrs) ⟨#[]⟩ (aM A q.name ph q.kids)]else aT A pn ph out q.kids by
     rw[HR.o,ac];rintro(h|h|h)
     ·exact h h1
     ·exact h h0
     ·exact b5 h)
    clear h1 h0 b5 ao HR bs;go_wp2_with fail;refine(d5.o V2).mono ?_;rintro x V3 ⟨rfl,B3⟩;have a4:=Z (ar.o.trans (B3.mono ar.o.size));have cs:G (V3.heap[nb]?=some (.cells #[.int .i64 q.kind,.int .i64 q.space,.string q.name,.slice a1 q.attrs.length b1,.string q.text,.slice a2 q.kids.length b2] 45 (0,0))):=(B3.block nb ck.o).trans cw.o;have bq:=Z (cf ck.o B3.size);clear B3 y0 y1 y2 y3 y4 y5 e1 e0 el d4 d5;obtain⟨a8,ey⟩:∃a8:Bool,a8=(m0&&!Lib.containsS ph q.name):=⟨_,rfl⟩;have ca:=Z ey;clear ey;go_upto_block 0 with fail;go_cut [13] (fun b wx=>b=.bool a8/\G (Below V3.heap.size V3 wx))
    case first =>
     go_wp2_with fail;go_loopw [13,14] (fun b j wx=>∃(k:Nat) (d:Bool),b=.bool d/\j=.int .i64 k/\k<=ph.length/\G (d=(m0&&!Lib.containsS (ph.take k) q.name))/\G (Below V3.heap.size V3 wx)) (fun _ j _=>ph.length-(intOf j).toNat);case atStart=>exact⟨0,m0,rfl,rfl,ax _,Z (by rw[f7,contains_nil];simp),Z (aj _ _)⟩
     case round =>
      obtain⟨k,d,rfl,rfl,hk,hD,y⟩:=hrel;have em:=aa.o.bel.trans ((a4.o.trans (y.o.mono a4.o.size)).mono aa.o.base);obtain⟨y0,y1,y2,y3,y4,y5⟩:=(tR ((y.o.block nb bq.o).trans cs.o)).zero;rcases ak k ph.length with C|dg
      ·obtain⟨g,d1,c',hv,b4⟩:=b3.o.vec.get k (by simpa using C);simp only[cg,fy]at hv;obtain⟨rfl,rfl⟩:=hv;rw[oe]at b4;have hh:wr.cell? ⟨g,d1+k,none⟩=some (.string ph[k]):=by{rw[em.cell (p:=⟨g,d1+k,none⟩) (ed _ _ b4)];exact b4}
       have HN:=Z (show ∀z:Bool,z=decide (ph[k]=q.name)->(d&&!z)=(m0&&!Lib.containsS (ph.take (k+1)) q.name) by
        intro z hz;rw[aER ph q.name k C,hD.o,hz];cases m0<;>cases Lib.containsS (ph.take k) q.name<;>simp)
       have fp:=Z (show ∀z:Bool,(ph[k].toList==q.name.toList)=z->z=decide (ph[k]=q.name) by
        intro z hz;rw[<-hz,ba,cv,bm,toList_data,toList_data];exact⟨eY,fun e=>by rw[e]⟩)
       clear b4 em;generalize ph[k]=pk at *;obtain⟨z,hz⟩:∃z,(pk.toList==q.name.toList)=z:=⟨_,rfl⟩;have HF:=Z (HN.o z (fp.o z hz));have hq:(pk.toList !=q.name.toList) = !z:=by rw[<-hz];rfl
       cases d with
       | false =>
        go_wp2_with fail
        go_quiet (fail)
        go_wp2
        go_roundw
        case rel=>exact⟨k+1,false,rfl,by go_num,by omega,HF,Z ⟨y.o.os,y.o.tape,y.o.output,y.o.size,y.o.block⟩⟩
        case measure=>simp[intOf];omega
       | true =>
        cases z;all_goals
         go_wp2_with fail
         go_quiet (fail)
         go_wp2
         go_roundw
         case rel=>exact⟨k+1,_,rfl,by go_num,by omega,HF,Z ⟨y.o.os,y.o.tape,y.o.output,y.o.size,y.o.block⟩⟩
         case measure=>simp[intOf];omega
      {have HE:G (d=a8):=by{show _=_;rw[hD.o,ca.o,cy dg]};go_wp2_with fail;go_meet;case rel=>exact⟨by rw[HE.o],y⟩}
    case rest =>
     obtain⟨rfl,b0⟩:=hcut;have a6:=Z (a4.o.trans (b0.o.mono a4.o.size));have ek:G (wc.heap[nb]?=some (.cells #[.int .i64 q.kind,.int .i64 q.space,.string q.name,.slice a1 q.attrs.length b1,.string q.text,.slice a2 q.kids.length b2] 45 (0,0))):=(b0.o.block nb bq.o).trans cs.o;have fx:=Z (cf bq.o b0.o.size);obtain⟨a,rfl⟩:∃a:H,a=wc:=⟨_,rfl⟩;obtain⟨Q,ez⟩:∃Q:Bool,Q=true↔(K=10/\0<out.length):=⟨decide (K=10/\0<out.length),decide_eq_true_iff⟩;have a3:=Z ez;have fz:G (my=if Q=true then false else a8):=by{show _=_;rw[d9.o,ca.o];by_cases h:K=10/\0<out.length;{rw[ae h,ae (a3.o.2 h)]};{rw[ac h,ac (fun e=>h (a3.o.1 e))]}};clear ez d9 ca a4 cs bq b0 cw ck ar;go_upto_region 19 with fail;go_cut [104] (fun x wx=>x=.bool Q/\wx=a);case first =>by_cases a9:K=10;{have gb:((K:Int)==10)=true:=by{rw[cv];omega};by_cases ho:0<out.length;{have HV:G (true=Q):=(a3.o.2 ⟨a9,ho⟩).symm;have gd:decide ((0:Int)<(out.length:Int))=true:=bu (by omega);clear a9;go_wp2_with fail;go_meet;case rel=>exact⟨by rw[HV.o],rfl⟩};{have HV:G (false=Q):=by{cases hbb:Q with|false=>rfl|true=>exact absurd (a3.o.1 hbb).2 ho};have gd:decide ((0:Int)<(out.length:Int))=false:=bp (by omega);clear a9;go_wp2_with fail;go_meet;case rel=>exact⟨by rw[HV.o],rfl⟩}};{have gb:((K:Int)==10)=false:=by{rw[ai];omega};have HV:G (false=Q):=by{cases hbb:Q with|false=>rfl|true=>exact absurd (a3.o.1 hbb).1 a9};clear a9;go_wp2_with fail;go_meet;case rel=>exact⟨by rw[HV.o],rfl⟩}
     case rest =>
      obtain⟨rfl,ds⟩:=hcut;have dz:=ds.symm;subst dz;go_upto_if 104 with fail;go_cut [13] (fun x wx=>x=.bool my/\wx=a)
      case first =>
       cases Q;all_goals
        have HV:=Z fz.o.symm;go_wp2_with fail
        go_meet
        case rel=>exact⟨by rw[<-HV.o];rfl,rfl⟩
      case rest =>
       obtain⟨rfl,ds⟩:=hcut;have dz:=ds.symm;subst dz;have cm:=Z (aa.o.keep a6.o);have E:=Z (aa.o.bel.trans (a6.o.mono aa.o.base));have av:=Z (tR ek.o);obtain⟨x0,x1,x2,x3,x4,x5⟩:=av.o.zero;cases my with
       | false =>
        have cp:=Z (show R=aT A pn ph out q.kids by rw[ee.o];rfl);have f4:=Z (show Pv P.heap.size (.slice va out.length vc) (aT A pn ph out (q.kids.take 0)) P a by rw[f7,fT];exact cm.o);go_wp2_with fail
        go_loopw [0,16] (fun v0 i wx=>∃k:Nat,i=.int .i64 k/\k<=q.kids.length/\G (Pv P.heap.size v0 (aT A pn ph out (q.kids.take k)) P wx)/\G (dH a wx (.slice va out.length vc) v0)) (fun _ i _=>q.kids.length-(intOf i).toNat)
        case atStart=>exact⟨0,rfl,ax _,f4,Z (dH.below _ (aj _ _))⟩
        case round =>
         obtain⟨k,rfl,hk,dd,c6⟩:=hrel;clear x0 x1 x2 x3 x4 x5;obtain⟨x0,x1,x2,x3,x4,x5⟩:=(tR ((c6.o.stay fx.o ea.o).1.trans ek.o)).zero;rcases ak k q.kids.length with C|dg
         ·obtain⟨g,d1,c0,c1,c2,c3,c4,c5,rfl,h6,dl⟩:=bl.o.2.get q.kids 0 k C;rw[be]at h6
          obtain⟨z0,z1,z2,z3,z4,z5⟩:=h6.below dd.o.bel nK;obtain⟨g6,ha,hc,he,rfl,rfl,rfl,rfl,rfl,rfl⟩:=dl.cells;have e7:wtK (aT A pn ph out (q.kids.take k))+4*(q.kids[k]).tk<=100000000:=by
           have g1:=(lP A).2 (q.kids.take k) pn ph out;have g2:=uS q.kids k C;have hg:=eg.o;omega
          have e8:ph.length+(q.kids[k]).sz<=10000000:=by
           have g1:=aAG q.kids k C;have g2:=eb.o;omega
          have HC:=Z (ec.o q.kids[k] (bg (aAG q.kids k C) HM.o) _ pn (.slice pa ph.length pc) ph (aT A pn ph out (q.kids.take k)) u0 P wr HT (Z (SmK.get q.kids k C T.o.get.2.2.2.2)) e7 e8 dk dd b3 (Z dl));rw[<-rH A pn ph out q.kids k C]at HC
          clear dl h6 e7 e8;generalize q.kids[k]=kd at *
          go_wp2_with fail
          refine HC.o.mono ?_;unfold wI;rintro e W4 ⟨v4,rfl,es,eq⟩;have f1:=Z es;have cd:=Z (c6.o.trans eq);clear es eq HC;go_wp2
          go_roundw
          case rel=>exact⟨k+1,by go_num,by omega,f1,cd⟩
          case measure=>simp[intOf];omega
         ·have c9:=dd.o;rw[cy dg,<-cp.o]at c9
          have f2:=Z c9;have fr:=Z ((dH.below (.slice va out.length vc) a6.o).trans c6.o);clear c9;go_wp2
          go_ret;exact⟨_,rfl,f2.o,fr.o⟩
       | true =>
        have cp:=Z (show R=out++[.mk 1 0 q.name (A q.name q.attrs) ⟨#[]⟩ (aM A q.name ph q.kids)] by rw[ee.o];rfl);go_upto_region 22 with fail
        obtain⟨fd,bj,fb,bk,e3⟩:=cq Tryz.info45;go_cut [15] (fun p6 wx=>∃n l t,p6=.pointer (some ⟨n,0,none⟩)/\G (wx.heap[n]?=some (.cells #[.int .i64 1,.int .i64 0,.string q.name,.slice l (A q.name q.attrs).length t,.string ⟨#[]⟩,.slice none 0 0] 45 (0,0)))/\G (gT (fun g=>a.heap.size<=g/\g≠n) wx l (A q.name q.attrs))/\G (a.heap.size<=n)/\G (Below a.heap.size a wx))
        case first =>
         obtain⟨S,hS⟩:∃S:H->Prop,∀u,S u↔Below a.heap.size a u:=⟨_,fun _=>gy⟩
         have ge:∀s:WIn S,s.w.cell? ⟨nb,2,none⟩=some (.string q.name):=fun s=>(av.o.zero.2.2.1)▸((hS _).1 s.h).cell (p:=⟨nb,2,none⟩) av.o.lt
         have gh:∀s:WIn S,s.w.cell? ⟨nb,3,none⟩=some (.slice a1 q.attrs.length b1):=fun s=>(av.o.zero.2.2.2.1)▸((hS _).1 s.h).cell (p:=⟨nb,3,none⟩) av.o.lt
         haveI:Nonempty (WIn S):=⟨⟨a,(hS _).2 (aj _ _)⟩⟩
         have X:=Z hS;clear hS x0 x1 x2 x3 x4 x5;refine uK 9 (.two [0,1,2,3,4,5] 6 (.two [] 7 (.one [] 8 (.fin [])) 8 (.one [] 7 (.fin []))) 8 (.one [] 6 (.one [] 7 (.fin [])))) S (by kernel_rfl) (by kernel_rfl) ((X.o _).2 (cT a)) ?_;refine gS (fun r f=>?_);simp only[pick,pickZ,pickS,pickG];repeat (go_big_quiet_step (fail))
         clear ge gh;refine am (f _ ?_ ?_)
         ·intro Q1 a0;clear f r;simp only[pick,pickZ,pickS,pickG];go_wp2_with fail
          have M:=Z (cT a);have bh:=HA.o q.name q.attrs (.slice a1 q.attrs.length b1) (a.drewN 1) T.o.get.1 T.o.get.2.2.1 T.o.get.2.2.2.1 (HT.o.below (E.o.trans (M.o.mono E.o.size)) nK) (bl.o.1.below (E.o.trans (M.o.mono E.o.size)) nK);refine bh.mono ?_;rintro e c ⟨u,rfl,J⟩;obtain⟨l,t,rfl,_,dr⟩:=J.slice;have HU:=Z J.attrsD;have D:=Z (M.o.trans (J.bel.mono M.o.size));have g3:=Z J.bel;clear bh J dr;go_wp2_with fail
          refine a0 _ _ ((X.o _).2 D.o) (gS (fun r f=>am (f _ ?_ ?_)))
          ·clear f r a0 Q1;intro Q2 ah;simp only[pick,pickZ,pickS,pickG];go_wp2_with fail
           refine ah _ _ ((X.o _).2 D.o) (bP (fun r f=>am (f _ ?_)));clear f r ah Q2;intro Q3 al;simp only[pick,pickZ,pickS,pickG];go_wp2_with fail
           have ab:Below c.heap.size c (c.alloc (.cells #[.int .i64 0,.int .i64 0,.string ⟨#[]⟩,.slice none 0 0,.string ⟨#[]⟩,.slice none 0 0] 45)):=(aj c.heap.size c).alloc nK _;have F:=bi c (.cells #[.int .i64 0,.int .i64 0,.string ⟨#[]⟩,.slice none 0 0,.string ⟨#[]⟩,.slice none 0 0] 45);obtain⟨WB,bf⟩:=ex (c.alloc (.cells #[.int .i64 0,.int .i64 0,.string ⟨#[]⟩,.slice none 0 0,.string ⟨#[]⟩,.slice none 0 0] 45))
           rw[<-bf]at ab F ⊢
           have ad:=Z F;have L:=Z (D.o.trans (ab.mono D.o.size));have an:G (gT (fun g=>a.heap.size<=g/\g≠c.heap.size) WB l (A q.name q.attrs)):=HU.o.keep (fun g B hd=>⟨ab.block g B,bg (cT a).size hd.1,by omega⟩);have N:=Z D.o.size;clear ab F bf;refine al _ _ ((X.o _).2 L.o) (dL (fun r f=>am (f _ (fun Q5 et=>?_))));clear f r al Q3;simp only[dj,dt];refine ff (by rfl) 45 (.tmp 15) (.tmp 113) rfl c.heap.size #[.int .i64 1,.int .i64 0,.string q.name,.slice l (A q.name q.attrs).length t,.string ⟨#[]⟩,.slice none 0 0] rfl rfl 45 _ ad.o (by rw[bj];simp[bk]) rfl (by simp[Value.oneCell']) ?_;go_wp2_with fail
           go_meet
           case rel=>exact⟨c.heap.size,l,t,rfl,Z (df WB c.heap.size _ #[.int .i64 1,.int .i64 0,.string q.name,.slice l (A q.name q.attrs).length t,.string ⟨#[]⟩,.slice none 0 0] 45 (0,0) ad.o),Z (an.o.keep (fun g B hd=>⟨gp WB _ g _ hd.2,hd⟩)),N,Z (bI L.o _ N.o _)⟩
          ·clear f r a0 Q1;intro Q2 ah;simp only[pick,pickZ,pickS,pickG];go_wp2_with fail
           have ab:Below c.heap.size c (c.alloc (.cells #[.int .i64 0,.int .i64 0,.string ⟨#[]⟩,.slice none 0 0,.string ⟨#[]⟩,.slice none 0 0] 45)):=(aj c.heap.size c).alloc nK _;have F:=bi c (.cells #[.int .i64 0,.int .i64 0,.string ⟨#[]⟩,.slice none 0 0,.string ⟨#[]⟩,.slice none 0 0] 45);obtain⟨WB,bf⟩:=ex (c.alloc (.cells #[.int .i64 0,.int .i64 0,.string ⟨#[]⟩,.slice none 0 0,.string ⟨#[]⟩,.slice none 0 0] 45))
           rw[<-bf]at ab F ⊢
           have ad:=Z F;have L:=Z (D.o.trans (ab.mono D.o.size));have an:G (gT (fun g=>a.heap.size<=g/\g≠c.heap.size) WB l (A q.name q.attrs)):=HU.o.keep (fun g B hd=>⟨ab.block g B,bg (cT a).size hd.1,by omega⟩);have N:=Z D.o.size;clear ab F bf;refine ah _ _ ((X.o _).2 L.o) (bP (fun r f=>am (f _ ?_)));clear f r ah Q2;intro Q3 al;simp only[pick,pickZ,pickS,pickG];go_wp2_with fail
           refine al _ _ ((X.o _).2 L.o) (dL (fun r f=>am (f _ (fun Q5 et=>?_))));clear f r al Q3;simp only[dj,dt];refine ff (by rfl) 45 (.tmp 15) (.tmp 113) rfl c.heap.size #[.int .i64 1,.int .i64 0,.string q.name,.slice l (A q.name q.attrs).length t,.string ⟨#[]⟩,.slice none 0 0] rfl rfl 45 _ ad.o (by rw[bj];simp[bk]) rfl (by simp[Value.oneCell']) ?_;go_wp2_with fail
           go_meet
           case rel=>exact⟨c.heap.size,l,t,rfl,Z (df WB c.heap.size _ #[.int .i64 1,.int .i64 0,.string q.name,.slice l (A q.name q.attrs).length t,.string ⟨#[]⟩,.slice none 0 0] 45 (0,0) ad.o),Z (an.o.keep (fun g B hd=>⟨gp WB _ g _ hd.2,hd⟩)),N,Z (bI L.o _ N.o _)⟩
         ·intro Q1 a0;clear f r;simp only[pick,pickZ,pickS,pickG];go_wp2_with fail
          have cz:Below a.heap.size a ((a.drewN 1).alloc (.cells #[.int .i64 0,.int .i64 0,.string ⟨#[]⟩,.slice none 0 0,.string ⟨#[]⟩,.slice none 0 0] 45)):=(cT a).alloc nK _;have F:((a.drewN 1).alloc (.cells #[.int .i64 0,.int .i64 0,.string ⟨#[]⟩,.slice none 0 0,.string ⟨#[]⟩,.slice none 0 0] 45)).heap[a.heap.size]?=some (.cells #[.int .i64 0,.int .i64 0,.string ⟨#[]⟩,.slice none 0 0,.string ⟨#[]⟩,.slice none 0 0] 45 (0,0)):=bi (a.drewN 1) (.cells #[.int .i64 0,.int .i64 0,.string ⟨#[]⟩,.slice none 0 0,.string ⟨#[]⟩,.slice none 0 0] 45);have C:a.heap.size<((a.drewN 1).alloc (.cells #[.int .i64 0,.int .i64 0,.string ⟨#[]⟩,.slice none 0 0,.string ⟨#[]⟩,.slice none 0 0] 45)).heap.size:=by simp[World.drewN]
          obtain⟨Wa,ev⟩:=ex ((a.drewN 1).alloc (.cells #[.int .i64 0,.int .i64 0,.string ⟨#[]⟩,.slice none 0 0,.string ⟨#[]⟩,.slice none 0 0] 45))
          rw[<-ev]at cz F C ⊢
          have M:=Z cz;have f3:=Z F;have ci:=Z C;clear cz F C ev;refine a0 _ _ ((X.o _).2 M.o) (bP (fun r f=>am (f _ ?_)));clear f r a0 Q1;intro Q2 ah;simp only[pick,pickZ,pickS,pickG];go_wp2_with fail
          have bh:=HA.o q.name q.attrs (.slice a1 q.attrs.length b1) Wa T.o.get.1 T.o.get.2.2.1 T.o.get.2.2.2.1 (HT.o.below (E.o.trans (M.o.mono E.o.size)) nK) (bl.o.1.below (E.o.trans (M.o.mono E.o.size)) nK);refine bh.mono ?_;rintro e c ⟨u,rfl,J⟩;obtain⟨l,t,rfl,_,dr⟩:=J.slice;have HU:=Z J.attrsD;have L:=Z (M.o.trans (J.bel.mono M.o.size));have ad:=Z ((J.bel.block a.heap.size ci.o).trans f3.o);have an:G (gT (fun g=>a.heap.size<=g/\g≠a.heap.size) c l (A q.name q.attrs)):=HU.o.keep (fun g B hd=>⟨rfl,by have:=ci.o;omega,by have:=ci.o;omega⟩);have N:=Z (ag a.heap.size);clear bh J dr;go_wp2_with fail
          refine ah _ _ ((X.o _).2 L.o) (bP (fun r f=>am (f _ ?_)));clear f r ah Q2;intro Q3 al;simp only[pick,pickZ,pickS,pickG];go_wp2_with fail
          refine al _ _ ((X.o _).2 L.o) (dL (fun r f=>am (f _ (fun Q5 et=>?_))));clear f r al Q3;simp only[dj,dt];refine ff (by rfl) 45 (.tmp 15) (.tmp 113) rfl a.heap.size #[.int .i64 1,.int .i64 0,.string q.name,.slice l (A q.name q.attrs).length t,.string ⟨#[]⟩,.slice none 0 0] rfl rfl 45 _ ad.o (by rw[bj];simp[bk]) rfl (by simp[Value.oneCell']) ?_;go_wp2_with fail
          go_meet
          case rel=>exact⟨a.heap.size,l,t,rfl,Z (df c a.heap.size _ #[.int .i64 1,.int .i64 0,.string q.name,.slice l (A q.name q.attrs).length t,.string ⟨#[]⟩,.slice none 0 0] 45 (0,0) ad.o),Z (an.o.keep (fun g B hd=>⟨gp c _ g _ hd.2,hd⟩)),N,Z (bI L.o _ N.o _)⟩
        case rest =>
         obtain⟨n,l,t,rfl,ei,an,N,a5⟩:=hcut;have ga:=Z (av.o.below a5.o nK);have cb:=Z (E.o.trans (a5.o.mono E.o.size));have d3:=Z (aKJ A m ec q.kids HM.o q.name (.slice pa ph.length pc) ph wc a2 b2 (Z (HT.o.below cb.o nK)) (Z T.o.get.2.2.2.2) (by have:=eg.o;omega) eb.o dk (Z (b3.o.below cb.o nK)) (Z (bl.o.2.below cb.o nK)));clear x0 x1 x2 x3 x4 x5;obtain⟨x0,x1,x2,x3,x4,x5⟩:=ga.o.zero;generalize aM A q.name ph q.kids=RK at *
         go_wp2_with fail
         refine d3.o.mono ?_;rintro e c ⟨ka,kc,rfl,e5,e4,e2⟩;have fs:=Z e4;have D:=Z e2;have ft:=Z e5;clear e4 e2 d3 e5 x0 x1 x2 x3 x4 x5;have d0:n<wc.heap.size:=(d8.1 ei.o).1;have b6:c.heap[n]?=some (.cells #[.int .i64 1,.int .i64 0,.string q.name,.slice l (A q.name q.attrs).length t,.string ⟨#[]⟩,.slice none 0 0] 45 (0,0)):=(D.o.block n d0).trans ei.o;have gk:c.cell? ⟨n,5,none⟩=some (.slice none 0 0):=by rw[aq _ _ 5 _ 45 (0,0) b6];rfl
         have gm:c.frozen? ⟨n,5,none⟩=false:=by simp[World.frozen?,b6]
         have ef:=Z b6;have ej:=Z d0;clear b6 d0;go_upto_region 24 with fail
         have e6:(c.setCell ⟨n,5,none⟩ (.slice ka RK.length kc)).heap[n]?=some (.cells #[.int .i64 1,.int .i64 0,.string q.name,.slice l (A q.name q.attrs).length t,.string ⟨#[]⟩,.slice ka RK.length kc] 45 (0,0)):=by
          rw[od c n 5 _ 45 (0,0) _ ef.o];exact df c n _ _ 45 (0,0) ef.o
         have bx:Below a.heap.size a (c.setCell ⟨n,5,none⟩ (.slice ka RK.length kc)):=(a5.o.trans (D.o.mono a5.o.size)).setCell N.o _;have e9:bS (fun g=>a.heap.size<=g/\g≠n) (c.setCell ⟨n,5,none⟩ (.slice ka RK.length kc)) (.mk 1 0 q.name (A q.name q.attrs) ⟨#[]⟩ RK) (.agg #[.int .i64 1,.int .i64 0,.string q.name,.slice l (A q.name q.attrs).length t,.string ⟨#[]⟩,.slice ka RK.length kc]):=by
          unfold bS;refine⟨l,t,ka,kc,rfl,ft.o,?_,?_⟩
          ·exact an.o.keep (fun g B hd=>⟨by rw[gu c ⟨n,5,none⟩ g _ hd.2,D.o.block g B],hd⟩)
          ·refine fs.o.keep (fun g B hd=>⟨gu c ⟨n,5,none⟩ g _ ?_,?_,?_⟩)
           ·have g1:=ej.o;show g≠n;omega
           ·have g1:=a5.o.size;omega
           ·have g1:=ej.o;omega
         clear gk gm;generalize c.setCell ⟨n,5,none⟩ (.slice ka RK.length kc)=W4 at *
         obtain⟨xs,hO,hC⟩:=cm.o.row;have fn:=Z (hC.keep (D':=fun g=>P.heap.size<=g/\(Value.slice va out.length vc).ownBlock≠some g) (w':=W4) (fun g B hd=>⟨bx.block g B,hd⟩));have f0:=Z (hO.keep bx);have f6:=Z (e9.keep (D':=fun g=>P.heap.size<=g/\(Value.slice va out.length vc).ownBlock≠some g) (w':=W4) (fun g B hd=>⟨rfl,bg E.o.size hd.1,fun e=>by
          have g1:=cm.o.hi _ e;have g2:=hd.1;omega⟩))
         have cd:=Z (dH.below (.slice va out.length vc) (a6.o.trans (bx.mono a6.o.size)));obtain⟨x0,x1,x2,x3,x4,x5⟩:=(tR e6).zero;clear hO hC e9 bx e6;go_wp2_with (at_builtin;refine bE (by rfl) _ _ 43 (by rfl) 45 fd _ 6 96 Tryz.underlying43 bj fb bk e3 rfl (by decide) _ _ _ rfl f0.o #[.int .i64 1,.int .i64 0,.string q.name,.slice l (A q.name q.attrs).length t,.string ⟨#[]⟩,.slice ka RK.length kc] rfl rfl rfl rfl (by omega) (by omega) ?_)
         intro v' w' er ep;have HF:=Z (Pv.push fn.o f6.o _ er.o ep.o);clear er ep;go_wp2
         go_ret;exact⟨_,rfl,by rw[cp.o];exact HF.o.1,cd.o.trans HF.o.2⟩
  {have e0:(q.space !=0)=true:=by{rw[db];exact h0};have a7:=Z (bs.o (by rw[HR.o,ae (.inr (.inl h0))]) V2 ar.o);clear h1 h0 ao;go_wp2;go_ret;exact a7.o}
 {have e1:(q.kind !=1)=true:=by{rw[db];exact h1};have a7:=Z (bs.o (by rw[HR.o,ae (.inl h1)]) V2 ar.o);clear h1 ao;go_wp2;go_ret;exact a7.o}
theorem aRG (A:cY)(a:G (aIt A)):∀m,aFg A m:=by
 intro m;induction m with|zero=>{intro n b;exact absurd (gJ n) (by omega)}|succ m ih=>exact aNz A a m (Z ih)
