/-
The document's put and Filter at every node: what they answer.
-/
import Derived.Test.YtcfgbdhpcboikaaGreatDoorSieveM
namespace Go.Proofs.YtcfgbdhpcboikaaGreatDoor
set_option maxHeartbeats 16000000
set_option maxRecDepth 100000
open Go.RowKit
theorem kS {n:Nat}:n<=n:=ah n
theorem contains_nil (x:I):Lib.containsS [] x=false:=by
 cases h:Lib.containsS [] x with|false=>rfl|true=>exact absurd ((il _ _).1 h) (by simp)
theorem aMz (A:cW)(HA:G (aHw A))(m:Nat)(d5:G (aEj A m)):aEj A (m+1):=by
 intro q hn nv pn pv ph out v P w HT T hb gh c6 aa b0 hN;by_cases ao:q.kind=2;{exact aMA A q ao nv pn pv ph out v P w T hb aa hN};obtain⟨e7,bh,e6,bj,ev⟩:=cx Tryz.info45;obtain⟨g0,a2,b2,rfl,⟨a1,b1,rfl,_⟩,_,_⟩:=hN.o.get;obtain⟨va,vc,rfl⟩:=aa.o.slice;obtain⟨pa,pc,rfl,hr⟩:=b0.o.cap;have bk:=Z hN.o.partsV;have hR:eF A pn ph out q=(if q.kind≠1\/q.space≠0\/aN q.name.data.toList=1 then out else if qP pn ph out q.name=true then out++[.mk 1 0 q.name (A q.name q.attrs) ⟨#[]⟩ (bB A q.name ph q.kids)]else aY A pn ph out q.kids):=by{rw[nU,ae ao]};have c9:=aMi (pn:=pn) (nm:=q.name) (ph:=ph) (out:=out) c6.o;have ge:=(kP out).1;have gr:=tY q;have gm:=jK q;have hp:q.kids.length<=10000000:=by{have:=(iT q.kids).2;omega};have hq:out.length<=100000000:=by{omega};have eb:=Z (show wtK out+4*dH q.kids<=100000000 by omega);have d4:=Z (show ph.length+1+aB q.kids<=10000000 by omega);have HM:=Z (show aB q.kids<=m by omega);have hs:ph.length<=10000000:=by{omega};generalize eF A pn ph out q=R at *;have c1:=fun W=>iV q.name W;have c2:=fun W=>aIc pn q.name W;obtain⟨K,hK⟩:∃K,aN q.name.data.toList=K:=⟨_,rfl⟩;obtain⟨m0,c8⟩:∃m0,wF pn.data.toList q.name.data.toList=m0:=⟨_,rfl⟩;obtain⟨my,dd⟩:∃my,qP pn ph out q.name=my:=⟨_,rfl⟩;rw[hK,dd]at hR;rw[hK,dd,c8]at c9;rw[hK]at c1;rw[c8]at c2;have HR:=Z hR;have d2:=Z c9;have d0:=Z c1;have d1:=Z c2;obtain⟨W0,bd⟩:=ex (w.alloc (.cells #[.int .i64 q.kind,.int .i64 q.space,.string q.name,.slice a1 q.attrs.length b1,.string q.text,.slice a2 q.kids.length b2] 45));have dr:G (Below w.heap.size w W0):=by{rw[bd];exact(am _ w).alloc kS _};have cp:G (W0.heap[w.heap.size]?=some (.cells #[.int .i64 q.kind,.int .i64 q.space,.string q.name,.slice a1 q.attrs.length b1,.string q.text,.slice a2 q.kids.length b2] 45 (0,0))):=by{rw[bd];exact cc w _};have cj:G (w.heap.size<W0.heap.size):=by{rw[bd];simp[G]};have f1:=Z bd;have d3:G ((Value.slice va out.length vc).ownBlock≠some w.heap.size):=fun e=>absurd (aa.o.hi _ e) (mc _);have hj:(q.kind==2)=false:=by{rw[ai];exact ao};obtain⟨y0,y1,y2,y3,y4,y5⟩:=(mG cp.o).zero;obtain⟨nb,dg⟩:∃nb,w.heap.size=nb:=⟨_,rfl⟩;have gt:=Z dg;clear bd hb hR c9 hK c8 dd c1 c2 gr gm ge hn gh;go_enter Tryz.func106,Tryz.ntmps106;go_wp2_with fail;rw[<-f1.o];rw[dg]at cp d3 cj;clear dg;refine(d0.o W0).mono ?_;rintro x V2 ⟨rfl,B2⟩;have av:=Z (dr.o.trans (B2.mono dr.o.size));have cw:G (V2.heap[nb]?=some (.cells #[.int .i64 q.kind,.int .i64 q.space,.string q.name,.slice a1 q.attrs.length b1,.string q.text,.slice a2 q.kids.length b2] 45 (0,0))):=(B2.block nb cj.o).trans cp.o;have ck:=Z (dj cj.o B2.size);clear B2 y0 y1 y2 y3 y4 y5;obtain⟨y0,y1,y2,y3,y4,y5⟩:=(mG cw.o).zero;have bq:G (R=out->∀V,Below w.heap.size w V->xP P.heap.size P w (.slice va out.length vc) R (.returned (.slice va out.length vc)) V):=fun h V y=>⟨_,rfl,by rw[h];exact aa.o.keep y,cV.below _ y⟩;by_cases h1:q.kind=1
 ·have e1:(q.kind !=1)=false:=by{rw[h1];rfl};by_cases h0:q.space=0
  ·have e0:(q.space !=0)=false:=by{rw[h0];rfl};by_cases b4:K=1;{have ek:((K:Int)==1)=true:=by{rw[cn];omega};have a7:=Z (bq.o (by rw[HR.o,af (.inr (.inr b4))]) V2 av.o);clear h1 h0 b4 ao;go_wp2;go_ret;exact a7.o}
   ·have ek:((K:Int)==1)=false:=by rw[ai];omega
    have d9:=Z (show R=if my=true then out++[.mk 1 0 q.name (A q.name q.attrs) ⟨#[]⟩ (bB A q.name ph q.kids)]else aY A pn ph out q.kids by
     rw[HR.o,ae];rintro(h|h|h)
     ·exact h h1
     ·exact h h0
     ·exact b4 h)
    clear h1 h0 b4 ao HR bq;go_wp2_with fail;refine(d1.o V2).mono ?_;rintro x V3 ⟨rfl,B3⟩;have a4:=Z (av.o.trans (B3.mono av.o.size));have cs:G (V3.heap[nb]?=some (.cells #[.int .i64 q.kind,.int .i64 q.space,.string q.name,.slice a1 q.attrs.length b1,.string q.text,.slice a2 q.kids.length b2] 45 (0,0))):=(B3.block nb ck.o).trans cw.o;have bl:=Z (dj ck.o B3.size);clear B3 y0 y1 y2 y3 y4 y5 e1 e0 ek d0 d1;obtain⟨a8,er⟩:∃a8:Bool,a8=(m0&&!Lib.containsS ph q.name):=⟨_,rfl⟩;have ca:=Z er;clear er;go_upto_block 0 with fail;go_cut [13] (fun b wx=>b=.bool a8/\G (Below V3.heap.size V3 wx))
    case first =>
     go_wp2_with fail;go_loopw [13,14] (fun b j wx=>∃(k:Nat) (d:Bool),b=.bool d/\j=.int .i64 k/\k<=ph.length/\G (d=(m0&&!Lib.containsS (ph.take k) q.name))/\G (Below V3.heap.size V3 wx)) (fun _ j _=>ph.length-(intOf j).toNat);case atStart=>exact⟨0,m0,rfl,rfl,bb _,Z (by rw[mf,contains_nil];simp),Z (am _ _)⟩
     case round =>
      obtain⟨k,d,rfl,rfl,hk,hD,y⟩:=hrel;have eg:=aa.o.bel.trans ((a4.o.trans (y.o.mono a4.o.size)).mono aa.o.base);obtain⟨y0,y1,y2,y3,y4,y5⟩:=(mG ((y.o.block nb bl.o).trans cs.o)).zero;rcases ak k ph.length with C|c5
      ·obtain⟨g,dp,c',hv,b3⟩:=b0.o.vec.get k (by simpa using C);simp only[ce,fk]at hv;obtain⟨rfl,rfl⟩:=hv;rw[nr]at b3;have hm:wr.cell? ⟨g,dp+k,none⟩=some (.string ph[k]):=by{rw[eg.cell (p:=⟨g,dp+k,none⟩) (dx _ _ b3)];exact b3}
       have HN:=Z (show ∀z:Bool,z=decide (ph[k]=q.name)->(d&&!z)=(m0&&!Lib.containsS (ph.take (k+1)) q.name) by
        intro z hz;rw[aDT ph q.name k C,hD.o,hz];cases m0<;>cases Lib.containsS (ph.take k) q.name<;>simp)
       have e9:=Z (show ∀z:Bool,(ph[k].toList==q.name.toList)=z->z=decide (ph[k]=q.name) by
        intro z hz;rw[<-hz,ay,cn,bi,toList_data,toList_data];exact⟨fF,fun e=>by rw[e]⟩)
       clear b3 eg;generalize ph[k]=pk at *;obtain⟨z,hz⟩:∃z,(pk.toList==q.name.toList)=z:=⟨_,rfl⟩;have HF:=Z (HN.o z (e9.o z hz));have ht:(pk.toList !=q.name.toList) = !z:=by rw[<-hz];rfl
       cases d with
       | false =>
        go_wp2_with fail
        go_quiet (fail)
        go_wp2
        go_roundw
        case rel=>exact⟨k+1,false,rfl,by go_num,by omega,HF,Z ⟨y.o.os,y.o.tape,y.o.output,y.o.size,y.o.block⟩⟩
        case measure=>simp[intOf];omega
       | true =>
        cases z;all_goals
         go_wp2_with fail
         go_quiet (fail)
         go_wp2
         go_roundw
         case rel=>exact⟨k+1,_,rfl,by go_num,by omega,HF,Z ⟨y.o.os,y.o.tape,y.o.output,y.o.size,y.o.block⟩⟩
         case measure=>simp[intOf];omega
      {have HE:G (d=a8):=by{show _=_;rw[hD.o,ca.o,fi c5]};go_wp2_with fail;go_meet;case rel=>exact⟨by rw[HE.o],y⟩}
    case rest =>
     obtain⟨rfl,bx⟩:=hcut;have a6:=Z (a4.o.trans (bx.o.mono a4.o.size));have ef:G (wc.heap[nb]?=some (.cells #[.int .i64 q.kind,.int .i64 q.space,.string q.name,.slice a1 q.attrs.length b1,.string q.text,.slice a2 q.kids.length b2] 45 (0,0))):=(bx.o.block nb bl.o).trans cs.o;have fp:=Z (dj bl.o bx.o.size);obtain⟨a,rfl⟩:∃a:H,a=wc:=⟨_,rfl⟩;obtain⟨Q,es⟩:∃Q:Bool,Q=true↔(K=10/\0<out.length):=⟨decide (K=10/\0<out.length),decide_eq_true_iff⟩;have a3:=Z es;have fr:G (my=if Q=true then false else a8):=by{show _=_;rw[d2.o,ca.o];by_cases h:K=10/\0<out.length;{rw[af h,af (a3.o.2 h)]};{rw[ae h,ae (fun e=>h (a3.o.1 e))]}};clear es d2 ca a4 cs bl bx cw ck av;go_upto_region 19 with fail;go_cut [104] (fun x wx=>x=.bool Q/\wx=a);case first =>by_cases a9:K=10;{have f4:((K:Int)==10)=true:=by{rw[cn];omega};by_cases ho:0<out.length;{have HV:G (true=Q):=(a3.o.2 ⟨a9,ho⟩).symm;have f5:decide ((0:Int)<(out.length:Int))=true:=bt (by omega);clear a9;go_wp2_with fail;go_meet;case rel=>exact⟨by rw[HV.o],rfl⟩};{have HV:G (false=Q):=by{cases hbb:Q with|false=>rfl|true=>exact absurd (a3.o.1 hbb).2 ho};have f5:decide ((0:Int)<(out.length:Int))=false:=bo (by omega);clear a9;go_wp2_with fail;go_meet;case rel=>exact⟨by rw[HV.o],rfl⟩}};{have f4:((K:Int)==10)=false:=by{rw[ai];omega};have HV:G (false=Q):=by{cases hbb:Q with|false=>rfl|true=>exact absurd (a3.o.1 hbb).1 a9};clear a9;go_wp2_with fail;go_meet;case rel=>exact⟨by rw[HV.o],rfl⟩}
     case rest =>
      obtain⟨rfl,dl⟩:=hcut;have dm:=dl.symm;subst dm;go_upto_if 104 with fail;go_cut [13] (fun x wx=>x=.bool my/\wx=a)
      case first =>
       cases Q;all_goals
        have HV:=Z fr.o.symm;go_wp2_with fail
        go_meet
        case rel=>exact⟨by rw[<-HV.o];rfl,rfl⟩
      case rest =>
       obtain⟨rfl,dl⟩:=hcut;have dm:=dl.symm;subst dm;have cm:=Z (aa.o.keep a6.o);have E:=Z (aa.o.bel.trans (a6.o.mono aa.o.base));have aw:=Z (mG ef.o);obtain⟨x0,x1,x2,x3,x4,x5⟩:=aw.o.zero;cases my with
       | false =>
        have co:=Z (show R=aY A pn ph out q.kids by rw[d9.o];rfl);have f0:=Z (show Pv P.heap.size (.slice va out.length vc) (aY A pn ph out (q.kids.take 0)) P a by rw[mf,iQ];exact cm.o);go_wp2_with fail
        go_loopw [0,16] (fun v0 i wx=>∃k:Nat,i=.int .i64 k/\k<=q.kids.length/\G (Pv P.heap.size v0 (aY A pn ph out (q.kids.take k)) P wx)/\G (cV a wx (.slice va out.length vc) v0)) (fun _ i _=>q.kids.length-(intOf i).toNat)
        case atStart=>exact⟨0,rfl,bb _,f0,Z (cV.below _ (am _ _))⟩
        case round =>
         obtain⟨k,rfl,hk,c4,c0⟩:=hrel;clear x0 x1 x2 x3 x4 x5;obtain⟨x0,x1,x2,x3,x4,x5⟩:=(mG ((c0.o.stay fp.o d3.o).1.trans ef.o)).zero;rcases ak k q.kids.length with C|c5
         ·obtain⟨g,dp,g3,g4,g5,g6,ha,hc,rfl,h6,c7⟩:=bk.o.2.get q.kids 0 k C;rw[bw]at h6
          obtain⟨z0,z1,z2,z3,z4,z5⟩:=h6.below c4.o.bel kS;obtain⟨he,hf,hg,hh,rfl,rfl,rfl,rfl,rfl,rfl⟩:=c7.cells;have e3:wtK (aY A pn ph out (q.kids.take k))+4*(q.kids[k]).tk<=100000000:=by
           have g1:=(nN A).2 (q.kids.take k) pn ph out;have g2:=aF1 q.kids k C;have hl:=eb.o;omega
          have e4:ph.length+(q.kids[k]).sz<=10000000:=by
           have g1:=zL q.kids k C;have g2:=d4.o;omega
          have HC:=Z (d5.o q.kids[k] (bg (zL q.kids k C) HM.o) _ pn (.slice pa ph.length pc) ph (aY A pn ph out (q.kids.take k)) u0 P wr HT (Z (SmK.get q.kids k C T.o.get.2.2.2.2)) e3 e4 c6 c4 b0 (Z c7));rw[<-uN A pn ph out q.kids k C]at HC
          clear c7 h6 e3 e4;generalize q.kids[k]=kd at *
          go_wp2_with fail
          refine HC.o.mono ?_;unfold xP;rintro e W4 ⟨v4,rfl,em,ej⟩;have ft:=Z em;have cd:=Z (c0.o.trans ej);clear em ej HC;go_wp2
          go_roundw
          case rel=>exact⟨k+1,by go_num,by omega,ft,cd⟩
          case measure=>simp[intOf];omega
         ·have c3:=c4.o;rw[fi c5,<-co.o]at c3
          have fx:=Z c3;have fb:=Z ((cV.below (.slice va out.length vc) a6.o).trans c0.o);clear c3;go_wp2
          go_ret;exact⟨_,rfl,fx.o,fb.o⟩
       | true =>
        have co:=Z (show R=out++[.mk 1 0 q.name (A q.name q.attrs) ⟨#[]⟩ (bB A q.name ph q.kids)] by rw[d9.o];rfl);go_upto_region 22 with fail
        obtain⟨e7,bh,e6,bj,ev⟩:=cx Tryz.info45;go_cut [15] (fun p6 wx=>∃n l t,p6=.pointer (some ⟨n,0,none⟩)/\G (wx.heap[n]?=some (.cells #[.int .i64 1,.int .i64 0,.string q.name,.slice l (A q.name q.attrs).length t,.string ⟨#[]⟩,.slice none 0 0] 45 (0,0)))/\G (eN (fun g=>a.heap.size<=g/\g≠n) wx l (A q.name q.attrs))/\G (a.heap.size<=n)/\G (Below a.heap.size a wx))
        case first =>
         obtain⟨S,hS⟩:∃S:H->Prop,∀u,S u↔Below a.heap.size a u:=⟨_,fun _=>ia⟩
         have f6:∀s:WIn S,s.w.cell? ⟨nb,2,none⟩=some (.string q.name):=fun s=>(aw.o.zero.2.2.1)▸((hS _).1 s.h).cell (p:=⟨nb,2,none⟩) aw.o.lt
         have ga:∀s:WIn S,s.w.cell? ⟨nb,3,none⟩=some (.slice a1 q.attrs.length b1):=fun s=>(aw.o.zero.2.2.2.1)▸((hS _).1 s.h).cell (p:=⟨nb,3,none⟩) aw.o.lt
         haveI:Nonempty (WIn S):=⟨⟨a,(hS _).2 (am _ _)⟩⟩
         have X:=Z hS;clear hS x0 x1 x2 x3 x4 x5;refine yV 9 (.two [0,1,2,3,4,5] 6 (.two [] 7 (.one [] 8 (.fin [])) 8 (.one [] 7 (.fin []))) 8 (.one [] 6 (.one [] 7 (.fin [])))) S (by kernel_rfl) (by kernel_rfl) ((X.o _).2 (bZ a)) ?_;refine lS (fun r f=>?_);simp only[pick,pickZ,pickS,pickG];repeat (go_big_quiet_step (fail))
         clear f6 ga;refine aq (f _ ?_ ?_)
         ·intro Q1 a0;clear f r;simp only[pick,pickZ,pickS,pickG];go_wp2_with fail
          have M:=Z (bZ a);have bf:=HA.o q.name q.attrs (.slice a1 q.attrs.length b1) (a.drewN 1) T.o.get.1 T.o.get.2.2.1 T.o.get.2.2.2.1 (HT.o.below (E.o.trans (M.o.mono E.o.size)) kS) (bk.o.1.below (E.o.trans (M.o.mono E.o.size)) kS);refine bf.mono ?_;rintro e c ⟨u,rfl,J⟩;obtain⟨l,t,rfl,_,dk⟩:=J.slice;have HU:=Z J.attrsD;have D:=Z (M.o.trans (J.bel.mono M.o.size));have gs:=Z J.bel;clear bf J dk;go_wp2_with fail
          refine a0 _ _ ((X.o _).2 D.o) (lS (fun r f=>aq (f _ ?_ ?_)))
          ·clear f r a0 Q1;intro Q2 ad;simp only[pick,pickZ,pickS,pickG];go_wp2_with fail
           refine ad _ _ ((X.o _).2 D.o) (cT (fun r f=>aq (f _ ?_)));clear f r ad Q2;intro Q3 al;simp only[pick,pickZ,pickS,pickG];go_wp2_with fail
           have ab:Below c.heap.size c (c.alloc (.cells #[.int .i64 0,.int .i64 0,.string ⟨#[]⟩,.slice none 0 0,.string ⟨#[]⟩,.slice none 0 0] 45)):=(am c.heap.size c).alloc kS _;have F:=cc c (.cells #[.int .i64 0,.int .i64 0,.string ⟨#[]⟩,.slice none 0 0,.string ⟨#[]⟩,.slice none 0 0] 45);obtain⟨WB,be⟩:=ex (c.alloc (.cells #[.int .i64 0,.int .i64 0,.string ⟨#[]⟩,.slice none 0 0,.string ⟨#[]⟩,.slice none 0 0] 45))
           rw[<-be]at ab F ⊢
           have ac:=Z F;have L:=Z (D.o.trans (ab.mono D.o.size));have an:G (eN (fun g=>a.heap.size<=g/\g≠c.heap.size) WB l (A q.name q.attrs)):=HU.o.keep (fun g B hd=>⟨ab.block g B,bg (bZ a).size hd.1,by omega⟩);have N:=Z D.o.size;clear ab F be;refine al _ _ ((X.o _).2 L.o) (dW (fun r f=>aq (f _ (fun Q5 ep=>?_))));clear f r al Q3;simp only[fo,fq];refine mj (by rfl) 45 (.tmp 15) (.tmp 113) rfl c.heap.size #[.int .i64 1,.int .i64 0,.string q.name,.slice l (A q.name q.attrs).length t,.string ⟨#[]⟩,.slice none 0 0] rfl rfl 45 _ ac.o (by rw[bh];simp[bj]) rfl (by simp[Value.oneCell']) ?_;go_wp2_with fail
           go_meet
           case rel=>exact⟨c.heap.size,l,t,rfl,Z (gn WB c.heap.size _ #[.int .i64 1,.int .i64 0,.string q.name,.slice l (A q.name q.attrs).length t,.string ⟨#[]⟩,.slice none 0 0] 45 (0,0) ac.o),Z (an.o.keep (fun g B hd=>⟨k9 WB _ g _ hd.2,hd⟩)),N,Z (iF L.o _ N.o _)⟩
          ·clear f r a0 Q1;intro Q2 ad;simp only[pick,pickZ,pickS,pickG];go_wp2_with fail
           have ab:Below c.heap.size c (c.alloc (.cells #[.int .i64 0,.int .i64 0,.string ⟨#[]⟩,.slice none 0 0,.string ⟨#[]⟩,.slice none 0 0] 45)):=(am c.heap.size c).alloc kS _;have F:=cc c (.cells #[.int .i64 0,.int .i64 0,.string ⟨#[]⟩,.slice none 0 0,.string ⟨#[]⟩,.slice none 0 0] 45);obtain⟨WB,be⟩:=ex (c.alloc (.cells #[.int .i64 0,.int .i64 0,.string ⟨#[]⟩,.slice none 0 0,.string ⟨#[]⟩,.slice none 0 0] 45))
           rw[<-be]at ab F ⊢
           have ac:=Z F;have L:=Z (D.o.trans (ab.mono D.o.size));have an:G (eN (fun g=>a.heap.size<=g/\g≠c.heap.size) WB l (A q.name q.attrs)):=HU.o.keep (fun g B hd=>⟨ab.block g B,bg (bZ a).size hd.1,by omega⟩);have N:=Z D.o.size;clear ab F be;refine ad _ _ ((X.o _).2 L.o) (cT (fun r f=>aq (f _ ?_)));clear f r ad Q2;intro Q3 al;simp only[pick,pickZ,pickS,pickG];go_wp2_with fail
           refine al _ _ ((X.o _).2 L.o) (dW (fun r f=>aq (f _ (fun Q5 ep=>?_))));clear f r al Q3;simp only[fo,fq];refine mj (by rfl) 45 (.tmp 15) (.tmp 113) rfl c.heap.size #[.int .i64 1,.int .i64 0,.string q.name,.slice l (A q.name q.attrs).length t,.string ⟨#[]⟩,.slice none 0 0] rfl rfl 45 _ ac.o (by rw[bh];simp[bj]) rfl (by simp[Value.oneCell']) ?_;go_wp2_with fail
           go_meet
           case rel=>exact⟨c.heap.size,l,t,rfl,Z (gn WB c.heap.size _ #[.int .i64 1,.int .i64 0,.string q.name,.slice l (A q.name q.attrs).length t,.string ⟨#[]⟩,.slice none 0 0] 45 (0,0) ac.o),Z (an.o.keep (fun g B hd=>⟨k9 WB _ g _ hd.2,hd⟩)),N,Z (iF L.o _ N.o _)⟩
         ·intro Q1 a0;clear f r;simp only[pick,pickZ,pickS,pickG];go_wp2_with fail
          have cz:Below a.heap.size a ((a.drewN 1).alloc (.cells #[.int .i64 0,.int .i64 0,.string ⟨#[]⟩,.slice none 0 0,.string ⟨#[]⟩,.slice none 0 0] 45)):=(bZ a).alloc kS _;have F:((a.drewN 1).alloc (.cells #[.int .i64 0,.int .i64 0,.string ⟨#[]⟩,.slice none 0 0,.string ⟨#[]⟩,.slice none 0 0] 45)).heap[a.heap.size]?=some (.cells #[.int .i64 0,.int .i64 0,.string ⟨#[]⟩,.slice none 0 0,.string ⟨#[]⟩,.slice none 0 0] 45 (0,0)):=cc (a.drewN 1) (.cells #[.int .i64 0,.int .i64 0,.string ⟨#[]⟩,.slice none 0 0,.string ⟨#[]⟩,.slice none 0 0] 45);have C:a.heap.size<((a.drewN 1).alloc (.cells #[.int .i64 0,.int .i64 0,.string ⟨#[]⟩,.slice none 0 0,.string ⟨#[]⟩,.slice none 0 0] 45)).heap.size:=by simp[World.drewN]
          obtain⟨Wa,eq⟩:=ex ((a.drewN 1).alloc (.cells #[.int .i64 0,.int .i64 0,.string ⟨#[]⟩,.slice none 0 0,.string ⟨#[]⟩,.slice none 0 0] 45))
          rw[<-eq]at cz F C ⊢
          have M:=Z cz;have fz:=Z F;have ci:=Z C;clear cz F C eq;refine a0 _ _ ((X.o _).2 M.o) (cT (fun r f=>aq (f _ ?_)));clear f r a0 Q1;intro Q2 ad;simp only[pick,pickZ,pickS,pickG];go_wp2_with fail
          have bf:=HA.o q.name q.attrs (.slice a1 q.attrs.length b1) Wa T.o.get.1 T.o.get.2.2.1 T.o.get.2.2.2.1 (HT.o.below (E.o.trans (M.o.mono E.o.size)) kS) (bk.o.1.below (E.o.trans (M.o.mono E.o.size)) kS);refine bf.mono ?_;rintro e c ⟨u,rfl,J⟩;obtain⟨l,t,rfl,_,dk⟩:=J.slice;have HU:=Z J.attrsD;have L:=Z (M.o.trans (J.bel.mono M.o.size));have ac:=Z ((J.bel.block a.heap.size ci.o).trans fz.o);have an:G (eN (fun g=>a.heap.size<=g/\g≠a.heap.size) c l (A q.name q.attrs)):=HU.o.keep (fun g B hd=>⟨rfl,by have:=ci.o;omega,by have:=ci.o;omega⟩);have N:=Z (ah a.heap.size);clear bf J dk;go_wp2_with fail
          refine ad _ _ ((X.o _).2 L.o) (cT (fun r f=>aq (f _ ?_)));clear f r ad Q2;intro Q3 al;simp only[pick,pickZ,pickS,pickG];go_wp2_with fail
          refine al _ _ ((X.o _).2 L.o) (dW (fun r f=>aq (f _ (fun Q5 ep=>?_))));clear f r al Q3;simp only[fo,fq];refine mj (by rfl) 45 (.tmp 15) (.tmp 113) rfl a.heap.size #[.int .i64 1,.int .i64 0,.string q.name,.slice l (A q.name q.attrs).length t,.string ⟨#[]⟩,.slice none 0 0] rfl rfl 45 _ ac.o (by rw[bh];simp[bj]) rfl (by simp[Value.oneCell']) ?_;go_wp2_with fail
          go_meet
          case rel=>exact⟨a.heap.size,l,t,rfl,Z (gn c a.heap.size _ #[.int .i64 1,.int .i64 0,.string q.name,.slice l (A q.name q.attrs).length t,.string ⟨#[]⟩,.slice none 0 0] 45 (0,0) ac.o),Z (an.o.keep (fun g B hd=>⟨k9 c _ g _ hd.2,hd⟩)),N,Z (iF L.o _ N.o _)⟩
        case rest =>
         obtain⟨n,l,t,rfl,ec,an,N,a5⟩:=hcut;have f3:=Z (aw.o.below a5.o kS);have cb:=Z (E.o.trans (a5.o.mono E.o.size));have ds:=Z (aDp A m d5 q.kids HM.o q.name (.slice pa ph.length pc) ph wc a2 b2 (Z (HT.o.below cb.o kS)) (Z T.o.get.2.2.2.2) (by have:=eb.o;omega) d4.o c6 (Z (b0.o.below cb.o kS)) (Z (bk.o.2.below cb.o kS)));clear x0 x1 x2 x3 x4 x5;obtain⟨x0,x1,x2,x3,x4,x5⟩:=f3.o.zero;generalize bB A q.name ph q.kids=RK at *
         go_wp2_with fail
         refine ds.o.mono ?_;rintro e c ⟨ka,kc,rfl,ez,ey,et⟩;have fd:=Z ey;have D:=Z et;have fn:=Z ez;clear ey et ds ez x0 x1 x2 x3 x4 x5;have dn:n<wc.heap.size:=(dq.1 ec.o).1;have b5:c.heap[n]?=some (.cells #[.int .i64 1,.int .i64 0,.string q.name,.slice l (A q.name q.attrs).length t,.string ⟨#[]⟩,.slice none 0 0] 45 (0,0)):=(D.o.block n dn).trans ec.o;have gb:c.cell? ⟨n,5,none⟩=some (.slice none 0 0):=by rw[au _ _ 5 _ 45 (0,0) b5];rfl
         have gd:c.frozen? ⟨n,5,none⟩=false:=by simp[World.frozen?,b5]
         have ea:=Z b5;have ee:=Z dn;clear b5 dn;go_upto_region 24 with fail
         have e2:(c.setCell ⟨n,5,none⟩ (.slice ka RK.length kc)).heap[n]?=some (.cells #[.int .i64 1,.int .i64 0,.string q.name,.slice l (A q.name q.attrs).length t,.string ⟨#[]⟩,.slice ka RK.length kc] 45 (0,0)):=by
          rw[kg c n 5 _ 45 (0,0) _ ea.o];exact gn c n _ _ 45 (0,0) ea.o
         have bs:Below a.heap.size a (c.setCell ⟨n,5,none⟩ (.slice ka RK.length kc)):=(a5.o.trans (D.o.mono a5.o.size)).setCell N.o _;have e5:bR (fun g=>a.heap.size<=g/\g≠n) (c.setCell ⟨n,5,none⟩ (.slice ka RK.length kc)) (.mk 1 0 q.name (A q.name q.attrs) ⟨#[]⟩ RK) (.agg #[.int .i64 1,.int .i64 0,.string q.name,.slice l (A q.name q.attrs).length t,.string ⟨#[]⟩,.slice ka RK.length kc]):=by
          unfold bR;refine⟨l,t,ka,kc,rfl,fn.o,?_,?_⟩
          ·exact an.o.keep (fun g B hd=>⟨by rw[f8 c ⟨n,5,none⟩ g _ hd.2,D.o.block g B],hd⟩)
          ·refine fd.o.keep (fun g B hd=>⟨f8 c ⟨n,5,none⟩ g _ ?_,?_,?_⟩)
           ·have g1:=ee.o;show g≠n;omega
           ·have g1:=a5.o.size;omega
           ·have g1:=ee.o;omega
         clear gb gd;generalize c.setCell ⟨n,5,none⟩ (.slice ka RK.length kc)=W4 at *
         obtain⟨xs,hO,hC⟩:=cm.o.row;have e8:=Z (hC.keep (D':=fun g=>P.heap.size<=g/\(Value.slice va out.length vc).ownBlock≠some g) (w':=W4) (fun g B hd=>⟨bs.block g B,hd⟩));have fs:=Z (hO.keep bs);have f2:=Z (e5.keep (D':=fun g=>P.heap.size<=g/\(Value.slice va out.length vc).ownBlock≠some g) (w':=W4) (fun g B hd=>⟨rfl,bg E.o.size hd.1,fun e=>by
          have g1:=cm.o.hi _ e;have g2:=hd.1;omega⟩))
         have cd:=Z (cV.below (.slice va out.length vc) (a6.o.trans (bs.mono a6.o.size)));obtain⟨x0,x1,x2,x3,x4,x5⟩:=(mG e2).zero;clear hO hC e5 bs e2;go_wp2_with (at_builtin;refine aU (by rfl) _ _ 43 (by rfl) 45 e7 _ 6 96 Tryz.underlying43 bh e6 bj ev rfl (by decide) _ _ _ rfl fs.o #[.int .i64 1,.int .i64 0,.string q.name,.slice l (A q.name q.attrs).length t,.string ⟨#[]⟩,.slice ka RK.length kc] rfl rfl rfl rfl (by omega) (by omega) ?_)
         intro v' w' el ei;have HF:=Z (Pv.push e8.o f2.o _ el.o ei.o);clear el ei;go_wp2
         go_ret;exact⟨_,rfl,by rw[co.o];exact HF.o.1,cd.o.trans HF.o.2⟩
  {have e0:(q.space !=0)=true:=by{rw[ct];exact h0};have a7:=Z (bq.o (by rw[HR.o,af (.inr (.inl h0))]) V2 av.o);clear h1 h0 ao;go_wp2;go_ret;exact a7.o}
 {have e1:(q.kind !=1)=true:=by{rw[ct];exact h1};have a7:=Z (bq.o (by rw[HR.o,af (.inl h1)]) V2 av.o);clear h1 ao;go_wp2;go_ret;exact a7.o}
theorem aQH (A:cW)(a:G (aHw A)):∀m,aEj A m:=by
 intro m;induction m with|zero=>{intro n b;exact absurd (kI n) (by omega)}|succ m ih=>exact aMz A a m (Z ih)
theorem aGE (A:cW)(d:G (aHw A))(l:List Nd)(pn:I)(w:H)(a:Option Addr)(c:Nat)(i:G (aA w))(g:G (SmK l))(s:dH l<=9000000)(j:G (aQ w a 0 l)) :
  Y 54 #[.string pn,.slice a l.length c] w (fV w (bB A pn [] l)):=by
 have r:=aIA.2 l;have b:=Z (aDp A (aB l) (Z (aQH A d _)) l kS pn (.slice none 0 0) [] w a c i g (by omega) (by simp;omega) (Z (fun p k=>by simp at k)) (Z (Phr.nil w)) j);go_enter Tryz.func54,Tryz.ntmps54;go_wp2_with fail;refine b.o.mono ?_;rintro e q ⟨m,n,rfl,h⟩;have f:=Z h;clear h b;go_wp2;go_ret;exact⟨m,n,rfl,f.o⟩
