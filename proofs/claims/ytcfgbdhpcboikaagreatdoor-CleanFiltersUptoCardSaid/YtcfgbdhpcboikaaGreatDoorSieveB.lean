/-
sieve.text: a text laid down.
-/
import Derived.Test.YtcfgbdhpcboikaaGreatDoorDeepN
import Derived.Test.YtcfgbdhpcboikaaGreatDoorSchedT
namespace Go.Proofs.YtcfgbdhpcboikaaGreatDoor
set_option maxHeartbeats 2000000
set_option maxRecDepth 100000
open Go.RowKit
theorem oK {n:Nat}:n<=n:=ah n
theorem bR.more {D:Nat->Prop}{w:H}{x:Nd}{b d f g k i:Value}(h:bR D w x (.agg #[b,d,f,g,k,i]))(t:I):bR D w (x.more t) (.agg #[b,d,f,g,.string (x.text++t),i]):=by
 cases x with|mk kd sp nm at' tx ks=>{unfold bR at h;unfold Nd.more bR;obtain⟨j,ca,a,c,e,h1,h2,l⟩:=h;simp only[ly,nf,fu,fm]at e;obtain⟨rfl,rfl,rfl,rfl,rfl,rfl⟩:=e;exact⟨j,ca,a,c,rfl,h1,h2,l⟩}
theorem cS.more {D:Nat->Prop}{w:H}{c:List Value}{b:List Nd}{x:Nd}(h:cS D w c (b++[x]))(t:I):cS D w (c.set (b.length*6+4) (.string (x.text++t))) (b++[x.more t]):=by
 refine⟨by rw[mw,h.1];simp,fun j o=>?_⟩;have q:j<(b++[x]).length:=by{simpa using o};obtain⟨f,c1,c2,c3,c4,c5,g,k,l,m,p,n,d⟩:=h.2 j q;have a:∀i v,i≠b.length*6+4->c[i]?=some v->(c.set (b.length*6+4) (.string (x.text++t)))[i]?=some v:=fun i v hi z=>by{rw[uj (fun e=>hi e.symm)];exact z};by_cases s:j<b.length;{refine⟨f,c1,c2,c3,c4,c5,a _ _ (by omega) g,a _ _ (by omega) k,a _ _ (by omega) l,a _ _ (by omega) m,a _ _ (by omega) p,a _ _ (by omega) n,?_⟩;rw[kw s]at d ⊢;exact d};{have r:j=b.length:=by{simp at o;omega};subst r;have u:b.length*6+4<c.length:=by{rw[h.1];simp;omega};refine⟨f,c1,c2,c3,.string (x.text++t),c5,a _ _ (by omega) g,a _ _ (by omega) k,a _ _ (by omega) l,a _ _ (by omega) m,rl u,a _ _ (by omega) n,?_⟩;rw[jm oK]at d ⊢;have y:bR D w x (.agg #[f,c1,c2,c3,c4,c5]):=by{simpa using d};simpa using y.more t}
theorem Sv.more {p:Nat}{pn:I}{d:Value}{ph:List I}{a:List Nd}{x:Nd}{b w:H}{g c n:Nat}{i:List Value}(at':p=b.heap.size)(phr:Phr b d ph)(o:n=(a++[x]).length)
  (hr:w.heap[p]?=some (.cells #[.string pn,d,.slice (some ⟨g,0,none⟩) n c] 151 (0,0))) (l:aF p 45 6 (.slice (some ⟨g,0,none⟩) n c) n i b w) (h:g≠p)
  (j:cS (fun k=>p<k/\(Value.slice (some ⟨g,0,none⟩) n c).ownBlock≠some k) w i (a++[x])) (t:I) :
  Sv p pn d ph (a++[x.more t]) b (w.setCell ⟨g,a.length*6+4,none⟩ (.string (x.text++t))):=by
 have m:(a++[x.more t]).length=n:=by rw[o];simp
 refine⟨at',⟨.slice (some ⟨g,0,none⟩) n c,_,?_,?_,fun e=>h (cy (show some g=some p from e)),(j.more t).keep (fun k _ f=>⟨f8 w ⟨g,_,none⟩ k _ (fun e=>f.2 (by rw[e];rfl)),f⟩)⟩,phr⟩
 ·rw[f8 w ⟨g,_,none⟩ p _ (gz h)];exact hr
 ·rw[m];exact l.setCell _ _
theorem aF.aside {B:Nat}{e:TypeId}{size g n c:Nat}{f:List Value}{b w:H}(h:aF B e size (.slice (some ⟨g,0,none⟩) n c) n f b w)(q:Addr)(hq:B<=q.block)(m:g≠q.block)(u:Value) :
  aF B e size (.slice (some ⟨g,0,none⟩) n c) n f b (w.setCell q u):=by
 refine⟨⟨h.own.1,?_⟩,h.bel.setCell hq u,by rw[oW];exact h.base⟩;rcases h.own.2 with l|⟨d,cap,i,a,j,k,rest⟩;{exact .inl l};{refine .inr ⟨d,cap,i,a,j,?_,rest⟩;simp only[ce,d6,ji]at a;rw[f8 w q d u (by rw[<-a.1.1];exact m)];exact k}
theorem Sv.push {p:Nat}{pn:I}{f:Value}{ph:List I}{out:List Nd}{x:Nd}{b d W6:H}{g n c:Nat}{r:List Value}{i j l m o q:Value}(at':p=b.heap.size)(phr:Phr b f ph)(v:n=out.length+1)(w:g≠p)
  (hr:W6.heap[p]?=some (.cells #[.string pn,f,.slice (some ⟨g,0,none⟩) n c] 151 (0,0))) (t:aF p 45 6 (.slice (some ⟨g,0,none⟩) n c) n (r++[i,j,l,m,o,q]) b W6)
  (s:cS (fun k=>p<k/\g≠k) d r out) (hx:bR (fun k=>p<k/\g≠k) d x (.agg #[i,j,l,m,o,q])) (y:∀k,k≠g->k≠p->W6.heap[k]?=d.heap[k]?) :
  Sv p pn f ph (out++[x]) b W6:=by
 have u:(out++[x]).length=n:=by rw[v];simp
 refine⟨at',⟨.slice (some ⟨g,0,none⟩) n c,_,hr,by rw[u];exact t,fun e=>w (cy (show some g=some p from e)),?_⟩,phr⟩;have h:=(s.snoc hx).keep (D':=fun k=>p<k/\g≠k) (w':=W6) (fun k _ a=>⟨y k (gz a.2) (by omega),a⟩);exact h.keep (fun k _ a=>⟨rfl,a.1,fun e=>a.2 (cy (show some g=some k from e))⟩)
theorem uJ {p:Nat}{pn:I}{f v:Value}{l a:H}{g n c:Nat}{b zs cs:List Value}(e:g≠p)(q:zs.length=cs.length)(o:Nat)(r:o=b.length)
  (hr:a.heap[p]?=some (.cells #[.string pn,f,v] 151 (0,0))) (m:aF p 45 6 (.slice (some ⟨g,0,none⟩) n c) n (b++zs) l a) :
  (∀d,d=(a.setCells g o cs).setCell ⟨p,2,none⟩ (.slice (some ⟨g,0,none⟩) n c)\/d=(a.setCell ⟨p,2,none⟩ (.slice (some ⟨g,0,none⟩) n c)).setCells g o cs ->
   d.heap[p]?=some (.cells #[.string pn,f,.slice (some ⟨g,0,none⟩) n c] 151 (0,0))/\aF p 45 6 (.slice (some ⟨g,0,none⟩) n c) n (b++cs) l d/\∀k,k≠g->k≠p->d.heap[k]?=a.heap[k]?):=by
 subst r;have row:∀w:H,w.heap[p]?=some (.cells #[.string pn,f,v] 151 (0,0))->(w.setCell ⟨p,2,none⟩ (.slice (some ⟨g,0,none⟩) n c)).heap[p]?=some (.cells #[.string pn,f,.slice (some ⟨g,0,none⟩) n c] 151 (0,0)):=fun w h=>by{rw[kg w p 2 _ 151 (0,0) _ h];exact gn w p _ _ 151 (0,0) h};rintro d (rfl|rfl);{have h1:=m.setCells cs _ b.length a;rw[aDz b zs cs q]at h1;refine⟨row _ (by rw[dB g cs _ a p (gz e)];exact hr),h1.aside ⟨p,2,none⟩ oK e _,fun k i j=>?_⟩;rw[f8 _ ⟨p,2,none⟩ k _ j,dB g cs _ a k i]};{have h1:=(m.aside ⟨p,2,none⟩ oK e (.slice (some ⟨g,0,none⟩) n c)).setCells cs _ b.length (a.setCell ⟨p,2,none⟩ (.slice (some ⟨g,0,none⟩) n c));rw[aDz b zs cs q]at h1;refine⟨by rw[dB g cs _ _ p (gz e)];exact row _ hr,h1,fun k i j=>?_⟩;rw[dB g cs _ _ k i,f8 _ ⟨p,2,none⟩ k _ j]}
theorem bZ (w:H):Below w.heap.size w (w.drewN 1):=(am _ w).drew
theorem mD (D:Nat->Prop)(w:H)(t:I):bR D w (bG t) (.agg #[.int .i64 2,.int .i64 0,.string ⟨#[]⟩,.slice none 0 0,.string t,.slice none 0 0]):=by
 unfold bG bR;exact⟨none,0,none,0,rfl,by simp,fun j h=>absurd h (by simp),by unfold dD;trivial⟩
def sO (out:List Nd):Bool:=match out.getLast? with|some x=>decide (x.kind=2)|none=>false
theorem wX (a:List Nd)(x:Nd):sO (a++[x])=decide (x.kind=2):=by unfold sO;rw[List.getLast?_concat]
theorem pM {out:List Nd}(h:sO out=false)(t:I):eD out t=out++[bG t]:=by
 unfold eD;unfold sO at h;cases ho:out.getLast? with|none=>rfl|some x=>{rw[ho]at h;show(if x.kind=2 then _ else _)=_;rw[ae (by simpa using h)]}
theorem cS.at {D:Nat->Prop}{w:H}{b:List Value}{a:List Nd}{x:Nd}(h:cS D w b (a++[x])):b[a.length*6]?=some (.int .i64 x.kind)/\b[a.length*6+4]?=some (.string x.text):=by
 obtain⟨g,i,j,k,l,m,c,n,o,p,d,q,e⟩:=h.2 a.length (by simp);have hx:(a++[x])[a.length]'(by simp)=x:=by{rw[jm oK];simp};rw[hx]at e;obtain⟨_,_,_,_,f,_,_,_,e4,_⟩:=e.node.cells;rw[f]at c;rw[e4]at d;exact⟨c,d⟩
theorem rV {out:List Nd}(h:out≠[]):∃a x,out=a++[x]:=⟨out.dropLast,out.getLast h,(qf h).symm⟩
theorem aKQ (p:Nat)(pn:I)(pv:Value)(ph:List I)(out:List Nd)(W1 w:H)(s:I)(hs:s.size<=100000000)(ho:out.length<=100000000)(hx:∀x∈out,x.text.size<=100000000)(HT:G (aA w))(h:G (Sv p pn pv ph out W1 w)) :
  Y 196 #[.pointer (some ⟨p,0,none⟩),.string s] w fun e w'=>e=.returned (.tuple #[])/\Sv p pn pv ph (nE pn out s) W1 w':=by
 have X:=wS s (by omega) w HT.o;have ht:(⟨(bS s.data.toList).toArray⟩:I)=dK s:=rfl;rw[ht]at X
 have HX:=Z X;have dn:(dK s).size<=300000000:=by
  have i:=nV s.data.toList;have h2:(dK s).size=(bS s.data.toList).length:=rfl;have h3:s.data.toList.length=s.size:=rfl;omega
 have a5:=Z (show nE pn out s=if dK s=⟨#[]⟩\/mX pn.data.toList=false then out else eD out (dK s)from rfl);clear X ht;generalize dK s=t at *
 generalize nE pn out s=R at *
 go_enter Tryz.func196,Tryz.ntmps196
 go_wp2_with fail
 refine HX.o.mono ?_;rintro e W2 ⟨rfl,B2⟩;have y:=Z (h.o.below B2);clear B2 HX;obtain⟨v,xs,hr,hO,cm,A⟩:=y.o.row;obtain⟨a,c,rfl,_,_⟩:=hO.slice;have c3:W2.cell? ⟨p,0,none⟩=some (.string pn):=by rw[au _ _ 0 _ 151 (0,0) hr];rfl
 have c2:W2.cell? ⟨p,2,none⟩=some (.slice a out.length c):=by rw[au _ _ 2 _ 151 (0,0) hr];rfl
 have HR:=Z hr;have HO:=Z hO;have HC:=Z A;have a1:=Z cm;clear hr hO A cm;by_cases L:t=⟨#[]⟩
 ·subst L;have hR:R=out:=by rw[a5.o,af (Or.inl rfl)]
  subst hR;go_wp2
  refine io (v:=.tuple #[]) (by simp[results,Tryz.results196,go_sem]) rfl ⟨rfl,y.o⟩
 ·have k1:¬t.toList=[]:=fun e=>L (fF (by rw[<-toList_data,e]))
  have k2:t.toList.isEmpty=false:=by cases hh:t.toList with|nil=>exact absurd hh k1|cons a b=>rfl
  have b1:=Z (aKT pn W2);obtain⟨q,hq⟩:∃q,mX pn.data.toList=q:=⟨_,rfl⟩
  rw[hq]at b1 a5
  have H0:=Z L;clear L hq;go_wp2_with fail
  refine b1.o.mono ?_;rintro e w' ⟨rfl,rfl⟩;clear b1;cases q with
  | false =>
   have hR:R=out:=by rw[a5.o,af (Or.inr rfl)]
   subst hR;go_wp2
   refine io (v:=.tuple #[]) (by simp[results,Tryz.results196,go_sem]) rfl ⟨rfl,y.o⟩
  | true =>
   have a4:G (R=eD out t):=by show _=_;rw[a5.o,ae (by rintro(e|e);exact H0.o e;cases e)]
   clear a5;go_upto_region 3 with fail
   obtain⟨it,hit⟩:∃it,sO out=it:=⟨_,rfl⟩
   have V:=Z hit;clear hit;go_cut [35] (fun dk wx=>dk=.bool it/\wx=W2)
   case first =>
    by_cases W:out=[]
    ·subst W;have c6:it=false:=V.o.symm;subst c6;go_wp2
     go_meet
     case rel=>exact⟨rfl,rfl⟩
    ·obtain⟨C,x,B⟩:=rV W;obtain⟨g,c',hv,_,_,_⟩:=HO.o.atRow (g7.2 W);simp only[ce]at hv;obtain⟨rfl,_,rfl⟩:=hv;have A:=HC.o;rw[B]at A
     have c8:=HO.o.cell _ _ A.at.1;have dl:(x.kind==2)=it:=by
      have i:=V.o;rw[B,wX]at i
      rw[<-i];by_cases r:x.kind=2
      ·rw[r];rfl
      ·rw[bo r,ai];exact r
     have T:out.length=C.length+1:=by rw[B];simp
     have dg:(out.length:Int)-1=(C.length:Int):=by omega
     have c9:C.length<out.length:=by omega
     have dm:0<out.length:=by omega
     clear A W B T;generalize out.length=ol at *
     generalize C.length=k at *
     go_wp2
     go_meet
     case rel=>exact⟨by simp,rfl⟩
   case rest =>
    obtain⟨rfl,rfl⟩:=hcut;cases it with
    | true =>
     have W:out≠[]:=fun e=>by have i:=V.o;rw[e]at i;cases i
     obtain⟨C,x,B⟩:=rV W;obtain⟨g,c',hv,dd,_,_⟩:=HO.o.atRow (g7.2 W);simp only[ce]at hv;obtain⟨rfl,_,rfl⟩:=hv;have A:=HC.o;rw[B]at A
     have co:x.kind=2:=by have i:=V.o;rw[B,wX]at i;exact br i
     have c8:=HO.o.cell _ _ A.at.2;have bk:C.length*6+4+1<=xs.length:=by rw[A.1];simp;omega
     have c7:=(HO.o.there (C.length*6+4) 1 bk 0 (by omega)).2;rw[gw]at c7
     have T:out.length=C.length+1:=by rw[B];simp
     have dg:(out.length:Int)-1=(C.length:Int):=by omega
     have c9:C.length<out.length:=by omega
     have dp:=hx x (by rw[B];simp);have cj:g≠p:=fun e=>a1.o (by rw[e];rfl)
     have ci:=Sv.more y.o.at' y.o.phr (by rw[B]) HR.o HO.o cj A t;have ca:R=C++[x.more t]:=by rw[a4.o,B,kW,af co]
     have c1:=Z ca;have cz:=Z ci;clear A W B T co bk cj ca ci hx dd;generalize out.length=ol at *
     generalize C.length=k at *
     go_wp2
     refine io (v:=.tuple #[]) (by simp[results,Tryz.results196,go_sem]) rfl ⟨rfl,?_⟩;rw[c1.o];exact cz.o
    | false =>
     obtain⟨cw,ao,cp,av,cb⟩:=cx Tryz.info45;obtain⟨ol,T⟩:∃ol,out.length=ol:=⟨_,rfl⟩
     have hO:=HO.o;rw[T]at hO c2 ho
     have bk:xs.length=ol*6:=by rw[HC.o.1,T]
     have K:=Z T;have an:=Z bk;have bq:Below wc.heap.size wc (wc.drewN 1):=bZ wc;have b5:=Z (hO.keep bq);have cd:(wc.drewN 1).cell? ⟨p,2,none⟩=some (.slice a ol c):=by rw[bq.cell (p:=⟨p,2,none⟩) (dx _ _ c2)];exact c2
     have aw:=Z cd;have bl:=Z ((bq.block p (dq.1 HR.o).1).trans HR.o);have ck:out.length=ol:=T;go_upto_region 5 with fail
     rw[ck];obtain⟨S,hS⟩:∃S:H->Prop,∀u,S u↔u.cell? ⟨p,2,none⟩=some (.slice a ol c):=⟨_,fun _=>ia⟩
     have f2:∀s:WIn S,s.w.cell? ⟨p,2,none⟩=some (.slice a ol c):=fun s=>(hS _).1 s.h
     haveI:Nonempty (WIn S):=⟨⟨wc,(hS _).2 c2⟩⟩
     haveI:Nonempty (WIn fun _:H=>True):=⟨⟨wc,trivial⟩⟩
     have ab:=Z hS;clear hS hO T bk bq cd c2 c3 ck;refine aCg 9 (.two [0,1,2,3,4,6] 5 (.one [] 7 (.one [] 8 (.fin []))) 7 (.one [] 5 (.one [] 8 (.fin [])))) (.two [9,11,12] 10 (.one [] 13 (.fin [])) 13 (.one [] 10 (.fin []))) S (by kernel_rfl) (by kernel_rfl) ((ab.o _).2 aw.o) ?_;refine lS (fun f d=>?_);simp only[pick,pickZ,pickS,pickG];repeat (go_big_quiet_step (fail))
     clear f2;refine aq (d _ ?_ ?_)
     ·intro Q1 a7;clear d f;simp only[pick,pickZ,pickS,pickG];go_wp2_with fail
      refine a7 _ _ ((ab.o _).2 aw.o) (cT (fun f d=>aq (d _ ?_)));clear d f a7 Q1;intro Q2 a8;simp only[pick,pickZ,pickS,pickG];go_wp2_with fail
      refine a8 _ _ ((ab.o _).2 (oE aw.o)) (cT (fun f d=>aq (d _ ?_)));clear d f a8 Q2;intro Q3 a9;simp only[pick,pickZ,pickS,pickG];go_wp2_with (at_builtin;refine aU (by rfl) _ _ 43 (by rfl) 45 cw _ 6 96 Tryz.underlying43 ao cp av cb rfl (by decide) _ _ _ rfl b5.o #[.int .i64 0,.int .i64 0,.string ⟨#[]⟩,.slice none 0 0,.string ⟨#[]⟩,.slice none 0 0] rfl rfl rfl rfl (by omega) (by omega) ?_)
      intro v5 l P N;obtain⟨j,M,rfl,b4,bf,F⟩:=P.o.atRow (by omega);have b3:(wc.drewN 1).heap.size=wc.heap.size:=rfl;have bh:p<(wc.drewN 1).heap.size:=(dq.1 bl.o).1;have J:l.heap[p]?=some (.cells #[.string pn,pv,.slice a ol c] 151 (0,0)):=by
       rw[N.o.gr.block p (by simp;omega) (fun e=>by have i:=a1.o;rw[K.o]at i;exact i e.symm),jy _ _ p bh];have i:=bl.o;rw[K.o]at i
       exact i
      have Q:j≠p:=by
       rcases N.o.loc with hl|⟨k,r,ad⟩
       ·intro e;have i:=a1.o;rw[K.o]at i
        exact i (by rw[<-hl,F,e])
       ·rw[F]at r
        have i:j=k:=cy r;simp at ad;omega
      have a6:cS (fun k=>p<k/\j≠k) l xs out:=by
       have L:=HC.o;rw[K.o]at L
       refine L.keep (fun k r hd=>⟨?_,hd.1,?_⟩)
       ·have be:k<(wc.drewN 1).heap.size:=r;rw[N.o.gr.block k (by simp;omega) (fun e=>hd.2 e.symm),jy _ _ k be];rfl
       ·rcases N.o.loc with hl|⟨q,hq,ad⟩
        ·intro e;exact hd.2 (by rw[<-hl,F,e])
        ·rw[F]at hq
         have i:j=q:=cy hq;have be:k<(wc.drewN 1).heap.size:=r;simp at ad;omega
      have a3:=Z (uJ (zs:=[.int .i64 0,.int .i64 0,.string ⟨#[]⟩,.slice none 0 0,.string ⟨#[]⟩,.slice none 0 0]) (cs:=[.int .i64 2,.int .i64 0,.string ⟨#[]⟩,.slice none 0 0,.string t,.slice none 0 0]) Q rfl (ol*6) an.o.symm J P.o);have a0:=Z a6;have aa:=Z Q;have c0:=Z bf;have ac:l.cell? ⟨p,2,none⟩=some (.slice a ol c):=by rw[au _ _ 2 _ 151 (0,0) J];rfl
      have bd:l.frozen? ⟨p,2,none⟩=false:=by simp[World.frozen?,J]
      have bs:=Z J;have bx:=Z (P.o.there (ol*6) 6 (by rw[ax,an.o];simp));have b0:=Z ((P.o.aside ⟨p,2,none⟩ oK Q (.slice (some ⟨j,0,none⟩) (ol+1) M)).there (ol*6) 6 (by rw[ax,an.o];simp));have a2:=Z (show ol+1=out.length+1 by rw[K.o]);clear b3 bh J Q a6 b4 bf F;go_wp2_with fail
      refine a9 _ _ ((ab.o _).2 ac) (dW (fun f d=>aq (d _ ?_)));clear d f a9 Q3;refine lS (fun f d=>?_);simp only[pick,pickZ,pickS,pickG];repeat (go_big_quiet_step (fail))
      refine aq (d _ ?_ ?_)
      ·intro Q4 D;clear d f;simp only[pick,pickZ,pickS,pickG];refine ij (by rfl) 45 (.tmp 58) (.tmp 54) rfl j (ol*6) #[.int .i64 2,.int .i64 0,.string ⟨#[]⟩,.slice none 0 0,.string t,.slice none 0 0] rfl rfl bx.o (by rw[ao];simp[av]) (by simp[Value.oneCell']) ?_;simp only[];obtain⟨z,m⟩:=ex (l.setCells j (ol*6) [.int .i64 2,.int .i64 0,.string ⟨#[]⟩,.slice none 0 0,.string t,.slice none 0 0])
       rw[<-m];have n:=Z (a3.o (z.setCell ⟨p,2,none⟩ (.slice (some ⟨j,0,none⟩) (ol+1) M)) (.inl (by rw[m])));have al:z.heap[p]?=some (.cells #[.string pn,pv,.slice a ol c] 151 (0,0)):=by rw[m,dB j _ (ol*6) l p (gz aa.o)];exact bs.o
       have c4:z.cell? ⟨p,2,none⟩=some (.slice a ol c):=by rw[au _ _ 2 _ 151 (0,0) al];rfl
       have c5:z.frozen? ⟨p,2,none⟩=false:=by simp[World.frozen?,al]
       clear al m ac bd;go_wp2_with fail
       refine D _ _ trivial (cT (fun f d=>aq (d _ ?_)));clear d f D Q4;intro Q5 E;simp only[pick,pickZ,pickS,pickG];go_wp2_with fail
       refine E _ _ trivial (dW (fun f d=>aq (d _ (fun Q6 b2=>?_))));clear d f E Q5;go_wp2
       refine lz (v:=.tuple #[]) (by simp[results,Tryz.results196,go_sem]) rfl ⟨rfl,?_⟩;rw[a4.o,pM V.o];exact Sv.push y.o.at' y.o.phr a2.o aa.o n.o.1 n.o.2.1 a0.o (mD _ _ t) n.o.2.2
      ·intro Q4 D;clear d f;simp only[pick,pickZ,pickS,pickG];go_wp2_with fail
       refine D _ _ trivial (cT (fun f d=>aq (d _ ?_)));clear d f D Q4;intro Q5 E;simp only[pick,pickZ,pickS,pickG];have bj:(l.setCell ⟨p,2,none⟩ (.slice (some ⟨j,0,none⟩) (ol+1) M)).there j (ol*6) 6:=b0.o;refine ij (by rfl) 45 (.tmp 58) (.tmp 54) rfl j (ol*6) #[.int .i64 2,.int .i64 0,.string ⟨#[]⟩,.slice none 0 0,.string t,.slice none 0 0] rfl rfl bj (by rw[ao];simp[av]) (by simp[Value.oneCell']) ?_;simp only[];obtain⟨z,m⟩:=ex ((l.setCell ⟨p,2,none⟩ (.slice (some ⟨j,0,none⟩) (ol+1) M)).setCells j (ol*6) [.int .i64 2,.int .i64 0,.string ⟨#[]⟩,.slice none 0 0,.string t,.slice none 0 0])
       rw[<-m];have n:=Z (a3.o z (.inr m));clear m ac bd bj;go_wp2_with fail
       refine E _ _ trivial (dW (fun f d=>aq (d _ (fun Q6 b2=>?_))));clear d f E Q5;go_wp2
       refine lz (v:=.tuple #[]) (by simp[results,Tryz.results196,go_sem]) rfl ⟨rfl,?_⟩;rw[a4.o,pM V.o];exact Sv.push y.o.at' y.o.phr a2.o aa.o n.o.1 n.o.2.1 a0.o (mD _ _ t) n.o.2.2
     ·intro Q1 a7;clear d f;simp only[pick,pickZ,pickS,pickG];go_wp2_with fail
      refine a7 _ _ ((ab.o _).2 (oE aw.o)) (cT (fun f d=>aq (d _ ?_)));clear d f a7 Q1;intro Q2 a8;simp only[pick,pickZ,pickS,pickG];go_wp2_with fail
      refine a8 _ _ ((ab.o _).2 (oE aw.o)) (cT (fun f d=>aq (d _ ?_)));clear d f a8 Q2;intro Q3 a9;simp only[pick,pickZ,pickS,pickG];go_wp2_with (at_builtin;refine aU (by rfl) _ _ 43 (by rfl) 45 cw _ 6 96 Tryz.underlying43 ao cp av cb rfl (by decide) _ _ _ rfl b5.o #[.int .i64 0,.int .i64 0,.string ⟨#[]⟩,.slice none 0 0,.string ⟨#[]⟩,.slice none 0 0] rfl rfl rfl rfl (by omega) (by omega) ?_)
      intro v5 l P N;obtain⟨j,M,rfl,b4,bf,F⟩:=P.o.atRow (by omega);have b3:(wc.drewN 1).heap.size=wc.heap.size:=rfl;have bh:p<(wc.drewN 1).heap.size:=(dq.1 bl.o).1;have J:l.heap[p]?=some (.cells #[.string pn,pv,.slice a ol c] 151 (0,0)):=by
       rw[N.o.gr.block p (by simp;omega) (fun e=>by have i:=a1.o;rw[K.o]at i;exact i e.symm),jy _ _ p bh];have i:=bl.o;rw[K.o]at i
       exact i
      have Q:j≠p:=by
       rcases N.o.loc with hl|⟨k,r,ad⟩
       ·intro e;have i:=a1.o;rw[K.o]at i
        exact i (by rw[<-hl,F,e])
       ·rw[F]at r
        have i:j=k:=cy r;simp at ad;omega
      have a6:cS (fun k=>p<k/\j≠k) l xs out:=by
       have L:=HC.o;rw[K.o]at L
       refine L.keep (fun k r hd=>⟨?_,hd.1,?_⟩)
       ·have be:k<(wc.drewN 1).heap.size:=r;rw[N.o.gr.block k (by simp;omega) (fun e=>hd.2 e.symm),jy _ _ k be];rfl
       ·rcases N.o.loc with hl|⟨q,hq,ad⟩
        ·intro e;exact hd.2 (by rw[<-hl,F,e])
        ·rw[F]at hq
         have i:j=q:=cy hq;have be:k<(wc.drewN 1).heap.size:=r;simp at ad;omega
      have a3:=Z (uJ (zs:=[.int .i64 0,.int .i64 0,.string ⟨#[]⟩,.slice none 0 0,.string ⟨#[]⟩,.slice none 0 0]) (cs:=[.int .i64 2,.int .i64 0,.string ⟨#[]⟩,.slice none 0 0,.string t,.slice none 0 0]) Q rfl (ol*6) an.o.symm J P.o);have a0:=Z a6;have aa:=Z Q;have c0:=Z bf;have ac:l.cell? ⟨p,2,none⟩=some (.slice a ol c):=by rw[au _ _ 2 _ 151 (0,0) J];rfl
      have bd:l.frozen? ⟨p,2,none⟩=false:=by simp[World.frozen?,J]
      have bs:=Z J;have bx:=Z (P.o.there (ol*6) 6 (by rw[ax,an.o];simp));have b0:=Z ((P.o.aside ⟨p,2,none⟩ oK Q (.slice (some ⟨j,0,none⟩) (ol+1) M)).there (ol*6) 6 (by rw[ax,an.o];simp));have a2:=Z (show ol+1=out.length+1 by rw[K.o]);clear b3 bh J Q a6 b4 bf F;go_wp2_with fail
      refine a9 _ _ ((ab.o _).2 ac) (dW (fun f d=>aq (d _ ?_)));clear d f a9 Q3;refine lS (fun f d=>?_);simp only[pick,pickZ,pickS,pickG];repeat (go_big_quiet_step (fail))
      refine aq (d _ ?_ ?_)
      ·intro Q4 D;clear d f;simp only[pick,pickZ,pickS,pickG];refine ij (by rfl) 45 (.tmp 58) (.tmp 54) rfl j (ol*6) #[.int .i64 2,.int .i64 0,.string ⟨#[]⟩,.slice none 0 0,.string t,.slice none 0 0] rfl rfl bx.o (by rw[ao];simp[av]) (by simp[Value.oneCell']) ?_;simp only[];obtain⟨z,m⟩:=ex (l.setCells j (ol*6) [.int .i64 2,.int .i64 0,.string ⟨#[]⟩,.slice none 0 0,.string t,.slice none 0 0])
       rw[<-m];have n:=Z (a3.o (z.setCell ⟨p,2,none⟩ (.slice (some ⟨j,0,none⟩) (ol+1) M)) (.inl (by rw[m])));have al:z.heap[p]?=some (.cells #[.string pn,pv,.slice a ol c] 151 (0,0)):=by rw[m,dB j _ (ol*6) l p (gz aa.o)];exact bs.o
       have c4:z.cell? ⟨p,2,none⟩=some (.slice a ol c):=by rw[au _ _ 2 _ 151 (0,0) al];rfl
       have c5:z.frozen? ⟨p,2,none⟩=false:=by simp[World.frozen?,al]
       clear al m ac bd;go_wp2_with fail
       refine D _ _ trivial (cT (fun f d=>aq (d _ ?_)));clear d f D Q4;intro Q5 E;simp only[pick,pickZ,pickS,pickG];go_wp2_with fail
       refine E _ _ trivial (dW (fun f d=>aq (d _ (fun Q6 b2=>?_))));clear d f E Q5;go_wp2
       refine lz (v:=.tuple #[]) (by simp[results,Tryz.results196,go_sem]) rfl ⟨rfl,?_⟩;rw[a4.o,pM V.o];exact Sv.push y.o.at' y.o.phr a2.o aa.o n.o.1 n.o.2.1 a0.o (mD _ _ t) n.o.2.2
      ·intro Q4 D;clear d f;simp only[pick,pickZ,pickS,pickG];go_wp2_with fail
       refine D _ _ trivial (cT (fun f d=>aq (d _ ?_)));clear d f D Q4;intro Q5 E;simp only[pick,pickZ,pickS,pickG];have bj:(l.setCell ⟨p,2,none⟩ (.slice (some ⟨j,0,none⟩) (ol+1) M)).there j (ol*6) 6:=b0.o;refine ij (by rfl) 45 (.tmp 58) (.tmp 54) rfl j (ol*6) #[.int .i64 2,.int .i64 0,.string ⟨#[]⟩,.slice none 0 0,.string t,.slice none 0 0] rfl rfl bj (by rw[ao];simp[av]) (by simp[Value.oneCell']) ?_;simp only[];obtain⟨z,m⟩:=ex ((l.setCell ⟨p,2,none⟩ (.slice (some ⟨j,0,none⟩) (ol+1) M)).setCells j (ol*6) [.int .i64 2,.int .i64 0,.string ⟨#[]⟩,.slice none 0 0,.string t,.slice none 0 0])
       rw[<-m];have n:=Z (a3.o z (.inr m));clear m ac bd bj;go_wp2_with fail
       refine E _ _ trivial (dW (fun f d=>aq (d _ (fun Q6 b2=>?_))));clear d f E Q5;go_wp2
       refine lz (v:=.tuple #[]) (by simp[results,Tryz.results196,go_sem]) rfl ⟨rfl,?_⟩;rw[a4.o,pM V.o];exact Sv.push y.o.at' y.o.phr a2.o aa.o n.o.1 n.o.2.1 a0.o (mD _ _ t) n.o.2.2
open Go.RowKit
mutual
def Nd.tk:Nd->Nat
 | .mk _ _ _ _ tx ks=>1+tx.size+dH ks
def dH:List Nd->Nat
 | []=>0
 | k :: ks=>k.tk+dH ks
end
theorem tY (n:Nd):n.tk=1+n.text.size+dH n.kids:=by
 cases n;conv=>lhs;unfold Nd.tk
 rfl
theorem kF (n:Nd)(ns:List Nd):dH (n :: ns)=n.tk+dH ns:=by conv=>lhs;unfold dH
theorem aNu:(∀n:Nd,n.tk<=n.bk)/\∀l:List Nd,dH l<=fL l:=by
 refine uX (P:=fun n=>n.tk<=n.bk) (Q:=fun l=>dH l<=fL l) ?_ ?_ ?_;{intro n c;rw[tY,aNi];omega};{unfold dH fL;omega};{intro n d a b;rw[kF,aBA];omega}
theorem aIA:(∀n:Nd,n.sz<=n.tk)/\∀l:List Nd,aB l<=dH l:=by
 refine uX (P:=fun n=>n.sz<=n.tk) (Q:=fun l=>aB l<=dH l) ?_ ?_ ?_;{intro n c;rw[tY,jK];omega};{unfold dH aB;omega};{intro n d a b;rw[kF];unfold aB;omega}
def wtK:List Nd->Nat
 | []=>0
 | n :: ns=>1+n.text.size+wtK ns
theorem rI:∀a b:List Nd,wtK (a++b)=wtK a+wtK b:=by
 intro a;induction a with|nil=>{intro b;rw[d8];simp[wtK]}|cons n a ih=>{intro b;rw[dw];simp only[wtK];rw[ih];omega}
theorem kP:∀l:List Nd,l.length<=wtK l/\∀x∈l,x.text.size<=wtK l:=by
 intro l;induction l with|nil=>exact⟨ah _,fun x h=>by simp at h⟩|cons n l ih=>{refine⟨by simp only[wtK,bv];omega,fun x h=>?_⟩;simp only[wtK];rcases b9.1 h with rfl|h;{omega};{have:=ih.2 x h;omega}}
theorem aQ0 (out:List Nd)(t:I):wtK (eD out t)<=wtK out+1+t.size:=by
 have a:wtK (out++[bG t])=wtK out+1+t.size:=by{rw[rI];simp only[wtK];show _+(1+t.size+0)=_;omega};by_cases h:out=[];{subst h;unfold eD;show wtK ([]++[bG t])<=_;rw[a];exact ah _};{obtain⟨b,x,rfl⟩:=rV h;rw[kW];split;{rw[rI,rI];simp only[wtK];have:(x.more t).text.size=x.text.size+t.size:=by{show(x.text++t).size=_;rw[od]};omega};{rw[a];exact ah _}}
theorem aBh (s:I):(dK s).size<=3*s.size:=by
 have a:=nV s.data.toList;have b:(dK s).size=(bS s.data.toList).length:=rfl;have c:s.data.toList.length=s.size:=rfl;omega
theorem nN (A:cW) :
  (∀(n:Nd) (pn:I) (ph:List I) (out:List Nd),wtK (eF A pn ph out n)<=wtK out+4*n.tk) /\
  (∀(l:List Nd) (pn:I) (ph:List I) (out:List Nd),wtK (aY A pn ph out l)<=wtK out+4*dH l):=by
 refine uX (P:=fun n=>∀(pn:I) (ph:List I) (out:List Nd),wtK (eF A pn ph out n)<=wtK out+4*n.tk)
  (Q:=fun l=>∀(pn:I) (ph:List I) (out:List Nd),wtK (aY A pn ph out l)<=wtK out+4*dH l) ?_ ?_ ?_
 {intro n c pn ph out;rw[nU,tY];split;{unfold nE;split;{omega};{have a:=aQ0 out (dK n.text);have b:=aBh n.text;omega}};{split;{omega};{split;{rw[rI];simp only[wtK];have:(Nd.mk 1 0 n.name (A n.name n.attrs) ⟨#[]⟩ (bB A n.name ph n.kids)).text.size=0:=rfl;omega};{have:=c pn ph out;omega}}}};{intro pn ph out;rw[iQ];omega};{intro n f a b pn ph out;rw[kN,kF];have d:=a pn ph out;have e:=b pn ph (eF A pn ph out n);omega}
def aEe (A:cW)(m:Nat):Prop:=∀(l:List Nd),aB l<=m->∀(p:Nat) (pn:I) (pv:Value) (ph:List I) (out:List Nd) (W1 w:H) (a:Option Addr) (c:Nat),G (aA W1)->G (SmK l) ->
 wtK out+4*dH l<=100000000->ph.length+aB l<=10000000->G (Sv p pn pv ph out W1 w)->G (aQ W1 a 0 l) ->
 Y 155 #[.pointer (some ⟨p,0,none⟩),.slice a l.length c] w fun e w'=>e=.returned (.tuple #[])/\Sv p pn pv ph (aY A pn ph out l) W1 w'
def fV (w:H)(r:List Nd)(e:Ending)(w':H):Prop:=∃a c,e=.returned (.slice a r.length c)/\r.length<=140737488355328/\dD (fun g=>w.heap.size<=g) w' a 0 r/\Below w.heap.size w w'
theorem Tryz.info9':(Tryz.prog.info? 9).map (fun i=>(i.zero,i.size,i.bytes))=some (some (.string ⟨#[]⟩),1,16):=by kernel_rfl
theorem aBJ (A:cW)(m:Nat)(HA:G (aEe A m))(l:List Nd)(L:aB l<=m)(pn:I)(pv:Value)(ph:List I)(w:H)(a:Option Addr)(c:Nat)(HT:G (aA w))(HS:G (SmK l))(hb:4*dH l<=100000000)
  (a7:ph.length+1+aB l<=10000000) (u:G (Phr w pv ph)) (hK:G (aQ w a 0 l)) :
  Y 101 #[.string pn,.slice a l.length c,pv] w (fV w (bB A pn ph l)):=by
 obtain⟨X,F,bd,a8,a3⟩:=cx Tryz.info9';obtain⟨pa,pc,rfl,a6⟩:=u.o.cap;have p:=Z (sN pn w);have bj:=lD pn.data.toList;have D:bB A pn ph l=if aN pn.data.toList=5\/aN pn.data.toList=6 then []else aY A pn (if aN pn.data.toList=4 then ph++[pn]else ph) [] l:=rfl
 generalize bB A pn ph l=R at *;have x:=Z D;clear D;generalize aN pn.data.toList=K at *;have bk:l.length<=10000000:=by{have:=(iT l).2;omega};have B:=Z (show wtK []+4*dH l<=100000000 by unfold wtK;omega);have HM:=Z L;have ao:=Z a7;clear hb L;generalize hlen:l.length=ll at *;have ad:=Z hlen;clear hlen;go_enter Tryz.func101,Tryz.ntmps101;go_wp2_with fail;refine p.o.mono ?_;rintro e w' ⟨rfl,rfl⟩;by_cases j:K=5\/K=6
 ·have i:G (R=[]):=by{show _=_;rw[x.o,af j]};have N:fV w R (.returned (.slice none 0 0)) w:=by{rw[i.o];exact⟨none,0,rfl,by simp,by unfold dD;trivial,am _ _⟩};have an:=Z N;clear N;rcases j with rfl|rfl
  all_goals
   go_wp2
   go_ret;exact an.o
 ·have e5:((K:Int)==5)=false:=by{rw[ai];omega};have e6:((K:Int)==6)=false:=by{rw[ai];omega};have i:G (R=aY A pn (if K=4 then ph++[pn]else ph) [] l):=by{show _=_;rw[x.o,ae j]};clear j;go_wp2_with fail;refine p.o.mono ?_;rintro e w' ⟨rfl,rfl⟩;clear p e5 e6;go_upto_if 19 with fail;go_cut [2] (fun p2 wx=>G (Phr wx p2 (if K=4 then ph++[pn]else ph))/\G (Below w.heap.size w wx));case first =>by_cases n:K=4;{have e1:((K:Int)==4)=true:=by{rw[cn];omega};have q:=Z n;have bh:∀W,(Instr.slice 55 (.slice pa ph.length pc) none (some (.int .i64 ph.length)) (some (.int .i64 ph.length))).run Tryz.prog W=.ok (.slice pa ph.length ph.length) W:=fun W=>aFM 55 9 Tryz.underlying55 X F W pa ph.length pc a6;have t:Below w.heap.size w (w.alloc (.cells #[.string pn] 9)):=(am _ w).alloc oK _;have M:(w.alloc (.cells #[.string pn] 9)).cell? ⟨w.heap.size,0,none⟩=some (.string pn):=by{rw[au _ w.heap.size 0 _ 9 (0,0) (cc w _)];rfl};have av:=Z (u.o.below t oK);have T:jT (w.alloc (.cells #[.string pn] 9)) (.slice pa ph.length ph.length) ph.length (ph.map nM):=by{obtain⟨a',c',e',h'⟩:=av.o.vec;simp only[ce]at e';exact⟨a',_,by rw[e'.1],h'⟩};have a1:=Z T;have al:=Z M;have aa:=Z t;clear T M t n;go_wp2_with (at_builtin;refine zT rfl _ _ 55 rfl 9 X (.string ⟨#[]⟩) 16 Tryz.underlying55 F bd a8 a3 _ ph.length (ph.map nM) rfl ⟨_,rfl⟩ a1.o (dc ..) _ _ _ rfl al.o (by omega) (by omega) ?_);intro v' w' a9 a4 a2;have ab:=Z (aa.o.trans (a2.o.mono (by simp)));go_wp2_with fail;go_meet;case rel =>refine⟨?_,ab⟩;rw[af q.o];obtain⟨y',c',e1,e2⟩:=a4.o;exact Z ⟨by rw[ax,kt];exact a9.o,⟨y',c',by rw[ax];exact e1,by rw[ax];exact e2⟩⟩};{have e1:((K:Int)==4)=false:=by{rw[ai];omega};have q:=Z n;clear n;go_wp2_with fail;go_meet;case rel =>refine⟨?_,Z (am _ _)⟩;rw[ae q.o];exact u}
  case rest =>
   obtain⟨z,b⟩:=hcut;have aw:G ((if K=4 then ph++[pn]else ph).length+aB l<=10000000):=by{show _<=_;have h1:=ao.o;split;{rw[ax,jx];omega};{omega}};generalize (if K=4 then ph++[pn]else ph)=ph2 at *
   obtain⟨f,h,rfl,_⟩:=z.o.cap;have k:Below wc.heap.size wc (wc.alloc (.cells #[.string pn,.slice f ph2.length h,.slice none 0 0] 151)):=(am _ wc).alloc oK _;have Q:=cc wc (.cells #[.string pn,.slice f ph2.length h,.slice none 0 0] 151);have S:Sv wc.heap.size pn (.slice f ph2.length h) ph2 [] wc (wc.alloc (.cells #[.string pn,.slice f ph2.length h,.slice none 0 0] 151)) :=
    ⟨rfl,⟨.slice none 0 0,[],Q,aF.of 45 6 k k.size,(fun e=>by cases e),cS.nil _ _⟩,z.o⟩
   have a0:=Z S;have be:=Z (b.o.trans (k.mono b.o.size));clear k Q S;go_wp2_with fail;have v:=HA.o l HM.o wc.heap.size pn (.slice f ph2.length h) ph2 [] wc _ a c (Z (HT.o.below b.o oK)) HS B.o aw.o a0 (Z (hK.o.below b.o oK));rw[ad.o]at v;refine v.mono ?_;rintro e W3 ⟨rfl,s⟩;rw[<-i.o]at s;clear v;obtain⟨v3,bl,P,d,a5,C⟩:=s.row;obtain⟨r,c3,rfl,_,J⟩:=d.slice;have bf:W3.cell? ⟨wc.heap.size,2,none⟩=some (.slice r R.length c3):=by{rw[au _ _ 2 _ 151 (0,0) P];rfl};have E:fV w R (.returned (.slice r R.length c3)) W3:=by{have hs:=b.o.size;refine⟨r,c3,rfl,?_,pE d.vec C (fun g hg=>by omega) (fun y V=>⟨by have:=(J y V).1;omega,d.unf y V⟩),b.o.trans (d.bel.mono hs)⟩;rw[i.o];have h1:=(nN A).2 l pn ph2 [];have h2:=(kP (aY A pn ph2 [] l)).1;have h4:=B.o;omega};have ac:=Z E;clear E P d a5 C s J;go_wp2;go_ret;exact ac.o
