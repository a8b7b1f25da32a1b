/-
sieve.text: a text laid down.
-/
import Derived.Test.YtcfgbdhpcboikaaGreatDoorHoldF
import Derived.Test.YtcfgbdhpcboikaaGreatDoorSchedE
namespace Go.Proofs.YtcfgbdhpcboikaaGreatDoor
set_option maxHeartbeats 2000000
set_option maxRecDepth 100000
open Go.RowKit
theorem pS {n:Nat}:n<=n:=ag n
theorem bS.more {D:Nat->Prop}{w:H}{x:Nd}{c0 c1 c2 c3 c4 c5:Value}(h:bS D w x (.agg #[c0,c1,c2,c3,c4,c5]))(t:I):bS D w (x.more t) (.agg #[c0,c1,c2,c3,.string (x.text++t),c5]):=by
 cases x with|mk kd sp nm at' tx ks=>{unfold bS at h;unfold Nd.more bS;obtain⟨b,ca,a,c,e,h1,h2,d⟩:=h;simp only[lz,pi,gi,gj]at e;obtain⟨rfl,rfl,rfl,rfl,rfl,rfl⟩:=e;exact⟨b,ca,a,c,rfl,h1,h2,d⟩}
theorem bZ.more {D:Nat->Prop}{w:H}{c:List Value}{b:List Nd}{x:Nd}(h:bZ D w c (b++[x]))(t:I):bZ D w (c.set (b.length*6+4) (.string (x.text++t))) (b++[x.more t]):=by
 refine⟨by rw[nl,h.1];simp,fun j n=>?_⟩;have p:j<(b++[x]).length:=by{simpa using n};obtain⟨c0,c1,c2,c3,c4,c5,f,g,k,l,o,m,d⟩:=h.2 j p;have a:∀i v,i≠b.length*6+4->c[i]?=some v->(c.set (b.length*6+4) (.string (x.text++t)))[i]?=some v:=fun i v hi y=>by{rw[uu (fun e=>hi e.symm)];exact y};by_cases r:j<b.length;{refine⟨c0,c1,c2,c3,c4,c5,a _ _ (by omega) f,a _ _ (by omega) g,a _ _ (by omega) k,a _ _ (by omega) l,a _ _ (by omega) o,a _ _ (by omega) m,?_⟩;rw[kf r]at d ⊢;exact d};{have q:j=b.length:=by{simp at n;omega};subst q;have s:b.length*6+4<c.length:=by{rw[h.1];simp;omega};refine⟨c0,c1,c2,c3,.string (x.text++t),c5,a _ _ (by omega) f,a _ _ (by omega) g,a _ _ (by omega) k,a _ _ (by omega) l,rv s,a _ _ (by omega) m,?_⟩;rw[jf pS]at d ⊢;have u:bS D w x (.agg #[c0,c1,c2,c3,c4,c5]):=by{simpa using d};simpa using u.more t}
theorem Sv.more {p:Nat}{pn:I}{d:Value}{ph:List I}{a:List Nd}{x:Nd}{b w:H}{g c n:Nat}{i:List Value}(at':p=b.heap.size)(phr:Phr b d ph)(o:n=(a++[x]).length)
  (hr:w.heap[p]?=some (.cells #[.string pn,d,.slice (some ⟨g,0,none⟩) n c] 151 (0,0))) (l:aJ p 45 6 (.slice (some ⟨g,0,none⟩) n c) n i b w) (h:g≠p)
  (j:bZ (fun k=>p<k/\(Value.slice (some ⟨g,0,none⟩) n c).ownBlock≠some k) w i (a++[x])) (t:I) :
  Sv p pn d ph (a++[x.more t]) b (w.setCell ⟨g,a.length*6+4,none⟩ (.string (x.text++t))):=by
 have m:(a++[x.more t]).length=n:=by rw[o];simp
 refine⟨at',⟨.slice (some ⟨g,0,none⟩) n c,_,?_,?_,fun e=>h (b8 (show some g=some p from e)),(j.more t).keep (fun k _ f=>⟨gu w ⟨g,_,none⟩ k _ (fun e=>f.2 (by rw[e];rfl)),f⟩)⟩,phr⟩
 ·rw[gu w ⟨g,_,none⟩ p _ (ii h)];exact hr
 ·rw[m];exact l.setCell _ _
theorem aJ.aside {B:Nat}{e:TypeId}{size g n c:Nat}{f:List Value}{b w:H}(h:aJ B e size (.slice (some ⟨g,0,none⟩) n c) n f b w)(q:Addr)(hq:B<=q.block)(m:g≠q.block)(u:Value) :
  aJ B e size (.slice (some ⟨g,0,none⟩) n c) n f b (w.setCell q u):=by
 refine⟨⟨h.own.1,?_⟩,h.bel.setCell hq u,by rw[uP];exact h.base⟩;rcases h.own.2 with l|⟨d,cap,i,a,j,k,rest⟩;{exact .inl l};{refine .inr ⟨d,cap,i,a,j,?_,rest⟩;simp only[cg,fe,jo]at a;rw[gu w q d u (by rw[<-a.1.1];exact m)];exact k}
theorem Sv.push {p:Nat}{pn:I}{f:Value}{ph:List I}{out:List Nd}{x:Nd}{b d W6:H}{g n c:Nat}{i:List Value}{c0 c1 c2 c3 c4 c5:Value}(at':p=b.heap.size)(phr:Phr b f ph)(o:n=out.length+1)(q:g≠p)
  (hr:W6.heap[p]?=some (.cells #[.string pn,f,.slice (some ⟨g,0,none⟩) n c] 151 (0,0))) (l:aJ p 45 6 (.slice (some ⟨g,0,none⟩) n c) n (i++[c0,c1,c2,c3,c4,c5]) b W6)
  (j:bZ (fun k=>p<k/\g≠k) d i out) (hx:bS (fun k=>p<k/\g≠k) d x (.agg #[c0,c1,c2,c3,c4,c5])) (r:∀k,k≠g->k≠p->W6.heap[k]?=d.heap[k]?) :
  Sv p pn f ph (out++[x]) b W6:=by
 have m:(out++[x]).length=n:=by rw[o];simp
 refine⟨at',⟨.slice (some ⟨g,0,none⟩) n c,_,hr,by rw[m];exact l,fun e=>q (b8 (show some g=some p from e)),?_⟩,phr⟩;have h:=(j.snoc hx).keep (D':=fun k=>p<k/\g≠k) (w':=W6) (fun k _ a=>⟨r k (ii a.2) (by omega),a⟩);exact h.keep (fun k _ a=>⟨rfl,a.1,fun e=>a.2 (b8 (show some g=some k from e))⟩)
theorem vZ {p:Nat}{pn:I}{f v:Value}{l a:H}{g n c:Nat}{b zs cs:List Value}(e:g≠p)(q:zs.length=cs.length)(o:Nat)(r:o=b.length)
  (hr:a.heap[p]?=some (.cells #[.string pn,f,v] 151 (0,0))) (m:aJ p 45 6 (.slice (some ⟨g,0,none⟩) n c) n (b++zs) l a) :
  (∀d,d=(a.setCells g o cs).setCell ⟨p,2,none⟩ (.slice (some ⟨g,0,none⟩) n c)\/d=(a.setCell ⟨p,2,none⟩ (.slice (some ⟨g,0,none⟩) n c)).setCells g o cs ->
   d.heap[p]?=some (.cells #[.string pn,f,.slice (some ⟨g,0,none⟩) n c] 151 (0,0))/\aJ p 45 6 (.slice (some ⟨g,0,none⟩) n c) n (b++cs) l d/\∀k,k≠g->k≠p->d.heap[k]?=a.heap[k]?):=by
 subst r;have row:∀w:H,w.heap[p]?=some (.cells #[.string pn,f,v] 151 (0,0))->(w.setCell ⟨p,2,none⟩ (.slice (some ⟨g,0,none⟩) n c)).heap[p]?=some (.cells #[.string pn,f,.slice (some ⟨g,0,none⟩) n c] 151 (0,0)):=fun w h=>by{rw[od w p 2 _ 151 (0,0) _ h];exact df w p _ _ 151 (0,0) h};rintro d (rfl|rfl);{have h1:=m.setCells cs _ b.length a;rw[aEx b zs cs q]at h1;refine⟨row _ (by rw[dU g cs _ a p (ii e)];exact hr),h1.aside ⟨p,2,none⟩ pS e _,fun k i j=>?_⟩;rw[gu _ ⟨p,2,none⟩ k _ j,dU g cs _ a k i]};{have h1:=(m.aside ⟨p,2,none⟩ pS e (.slice (some ⟨g,0,none⟩) n c)).setCells cs _ b.length (a.setCell ⟨p,2,none⟩ (.slice (some ⟨g,0,none⟩) n c));rw[aEx b zs cs q]at h1;refine⟨by rw[dU g cs _ _ p (ii e)];exact row _ hr,h1,fun k i j=>?_⟩;rw[dU g cs _ _ k i,gu _ ⟨p,2,none⟩ k _ j]}
theorem cT (w:H):Below w.heap.size w (w.drewN 1):=(aj _ w).drew
theorem nJ (D:Nat->Prop)(w:H)(t:I):bS D w (bG t) (.agg #[.int .i64 2,.int .i64 0,.string ⟨#[]⟩,.slice none 0 0,.string t,.slice none 0 0]):=by
 unfold bG bS;exact⟨none,0,none,0,rfl,by simp,fun j h=>absurd h (by simp),by unfold aC;trivial⟩
def uG (out:List Nd):Bool:=match out.getLast? with|some x=>decide (x.kind=2)|none=>false
theorem zL (a:List Nd)(x:Nd):uG (a++[x])=decide (x.kind=2):=by unfold uG;rw[List.getLast?_concat]
theorem qW {out:List Nd}(h:uG out=false)(t:I):eN out t=out++[bG t]:=by
 unfold eN;unfold uG at h;cases ho:out.getLast? with|none=>rfl|some x=>{rw[ho]at h;show(if x.kind=2 then _ else _)=_;rw[ac (by simpa using h)]}
theorem bZ.at {D:Nat->Prop}{w:H}{b:List Value}{a:List Nd}{x:Nd}(h:bZ D w b (a++[x])):b[a.length*6]?=some (.int .i64 x.kind)/\b[a.length*6+4]?=some (.string x.text):=by
 obtain⟨c0,c1,c2,c3,c4,c5,c,g,i,j,d,k,e⟩:=h.2 a.length (by simp);have hx:(a++[x])[a.length]'(by simp)=x:=by{rw[jf pS];simp};rw[hx]at e;obtain⟨_,_,_,_,f,_,_,_,e4,_⟩:=e.node.cells;rw[f]at c;rw[e4]at d;exact⟨c,d⟩
theorem qU {out:List Nd}(h:out≠[]):∃a x,out=a++[x]:=⟨out.dropLast,out.getLast h,(ql h).symm⟩
theorem aLP (p:Nat)(pn:I)(pv:Value)(ph:List I)(out:List Nd)(W1 w:H)(s:I)(hs:s.size<=100000000)(ho:out.length<=100000000)(hx:∀x∈out,x.text.size<=100000000)(HT:G (aA w))(h:G (Sv p pn pv ph out W1 w)) :
  Y 196 #[.pointer (some ⟨p,0,none⟩),.string s] w fun e w'=>e=.returned (.tuple #[])/\Sv p pn pv ph (nO pn out s) W1 w':=by
 have X:=uR s (by omega) w HT.o;have ht:(⟨(cI s.data.toList).toArray⟩:I)=dK s:=rfl;rw[ht]at X
 have HX:=Z X;have dn:(dK s).size<=300000000:=by
  have i:=pC s.data.toList;have h2:(dK s).size=(cI s.data.toList).length:=rfl;have h3:s.data.toList.length=s.size:=rfl;omega
 have a4:=Z (show nO pn out s=if dK s=⟨#[]⟩\/oG pn.data.toList=false then out else eN out (dK s)from rfl);clear X ht;generalize dK s=t at *
 generalize nO pn out s=R at *
 go_enter Tryz.func196,Tryz.ntmps196
 go_wp2_with fail
 refine HX.o.mono ?_;rintro e W2 ⟨rfl,B2⟩;have y:=Z (h.o.below B2);clear B2 HX;obtain⟨v,xs,hr,hO,ck,A⟩:=y.o.row;obtain⟨a,c,rfl,_,_⟩:=hO.slice;have c0:W2.cell? ⟨p,0,none⟩=some (.string pn):=by rw[aq _ _ 0 _ 151 (0,0) hr];rfl
 have c2:W2.cell? ⟨p,2,none⟩=some (.slice a out.length c):=by rw[aq _ _ 2 _ 151 (0,0) hr];rfl
 have HR:=Z hr;have HO:=Z hO;have HC:=Z A;have a0:=Z ck;clear hr hO A ck;by_cases L:t=⟨#[]⟩
 ·subst L;have hR:R=out:=by rw[a4.o,ae (Or.inl rfl)]
  subst hR;go_wp2
  refine fk (v:=.tuple #[]) (by simp[results,Tryz.results196,go_sem]) rfl ⟨rfl,y.o⟩
 ·have k1:¬t.toList=[]:=fun e=>L (eY (by rw[<-toList_data,e]))
  have k2:t.toList.isEmpty=false:=by cases hh:t.toList with|nil=>exact absurd hh k1|cons a b=>rfl
  have b1:=Z (aLR pn W2);obtain⟨q,hq⟩:∃q,oG pn.data.toList=q:=⟨_,rfl⟩
  rw[hq]at b1 a4
  have H0:=Z L;clear L hq;go_wp2_with fail
  refine b1.o.mono ?_;rintro e w' ⟨rfl,rfl⟩;clear b1;cases q with
  | false =>
   have hR:R=out:=by rw[a4.o,ae (Or.inr rfl)]
   subst hR;go_wp2
   refine fk (v:=.tuple #[]) (by simp[results,Tryz.results196,go_sem]) rfl ⟨rfl,y.o⟩
  | true =>
   have a3:G (R=eN out t):=by show _=_;rw[a4.o,ac (by rintro(e|e);exact H0.o e;cases e)]
   clear a4;go_upto_region 3 with fail
   obtain⟨it,hit⟩:∃it,uG out=it:=⟨_,rfl⟩
   have T:=Z hit;clear hit;go_cut [35] (fun dk wx=>dk=.bool it/\wx=W2)
   case first =>
    by_cases V:out=[]
    ·subst V;have c6:it=false:=T.o.symm;subst c6;go_wp2
     go_meet
     case rel=>exact⟨rfl,rfl⟩
    ·obtain⟨C,x,B⟩:=qU V;obtain⟨g,c',hv,_,_,_⟩:=HO.o.atRow (ie.2 V);simp only[cg]at hv;obtain⟨rfl,_,rfl⟩:=hv;have A:=HC.o;rw[B]at A
     have c8:=HO.o.cell _ _ A.at.1;have dl:(x.kind==2)=it:=by
      have i:=T.o;rw[B,zL]at i
      rw[<-i];by_cases r:x.kind=2
      ·rw[r];rfl
      ·rw[bp r,ai];exact r
     have Q:out.length=C.length+1:=by rw[B];simp
     have dg:(out.length:Int)-1=(C.length:Int):=by omega
     have c9:C.length<out.length:=by omega
     have dm:0<out.length:=by omega
     clear A V B Q;generalize out.length=ol at *
     generalize C.length=k at *
     go_wp2
     go_meet
     case rel=>exact⟨by simp,rfl⟩
   case rest =>
    obtain⟨rfl,rfl⟩:=hcut;cases it with
    | true =>
     have V:out≠[]:=fun e=>by have i:=T.o;rw[e]at i;cases i
     obtain⟨C,x,B⟩:=qU V;obtain⟨g,c',hv,dd,_,_⟩:=HO.o.atRow (ie.2 V);simp only[cg]at hv;obtain⟨rfl,_,rfl⟩:=hv;have A:=HC.o;rw[B]at A
     have cm:x.kind=2:=by have i:=T.o;rw[B,zL]at i;exact bv i
     have c8:=HO.o.cell _ _ A.at.2;have bk:C.length*6+4+1<=xs.length:=by rw[A.1];simp;omega
     have c7:=(HO.o.there (C.length*6+4) 1 bk 0 (by omega)).2;rw[il]at c7
     have Q:out.length=C.length+1:=by rw[B];simp
     have dg:(out.length:Int)-1=(C.length:Int):=by omega
     have c9:C.length<out.length:=by omega
     have dp:=hx x (by rw[B];simp);have ci:g≠p:=fun e=>a0.o (by rw[e];rfl)
     have cd:=Sv.more y.o.at' y.o.phr (by rw[B]) HR.o HO.o ci A t;have b6:R=C++[x.more t]:=by rw[a3.o,B,kN,ae cm]
     have c1:=Z b6;have cw:=Z cd;clear A V B Q cm bk ci b6 cd hx dd;generalize out.length=ol at *
     generalize C.length=k at *
     go_wp2
     refine fk (v:=.tuple #[]) (by simp[results,Tryz.results196,go_sem]) rfl ⟨rfl,?_⟩;rw[c1.o];exact cw.o
    | false =>
     obtain⟨cr,an,cp,ao,ca⟩:=cq Tryz.info45;obtain⟨ol,Q⟩:∃ol,out.length=ol:=⟨_,rfl⟩
     have hO:=HO.o;rw[Q]at hO c2 ho
     have bk:xs.length=ol*6:=by rw[HC.o.1,Q]
     have K:=Z Q;have al:=Z bk;have bq:Below wc.heap.size wc (wc.drewN 1):=cT wc;have b5:=Z (hO.keep bq);have cb:(wc.drewN 1).cell? ⟨p,2,none⟩=some (.slice a ol c):=by rw[bq.cell (p:=⟨p,2,none⟩) (ed _ _ c2)];exact c2
     have ar:=Z cb;have bl:=Z ((bq.block p (d8.1 HR.o).1).trans HR.o);have cj:out.length=ol:=Q;go_upto_region 5 with fail
     rw[cj];obtain⟨S,hS⟩:∃S:H->Prop,∀u,S u↔u.cell? ⟨p,2,none⟩=some (.slice a ol c):=⟨_,fun _=>gy⟩
     have f2:∀s:WIn S,s.w.cell? ⟨p,2,none⟩=some (.slice a ol c):=fun s=>(hS _).1 s.h
     haveI:Nonempty (WIn S):=⟨⟨wc,(hS _).2 c2⟩⟩
     haveI:Nonempty (WIn fun _:H=>True):=⟨⟨wc,trivial⟩⟩
     have aa:=Z hS;clear hS hO Q bk bq cb c2 c0 cj;refine aDa 9 (.two [0,1,2,3,4,6] 5 (.one [] 7 (.one [] 8 (.fin []))) 7 (.one [] 5 (.one [] 8 (.fin [])))) (.two [9,11,12] 10 (.one [] 13 (.fin [])) 13 (.one [] 10 (.fin []))) S (by kernel_rfl) (by kernel_rfl) ((aa.o _).2 ar.o) ?_;refine gS (fun f d=>?_);simp only[pick,pickZ,pickS,pickG];repeat (go_big_quiet_step (fail))
     clear f2;refine am (d _ ?_ ?_)
     ·intro Q1 a6;clear d f;simp only[pick,pickZ,pickS,pickG];go_wp2_with fail
      refine a6 _ _ ((aa.o _).2 ar.o) (bP (fun f d=>am (d _ ?_)));clear d f a6 Q1;intro Q2 a7;simp only[pick,pickZ,pickS,pickG];go_wp2_with fail
      refine a7 _ _ ((aa.o _).2 (pL ar.o)) (bP (fun f d=>am (d _ ?_)));clear d f a7 Q2;intro Q3 a8;simp only[pick,pickZ,pickS,pickG];go_wp2_with (at_builtin;refine bE (by rfl) _ _ 43 (by rfl) 45 cr _ 6 96 Tryz.underlying43 an cp ao ca rfl (by decide) _ _ _ rfl b5.o #[.int .i64 0,.int .i64 0,.string ⟨#[]⟩,.slice none 0 0,.string ⟨#[]⟩,.slice none 0 0] rfl rfl rfl rfl (by omega) (by omega) ?_)
      intro v5 l N M;obtain⟨j,c5,rfl,b4,bf,F⟩:=N.o.atRow (by omega);have b3:(wc.drewN 1).heap.size=wc.heap.size:=rfl;have bh:p<(wc.drewN 1).heap.size:=(d8.1 bl.o).1;have J:l.heap[p]?=some (.cells #[.string pn,pv,.slice a ol c] 151 (0,0)):=by
       rw[M.o.gr.block p (by simp;omega) (fun e=>by have i:=a0.o;rw[K.o]at i;exact i e.symm),kw _ _ p bh];have i:=bl.o;rw[K.o]at i
       exact i
      have P:j≠p:=by
       rcases M.o.loc with hl|⟨k,r,ad⟩
       ·intro e;have i:=a0.o;rw[K.o]at i
        exact i (by rw[<-hl,F,e])
       ·rw[F]at r
        have i:j=k:=b8 r;simp at ad;omega
      have a5:bZ (fun k=>p<k/\j≠k) l xs out:=by
       have L:=HC.o;rw[K.o]at L
       refine L.keep (fun k r hd=>⟨?_,hd.1,?_⟩)
       ·have bd:k<(wc.drewN 1).heap.size:=r;rw[M.o.gr.block k (by simp;omega) (fun e=>hd.2 e.symm),kw _ _ k bd];rfl
       ·rcases M.o.loc with hl|⟨q,hq,ad⟩
        ·intro e;exact hd.2 (by rw[<-hl,F,e])
        ·rw[F]at hq
         have i:j=q:=b8 hq;have bd:k<(wc.drewN 1).heap.size:=r;simp at ad;omega
      have a2:=Z (vZ (zs:=[.int .i64 0,.int .i64 0,.string ⟨#[]⟩,.slice none 0 0,.string ⟨#[]⟩,.slice none 0 0]) (cs:=[.int .i64 2,.int .i64 0,.string ⟨#[]⟩,.slice none 0 0,.string t,.slice none 0 0]) P rfl (ol*6) al.o.symm J N.o);have av:=Z a5;have W:=Z P;have cz:=Z bf;have ab:l.cell? ⟨p,2,none⟩=some (.slice a ol c):=by rw[aq _ _ 2 _ 151 (0,0) J];rfl
      have a9:l.frozen? ⟨p,2,none⟩=false:=by simp[World.frozen?,J]
      have bs:=Z J;have bx:=Z (N.o.there (ol*6) 6 (by rw[aw,al.o];simp));have b0:=Z ((N.o.aside ⟨p,2,none⟩ pS P (.slice (some ⟨j,0,none⟩) (ol+1) c5)).there (ol*6) 6 (by rw[aw,al.o];simp));have a1:=Z (show ol+1=out.length+1 by rw[K.o]);clear b3 bh J P a5 b4 bf F;go_wp2_with fail
      refine a8 _ _ ((aa.o _).2 ab) (dL (fun f d=>am (d _ ?_)));clear d f a8 Q3;refine gS (fun f d=>?_);simp only[pick,pickZ,pickS,pickG];repeat (go_big_quiet_step (fail))
      refine am (d _ ?_ ?_)
      ·intro Q4 D;clear d f;simp only[pick,pickZ,pickS,pickG];refine jp (by rfl) 45 (.tmp 58) (.tmp 54) rfl j (ol*6) #[.int .i64 2,.int .i64 0,.string ⟨#[]⟩,.slice none 0 0,.string t,.slice none 0 0] rfl rfl bx.o (by rw[an];simp[ao]) (by simp[Value.oneCell']) ?_;simp only[];obtain⟨z,m⟩:=ex (l.setCells j (ol*6) [.int .i64 2,.int .i64 0,.string ⟨#[]⟩,.slice none 0 0,.string t,.slice none 0 0])
       rw[<-m];have n:=Z (a2.o (z.setCell ⟨p,2,none⟩ (.slice (some ⟨j,0,none⟩) (ol+1) c5)) (.inl (by rw[m])));have ah:z.heap[p]?=some (.cells #[.string pn,pv,.slice a ol c] 151 (0,0)):=by rw[m,dU j _ (ol*6) l p (ii W.o)];exact bs.o
       have c3:z.cell? ⟨p,2,none⟩=some (.slice a ol c):=by rw[aq _ _ 2 _ 151 (0,0) ah];rfl
       have c4:z.frozen? ⟨p,2,none⟩=false:=by simp[World.frozen?,ah]
       clear ah m ab a9;go_wp2_with fail
       refine D _ _ trivial (bP (fun f d=>am (d _ ?_)));clear d f D Q4;intro Q5 E;simp only[pick,pickZ,pickS,pickG];go_wp2_with fail
       refine E _ _ trivial (dL (fun f d=>am (d _ (fun Q6 b2=>?_))));clear d f E Q5;go_wp2
       refine ou (v:=.tuple #[]) (by simp[results,Tryz.results196,go_sem]) rfl ⟨rfl,?_⟩;rw[a3.o,qW T.o];exact Sv.push y.o.at' y.o.phr a1.o W.o n.o.1 n.o.2.1 av.o (nJ _ _ t) n.o.2.2
      ·intro Q4 D;clear d f;simp only[pick,pickZ,pickS,pickG];go_wp2_with fail
       refine D _ _ trivial (bP (fun f d=>am (d _ ?_)));clear d f D Q4;intro Q5 E;simp only[pick,pickZ,pickS,pickG];have bj:(l.setCell ⟨p,2,none⟩ (.slice (some ⟨j,0,none⟩) (ol+1) c5)).there j (ol*6) 6:=b0.o;refine jp (by rfl) 45 (.tmp 58) (.tmp 54) rfl j (ol*6) #[.int .i64 2,.int .i64 0,.string ⟨#[]⟩,.slice none 0 0,.string t,.slice none 0 0] rfl rfl bj (by rw[an];simp[ao]) (by simp[Value.oneCell']) ?_;simp only[];obtain⟨z,m⟩:=ex ((l.setCell ⟨p,2,none⟩ (.slice (some ⟨j,0,none⟩) (ol+1) c5)).setCells j (ol*6) [.int .i64 2,.int .i64 0,.string ⟨#[]⟩,.slice none 0 0,.string t,.slice none 0 0])
       rw[<-m];have n:=Z (a2.o z (.inr m));clear m ab a9 bj;go_wp2_with fail
       refine E _ _ trivial (dL (fun f d=>am (d _ (fun Q6 b2=>?_))));clear d f E Q5;go_wp2
       refine ou (v:=.tuple #[]) (by simp[results,Tryz.results196,go_sem]) rfl ⟨rfl,?_⟩;rw[a3.o,qW T.o];exact Sv.push y.o.at' y.o.phr a1.o W.o n.o.1 n.o.2.1 av.o (nJ _ _ t) n.o.2.2
     ·intro Q1 a6;clear d f;simp only[pick,pickZ,pickS,pickG];go_wp2_with fail
      refine a6 _ _ ((aa.o _).2 (pL ar.o)) (bP (fun f d=>am (d _ ?_)));clear d f a6 Q1;intro Q2 a7;simp only[pick,pickZ,pickS,pickG];go_wp2_with fail
      refine a7 _ _ ((aa.o _).2 (pL ar.o)) (bP (fun f d=>am (d _ ?_)));clear d f a7 Q2;intro Q3 a8;simp only[pick,pickZ,pickS,pickG];go_wp2_with (at_builtin;refine bE (by rfl) _ _ 43 (by rfl) 45 cr _ 6 96 Tryz.underlying43 an cp ao ca rfl (by decide) _ _ _ rfl b5.o #[.int .i64 0,.int .i64 0,.string ⟨#[]⟩,.slice none 0 0,.string ⟨#[]⟩,.slice none 0 0] rfl rfl rfl rfl (by omega) (by omega) ?_)
      intro v5 l N M;obtain⟨j,c5,rfl,b4,bf,F⟩:=N.o.atRow (by omega);have b3:(wc.drewN 1).heap.size=wc.heap.size:=rfl;have bh:p<(wc.drewN 1).heap.size:=(d8.1 bl.o).1;have J:l.heap[p]?=some (.cells #[.string pn,pv,.slice a ol c] 151 (0,0)):=by
       rw[M.o.gr.block p (by simp;omega) (fun e=>by have i:=a0.o;rw[K.o]at i;exact i e.symm),kw _ _ p bh];have i:=bl.o;rw[K.o]at i
       exact i
      have P:j≠p:=by
       rcases M.o.loc with hl|⟨k,r,ad⟩
       ·intro e;have i:=a0.o;rw[K.o]at i
        exact i (by rw[<-hl,F,e])
       ·rw[F]at r
        have i:j=k:=b8 r;simp at ad;omega
      have a5:bZ (fun k=>p<k/\j≠k) l xs out:=by
       have L:=HC.o;rw[K.o]at L
       refine L.keep (fun k r hd=>⟨?_,hd.1,?_⟩)
       ·have bd:k<(wc.drewN 1).heap.size:=r;rw[M.o.gr.block k (by simp;omega) (fun e=>hd.2 e.symm),kw _ _ k bd];rfl
       ·rcases M.o.loc with hl|⟨q,hq,ad⟩
        ·intro e;exact hd.2 (by rw[<-hl,F,e])
        ·rw[F]at hq
         have i:j=q:=b8 hq;have bd:k<(wc.drewN 1).heap.size:=r;simp at ad;omega
      have a2:=Z (vZ (zs:=[.int .i64 0,.int .i64 0,.string ⟨#[]⟩,.slice none 0 0,.string ⟨#[]⟩,.slice none 0 0]) (cs:=[.int .i64 2,.int .i64 0,.string ⟨#[]⟩,.slice none 0 0,.string t,.slice none 0 0]) P rfl (ol*6) al.o.symm J N.o);have av:=Z a5;have W:=Z P;have cz:=Z bf;have ab:l.cell? ⟨p,2,none⟩=some (.slice a ol c):=by rw[aq _ _ 2 _ 151 (0,0) J];rfl
      have a9:l.frozen? ⟨p,2,none⟩=false:=by simp[World.frozen?,J]
      have bs:=Z J;have bx:=Z (N.o.there (ol*6) 6 (by rw[aw,al.o];simp));have b0:=Z ((N.o.aside ⟨p,2,none⟩ pS P (.slice (some ⟨j,0,none⟩) (ol+1) c5)).there (ol*6) 6 (by rw[aw,al.o];simp));have a1:=Z (show ol+1=out.length+1 by rw[K.o]);clear b3 bh J P a5 b4 bf F;go_wp2_with fail
      refine a8 _ _ ((aa.o _).2 ab) (dL (fun f d=>am (d _ ?_)));clear d f a8 Q3;refine gS (fun f d=>?_);simp only[pick,pickZ,pickS,pickG];repeat (go_big_quiet_step (fail))
      refine am (d _ ?_ ?_)
      ·intro Q4 D;clear d f;simp only[pick,pickZ,pickS,pickG];refine jp (by rfl) 45 (.tmp 58) (.tmp 54) rfl j (ol*6) #[.int .i64 2,.int .i64 0,.string ⟨#[]⟩,.slice none 0 0,.string t,.slice none 0 0] rfl rfl bx.o (by rw[an];simp[ao]) (by simp[Value.oneCell']) ?_;simp only[];obtain⟨z,m⟩:=ex (l.setCells j (ol*6) [.int .i64 2,.int .i64 0,.string ⟨#[]⟩,.slice none 0 0,.string t,.slice none 0 0])
       rw[<-m];have n:=Z (a2.o (z.setCell ⟨p,2,none⟩ (.slice (some ⟨j,0,none⟩) (ol+1) c5)) (.inl (by rw[m])));have ah:z.heap[p]?=some (.cells #[.string pn,pv,.slice a ol c] 151 (0,0)):=by rw[m,dU j _ (ol*6) l p (ii W.o)];exact bs.o
       have c3:z.cell? ⟨p,2,none⟩=some (.slice a ol c):=by rw[aq _ _ 2 _ 151 (0,0) ah];rfl
       have c4:z.frozen? ⟨p,2,none⟩=false:=by simp[World.frozen?,ah]
       clear ah m ab a9;go_wp2_with fail
       refine D _ _ trivial (bP (fun f d=>am (d _ ?_)));clear d f D Q4;intro Q5 E;simp only[pick,pickZ,pickS,pickG];go_wp2_with fail
       refine E _ _ trivial (dL (fun f d=>am (d _ (fun Q6 b2=>?_))));clear d f E Q5;go_wp2
       refine ou (v:=.tuple #[]) (by simp[results,Tryz.results196,go_sem]) rfl ⟨rfl,?_⟩;rw[a3.o,qW T.o];exact Sv.push y.o.at' y.o.phr a1.o W.o n.o.1 n.o.2.1 av.o (nJ _ _ t) n.o.2.2
      ·intro Q4 D;clear d f;simp only[pick,pickZ,pickS,pickG];go_wp2_with fail
       refine D _ _ trivial (bP (fun f d=>am (d _ ?_)));clear d f D Q4;intro Q5 E;simp only[pick,pickZ,pickS,pickG];have bj:(l.setCell ⟨p,2,none⟩ (.slice (some ⟨j,0,none⟩) (ol+1) c5)).there j (ol*6) 6:=b0.o;refine jp (by rfl) 45 (.tmp 58) (.tmp 54) rfl j (ol*6) #[.int .i64 2,.int .i64 0,.string ⟨#[]⟩,.slice none 0 0,.string t,.slice none 0 0] rfl rfl bj (by rw[an];simp[ao]) (by simp[Value.oneCell']) ?_;simp only[];obtain⟨z,m⟩:=ex ((l.setCell ⟨p,2,none⟩ (.slice (some ⟨j,0,none⟩) (ol+1) c5)).setCells j (ol*6) [.int .i64 2,.int .i64 0,.string ⟨#[]⟩,.slice none 0 0,.string t,.slice none 0 0])
       rw[<-m];have n:=Z (a2.o z (.inr m));clear m ab a9 bj;go_wp2_with fail
       refine E _ _ trivial (dL (fun f d=>am (d _ (fun Q6 b2=>?_))));clear d f E Q5;go_wp2
       refine ou (v:=.tuple #[]) (by simp[results,Tryz.results196,go_sem]) rfl ⟨rfl,?_⟩;rw[a3.o,qW T.o];exact Sv.push y.o.at' y.o.phr a1.o W.o n.o.1 n.o.2.1 av.o (nJ _ _ t) n.o.2.2
open Go.RowKit
mutual
def Nd.tk:Nd->Nat
 | .mk _ _ _ _ tx ks=>1+tx.size+aE ks
def aE:List Nd->Nat
 | []=>0
 | k :: ks=>k.tk+aE ks
end
theorem cO (n:Nd):n.tk=1+n.text.size+aE n.kids:=by
 cases n;conv=>lhs;unfold Nd.tk
 rfl
theorem cJ (n:Nd)(ns:List Nd):aE (n :: ns)=n.tk+aE ns:=by conv=>lhs;unfold aE
theorem aOv:(∀n:Nd,n.tk<=n.bk)/\∀l:List Nd,aE l<=gX l:=by
 refine rR (P:=fun n=>n.tk<=n.bk) (Q:=fun l=>aE l<=gX l) ?_ ?_ ?_;{intro n c;rw[cO,aOj];omega};{unfold aE gX;omega};{intro n d a b;rw[cJ,aCl];omega}
theorem tF:(∀n:Nd,n.sz<=n.tk)/\∀l:List Nd,aB l<=aE l:=by
 refine rR (P:=fun n=>n.sz<=n.tk) (Q:=fun l=>aB l<=aE l) ?_ ?_ ?_;{intro n c;rw[cO,dS];omega};{unfold aE aB;omega};{intro n d a b;rw[cJ];unfold aB;omega}
def wtK:List Nd->Nat
 | []=>0
 | n :: ns=>1+n.text.size+wtK ns
theorem tG:∀a b:List Nd,wtK (a++b)=wtK a+wtK b:=by
 intro a;induction a with|nil=>{intro b;rw[en];simp[wtK]}|cons n a ih=>{intro b;rw[dh];simp only[wtK];rw[ih];omega}
theorem lV:∀l:List Nd,l.length<=wtK l/\∀x∈l,x.text.size<=wtK l:=by
 intro l;induction l with|nil=>exact⟨ag _,fun x h=>by simp at h⟩|cons n l ih=>{refine⟨by simp only[wtK,bw];omega,fun x h=>?_⟩;simp only[wtK];rcases ce.1 h with rfl|h;{omega};{have:=ih.2 x h;omega}}
theorem aRZ (out:List Nd)(t:I):wtK (eN out t)<=wtK out+1+t.size:=by
 have a:wtK (out++[bG t])=wtK out+1+t.size:=by{rw[tG];simp only[wtK];show _+(1+t.size+0)=_;omega};by_cases h:out=[];{subst h;unfold eN;show wtK ([]++[bG t])<=_;rw[a];exact ag _};{obtain⟨b,x,rfl⟩:=qU h;rw[kN];split;{rw[tG,tG];simp only[wtK];have:(x.more t).text.size=x.text.size+t.size:=by{show(x.text++t).size=_;rw[m7]};omega};{rw[a];exact ag _}}
theorem oU (s:I):(dK s).size<=3*s.size:=by
 have a:=pC s.data.toList;have b:(dK s).size=(cI s.data.toList).length:=rfl;have c:s.data.toList.length=s.size:=rfl;omega
theorem lP (A:cY) :
  (∀(n:Nd) (pn:I) (ph:List I) (out:List Nd),wtK (eG A pn ph out n)<=wtK out+4*n.tk) /\
  (∀(l:List Nd) (pn:I) (ph:List I) (out:List Nd),wtK (aT A pn ph out l)<=wtK out+4*aE l):=by
 refine rR (P:=fun n=>∀(pn:I) (ph:List I) (out:List Nd),wtK (eG A pn ph out n)<=wtK out+4*n.tk)
  (Q:=fun l=>∀(pn:I) (ph:List I) (out:List Nd),wtK (aT A pn ph out l)<=wtK out+4*aE l) ?_ ?_ ?_
 {intro n c pn ph out;rw[mX,cO];split;{unfold nO;split;{omega};{have a:=aRZ out (dK n.text);have b:=oU n.text;omega}};{split;{omega};{split;{rw[tG];simp only[wtK];have:(Nd.mk 1 0 n.name (A n.name n.attrs) ⟨#[]⟩ (aM A n.name ph n.kids)).text.size=0:=rfl;omega};{have:=c pn ph out;omega}}}};{intro pn ph out;rw[fT];omega};{intro n f a b pn ph out;rw[kD,cJ];have d:=a pn ph out;have e:=b pn ph (eG A pn ph out n);omega}
def aFb (A:cY)(m:Nat):Prop:=∀(l:List Nd),aB l<=m->∀(p:Nat) (pn:I) (pv:Value) (ph:List I) (out:List Nd) (W1 w:H) (a:Option Addr) (c:Nat),G (aA W1)->G (SmK l) ->
 wtK out+4*aE l<=100000000->ph.length+aB l<=10000000->G (Sv p pn pv ph out W1 w)->G (aW W1 a 0 l) ->
 Y 155 #[.pointer (some ⟨p,0,none⟩),.slice a l.length c] w fun e w'=>e=.returned (.tuple #[])/\Sv p pn pv ph (aT A pn ph out l) W1 w'
def mC (w:H)(r:List Nd)(e:Ending)(w':H):Prop:=∃a c,e=.returned (.slice a r.length c)/\r.length<=140737488355328/\aC (fun g=>w.heap.size<=g) w' a 0 r/\Below w.heap.size w w'
theorem Tryz.info9':(Tryz.prog.info? 9).map (fun i=>(i.zero,i.size,i.bytes))=some (some (.string ⟨#[]⟩),1,16):=by kernel_rfl
theorem aCz (A:cY)(m:Nat)(HA:G (aFb A m))(l:List Nd)(L:aB l<=m)(pn:I)(pv:Value)(ph:List I)(w:H)(a:Option Addr)(c:Nat)(HT:G (aA w))(HS:G (SmK l))(hb:4*aE l<=100000000)
  (a7:ph.length+1+aB l<=10000000) (u:G (Phr w pv ph)) (hK:G (aW w a 0 l)) :
  Y 101 #[.string pn,.slice a l.length c,pv] w (mC w (aM A pn ph l)):=by
 obtain⟨V,F,bd,a8,a3⟩:=cq Tryz.info9';obtain⟨pa,X,rfl,a6⟩:=u.o.cap;have p:=Z (uF pn w);have bk:=mM pn.data.toList;have D:aM A pn ph l=if aS pn.data.toList=5\/aS pn.data.toList=6 then []else aT A pn (if aS pn.data.toList=4 then ph++[pn]else ph) [] l:=rfl
 generalize aM A pn ph l=R at *;have x:=Z D;clear D;generalize aS pn.data.toList=K at *;have bl:l.length<=10000000:=by{have:=(kY l).2;omega};have B:=Z (show wtK []+4*aE l<=100000000 by unfold wtK;omega);have HM:=Z L;have ao:=Z a7;clear hb L;generalize hlen:l.length=ll at *;have ah:=Z hlen;clear hlen;go_enter Tryz.func101,Tryz.ntmps101;go_wp2_with fail;refine p.o.mono ?_;rintro e w' ⟨rfl,rfl⟩;by_cases i:K=5\/K=6
 ·have h:G (R=[]):=by{show _=_;rw[x.o,ae i]};have N:mC w R (.returned (.slice none 0 0)) w:=by{rw[h.o];exact⟨none,0,rfl,by simp,by unfold aC;trivial,aj _ _⟩};have an:=Z N;clear N;rcases i with rfl|rfl
  all_goals
   go_wp2
   go_ret;exact an.o
 ·have e5:((K:Int)==5)=false:=by{rw[ai];omega};have e6:((K:Int)==6)=false:=by{rw[ai];omega};have h:G (R=aT A pn (if K=4 then ph++[pn]else ph) [] l):=by{show _=_;rw[x.o,ac i]};clear i;go_wp2_with fail;refine p.o.mono ?_;rintro e w' ⟨rfl,rfl⟩;clear p e5 e6;go_upto_if 19 with fail;go_cut [2] (fun p2 wx=>G (Phr wx p2 (if K=4 then ph++[pn]else ph))/\G (Below w.heap.size w wx));case first =>by_cases n:K=4;{have e1:((K:Int)==4)=true:=by{rw[cv];omega};have q:=Z n;have bj:∀W,(Instr.slice 55 (.slice pa ph.length X) none (some (.int .i64 ph.length)) (some (.int .i64 ph.length))).run Tryz.prog W=.ok (.slice pa ph.length ph.length) W:=fun W=>aGH 55 9 Tryz.underlying55 V F W pa ph.length X a6;have t:Below w.heap.size w (w.alloc (.cells #[.string pn] 9)):=(aj _ w).alloc pS _;have M:(w.alloc (.cells #[.string pn] 9)).cell? ⟨w.heap.size,0,none⟩=some (.string pn):=by{rw[aq _ w.heap.size 0 _ 9 (0,0) (bi w _)];rfl};have ar:=Z (u.o.below t pS);have T:lD (w.alloc (.cells #[.string pn] 9)) (.slice pa ph.length ph.length) ph.length (ph.map oT):=by{obtain⟨a',c',e',h'⟩:=ar.o.vec;simp only[cg]at e';exact⟨a',_,by rw[e'.1],h'⟩};have a1:=Z T;have al:=Z M;have aa:=Z t;clear T M t n;go_wp2_with (at_builtin;refine aAN rfl _ _ 55 rfl 9 V (.string ⟨#[]⟩) 16 Tryz.underlying55 F bd a8 a3 _ ph.length (ph.map oT) rfl ⟨_,rfl⟩ a1.o (dw ..) _ _ _ rfl al.o (by omega) (by omega) ?_);intro v' w' a9 a4 a2;have ab:=Z (aa.o.trans (a2.o.mono (by simp)));go_wp2_with fail;go_meet;case rel =>refine⟨?_,ab⟩;rw[ae q.o];obtain⟨y',c',e1,e2⟩:=a4.o;exact Z ⟨by rw[aw,lf];exact a9.o,⟨y',c',by rw[aw];exact e1,by rw[aw];exact e2⟩⟩};{have e1:((K:Int)==4)=false:=by{rw[ai];omega};have q:=Z n;clear n;go_wp2_with fail;go_meet;case rel =>refine⟨?_,Z (aj _ _)⟩;rw[ac q.o];exact u}
  case rest =>
   obtain⟨z,b⟩:=hcut;have av:G ((if K=4 then ph++[pn]else ph).length+aB l<=10000000):=by{show _<=_;have h1:=ao.o;split;{rw[aw,ku];omega};{omega}};generalize (if K=4 then ph++[pn]else ph)=ph2 at *
   obtain⟨d,f,rfl,_⟩:=z.o.cap;have j:Below wc.heap.size wc (wc.alloc (.cells #[.string pn,.slice d ph2.length f,.slice none 0 0] 151)):=(aj _ wc).alloc pS _;have Q:=bi wc (.cells #[.string pn,.slice d ph2.length f,.slice none 0 0] 151);have S:Sv wc.heap.size pn (.slice d ph2.length f) ph2 [] wc (wc.alloc (.cells #[.string pn,.slice d ph2.length f,.slice none 0 0] 151)) :=
    ⟨rfl,⟨.slice none 0 0,[],Q,aJ.of 45 6 j j.size,(fun e=>by cases e),bZ.nil _ _⟩,z.o⟩
   have a0:=Z S;have bf:=Z (b.o.trans (j.mono b.o.size));clear j Q S;go_wp2_with fail;have v:=HA.o l HM.o wc.heap.size pn (.slice d ph2.length f) ph2 [] wc _ a c (Z (HT.o.below b.o pS)) HS B.o av.o a0 (Z (hK.o.below b.o pS));rw[ah.o]at v;refine v.mono ?_;rintro e W3 ⟨rfl,s⟩;rw[<-h.o]at s;clear v;obtain⟨v3,bq,P,k,a5,C⟩:=s.row;obtain⟨r,c3,rfl,_,J⟩:=k.slice;have bh:W3.cell? ⟨wc.heap.size,2,none⟩=some (.slice r R.length c3):=by{rw[aq _ _ 2 _ 151 (0,0) P];rfl};have E:mC w R (.returned (.slice r R.length c3)) W3:=by{have hs:=b.o.size;refine⟨r,c3,rfl,?_,kR k.vec C (fun g hg=>by omega) (fun y hy=>by have:=(J y hy).1;omega),b.o.trans (k.bel.mono hs)⟩;rw[h.o];have h1:=(lP A).2 l pn ph2 [];have h2:=(lV (aT A pn ph2 [] l)).1;have h4:=B.o;omega};have ad:=Z E;clear E P k a5 C s J;go_wp2;go_ret;exact ad.o
