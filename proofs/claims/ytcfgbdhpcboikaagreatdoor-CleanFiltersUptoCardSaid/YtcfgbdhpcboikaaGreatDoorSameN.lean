/-
The document's SameNode at a node and itself.
-/
import Derived.Test.YtcfgbdhpcboikaaGreatDoorSieveD
namespace Go.Proofs.YtcfgbdhpcboikaaGreatDoor
set_option maxHeartbeats 4000000
set_option maxRecDepth 100000
open Go.RowKit
theorem aH {n:Nat}:n<=n:=ah n
theorem cM {a w v:H}(h:G (Go.RowKit.Below a.heap.size a w))(b:Go.RowKit.Below w.heap.size w v):G (Go.RowKit.Below a.heap.size a v):=Z (h.o.trans (b.mono h.o.size))
theorem zF:∀(m:Nat) (n:Nd),n.sz<=m->∀(v v':Value) (w:H),G (SmN n)->G (bJ w n v)->G (bJ w n v') ->
  Y 43 #[v,v'] w (dV true w):=by
 intro m;induction m with
 | zero=>intro n A;exact absurd (kI n) (by omega)
 | succ m ih =>
  intro n A v v' w Q hN a1;obtain⟨b5,a,c,rfl,hA,b,hlen⟩:=hN.o.get;obtain⟨ca,T,L,rfl,bs,l,_⟩:=a1.o.get;obtain⟨B,D,rfl,ao⟩:=hA;obtain⟨C,E,rfl,av⟩:=bs;have HA:=Z (show dZ w (.slice B n.attrs.length D) n.attrs from⟨B,D,rfl,ao⟩);have a8:=Z (show dZ w (.slice C n.attrs.length E) n.attrs from⟨C,E,rfl,av⟩);have HK:=Z b;have bd:=Z l;have a9:=Z ih;have HN:=Z (show ∀k∈n.kids,k.sz<=m by
   intro k M;have h1:=jK n;have h2:=(iT n.kids).1 k M;omega)
  have bj:=Z Q.o.get;have cd:n.attrs.length<=1048576:=Q.o.get.2.2.1;clear b l ih A hN a1 Q ao av;generalize n.kids=ks at *
  generalize n.name=nm at *
  generalize n.kind=kd at *
  generalize n.space=sp at *
  generalize n.text=tx at *
  generalize n.attrs=at' at *
  have e0:(kd !=kd)=false:=by simp
  have e1:(sp !=sp)=false:=by simp
  have e2:(nm.toList !=nm.toList)=false:=by simp
  have e3:(tx.toList !=tx.toList)=false:=by simp
  go_enter Tryz.func43,Tryz.ntmps43
  obtain⟨W0,J⟩:=ex ((w.alloc (.cells #[.int .i64 kd,.int .i64 sp,.string nm,.slice B at'.length D,.string tx,.slice a ks.length c] 45)).alloc (.cells #[.int .i64 kd,.int .i64 sp,.string nm,.slice C at'.length E,.string tx,.slice T ks.length L] 45))
  have aw:Below w.heap.size w W0:=by rw[J];exact((am _ w).alloc aH _).alloc (by simp) _
  have a2:Six W0 w.heap.size 0 (.int .i64 kd) (.int .i64 sp) (.string nm) (.slice B at'.length D) (.string tx) (.slice a ks.length c):=by
   rw[J];exact(fE w _ _ _ _ _ _).below ((am (w.alloc _).heap.size _).alloc aH _) aH
  have a3:Six W0 (w.heap.size+1) 0 (.int .i64 kd) (.int .i64 sp) (.string nm) (.slice C at'.length E) (.string tx) (.slice T ks.length L):=by
   have h:=fE (w.alloc (.cells #[.int .i64 kd,.int .i64 sp,.string nm,.slice B at'.length D,.string tx,.slice a ks.length c] 45)) (.int .i64 kd) (.int .i64 sp) (.string nm) (.slice C at'.length E) (.string tx) (.slice T ks.length L);rw[<-J]at h
   simpa using h
  have N:=Z a2;have P:=Z a3;have aa:=Z aw;have an:=Z J;clear a2 a3 aw J;go_wp2_with fail
  rw[<-an.o];go_loopw [4,5] (fun r i wx=>r=.bool false/\∃k:Nat,i=.int .i64 k/\G (k<=at'.length/\Below W0.heap.size W0 wx)) (fun _ i _=>at'.length-(intOf i).toNat)
  case atStart=>exact⟨rfl,0,rfl,Z ⟨bb _,am _ _⟩⟩
  case round =>
   obtain⟨rfl,k,rfl,b⟩:=hrel;have M:=b.o.1;obtain⟨y0,y1,y2,y3,y4,y5⟩:=(N.o.below b.o.2 aH).zero;obtain⟨z0,z1,z2,z3,z4,z5⟩:=(P.o.below b.o.2 aH).zero;have f:Below w.heap.size w wr:=aa.o.trans (b.o.2.mono aa.o.size);have K:=Z f;clear f;rcases ak k at'.length with j|a5
   ·obtain⟨g1,o1,c1,a6,bl,bq⟩:=(HA.o.below K.o aH).get k j;obtain⟨g2,o2,c2,a7,b1,b2⟩:=(a8.o.below K.o aH).get k j;simp only[ce,fk]at a6 a7;obtain⟨rfl,rfl⟩:=a6;obtain⟨rfl,rfl⟩:=a7;generalize at'[k]=q at *
    obtain⟨qn,qv⟩:=q;simp only at bl bq b1 b2;have e1:(qn.toList==qn.toList)=true:=by simp
    have e2:(qv.toList==qv.toList)=true:=by simp
    go_wp2_with fail
    go_quiet (fail)
    go_wp2
    go_roundw
    case rel=>exact⟨rfl,k+1,by go_num,Z ⟨j,b.o.2.trans ((below_drewNm wr nq).mono b.o.2.size)⟩⟩
    case measure=>simp[intOf];omega
   ·have ac:=Z (N.o.below b.o.2 aH);have ad:=Z (P.o.below b.o.2 aH);have bx:w.heap.size<W0.heap.size:=dx _ _ N.o.x0;have b0:w.heap.size+1<W0.heap.size:=dx _ _ P.o.x0;have b4:=Z (show w.heap.size+1<wr.heap.size by have:=b.o.2.size;omega);clear b M bx b0 an;go_wp2_with fail
    rw[show decide (k<at'.length)=false from bo (by omega)];clear a5 y0 y1 y2 y3 y4 y5 z0 z1 z2 z3 z4 z5;rename H=>W2
    go_loopw [4,6,7] (fun r i _ wx=>r=.bool false/\∃k:Nat,i=.int .i64 k/\G (k<=ks.length/\Below W2.heap.size W2 wx)) (fun _ i _ _=>ks.length-(intOf i).toNat)
    case atStart=>exact⟨rfl,0,rfl,Z ⟨bb _,am _ _⟩⟩
    case round =>
     obtain⟨rfl,k,rfl,b⟩:=hrel;have M:=b.o.1;have f:Below w.heap.size w wr:=K.o.trans (b.o.2.mono K.o.size);obtain⟨y0,y1,y2,y3,y4,y5⟩:=(ac.o.below b.o.2 aH).zero;obtain⟨z0,z1,z2,z3,z4,z5⟩:=(ad.o.below b.o.2 aH).zero;rcases ak k ks.length with j|a5
     ·obtain⟨g,y,c0,c1,c2,c3,c4,c5,rfl,V,A⟩:=HK.o.get ks 0 k j;obtain⟨p,z,d0,d1,d2,d3,d4,d5,rfl,W,X⟩:=bd.o.get ks 0 k j;rw[bw]at V W
      have t:=V.below f aH;have x:=W.below f aH;have be:=Z (a9.o ks[k] (HN.o _ (dz j)));have bk:=Z (SmK.get ks k j bj.o.2.2.2.2);obtain⟨l1,l2,l3,l4,rfl,rfl,rfl,rfl,rfl,rfl⟩:=A.cells;obtain⟨m1,m2,m3,m4,rfl,rfl,rfl,rfl,rfl,rfl⟩:=X.cells;have bf:=Z (A.below f aH);have bh:=Z (X.below f aH);obtain⟨S,d⟩:∃S:H->Prop,∀u,S u↔Below wr.heap.size wr u:=⟨_,fun _=>ia⟩
      have f0:∀s:WIn S,s.w.cell? ⟨g,y+k*6,none⟩=some (.int .i64 ks[k].kind):=fun s=>(t.below ((d _).1 s.h) aH).x0
      have f1:∀s:WIn S,s.w.cell? ⟨g,y+k*6+1,none⟩=some (.int .i64 ks[k].space):=fun s=>(t.below ((d _).1 s.h) aH).x1
      have f2:∀s:WIn S,s.w.cell? ⟨g,y+k*6+2,none⟩=some (.string ks[k].name):=fun s=>(t.below ((d _).1 s.h) aH).x2
      have f3:∀s:WIn S,s.w.cell? ⟨g,y+k*6+3,none⟩=some (.slice l1 ks[k].attrs.length l2):=fun s=>(t.below ((d _).1 s.h) aH).x3
      have f4:∀s:WIn S,s.w.cell? ⟨g,y+k*6+4,none⟩=some (.string ks[k].text):=fun s=>(t.below ((d _).1 s.h) aH).x4
      have f5:∀s:WIn S,s.w.cell? ⟨g,y+k*6+5,none⟩=some (.slice l3 ks[k].kids.length l4):=fun s=>(t.below ((d _).1 s.h) aH).x5
      have g0:∀s:WIn S,s.w.cell? ⟨p,z+k*6,none⟩=some (.int .i64 ks[k].kind):=fun s=>(x.below ((d _).1 s.h) aH).x0
      have g1:∀s:WIn S,s.w.cell? ⟨p,z+k*6+1,none⟩=some (.int .i64 ks[k].space):=fun s=>(x.below ((d _).1 s.h) aH).x1
      have g2:∀s:WIn S,s.w.cell? ⟨p,z+k*6+2,none⟩=some (.string ks[k].name):=fun s=>(x.below ((d _).1 s.h) aH).x2
      have g3:∀s:WIn S,s.w.cell? ⟨p,z+k*6+3,none⟩=some (.slice m1 ks[k].attrs.length m2):=fun s=>(x.below ((d _).1 s.h) aH).x3
      have g4:∀s:WIn S,s.w.cell? ⟨p,z+k*6+4,none⟩=some (.string ks[k].text):=fun s=>(x.below ((d _).1 s.h) aH).x4
      have g5:∀s:WIn S,s.w.cell? ⟨p,z+k*6+5,none⟩=some (.slice m3 ks[k].kids.length m4):=fun s=>(x.below ((d _).1 s.h) aH).x5
      have hx:∀s:WIn S,s.w.cell? ⟨w.heap.size,5,none⟩=some (.slice (some ⟨g,y,none⟩) ks.length c):=fun s=>((ac.o.below b.o.2 aH).below ((d _).1 s.h) aH).x5
      have hy:∀s:WIn S,s.w.cell? ⟨w.heap.size+1,5,none⟩=some (.slice (some ⟨p,z,none⟩) ks.length L):=fun s=>((ad.o.below b.o.2 aH).below ((d _).1 s.h) aH).x5
      haveI:Nonempty (WIn S):=⟨⟨wr,(d _).2 (am _ _)⟩⟩
      have al:=Z d;have b3:=Z f;clear A X V W f t x d;generalize ks[k]=q at *
      go_wp2_with fail
      refine iW 11 [([0,1,2,3,4,5,6,7,8,9],10)] [] S (by kernel_rfl) (by kernel_rfl) ((al.o _).2 (below_drewNm wr 1)) ?_;refine cP (fun R l=>?_);simp only[pick,pickZ,pickS,pickG];repeat (go_big_quiet_step (fail))
      refine aq (l _ (fun Q1 a4=>?_));clear l R;simp only[pick,pickZ,pickS,pickG];go_wp2_with fail
      have F:=below_drewNm wr 1;refine(be.o _ _ (wr.drewN 1) bk (Z (bf.o.below F aH)) (Z (bh.o.below F aH))).mono ?_;unfold dV;rintro e W4 ⟨rfl,B4⟩;have a0:Below wr.heap.size wr W4:=F.trans (B4.mono F.size);have ab:=Z a0;clear F B4 a0;go_wp2_with fail
      refine a4 _ _ ((al.o _).2 ab.o) (jP (fun R l=>aq (l _ (fun Q4 cb=>?_))));clear a4 Q1 l R f0 f1 f2 f3 f4 f5 g0 g1 g2 g3 g4 g5 hx hy;simp only[fo,fq];go_wp2
      go_roundw
      case rel=>exact⟨rfl,k+1,by go_num,Z ⟨j,b.o.2.trans (ab.o.mono b.o.2.size)⟩⟩
      case measure=>simp[intOf];omega
     ·go_wp2
      go_ret;exact⟨rfl,f⟩
open Go.RowKit
def zZ (ks:List Nd):Nd:=.mk 0 0 ⟨#[]⟩ [] ⟨#[]⟩ ks
theorem aDe {w:H}{a:Option Addr}{b:List Nd}{c:Nat}(d:b.length<=1000000000)(h:aQ w a 0 b) :
  bJ w (zZ b) (.agg #[.int .i64 0,.int .i64 0,.string ⟨#[]⟩,.slice none 0 0,.string ⟨#[]⟩,.slice a b.length c]):=by
 unfold zZ bJ;exact⟨_,a,c,rfl,by omega,⟨none,0,rfl,fun j h=>absurd h (by simp)⟩,h⟩
theorem aNF {a:List Nd}(h:SmK a):SmN (zZ a):=by
 unfold zZ SmN;exact⟨by decide,by decide,by simp,fun x hx=>by simp at hx,h⟩
theorem aFO (b:List Nd)(a d:Option Addr)(c f:Nat)(w:H)(h:b.length<=1000000000)(n:G (SmK b))(l:G (aQ w a 0 b))(m:G (aQ w d 0 b)) :
  Y 52 #[.slice a b.length c,.slice d b.length f] w (dV true w):=by
 have k:=Z (zF (zZ b).sz (zZ b) aH _ _ w (Z (aNF n.o)) (Z (aDe (c:=c) h l.o)) (Z (aDe (c:=f) h m.o)));go_enter Tryz.func52,Tryz.ntmps52;go_wp2_with fail;refine k.o.mono ?_;rintro e p g;have j:=Z g;obtain⟨rfl,i⟩:=g;clear i;go_wp2;go_ret;exact j.o
open Go.RowKit
theorem aAt (w:H):dZ w (.slice none 0 0) []:=⟨none,0,rfl,fun j h=>absurd h (by simp)⟩
theorem Tryz.struct45:(match Tryz.prog.underlying 45 with|some (.struct _)=>true|_=>false)=true:=by kernel_rfl
theorem aDg {j:Func}{p:Tmp}(h:j.results=#[.cell p 45])(a:Array Value)(w:H)(g:Nat)(b c d e f i:Value)
  (m:a.getD p undef=.pointer (some ⟨g,0,none⟩)) (l:w.heap[g]?=some (.cells #[b,c,d,e,f,i] 45 (0,0))) :
  (results j a).run Tryz.prog w=.ok (.agg #[b,c,d,e,f,i]) w:=by
 have k:=Tryz.struct45;obtain⟨t,hi,r,o,s⟩:=cx Tryz.info45;split at k;{rename_i q n;exact results_cell_row h a w g 45 _ (0,0) _ m l n rfl (by rw[hi];simp[o])};{exact absurd k (by simp)}
theorem aAj (s:I)(w:H):Y 61 #[.string s] w fun e w' =>
  (∃v,e=.returned v/\v=.agg #[.int .i64 2,.int .i64 0,.string ⟨#[]⟩,.slice none 0 0,.string s,.slice none 0 0]/\bJ w' (bG s) v)/\Below w.heap.size w w':=by
 go_enter Tryz.func61,Tryz.ntmps61;go_wp2;refine io (aDg rfl _ _ w.heap.size _ _ _ _ _ _ rfl (cc w _)) rfl ?_;refine⟨⟨_,rfl,rfl,?_⟩,(am _ w).alloc aH _⟩;unfold bG bJ;exact⟨_,none,0,rfl,by simp,aAt _,by unfold aQ;trivial⟩
theorem qZ (nm:I)(b:List Nd)(a:Option Addr)(c:Nat)(w:H)(g:b.length<=1000000000)(f:G (aQ w a 0 b)):Y 51 #[.string nm,.slice a b.length c] w fun e w' =>
  (∃v,e=.returned v/\v=.agg #[.int .i64 1,.int .i64 0,.string nm,.slice none 0 0,.string ⟨#[]⟩,.slice a b.length c]/\bJ w' (elN nm b) v)/\Below w.heap.size w w':=by
 go_enter Tryz.func51,Tryz.ntmps51;go_wp2;refine io (aDg rfl _ _ w.heap.size _ _ _ _ _ _ rfl (cc w _)) rfl ?_;have d:=(am w.heap.size w).alloc aH (.cells #[.int .i64 1,.int .i64 0,.string nm,.slice none 0 0,.string ⟨#[]⟩,.slice a b.length c] 45);refine⟨⟨_,rfl,rfl,?_⟩,d⟩;unfold elN bJ;exact⟨_,a,c,rfl,by omega,aAt _,f.o.below d aH⟩
open Go.RowKit
theorem jW {w:H}{g:Nat}{n:Nd}{a b c d e f:Value}(h:Six w g 0 a b c d e f)(i:bJ w n (.agg #[a,b,c,d,e,f])):aQ w (some ⟨g,0,none⟩) 0 [n]:=by
 unfold aQ;exact⟨⟨g,0,_,_,_,_,_,_,rfl,h,i⟩,by unfold aQ;trivial⟩
theorem zN (w:H)(a b c d e f g i k l m d5:Value):Six (w.alloc (.cells #[a,b,c,d,e,f,g,i,k,l,m,d5] 45)) w.heap.size 0 a b c d e f/\Six (w.alloc (.cells #[a,b,c,d,e,f,g,i,k,l,m,d5] 45)) w.heap.size 6 g i k l m d5:=by
 have h:∀j,(w.alloc (.cells #[a,b,c,d,e,f,g,i,k,l,m,d5] 45)).cell? ⟨w.heap.size,j,none⟩=(#[a,b,c,d,e,f,g,i,k,l,m,d5]:Array Value)[j]?:=fun j=>au _ w.heap.size j _ 45 (0,0) (cc w _);exact⟨⟨h 0,h 1,h 2,h 3,h 4,h 5⟩,⟨h 6,h 7,h 8,h 9,h 10,h 11⟩⟩
theorem aFd {w:H}{g:Nat}{n m:Nd}{a b c d e f i j k l o p:Value}(h:Six w g 0 a b c d e f)(s:bJ w n (.agg #[a,b,c,d,e,f]))(q:Six w g 6 i j k l o p)(r:bJ w m (.agg #[i,j,k,l,o,p])):aQ w (some ⟨g,0,none⟩) 0 [n,m]:=by
 unfold aQ;refine⟨⟨g,0,_,_,_,_,_,_,rfl,h,s⟩,?_⟩;unfold aQ;exact⟨⟨g,0,_,_,_,_,_,_,rfl,q,r⟩,by unfold aQ;trivial⟩
theorem aO6 (A:cW)(HA:G (oY A))(hA:∀e,A e []=[])(w:H)(HT:G (aA w)):Y 47 #[] w (dV true w):=by
 go_enter Tryz.func47,Tryz.ntmps47;go_wp2_with fail;refine(aAj sXS w).mono ?_;rintro e W1 ⟨⟨v1,rfl,rfl,N⟩,F⟩;have ga:=Z N;have cd:=Z F;clear N F;go_wp2_with fail;refine(aAj sYS W1).mono ?_;rintro e i ⟨⟨v2,rfl,rfl,n2⟩,B2⟩;have gs:=Z n2;have bj:=Z B2;clear n2 B2;go_wp2_with fail;obtain⟨W3,al⟩:=ex (i.alloc (.cells #[.int .i64 2,.int .i64 0,.string ⟨#[]⟩,.slice none 0 0,.string sYS,.slice none 0 0] 45));have a8:Below i.heap.size i W3:=by{rw[al];exact(am _ _).alloc aH _};have d2:aQ W3 (some ⟨i.heap.size,0,none⟩) 0 [bG sYS]:=jW (by rw[al];exact fE i _ _ _ _ _ _) (gs.o.below a8 aH);rw[<-al];have fs:=Z d2;have em:=Z (cd.o.trans ((bj.o.trans (a8.mono bj.o.size)).mono cd.o.size));have gm:=Z ((ga.o.below bj.o aH).below a8 aH);clear a8 d2 al;refine(qZ lP [bG sYS] _ 1 W3 (by simp) fs).mono ?_;rintro e j ⟨⟨v4,rfl,rfl,n4⟩,l⟩;have gt:=Z n4;have ep:=cM em l;have gr:=Z (gm.o.below l aH);clear n4 l;go_wp2_with fail;obtain⟨W5,an⟩:=ex (j.alloc (.cells #[.int .i64 2,.int .i64 0,.string ⟨#[]⟩,.slice none 0 0,.string sXS,.slice none 0 0,.int .i64 1,.int .i64 0,.string lP,.slice none 0 0,.string ⟨#[]⟩,.slice (some ⟨i.heap.size,0,none⟩) 1 1] 45));have a9:Below j.heap.size j W5:=by{rw[an];exact(am _ _).alloc aH _};have d3:aQ W5 (some ⟨j.heap.size,0,none⟩) 0 [bG sXS,elN lP [bG sYS]]:=by{obtain⟨s1,R⟩:=zN j (.int .i64 2) (.int .i64 0) (.string ⟨#[]⟩) (.slice none 0 0) (.string sXS) (.slice none 0 0) (.int .i64 1) (.int .i64 0) (.string lP) (.slice none 0 0) (.string ⟨#[]⟩) (.slice (some ⟨i.heap.size,0,none⟩) 1 1);rw[<-an]at s1 R;exact aFd s1 (gr.o.below a9 aH) R (gt.o.below a9 aH)};rw[<-an];have ft:=Z d3;have eq:=cM ep a9;clear a9 d3 an;refine(qZ vJ [bG sXS,elN lP [bG sYS]] _ 2 W5 (by simp) ft).mono ?_;rintro e W6 ⟨⟨v6,rfl,rfl,n6⟩,B6⟩;have g0:=Z n6;have er:=cM eq B6;clear n6 B6;go_wp2_with fail;refine(aAj sZS W6).mono ?_;rintro e y ⟨⟨v7,rfl,rfl,P⟩,m⟩;have g2:=Z P;have g1:=Z (g0.o.below m aH);have es:=cM er m;clear P m;go_wp2_with fail;obtain⟨W8,ao⟩:=ex (y.alloc (.cells #[.int .i64 1,.int .i64 0,.string vJ,.slice none 0 0,.string ⟨#[]⟩,.slice (some ⟨j.heap.size,0,none⟩) 2 2,.int .i64 2,.int .i64 0,.string ⟨#[]⟩,.slice none 0 0,.string sZS,.slice none 0 0] 45));have g:Below y.heap.size y W8:=by{rw[ao];exact(am _ _).alloc aH _};have M:aQ W8 (some ⟨y.heap.size,0,none⟩) 0 [elN vJ [bG sXS,elN lP [bG sYS]],bG sZS]:=by{obtain⟨s1,R⟩:=zN y (.int .i64 1) (.int .i64 0) (.string vJ) (.slice none 0 0) (.string ⟨#[]⟩) (.slice (some ⟨j.heap.size,0,none⟩) 2 2) (.int .i64 2) (.int .i64 0) (.string ⟨#[]⟩) (.slice none 0 0) (.string sZS) (.slice none 0 0);rw[<-ao]at s1 R;exact aFd s1 (g1.o.below g aH) R (g2.o.below g aH)};rw[<-ao];have fx:=Z M;have et:=cM es g;clear g M ao;refine(qZ pV [elN vJ [bG sXS,elN lP [bG sYS]],bG sZS] _ 2 W8 (by simp) fx).mono ?_;rintro e z ⟨⟨v9,rfl,rfl,Q⟩,J⟩;have g3:=Z Q;have ev:=cM et J;clear Q J;go_wp2_with fail;obtain⟨W10,X⟩:=ex (z.alloc (.cells #[.int .i64 1,.int .i64 0,.string pV,.slice none 0 0,.string ⟨#[]⟩,.slice (some ⟨y.heap.size,0,none⟩) 2 2] 45));have bq:Below z.heap.size z W10:=by{rw[X];exact(am _ _).alloc aH _};have dl:aQ W10 (some ⟨z.heap.size,0,none⟩) 0 aEr:=jW (by rw[X];exact fE z _ _ _ _ _ _) (g3.o.below bq aH);rw[<-X];have e8:=Z dl;have ci:=cM ev bq;clear bq dl X;have k:=aAu A HA aEr vI W10 (some ⟨z.heap.size,0,none⟩) 1 (Z (HT.o.below ci.o aH)) (by decide +kernel) e8;rw[aP9 A hA]at k;refine k.mono ?_;clear k;rintro e g5 ⟨ka,kc,rfl,_,dm,dk⟩;have e9:=Z dm;have ec:=cM ci dk;clear dm dk;go_wp2_with fail;refine(aAj sXS g5).mono ?_;rintro e r ⟨⟨hn,rfl,rfl,d5⟩,bd⟩;have gb:=Z d5;have ee:=cM ec bd;have ez:=Z bd;clear d5 bd;go_wp2_with fail;obtain⟨W13,aa⟩:=ex (r.alloc (.cells #[.int .i64 2,.int .i64 0,.string ⟨#[]⟩,.slice none 0 0,.string sXS,.slice none 0 0] 45));have av:Below r.heap.size r W13:=by{rw[aa];exact(am _ _).alloc aH _};have dn:aQ W13 (some ⟨r.heap.size,0,none⟩) 0 [bG sXS]:=jW (by rw[aa];exact fE r _ _ _ _ _ _) (gb.o.below av aH);rw[<-aa];have fb:=Z dn;have ef:=cM ee av;have e0:=cM ez av;clear av dn aa;refine(qZ sBS [bG sXS] _ 1 W13 (by simp) fb).mono ?_;rintro e t ⟨⟨ho,rfl,rfl,d9⟩,be⟩;have gd:=Z d9;have eg:=cM ef be;have e1:=cM e0 be;clear d9 be;go_wp2_with fail;obtain⟨W15,ab⟩:=ex (t.alloc (.cells #[.int .i64 1,.int .i64 0,.string sBS,.slice none 0 0,.string ⟨#[]⟩,.slice (some ⟨r.heap.size,0,none⟩) 1 1] 45));have aw:Below t.heap.size t W15:=by{rw[ab];exact(am _ _).alloc aH _};have dp:aQ W15 (some ⟨t.heap.size,0,none⟩) 0 [elN sBS [bG sXS]]:=jW (by rw[ab];exact fE t _ _ _ _ _ _) (gd.o.below aw aH);rw[<-ab];have fd:=Z dp;have ei:=cM eg aw;have e2:=cM e1 aw;clear aw dp ab;refine(qZ sIS [elN sBS [bG sXS]] _ 1 W15 (by simp) fd).mono ?_;rintro e v ⟨⟨hp,rfl,rfl,ea⟩,bf⟩;have ge:=Z ea;have ej:=cM ei bf;have e3:=cM e2 bf;clear ea bf;go_wp2_with fail;obtain⟨W17,ac⟩:=ex (v.alloc (.cells #[.int .i64 1,.int .i64 0,.string sIS,.slice none 0 0,.string ⟨#[]⟩,.slice (some ⟨t.heap.size,0,none⟩) 1 1] 45));have a6:Below v.heap.size v W17:=by{rw[ac];exact(am _ _).alloc aH _};have dr:aQ W17 (some ⟨v.heap.size,0,none⟩) 0 [elN sIS [elN sBS [bG sXS]]]:=jW (by rw[ac];exact fE v _ _ _ _ _ _) (ge.o.below a6 aH);rw[<-ac];have fn:=Z dr;have ek:=cM ej a6;have e4:=cM e3 a6;clear a6 dr ac;refine(qZ sBS [elN sIS [elN sBS [bG sXS]]] _ 1 W17 (by simp) fn).mono ?_;rintro e x ⟨⟨hq,rfl,rfl,eb⟩,bh⟩;have gh:=Z eb;have el:=cM ek bh;have e5:=cM e4 bh;clear eb bh;go_wp2_with fail;obtain⟨W19,ad⟩:=ex (x.alloc (.cells #[.int .i64 1,.int .i64 0,.string sBS,.slice none 0 0,.string ⟨#[]⟩,.slice (some ⟨v.heap.size,0,none⟩) 1 1] 45));have a7:Below x.heap.size x W19:=by{rw[ad];exact(am _ _).alloc aH _};have ds:aQ W19 (some ⟨x.heap.size,0,none⟩) 0 aEs:=jW (by rw[ad];exact fE x _ _ _ _ _ _) (gh.o.below a7 aH);rw[<-ad];have fp:=Z ds;have cj:=cM el a7;have e6:=cM e5 a7;clear a7 ds ad;have k:=aAu A HA aEs vI W19 (some ⟨x.heap.size,0,none⟩) 1 (Z (HT.o.below cj.o aH)) (by decide +kernel) fp;rw[aQa A hA]at k;refine k.mono ?_;clear k;rintro e f ⟨kb,kd,rfl,_,d1,bx⟩;have fr:=Z d1;have ck:=cM cj bx;have e7:=cM e6 bx;clear d1 bx;rw[show aAW.length=1 from rfl,show aAX.length=1 from rfl];go_wp2_with fail;obtain⟨B,D,a0,a1,a2,a3,a4,a5,rfl,sa,na⟩:=(e9.o.kids.below e7.o aH).get aAW 0 0 (by decide);obtain⟨C,E,b0,b1,b2,b3,b4,b5,rfl,sb,nb⟩:=fr.o.kids.get aAX 0 0 (by decide);simp only[iy,gw]at sa sb;have n:=Z sa;have p:=Z sb;have NA:=Z (show bJ f (elN pV [bG ⟨#[120,122]⟩]) _ from na);have NB:=Z (show bJ f (elN sBS [elN sIS [bG sXS]]) _ from nb);clear sa sb na nb;obtain⟨S,c⟩:∃S:H->Prop,∀u,S u↔Below f.heap.size f u:=⟨_,fun _=>ia⟩;have ha:∀s:WIn S,s.w.cell? ⟨B,D,none⟩=some a0:=fun s=>(n.o.below ((c _).1 s.h) aH).x0;have hb:∀s:WIn S,s.w.cell? ⟨B,D+1,none⟩=some a1:=fun s=>(n.o.below ((c _).1 s.h) aH).x1;have hc:∀s:WIn S,s.w.cell? ⟨B,D+2,none⟩=some a2:=fun s=>(n.o.below ((c _).1 s.h) aH).x2;have hd:∀s:WIn S,s.w.cell? ⟨B,D+3,none⟩=some a3:=fun s=>(n.o.below ((c _).1 s.h) aH).x3;have he:∀s:WIn S,s.w.cell? ⟨B,D+4,none⟩=some a4:=fun s=>(n.o.below ((c _).1 s.h) aH).x4;have hf:∀s:WIn S,s.w.cell? ⟨B,D+5,none⟩=some a5:=fun s=>(n.o.below ((c _).1 s.h) aH).x5;have hg:∀s:WIn S,s.w.cell? ⟨C,E,none⟩=some b0:=fun s=>(p.o.below ((c _).1 s.h) aH).x0;have hh:∀s:WIn S,s.w.cell? ⟨C,E+1,none⟩=some b1:=fun s=>(p.o.below ((c _).1 s.h) aH).x1;have hi:∀s:WIn S,s.w.cell? ⟨C,E+2,none⟩=some b2:=fun s=>(p.o.below ((c _).1 s.h) aH).x2;have hj:∀s:WIn S,s.w.cell? ⟨C,E+3,none⟩=some b3:=fun s=>(p.o.below ((c _).1 s.h) aH).x3;have hk:∀s:WIn S,s.w.cell? ⟨C,E+4,none⟩=some b4:=fun s=>(p.o.below ((c _).1 s.h) aH).x4;have hl:∀s:WIn S,s.w.cell? ⟨C,E+5,none⟩=some b5:=fun s=>(p.o.below ((c _).1 s.h) aH).x5;haveI:Nonempty (WIn S):=⟨⟨f,(c _).2 (am _ _)⟩⟩;have d:=Z c;clear c;refine iW 28 [([0,1,2,3,4,5,6],7),([],8),([],9),([],10),([11,12,13,14,15,16,17,18,19,20],21),([],22),([],23),([],24),([],25),([],26)] [27] S (by kernel_rfl) (by kernel_rfl) ((d.o _).2 (below_drewNm f 1)) ?_;have ey:=Z (below_drewNm f 1);generalize f.drewN 1=Wd at *;refine cP (fun b a=>?_);simp only[pick,pickZ,pickS,pickG];repeat (go_big_quiet_step (fail))
 refine aq (a _ (fun Q1 c2=>?_));clear a b;simp only[pick,pickZ,pickS,pickG];go_wp2_with fail;refine(aAj ⟨#[120,122]⟩ Wd).mono ?_;rintro e K ⟨⟨v1,rfl,rfl,N⟩,F⟩;have f2:=Z N;have cm:=cM ey F;clear N F;go_wp2_with fail;refine c2 _ _ ((d.o _).2 cm.o) (cP (fun b a=>aq (a _ (fun Q2 c4=>?_))));clear a b c2 Q1;simp only[pick,pickZ,pickS,pickG];go_wp2_with fail;obtain⟨V2,T⟩:=ex (K.alloc (.cells #[.int .i64 2,.int .i64 0,.string ⟨#[]⟩,.slice none 0 0,.string ⟨#[120,122]⟩,.slice none 0 0] 45));have bs:Below K.heap.size K V2:=by{rw[T];exact(am _ _).alloc aH _};have d0:aQ V2 (some ⟨K.heap.size,0,none⟩) 0 [bG ⟨#[120,122]⟩]:=jW (by rw[T];exact fE K _ _ _ _ _ _) (f2.o.below bs aH);rw[<-T];have fz:=Z d0;have cp:=cM cm bs;clear bs d0 T;go_wp2_with fail;refine c4 _ _ ((d.o _).2 cp.o) (cP (fun b a=>aq (a _ (fun Q3 c5=>?_))));clear a b c4 Q2;simp only[pick,pickZ,pickS,pickG];go_wp2_with fail;refine(qZ pV [bG ⟨#[120,122]⟩] _ 1 V2 (by simp) fz).mono ?_;rintro e V3 ⟨⟨v3,rfl,rfl,n3⟩,B3⟩;have f3:=Z n3;have bk:=cM cp B3;clear n3 B3;go_wp2_with fail;refine c5 _ _ ((d.o _).2 bk.o) (cP (fun b a=>aq (a _ (fun Q4 c6=>?_))));clear a b c5 Q3;simp only[pick,pickZ,pickS,pickG];go_wp2_with fail;refine(zF (elN pV [bG ⟨#[120,122]⟩]).sz (elN pV [bG ⟨#[120,122]⟩]) aH _ _ V3 (Z (aEq.1 _ (by decide +kernel))) (Z (NA.o.below bk.o aH)) f3).mono ?_;unfold dV;rintro e V4 ⟨rfl,l⟩;have cs:=cM bk l;clear l;go_wp2_with fail;refine c6 _ _ ((d.o _).2 cs.o) (cP (fun b a=>?_));clear c6 Q4;simp only[pick,pickZ,pickS,pickG];repeat (go_big_quiet_step (fail))
 refine aq (a _ (fun Q5 c7=>?_));clear a b;simp only[pick,pickZ,pickS,pickG];go_wp2_with fail;refine(aAj sXS V4).mono ?_;rintro e q ⟨⟨v5,rfl,rfl,n5⟩,B5⟩;have f4:=Z n5;have cw:=cM cs B5;clear n5 B5;go_wp2_with fail;refine c7 _ _ ((d.o _).2 cw.o) (cP (fun b a=>aq (a _ (fun Q6 c8=>?_))));clear a b c7 Q5;simp only[pick,pickZ,pickS,pickG];go_wp2_with fail;obtain⟨V6,V⟩:=ex (q.alloc (.cells #[.int .i64 2,.int .i64 0,.string ⟨#[]⟩,.slice none 0 0,.string sXS,.slice none 0 0] 45));have ca:Below q.heap.size q V6:=by{rw[V];exact(am _ _).alloc aH _};have d4:aQ V6 (some ⟨q.heap.size,0,none⟩) 0 [bG sXS]:=jW (by rw[V];exact fE q _ _ _ _ _ _) (f4.o.below ca aH);rw[<-V];have f0:=Z d4;have cz:=cM cw ca;clear ca d4 V;go_wp2_with fail;refine c8 _ _ ((d.o _).2 cz.o) (cP (fun b a=>aq (a _ (fun Q7 c9=>?_))));clear a b c8 Q6;simp only[pick,pickZ,pickS,pickG];go_wp2_with fail;refine(qZ sIS [bG sXS] _ 1 V6 (by simp) f0).mono ?_;rintro e L ⟨⟨v7,rfl,rfl,P⟩,m⟩;have f5:=Z P;have c0:=cM cz m;clear P m;go_wp2_with fail;refine c9 _ _ ((d.o _).2 c0.o) (cP (fun b a=>aq (a _ (fun Q8 dd=>?_))));clear a b c9 Q7;simp only[pick,pickZ,pickS,pickG];go_wp2_with fail;obtain⟨V8,W⟩:=ex (L.alloc (.cells #[.int .i64 1,.int .i64 0,.string sIS,.slice none 0 0,.string ⟨#[]⟩,.slice (some ⟨q.heap.size,0,none⟩) 1 1] 45));have g:Below L.heap.size L V8:=by{rw[W];exact(am _ _).alloc aH _};have M:aQ V8 (some ⟨L.heap.size,0,none⟩) 0 [elN sIS [bG sXS]]:=jW (by rw[W];exact fE L _ _ _ _ _ _) (f5.o.below g aH);rw[<-W];have f1:=Z M;have c1:=cM c0 g;clear g M W;go_wp2_with fail;refine dd _ _ ((d.o _).2 c1.o) (cP (fun b a=>aq (a _ (fun Q9 dg=>?_))));clear a b dd Q8;simp only[pick,pickZ,pickS,pickG];go_wp2_with fail;refine(qZ sBS [elN sIS [bG sXS]] _ 1 V8 (by simp) f1).mono ?_;rintro e V9 ⟨⟨v9,rfl,rfl,Q⟩,J⟩;have f6:=Z Q;have bl:=cM c1 J;clear Q J;go_wp2_with fail;refine dg _ _ ((d.o _).2 bl.o) (cP (fun b a=>aq (a _ (fun g4 c3=>?_))));clear a b dg Q9;simp only[pick,pickZ,pickS,pickG];go_wp2_with fail;refine(zF (elN sBS [elN sIS [bG sXS]]).sz (elN sBS [elN sIS [bG sXS]]) aH _ _ V9 (Z (aEq.1 _ (by decide +kernel))) (Z (NB.o.below bl.o aH)) f6).mono ?_;unfold dV;rintro e g6 ⟨rfl,cb⟩;have co:=cM bl cb;clear cb;go_wp2_with fail;refine c3 _ _ ((d.o _).2 co.o) (jP (fun b a=>?_));simp only[pick,pickZ,pickS,pickG];repeat (go_big_quiet_step (fail))
 refine aq (a _ (fun Qz hm=>?_));clear a b;clear c3 g4;simp only[fo,fq];go_wp2;go_ret;exact⟨rfl,ck.o.trans (co.o.mono ck.o.size)⟩
