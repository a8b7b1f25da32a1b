/-
What the joined proofs of CleanTexts, CleanUnwraps and CleanParts share: how large what comes out may be.
-/
import Derived.Test.YtcfgbdhpcboikaaGreatDoorRefPD
import Derived.Test.YtcfgbdhpcboikaaGreatDoorSameN
namespace Go.Proofs.YtcfgbdhpcboikaaGreatDoor
set_option maxHeartbeats 8000000
set_option maxRecDepth 100000
open Go.RowKit
theorem gE {n:Nat}:n<=n:=ah n
theorem aND {a:kV}{A:cW}(b:AOk a A)(e:I):A e []=[]:=by
 obtain⟨c,_⟩:=b e [];exact List.Perm.eq_nil (show(A e []).Perm []from c)
open Go.RowKit
theorem aDS (pn:I)(l R:List Nd)(a:Option Addr)(c:Nat)(w:H)(aa:G (SmK R/\aB R<=1000000000))(y:G (aQ w a 0 l))
  (L:G (∀W,Below w.heap.size w W->Y 47 #[] W (dV true W)))
  (K:G (∀W a c,Below w.heap.size w W->G (aQ W a 0 l)->Y 53 #[.slice a l.length c] W (fV W l)))
  (T:G (∀W a c,Below w.heap.size w W->G (aQ W a 0 l)->Y 54 #[.string pn,.slice a l.length c] W (fV W R)))
  (al:G (∀W a c,Below w.heap.size w W->G (aQ W a 0 l)->Y 50 #[.string pn,.slice a l.length c] W (fV W R)))
  (V:G (∀W a h c C,G (aQ W a 0 l)->G (aQ W h 0 l)->Y 52 #[.slice a l.length c,.slice h l.length C] W (dV true W)))
  (an:G (∀W a h c C,G (aQ W a 0 R)->G (aQ W h 0 R)->Y 52 #[.slice a R.length c,.slice h R.length C] W (dV true W))) :
  Y 15 #[.string pn,.slice a l.length c] w (dV true w):=by
 go_enter Tryz.func15,Tryz.ntmps15;go_wp2_with fail;refine(L.o w (am _ _)).mono ?_;unfold dV;rintro e W1 ⟨rfl,p⟩;have j:=Z p;have z:=Z (y.o.below p gE);clear p L;go_wp2_with fail;refine(K.o W1 a c j.o z).mono ?_;rintro e W2 ⟨n,D,rfl,_,ho,q⟩;have m:=Z (j.o.trans (q.mono j.o.size));have N:=Z ho.kids;have M:=Z (z.o.below q gE);clear q ho K z j;go_wp2_with fail;refine(T.o W2 a c m.o M).mono ?_;rintro e W3 ⟨aw,cw,rfl,_,hw,r⟩;have J:=Z (m.o.trans (r.mono m.o.size));have P:=Z (N.o.below r gE);have S:=Z hw.kids;clear r hw T N M m;go_wp2_with fail;go_loopw [8] (fun i wx=>∃k:Nat,i=.int .i64 k/\G (k<=2/\Below w.heap.size w wx/\aQ wx n 0 l/\aQ wx aw 0 R)) (fun i _=>2-(intOf i).toNat);case atStart=>exact⟨0,rfl,Z ⟨bb _,J.o,P.o,S.o⟩⟩
 case round =>obtain⟨k,rfl,b⟩:=hrel;have hk:=b.o.1;clear J P S;rcases ak k 2 with ao|av;{have ek:decide ((k:Int)<2)=true:=bt (by omega);go_wp2_with fail;refine(al.o wr n D b.o.2.1 (Z b.o.2.2.1)).mono ?_;rintro e W4 ⟨B,c9,rfl,_,h9,s⟩;have v:=Z s;have u:=Z h9;have ac:=Z (b.o.2.2.2.below s gE);clear s h9;go_wp2_with fail;refine(an.o W4 B aw c9 cw (Z u.o.kids) ac).mono ?_;unfold dV;rintro e A ⟨rfl,f⟩;have d:=Z (v.o.trans (f.mono v.o.size));have F:=Z (u.o.keep (D':=fun g=>wr.heap.size<=g) (w':=A) (fun g E hd=>⟨f.block g E,hd⟩));have ab:=Z (b.o.2.1.trans (d.o.mono b.o.2.1.size));have Q:=Z (b.o.2.2.1.below d.o gE);clear f v u ac;go_wp2_with fail;refine(V.o A n a D c Q (Z (y.o.below ab.o gE))).mono ?_;unfold dV;rintro e W6 ⟨rfl,t⟩;have ad:=Z (d.o.trans (t.mono d.o.size));have X:=Z (aKP wr.heap.size (aB R) B R.length c9 W6 (Z (aOp (aB R) R B gE aa.o.2 aa.o.1 (F.o.keep (D':=fun g=>wr.heap.size<=g) (w':=W6) (fun g E hd=>⟨t.block g E,hd⟩)))));clear t Q d F ab;go_wp2_with fail;refine X.o.mono ?_;rintro e W7 ⟨rfl,hs⟩;have x:=Z (ad.o.trans hs.bel);clear hs X;go_wp2;go_roundw;(case rel=>exact⟨k+1,by go_num,Z ⟨ao,b.o.2.1.trans (x.o.mono b.o.2.1.size),b.o.2.2.1.below x.o gE,b.o.2.2.2.below x.o gE⟩⟩);case measure=>simp[intOf];omega};{have ek:decide ((k:Int)<2)=false:=bo (by omega);go_wp2_with fail;refine(V.o wr n a D c (Z b.o.2.2.1) (Z (y.o.below b.o.2.1 gE))).mono ?_;unfold dV;rintro e A ⟨rfl,f⟩;have d:=Z (b.o.2.1.trans (f.mono b.o.2.1.size));clear f;go_wp2;go_ret;exact⟨rfl,d.o⟩}
open Go.RowKit
theorem aQr (n:Nat)(f:n<=1000000000):∃a:Array Value,a.size=(n+1)*6/\∀w:H,(Instr.makeSlice 43 (.int .i64 0) (.int .i64 ((n:Int)+1))).run Tryz.prog w=.ok (.slice (some ⟨w.heap.size,0,none⟩) 0 (n+1)) (w.alloc (.cells a 45)):=by
 obtain⟨e,hi,b,c,d⟩:=cx Tryz.info45;refine⟨madeCells (Value.cells (Value.agg #[.int .i64 0,.int .i64 0,.string ⟨#[]⟩,.slice none 0 0,.string ⟨#[]⟩,.slice none 0 0])) ((n+1)*6),size_madeCells _ ((n+1)*6),fun w=>?_⟩;have:=run_make (P:=Tryz.prog) w 43 45 e _ Tryz.underlying43 hi b .i64 .i64 0 ((n:Int)+1) (by omega) (by omega) (by rw[d];omega) (by omega);rw[c,show((n:Int)+1).toNat=n+1 by omega]at this;exact this
theorem aI3 (l:List AT)(w:H)(a:Option Addr)(c:Nat)(h:dZ w (.slice a l.length c) l):∀j u,(bM l)[j]?=some u->∃g b,a=some ⟨g,b,none⟩/\w.cell? ⟨g,b+j,none⟩=some u:=by
 intro j u i;have s:j<l.length*2:=by{rw[<-fN];exact(fc.1 i).1};obtain⟨q,r,e,o⟩:=h;simp only[ce,fk]at e;obtain⟨rfl,rfl⟩:=e;have hq:j / 2<l.length:=by{omega};obtain⟨g,b,n,k,m⟩:=o (j / 2) hq;obtain⟨d,f⟩:=sL l (j / 2) hq;refine⟨g,b,n,?_⟩;rcases o9 j with p|p;{have:j / 2*2=j:=by{omega};rw[this]at d k;rw[i]at d;cases d;exact k};{have:j / 2*2+1=j:=by{omega};rw[this]at f;rw[jg,this]at m;rw[i]at f;cases f;exact m}
theorem aI5 (l:List AT):(bM l).all (fun u=>u.oneCell')=true:=by
 rw[da];intro u a;unfold bM at a;obtain⟨x,_,hx⟩:=List.mem_flatMap.1 a;simp only[jV,b9,iu,gi]at hx;rcases hx with rfl|rfl<;>rfl
theorem aOz {D:Nat->Prop}{w:H}{n:Nd}{b a:Option Addr}{d c:Nat}(g:n.kids.length<=140737488355328)(e:eN D w b n.attrs)(f:dD D w a 0 n.kids) :
  bR D w n (.agg #[.int .i64 n.kind,.int .i64 n.space,.string n.name,.slice b n.attrs.length d,.string n.text,.slice a n.kids.length c]):=by
 cases n;unfold bR;exact⟨b,d,a,c,rfl,g,e,f⟩
theorem aJK {l:List Nd}{k:Nat}(h:k<l.length):aB l[k].kids<aB l:=by
 have a:=(iT l).1 l[k] (dz h);have b:=jK l[k];omega
theorem aHF:∀(m:Nat) (l:List Nd),aB l<=m->∀(a:Option Addr) (c:Nat) (w:H),aB l<=1000000000->G (SmK l)->G (aQ w a 0 l)->Y 53 #[.slice a l.length c] w (fV w l):=by
 intro m;induction m using Nat.strongRecOn with
 | ind m ih =>
  intro l hm a c w J HS HK;have co:=Z ih;have HM:=Z (show aB l<=m from hm);have cj:=Z (show aB l<=1000000000 from J);have dp:l.length<=1000000000:=by have:=(iT l).2;omega
  obtain⟨d3,dm,d1,ds,c7⟩:=cx Tryz.info39;obtain⟨d4,dn,d2,d0,c8⟩:=cx Tryz.info45;obtain⟨Z',hZ,dr⟩:=aQr l.length dp;have a1:G (Pv w.heap.size (.slice (some ⟨w.heap.size,0,none⟩) 0 (l.length+1)) [] w (w.alloc (.cells Z' 45))) :=
   ⟨[],⟨qy w Z' (l.length+1) gE (by unfold maxLen;omega) hZ,(am _ w).alloc gE _,by simp⟩,cS.nil _ _⟩
  clear ih hm J hZ;go_enter Tryz.func53,Tryz.ntmps53
  go_wp2_with fail
  obtain⟨W1,be⟩:=ex (w.alloc (.cells Z' 45))
  rw[<-be]at a1 ⊢
  clear be dr;go_loopw [3,4] (fun v i wx=>∃k:Nat,i=.int .i64 k/\G (k<=l.length/\Pv w.heap.size v (l.take k) w wx)) (fun _ i _=>l.length-(intOf i).toNat)
  case atStart=>exact⟨0,rfl,Z ⟨bb _,a1.o⟩⟩
  case round =>
   obtain⟨v,rfl⟩:=ex u3
   obtain⟨k,rfl,s⟩:=hrel;have hk:=s.o.1;rcases ak k l.length with L|dl
   ·obtain⟨g,eg,d5,d9,ea,c3,eb,ec,rfl,h6,hn⟩:=HK.o.get l 0 k L;rw[bw]at h6
    have aa:=s.o.2.bel;obtain⟨x0,x1,x2,x3,x4,x5⟩:=h6.below aa gE;obtain⟨C,E,D,F,rfl,rfl,rfl,rfl,rfl,rfl⟩:=hn.cells;have aw:=Z (hn.below aa gE);have a5:=Z (SmK.get l k L HS.o);have c4:=Z (show l.take (k+1)=l.take k++[l[k]]from by rw[fl L]);have av:=Z (aJK L);have a6:=Z (show(l.take k).length=k by rw[bu];omega);clear aa h6 hn;generalize l[k]=q at *
    go_upto_region 6 with fail
    clear x0 x1 x2 x3 x4 x5;obtain⟨_,ac⟩:=aFV wr (.int .i64 q.kind) (.int .i64 q.space) (.string q.name) (.slice C q.attrs.length E) (.string q.text) (.slice D q.kids.length F);have M:=cc wr (.cells #[.int .i64 q.kind,.int .i64 q.space,.string q.name,.slice C q.attrs.length E,.string q.text,.slice D q.kids.length F] 45);obtain⟨j,ab⟩:=ex (wr.alloc (.cells #[.int .i64 q.kind,.int .i64 q.space,.string q.name,.slice C q.attrs.length E,.string q.text,.slice D q.kids.length F] 45))
    have al:wr.heap.size<j.heap.size:=by rw[ab];simp
    rw[<-ab]at M ac ⊢
    have a0:=Z (show ∀g,v.ownBlock=some g->g<wr.heap.size from fun g e=>s.o.2.hi _ e);have a7:=Z (show w.heap.size<=wr.heap.size from s.o.2.bel.size);have a2:=Z (fun(W:H) (J:Below wr.heap.size wr W)=>s.o.2.keep J);have X:=Z (fun(W:H) (J:Below wr.heap.size wr W)=>(aw.o.below J gE).partsV);have V:=Z ac;clear ab aw ac s;obtain⟨b,bs⟩:=ex wr.heap.size
    rw[<-bs]at M al a0 a7 a2 X V ⊢
    clear bs;have c0:=Z M;have A:=Z al;have cw:=Z (aF.empty (B:=j.heap.size) 39 2 (am _ j) gE);have ee:q.attrs.length<=1048576:=a5.o.get.2.2.1;have ca:=Z (X.o j V.o);have b5:=Z (aI3 q.attrs (j.alloc (.cells #[] 39)) C E (by
     obtain⟨a',c',e,hc⟩:=ca.o.1.below ((am j.heap.size j).alloc gE (.cells #[] 39)) gE;exact⟨a',c',e,hc⟩))
    obtain⟨x0,x1,x2,x3,x4,x5⟩:=(mG M).zero;have c5:=Z x3;clear x0 x1 x2 x4 x5 M al x3;have x3:=((am j.heap.size j).alloc gE (.cells #[] 39)).cell (p:=⟨b,3,none⟩) A.o;rw[c5.o]at x3
    go_wp2_with (at_builtin;refine qR (by rfl) _ _ 33 (by rfl) 39 d3 _ 2 32 Tryz.underlying33 dm d1 ds c7 rfl (by decide) _ 0 [] rfl cw.o C q.attrs.length E (bM q.attrs) rfl (fN _) b5.o (aI5 _) (by omega) (by omega) ?_)
    intro v' d P _;obtain⟨h,n,rfl,_⟩:=P.o.slice;have Q:=P.o.bel;have S:=(Q.block b A.o).trans c0.o;have cb:=Z (V.o.trans (Q.mono (b6 A.o)));have c2:=Z Q.size;have c9:d.cell? ⟨b,3,none⟩=some (.slice C q.attrs.length E):=by rw[au _ _ 3 _ 45 (0,0) S];rfl
    have dg:d.frozen? ⟨b,3,none⟩=false:=by simp[World.frozen?,S]
    have a3:=Z S;have b2:=Z P.o.attrsD;clear S P x3 Q;go_upto_region 7 with fail
    have ao:(d.setCell ⟨b,3,none⟩ (.slice h q.attrs.length n)).heap[b]?=some (.cells #[.int .i64 q.kind,.int .i64 q.space,.string q.name,.slice h q.attrs.length n,.string q.text,.slice D q.kids.length F] 45 (0,0)):=by
     rw[kg d b 3 _ 45 (0,0) _ a3.o];exact gn d b _ _ 45 (0,0) a3.o
    have ad:=cb.o.setCell (p:=⟨b,3,none⟩) (ah b) (.slice h q.attrs.length n);have bf:eN (fun g=>b<g) (d.setCell ⟨b,3,none⟩ (.slice h q.attrs.length n)) h q.attrs:=b2.o.keep (fun g u hd=>⟨f8 d ⟨b,3,none⟩ g _ (by have t:=A.o;have h2:=hd.1;show g≠b;omega),by have t:=A.o;have h2:=hd.1;omega⟩);have b0:(d.setCell ⟨b,3,none⟩ (.slice h q.attrs.length n)).heap.size=d.heap.size:=oW _ _ _;clear c9 dg;generalize d.setCell ⟨b,3,none⟩ (.slice h q.attrs.length n)=W4 at *
    have c1:=Z ao;have cd:=Z ad;have b3:=Z bf;have N:G (b<W4.heap.size):=by show _<_;rw[b0];exact dj A.o c2.o
    have bl:=(X.o W4 ad).2;have HC:=Z (co.o (aB q.kids) (by have t:=av.o;have h2:=HM.o;omega) q.kids gE D F W4 (by have t:=av.o;have h2:=cj.o;omega) (Z a5.o.get.2.2.2.2) (Z bl));obtain⟨x0,x1,x2,x3,x4,x5⟩:=(mG ao).zero;clear ao ad bf b0 bl;go_wp2_with fail
    refine HC.o.mono ?_;rintro e f ⟨x,z,rfl,bk,bj,R⟩;have T:=(R.block b N.o).trans c1.o;have ci:=Z (cd.o.trans (R.mono (b6 N.o)));have cs:=Z bk;have cp:=Z bj;have b4:=Z (b3.o.keep (D':=fun g=>b<g) (w':=f) (fun g u hd=>⟨R.block g u,hd⟩));have dd:f.cell? ⟨b,5,none⟩=some (.slice D q.kids.length F):=by rw[au _ _ 5 _ 45 (0,0) T];rfl
    have dk:f.frozen? ⟨b,5,none⟩=false:=by simp[World.frozen?,T]
    have a4:=Z T;clear bk bj R T x0 x1 x2 x3 x4 x5 HC;go_upto_region 8 with fail
    have bx:(f.setCell ⟨b,5,none⟩ (.slice x q.kids.length z)).heap[b]?=some (.cells #[.int .i64 q.kind,.int .i64 q.space,.string q.name,.slice h q.attrs.length n,.string q.text,.slice x q.kids.length z] 45 (0,0)):=by
     rw[kg f b 5 _ 45 (0,0) _ a4.o];exact gn f b _ _ 45 (0,0) a4.o
    have bh:=ci.o.setCell (p:=⟨b,5,none⟩) (ah b) (.slice x q.kids.length z);have b1:bR (fun g=>b<g) (f.setCell ⟨b,5,none⟩ (.slice x q.kids.length z)) q (.agg #[.int .i64 q.kind,.int .i64 q.space,.string q.name,.slice h q.attrs.length n,.string q.text,.slice x q.kids.length z]) :=
     aOz cs.o (b4.o.keep (fun g u hd=>⟨f8 f ⟨b,5,none⟩ g _ (by show g≠b;omega),hd⟩)) (cp.o.keep (fun g u hd=>⟨f8 f ⟨b,5,none⟩ g _ (by have t:=N.o;show g≠b;omega),by have t:=N.o;omega⟩))
    clear dd dk;generalize f.setCell ⟨b,5,none⟩ (.slice x q.kids.length z)=W6 at *
    obtain⟨xs,r,K⟩:=(a2.o W6 bh).row;have cz:=Z r;have ck:=Z K;have c6:=Z (b1.keep (D':=fun g=>w.heap.size<=g/\v.ownBlock≠some g) (w':=W6) (fun g u hd=>⟨rfl,by have t:=a7.o;omega,fun e=>by have t:=a0.o g e;omega⟩));obtain⟨x0,x1,x2,x3,x4,x5⟩:=(mG bx).zero;have ef:=a6.o;clear r K b1 bx bh;go_wp2_with (at_builtin;refine aU (by rfl) _ _ 43 (by rfl) 45 d4 _ 6 96 Tryz.underlying43 dn d2 d0 c8 rfl (by decide) _ _ _ rfl cz.o #[.int .i64 q.kind,.int .i64 q.space,.string q.name,.slice h q.attrs.length n,.string q.text,.slice x q.kids.length z] rfl rfl rfl rfl (by omega) (by omega) ?_)
    intro v' w' bd a9;have an:=(Pv.push ck.o c6.o _ (bd.o.cast (by have:=a6.o;omega) rfl) a9.o).1;rw[<-c4.o]at an
    have HF:=Z an;clear bd a9 an x0 x1 x2 x3 x4 x5;go_wp2
    go_roundw
    case rel=>exact⟨k+1,by go_num,Z ⟨L,HF.o⟩⟩
    case measure=>simp[intOf];omega
   ·have hP:=s.o.2;rw[fi dl]at hP
    obtain⟨xs,r,K⟩:=hP.row;obtain⟨a8,c3,rfl,_,bq⟩:=r.slice;have cm:=Z (show fV w l (.returned (.slice a8 l.length c3)) wr from⟨a8,c3,rfl,by omega,pE r.vec K (fun g u=>u.1) (fun y hy=>⟨(bq y hy).1,r.unf y hy⟩),r.bel⟩);clear hP r K bq s;go_wp2
    go_ret;exact cm.o
open Go.RowKit
structure oA (l:List AT) (k q:Nat) (d:Bool):Prop where
 le:q<=k
 lt:k<l.length
 iff:d=true↔∃j,∃hj:j<q,(l[j]'(by omega)).1=l[k].1
theorem oA.start {l:List AT}{k:Nat}(h:k<l.length):oA l k 0 false:=⟨bb _,h,⟨fun x=>(by cases x),fun⟨j,a,_⟩=>absurd a (by omega)⟩⟩
theorem oA.yes {l:List AT}{k q:Nat}{d:Bool}(h:oA l k q d)(hq:q<k)(hd:d=true\/(l[q]'(by have:=h.lt;omega)).1=(l[k]'h.lt).1):oA l k (q+1) true:=by
 refine⟨hq,h.lt,⟨fun _=>?_,fun _=>rfl⟩⟩;rcases hd with hd|hd;{obtain⟨j,hj,e⟩:=h.iff.1 hd;exact⟨j,by omega,e⟩};{exact⟨q,by omega,hd⟩}
theorem oA.no {l:List AT}{k q:Nat}(h:oA l k q false)(hq:q<k)(hd:(l[q]'(by have:=h.lt;omega)).1≠(l[k]'h.lt).1):oA l k (q+1) false:=by
 refine⟨hq,h.lt,⟨fun x=>(by cases x),fun⟨j,b,e⟩=>?_⟩⟩;rcases ak j q with a|a;{exact h.iff.2 ⟨j,a,e⟩};{obtain rfl:j=q:=by{omega};exact absurd e hd}
structure tC (done:List AT) (n:I) (p:Nat):Prop where
 le:p<=done.length
 hi:∀j,∀hj:j<done.length,p<=j->Lib.compareBytes n.data.toList (done[j]).1.data.toList<0
theorem tC.start (done:List AT)(n:I):tC done n done.length:=⟨ah _,fun j a h=>absurd a (by omega)⟩
theorem tC.next {done:List AT}{n:I}{q:Nat}(h:tC done n (q+1))(hq:q<done.length)(a:Lib.compareBytes n.data.toList (done[q]).1.data.toList<0):tC done n q:=by
 refine⟨by omega,fun j b c=>?_⟩;by_cases e:j=q;{subst e;exact a};{exact h.hi j b (by omega)}
def gW (done:List AT)(q:Nat)(x:AT):List AT:=done.take q++x :: done.drop q
theorem aGJ (done:List AT)(x:AT):gW done done.length x=done++[x]:=by unfold gW;rw[kh,qz]
theorem zI (done:List AT)(q:Nat)(x:AT)(h:q<=done.length):(gW done q x).length=done.length+1:=by
 unfold gW;rw[ax,bv,bu,bm];omega
theorem aHR (a b:List AT)(x y:AT):rG (bM (a++x :: b)) (a.length*2) [.string y.1,.string y.2]=bM (a++y :: b):=by
 rw[tL,tL];have e:bM (x :: b)=[.string x.1,.string x.2]++bM b:=rfl;have f:bM (y :: b)=[.string y.1,.string y.2]++bM b:=rfl;rw[e,f,<-fN];generalize bM a=A;generalize bM b=B;apply lg;intro j;rw[aDA _ _ _ _ (by simp)];by_cases d:j<A.length;{rw[ae (by omega),iw d,iw d]};{have c:∀C:List Value,(A++C)[j]?=C[j-A.length]?:=fun C=>jh (by omega);by_cases g:j-A.length<2;{rw[af (by simp;omega),c,iw (by simpa using g)]};{rw[ae (by simp;omega),c,c,jh (by simp;omega),jh (by simp;omega)];rfl}}
theorem aCq (done:List AT)(q:Nat)(x y:AT)(h:q<=done.length):rG (bM (gW done q x)) (q*2) [.string y.1,.string y.2]=bM (gW done q y):=by
 unfold gW;have:=aHR (done.take q) (done.drop q) x y;rw[bu,mz h]at this;exact this
theorem aIp (done:List AT)(q:Nat)(h:q<done.length):gW done (q+1) done[q]=gW done q done[q]:=by
 unfold gW;rw[fl h,dt h,cv];rfl
theorem aKF (done:List AT)(q:Nat)(x:AT)(h:q<done.length):(gW done (q+1) x)[q]?=some done[q]:=by
 unfold gW;rw[iw (by rw[bu];omega),f9,af (by omega),bc h]
theorem aF.attr {B:Nat}{v:Value}{n:Nat}{r:List AT}{d w:H}(h:aF B 39 2 v n (bM r) d w)(j:Nat)(x:AT)(hx:r[j]?=some x) :
  ∃g c,v=.slice (some ⟨g,0,none⟩) n c/\w.cell? ⟨g,j*2,none⟩=some (.string x.1)/\w.cell? ⟨g,j*2+1,none⟩=some (.string x.2):=by
 obtain⟨i,e⟩:=fc.1 hx;obtain⟨a,b⟩:=sL r j i;rw[e]at a b;have k:0<n:=by{have f:=h.own.1;rw[fN]at f;omega};obtain⟨g,c,rfl,_⟩:=h.atRow k;exact⟨g,c,rfl,h.cell _ _ a,h.cell _ _ b⟩
theorem aJE (n d:I):(Lib.compareBytes n.data.toList d.data.toList<0/\Op.bytesLess d.toList n.toList=false/\(d.toList==n.toList)=false) \/
  (¬Lib.compareBytes n.data.toList d.data.toList<0/\Op.bytesLess d.toList n.toList=true/\(d.toList==n.toList)=false)\/(¬Lib.compareBytes n.data.toList d.data.toList<0/\Op.bytesLess d.toList n.toList=false/\(d.toList==n.toList)=true):=by
 rw[less_iff,toList_data,toList_data,lZ n.data.toList d.data.toList];have a:(d.data.toList==n.data.toList)=true->Lib.compareBytes n.data.toList d.data.toList=0:=fun h=>by{rw[cn]at h;rw[h,aG0]};have e:Lib.compareBytes n.data.toList d.data.toList=0->(d.data.toList==n.data.toList)=true:=fun h=>by{rw[cn];exact(tG _ _ h).symm};generalize Lib.compareBytes n.data.toList d.data.toList=c at *;generalize (d.data.toList==n.data.toList)=b at *;rcases ra c 0 with h|h|h;{exact .inl ⟨h,bo (by omega),by cases b;rfl;exact absurd (a rfl) (by omega)⟩};{exact .inr (.inr ⟨by omega,bo (by omega),e h⟩)};{exact .inr (.inl ⟨by omega,bt (by omega),by cases b;rfl;exact absurd (a rfl) (by omega)⟩)}
theorem aH9 (e:I)(V:I->I->Option I)(hV:G (∀n v,n.size<=1048576->v.size<=1048576->∀W,aA W->Y 44 #[.string e,.string n,.string v] W (O (kK (V n v)) W)))
  (l:List AT) (hl:l.length<=1048576) (hs:G (∀x∈l,x.1.size<=1048576/\x.2.size<=1048576)) (b3:Value) (w:H) (T:aA w) (hA:G (dZ w b3 l)):Y 45 #[.string e,b3] w (aDc V l w):=by
 have HT:=Z T;clear T;obtain⟨c9,a6,c8,a9,c3⟩:=cx Tryz.info39;obtain⟨a,c,rfl,_⟩:=hA.o;go_enter Tryz.func45,Tryz.ntmps45;go_wp2;go_loopw [5,6] (fun o i wx=>∃(k:Nat) (done:List AT),i=.int .i64 k/\G (jR V l k done)/\G (aF w.heap.size 39 2 o done.length (bM done) w wx)) (fun _ i _=>l.length-(intOf i).toNat);case atStart=>exact⟨0,[],rfl,Z (jR.start V l),Z (aF.nil w 39 2)⟩
 case round =>
  obtain⟨k,done,rfl,M,hO⟩:=hrel;have hk:=M.o.le;have c5:=M.o.dl;rcases ak k l.length with B|c6
  ·obtain⟨g,A,c',cd,_,_⟩:=hA.o.get k B;simp only[ce,fk]at cd;obtain⟨rfl,rfl⟩:=cd;have HG:G (∀j (L:j<l.length),w.cell? ⟨g,A+j*2,none⟩=some (.string (l[j]).1)/\w.cell? ⟨g,A+j*2+1,none⟩=some (.string (l[j]).2)):=fun j L=>by{obtain⟨g',off',c'',hva',k1,k2⟩:=hA.o.get j L;simp only[ce,d6,ji,fk,fm]at hva';obtain⟨⟨rfl,rfl⟩,_⟩:=hva';exact⟨k1,k2⟩};have P:g<w.heap.size:=dx _ _ (HG.o k B).1;have bl:=Z (M.o.old B);have b2:=Z (fun t=>M.o.yes (t:=t) B);have bj:=Z (M.o.no B);have bx:=Z (hs.o l[k] (dz B));have bq:=Z (oA.start B);have ac:=Z (HG.o k B);obtain⟨wo,ci⟩:=ex wr;have a3:=Z ci;clear ci;go_wp2_with fail;go_loopw [7,8] (fun b j wx=>∃(q:Nat) (d:Bool),b=.bool d/\j=.int .i64 q/\G (oA l k q d)/\G (Below wo.heap.size wo wx)) (fun _ j _=>k-(intOf j).toNat);case atStart=>exact⟨0,false,rfl,rfl,bq,by rw[a3.o];exact Z (am _ _)⟩
   case round =>
    obtain⟨q,d,rfl,rfl,R,C⟩:=hrel;have c7:=R.o.le;rcases ak q k with hq|hq;{have ck:=Z (HG.o q (by omega));have HY:=Z (R.o.yes hq);have hx:G (∀b,((l[q]'(by omega)).1.toList==(l[k]'B).1.toList)=b->oA l k (q+1) (d||b)):=fun b X=>by{cases d with|true=>exact R.o.yes hq (.inl rfl)|false=>{cases b with|true=>{exact R.o.yes hq (.inr (fF (by rw[<-toList_data,<-toList_data];simpa using X)))}|false=>{exact R.o.no hq (fun e=>by rw[e]at X;simp at X)}}};have a4:Below w.heap.size w wr:=hO.o.bel.trans ((a3.o▸C.o).mono hO.o.bel.size);have z1:wr.cell? ⟨g,A+q*2,none⟩=some (.string (l[q]'(by omega)).1):=by{rw[a4.cell (p:=⟨g,A+q*2,none⟩) P];exact ck.o.1};have z2:wr.cell? ⟨g,A+k*2,none⟩=some (.string (l[k]'B).1):=by{rw[a4.cell (p:=⟨g,A+k*2,none⟩) P];exact ac.o.1};clear a4;generalize X:((l[q]'(by omega)).1.toList==(l[k]'B).1.toList)=b at *;have D:=Z (hx.o b rfl);clear hx HY;generalize (l[q]'(by omega)).1=nq at *;generalize (l[k]'B).1=nk at *;cases d with|true=>{go_wp2_with fail;go_quiet (fail);go_wp2;go_roundw;(case rel=>exact⟨q+1,true,rfl,by go_num,D,Z ⟨C.o.os,C.o.tape,C.o.output,C.o.size,C.o.block⟩⟩);case measure=>simp[intOf];omega}|false=>{go_wp2_with fail;go_quiet (fail);go_wp2;go_roundw;(case rel=>exact⟨q+1,b,rfl,by go_num,D,Z ⟨C.o.os,C.o.tape,C.o.output,C.o.size,C.o.block⟩⟩);case measure=>simp[intOf];omega}}
    ·obtain rfl:q=k:=by{omega};have aa:G (aF w.heap.size 39 2 u5 done.length (bM done) w wr):=hO.o.keep (a3.o▸C.o);have aw:=Z R.o.iff;have cs:=Z (HT.o.below aa.o.bel gE);clear c7 hq;obtain⟨S,hS⟩:∃S:H->Prop,∀u,S u↔Below wr.heap.size wr u:=⟨_,fun _=>ia⟩;have a5:g<wr.heap.size:=dj P aa.o.bel.size;have z1:wr.cell? ⟨g,A+q*2,none⟩=some (.string (l[q]'B).1):=by{rw[aa.o.bel.cell (p:=⟨g,A+q*2,none⟩) P];exact ac.o.1};have z2:wr.cell? ⟨g,A+q*2+1,none⟩=some (.string (l[q]'B).2):=by{rw[aa.o.bel.cell (p:=⟨g,A+q*2+1,none⟩) P];exact ac.o.2};have f1:∀s:WIn S,s.w.cell? ⟨g,A+q*2,none⟩=some (.string (l[q]'B).1):=fun s=>by{rw[((hS _).1 s.h).cell (p:=⟨g,A+q*2,none⟩) a5];exact z1};have f2:∀s:WIn S,s.w.cell? ⟨g,A+q*2+1,none⟩=some (.string (l[q]'B).2):=fun s=>by{rw[((hS _).1 s.h).cell (p:=⟨g,A+q*2+1,none⟩) a5];exact z2};haveI:Nonempty (WIn S):=⟨⟨wr,(hS _).2 (am _ _)⟩⟩;have a0:=Z hS;have bf:G (∀w',Below wr.heap.size wr w'->w'.cell? ⟨g,A+q*2,none⟩=some (.string (l[q]'B).1)):=fun w' X=>by{rw[X.cell (p:=⟨g,A+q*2,none⟩) a5];exact z1};have a2:=Z (hV.o _ _ bx.o.1 bx.o.2);obtain⟨nk,a7⟩:∃nk,(l[q]'B).1=nk:=⟨_,rfl⟩;obtain⟨vk,bd⟩:∃vk,(l[q]'B).2=vk:=⟨_,rfl⟩;have ad:=Z a7;have b0:=Z bd;rw[a7]at f1 z1 bf a2;rw[bd]at f2 z2 a2;clear hS z1 z2 a7 bd C;go_wp2_with fail;refine iW 16 [([0,1,2,3,4,5,6,7,8,9,10],11)] [12,13,14,15] S (by kernel_rfl) (by kernel_rfl) ((a0.o _).2 (below_drewNm wr 1)) ?_;refine cP (fun K' E=>?_);simp only[pick,pickZ,pickS,pickG];(repeat (go_big_quiet_step (fail)));refine aq (E _ (fun Q1 av=>?_));clear E K';simp only[pick,pickZ,pickS,pickG];go_wp2_with fail
     have ao:=below_drewNm wr 1;refine(a2.o _ (cs.o.below ao gE)).mono ?_;rintro x W4 ⟨rfl,B4⟩;have an:Below wr.heap.size wr W4:=ao.trans (B4.mono ao.size);have be:=Z an;have Q:=Z (aa.o.keep an);have d1:W4.cell? ⟨g,A+q*2,none⟩=some (.string nk):=bf.o _ an;clear ao B4 an f1 f2;cases hv:V nk vk with
     | none =>
      have D:=Z (bj.o (by rw[ad.o,b0.o];exact hv));unfold kK;clear hv;go_wp2_with fail
      refine av _ _ ((a0.o _).2 be.o) (jP (fun K' E=>?_));simp only[pick,pickZ,pickS,pickG];repeat (go_big_quiet_step (fail))
      refine aq (E _ (fun Q4 c2=>?_));clear av Q1 E K';simp only[fo,fq];cases d;all_goals
       go_wp2
       go_roundw
       case rel=>exact⟨q+1,done,by go_num,D,Q⟩
       case measure=>simp[intOf];omega
     | some t =>
      unfold kK;go_wp2_with fail
      refine av _ _ ((a0.o _).2 be.o) (jP (fun K' E=>?_));simp only[pick,pickZ,pickS,pickG];repeat (go_big_quiet_step (fail))
      refine aq (E _ (fun Q4 c2=>?_));clear av Q1 E K';simp only[fo,fq];have cw:=Z hv;clear hv;cases d with
      | true =>
       have D:=Z (bl.o (by
        obtain⟨j,L,e⟩:=aw.o.1 rfl;exact⟨j,L,e⟩))
       go_wp2
       go_roundw
       case rel=>exact⟨q+1,done,by go_num,D,Q⟩
       case measure=>simp[intOf];omega
      | false =>
       have b1:=Z (b2.o t (fun j L e=>by
        have:=aw.o.2 ⟨j,L,e⟩;cases this) (by rw[ad.o,b0.o];exact cw.o))
       rw[ad.o]at b1
       clear aw b2 bj bl bq;have c4:done.length<=1048576:=by omega
       obtain⟨dd,dk,rfl,_⟩:=Q.o.slice;go_upto_block 4 with fail
       go_cut [11] (fun x wx=>∃p:Nat,x=.int .i64 p/\G (tC done nk p)/\G (∀h0:0<p,∀h:p-1<done.length,¬Lib.compareBytes nk.data.toList (done[p-1]).1.data.toList<0)/\G (Below W4.heap.size W4 wx))
       case first =>
        go_wp2_with fail
        go_loopw [11] (fun x wx=>∃p:Nat,x=.int .i64 p/\G (tC done nk p)/\G (Below W4.heap.size W4 wx)) (fun x _=>(intOf x).toNat)
        case atStart=>exact⟨done.length,rfl,Z (tC.start done nk),Z (am _ _)⟩
        case round =>
         obtain⟨p,rfl,J,f⟩:=hrel;have a8:=J.o.le;have d2:wr.cell? ⟨g,A+q*2,none⟩=some (.string nk):=by rw[f.o.cell (p:=⟨g,A+q*2,none⟩) (dj P Q.o.bel.size)];exact d1
         cases p with
         | zero =>
          go_wp2_with fail
          go_quiet (fail)
          go_wp2_with fail
          go_meet
          case rel=>exact⟨0,rfl,J,Z (fun h0=>absurd h0 (by omega)),Z ⟨f.o.os,f.o.tape,f.o.output,f.o.size,f.o.block⟩⟩
         | succ m =>
          have hml:m<done.length:=by omega
          obtain⟨g1,c1,ca,y1,_⟩:=(Q.o.keep f.o).attr m _ (bc hml);simp only[ce,fk]at ca;obtain⟨rfl,rfl⟩:=ca;have cp:=Z (J.o.next hml);have cm:=Z (aJE nk (done[m]).1);generalize b5:(done[m]).1=dn at *
          have bh:=Z b5;have e0:decide ((0:Int)<((m:Nat):Int)+1)=true:=bt (by omega);have dr:m<=1048576:=by omega
          clear b5 M c5 c4;rcases cm.o with⟨K,f1,f2⟩|⟨K,f1,f2⟩|⟨K,f1,f2⟩
          ·have D:=Z (cp.o K);clear K;go_wp2_with fail
           go_quiet (fail)
           go_wp2
           go_roundw
           case rel=>exact⟨m,by go_num,D,Z ⟨f.o.os,f.o.tape,f.o.output,f.o.size,f.o.block⟩⟩
           case measure=>simp[intOf]
          ·have D:=Z K;clear K;go_wp2_with fail
           go_quiet (fail)
           go_wp2_with fail
           go_meet
           case rel=>exact⟨m+1,by go_num,J,Z (fun _ h=>by
            have e:(done[m+1-1]'h)=done[m]'hml:=by simp
            rw[e,bh.o];exact D.o),Z ⟨f.o.os,f.o.tape,f.o.output,f.o.size,f.o.block⟩⟩
          ·have D:=Z K;clear K;go_wp2_with fail
           go_quiet (fail)
           go_wp2_with fail
           go_meet
           case rel=>exact⟨m+1,by go_num,J,Z (fun _ h=>by
            have e:(done[m+1-1]'h)=done[m]'hml:=by simp
            rw[e,bh.o];exact D.o),Z ⟨f.o.os,f.o.tape,f.o.output,f.o.size,f.o.block⟩⟩
       case rest =>
        obtain⟨p,rfl,J,c0,f⟩:=hcut;have co:=Z (Q.o.keep f.o);have a8:=J.o.le;have cj:=Z (b1.o p a8 (fun j L h=>J.o.hi j L h) (fun h0=>by have:=c0.o h0 (by omega);omega));clear d1;go_wp2_with (at_builtin;refine aU (by rfl) _ _ 33 (by rfl) 39 c9 (.agg #[.string ⟨#[]⟩,.string ⟨#[]⟩]) 2 32 Tryz.underlying33 a6 c8 a9 c3 rfl (by decide) _ _ _ rfl co.o #[.string ⟨#[]⟩,.string ⟨#[]⟩] rfl rfl rfl rfl (by omega) (by omega) ?_)
        intro v6 W6 b4 cz;have bk:G (aF w.heap.size 39 2 v6 (done.length+1) (bM (gW done done.length (⟨#[]⟩,⟨#[]⟩))) w W6):=b4.o.cast rfl (by rw[aGJ,tL];rfl);clear b4 cz;obtain⟨g1,c1,rfl,_⟩:=bk.o.atRow (by omega);go_wp2_with fail
        go_loopw [12] (fun x wx=>∃(m:Nat) (y:AT),x=.int .i64 m/\p<=m/\m<=done.length/\G (aF w.heap.size 39 2 (.slice (some ⟨g1,0,none⟩) (done.length+1) c1) (done.length+1) (bM (gW done m y)) w wx)) (fun x _=>(intOf x).toNat)
        case atStart=>exact⟨done.length,_,by go_num,a8,ah _,bk⟩
        case round =>
         obtain⟨m,y,rfl,ds,ab,F⟩:=hrel;rcases ak p m with dp|dm
         ·obtain⟨r,rfl⟩:∃r,m=r+1:=⟨m-1,by omega⟩
          have hr:r<done.length:=by omega
          obtain⟨g2,dg,cb,y1,y2⟩:=F.o.attr r _ (aKF done r y hr);simp only[ce,d6,ji,fk,fm]at cb;obtain⟨rfl,rfl⟩:=cb;have a1:=Z (F.o.there ((r+1)*2) 2 (by rw[fN,zI done _ _ ab];omega));have N:=F.o.setCells [.string done[r].1,.string done[r].2] _ ((r+1)*2) _;rw[aCq done (r+1) y done[r] ab,aIp done r hr]at N
          have al:=Z N;have bs:=Z (show ∃z,z=done[r]from⟨_,rfl⟩);clear N F;obtain⟨z,hz⟩:=bs.o;rw[<-hz]at y1 y2 al
          clear hz bs;go_wp2_with (refine ij (by rfl) 39 (.tmp 97) (.tmp 96) rfl g1 ((r+1)*2) #[.string z.1,.string z.2] rfl rfl a1.o (by rw[a6];simp[a9]) (by simp[Value.oneCell']) ?_)
          go_roundw
          case rel=>exact⟨r,z,by go_num,by omega,by omega,al⟩
          case measure=>simp[intOf]
         ·obtain rfl:m=p:=by omega
          have y1:wr.cell? ⟨g,A+q*2,none⟩=some (.string nk):=by rw[F.o.bel.cell (p:=⟨g,A+q*2,none⟩) P,<-ad.o];exact ac.o.1
          have a1:=Z (F.o.there (m*2) 2 (by rw[fN,zI done _ _ ab];omega));have N:=F.o.setCells [.string nk,.string t] _ (m*2) _;rw[aCq done m y (nk,t) ab]at N
          have al:=Z (N.cast (zI done m (nk,t) ab).symm rfl);clear N F;go_wp2_with (refine ij (by rfl) 39 (.tmp 107) (.tmp 106) rfl g1 (m*2) #[.string nk,.string t] rfl rfl a1.o (by rw[a6];simp[a9]) (by simp[Value.oneCell']) ?_)
          go_roundw
          case rel=>exact⟨q+1,gW done m (nk,t),by go_num,cj,al⟩
          case measure=>simp[intOf];omega
  {have HR:=Z (M.o.done c6);go_wp2;go_ret;exact⟨_,done,rfl,HR.o,hO.o⟩}
open Go.RowKit
theorem aMB {a:kV}{A:cW}(w:H)(T:aA w)(l:aED a)(j:AOk a A):aHw A:=fun nm at' v W d g i c b=>by
 have h:=aH9 nm (a nm) (Z (fun n v f b W c=>aIk w T nm n v (a nm n v) b f d (l nm n v d f b) W c)) at' g (Z i) v W c (Z b);refine h.mono ?_;rintro e o ⟨u,r,rfl,hr,k⟩;have m:r=A nm at':=xX hr (j nm at');subst m;exact⟨u,rfl,k⟩
theorem aLB (pn:I)(l:List Nd)(a:Option Addr)(c:Nat)(q:fL l<=1048576)(W:H)(T:aA W)(o:aQ W a 0 l):Y 15 #[.string pn,.slice a l.length c] W (dV true W):=by
 obtain⟨r,A,n,i,k,_⟩:=aI1 W T;have p:=aMB W T n i;have d:=aEq.2 l q;have u:=aDf l;have v:=aNu.2 l;have w:=aIA.2 l;have t:=aJt A pn [] l;have m:=aJs i n pn [] d (by omega);have s:=aHN A pn [] (l:=l) (by omega);have j:∀V,Below W.heap.size W V->G (aA V):=fun V h=>Z (T.below h gE)
 exact aDS pn l (bB A pn [] l) a c W (Z ⟨m,by omega⟩) (Z o)
  (Z fun V h=>aO6 A (Z k) (aND i) V (j V h))
  (Z fun V a c _ b=>aHF _ l gE a c V (by omega) (Z d) b)
  (Z fun V a c h b=>aGE A (Z p) l pn V a c (j V h) (Z d) (by omega) b)
  (Z fun V a c h b=>aAv A (Z k) l pn V a c (j V h) (Z d) (by omega) b)
  (Z fun V a e c f h g=>aFO _ a e c f V (by omega) (Z d) h g)
  (Z fun V a e c f h g=>aFO _ a e c f V (by omega) (Z m) h g)
