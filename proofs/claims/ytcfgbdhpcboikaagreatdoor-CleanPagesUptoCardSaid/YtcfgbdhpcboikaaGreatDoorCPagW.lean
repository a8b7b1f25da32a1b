/-
CleanPages: its walk over the contracts of what it calls.
-/
import Derived.Test.YtcfgbdhpcboikaaGreatDoorCleanW
import Derived.Test.YtcfgbdhpcboikaaGreatDoorRefTI
namespace Go.Proofs.YtcfgbdhpcboikaaGreatDoor
set_option maxHeartbeats 8000000
set_option maxRecDepth 100000
open Go.RowKit
theorem gB {n:Nat}:n<=n:=ag n
theorem xV {a w v:H}(h:G (Go.RowKit.Below a.heap.size a w))(b:Go.RowKit.Below w.heap.size w v):G (Go.RowKit.Below a.heap.size a v):=Z (h.o.trans (b.mono h.o.size))
def aCv (p:Nd):Int:=if 1000<p.sz then 43 else if 32<gQ p then 44 else 0
def yW (p:Nd):Nd:=if 1000<p.sz then qG else if 32<gQ p then qG else p
def aMa (w:H)(p:Nd)(e:Ending)(w':H):Prop:=∃v,e=.returned (.tuple #[v,.int .i64 (aCv p)])/\aH w' (yW p) v/\Below w.heap.size w w'
theorem qI.one {w w':H}{p:Nd}{e:Ending}(h:qI w p e w'):aMa w p e w':=by
 obtain⟨⟨b,v,rfl,rfl⟩|⟨b,c,v,rfl,rfl⟩|⟨b,c,v,rfl,g⟩,d⟩:=h;{refine⟨_,by unfold aCv;rw[ae b],?_,d⟩;unfold yW;rw[ae b];exact aAR w'};{have a:¬ 1000<p.sz:=by{omega};refine⟨_,by unfold aCv;rw[ac a,ae c],?_,d⟩;unfold yW;rw[ac a,ae c];exact aAR w'};{have a:¬ 1000<p.sz:=by{omega};have f:¬ 32<gQ p:=by{omega};refine⟨v,by unfold aCv;rw[ac a,ac f],?_,d⟩;unfold yW;rw[ac a,ac f];exact g}
theorem aG9 (n p:Nd)(E:Int)(B:I)(v:Value)(w:H)(HN:G (aH w n v))
  (ci:G (∀W,Below w.heap.size w W->Y 47 #[] W (iN true W)))
  (cb:G (∀W,Below w.heap.size w W->Y 56 #[v] W fun e l=>∃u,e=.returned (.tuple #[u,.int .i64 E])/\aH l p u/\Below W.heap.size W l))
  (cd:G (∀W,Below w.heap.size w W->Y 57 #[v] W fun e l=>∃u,e=.returned (.tuple #[u,.int .i64 E])/\aH l p u/\Below W.heap.size W l))
  (ck:G (∀W u u',G (aH W p u)->G (aH W p u')->Y 43 #[u,u'] W (iN true W)))
  (cm:G (∀W,Below w.heap.size w W->Y 58 #[v] W (O (.string B) W)))
  (cp:G (∀W,Below w.heap.size w W->Y 59 #[v] W (O (.string B) W))) :
  Y 16 #[v] w (iN true w):=by
 obtain⟨cr,a,c,rfl,⟨P,Q,rfl,_⟩,_,_⟩:=HN.o.get;obtain⟨N,y⟩:=ex (w.alloc (.cells #[.int .i64 n.kind,.int .i64 n.space,.string n.name,.slice P n.attrs.length Q,.string n.text,.slice a n.kids.length c] 45))
 have aa:=Z (show Below w.heap.size w N by rw[y];exact(aj _ w).alloc gB _);have a3:=Z (show Six N w.heap.size 0 (.int .i64 n.kind) (.int .i64 n.space) (.string n.name) (.slice P n.attrs.length Q) (.string n.text) (.slice a n.kids.length c) by
  rw[y];exact bR w _ _ _ _ _ _)
 have a0:=Z y;clear y;go_enter Tryz.func16,Tryz.ntmps16
 go_wp2_with fail
 rw[<-a0.o];refine(ci.o N aa.o).mono ?_;unfold iN;rintro e W1 ⟨rfl,C⟩;have ab:=xV aa C;have L:=Z (a3.o.below C gB);obtain⟨x0,x1,x2,x3,x4,x5⟩:=L.o.zero;clear C a0 a3;go_wp2_with fail
 refine(cb.o W1 ab.o).mono ?_;clear x0 x1 x2 x3 x4 x5;rintro e m ⟨v1,rfl,V,D⟩;have a4:=Z (L.o.below D gB);have b1:=xV ab D;have cj:=Z V;obtain⟨cs,bf,c1,rfl,⟨bj,bl,rfl,_⟩,_,_⟩:=V.get;clear D V L;obtain⟨W3,z⟩:=ex (m.alloc (.cells #[.int .i64 p.kind,.int .i64 p.space,.string p.name,.slice bj p.attrs.length bl,.string p.text,.slice bf p.kids.length c1] 45))
 have t:Below m.heap.size m W3:=by rw[z];exact(aj _ _).alloc gB _
 have R:=bR m (.int .i64 p.kind) (.int .i64 p.space) (.string p.name) (.slice bj p.attrs.length bl) (.string p.text) (.slice bf p.kids.length c1);rw[<-z]at R
 have a7:=Z R;have M:=Z (a4.o.below t gB);have ad:=xV b1 t;have ao:=Z (cj.o.below t gB);have a1:=Z z;clear z t R a4;go_upto_region 3 with fail
 rw[<-a1.o];clear a1;obtain⟨x0,x1,x2,x3,x4,x5⟩:=M.o.zero;generalize m.heap.size=b4 at *
 go_wp2_with fail
 refine(cd.o W3 ad.o).mono ?_;clear x0 x1 x2 x3 x4 x5;rintro e q ⟨v2,rfl,X,j⟩;obtain⟨cw,bh,c2,rfl,⟨bk,bq,rfl,_⟩,_,_⟩:=X.get;have ar:=Z X;have a8:=Z (a7.o.below j gB);have a5:=Z (M.o.below j gB);have al:=Z (ao.o.below j gB);have b2:=xV ad j;clear j X M ao a7;obtain⟨W5,A⟩:=ex (q.alloc (.cells #[.int .i64 p.kind,.int .i64 p.space,.string p.name,.slice bk p.attrs.length bq,.string p.text,.slice bh p.kids.length c2] 45))
 have i:Below q.heap.size q W5:=by rw[A];exact(aj _ _).alloc gB _
 have T:=bR q (.int .i64 p.kind) (.int .i64 p.space) (.string p.name) (.slice bk p.attrs.length bq) (.string p.text) (.slice bh p.kids.length c2);rw[<-A]at T
 have bd:=Z T;have a9:=Z (a8.o.below i gB);have a6:=Z (a5.o.below i gB);have av:=Z (ar.o.below i gB);have an:=Z (al.o.below i gB);have b3:=xV b2 i;have a2:=Z A;clear A i T a5 ar al a8;go_upto_region 4 with fail
 rw[<-a2.o];clear a2;obtain⟨x0,x1,x2,x3,x4,x5⟩:=a9.o.zero;obtain⟨y0,y1,y2,y3,y4,y5⟩:=bd.o.zero;generalize q.heap.size=b6 at *
 go_wp2_with fail
 refine(ck.o W5 _ _ an av).mono ?_;clear x0 x1 x2 x3 x4 x5 y0 y1 y2 y3 y4 y5;unfold iN;rintro e g ⟨rfl,F⟩;have r:=xV b3 F;have f:=Z (a6.o.below F gB);clear F a6 a9 bd av an;go_upto_region 5 with fail
 obtain⟨S,b⟩:∃S:H->Prop,∀u,S u↔Below g.heap.size g u:=⟨_,fun _=>gy⟩
 have f0:∀s:WIn S,s.w.cell? ⟨w.heap.size,0,none⟩=some (.int .i64 n.kind):=fun s=>(f.o.below ((b _).1 s.h) gB).x0
 have f1:∀s:WIn S,s.w.cell? ⟨w.heap.size,1,none⟩=some (.int .i64 n.space):=fun s=>(f.o.below ((b _).1 s.h) gB).x1
 have f2:∀s:WIn S,s.w.cell? ⟨w.heap.size,2,none⟩=some (.string n.name):=fun s=>(f.o.below ((b _).1 s.h) gB).x2
 have f3:∀s:WIn S,s.w.cell? ⟨w.heap.size,3,none⟩=some (.slice P n.attrs.length Q):=fun s=>(f.o.below ((b _).1 s.h) gB).x3
 have f4:∀s:WIn S,s.w.cell? ⟨w.heap.size,4,none⟩=some (.string n.text):=fun s=>(f.o.below ((b _).1 s.h) gB).x4
 have f5:∀s:WIn S,s.w.cell? ⟨w.heap.size,5,none⟩=some (.slice a n.kids.length c):=fun s=>(f.o.below ((b _).1 s.h) gB).x5
 haveI:Nonempty (WIn S):=⟨⟨g,(b _).2 (aj _ _)⟩⟩
 have K:=Z b;have eE:(E==E)=true:=by simp
 have et:(B.toList==B.toList)=true:=by simp
 clear b;refine gF 16 [([0,1,2,3,4,5,6,7,8,9,10,12],11),([],13)] [14,15] S (by kernel_rfl) (by kernel_rfl) ((K.o _).2 (below_drewNm g 1)) ?_;refine bT (fun k d=>?_);simp only[pick,pickZ,pickS,pickG];repeat (go_big_quiet_step (fail))
 refine am (d _ (fun Q1 bx=>?_));clear d k;simp only[pick,pickZ,pickS,pickG];go_wp2_with fail
 have x:=below_drewNm g 1;have bs:Below w.heap.size w (g.drewN 1):=r.o.trans (x.mono r.o.size);refine(cm.o _ bs).mono ?_;rintro e W7 ⟨rfl,B7⟩;have J:=Z (x.trans (B7.mono x.size));have b5:=xV r J.o;clear x bs B7;go_wp2_with fail
 refine bx _ _ ((K.o _).2 J.o) (bT (fun k d=>am (d _ (fun Q2 b0=>?_))));clear d k bx Q1;simp only[pick,pickZ,pickS,pickG];go_wp2_with fail
 refine(cp.o _ b5.o).mono ?_;rintro e W8 ⟨rfl,B8⟩;have ah:=xV J B8;have ca:=xV r ah.o;clear B8;go_wp2_with fail
 refine b0 _ _ ((K.o _).2 ah.o) (iH (fun k d=>?_));clear b0 Q2;simp only[pick,pickZ,pickS,pickG];repeat (go_big_quiet_step (fail))
 refine am (d _ (fun Q4 cz=>?_));clear d k f0 f1 f2 f3 f4 f5;simp only[dj,dt];go_wp2
 go_ret;exact⟨rfl,ca.o⟩
open Go.RowKit
structure pG (l:List AT) (k q:Nat) (d:Bool):Prop where
 le:q<=k
 lt:k<l.length
 iff:d=true↔∃j,∃hj:j<q,(l[j]'(by omega)).1=l[k].1
theorem pG.start {l:List AT}{k:Nat}(h:k<l.length):pG l k 0 false:=⟨ax _,h,⟨fun x=>(by cases x),fun⟨j,a,_⟩=>absurd a (by omega)⟩⟩
theorem pG.yes {l:List AT}{k q:Nat}{d:Bool}(h:pG l k q d)(hq:q<k)(hd:d=true\/(l[q]'(by have:=h.lt;omega)).1=(l[k]'h.lt).1):pG l k (q+1) true:=by
 refine⟨hq,h.lt,⟨fun _=>?_,fun _=>rfl⟩⟩;rcases hd with hd|hd;{obtain⟨j,hj,e⟩:=h.iff.1 hd;exact⟨j,by omega,e⟩};{exact⟨q,by omega,hd⟩}
theorem pG.no {l:List AT}{k q:Nat}(h:pG l k q false)(hq:q<k)(hd:(l[q]'(by have:=h.lt;omega)).1≠(l[k]'h.lt).1):pG l k (q+1) false:=by
 refine⟨hq,h.lt,⟨fun x=>(by cases x),fun⟨j,b,e⟩=>?_⟩⟩;rcases ak j q with a|a;{exact h.iff.2 ⟨j,a,e⟩};{obtain rfl:j=q:=by{omega};exact absurd e hd}
structure uV (done:List AT) (n:I) (p:Nat):Prop where
 le:p<=done.length
 hi:∀j,∀hj:j<done.length,p<=j->Lib.compareBytes n.data.toList (done[j]).1.data.toList<0
theorem uV.start (done:List AT)(n:I):uV done n done.length:=⟨ag _,fun j a h=>absurd a (by omega)⟩
theorem uV.next {done:List AT}{n:I}{q:Nat}(h:uV done n (q+1))(hq:q<done.length)(a:Lib.compareBytes n.data.toList (done[q]).1.data.toList<0):uV done n q:=by
 refine⟨by omega,fun j b c=>?_⟩;by_cases e:j=q;{subst e;exact a};{exact h.hi j b (by omega)}
def jA (done:List AT)(q:Nat)(x:AT):List AT:=done.take q++x :: done.drop q
theorem aHD (done:List AT)(x:AT):jA done done.length x=done++[x]:=by unfold jA;rw[jm,rf]
theorem aAD (done:List AT)(q:Nat)(x:AT)(h:q<=done.length):(jA done q x).length=done.length+1:=by
 unfold jA;rw[aw,bw,br,bn];omega
theorem aIO (a b:List AT)(x y:AT):tB (cR (a++x :: b)) (a.length*2) [.string y.1,.string y.2]=cR (a++y :: b):=by
 rw[vE,vE];have e:cR (x :: b)=[.string x.1,.string x.2]++cR b:=rfl;have f:cR (y :: b)=[.string y.1,.string y.2]++cR b:=rfl;rw[e,f,<-jT];generalize cR a=A;generalize cR b=B;apply l6;intro j;rw[aEy _ _ _ _ (by simp)];by_cases d:j<A.length;{rw[ac (by omega),ib d,ib d]};{have c:∀C:List Value,(A++C)[j]?=C[j-A.length]?:=fun C=>iu (by omega);by_cases g:j-A.length<2;{rw[ae (by simp;omega),c,ib (by simpa using g)]};{rw[ac (by simp;omega),c,c,iu (by simp;omega),iu (by simp;omega)];rfl}}
theorem aDl (done:List AT)(q:Nat)(x y:AT)(h:q<=done.length):tB (cR (jA done q x)) (q*2) [.string y.1,.string y.2]=cR (jA done q y):=by
 unfold jA;have:=aIO (done.take q) (done.drop q) x y;rw[br,jn h]at this;exact this
theorem aJp (done:List AT)(q:Nat)(h:q<done.length):jA done (q+1) done[q]=jA done q done[q]:=by
 unfold jA;rw[fw h,dy h,ct];rfl
theorem aLI (done:List AT)(q:Nat)(x:AT)(h:q<done.length):(jA done (q+1) x)[q]?=some done[q]:=by
 unfold jA;rw[ib (by rw[br];omega),gg,ae (by omega),bc h]
theorem aJ.attr {B:Nat}{v:Value}{n:Nat}{r:List AT}{a w:H}(h:aJ B 39 2 v n (cR r) a w)(j:Nat)(x:AT)(hx:r[j]?=some x) :
  ∃g c,v=.slice (some ⟨g,0,none⟩) n c/\w.cell? ⟨g,j*2,none⟩=some (.string x.1)/\w.cell? ⟨g,j*2+1,none⟩=some (.string x.2):=by
 obtain⟨d,e⟩:=fc.1 hx;obtain⟨c1,c2⟩:=yF r j d;rw[e]at c1 c2;have f:0<n:=by{have b:=h.own.1;rw[jT]at b;omega};obtain⟨g,c,rfl,_⟩:=h.atRow f;exact⟨g,c,rfl,h.cell _ _ c1,h.cell _ _ c2⟩
theorem aKG (n d:I):(Lib.compareBytes n.data.toList d.data.toList<0/\Op.bytesLess d.toList n.toList=false/\(d.toList==n.toList)=false) \/
  (¬Lib.compareBytes n.data.toList d.data.toList<0/\Op.bytesLess d.toList n.toList=true/\(d.toList==n.toList)=false)\/(¬Lib.compareBytes n.data.toList d.data.toList<0/\Op.bytesLess d.toList n.toList=false/\(d.toList==n.toList)=true):=by
 rw[less_iff,toList_data,toList_data,nF n.data.toList d.data.toList];have a:(d.data.toList==n.data.toList)=true->Lib.compareBytes n.data.toList d.data.toList=0:=fun h=>by{rw[cv]at h;rw[h,aHX]};have e:Lib.compareBytes n.data.toList d.data.toList=0->(d.data.toList==n.data.toList)=true:=fun h=>by{rw[cv];exact(uY _ _ h).symm};generalize Lib.compareBytes n.data.toList d.data.toList=c at *;generalize (d.data.toList==n.data.toList)=b at *;rcases rg c 0 with h|h|h;{exact .inl ⟨h,bp (by omega),by cases b;rfl;exact absurd (a rfl) (by omega)⟩};{exact .inr (.inr ⟨by omega,bp (by omega),e h⟩)};{exact .inr (.inl ⟨by omega,bu (by omega),by cases b;rfl;exact absurd (a rfl) (by omega)⟩)}
theorem aI6 (e:I)(V:I->I->Option I)(hV:G (∀n v,n.size<=1048576->v.size<=1048576->∀W,aA W->Y 44 #[.string e,.string n,.string v] W (O (lS (V n v)) W)))
  (l:List AT) (hl:l.length<=1048576) (hs:G (∀x∈l,x.1.size<=1048576/\x.2.size<=1048576)) (b4:Value) (w:H) (T:aA w) (hA:G (fK w b4 l)):Y 45 #[.string e,b4] w (aD8 V l w):=by
 have HT:=Z T;clear T;obtain⟨dg,a6,dd,a9,c4⟩:=cq Tryz.info39;obtain⟨a,c,rfl,_⟩:=hA.o;go_enter Tryz.func45,Tryz.ntmps45;go_wp2;go_loopw [5,6] (fun o i wx=>∃(k:Nat) (done:List AT),i=.int .i64 k/\G (lB V l k done)/\G (aJ w.heap.size 39 2 o done.length (cR done) w wx)) (fun _ i _=>l.length-(intOf i).toNat);case atStart=>exact⟨0,[],rfl,Z (lB.start V l),Z (aJ.nil w 39 2)⟩
 case round =>
  obtain⟨k,done,rfl,M,hO⟩:=hrel;have hk:=M.o.le;have c7:=M.o.dl;rcases ak k l.length with B|c8
  ·obtain⟨g,A,c',cd,_,_⟩:=hA.o.get k B;simp only[cg,fy]at cd;obtain⟨rfl,rfl⟩:=cd;have HG:G (∀j (L:j<l.length),w.cell? ⟨g,A+j*2,none⟩=some (.string (l[j]).1)/\w.cell? ⟨g,A+j*2+1,none⟩=some (.string (l[j]).2)):=fun j L=>by{obtain⟨g',off',c'',hva',k1,k2⟩:=hA.o.get j L;simp only[cg,fe,jo,fy,gj]at hva';obtain⟨⟨rfl,rfl⟩,_⟩:=hva';exact⟨k1,k2⟩};have P:g<w.heap.size:=ed _ _ (HG.o k B).1;have bq:=Z (M.o.old B);have b3:=Z (fun t=>M.o.yes (t:=t) B);have bk:=Z (M.o.no B);have b0:=Z (hs.o l[k] (fl B));have bs:=Z (pG.start B);have ad:=Z (HG.o k B);obtain⟨wo,ci⟩:=ex wr;have a3:=Z ci;clear ci;go_wp2_with fail;go_loopw [7,8] (fun b j wx=>∃(q:Nat) (d:Bool),b=.bool d/\j=.int .i64 q/\G (pG l k q d)/\G (Below wo.heap.size wo wx)) (fun _ j _=>k-(intOf j).toNat);case atStart=>exact⟨0,false,rfl,rfl,bs,by rw[a3.o];exact Z (aj _ _)⟩
   case round =>
    obtain⟨q,d,rfl,rfl,R,C⟩:=hrel;have c9:=R.o.le;rcases ak q k with hq|hq;{have ck:=Z (HG.o q (by omega));have HY:=Z (R.o.yes hq);have hx:G (∀b,((l[q]'(by omega)).1.toList==(l[k]'B).1.toList)=b->pG l k (q+1) (d||b)):=fun b X=>by{cases d with|true=>exact R.o.yes hq (.inl rfl)|false=>{cases b with|true=>{exact R.o.yes hq (.inr (eY (by rw[<-toList_data,<-toList_data];simpa using X)))}|false=>{exact R.o.no hq (fun e=>by rw[e]at X;simp at X)}}};have a4:Below w.heap.size w wr:=hO.o.bel.trans ((a3.o▸C.o).mono hO.o.bel.size);have z1:wr.cell? ⟨g,A+q*2,none⟩=some (.string (l[q]'(by omega)).1):=by{rw[a4.cell (p:=⟨g,A+q*2,none⟩) P];exact ck.o.1};have z2:wr.cell? ⟨g,A+k*2,none⟩=some (.string (l[k]'B).1):=by{rw[a4.cell (p:=⟨g,A+k*2,none⟩) P];exact ad.o.1};clear a4;generalize X:((l[q]'(by omega)).1.toList==(l[k]'B).1.toList)=b at *;have D:=Z (hx.o b rfl);clear hx HY;generalize (l[q]'(by omega)).1=nq at *;generalize (l[k]'B).1=nk at *;cases d with|true=>{go_wp2_with fail;go_quiet (fail);go_wp2;go_roundw;(case rel=>exact⟨q+1,true,rfl,by go_num,D,Z ⟨C.o.os,C.o.tape,C.o.output,C.o.size,C.o.block⟩⟩);case measure=>simp[intOf];omega}|false=>{go_wp2_with fail;go_quiet (fail);go_wp2;go_roundw;(case rel=>exact⟨q+1,b,rfl,by go_num,D,Z ⟨C.o.os,C.o.tape,C.o.output,C.o.size,C.o.block⟩⟩);case measure=>simp[intOf];omega}}
    ·obtain rfl:q=k:=by{omega};have aa:G (aJ w.heap.size 39 2 u5 done.length (cR done) w wr):=hO.o.keep (a3.o▸C.o);have av:=Z R.o.iff;have cs:=Z (HT.o.below aa.o.bel gB);clear c9 hq;obtain⟨S,hS⟩:∃S:H->Prop,∀u,S u↔Below wr.heap.size wr u:=⟨_,fun _=>gy⟩;have a5:g<wr.heap.size:=cf P aa.o.bel.size;have z1:wr.cell? ⟨g,A+q*2,none⟩=some (.string (l[q]'B).1):=by{rw[aa.o.bel.cell (p:=⟨g,A+q*2,none⟩) P];exact ad.o.1};have z2:wr.cell? ⟨g,A+q*2+1,none⟩=some (.string (l[q]'B).2):=by{rw[aa.o.bel.cell (p:=⟨g,A+q*2+1,none⟩) P];exact ad.o.2};have f1:∀s:WIn S,s.w.cell? ⟨g,A+q*2,none⟩=some (.string (l[q]'B).1):=fun s=>by{rw[((hS _).1 s.h).cell (p:=⟨g,A+q*2,none⟩) a5];exact z1};have f2:∀s:WIn S,s.w.cell? ⟨g,A+q*2+1,none⟩=some (.string (l[q]'B).2):=fun s=>by{rw[((hS _).1 s.h).cell (p:=⟨g,A+q*2+1,none⟩) a5];exact z2};haveI:Nonempty (WIn S):=⟨⟨wr,(hS _).2 (aj _ _)⟩⟩;have a0:=Z hS;have bh:G (∀w',Below wr.heap.size wr w'->w'.cell? ⟨g,A+q*2,none⟩=some (.string (l[q]'B).1)):=fun w' X=>by{rw[X.cell (p:=⟨g,A+q*2,none⟩) a5];exact z1};have a2:=Z (hV.o _ _ b0.o.1 b0.o.2);obtain⟨nk,a7⟩:∃nk,(l[q]'B).1=nk:=⟨_,rfl⟩;obtain⟨vk,bd⟩:∃vk,(l[q]'B).2=vk:=⟨_,rfl⟩;have ah:=Z a7;have b1:=Z bd;rw[a7]at f1 z1 bh a2;rw[bd]at f2 z2 a2;clear hS z1 z2 a7 bd C;go_wp2_with fail;refine gF 16 [([0,1,2,3,4,5,6,7,8,9,10],11)] [12,13,14,15] S (by kernel_rfl) (by kernel_rfl) ((a0.o _).2 (below_drewNm wr 1)) ?_;refine bT (fun K' E=>?_);simp only[pick,pickZ,pickS,pickG];(repeat (go_big_quiet_step (fail)));refine am (E _ (fun Q1 ar=>?_));clear E K';simp only[pick,pickZ,pickS,pickG];go_wp2_with fail
     have ao:=below_drewNm wr 1;refine(a2.o _ (cs.o.below ao gB)).mono ?_;rintro x W4 ⟨rfl,B4⟩;have an:Below wr.heap.size wr W4:=ao.trans (B4.mono ao.size);have bf:=Z an;have Q:=Z (aa.o.keep an);have d1:W4.cell? ⟨g,A+q*2,none⟩=some (.string nk):=bh.o _ an;clear ao B4 an f1 f2;cases hv:V nk vk with
     | none =>
      have D:=Z (bk.o (by rw[ah.o,b1.o];exact hv));unfold lS;clear hv;go_wp2_with fail
      refine ar _ _ ((a0.o _).2 bf.o) (iH (fun K' E=>?_));simp only[pick,pickZ,pickS,pickG];repeat (go_big_quiet_step (fail))
      refine am (E _ (fun Q4 c3=>?_));clear ar Q1 E K';simp only[dj,dt];cases d;all_goals
       go_wp2
       go_roundw
       case rel=>exact⟨q+1,done,by go_num,D,Q⟩
       case measure=>simp[intOf];omega
     | some t =>
      unfold lS;go_wp2_with fail
      refine ar _ _ ((a0.o _).2 bf.o) (iH (fun K' E=>?_));simp only[pick,pickZ,pickS,pickG];repeat (go_big_quiet_step (fail))
      refine am (E _ (fun Q4 c3=>?_));clear ar Q1 E K';simp only[dj,dt];have cw:=Z hv;clear hv;cases d with
      | true =>
       have D:=Z (bq.o (by
        obtain⟨j,L,e⟩:=av.o.1 rfl;exact⟨j,L,e⟩))
       go_wp2
       go_roundw
       case rel=>exact⟨q+1,done,by go_num,D,Q⟩
       case measure=>simp[intOf];omega
      | false =>
       have b2:=Z (b3.o t (fun j L e=>by
        have:=av.o.2 ⟨j,L,e⟩;cases this) (by rw[ah.o,b1.o];exact cw.o))
       rw[ah.o]at b2
       clear av b3 bk bq bs;have c6:done.length<=1048576:=by omega
       obtain⟨dk,c5,rfl,_⟩:=Q.o.slice;go_upto_block 4 with fail
       go_cut [11] (fun x wx=>∃p:Nat,x=.int .i64 p/\G (uV done nk p)/\G (∀h0:0<p,∀h:p-1<done.length,¬Lib.compareBytes nk.data.toList (done[p-1]).1.data.toList<0)/\G (Below W4.heap.size W4 wx))
       case first =>
        go_wp2_with fail
        go_loopw [11] (fun x wx=>∃p:Nat,x=.int .i64 p/\G (uV done nk p)/\G (Below W4.heap.size W4 wx)) (fun x _=>(intOf x).toNat)
        case atStart=>exact⟨done.length,rfl,Z (uV.start done nk),Z (aj _ _)⟩
        case round =>
         obtain⟨p,rfl,J,f⟩:=hrel;have a8:=J.o.le;have d2:wr.cell? ⟨g,A+q*2,none⟩=some (.string nk):=by rw[f.o.cell (p:=⟨g,A+q*2,none⟩) (cf P Q.o.bel.size)];exact d1
         cases p with
         | zero =>
          go_wp2_with fail
          go_quiet (fail)
          go_wp2_with fail
          go_meet
          case rel=>exact⟨0,rfl,J,Z (fun h0=>absurd h0 (by omega)),Z ⟨f.o.os,f.o.tape,f.o.output,f.o.size,f.o.block⟩⟩
         | succ m =>
          have hml:m<done.length:=by omega
          obtain⟨g1,c1,ca,y1,_⟩:=(Q.o.keep f.o).attr m _ (bc hml);simp only[cg,fy]at ca;obtain⟨rfl,rfl⟩:=ca;have cr:=Z (J.o.next hml);have cm:=Z (aKG nk (done[m]).1);generalize b6:(done[m]).1=dn at *
          have bj:=Z b6;have e0:decide ((0:Int)<((m:Nat):Int)+1)=true:=bu (by omega);have dq:m<=1048576:=by omega
          clear b6 M c7 c6;rcases cm.o with⟨K,f1,f2⟩|⟨K,f1,f2⟩|⟨K,f1,f2⟩
          ·have D:=Z (cr.o K);clear K;go_wp2_with fail
           go_quiet (fail)
           go_wp2
           go_roundw
           case rel=>exact⟨m,by go_num,D,Z ⟨f.o.os,f.o.tape,f.o.output,f.o.size,f.o.block⟩⟩
           case measure=>simp[intOf]
          ·have D:=Z K;clear K;go_wp2_with fail
           go_quiet (fail)
           go_wp2_with fail
           go_meet
           case rel=>exact⟨m+1,by go_num,J,Z (fun _ h=>by
            have e:(done[m+1-1]'h)=done[m]'hml:=by simp
            rw[e,bj.o];exact D.o),Z ⟨f.o.os,f.o.tape,f.o.output,f.o.size,f.o.block⟩⟩
          ·have D:=Z K;clear K;go_wp2_with fail
           go_quiet (fail)
           go_wp2_with fail
           go_meet
           case rel=>exact⟨m+1,by go_num,J,Z (fun _ h=>by
            have e:(done[m+1-1]'h)=done[m]'hml:=by simp
            rw[e,bj.o];exact D.o),Z ⟨f.o.os,f.o.tape,f.o.output,f.o.size,f.o.block⟩⟩
       case rest =>
        obtain⟨p,rfl,J,c0,f⟩:=hcut;have cp:=Z (Q.o.keep f.o);have a8:=J.o.le;have cj:=Z (b2.o p a8 (fun j L h=>J.o.hi j L h) (fun h0=>by have:=c0.o h0 (by omega);omega));clear d1;go_wp2_with (at_builtin;refine bE (by rfl) _ _ 33 (by rfl) 39 dg (.agg #[.string ⟨#[]⟩,.string ⟨#[]⟩]) 2 32 Tryz.underlying33 a6 dd a9 c4 rfl (by decide) _ _ _ rfl cp.o #[.string ⟨#[]⟩,.string ⟨#[]⟩] rfl rfl rfl rfl (by omega) (by omega) ?_)
        intro v6 W6 b5 cz;have bl:G (aJ w.heap.size 39 2 v6 (done.length+1) (cR (jA done done.length (⟨#[]⟩,⟨#[]⟩))) w W6):=b5.o.cast rfl (by rw[aHD,vE];rfl);clear b5 cz;obtain⟨g1,c1,rfl,_⟩:=bl.o.atRow (by omega);go_wp2_with fail
        go_loopw [12] (fun x wx=>∃(m:Nat) (y:AT),x=.int .i64 m/\p<=m/\m<=done.length/\G (aJ w.heap.size 39 2 (.slice (some ⟨g1,0,none⟩) (done.length+1) c1) (done.length+1) (cR (jA done m y)) w wx)) (fun x _=>(intOf x).toNat)
        case atStart=>exact⟨done.length,_,by go_num,a8,ag _,bl⟩
        case round =>
         obtain⟨m,y,rfl,dr,ab,F⟩:=hrel;rcases ak p m with dp|dm
         ·obtain⟨r,rfl⟩:∃r,m=r+1:=⟨m-1,by omega⟩
          have hr:r<done.length:=by omega
          obtain⟨g2,c2,cb,y1,y2⟩:=F.o.attr r _ (aLI done r y hr);simp only[cg,fe,jo,fy,gj]at cb;obtain⟨rfl,rfl⟩:=cb;have a1:=Z (F.o.there ((r+1)*2) 2 (by rw[jT,aAD done _ _ ab];omega));have N:=F.o.setCells [.string done[r].1,.string done[r].2] _ ((r+1)*2) _;rw[aDl done (r+1) y done[r] ab,aJp done r hr]at N
          have al:=Z N;have bx:=Z (show ∃z,z=done[r]from⟨_,rfl⟩);clear N F;obtain⟨z,hz⟩:=bx.o;rw[<-hz]at y1 y2 al
          clear hz bx;go_wp2_with (refine jp (by rfl) 39 (.tmp 97) (.tmp 96) rfl g1 ((r+1)*2) #[.string z.1,.string z.2] rfl rfl a1.o (by rw[a6];simp[a9]) (by simp[Value.oneCell']) ?_)
          go_roundw
          case rel=>exact⟨r,z,by go_num,by omega,by omega,al⟩
          case measure=>simp[intOf]
         ·obtain rfl:m=p:=by omega
          have y1:wr.cell? ⟨g,A+q*2,none⟩=some (.string nk):=by rw[F.o.bel.cell (p:=⟨g,A+q*2,none⟩) P,<-ah.o];exact ad.o.1
          have a1:=Z (F.o.there (m*2) 2 (by rw[jT,aAD done _ _ ab];omega));have N:=F.o.setCells [.string nk,.string t] _ (m*2) _;rw[aDl done m y (nk,t) ab]at N
          have al:=Z (N.cast (aAD done m (nk,t) ab).symm rfl);clear N F;go_wp2_with (refine jp (by rfl) 39 (.tmp 107) (.tmp 106) rfl g1 (m*2) #[.string nk,.string t] rfl rfl a1.o (by rw[a6];simp[a9]) (by simp[Value.oneCell']) ?_)
          go_roundw
          case rel=>exact⟨q+1,jA done m (nk,t),by go_num,cj,al⟩
          case measure=>simp[intOf];omega
  {have HR:=Z (M.o.done c8);go_wp2;go_ret;exact⟨_,done,rfl,HR.o,hO.o⟩}
open Go.ChangeShapes Go.WideShapes Go.ChangeAt Go.RowKit
variable {H':Type} {enc:TypeId × Value->H'} {W:H}
theorem aNn {cs:Array Value}{d:DataW H'}{p:List MemPlace}(h:DataW.Trod enc Tryz.prog W 0 (fun _=>true) true 45 (.agg cs) d p)(hd:Rows.uptoBulk d<=1048576) :
  ∃n:Nd,aH W n (.agg cs)/\n.bk<=Rows.uptoBulk d:=by
 obtain⟨g,f⟩:=h;obtain⟨c0,c1,c2,c3,c4,c5,nd,e,b,c⟩:=(aNo (enc:=enc) (W:=W) _ hd).1 _ _ _ gB f;have a:cs.toList=[c0,c1,c2,c3,c4,c5]:=e;obtain rfl:cs=#[c0,c1,c2,c3,c4,c5]:=by{rw[<-pg];exact a};exact⟨nd,b,c⟩
open Go.RowKit
theorem aJz (n:Nd):(fF n).size<=3*n.tk:=by
 unfold fF;have a:=oU ⟨(dN (aD bM (aD cN n.kids).kids).kids).toArray⟩;have b:=qO (aD bM (aD cN n.kids).kids).kids;have c:=cO n;have d:=lG cN n.kids;have e:=cO (aD cN n.kids);have f:=lG bM (aD cN n.kids).kids;have g:=cO (aD bM (aD cN n.kids).kids);have h:(⟨(dN (aD bM (aD cN n.kids).kids).kids).toArray⟩:I).size=(dN (aD bM (aD cN n.kids).kids).kids).length:=by{simp[ByteArray.size]};omega
theorem aPI {a:lW}{A:cY}(e:AOk a A)(f:aDA a){n:Nd}(g:SmN n)(l:n.tk<=1048576):SmN (mH A n)/\(mH A n).tk<=7000000:=by
 have j:=cO n;obtain⟨b,h⟩:=aHU n.kids ((nN n).1 g).2.2.2.2;have k:=aJz n;obtain⟨c1,c2,_⟩:=wM (fF n) (by omega);have c:=aKu e f bF [] b (by omega);have i:=aKv A bF [] (bB n.kids);refine⟨aCr (by decide) ((eI _ _).2 ⟨aCr (by decide) c1,(eI _ _).2 ⟨aCr (by decide) c,eR⟩⟩),?_⟩;show(elN aA5 [bU (fF n),elN bF (aM A bF [] (bB n.kids))]).tk<=_;have d:(bU (fF n)).tk=1+aE (bU (fF n)).kids:=by{show(elN cN (bU (fF n)).kids).tk=_;rw[aCs]};rw[aCs,cJ,jW,aCs,d];omega
open Go.RowKit
theorem aPO {a:lW}{A:cY}(w:H)(T:aA w)(l:aDA a)(j:AOk a A):aIt A:=fun nm at' v W d g i c b=>by
 have h:=aI6 nm (a nm) (Z (fun n v f b W c=>aJk w T nm n v (a nm n v) b f d (l nm n v d f b) W c)) at' g (Z i) v W c (Z b);refine h.mono ?_;rintro e o ⟨u,r,rfl,hr,k⟩;have m:r=A nm at':=zZ hr (j nm at');subst m;exact⟨u,rfl,k⟩
theorem aIE (n:Nd)(v:Value)(m:n.bk<=1048576)(W:H)(T:aA W)(f:aH W n v):Y 16 #[v] W (iN true W):=by
 obtain⟨q,A,i,c,g,_⟩:=aJ1 W T;have l:=aPO W T i c;have e:=aAV.1 n m;have r:=aOv.1 n;obtain⟨p1,_⟩:=aPI c i e (by omega);have o:SmN (yW (mH A n)):=by{have j:SmN qG:=aAV.1 _ (by decide +kernel);unfold yW;split;{exact j};{split;{exact j};{exact p1}}};have a:∀V,Below W.heap.size W V->G (aA V):=fun V h=>Z (T.below h gB);have b:∀V,Below W.heap.size W V->G (aH V n v):=fun V h=>Z (f.below h gB)
 exact aG9 n (yW (mH A n)) (aCv (mH A n)) (fF n) v W (Z f)
  (Z fun V h=>aP7 A (Z g) (aOE c) V (a V h))
  (Z fun V h=>(aKb A (Z g) n v V (by omega) (a V h) (Z e) (b V h)).mono fun _ _ d=>qI.one d)
  (Z fun V h=>(aI8 A (Z l) n v V (by omega) (a V h) (Z e) (b V h)).mono fun _ _ d=>qI.one d)
  (Z fun V u p h k=>aAA _ _ gB u p V (Z o) h k)
  (Z fun V h=>aEH n v V (by omega) (a V h) (b V h))
  (Z fun V h=>aDf n v V (by omega) (a V h) (b V h))
