/-
policy.Link and small: what they answer.
-/
import Derived.Test.YtcfgbdhpcboikaaGreatDoorNumD
namespace Go.Proofs.YtcfgbdhpcboikaaGreatDoor
set_option maxHeartbeats 4000000
set_option maxRecDepth 100000
open Go.RowKit
theorem aB0 {n:Nat}:n<=n:=ah n
theorem jU (l:U):(⟨l.toArray⟩:I).size=l.length:=rfl
theorem nV (l:U):(bS l).length<=3*l.length:=bg (aM8 l) (aCK l.length l aB0)
theorem aMe (s:I)(L:s.size<=1000000000)(w:H)(T:aA w):Y 34 #[.string s] w (O (.string ⟨(bN s.data.toList).toArray⟩) w):=by
 have d:=Z T;clear T;have C:=nV s.data.toList;have B:s.data.toList.length=s.size:=rfl;have r:(⟨(bS s.data.toList).toArray⟩:I).size<4294967281:=by{rw[jU];omega};have t:((bS s.data.toList).filter (fun b=>b !=9)).length<=(bS s.data.toList).length:=ur ..;have u:(((bS s.data.toList).filter (fun b=>b !=9)).filter (fun b=>b !=10)).length<=((bS s.data.toList).filter (fun b=>b !=9)).length:=ur ..;have i:=Z r;have j:=Z t;have D:=Z u;have l:=Z C;have n:=Z B;clear r t u C B;go_enter Tryz.func34,Tryz.ntmps34;go_wp2_with fail;refine(wS s L w d.o).mono ?_;rintro e N ⟨rfl,f⟩;have a:=Z f;have F:=Z (d.o.below a.o aB0);clear f;go_wp2_with fail;obtain⟨m,z⟩:=F.o.most;refine(Tryz.strings_ReplaceAll ⟨(bS s.data.toList).toArray⟩ ⟨#[9]⟩ ⟨#[]⟩ m _ i.o z (by decide) ?_).mono ?_;{have e:(⟨#[]⟩:I).size=0:=rfl;rw[e,sw];have:=i.o;omega};have p:Lib.replaceAll (⟨(bS s.data.toList).toArray⟩:I).data.toList (⟨#[9]⟩:I).data.toList (⟨#[]⟩:I).data.toList=(bS s.data.toList).filter (fun b=>b !=9):=vE 9 _;rw[p];rintro e P ⟨rfl,g⟩;have c:=Z (a.o.trans (g.mono a.o.size));have J:=Z (d.o.below c.o aB0);clear g p z;go_wp2_with fail;obtain⟨M,A⟩:=J.o.most;have v:(⟨((bS s.data.toList).filter (fun b=>b !=9)).toArray⟩:I).size<4294967281:=by{rw[jU];have:=j.o;have:=l.o;have:=n.o;omega};refine(Tryz.strings_ReplaceAll ⟨((bS s.data.toList).filter (fun b=>b !=9)).toArray⟩ ⟨#[10]⟩ ⟨#[]⟩ M _ v A (by decide) ?_).mono ?_;{have e:(⟨#[]⟩:I).size=0:=rfl;rw[e,sw];omega};have q:Lib.replaceAll (⟨((bS s.data.toList).filter (fun b=>b !=9)).toArray⟩:I).data.toList (⟨#[10]⟩:I).data.toList (⟨#[]⟩:I).data.toList=dS s.data.toList:=vE 10 _;rw[q];rintro e Q ⟨rfl,h⟩;have k:=Z (c.o.trans (h.mono c.o.size));clear h q A v;go_wp2_with fail;have x:(⟨(dS s.data.toList).toArray⟩:I).size<=9223372036854775807:=by{rw[jU];have:=j.o;have:=D.o;have:=l.o;have:=n.o;unfold dS;omega};refine(Tryz.strings_Trim_one ⟨(dS s.data.toList).toArray⟩ 32 (by decide) _ x).mono ?_;clear x;rintro e K ⟨rfl,y⟩;have E:G (Below w.heap.size w K):=by{rcases y with rfl|rfl;{exact k.o};{exact k.o.drew}};clear y;go_wp2;go_ret;exact⟨rfl,E.o⟩
def oB (w:H)(B:Nat)(L:U):Prop :=
 ∃cur:Array Value,w.heap[B]?=some (.cells cur 5 (cur.size,cur.size+1))/\L.length<=cur.size/\∀j (h:j<L.length),cur[j]?=some (.int .u8 (L[j].toNat:Nat))
theorem oB.bytes {w:H}{B:Nat}{L:U}(h:oB w B L):bV w B 0 L:=by
 obtain⟨a,b,e,c⟩:=h;intro j d;rw[bw,au w B j a 5 _ b];exact c j d
theorem oB.free {w:H}{B:Nat}{L:U}(h:oB w B L){j:Nat}(e:j<L.length):w.frozen? ⟨B,j,none⟩=false:=by
 obtain⟨b,a,c,d⟩:=h;simp only[World.frozen?,a,i6,gq];left;omega
theorem oB.lt {w:H}{B:Nat}{L:U}(h:oB w B L):B<w.heap.size:=by
 obtain⟨b,a,_⟩:=h;exact(dq.1 a).1
theorem oB.set {w:H}{B:Nat}{L:U}(h:oB w B L)(j:Nat)(l:j<L.length)(c:UInt8)(v:Value)(k:v=.int .u8 (c.toNat:Nat)):oB (w.setCell ⟨B,j,none⟩ v) B (L.set j c):=by
 obtain⟨a,b,d,f⟩:=h;subst k;rw[kg w B j a 5 _ _ b];refine⟨a.setIfInBounds j (.int .u8 (c.toNat:Nat)),?_,by simpa using d,?_⟩;{have:=gn w B a (a.setIfInBounds j (.int .u8 (c.toNat:Nat))) 5 _ b;simpa using this};{intro i hi;have g:i<L.length:=by{simpa using hi};by_cases e:j=i;{subst e;rw[Array.getElem?_setIfInBounds_self_of_lt (by omega)];simp};{rw[Array.getElem?_setIfInBounds_ne e,f i g];simp[e]}}
theorem aAR (s:I)(w:H):∃cap W,(convert 9 35 (.string s)).run Tryz.prog w=.ok (.slice (some ⟨w.heap.size,0,none⟩) s.size cap) W/\Below w.heap.size w W/\oB W w.heap.size s.data.toList/\s.size<=cap:=by
 obtain⟨cap,W,a,c,g,d,h⟩:=qX s w;refine⟨cap,W,a,c,?_,d⟩;have e:=ut (P:=Tryz.prog) w 9 35 5 s Tryz.underlying9 Tryz.underlying35 Tryz.underlying5;rw[a]at e;cases e;refine⟨_,Lib.bytesWorld_at_new w 5 s,?_,?_⟩;{unfold Lib.bytesCells;simp};{intro j f;have b:j<s.data.size:=f;unfold Lib.bytesCells;rw[li (by simpa using b)];rw[Array.getElem?_map,Array.getElem?_eq_getElem b];simp}
open Go.RowKit
def oZ (L:U)(B k:Nat)(w wx:H):Prop:=k<=L.length/\oB wx B (bO (L.take k)++L.drop k)/\Below B w wx
theorem aDD (L:U)(k:Nat)(h:k<=L.length):(bO (L.take k)++L.drop k).length=L.length:=by
 unfold bO;simp;omega
theorem aFY (L:U)(k:Nat)(h:k<L.length):(bO (L.take k)++L.drop k)[k]'(by rw[aDD L k (by omega)];exact h)=L[k]:=by
 have a:(bO (L.take k)).length=k:=by{unfold bO;simp;omega};rw[jm (by omega)];simp[a]
theorem aCv (L:U)(k:Nat)(h:k<L.length):(bO (L.take k)++L.drop k).set k (bD L[k])=bO (L.take (k+1))++L.drop (k+1):=by
 have a:(bO (L.take k)).length=k:=by{unfold bO;simp;omega};rw[List.set_append_right _ _ (by omega),a,kx,dt h,List.set_cons_zero,fl h];unfold bO;rw[kt,cg,fa,cv,kr]
theorem aIt (L:U)(k:Nat)(h:k<L.length)(a:bD L[k]=L[k]):bO (L.take k)++L.drop k=bO (L.take (k+1))++L.drop (k+1):=by
 rw[<-aCv L k h,a];have:=aFY L k h;conv=>rhs;rw[<-this]
 rw[List.set_getElem_self]
theorem aCu (L:U)(B k:Nat)(w wx:H)(h:oZ L B k w wx)(a:k<L.length):∃c:UInt8,wx.cell? ⟨B,k,none⟩=some (.int .u8 (c.toNat:Nat))/\wx.frozen? ⟨B,k,none⟩=false /\
  (bD c=c->oZ L B (k+1) w wx)/\(∀v,v=.int .u8 ((bD c).toNat:Nat)->oZ L B (k+1) w (wx.setCell ⟨B,k,none⟩ v)):=by
 obtain⟨f,b,d⟩:=h;have i:=aDD L k f;refine⟨L[k],?_,b.free (by omega),fun e=>⟨a,by rw[<-aIt L k a e];exact b,d⟩,fun v g=>⟨a,?_,d.setCell (p:=⟨B,k,none⟩) aB0 _⟩⟩;{have:=b.bytes k (by omega);rw[aFY L k a,bw]at this;exact this};{rw[<-aCv L k a];exact b.set k (by omega) _ v g}
theorem aDC (s:I)(J:s.size<=140737488355328)(w:H):Y 72 #[.string s] w (O (.string ⟨(bO s.data.toList).toArray⟩) w):=by
 obtain⟨cap,W,F,l,q,n⟩:=aAR s w;have t:G (oZ s.data.toList w.heap.size 0 w W):=⟨bb _,q,l⟩;have B:=Z n;clear l q n;go_enter Tryz.func72,Tryz.ntmps72;go_wp2;go_loopw [10] (fun i wx=>∃k:Nat,i=.int .i64 k/\G (oZ s.data.toList w.heap.size k w wx)) (fun i _=>s.size-(intOf i).toNat);case atStart=>exact⟨0,rfl,t⟩
 case round =>obtain⟨k,rfl,d⟩:=hrel;rcases ak k s.size with z|x;{obtain⟨c,hcell,hfree,h1,h⟩:=aCu _ _ _ _ _ d.o z;have f:=Z h1;have u:=Z h;have C:=c.toNat_lt;have g:=Z (rH c);clear h1 h;by_cases a:65<=c.toNat/\c.toNat<=90;{have m:65<=c.toNat:=a.1;have D:c.toNat<=90:=a.2;have r:decide (65<=(c.toNat:Int))=true:=by{simp;omega};have A:decide ((c.toNat:Int)<=90)=true:=by{simp;omega};have b:G ((bD c).toNat=c.toNat+32):=by{show _=_;rw[g.o,af a]};clear a;go_wp2;refine⟨⟨k+1,by congr 1,u.o _ (by rw[b.o];congr 1)⟩,?_⟩;simp[intOf];omega};{have b:G (bD c=c):=by{show _=_;apply de.1;rw[g.o,ae a]};rcases ak c.toNat 65 with m|m;{have r:decide (65<=(c.toNat:Int))=false:=by{simp;omega};clear a;go_wp2;refine⟨⟨k+1,by congr 1,f.o b.o⟩,?_⟩;simp[intOf];omega};{have r:decide (65<=(c.toNat:Int))=true:=by{simp;omega};have A:decide ((c.toNat:Int)<=90)=false:=by{simp;omega};clear a;go_wp2;refine⟨⟨k+1,by congr 1,f.o b.o⟩,?_⟩;simp[intOf];omega}}};{have e:=d.o.2.1;have p:k=s.data.toList.length:=Nat.le_antisymm d.o.1 x;rw[p,kh,qz,eh]at e;have hlen:(bO s.data.toList).length=s.size:=by{unfold bO;simp};have E:(convert 35 9 (.slice (some ⟨w.heap.size,0,none⟩) s.size cap)).run Tryz.prog wr=.ok (.string ⟨(bO s.data.toList).toArray⟩) wr:=by{rw[<-hlen];refine uu wr 35 9 5 _ cap _ Tryz.underlying35 Tryz.underlying5 Tryz.underlying9 ?_;intro j y;have v:(⟨w.heap.size,0,none⟩:Addr).add j=⟨w.heap.size,0+j,none⟩:=by{unfold Addr.add;split<;>simp_all};rw[v];exact e.bytes j y};clear e hlen p;go_wp2;go_ret;exact⟨rfl,d.o.2.2⟩}
open Go.RowKit
def aEp (b:UInt8):Bool:=b !=9&&b !=10
structure mP (t:U) (k:Nat) (bs:U):Prop where
 le:k<=t.length
 len:bs.length<=k
 o:bs=(t.take k).filter aEp
theorem mP.start (t:U):mP t 0 []:=⟨bb _,ah _,rfl⟩
theorem mP.yes {t:U}{k:Nat}{a:U}(h:mP t k a)(b:k<t.length)(hr:aEp t[k]=true):mP t (k+1) (a++[t[k]]):=by
 refine⟨b,?_,?_⟩;{have:=h.len;simp;omega};{rw[fl b,ma,<-h.o];simp[hr]}
theorem mP.no {t:U}{k:Nat}{bs:U}(h:mP t k bs)(a:k<t.length)(hr:aEp t[k]=false):mP t (k+1) bs:=by
 refine⟨a,?_,?_⟩;{have:=h.len;omega};{rw[fl a,ma,<-h.o];simp[hr]}
theorem aGZ (c:UInt8)(n:Nat)(h:c.toNat=n)(a:n<256):c=UInt8.ofNat n:=de.1 (by rw[h];simp;omega)
structure aBw (O':U) (f:Nat):Prop where
 le:f<=O'.length
 low:∀j b,j<f->O'[j]?=some b->b.toNat<=32
theorem aBw.next {a:U}{f:Nat}(h:aBw a f)(e:f<a.length)(g:a[f].toNat<=32):aBw a (f+1):=by
 refine⟨e,fun j b i c=>?_⟩;rcases ak j f with d|d;{exact h.low j b d c};{obtain rfl:j=f:=by{omega};rw[bc e]at c;cases c;exact g}
structure qA (O':U) (f t:Nat):Prop where
 ge:f<=t
 le:t<=O'.length
 low:∀j b,t<=j->O'[j]?=some b->b.toNat<=32
theorem qA.start {a:U}{f:Nat}(h:f<=a.length):qA a f a.length:=⟨h,ah _,fun j b d c=>by rw[ew d]at c;cases c⟩
theorem qA.next {a:U}{f t:Nat}(h:qA a f (t+1))(g:f<t+1)(e:∀l:t<a.length,a[t].toNat<=32):qA a f t:=by
 have k:=h.le;refine⟨by omega,by omega,fun j b i c=>?_⟩;rcases ak t j with d|d;{exact h.low j b d c};{obtain rfl:j=t:=by{omega};rw[bc (by omega)]at c;cases c;exact e (by omega)}
theorem aHY (L:U)(f t:Nat)(k:aBw (dS L) f)(c:qA (dS L) f t)(g:∀h:f<(dS L).length,32<(dS L)[f].toNat)(i:f<t->∀h:t-1<(dS L).length,32<(dS L)[t-1].toNat) :
  bN L=((dS L).drop f).take (t-f):=by
 have e:((dS L).drop f).take (t-f)=((dS L).take t).drop f:=by{rw[se]};rw[e];have l:=c.le;have j:=c.ge;refine aIC (dS L) f t (aLt L) j l k.low (fun d=>?_) c.low (fun d=>?_) (fun d=>?_);{exact⟨_,bc (by omega),g (by omega)⟩};{exact⟨_,bc (by omega),i d (by omega)⟩};{rcases ak f (dS L).length with h|h;{have a:=g h;have b:=c.low f _ (by omega) (bc h);omega};{omega}}
theorem bV.isB {w:H}{g a:Nat}{L:U}(h:bV w g a L):IsB w (some ⟨g,a,none⟩) L:=by
 intro j b c;have d:j<L.length:=(fc.1 c).1;rw[bc d]at c;cases c;refine⟨_,rfl,?_⟩;have e:(⟨g,a,none⟩:Addr).add j=⟨g,a+j,none⟩:=by{unfold Addr.add;split<;>simp_all};rw[e];exact h j d
theorem aEL (b:UInt8):dE b=.int .u8 b.toNat:=rfl
theorem aKu (s:I)(hs:s.size<=1000000000)(w:H):Y 35 #[.string s] w (O (.string ⟨(bN s.data.toList).toArray⟩) w):=by
 obtain⟨i0,hi,a8,a9,bd⟩:=cx Tryz.info5;have T:=Z (yX s hs w);have a7:=nV s.data.toList;have p:s.data.toList.length=s.size:=rfl;have E:=pN s.data.toList;have S:=Z (aHY s.data.toList);obtain⟨t,A⟩:∃t:I,t=⟨(bS s.data.toList).toArray⟩:=⟨_,rfl⟩;have ac:t.data.toList=bS s.data.toList:=by{rw[A]};have b0:t.size<=3000000000:=by{rw[A,jU];omega};rw[<-A]at T;rw[<-ac]at E;have ad:=Z E;clear a7 p E ac A;generalize dS s.data.toList=O' at *;go_enter Tryz.func35,Tryz.ntmps35;go_wp2_with fail;refine T.o.mono ?_;rintro e C ⟨rfl,J⟩;have K:=Z J;clear J;go_wp2;go_loopw [4,5] (fun o i wx=>∃(k:Nat) (bs:U),i=.int .i64 k/\G (mP t.data.toList k bs)/\G (aF C.heap.size 5 1 o bs.length (bs.map dE) C wx)) (fun _ i _=>t.size-(intOf i).toNat);case atStart=>exact⟨0,[],rfl,Z (mP.start _),Z (aF.nil C 5 1)⟩
 case round =>
  obtain⟨k,bs,rfl,r,m⟩:=hrel;have bl:=r.o.len;have bx:k<=t.size:=r.o.le;rcases ak k t.size with hlt|a1
  ·have W:=Z (r.o.yes hlt);have d:=Z (r.o.no hlt);have e:t.data.toList[k]'hlt=t[k]:=rfl;rw[e]at W d;have X:=t[k].toNat_lt;by_cases l:t[k].toNat=9;{have HF:=Z (d.o (by rw[aGZ _ _ l (by omega)];rfl));have t1:((t[k].toNat:Int)==9)=true:=by{rw[l];rfl};have be:((t[k].toNat:Int) !=9)=false:=by{rw[l];rfl};clear l;go_wp2;go_roundw;(case rel=>exact⟨k+1,bs,by go_num,HF,m⟩);case measure=>simp[intOf];omega}
   ·have t1:((t[k].toNat:Int)==9)=false:=by{rw[ai];omega};have be:((t[k].toNat:Int) !=9)=true:=by{rw[ct];omega};by_cases n:t[k].toNat=10;{have HF:=Z (d.o (by rw[aGZ _ _ n (by omega)];rfl));have t2:((t[k].toNat:Int)==10)=true:=by{rw[n];rfl};have bh:((t[k].toNat:Int) !=10)=false:=by{rw[n];rfl};clear l n;go_wp2;go_roundw;(case rel=>exact⟨k+1,bs,by go_num,HF,m⟩);case measure=>simp[intOf];omega}
    ·have t2:((t[k].toNat:Int)==10)=false:=by{rw[ai];omega};have bh:((t[k].toNat:Int) !=10)=true:=by rw[ct];omega
     have HF:=Z (W.o (by
      unfold aEp;rw[bp,ct,ct];exact⟨fun e=>l (by rw[e];rfl),fun e=>n (by rw[e];rfl)⟩))
     clear l n;go_wp2_with (at_builtin;refine aU (by rfl) _ _ 35 (by rfl) 5 i0 (.int .u8 0) 1 1 Tryz.underlying35 hi a8 a9 bd rfl (by decide) _ _ _ rfl m.o #[.int .u8 t[k].toNat] rfl rfl rfl rfl (by omega) (by omega) ?_);intro v' w' ao _;go_wp2;go_roundw;(case rel=>exact⟨k+1,bs++[t[k]],by go_num,HF,Z (ao.o.cast (by simp) (by simp[dE]))⟩);case measure=>simp[intOf];omega
  {have hX:bs=O':=by{have:=r.o.o;rw[fi (by exact a1)]at this;rw[this,ad.o];rfl};subst hX;have L:=Z (K.o.trans (m.o.bel.mono K.o.size));obtain⟨a,c,rfl,hac,_⟩:=m.o.slice;have HI:=Z (m.o.isB rfl);have V:=Z m.o.vec;go_wp2;go_loop [6] (fun x=>∃f:Nat,x=.int .i64 f/\G (aBw bs f)) (fun x=>bs.length-(intOf x).toNat);(case atStart=>exact⟨0,rfl,Z ⟨bb _,fun j b v=>absurd v (by omega)⟩⟩);case round =>obtain⟨f,rfl,y⟩:=hrel;have a0:=y.o.le;rcases ak f bs.length with hlt|bk;{obtain⟨g,off,c',hva,aa⟩:=V.o.get f (by simpa using hlt);simp only[ce,fk]at hva;obtain⟨rfl,rfl⟩:=hva;rw[nr,aEL]at aa;have X:=bs[f].toNat_lt;have al:=Z (y.o.next hlt);have an:=Z (fun(hh:32<bs[f].toNat)=>(fun _=>hh:∀h:f<bs.length,32<bs[f].toNat));have bj:G (∀h:f<bs.length,bs[f]=bs[f]):=fun _=>rfl;obtain⟨bf,D⟩:∃bf,bs[f].toNat=bf:=⟨_,rfl⟩;have M:=Z D;rw[D]at aa X;clear D;rcases ak 32 bf with a2|a3;{have R:=Z (an.o (by rw[M.o];exact a2));have Q:G (bV wr g off bs):=by{intro j v;obtain⟨g',off',c'',hva',ab⟩:=V.o.get j (by simpa using v);simp only[ce,d6,ji,fk,fm]at hva';obtain⟨⟨rfl,rfl⟩,_⟩:=hva';rw[nr,aEL]at ab;exact ab};go_wp2;go_loop [7] (fun x=>∃u:Nat,x=.int .i64 u/\G (qA bs f u)) (fun x=>(intOf x).toNat);(case atStart=>exact⟨bs.length,rfl,Z (qA.start a0)⟩);case round =>obtain⟨u,rfl,z⟩:=hrel;have b1:=z.o.le;have huf:f<u:=by{rcases ak f u with h|h;{exact h};{have:=z.o.low f _ h (bc hlt);have:=R.o hlt;omega}};obtain⟨q,rfl⟩:∃q,u=q+1:=⟨u-1,by omega⟩;have av:=Q.o q (by omega);have a4:=(bs[q]'(by omega)).toNat_lt;obtain⟨bq,F⟩:∃bq,(bs[q]'(by omega)).toNat=bq:=⟨_,rfl⟩;have N:=Z F;rw[F]at av a4;clear F;rcases ak 32 bq with a5|a6;{have B:=Z (S.o f (q+1) y.o z.o R.o (fun _ _=>by simp only[gg];rw[N.o];exact a5));have p:=aFW g off c f (q+1) bs.length (by omega) (by omega) (by omega) wr;have aw:=qK (P:=Tryz.prog) wr 35 5 9 Tryz.underlying35 Tryz.underlying5 Tryz.underlying9 (some ⟨g,off+f,none⟩) ((bs.drop f).take (q+1-f)) (q+1-f) (c-f) (by rw[bu,bm];omega) (Q.o.cut f (q+1-f)).isB;rw[sx]at p;go_wp2;go_ret;refine⟨?_,L.o⟩;rw[B.o];rfl};{have d:=Z (z.o.next huf (fun _=>by rw[N.o];exact a6));go_wp2;go_round;(case rel=>exact⟨q,by go_num,d⟩);case measure=>simp[intOf]}};{have d:=Z (al.o (by rw[M.o];exact a3));go_wp2;go_round;(case rel=>exact⟨f+1,by go_num,d⟩);case measure=>simp[intOf];omega}};{obtain rfl:f=bs.length:=by{omega};have B:=Z (S.o bs.length bs.length y.o ⟨ah _,ah _,fun j b v he=>by rw[ew v]at he;cases he⟩ (fun h=>absurd h (mc _)) (fun h=>absurd h (mc _)));have p:=wN 35 5 Tryz.underlying35 (by kernel_rfl) wr a bs.length c bs.length bs.length aB0 hac;generalize (if c=bs.length then a else a.map (·.add bs.length))=a' at p;rw[kx]at p;have aw:=qK (P:=Tryz.prog) wr 35 5 9 Tryz.underlying35 Tryz.underlying5 Tryz.underlying9 a' [] 0 (c-bs.length) rfl (IsB.nil _ _);go_wp2;go_loop [7] (fun x=>x=.int .i64 bs.length) (fun _=>0);(case atStart=>rfl);case round =>subst hrel;go_wp2;go_ret;refine⟨?_,L.o⟩;rw[B.o];simp}}
