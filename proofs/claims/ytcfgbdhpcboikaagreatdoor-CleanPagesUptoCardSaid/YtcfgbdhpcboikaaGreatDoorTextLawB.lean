/-
What has its form has it once for all: Text of Text, Link of Link. No program in sight.
-/
import Derived.Test.YtcfgbdhpcboikaaGreatDoorTextLaw
import Derived.Shelf.SlSortCmp.Insertion
import Derived.Test.YtcfgbdhpcboikaaGreatDoorOwnV
namespace Go.Proofs.YtcfgbdhpcboikaaGreatDoor
set_option maxRecDepth 100000
open PU8
theorem aGf (r:Nat)(h:Val r):aL (bA r)=encN r:=by
 obtain⟨e,f⟩:=h;unfold aL bA;rw[pu];conv=>rhs;rw[<-List.map_id (encN r)]
 apply px;intro c b;have d:c<256:=by{unfold encN at b;(repeat' split at b);(all_goals simp only[ce,kg,gx]at b);all_goals omega};simp only[Function.comp];exact ofN c d
theorem aBo (a b:U):aL (a++b)=aL a++aL b:=by simp[aL]
theorem aFL (lo hi n c:Nat)(r:List Nat)(h:¬(c<lo\/hi<c)):contU 1 lo hi n (c :: r)=(n+1,true):=by
 unfold contU;rw[ac h];rfl
theorem yB (lo hi n c d:Nat)(r:List Nat)(h:¬(c<lo\/hi<c))(b:¬(d<0x80\/0xbf<d)):contU 2 lo hi n (c :: d :: r)=(n+2,true):=by
 unfold contU;rw[ac h,aFL _ _ _ _ _ b]
theorem xZ (lo hi n c d e:Nat)(r:List Nat)(h:¬(c<lo\/hi<c))(b:¬(d<0x80\/0xbf<d))(f:¬(e<0x80\/0xbf<e)):contU 3 lo hi n (c :: d :: e :: r)=(n+3,true):=by
 unfold contU;rw[ac h,yB _ _ _ _ _ _ b f]
theorem aNg (r:Nat)(h:Val r)(t:List Nat):lookU (encN r++t)=((encN r).length,true):=by
 obtain⟨g,i⟩:=h;by_cases a:r<0x80;{have e:encN r=[r]:=by{unfold encN;rw[ae a]};rw[e,lc,look_cons,ae a];rfl};{by_cases b:r<0x800;{rw[enc_two r (by omega) b];simp only[dh,en];rw[look_cons,ac (by omega),ac (by omega),ae (by omega),aFL _ _ _ _ _ (by omega)];rfl};{by_cases c:r<0x10000;{rw[enc_three r (by omega) c];simp only[dh,en];rw[look_cons,ac (by omega),ac (by omega),ac (by omega)];by_cases d:r / 4096=0;{rw[ae (by omega),yB _ _ _ _ _ _ (by omega) (by omega)];rfl};{rw[ac (by omega)];by_cases f:r / 4096=13;{rw[ae (by omega),yB _ _ _ _ _ _ (by omega) (by omega)];rfl};{rw[ac (by omega),ae (by omega),yB _ _ _ _ _ _ (by omega) (by omega)];rfl}}};{rw[enc_four r (by omega)];simp only[dh,en];rw[look_cons,ac (by omega),ac (by omega),ac (by omega),ac (by omega),ac (by omega),ac (by omega)];by_cases d:r / 262144=0;{rw[ae (by omega),xZ _ _ _ _ _ _ _ (by omega) (by omega) (by omega)];rfl};{rw[ac (by omega)];by_cases f:r / 262144<4;{rw[ae (by omega),xZ _ _ _ _ _ _ _ (by omega) (by omega) (by omega)];rfl};{rw[ac (by omega),ae (by omega),xZ _ _ _ _ _ _ _ (by omega) (by omega) (by omega)];rfl}}}}}
theorem aO3 (r v:Nat)(h:encN r=encN v):r=v:=by
 unfold encN at h;repeat' split at h
 all_goals simp only[gi,gj,reduceCtorEq,and_false]at h
 all_goals omega
theorem aLe (r:Nat)(h:Val r)(t:U):(pieceU (aL (bA r++t))).2.1=r/\(pieceU (aL (bA r++t))).1=(bA r).length:=by
 have d:lookU (aL (bA r++t))=((encN r).length,true):=by{rw[aBo,aGf r h];exact aNg r h _};have s:=sameU (aL (bA r++t)) (oY (aCt r t));have e:=s.num;rw[d]at e;have i:=(tN r).1;have b:(bA r).length=(encN r).length:=by{unfold bA;simp};have f:(pieceU (aL (bA r++t))).1=(bA r).length:=by{rw[e,b];simp only;omega};refine⟨?_,f⟩;have g:=(s.val (by rw[d])).1;have ht:(aL (bA r++t)).take (encN r).length=encN r:=by{rw[aBo,aGf r h,mu]};rw[f,b,ht]at g;exact aO3 _ _ g
theorem aLD (rs:List Nat)(h:∀r∈rs,Val r):fZ (rs.flatMap bA)=rs:=by
 induction rs with|nil=>rfl|cons r rs ih=>{have hr:=h r (eh ..);rw[gw,qA _ (aCt r _)];obtain⟨b,e2⟩:=aLe r hr (rs.flatMap bA);rw[b,e2,ig,ih fun x hx=>h x (ew _ hx)]}
def nC (l:U):Prop:=∃rs:List Nat,l=rs.flatMap bA/\∀r∈rs,Val r/\fP r=true
theorem aAH (l:U):nC (cI l) :=
 ⟨_,rfl,fun r hr=>by
  obtain⟨b,d⟩:=ke.1 hr;exact⟨vK l.length l (ag _) r b,d⟩⟩
theorem vO {l:U}(h:nC l):cI l=l:=by
 obtain⟨d,rfl,b⟩:=h;unfold cI;rw[aLD d fun r hr=>(b r hr).1,qo.2 fun r hr=>(b r hr).2]
theorem aLW (l:U):cI (cI l)=cI l:=vO (aAH l)
theorem uB (r:Nat)(h:r<128):bA r=[UInt8.ofNat r]:=by unfold bA encN;rw[ae (by omega)];rfl
theorem aBH (r:Nat)(h:128<=r)(f:r<=0x10ffff):∀b∈bA r,128<=b.toNat:=by
 intro b e;unfold bA at e;obtain⟨c,d,rfl⟩:=ik.1 e;unfold encN at d;rw[ac (by omega)]at d;repeat' split at d
 all_goals simp only[ce,kg,gx]at d
 all_goals (rw[ofN c (by omega)];omega)
theorem aCA (c:Nat)(m:c<128)(d:List Nat)(h:∀r∈d,Val r):(d.flatMap bA).filter (fun b=>b !=UInt8.ofNat c)=(d.filter (fun r=>r !=c)).flatMap bA:=by
 induction d with|nil=>rfl|cons r d ih=>{have hr:=h r (eh ..);rw[gw,mr,ih fun x hx=>h x (ew _ hx)];by_cases g:r<128;{rw[uB r g];by_cases e:r=c;{subst e;rw[oy (by simp),oy (by simp)];rfl};{have k:UInt8.ofNat r≠UInt8.ofNat c:=by{intro f;have:=az UInt8.toNat f;rw[ofN r (by omega),ofN c (by omega)]at this;exact e this};rw[ox (by simpa using k),ox (by simpa using e),gw,uB r g];rfl}};{have j:(bA r).filter (fun b=>b !=UInt8.ofNat c)=bA r:=by{rw[qo];intro b i;have:=aBH r (by omega) hr.2 b i;simp only[db,ne_eq];intro f;rw[f,ofN c (by omega)]at this;omega};rw[j,ox (by simp;omega),gw]}}
theorem aM2 (r c:Nat)(j:c<128)(h:Val r)(i:r≠c)(t:U):∀b,(bA r++t).head?=some b->b≠UInt8.ofNat c:=by
 intro b f e;have d:b∈bA r:=by{cases he:bA r with|nil=>{have:=(tN r).1;rw[he]at this;simp at this}|cons x l=>{rw[he]at f;simp at f;subst f;exact eh ..}};by_cases g:r<128;{rw[uB r g]at d;simp at d;rw[d]at e;have:=az UInt8.toNat e;rw[ofN r (by omega),ofN c (by omega)]at this;exact i this};{have:=aBH r (by omega) h.2 b d;rw[e,ofN c (by omega)]at this;omega}
theorem aES (c:Nat)(f:c<128)(d:List Nat)(h:∀r∈d,Val r):(d.flatMap bA).dropWhile (· == UInt8.ofNat c)=(d.dropWhile (· == c)).flatMap bA:=by
 induction d with|nil=>rfl|cons r d ih=>{have hr:=h r (eh ..);by_cases e:r=c;{subst e;rw[gw,uB r f,lc,oz (by simp),oz (by simp)];exact ih fun x hx=>h x (ew _ hx)};{rw[m6 (by simpa using e),gw];have g:=aM2 r c f hr e (d.flatMap bA);cases hl:bA r++d.flatMap bA with|nil=>exact absurd hl (aCt r _)|cons b l=>{rw[hl]at g;rw[m6];simpa using g b rfl}}}
theorem aB3 {l:U}(h:nC l):nC (Lib.trimLeftB l 32):=by
 obtain⟨d,rfl,b⟩:=h;refine⟨d.dropWhile (· == 32),aES 32 (by omega) d fun r hr=>(b r hr).1,fun r hr=>b r ?_⟩;exact(qp _).subset hr
theorem iM (l:U)(b c:UInt8):Lib.trimRightB (l++[b]) c=if b=c then Lib.trimRightB l c else l++[b]:=by
 unfold Lib.trimRightB;rw[rl];simp only[pp,List.reverse_nil,en,lc];by_cases h:b=c;{rw[ae h,oz (by simpa using h)]};{rw[ac h,m6 (by simpa using h)];simp}
theorem aD5 (l m:U)(c:UInt8)(d:m≠[])(h:∀b∈m,b≠c):Lib.trimRightB (l++m) c=l++m:=by
 obtain⟨e,b,rfl⟩:∃e b,m=e++[b]:=⟨m.dropLast,m.getLast d,(ql d).symm⟩;rw[<-ct,iM,ac (h b (by simp))]
theorem aED {α : Type}{P:List α -> Prop}(d:P [])(f:∀l x,P l->P (l++[x]))(l:List α):P l:=by
 have:∀n (l:List α),l.length=n->P l:=by{intro n;induction n with|zero=>{intro l b;have:=fv b;subst this;exact d}|succ n ih=>{intro l b;have g:l≠[]:=by{intro e;subst e;simp at b};rw[<-ql g];exact f _ _ (ih _ (by rw[List.length_dropLast];omega))}};exact this l.length l rfl
theorem aBb {l:U}(h:nC l):nC (Lib.trimRightB l 32):=by
 obtain⟨d,rfl,f⟩:=h;revert f;refine aED (P:=fun d=>(∀r∈d,Val r/\fP r=true)->nC (Lib.trimRightB (d.flatMap bA) 32)) ?_ ?_ d;{intro _;exact⟨[],rfl,fun r hr=>by cases hr⟩};{intro d r p f;have hr:=f r (by simp);have o:∀x∈d,Val x/\fP x=true:=fun x hx=>f x (by simp[hx]);rw[qh,wb];by_cases e:r=32;{subst e;have j:bA 32=[32]:=by{decide};rw[j,iM,ae rfl];exact p o};{rw[aD5 _ _ 32 (by intro k;have:=(tN r).1;rw[k]at this;simp at this)];{refine⟨d++[r],by rw[qh,wb],f⟩};{intro b g i;by_cases m:r<128;{rw[uB r m]at g;simp at g;rw[g]at i;have:=az UInt8.toNat i;rw[ofN r (by omega)]at this;exact e this};{have:=aBH r (by omega) hr.1.2 b g;rw[i]at this;exact absurd this (by decide)}}}}
theorem aFE (l:U):nC (eV l):=by
 obtain⟨g,e,b⟩:=aAH l;unfold eV;rw[e];have f:=aCA 9 (by omega) g fun r hr=>(b r hr).1;have j:UInt8.ofNat 9=9:=rfl;rw[j]at f;rw[f];have d:=aCA 10 (by omega) (g.filter (fun r=>r !=9)) fun r hr=>(b r (ke.1 hr).1).1;have i:UInt8.ofNat 10=10:=rfl;rw[i]at d;rw[d];exact⟨_,rfl,fun r hr=>b r (ke.1 (ke.1 hr).1).1⟩
theorem aGb (l:U):nC (cG l):=by
 unfold cG Lib.trimB;exact aB3 (aBb (aFE l))
theorem aLV (l:U):cI (cG l)=cG l:=vO (aGb l)
theorem aEI (l:U)(c:UInt8):(Lib.trimB l c).Sublist l:=by
 unfold Lib.trimB Lib.trimLeftB Lib.trimRightB;refine(qp _).trans ?_;have:=(qp (fun x=>x==c) (l:=l.reverse)).reverse;rwa[sd]at this
theorem aNf (l:U):(cG l).Sublist (cI l):=by
 unfold cG;refine(aEI _ _).trans ?_;unfold eV;exact(we).trans we
theorem aD4 (l:U)(c:UInt8):Lib.trimRightB (Lib.trimRightB l c) c=Lib.trimRightB l c:=by
 refine aED (P:=fun l=>Lib.trimRightB (Lib.trimRightB l c) c=Lib.trimRightB l c) rfl ?_ l;intro l b d;rw[iM];by_cases h:b=c;{rw[ae h];exact d};{rw[ac h,iM,ac h]}
theorem aFa (l:U)(c:UInt8):Lib.trimLeftB (Lib.trimLeftB l c) c=Lib.trimLeftB l c:=by
 unfold Lib.trimLeftB;induction l with|nil=>rfl|cons b l ih=>{by_cases h:b=c;{rw[oz (by simpa using h)];exact ih};{rw[m6 (by simpa using h),m6 (by simpa using h)]}}
theorem aD6 (l:U)(c:UInt8)(h:Lib.trimRightB l c=l):Lib.trimRightB (Lib.trimLeftB l c) c=Lib.trimLeftB l c:=by
 unfold Lib.trimLeftB;induction l with|nil=>rfl|cons b l ih=>{by_cases e:b=c;{rw[oz (by simpa using e)];apply ih;by_cases d:l=[];{subst d;rfl};{obtain⟨m,x,rfl⟩:∃m x,l=m++[x]:=⟨l.dropLast,l.getLast d,(ql d).symm⟩;rw[<-dh,iM]at h;by_cases hx:x=c;{rw[ae hx]at h;have f:(Lib.trimRightB (b :: m) c).length<=(b :: m).length:=by{unfold Lib.trimRightB;rw[List.length_reverse];exact bg (qp _).length_le (by simp)};rw[h]at f;simp at f;omega};{rw[iM,ac hx]}}};{rw[m6 (by simpa using e)];exact h}}
theorem aJB (l:U)(c:UInt8):Lib.trimB (Lib.trimB l c) c=Lib.trimB l c:=by
 unfold Lib.trimB;rw[aD6 _ _ (aD4 l c),aFa]
theorem aAk (l:U):cG (cG l)=cG l:=by
 have h:eV (cG l)=cG l:=by{rw[qX,aLV,qo];intro b e;have d:b∈eV l:=(aEI _ _).subset e;rw[qX]at d;exact(ke.1 d).2};show Lib.trimB (eV (cG l)) 32=cG l;rw[h];exact aJB _ _
open Go.RowKit
def dK (v:I):I:=⟨(cI v.data.toList).toArray⟩
def jU (v:I):I:=⟨(cG v.data.toList).toArray⟩
theorem eY {a b:I}(h:a.data.toList=b.data.toList):a=b:=by
 cases a;cases b;simpa using h
theorem aDt (v:I):(dK v).data.toList=cI v.data.toList:=rfl
theorem sX (v:I):(jU v).data.toList=cG v.data.toList:=rfl
theorem aJw (v:I):dK (dK v)=dK v:=eY (by rw[aDt,aDt,aLW])
theorem aCP (v:I):jU (jU v)=jU v:=eY (by rw[sX,sX,aAk])
open Go.Sort Go.Lib
theorem tK (a b:UInt8)(x y:U):compareBytes (a :: x) (b :: y)=if a.toNat<b.toNat then -1 else if b.toNat<a.toNat then 1 else compareBytes x y:=by
 conv=>lhs;unfold compareBytes
 simp only[t7]
theorem aHX:∀a:U,compareBytes a a=0:=by
 intro a;induction a with|nil=>rfl|cons c a ih=>rw[tK,ac (by omega),ac (by omega),ih]
theorem nF:∀a b:U,compareBytes b a=- compareBytes a b:=by
 intro a;induction a with|nil=>{intro b;cases b<;>rfl}|cons c a ih=>{intro b;cases b with|nil=>rfl|cons d b=>{rw[tK,tK];by_cases e:c.toNat<d.toNat;{rw[ae e,ac (by omega),ae e];rfl};{by_cases f:d.toNat<c.toNat;{rw[ae f,ac e,ae f]};{rw[ac f,ac e,ac e,ac f,ih]}}}}
theorem uY:∀a b:U,compareBytes a b=0->a=b:=by
 intro a;induction a with
 | nil=>intro b h;cases b with
  | nil=>rfl
  | cons d b=>simp[compareBytes]at h
 | cons c a ih =>
  intro b h;cases b with
  | nil=>simp[compareBytes]at h
  | cons d b =>
   rw[tK]at h
   split at h
   ·omega
   ·split at h
    ·omega
    ·rw[ih b h,dx.1 (by omega:c.toNat=d.toNat)]
theorem xY:∀a b c:U,compareBytes a b<0->compareBytes b c<0->compareBytes a c<0:=by
 intro a;induction a with|nil=>{intro b c f e;cases c with|nil=>{rw[nF [] b]at e;omega}|cons d c=>simp[compareBytes]}|cons x a ih=>{intro b c f e;cases b with|nil=>simp[compareBytes]at f|cons y b=>{cases c with|nil=>simp[compareBytes]at e|cons z c=>{rw[tK]at f e ⊢;by_cases p1:x.toNat<y.toNat;{by_cases p2:z.toNat<y.toNat;{rw[ac (by omega),ae p2]at e;omega};{rw[ae (by omega)];omega}};{rw[ac p1]at f;by_cases g:y.toNat<x.toNat;{rw[ae g]at f;omega};{rw[ac g]at f;by_cases j:y.toNat<z.toNat;{rw[ae (by omega)];omega};{rw[ac j]at e;by_cases i:z.toNat<y.toNat;{rw[ae i]at e;omega};{rw[ac i]at e;rw[ac (by omega),ac (by omega)];exact ih b c f e}}}}}}}
abbrev AT:=I × I
def gZ (x y:AT):Int:=compareBytes x.1.data.toList y.1.data.toList
theorem aMD:SWO (ltOf gZ) where
 irrefl x:=by unfold ltOf gZ;rw[aHX];rfl
 trans x y z b h2:=by
  unfold ltOf gZ at *
  simp only[bm]at *
  exact xY _ _ _ b h2
 ntrans x y z b h2:=by
  unfold ltOf gZ at *
  simp only[g8,Int.not_lt]at *
  rcases m5 b with b|b
  ·rcases m5 h2 with h2|h2
   ·have:=xY z.1.data.toList y.1.data.toList x.1.data.toList (by rw[nF];omega) (by rw[nF];omega);rw[nF]at this
    omega
   ·rw[<-uY _ _ h2.symm];omega
  ·rw[uY _ _ b.symm];exact h2
def bC (V:I->I->Option I):List I->List AT->List AT
 | _,[]=>[]
 | sn,x :: l=>if containsS sn x.1=true then bC V sn l else (match V x.1 x.2 with|some t=>[(x.1,t)]|none=>[])++bC V (sn++[x.1]) l
def tV (r:List AT):Prop:=r.Pairwise fun x y=>gZ x y<0
def nX (V:I->I->Option I)(l r:List AT):Prop:=r.Perm (bC V [] l)/\tV r
theorem aE9:∀(a b:List AT),tV a->tV b->a.Perm b->a=b:=by
 intro a;induction a with|nil=>{intro b _ _ h;exact(List.Perm.nil_eq h)}|cons x a ih=>{intro b k m h;cases b with|nil=>exact absurd h.length_eq (by simp)|cons y b=>{have g:=qq.1 k;have i:=qq.1 m;have e:x=y:=by{have hx:x∈y :: b:=h.mem_iff.1 (by simp);have d:y∈x :: a:=h.mem_iff.2 (by simp);rcases ce.1 hx with hx|hx;{exact hx};{rcases ce.1 d with d|d;{exact d.symm};{have f:=i.1 x hx;have j:=g.1 y d;unfold gZ at f j;rw[nF]at f;omega}}};subst e;rw[ih b g.2 i.2 (List.perm_cons x |>.1 h)]}}
theorem zZ {V:I->I->Option I}{l a b:List AT}(d:nX V l a)(e:nX V l b):a=b :=
 aE9 a b d.2 e.2 (d.1.trans e.1.symm)
theorem aJ3 (V:I->I->Option I):∀(l:List AT) (sn:List I),∀x∈bC V sn l,x.1∉sn:=by
 intro l;induction l with|nil=>{intro sn x h;simp[bC]at h}|cons y l ih=>{intro sn x h;unfold bC at h;split at h;{exact ih sn x h};{rename_i d;rcases de.1 h with h|h;{cases hv:V y.1 y.2 with|none=>{rw[hv]at h;simp at h}|some t=>{rw[hv]at h;simp only[fu]at h;subst h;exact fun b=>d ((ip _ _).2 b)}};{exact fun b=>ih _ x h (by simp[b])}}}
theorem aBf (V:I->I->Option I):∀(l:List AT) (b:List I),(bC V b l).Pairwise fun x y=>x.1≠y.1:=by
 intro l;induction l with|nil=>{intro b;exact List.Pairwise.nil}|cons y l ih=>{intro b;unfold bC;split;{exact ih b};{cases hv:V y.1 y.2 with|none=>exact ih _|some t=>{refine qq.2 ⟨fun x hx=>?_,ih _⟩;have:=aJ3 V l _ x hx;simp only[de,fu,ic]at this;exact fun e=>this.2 e.symm}}}
theorem aJ2 (V:I->I->Option I):∀(l:List AT) (b:List I),(bC V b l).length<=l.length:=by
 intro l;induction l with|nil=>{intro b;exact ag _}|cons y l ih=>{intro b;unfold bC;split;{have:=ih b;simp;omega};{have:=ih (b++[y.1]);cases V y.1 y.2<;>simp<;>omega}}
theorem aCj (V:I->I->Option I):∀(l:List AT) (b:List I),∀x∈bC V b l,∃v,(x.1,v)∈l/\V x.1 v=some x.2:=by
 intro l;induction l with|nil=>{intro b x h;simp[bC]at h}|cons y l ih=>{intro b x h;unfold bC at h;split at h;{obtain⟨v,h1,d⟩:=ih b x h;exact⟨v,by simp[h1],d⟩};{rcases de.1 h with h|h;{cases hv:V y.1 y.2 with|none=>{rw[hv]at h;simp at h}|some t=>{rw[hv]at h;simp only[fu]at h;subst h;exact⟨y.2,by simp,hv⟩}};{obtain⟨v,h1,d⟩:=ih _ x h;exact⟨v,by simp[h1],d⟩}}}
theorem aLw {d:Array AT}(hs:SortedIn (ltOf gZ) 0 d.size d)(m:d.toList.Pairwise fun x y=>x.1≠y.1):tV d.toList:=by
 unfold tV;rw[t8]at m ⊢;intro i j hi g f;have e:=m i j hi g f;have q:i<d.size:=by{simpa using hi};have k:j<d.size:=by{simpa using g};have b:=hs i j (ax _) f k;unfold ltOf at b;simp only[g8,Int.not_lt]at b;rw[im d j k,im d i q]at b;have o:d.toList[i]=d[i]:=by{simp};have p:d.toList[j]=d[j]:=by{simp};rw[o,p]at e ⊢;unfold gZ at b ⊢;rw[nF]at b;rcases m5 (by omega:compareBytes (d[i]).1.data.toList (d[j]).1.data.toList<=0)with h|h;{exact h};{exfalso;apply e;have:=uY _ _ h;cases hx:(d[i]).1;cases hy:(d[j]).1;rw[hx,hy]at this;simpa using this}
open Go.RowKit
abbrev cY:=I->List AT->List AT
def bG (t:I):Nd:=.mk 2 0 ⟨#[]⟩ [] t []
def Nd.more (n:Nd)(t:I):Nd:=.mk n.kind n.space n.name n.attrs (n.text++t) n.kids
def eN (out:List Nd)(t:I):List Nd :=
 match out.getLast? with
 | none=>out++[bG t]
 | some x=>if x.kind=2 then out.dropLast++[x.more t]else out++[bG t]
def nO (pn:I)(out:List Nd)(s:I):List Nd :=
 if dK s=⟨#[]⟩\/oG pn.data.toList=false then out else eN out (dK s)
def sG (pn:I)(ph:List I)(out:List Nd)(nm:I):Bool :=
 yP pn.data.toList nm.data.toList&&(if aS nm.data.toList=4 then !Lib.containsS ph nm else if aS nm.data.toList=10 then decide (out=[])else true)
def sH (nm:I)(ph:List I):List I:=if aS nm.data.toList=4 then ph++[nm]else ph
def aCM (nm:I):Prop:=aS nm.data.toList=5\/aS nm.data.toList=6
instance (nm:I):Decidable (aCM nm):=by unfold aCM;exact inferInstance
mutual
def eG (A:cY):I->List I->List Nd->Nd->List Nd
 | pn,ph,out,.mk kd sp nm at' tx ks =>
  if kd=2 then nO pn out tx
  else if kd≠1\/sp≠0\/aS nm.data.toList=1 then out
  else if sG pn ph out nm=true then out++[.mk 1 0 nm (A nm at') ⟨#[]⟩ (if aCM nm then []else aT A nm (sH nm ph) [] ks)]
  else aT A pn ph out ks
def aT (A:cY):I->List I->List Nd->List Nd->List Nd
 | _,_,out,[]=>out
 | pn,ph,out,n :: ns=>aT A pn ph (eG A pn ph out n) ns
end
def aM (A:cY)(pn:I)(ph:List I)(l:List Nd):List Nd:=if aCM pn then []else aT A pn (sH pn ph) [] l
theorem mX (A:cY)(pn:I)(ph:List I)(out:List Nd)(n:Nd):eG A pn ph out n =
  if n.kind=2 then nO pn out n.text
  else if n.kind≠1\/n.space≠0\/aS n.name.data.toList=1 then out
  else if sG pn ph out n.name=true then out++[.mk 1 0 n.name (A n.name n.attrs) ⟨#[]⟩ (aM A n.name ph n.kids)]
  else aT A pn ph out n.kids:=by
 cases n;conv=>lhs;unfold eG
 rfl
theorem fT (A:cY)(pn:I)(ph:List I)(out:List Nd):aT A pn ph out []=out:=by unfold aT;rfl
theorem kD (A:cY)(pn:I)(ph:List I)(out:List Nd)(n:Nd)(ns:List Nd):aT A pn ph out (n :: ns)=aT A pn ph (eG A pn ph out n) ns:=by
 conv=>lhs;unfold aT
theorem zO (A:cY)(pn:I)(ph:List I):∀(a b out:List Nd),aT A pn ph out (a++b)=aT A pn ph (aT A pn ph out a) b:=by
 intro a;induction a with|nil=>{intro b out;rw[en,fT]}|cons n a ih=>{intro b out;rw[dh,kD,kD,ih]}
theorem kN (out:List Nd)(x:Nd)(t:I):eN (out++[x]) t=if x.kind=2 then out++[x.more t]else out++[x]++[bG t]:=by
 unfold eN;rw[List.getLast?_append];simp
def elN (nm:I)(ks:List Nd):Nd:=.mk 1 0 nm [] ⟨#[]⟩ ks
mutual
def aRR (f:U->U):Nd->U
 | .mk kd _ _ _ tx ks=>(if kd=2 then f tx.data.toList else [])++aLX f ks
def aLX (f:U->U):List Nd->U
 | []=>[]
 | n :: ns=>aRR f n++aLX f ns
end
def aIr (l:List Nd):Prop:=∀x∈l,x.kind=2->x.kids=[]
theorem aIr.add {out:List Nd}(h:aIr out)(t:I):aIr (eN out t):=by
 unfold eN;have b:(bG t).kind=2->(bG t).kids=[]:=fun _=>rfl;split;{intro x hx;rcases de.1 hx with hx|hx;{exact h x hx};{rw[fu.1 hx];exact b}};{rename_i y d;split;{intro x hx;rcases de.1 hx with hx|hx;{exact h x (List.dropLast_subset _ hx)};{rw[fu.1 hx];exact h y (List.mem_of_getLast? d)}};{intro x hx;rcases de.1 hx with hx|hx;{exact h x hx};{rw[fu.1 hx];exact b}}}
open Go.RowKit
def lY (x:AT):List Value:=[.string x.1,.string x.2]
def cR (l:List AT):List Value:=l.flatMap lY
theorem jT (l:List AT):(cR l).length=l.length*2:=by
 induction l with|nil=>rfl|cons x l ih=>{unfold cR at *;rw[gw,aw,ih];simp[lY];omega}
theorem yF:∀(l:List AT) (j:Nat) (h:j<l.length),(cR l)[j*2]?=some (.string (l[j]).1)/\(cR l)[j*2+1]?=some (.string (l[j]).2):=by
 intro l;induction l with|nil=>{intro j h;simp at h}|cons x l ih=>{intro j h;cases j with|zero=>exact⟨rfl,rfl⟩|succ j=>{have:=ih j (by simpa using h);rw[show(j+1)*2=j*2+2 by omega,show j*2+2+1=(j*2+1)+2 by omega];unfold cR at *;rw[gw];exact this}}
theorem vE (a b:List AT):cR (a++b)=cR a++cR b:=by unfold cR;rw[qh]
theorem aJ.attrs {B:Nat}{v:Value}{l:List AT}{i w:H}(h:aJ B 39 2 v l.length (cR l) i w):fK w v l:=by
 obtain⟨a,c,e,f⟩:=h.vec;refine⟨a,c,e,fun j o=>?_⟩;obtain⟨k,m⟩:=yF l j o;obtain⟨g,p,b,k1⟩:=f _ _ k;obtain⟨q,r,d,k2⟩:=f _ _ m;rw[b]at d;cases d;exact⟨g,p,b,k1,by rw[lr];exact k2⟩
theorem fK.get {w:H}{v:Value}{l:List AT}(h:fK w v l)(j:Nat)(m:j<l.length):∃g b c,v=.slice (some ⟨g,b,none⟩) l.length c/\w.cell? ⟨g,b+j*2,none⟩=some (.string (l[j]).1)/\w.cell? ⟨g,b+j*2+1,none⟩=some (.string (l[j]).2):=by
 obtain⟨a,c,e,k⟩:=h;obtain⟨g,b,i,d,f⟩:=k j m;exact⟨g,b,c,by rw[e,i],d,f⟩
def oT (s:I):Value:=.string s
theorem tY (v:Value)(zs:List I)(x:I)(w:H)(r:zs.length<=1000000000)(k:lD w v zs.length (zs.map oT))(b:Bool)(d:Lib.containsS zs x=b) :
  Y 85 #[v,.string x] w fun e w'=>e=.returned (.bool b)/\w=w':=by
 obtain⟨a,c,rfl,f⟩:=k;cases zs with
 | nil =>
  refine(Tryz.slices_Contains_string_empty a c x w).mono ?_;rintro e w' ⟨rfl,rfl⟩;exact⟨by rw[<-d];rfl,rfl⟩
 | cons z zs =>
  obtain⟨g,p,rfl,_⟩:=f 0 (oT z) (by simp);refine(Tryz.slices_Contains_string g p (z :: zs).length c (z :: zs) x w (ag _) (by omega) ?_).mono ?_
  ·intro j i;obtain⟨q,s,o,m⟩:=f j (oT ((z :: zs)[j])) (by rw[gv,bc i];rfl);cases o;rw[m];simp[oT,List.getD_eq_getElem?_getD,List.getElem?_eq_getElem i]
  ·rintro e w' ⟨rfl,rfl⟩;exact⟨by rw[jm,<-d],rfl⟩
theorem Tryz.info39:(Tryz.prog.info? 39).map (fun i=>(i.zero,i.size,i.bytes))=some (some (.agg #[.string ⟨#[]⟩,.string ⟨#[]⟩]),2,32):=by kernel_rfl
open Go.RowKit
section
variable {P:Program} (T E:TypeId) (ht:P.underlying T=some (.slice E)) (hs:(P.info? E).map (·.size)=some 1) (w:H) (a:Option Addr) (n c l h:Nat)
include ht hs
theorem aLB (b:h<=c):(Instr.slice T (.slice a n c) none (some (.int .i64 h)) none).run P w=.ok (.slice a h c) w:=by
 cases hq:P.info? E with|none=>simp[hq]at hs|some i=>simp[Instr.slice,run_underlying ht,Instr.sliceBounds,run_sliceBound,sizeOf,typeInfo,hq,b,Addr.add]
theorem yY (h1:l<=h)(b:h<=c):(Instr.slice T (.slice a n c) (some (.int .i64 l)) (some (.int .i64 h)) none).run P w=.ok (.slice (if c=l then a else a.map (·.add l)) (h-l) (c-l)) w:=by
 cases hq:P.info? E with|none=>simp[hq]at hs|some i=>{have hi:i.size=1:=by{simpa [hq]using hs};simp[Instr.slice,run_underlying ht,Instr.sliceBounds,run_sliceBound,sizeOf,typeInfo,hq,hi,h1,b]}
end
theorem jE.empty (w:H)(base:Nat)(E:TypeId)(h:base<=w.heap.size):jE (w.alloc (.cells #[] E)) base E (some ⟨w.heap.size,0,none⟩) 0 [] :=
 World.ownsRow_made w #[] 0 h (by unfold maxLen;omega) rfl
theorem IsB.same {w w':H}{a:Option Addr}{bs:U}(h:IsB w a bs)(f:w'.heap=w.heap):IsB w' a bs:=by
 intro j b d;obtain⟨x,hx,e⟩:=h j b d;exact⟨x,hx,by unfold World.cell? at *;rw[f];exact e⟩
open Go.RowKit PU8
theorem aP9 (c:Nat)(h:c<128):PU8.size c=(1,c):=by unfold PU8.size;rw[ae h]
theorem aP8 (c:Nat)(h:128<=c)(b:c<192):PU8.size c=(0,0):=by unfold PU8.size;rw[ac (by omega),ac (by omega),ac (by omega),ac (by omega)]
theorem aQa (c:Nat)(h:192<=c)(b:c<224):PU8.size c=(2,c-192):=by unfold PU8.size;rw[ac (by omega),ae (by omega)]
theorem aQb (c:Nat)(h:224<=c)(b:c<240):PU8.size c=(3,c-224):=by unfold PU8.size;rw[ac (by omega),ac (by omega),ae (by omega)]
theorem aQc (c:Nat)(h:240<=c)(b:c<248):PU8.size c=(4,c-240):=by unfold PU8.size;rw[ac (by omega),ac (by omega),ac (by omega),ae (by omega)]
theorem aQd (c:Nat)(h:248<=c):PU8.size c=(0,0):=by unfold PU8.size;rw[ac (by omega),ac (by omega),ac (by omega),ac (by omega)]
theorem wV {a b c d:Int}(h:a=c)(e:b=d):Ending.returned (.tuple #[.int .i64 a,.int .i64 b])=.returned (.tuple #[.int .i64 c,.int .i64 d]):=by rw[h,e]
theorem aRH {a b:Bool}(h:a=b):Ending.returned (.bool a)=.returned (.bool b):=by rw[h]
theorem aPY {a b:Int}(h:a=b):Ending.returned (.int .i64 a)=.returned (.int .i64 b):=by rw[h]
theorem vI (c:UInt8)(n v:Nat)(w:H)(hs:G (PU8.size c.toNat=(n,v))) :
  Y 180 #[.int .u8 c.toNat] w fun e w'=>e=.returned (.tuple #[.int .i64 n,.int .i64 v])/\w=w':=by
 have f:c.toNat<256:=c.toNat_lt;generalize c.toNat=c at hs f;have g:c<128\/(128<=c/\c<192)\/(192<=c/\c<224)\/(224<=c/\c<240)\/(240<=c/\c<248)\/248<=c:=by omega
 rcases g with h|⟨h,d⟩|⟨h,d⟩|⟨h,d⟩|⟨h,d⟩|h
 ·have b:=aP9 c h;rw[hs.o]at b
  obtain⟨rfl,rfl⟩:=gz b;clear b;go_enter Tryz.func180,Tryz.ntmps180
  go_wp2
  go_ret2;exact⟨wV (by omega) (by omega),rfl⟩
 ·have b:=aP8 c h d;rw[hs.o]at b
  obtain⟨rfl,rfl⟩:=gz b;clear b;go_enter Tryz.func180,Tryz.ntmps180
  go_wp2
  go_ret2;exact⟨wV (by omega) (by omega),rfl⟩
 ·have b:=aQa c h d;rw[hs.o]at b
  obtain⟨rfl,rfl⟩:=gz b;clear b;go_enter Tryz.func180,Tryz.ntmps180
  go_wp2
  go_ret2;exact⟨wV (by omega) (by omega),rfl⟩
 ·have b:=aQb c h d;rw[hs.o]at b
  obtain⟨rfl,rfl⟩:=gz b;clear b;go_enter Tryz.func180,Tryz.ntmps180
  go_wp2
  go_ret2;exact⟨wV (by omega) (by omega),rfl⟩
 ·have b:=aQc c h d;rw[hs.o]at b
  obtain⟨rfl,rfl⟩:=gz b;clear b;go_enter Tryz.func180,Tryz.ntmps180
  go_wp2
  go_ret2;exact⟨wV (by omega) (by omega),rfl⟩
 ·have b:=aQd c h;rw[hs.o]at b
  obtain⟨rfl,rfl⟩:=gz b;clear b;go_enter Tryz.func180,Tryz.ntmps180
  go_wp2
  go_ret2;exact⟨wV (by omega) (by omega),rfl⟩
theorem aJf (n:Nat)(k:n<=4)(w:H):Y 181 #[.int .i64 n] w fun e w'=>e=.returned (.int .i64 (PU8.least n:Nat))/\w=w':=by
 have j:n=0\/n=1\/n=2\/n=3\/n=4:=by{omega};have b:PU8.least 0=0:=rfl;have d:PU8.least 1=0:=rfl;have f:PU8.least 2=128:=rfl;have g:PU8.least 3=2048:=rfl;have i:PU8.least 4=65536:=rfl;rcases j with rfl|rfl|rfl|rfl|rfl
 all_goals
  simp only[b,d,f,g,i];clear b d f g i;go_enter Tryz.func181,Tryz.ntmps181
  go_wp2
  go_ret;exact⟨aPY (by simp),rfl⟩
theorem aLo (c:Nat)(h:Val c)(w:H):Y 131 #[.int .i64 c] w fun e w'=>e=.returned (.bool true)/\w=w':=by
 obtain⟨b,d⟩:=h;rcases b with b|b;{go_enter Tryz.func131,Tryz.ntmps131;go_wp2;go_ret;exact⟨rfl,rfl⟩};{go_enter Tryz.func131,Tryz.ntmps131;go_wp2;go_ret;exact⟨aRH (by simp;omega),rfl⟩}
open Go.RowKit
def wY:I:=⟨#[98,111,100,121]⟩
def rF:I:=⟨#[100,105,118]⟩
def wZ:I:=⟨#[102,111,110,116]⟩
def mV:I:=⟨#[115,99,114,105,112,116]⟩
def sBS:I:=⟨#[98]⟩
def sIS:I:=⟨#[105]⟩
def sXS:I:=⟨#[120]⟩
def sYS:I:=⟨#[121]⟩
def sZS:I:=⟨#[122]⟩
def aFn:List Nd:=[elN rF [elN wZ [bG sXS,elN mV [bG sYS]],bG sZS]]
def aFo:List Nd:=[elN sBS [elN sIS [elN sBS [bG sXS]]]]
def aBI:List Nd:=[elN rF [bG ⟨#[120,122]⟩]]
def aBJ:List Nd:=[elN sBS [elN sIS [bG sXS]]]
theorem aO7 (A:cY):aM A wY [] aFn=[.mk 1 0 rF (A rF []) ⟨#[]⟩ [bG ⟨#[120,122]⟩]]:=by kernel_rfl
theorem aO8 (A:cY):aM A wY [] aFo=[.mk 1 0 sBS (A sBS []) ⟨#[]⟩ [.mk 1 0 sIS (A sIS []) ⟨#[]⟩ [bG sXS]]]:=by kernel_rfl
theorem aQ9 (A:cY)(b:∀e,A e []=[]):aM A wY [] aFn=aBI:=by
 rw[aO7,b];rfl
theorem aRa (A:cY)(b:∀e,A e []=[]):aM A wY [] aFo=aBJ:=by
 rw[aO8,b,b];rfl
open Go.Lib
theorem aG5 (V:I->I->Option I)(x:AT):∀(l:List AT) (b:List I),(x.1∈b\/∃y∈l,y.1=x.1)->bC V b (l++[x])=bC V b l:=by
 intro l;induction l with|nil=>{intro b h;rcases h with h|⟨y,d,_⟩;{show bC V b [x]=bC V b [];(conv=>lhs;unfold bC);rw[ae ((ip _ _).2 h)]};{simp at d}}|cons y l ih=>{intro b h;show bC V b (y :: (l++[x]))=_;by_cases d:y.1∈b;{(conv=>lhs;unfold bC);(conv=>rhs;unfold bC);rw[ae ((ip _ _).2 d),ae ((ip _ _).2 d)];refine ih b ?_;rcases h with h|⟨z,f,e⟩;{exact .inl h};{rcases ce.1 f with rfl|f;{exact .inl (e▸d)};{exact .inr ⟨z,f,e⟩}}};{(conv=>lhs;unfold bC);(conv=>rhs;unfold bC);rw[ac (fun h=>d ((ip _ _).1 h)),ac (fun h=>d ((ip _ _).1 h))];rw[ih (b++[y.1]) ?_];rcases h with h|⟨z,f,e⟩;{exact .inl (vy _ h)};{rcases ce.1 f with rfl|f;{exact .inl (by rw[<-e];simp)};{exact .inr ⟨z,f,e⟩}}}}
theorem aBe (V:I->I->Option I)(x:AT):∀(l:List AT) (b:List I),x.1∉b->(∀y∈l,y.1≠x.1)->bC V b (l++[x])=bC V b l++(match V x.1 x.2 with|some t=>[(x.1,t)]|none=>[]):=by
 intro l;induction l with
 | nil =>
  intro b h _;show bC V b [x]=bC V b []++_;conv=>lhs;unfold bC
  rw[ac (fun i=>h ((ip _ _).1 i))];cases V x.1 x.2<;>simp[bC]
 | cons y l ih =>
  intro b h f;show bC V b (y :: (l++[x]))=_;have g:∀z∈l,z.1≠x.1:=fun z j=>f z (ew _ j)
  by_cases d:y.1∈b
  ·conv=>lhs;unfold bC
   conv=>rhs;lhs;unfold bC
   rw[ae ((ip _ _).2 d),ae ((ip _ _).2 d)];exact ih b h g
  ·conv=>lhs;unfold bC
   conv=>rhs;lhs;unfold bC
   rw[ac (fun h=>d ((ip _ _).1 h)),ac (fun h=>d ((ip _ _).1 h))];rw[ih (b++[y.1]) (by
    simp only[de,fu,ic];exact⟨h,fun e=>f y eh e.symm⟩) g,ct]
structure lB (V:I->I->Option I) (l:List AT) (k:Nat) (done:List AT):Prop where
 le:k<=l.length
 dl:done.length<=k
 o:nX V (l.take k) done
theorem lB.start (V:I->I->Option I)(l:List AT):lB V l 0 []:=⟨ax _,ag _,by
 refine⟨?_,List.Pairwise.nil⟩;rw[f7];exact List.Perm.nil⟩
theorem lB.done {V:I->I->Option I}{l:List AT}{k:Nat}{done:List AT}(h:lB V l k done)(b:l.length<=k):nX V l done:=by
 have:=h.o;rwa[cy b]at this
theorem lB.old {V:I->I->Option I}{l:List AT}{k:Nat}{done:List AT}(h:lB V l k done)(b:k<l.length)(f:∃j,∃d:j<k,(l[j]).1=(l[k]).1):lB V l (k+1) done:=by
 have:=h.dl;refine⟨b,by omega,?_,h.o.2⟩;obtain⟨j,d,e⟩:=f;rw[fw b,aG5 V l[k] (l.take k) [] (.inr ⟨l[j],ja.2 ⟨j,by omega,rfl⟩,e⟩)];exact h.o.1
theorem lB.no {V:I->I->Option I}{l:List AT}{k:Nat}{done:List AT}(h:lB V l k done)(b:k<l.length)(f:V (l[k]).1 (l[k]).2=none):lB V l (k+1) done:=by
 have:=h.dl;by_cases d:∃j,∃hj:j<k,(l[j]).1=(l[k]).1;{exact h.old b d};refine⟨b,by omega,?_,h.o.2⟩;rw[fw b,aBe V l[k] (l.take k) [] (by simp) (fun y g e=>?_),f];{rw[dc];exact h.o.1};{obtain⟨j,hj,rfl⟩:=ja.1 g;exact d ⟨j,by omega,e⟩}
theorem lB.yes {V:I->I->Option I}{l:List AT}{k:Nat}{done:List AT}{t:I}(h:lB V l k done)(q:k<l.length)(r:∀j,∀hj:j<k,(l[j]).1≠(l[k]).1)(C:V (l[k]).1 (l[k]).2=some t)
  (p:Nat) (K:p<=done.length) (u:∀j,∀hj:j<done.length,p<=j->compareBytes (l[k]).1.data.toList (done[j]).1.data.toList<0) (x:∀D:0<p,¬compareBytes (l[k]).1.data.toList (done[p-1]).1.data.toList<0) :
  lB V l (k+1) (done.take p++((l[k]).1,t) :: done.drop p):=by
 have F:=h.dl;have B:∀d∈done,d.1≠(l[k]).1:=by{intro d hd e;obtain⟨v,hm,_⟩:=aCj V (l.take k) [] d (h.o.1.mem_iff.1 hd);obtain⟨j,hj,s⟩:=ja.1 hm;exact r j (by omega) (by rw[s];exact e)};refine⟨q,by simp;omega,?_,?_⟩;{rw[fw q,aBe V l[k] (l.take k) [] (by simp) (fun y g e=>?_),C];{refine List.Perm.trans ?_ (h.o.1.append_right _);refine List.perm_middle.trans ?_;rw[jt];exact List.perm_append_comm (l₁ := [((l[k]).1,t)])};{obtain⟨j,hj,rfl⟩:=ja.1 g;exact r j (by omega) e}}
 ·have hr:=h.o.2;unfold tV at hr ⊢;have A:∀d∈done.take p,compareBytes d.1.data.toList (l[k]).1.data.toList<0:=by
   intro d hd;obtain⟨j,hj,rfl⟩:=ja.1 hd;have J:j<p:=by{omega};have a:=x (by omega);rw[nF (done[p-1]).1.data.toList]at a
   have b:compareBytes (done[p-1]).1.data.toList (l[k]).1.data.toList≠0:=fun e=>B (done[p-1]'(by omega)) (fl _) (by
    have:=uY _ _ e;cases hx:(done[p-1]).1;cases g:(l[k]).1;rw[hx,g]at this
    simpa using this)
   by_cases z:j=p-1;{subst z;omega};{rw[t8]at hr;have c:=hr j (p-1) (by omega) (by omega) (by omega);unfold gZ at c;exact xY _ _ _ c (by omega)}
  rw[List.pairwise_append];refine⟨hr.sublist (List.take_sublist _ _),?_,?_⟩;{rw[qq];refine⟨fun d hd=>?_,hr.sublist (List.drop_sublist _ _)⟩;obtain⟨j,hj,rfl⟩:=wg.1 hd;exact u (p+j) (by omega) (by omega)};{intro a m b f;rcases ce.1 f with rfl|f;{exact A a m};{obtain⟨i,hi,rfl⟩:=ja.1 m;obtain⟨j,hj,rfl⟩:=wg.1 f;rw[t8]at hr;exact hr i (p+j) (by omega) (by omega) (by omega)}}
theorem less_iff:∀a b:U,Op.bytesLess a b=decide (compareBytes a b<0):=by
 intro a;induction a with|nil=>{intro b;cases b with|nil=>rfl|cons d b=>simp[compareBytes,Op.bytesLess]}|cons c a ih=>{intro b;cases b with|nil=>simp[compareBytes,Op.bytesLess]|cons d b=>{rw[tK];unfold Op.bytesLess;by_cases g:c.toNat<d.toNat;{have:decide (c<d)=true:=by{simp[UInt8.lt_iff_toNat_lt];omega};rw[this,ae g];rfl};{have h1':decide (c<d)=false:=by{simp[UInt8.lt_iff_toNat_lt];omega};rw[ac g,h1',jw];by_cases f:d.toNat<c.toNat;{rw[ae f];have:(c==d)=false:=by{rw[ai];intro e;rw[e]at f;omega};rw[this];rfl};{rw[ac f];have e:c=d:=dx.1 (by omega);rw[ih b,e];simp}}}}
