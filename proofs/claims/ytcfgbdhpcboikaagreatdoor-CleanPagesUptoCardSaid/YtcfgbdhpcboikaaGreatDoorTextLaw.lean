/-
policy.Text and Link as functions of bytes: the characters of a text, some left out. No program in sight.
-/
import Derived.Lib.MapLaws
import Derived.Lib.Replace
import Derived.Lib.TrimByte
import Derived.Test.YtcfgbdhpcboikaaGreatDoorUtf8Law
namespace Go.Proofs.YtcfgbdhpcboikaaGreatDoor
open PU8
theorem yN {n:Nat}:n<=n:=ag n
def aL (l:U):List Nat:=l.map UInt8.toNat
def bA (v:Nat):U:=(encN v).map UInt8.ofNat
def Val (v:Nat):Prop:=(v<0xd800\/0xdfff<v)/\v<=0x10ffff
theorem oY {l:U}(h:l≠[]):aL l≠[]:=by
 unfold aL;simpa using h
theorem rU (l:U)(h:l≠[]):1<=(pieceU (aL l)).1:=by
 have:=(sameU (aL l) (oY h)).num;omega
theorem aKn:bA 0xfffd=[239,191,189]:=by decide
theorem aEu (l:U)(h:l≠[]):Val (pieceU (aL l)).2.1:=by
 have s:=sameU (aL l) (oY h);cases hw:(lookU (aL l)).2 with|true=>exact(s.val hw).2|false=>{rw[s.bad hw];exact⟨by decide,by decide⟩}
theorem vY (l:U)(h:l≠[])(g:(lookU (aL l)).2=true):bA (pieceU (aL l)).2.1=l.take (lookU (aL l)).1/\1<=(lookU (aL l)).1/\(lookU (aL l)).1<=l.length:=by
 have s:=sameU (aL l) (oY h);obtain⟨f,q⟩:=s.val g;have e:∀b:List Nat,(lookU b).2=true->1<=(lookU b).1:=by
  intro b;have a:∀d lo hi n r,1<=n->1<=(contU d lo hi n r).1:=by{intro d;induction d with|zero=>{intro lo hi n r e;simpa [contU]using e}|succ k ih=>{intro lo hi n r e;cases r with|nil=>simpa [contU]using e|cons c r=>{unfold contU;split;{exact e};{exact ih _ _ _ _ (by omega)}}}}
  cases b with
  | nil=>simp[lookU]
  | cons c r =>
   rw[look_cons];intro u;repeat' split
   all_goals first
    | (exact a _ _ _ _ _ yN)
    | (simp_all;done)
    | decide
 have m:=e _ g;have p:(pieceU (aL l)).1=(lookU (aL l)).1:=by{have:=s.num;omega};rw[p]at f
 have hlen:(lookU (aL l)).1<=l.length:=by
  have j:=az List.length f;rw[br]at j;have t:1<=(encN (pieceU (aL l)).2.1).length:=by{unfold encN;(repeat' split);all_goals simp}
  have o:∀b:List Nat,b≠[]->(lookU b).1<=b.length:=by
   have a:∀d lo hi n (r:List Nat),(contU d lo hi n r).1<=n+r.length:=by{intro d;induction d with|zero=>{intro lo hi n r;simp[contU]}|succ k ih=>{intro lo hi n r;cases r with|nil=>simp[contU]|cons c r=>{unfold contU;split;{simp};{have:=ih 0x80 0xbf (n+1) r;simp only[bw];omega}}}}
   intro b i;cases b with
   | nil=>exact absurd rfl i
   | cons c r =>
    rw[look_cons];simp only[bw];repeat' split
    all_goals first
     | (have:=a 1 0x80 0xbf 1 r;omega)
     | (have:=a 2 0xa0 0xbf 1 r;omega)
     | (have:=a 2 0x80 0x9f 1 r;omega)
     | (have:=a 2 0x80 0xbf 1 r;omega)
     | (have:=a 3 0x90 0xbf 1 r;omega)
     | (have:=a 3 0x80 0xbf 1 r;omega)
     | (have:=a 3 0x80 0x8f 1 r;omega)
     | (simp only;omega)
  have:=o _ (oY h);simpa [aL]using this
 refine⟨?_,m,hlen⟩;unfold bA;rw[f];unfold aL;rw[<-List.map_take,pu];conv=>rhs;rw[<-List.map_id (List.take (lookU (List.map UInt8.toNat l)).1 l)]
 apply px;intro c _;simp
theorem aLf (l:U)(h:l≠[])(a:(lookU (aL l)).2=false):(pieceU (aL l)).2.1=0xfffd :=
 (sameU (aL l) (oY h)).bad a
theorem aEt (l:U)(h:l≠[]):(pieceU (aL l)).1=max (lookU (aL l)).1 1:=(sameU (aL l) (oY h)).num
def pB:Nat->U->List Nat
 | 0,_=>[]
 | n+1,l=>if l=[]then []else (pieceU (aL l)).2.1 :: pB n (l.drop (pieceU (aL l)).1)
def fZ (l:U):List Nat:=pB l.length l
theorem rE (n:Nat):pB n []=[]:=by cases n<;>simp[pB]
theorem aGI:∀(n m:Nat) (l:U),l.length<=n->l.length<=m->pB n l=pB m l:=by
 intro n;induction n with|zero=>{intro m l b _;have:l=[]:=fv (by omega);subst this;rw[rE,rE]}|succ n ih=>{intro m l b d;by_cases a:l=[];{subst a;rw[rE,rE]};{have e:=rU l a;have c:0<l.length:=ie.2 a;cases m with|zero=>omega|succ m=>{unfold pB;rw[ac a,ac a,ih m _ (by rw[bn];omega) (by rw[bn];omega)]}}}
theorem aAv:fZ []=[]:=rfl
theorem qA (l:U)(h:l≠[]):fZ l=(pieceU (aL l)).2.1 :: fZ (l.drop (pieceU (aL l)).1):=by
 have b:0<l.length:=ie.2 h;have c:=rU l h;unfold fZ;obtain⟨n,a⟩:∃n,l.length=n+1:=⟨l.length-1,by omega⟩;rw[a];conv=>lhs;unfold pB
 rw[ac h,aGI n _ _ (by rw[bn];omega) yN]
theorem vK:∀(n:Nat) (l:U),l.length<=n->∀r∈fZ l,Val r:=by
 intro n;induction n with|zero=>{intro l b r hr;have:l=[]:=fv (by omega);subst this;rw[aAv]at hr;cases hr}|succ n ih=>{intro l b r hr;by_cases a:l=[];{subst a;rw[aAv]at hr;cases hr};{rw[qA l a]at hr;have c:=rU l a;have d:0<l.length:=ie.2 a;rcases ce.1 hr with rfl|hr;{exact aEu l a};{exact ih _ (by rw[bn];omega) r hr}}}
def nR (l:U):U:=(fZ l).flatMap bA
theorem aDH:nR []=[]:=rfl
theorem aFO (l:U)(h:l≠[]):nR l=(if (lookU (aL l)).2=true then l.take (lookU (aL l)).1 else [239,191,189])++nR (l.drop (max (lookU (aL l)).1 1)):=by
 unfold nR;rw[qA l h,gw,aEt l h];congr 1;cases hw:(lookU (aL l)).2 with|true=>{rw[(vY l h hw).1];rfl}|false=>{rw[aLf l h hw,aKn];rfl}
theorem ofN (n:Nat)(h:n<256):(UInt8.ofNat n).toNat=n:=by
 rw[UInt8.toNat_ofNat'];omega
theorem tN (v:Nat):1<=(bA v).length/\(bA v).length<=4:=by
 unfold bA;rw[dw];unfold encN;repeat' split
 all_goals simp
theorem aIG (r:Nat)(h:Val r)(t:U):Lib.decodeL (bA r++t)=(r,(bA r).length):=by
 obtain⟨d,f⟩:=h;rw[Lib.decodeL_N];by_cases a:r<0x80;{have e:bA r=[UInt8.ofNat r]:=by{unfold bA encN;rw[ae a];rfl};rw[e];simp only[dh,en,bw,cu,qm];rw[ofN r (by omega)];unfold Lib.decodeN;rw[ae (by omega)]};{by_cases b:r<0x800;{have e:bA r=[UInt8.ofNat (0xc0+r / 64),UInt8.ofNat (0x80+r%64)]:=by{unfold bA;rw[enc_two r (by omega) b];rfl};rw[e];simp only[dh,en,bw,cu,qm,tw];rw[ofN _ (by omega),ofN _ (by omega)];unfold Lib.decodeN;rw[ac (by omega),ae (by omega),ae (by omega)];apply Prod.ext;{simp only;omega};{rfl}};{by_cases c:r<0x10000;{have e:bA r=[UInt8.ofNat (0xe0+r / 4096),UInt8.ofNat (0x80+r / 64%64),UInt8.ofNat (0x80+r%64)]:=by{unfold bA;rw[enc_three r (by omega) c];rfl};rw[e];simp only[dh,en,bw,cu,qm,tw];rw[ofN _ (by omega),ofN _ (by omega),ofN _ (by omega)];unfold Lib.decodeN;rw[ac (by omega),ac (by omega),ae (by omega),ae (by omega)];apply Prod.ext;{simp only;omega};{rfl}};{have e:bA r=[UInt8.ofNat (0xf0+r / 262144),UInt8.ofNat (0x80+r / 4096%64),UInt8.ofNat (0x80+r / 64%64),UInt8.ofNat (0x80+r%64)]:=by{unfold bA;rw[enc_four r (by omega)];rfl};rw[e];simp only[dh,en,bw,cu,qm,tw];rw[ofN _ (by omega),ofN _ (by omega),ofN _ (by omega),ofN _ (by omega)];unfold Lib.decodeN;rw[ac (by omega),ac (by omega),ac (by omega),ae (by omega),ae (by omega)];apply Prod.ext;{simp only;omega};{rfl}}}}
theorem aDJ (r:Nat)(h:Val r):Lib.encodeRune (r:Int)=bA r:=by
 obtain⟨g,i⟩:=h;have d:∀(z:Int) (n:Nat),z=(n:Int)->z.toNat.toUInt8=UInt8.ofNat n:=by{intro z n f;subst f;rfl};unfold Lib.encodeRune;by_cases a:r<0x80;{rw[Lib.encodeRuneZ_one (by omega) (by omega)];have e:bA r=[UInt8.ofNat r]:=by{unfold bA encN;rw[ae a];rfl};rw[e];simp only[co,fj];rw[d _ r rfl]};{by_cases b:r<0x800;{rw[Lib.encodeRuneZ_two (by omega) (by omega)];have e:bA r=[UInt8.ofNat (0xc0+r / 64),UInt8.ofNat (0x80+r%64)]:=by{unfold bA;rw[enc_two r (by omega) b];rfl};rw[e];simp only[co,fj];rw[d _ (0xc0+r / 64) (by omega),d _ (0x80+r%64) (by omega)]};{by_cases c:r<0x10000;{rw[Lib.encodeRuneZ_three (by omega)];have e:bA r=[UInt8.ofNat (0xe0+r / 4096),UInt8.ofNat (0x80+r / 64%64),UInt8.ofNat (0x80+r%64)]:=by{unfold bA;rw[enc_three r (by omega) c];rfl};rw[e];simp only[co,fj];rw[d _ (0xe0+r / 4096) (by omega),d _ (0x80+r / 64%64) (by omega),d _ (0x80+r%64) (by omega)]};{rw[Lib.encodeRuneZ_four (by omega) (by omega)];have e:bA r=[UInt8.ofNat (0xf0+r / 262144),UInt8.ofNat (0x80+r / 4096%64),UInt8.ofNat (0x80+r / 64%64),UInt8.ofNat (0x80+r%64)]:=by{unfold bA;rw[enc_four r (by omega)];rfl};rw[e];simp only[co,fj];rw[d _ (0xf0+r / 262144) (by omega),d _ (0x80+r / 4096%64) (by omega),d _ (0x80+r / 64%64) (by omega),d _ (0x80+r%64) (by omega)]}}}
def fP (r:Nat):Bool:=decide (r=9)||decide (r=10)||(decide (32<=r)&&decide (r<127))||decide (159<r)
def mB (r:Int):Int:=if r<32/\r≠9/\r≠10\/127<=r/\r<=159 then -1 else r
def cI (l:U):U:=((fZ l).filter fP).flatMap bA
theorem aJy (r:Nat)(h:fP r=true):mB (r:Int)=(r:Int):=by
 unfold fP at h;simp only[k8,bt,bm]at h;unfold mB;rw[ac (by omega)]
theorem aJx (r:Nat)(h:fP r=false):mB (r:Int)=-1:=by
 unfold fP at h;simp only[th,je,g8]at h;unfold mB;rw[ae (by omega)]
theorem aHG (x:Nat)(h:x<=1114111):-2147483648<=mB x/\mB x<=2147483647:=by
 unfold mB;split<;>omega
theorem aCt (r:Nat)(t:U):bA r++t≠[]:=by
 have:=(tN r).1;intro h;rw[List.append_eq_nil_iff]at h;rw[h.1]at this;simp at this
theorem aPt (a:List Nat)(b:∀r∈a,Val r):Lib.mapD mB (a.flatMap bA)=(a.filter fP).flatMap bA:=by
 induction a with|nil=>rfl|cons r a ih=>{have hr:=b r (eh ..);rw[gw,Lib.mapD_step _ _ (aCt r _),aIG r hr];simp only[ig];rw[ih fun x hx=>b x (ew _ hx)];cases hk:fP r with|true=>rw[aJy r hk,ae (by omega),ox hk,gw,aDJ r hr]|false=>{rw[aJx r hk,ac (by omega),oy (by simp[hk])];rfl}}
theorem aPs (l:U):Lib.mapD mB (nR l)=cI l:=aPt _ (vK l.length l yN)
theorem aDG:∀(n:Nat) (l:U),l.length<=n->(nR l).length<=3*l.length:=by
 intro n;induction n with|zero=>{intro l b;have:l=[]:=fv (by omega);subst this;simp[aDH]}|succ n ih=>{intro l b;by_cases a:l=[];{subst a;simp[aDH]};{have f:0<l.length:=ie.2 a;rw[aFO l a,aw];have:=ih (l.drop (max (lookU (aL l)).1 1)) (by rw[bn];omega);rw[bn]at this;split;{rename_i c;obtain⟨_,h1,d⟩:=vY l a c;rw[br];omega};{simp only[bw,cu];by_cases e:max (lookU (aL l)).1 1<=l.length;{omega};{omega}}}}
theorem aN9 (l:U):(cI l).length<=(nR l).length:=by
 unfold cI nR;generalize fZ l=rs;induction rs with|nil=>simp|cons r rs ih=>{rw[gw,aw];cases hk:fP r with|true=>{rw[ox hk,gw,aw];omega}|false=>{rw[oy (by simp[hk])];omega}}
theorem yH (b:UInt8)(l:U)(c:UInt8):Lib.index (b :: l) [c]=if b=c then 0 else if Lib.index l [c]=-1 then -1 else Lib.index l [c]+1:=by
 have e:Lib.index (b :: l) [c]=if [c].isPrefixOf (b :: l)then 0 else if Lib.index l [c]==-1 then -1 else Lib.index l [c]+1:=rfl
 rw[e];by_cases h:b=c;{subst h;simp};{have a:¬c=b:=fun x=>h x.symm;simp[h,a]}
theorem aF6 (l:U)(c:UInt8)(h:c∉l):Lib.index l [c]=-1:=by
 induction l with|nil=>rfl|cons b l ih=>{have a:¬b=c:=fun e=>h (e▸eh ..);rw[yH,ac a,ae (ih fun x=>h (ew _ x))]}
theorem aF5 (p q:U)(c:UInt8)(h:c∉p):Lib.index (p++c :: q) [c]=p.length:=by
 induction p with|nil=>{rw[en,yH,ae rfl];rfl}|cons b p ih=>{have a:¬b=c:=fun e=>h (e▸eh ..);have:=ih fun x=>h (ew _ x);rw[dh,yH,ac a,this,ac (by omega)];simp}
theorem aB2 {l:U}{c:UInt8}(h:c∈l):∃p q,l=p++c :: q/\c∉p:=by
 induction l with|nil=>cases h|cons b l ih=>{by_cases a:b=c;{subst a;exact⟨[],l,rfl,by simp⟩};{obtain⟨p,q,e,d⟩:=ih ((ce.1 h).resolve_left fun x=>a x.symm);refine⟨b :: p,q,by rw[e];rfl,?_⟩;intro hx;rcases ce.1 hx with rfl|hx;{exact a rfl};{exact d hx}}}
theorem aDE (p q:U)(c:UInt8)(h:c∉p):Lib.cut (p++c :: q) [c]=(p,q,true):=by
 unfold Lib.cut;rw[aF5 p q c h,ae (by omega)];simp
theorem aFN (l:U)(c:UInt8)(h:c∉l):Lib.cut l [c]=(l,[],false):=by
 unfold Lib.cut;rw[aF6 l c h,ac (by omega)]
theorem aBj (l:U)(c:UInt8)(h:c∉l):l.filter (fun b=>b !=c)=l:=by
 rw[qo];intro b a;simp only[db,ne_eq];intro e;exact h (e▸a)
theorem aGF (c:UInt8):∀(n:Nat) (l:U) (f:Nat),l.length<=n->l.length<f->Lib.replaceK [c] [] (Lib.countFrom [c] f l) l=l.filter (fun b=>b !=c):=by
 intro n;induction n with
 | zero =>
  intro l f k i;have:l=[]:=fv (by omega);subst this;obtain⟨g,rfl⟩:∃g,f=g+1:=⟨f-1,by omega⟩
  rfl
 | succ n ih =>
  intro l f k i;obtain⟨g,rfl⟩:∃g,f=g+1:=⟨f-1,by omega⟩
  by_cases a:c∈l
  ·obtain⟨p,q,rfl,h⟩:=aB2 a;have hi:=aF5 p q c h;have hlen:(p++c :: q).length=p.length+q.length+1:=by simp;omega
   have hd:(p++c :: q).drop (p.length+1)=q:=by
    rw[<-jd,ig];rfl
   have d:Lib.countFrom [c] (g+1) (p++c :: q)=Lib.countFrom [c] g q+1:=by
    have e:Lib.countFrom [c] (g+1) (p++c :: q)=if Lib.index (p++c :: q) [c]==-1 then 0 else 1+Lib.countFrom [c] g ((p++c :: q).drop ((Lib.index (p++c :: q) [c]).toNat+1)):=rfl
    rw[e,hi];have m:¬(((p.length:Nat):Int)==-1)=true:=fun x=>by have:=cv.1 x;omega
    rw[ac m,fh,hd];omega
   rw[d,kt [c] [] _ _ p.length hi];have j:(p++c :: q).drop (p.length+[c].length)=q:=hd;rw[j,ih q g (by omega) (by omega),mu,dc,mr,aBj p c h,oy (by simp)]
  ·have d:Lib.countFrom [c] (g+1) l=0:=by
    have e:Lib.countFrom [c] (g+1) l=if Lib.index l [c]==-1 then 0 else 1+Lib.countFrom [c] g (l.drop ((Lib.index l [c]).toNat+1)):=rfl
    rw[e,aF6 l c a];rfl
   rw[d,aBj l c a];rfl
theorem wU (c:UInt8)(l:U):Lib.replaceAll l [c] []=l.filter (fun b=>b !=c):=by
 unfold Lib.replaceAll Lib.replace;rw[ac (by simp)];have:Lib.replaceNum l [c] (-1)=Lib.countFrom [c] (l.length+1) l:=by{unfold Lib.replaceNum;rw[ae (Or.inl (by omega))];rfl};rw[this,aGF c l.length l _ yN (by omega)]
def eV (l:U):U:=((cI l).filter (fun b=>b !=9)).filter (fun b=>b !=10)
def cG (l:U):U:=Lib.trimB (eV l) 32
theorem qX (l:U):eV l=(cI l).filter (fun b=>b !=9&&b !=10):=by
 unfold eV;rw[List.filter_filter];congr 1;funext b;cases (b !=9)<;>cases (b !=10)<;>rfl
theorem aO4 (r:Nat)(d:fP r=true)(e:Val r):∀b∈bA r,b.toNat<=32->b.toNat=9\/b.toNat=10\/b.toNat=32:=by
 intro b a c;obtain⟨f,g⟩:=e;unfold fP at d;simp only[k8,bt,bm]at d;unfold bA encN at a;split at a;{simp only[co,fj,ce,kg,gx]at a;subst a;rw[ofN r (by omega)]at c ⊢;omega};{exfalso;split at a;{simp only[co,fj,ce,kg,gx]at a;rcases a with rfl|rfl;{rw[ofN _ (by omega)]at c;omega};{rw[ofN _ (by omega)]at c;omega}};{split at a;{simp only[co,fj,ce,kg,gx]at a;rcases a with rfl|rfl|rfl;{rw[ofN _ (by omega)]at c;omega};{rw[ofN _ (by omega)]at c;omega};{rw[ofN _ (by omega)]at c;omega}};{simp only[co,fj,ce,kg,gx]at a;rcases a with rfl|rfl|rfl|rfl;{rw[ofN _ (by omega)]at c;omega};{rw[ofN _ (by omega)]at c;omega};{rw[ofN _ (by omega)]at c;omega};{rw[ofN _ (by omega)]at c;omega}}}}
theorem aOa (l:U):∀b∈cI l,b.toNat<=32->b.toNat=9\/b.toNat=10\/b.toNat=32:=by
 intro b a;unfold cI at a;obtain⟨r,hr,a⟩:=List.mem_flatMap.1 a;obtain⟨hr,c⟩:=ke.1 hr;exact aO4 r c (vK l.length l yN r hr) b a
theorem aMu (l:U):∀b∈eV l,b.toNat<=32->b=32:=by
 intro b a h;rw[qX]at a;obtain⟨a,c⟩:=ke.1 a;simp only[bt,db,ne_eq]at c;rcases aOa l b a h with e|e|e;{exact absurd (dx.1 (e.trans (by rfl:(9:Nat)=(9:UInt8).toNat))) c.1};{exact absurd (dx.1 (e.trans (by rfl:(10:Nat)=(10:UInt8).toNat))) c.2};{exact dx.1 (e.trans (by rfl:(32:Nat)=(32:UInt8).toNat))}
theorem aJC (o:U)(i k:Nat)(g:∀b∈o,b.toNat<=32->b=32)(y:i<=k)(v:k<=o.length)
  (m:∀j b,j<i->o[j]?=some b->b.toNat<=32) (r:i<k->∃b,o[i]?=some b/\32<b.toNat)
  (s:∀j b,k<=j->o[j]?=some b->b.toNat<=32) (t:i<k->∃b,o[k-1]?=some b/\32<b.toNat) (u:i=k->k=o.length):Lib.trimB o 32=(o.take k).drop i:=by
 have n:∀b:UInt8,32<b.toNat->b≠32:=fun b h e=>by{subst e;exact absurd h (by decide)};rcases ak i k with l|x
 ·unfold Lib.trimB;rw[wa o 32 k v (fun j b d a=>g b (tz a) (s j b d a)) (fun b _ a=>by
   obtain⟨p,c,f⟩:=t l;rw[a]at c
   cases c;exact n b f)]
  rw[Lib.trimLeftB_drop (o.take k) 32 i (by rw[br];omega) (fun j b d a=>by
   rw[gg,ae (by omega)]at a
   exact g b (tz a) (m j b d a)) (fun b a=>by
   rw[gg,ae l]at a
   obtain⟨p,c,f⟩:=r l;rw[a]at c
   cases c;exact n b f)]
 ·obtain rfl:i=k:=by omega
  have w:=u rfl;subst w;unfold Lib.trimB;rw[wa o 32 0 (by omega) (fun j b _ a=>by
   have d:j<o.length:=(fc.1 a).1;exact g b (tz a) (m j b d a)) (fun b q=>absurd q (by omega))]
  simp[Lib.trimLeftB]
def bO (c:UInt8):UInt8:=if 65<=c.toNat/\c.toNat<=90 then UInt8.ofNat (c.toNat+32)else c
theorem tC (c:UInt8):(bO c).toNat=if 65<=c.toNat/\c.toNat<=90 then c.toNat+32 else c.toNat:=by
 unfold bO;split;{rw[ofN _ (by omega)]};{rfl}
def cH (l:U):U:=l.map bO
def aO (c:UInt8)(i:Nat):Bool :=
 (decide (97<=c.toNat)&&decide (c.toNat<=122))||(decide (0<i)&&((decide (48<=c.toNat)&&decide (c.toNat<=57))||decide (c.toNat=43)||decide (c.toNat=45)||decide (c.toNat=46)))
def iG:Nat->U->Bool
 | _,[]=>true
 | i,c :: l=>aO (bO c) i&&iG (i+1) l
theorem oM (l:U):∀i,iG i l=true↔∀j c,l[j]?=some c->aO (bO c) (i+j)=true:=by
 induction l with|nil=>{intro i;simp[iG]}|cons c l ih=>{intro i;rw[iG,bt,ih];constructor;{rintro⟨a,b⟩ j d hd;cases j with|zero=>{simp at hd;subst hd;exact a}|succ j=>{simp at hd;have:=b j d hd;rwa[show i+(j+1)=i+1+j by omega]}};{intro h;refine⟨h 0 c rfl,fun j d hd=>?_⟩;have:=h (j+1) d (by simpa using hd);rwa[show i+(j+1)=i+1+j by omega]at this}}
def iL (l:U):Option (U) :=
 if (Lib.cut l [58]).2.2=true/\(Lib.cut l [58]).1≠[]/\iG 0 (Lib.cut l [58]).1=true then some (cH (Lib.cut l [58]).1)else none
theorem oF (p q:U)(h:(58:UInt8)∉p):iL (p++58 :: q)=if p≠[]/\iG 0 p=true then some (cH p)else none:=by
 unfold iL;rw[aDE p q 58 h];simp
theorem uO (l:U)(h:(58:UInt8)∉l):iL l=none:=by
 unfold iL;rw[aFN l 58 h];simp
theorem zM (i:Nat):aO (bO 58) i=false:=by
 have:bO 58=58:=by{decide};rw[this];unfold aO;simp
theorem uQ (l:U)(i:Nat)(h:∀j c,j<i->l[j]?=some c->aO (bO c) j=true):(58:UInt8)∉l.take i:=by
 intro d;obtain⟨j,a⟩:=List.getElem?_of_mem d;rw[gg]at a;split at a;{rename_i b;have:=h j 58 b a;rw[zM]at this;cases this};{cases a}
theorem aGJ (l:U)(i:Nat)(hi:0<i)(b:l[i]?=some 58)(h:∀j c,j<i->l[j]?=some c->aO (bO c) j=true):iL l=some (cH (l.take i)):=by
 have g:=uQ l i h;have d:i<l.length:=(fc.1 b).1;have f:l=l.take i++58 :: l.drop (i+1):=by{(conv=>lhs;rw[<-jt i l]);rw[dy d];have:l[i]=58:=by{rw[bc d]at b;exact b8 b};rw[this]};rw[f,oF _ _ g,<-f,ae];refine⟨?_,?_⟩;{intro e;have:=az List.length e;rw[br]at this;simp only[cu]at this;omega};{rw[oM];intro j c a;rw[gg]at a;split at a;{rw[be];exact h j c (by assumption) a};{cases a}}
theorem aJn (l:U)(i:Nat)(c:UInt8)(a:l[i]?=some c)(g:aO (bO c) i=false)(f:c=58->i=0)(h:∀j c,j<i->l[j]?=some c->aO (bO c) j=true):iL l=none:=by
 have t:=uQ l i h;have s:i<l.length:=(fc.1 a).1;by_cases d:(58:UInt8)∈l;{obtain⟨p,q,e,o⟩:=aB2 d;subst e;rw[oF p q o,ac];rintro⟨n,b⟩;rw[oM]at b;by_cases m:i<p.length;{have r:p[i]?=some c:=by{rw[ib m]at a;exact a};have:=b i c r;rw[be,g]at this;cases this};{by_cases k:i=p.length;{subst k;rw[iu yN]at a;simp at a;have:=f a.symm;exact n (fv this)};{have:=h p.length 58 (by omega) (by rw[iu yN];simp);rw[zM]at this;cases this}}};{exact uO l d}
theorem aJo (l:U)(h:∀j c,j<l.length->l[j]?=some c->aO (bO c) j=true):iL l=none:=by
 have a:=uQ l l.length h;rw[jm]at a;exact uO l a
