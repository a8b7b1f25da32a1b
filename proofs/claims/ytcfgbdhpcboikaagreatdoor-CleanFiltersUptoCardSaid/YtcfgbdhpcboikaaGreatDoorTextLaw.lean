/-
policy.Text and Link as functions of bytes: the characters of a text, some left out. No program in sight.
-/
import Derived.Test.YtcfgbdhpcboikaaGreatDoorUtf8Law
import Derived.Test.YtcfgbdhpcboikaaGreatDoorBase
import Derived.Test.YtcfgbdhpcboikaaGreatDoorShelf
namespace Go.Proofs.YtcfgbdhpcboikaaGreatDoor
set_option maxRecDepth 100000
open PU8
theorem tQ {n:Nat}:n<=n:=ah n
def aI (l:U):List Nat:=l.map UInt8.toNat
def aV (v:Nat):U:=(encN v).map UInt8.ofNat
def Val (v:Nat):Prop:=(v<0xd800\/0xdfff<v)/\v<=0x10ffff
theorem nQ {l:U}(h:l≠[]):aI l≠[]:=by
 unfold aI;simpa using h
theorem qH (l:U)(h:l≠[]):1<=(pieceU (aI l)).1:=by
 have:=(sameU (aI l) (nQ h)).num;omega
theorem aJl:aV 0xfffd=[239,191,189]:=by decide
theorem aDw (l:U)(h:l≠[]):Val (pieceU (aI l)).2.1:=by
 have s:=sameU (aI l) (nQ h);cases hw:(lookU (aI l)).2 with|true=>exact(s.val hw).2|false=>{rw[s.bad hw];exact⟨by decide,by decide⟩}
theorem uI (l:U)(h:l≠[])(i:(lookU (aI l)).2=true):aV (pieceU (aI l)).2.1=l.take (lookU (aI l)).1/\1<=(lookU (aI l)).1/\(lookU (aI l)).1<=l.length:=by
 have s:=sameU (aI l) (nQ h);obtain⟨g,t⟩:=s.val i;have f:∀b:List Nat,(lookU b).2=true->1<=(lookU b).1:=by
  intro b;have d:∀e lo hi n r,1<=n->1<=(contU e lo hi n r).1:=by{intro e;induction e with|zero=>{intro lo hi n r f;simpa [contU]using f}|succ k ih=>{intro lo hi n r f;cases r with|nil=>simpa [contU]using f|cons c r=>{unfold contU;split;{exact f};{exact ih _ _ _ _ (by omega)}}}}
  cases b with
  | nil=>simp[lookU]
  | cons c r =>
   rw[look_cons];intro v;repeat' split
   all_goals first
    | (exact d _ _ _ _ _ tQ)
    | (simp_all;done)
    | decide
 have o:=f _ i;have q:(pieceU (aI l)).1=(lookU (aI l)).1:=by{have:=s.num;omega};rw[q]at g
 have hlen:(lookU (aI l)).1<=l.length:=by
  have m:=az List.length g;rw[bu]at m;have u:1<=(encN (pieceU (aI l)).2.1).length:=by{unfold encN;(repeat' split);all_goals simp}
  have p:∀b:List Nat,b≠[]->(lookU b).1<=b.length:=by
   have d:∀e lo hi n (r:List Nat),(contU e lo hi n r).1<=n+r.length:=by{intro e;induction e with|zero=>{intro lo hi n r;simp[contU]}|succ k ih=>{intro lo hi n r;cases r with|nil=>simp[contU]|cons c r=>{unfold contU;split;{simp};{have:=ih 0x80 0xbf (n+1) r;simp only[bv];omega}}}}
   intro b j;cases b with
   | nil=>exact absurd rfl j
   | cons c r =>
    rw[look_cons];simp only[bv];repeat' split
    all_goals first
     | (have:=d 1 0x80 0xbf 1 r;omega)
     | (have:=d 2 0xa0 0xbf 1 r;omega)
     | (have:=d 2 0x80 0x9f 1 r;omega)
     | (have:=d 2 0x80 0xbf 1 r;omega)
     | (have:=d 3 0x90 0xbf 1 r;omega)
     | (have:=d 3 0x80 0xbf 1 r;omega)
     | (have:=d 3 0x80 0x8f 1 r;omega)
     | (simp only;omega)
  have:=p _ (nQ h);simpa [aI]using this
 refine⟨?_,o,hlen⟩;unfold aV;rw[g];unfold aI;rw[<-List.map_take,oz];conv=>rhs;rw[<-List.map_id (List.take (lookU (List.map UInt8.toNat l)).1 l)]
 apply o8;intro c _;simp
theorem aKd (l:U)(h:l≠[])(b:(lookU (aI l)).2=false):(pieceU (aI l)).2.1=0xfffd :=
 (sameU (aI l) (nQ h)).bad b
theorem aDv (l:U)(h:l≠[]):(pieceU (aI l)).1=max (lookU (aI l)).1 1:=(sameU (aI l) (nQ h)).num
def nT:Nat->U->List Nat
 | 0,_=>[]
 | n+1,l=>if l=[]then []else (pieceU (aI l)).2.1 :: nT n (l.drop (pieceU (aI l)).1)
def fH (l:U):List Nat:=nT l.length l
theorem pU (n:Nat):nT n []=[]:=by cases n<;>simp[nT]
theorem aFN:∀(n m:Nat) (l:U),l.length<=n->l.length<=m->nT n l=nT m l:=by
 intro n;induction n with|zero=>{intro m l d _;have:l=[]:=fj (by omega);subst this;rw[pU,pU]}|succ n ih=>{intro m l d f;by_cases b:l=[];{subst b;rw[pU,pU]};{have g:=qH l b;have e:0<l.length:=g7.2 b;cases m with|zero=>omega|succ m=>{unfold nT;rw[ae b,ae b,ih m _ (by rw[bm];omega) (by rw[bm];omega)]}}}
theorem yY:fH []=[]:=rfl
theorem oR (l:U)(h:l≠[]):fH l=(pieceU (aI l)).2.1 :: fH (l.drop (pieceU (aI l)).1):=by
 have d:0<l.length:=g7.2 h;have e:=qH l h;unfold fH;obtain⟨n,b⟩:∃n,l.length=n+1:=⟨l.length-1,by omega⟩;rw[b];conv=>lhs;unfold nT
 rw[ae h,aFN n _ _ (by rw[bm];omega) tQ]
theorem tT:∀(n:Nat) (l:U),l.length<=n->∀r∈fH l,Val r:=by
 intro n;induction n with|zero=>{intro l d r hr;have:l=[]:=fj (by omega);subst this;rw[yY]at hr;cases hr}|succ n ih=>{intro l d r hr;by_cases b:l=[];{subst b;rw[yY]at hr;cases hr};{rw[oR l b]at hr;have e:=qH l b;have f:0<l.length:=g7.2 b;rcases b9.1 hr with rfl|hr;{exact aDw l b};{exact ih _ (by rw[bm];omega) r hr}}}
def mJ (l:U):U:=(fH l).flatMap aV
theorem aCL:mJ []=[]:=rfl
theorem aES (l:U)(h:l≠[]):mJ l=(if (lookU (aI l)).2=true then l.take (lookU (aI l)).1 else [239,191,189])++mJ (l.drop (max (lookU (aI l)).1 1)):=by
 unfold mJ;rw[oR l h,gl,aDv l h];congr 1;cases hw:(lookU (aI l)).2 with|true=>{rw[(uI l h hw).1];rfl}|false=>{rw[aKd l h hw,aJl];rfl}
theorem ofN (n:Nat)(h:n<256):(UInt8.ofNat n).toNat=n:=by
 rw[UInt8.toNat_ofNat'];omega
theorem rQ (v:Nat):1<=(aV v).length/\(aV v).length<=4:=by
 unfold aV;rw[dc];unfold encN;repeat' split
 all_goals simp
theorem aHI (r:Nat)(h:Val r)(t:U):Lib.decodeL (aV r++t)=(r,(aV r).length):=by
 obtain⟨d,f⟩:=h;rw[Lib.decodeL_N];by_cases a:r<0x80;{have e:aV r=[UInt8.ofNat r]:=by{unfold aV encN;rw[af a];rfl};rw[e];simp only[dw,d8,bv,db,qg];rw[ofN r (by omega)];unfold Lib.decodeN;rw[af (by omega)]};{by_cases b:r<0x800;{have e:aV r=[UInt8.ofNat (0xc0+r / 64),UInt8.ofNat (0x80+r%64)]:=by{unfold aV;rw[enc_two r (by omega) b];rfl};rw[e];simp only[dw,d8,bv,db,qg,tu];rw[ofN _ (by omega),ofN _ (by omega)];unfold Lib.decodeN;rw[ae (by omega),af (by omega),af (by omega)];apply Prod.ext;{simp only;omega};{rfl}};{by_cases c:r<0x10000;{have e:aV r=[UInt8.ofNat (0xe0+r / 4096),UInt8.ofNat (0x80+r / 64%64),UInt8.ofNat (0x80+r%64)]:=by{unfold aV;rw[enc_three r (by omega) c];rfl};rw[e];simp only[dw,d8,bv,db,qg,tu];rw[ofN _ (by omega),ofN _ (by omega),ofN _ (by omega)];unfold Lib.decodeN;rw[ae (by omega),ae (by omega),af (by omega),af (by omega)];apply Prod.ext;{simp only;omega};{rfl}};{have e:aV r=[UInt8.ofNat (0xf0+r / 262144),UInt8.ofNat (0x80+r / 4096%64),UInt8.ofNat (0x80+r / 64%64),UInt8.ofNat (0x80+r%64)]:=by{unfold aV;rw[enc_four r (by omega)];rfl};rw[e];simp only[dw,d8,bv,db,qg,tu];rw[ofN _ (by omega),ofN _ (by omega),ofN _ (by omega),ofN _ (by omega)];unfold Lib.decodeN;rw[ae (by omega),ae (by omega),ae (by omega),af (by omega),af (by omega)];apply Prod.ext;{simp only;omega};{rfl}}}}
theorem aCN (r:Nat)(h:Val r):Lib.encodeRune (r:Int)=aV r:=by
 obtain⟨g,i⟩:=h;have d:∀(z:Int) (n:Nat),z=(n:Int)->z.toNat.toUInt8=UInt8.ofNat n:=by{intro z n f;subst f;rfl};unfold Lib.encodeRune;by_cases a:r<0x80;{rw[Lib.encodeRuneZ_one (by omega) (by omega)];have e:aV r=[UInt8.ofNat r]:=by{unfold aV encN;rw[af a];rfl};rw[e];simp only[cg,fa];rw[d _ r rfl]};{by_cases b:r<0x800;{rw[Lib.encodeRuneZ_two (by omega) (by omega)];have e:aV r=[UInt8.ofNat (0xc0+r / 64),UInt8.ofNat (0x80+r%64)]:=by{unfold aV;rw[enc_two r (by omega) b];rfl};rw[e];simp only[cg,fa];rw[d _ (0xc0+r / 64) (by omega),d _ (0x80+r%64) (by omega)]};{by_cases c:r<0x10000;{rw[Lib.encodeRuneZ_three (by omega)];have e:aV r=[UInt8.ofNat (0xe0+r / 4096),UInt8.ofNat (0x80+r / 64%64),UInt8.ofNat (0x80+r%64)]:=by{unfold aV;rw[enc_three r (by omega) c];rfl};rw[e];simp only[cg,fa];rw[d _ (0xe0+r / 4096) (by omega),d _ (0x80+r / 64%64) (by omega),d _ (0x80+r%64) (by omega)]};{rw[Lib.encodeRuneZ_four (by omega) (by omega)];have e:aV r=[UInt8.ofNat (0xf0+r / 262144),UInt8.ofNat (0x80+r / 4096%64),UInt8.ofNat (0x80+r / 64%64),UInt8.ofNat (0x80+r%64)]:=by{unfold aV;rw[enc_four r (by omega)];rfl};rw[e];simp only[cg,fa];rw[d _ (0xf0+r / 262144) (by omega),d _ (0x80+r / 4096%64) (by omega),d _ (0x80+r / 64%64) (by omega),d _ (0x80+r%64) (by omega)]}}}
def eW (r:Nat):Bool:=decide (r=9)||decide (r=10)||(decide (32<=r)&&decide (r<127))||decide (159<r)
def kT (r:Int):Int:=if r<32/\r≠9/\r≠10\/127<=r/\r<=159 then -1 else r
def bS (l:U):U:=((fH l).filter eW).flatMap aV
theorem aIz (r:Nat)(h:eW r=true):kT (r:Int)=(r:Int):=by
 unfold eW at h;simp only[la,bp,bi]at h;unfold kT;rw[ae (by omega)]
theorem aIy (r:Nat)(h:eW r=false):kT (r:Int)=-1:=by
 unfold eW at h;simp only[te,i6,gq]at h;unfold kT;rw[af (by omega)]
theorem aGM (x:Nat)(h:x<=1114111):-2147483648<=kT x/\kT x<=2147483647:=by
 unfold kT;split<;>omega
theorem aBE (r:Nat)(t:U):aV r++t≠[]:=by
 have:=(rQ r).1;intro h;rw[List.append_eq_nil_iff]at h;rw[h.1]at this;simp at this
theorem aOt (b:List Nat)(d:∀r∈b,Val r):Lib.mapD kT (b.flatMap aV)=(b.filter eW).flatMap aV:=by
 induction b with|nil=>rfl|cons r b ih=>{have hr:=d r (du ..);rw[gl,Lib.mapD_step _ _ (aBE r _),aHI r hr];simp only[gy];rw[ih fun x hx=>d x (d7 _ hx)];cases hk:eW r with|true=>rw[aIz r hk,af (by omega),nw hk,gl,aCN r hr]|false=>{rw[aIy r hk,ae (by omega),nx (by simp[hk])];rfl}}
theorem aOs (l:U):Lib.mapD kT (mJ l)=bS l:=aOt _ (tT l.length l tQ)
theorem aCK:∀(n:Nat) (l:U),l.length<=n->(mJ l).length<=3*l.length:=by
 intro n;induction n with|zero=>{intro l d;have:l=[]:=fj (by omega);subst this;simp[aCL]}|succ n ih=>{intro l d;by_cases b:l=[];{subst b;simp[aCL]};{have i:0<l.length:=g7.2 b;rw[aES l b,ax];have:=ih (l.drop (max (lookU (aI l)).1 1)) (by rw[bm];omega);rw[bm]at this;split;{rename_i e;obtain⟨_,h1,f⟩:=uI l b e;rw[bu];omega};{simp only[bv,db];by_cases g:max (lookU (aI l)).1 1<=l.length;{omega};{omega}}}}
theorem aM8 (l:U):(bS l).length<=(mJ l).length:=by
 unfold bS mJ;generalize fH l=rs;induction rs with|nil=>simp|cons r rs ih=>{rw[gl,ax];cases hk:eW r with|true=>{rw[nw hk,gl,ax];omega}|false=>{rw[nx (by simp[hk])];omega}}
theorem wC (b:UInt8)(l:U)(c:UInt8):Lib.index (b :: l) [c]=if b=c then 0 else if Lib.index l [c]=-1 then -1 else Lib.index l [c]+1:=by
 have e:Lib.index (b :: l) [c]=if [c].isPrefixOf (b :: l)then 0 else if Lib.index l [c]==-1 then -1 else Lib.index l [c]+1:=rfl
 rw[e];by_cases h:b=c;{subst h;simp};{have d:¬c=b:=fun x=>h x.symm;simp[h,d]}
theorem aFa (l:U)(c:UInt8)(h:c∉l):Lib.index l [c]=-1:=by
 induction l with|nil=>rfl|cons b l ih=>{have d:¬b=c:=fun e=>h (e▸du ..);rw[wC,ae d,af (ih fun x=>h (d7 _ x))]}
theorem aE9 (p q:U)(c:UInt8)(h:c∉p):Lib.index (p++c :: q) [c]=p.length:=by
 induction p with|nil=>{rw[d8,wC,af rfl];rfl}|cons b p ih=>{have d:¬b=c:=fun e=>h (e▸du ..);have:=ih fun x=>h (d7 _ x);rw[dw,wC,ae d,this,ae (by omega)];simp}
theorem aBg {l:U}{c:UInt8}(h:c∈l):∃p q,l=p++c :: q/\c∉p:=by
 induction l with|nil=>cases h|cons b l ih=>{by_cases d:b=c;{subst d;exact⟨[],l,rfl,by simp⟩};{obtain⟨p,q,e,f⟩:=ih ((b9.1 h).resolve_left fun x=>d x.symm);refine⟨b :: p,q,by rw[e];rfl,?_⟩;intro hx;rcases b9.1 hx with rfl|hx;{exact d rfl};{exact f hx}}}
theorem aCI (p q:U)(c:UInt8)(h:c∉p):Lib.cut (p++c :: q) [c]=(p,q,true):=by
 unfold Lib.cut;rw[aE9 p q c h,af (by omega)];simp
theorem aER (l:U)(c:UInt8)(h:c∉l):Lib.cut l [c]=(l,[],false):=by
 unfold Lib.cut;rw[aFa l c h,ae (by omega)]
theorem aAx (l:U)(c:UInt8)(h:c∉l):l.filter (fun b=>b !=c)=l:=by
 rw[qh];intro b d;simp only[ct,ne_eq];intro e;exact h (e▸d)
theorem aFK (c:UInt8):∀(n:Nat) (l:U) (f:Nat),l.length<=n->l.length<f->Lib.replaceK [c] [] (Lib.countFrom [c] f l) l=l.filter (fun b=>b !=c):=by
 intro n;induction n with
 | zero =>
  intro l f o k;have:l=[]:=fj (by omega);subst this;obtain⟨g,rfl⟩:∃g,f=g+1:=⟨f-1,by omega⟩
  rfl
 | succ n ih =>
  intro l f o k;obtain⟨g,rfl⟩:∃g,f=g+1:=⟨f-1,by omega⟩
  by_cases d:c∈l
  ·obtain⟨p,q,rfl,j⟩:=aBg d;have hi:=aE9 p q c j;have hlen:(p++c :: q).length=p.length+q.length+1:=by simp;omega
   have hd:(p++c :: q).drop (p.length+1)=q:=by
    rw[<-i5,gy];rfl
   have i:Lib.countFrom [c] (g+1) (p++c :: q)=Lib.countFrom [c] g q+1:=by
    have e:Lib.countFrom [c] (g+1) (p++c :: q)=if Lib.index (p++c :: q) [c]==-1 then 0 else 1+Lib.countFrom [c] g ((p++c :: q).drop ((Lib.index (p++c :: q) [c]).toNat+1)):=rfl
    rw[e,hi];have r:¬(((p.length:Nat):Int)==-1)=true:=fun x=>by have:=cn.1 x;omega
    rw[ae r,eo,hd];omega
   rw[i,jw [c] [] _ _ p.length hi];have m:(p++c :: q).drop (p.length+[c].length)=q:=hd;rw[m,ih q g (by omega) (by omega),mh,eh,ma,aAx p c j,nx (by simp)]
  ·have i:Lib.countFrom [c] (g+1) l=0:=by
    have e:Lib.countFrom [c] (g+1) l=if Lib.index l [c]==-1 then 0 else 1+Lib.countFrom [c] g (l.drop ((Lib.index l [c]).toNat+1)):=rfl
    rw[e,aFa l c d];rfl
   rw[i,aAx l c d];rfl
theorem vE (c:UInt8)(l:U):Lib.replaceAll l [c] []=l.filter (fun b=>b !=c):=by
 unfold Lib.replaceAll Lib.replace;rw[ae (by simp)];have:Lib.replaceNum l [c] (-1)=Lib.countFrom [c] (l.length+1) l:=by{unfold Lib.replaceNum;rw[af (Or.inl (by omega))];rfl};rw[this,aFK c l.length l _ tQ (by omega)]
def dS (l:U):U:=((bS l).filter (fun b=>b !=9)).filter (fun b=>b !=10)
def bN (l:U):U:=Lib.trimB (dS l) 32
theorem pN (l:U):dS l=(bS l).filter (fun b=>b !=9&&b !=10):=by
 unfold dS;rw[List.filter_filter];congr 1;funext b;cases (b !=9)<;>cases (b !=10)<;>rfl
theorem aN3 (r:Nat)(f:eW r=true)(g:Val r):∀b∈aV r,b.toNat<=32->b.toNat=9\/b.toNat=10\/b.toNat=32:=by
 intro b d e;obtain⟨i,j⟩:=g;unfold eW at f;simp only[la,bp,bi]at f;unfold aV encN at d;split at d;{simp only[cg,fa,b9,iu,gi]at d;subst d;rw[ofN r (by omega)]at e ⊢;omega};{exfalso;split at d;{simp only[cg,fa,b9,iu,gi]at d;rcases d with rfl|rfl;{rw[ofN _ (by omega)]at e;omega};{rw[ofN _ (by omega)]at e;omega}};{split at d;{simp only[cg,fa,b9,iu,gi]at d;rcases d with rfl|rfl|rfl;{rw[ofN _ (by omega)]at e;omega};{rw[ofN _ (by omega)]at e;omega};{rw[ofN _ (by omega)]at e;omega}};{simp only[cg,fa,b9,iu,gi]at d;rcases d with rfl|rfl|rfl|rfl;{rw[ofN _ (by omega)]at e;omega};{rw[ofN _ (by omega)]at e;omega};{rw[ofN _ (by omega)]at e;omega};{rw[ofN _ (by omega)]at e;omega}}}}
theorem aM9 (l:U):∀b∈bS l,b.toNat<=32->b.toNat=9\/b.toNat=10\/b.toNat=32:=by
 intro b d;unfold bS at d;obtain⟨r,hr,d⟩:=List.mem_flatMap.1 d;obtain⟨hr,e⟩:=jq.1 hr;exact aN3 r e (tT l.length l tQ r hr) b d
theorem aLt (l:U):∀b∈dS l,b.toNat<=32->b=32:=by
 intro b d h;rw[pN]at d;obtain⟨d,f⟩:=jq.1 d;simp only[bp,ct,ne_eq]at f;rcases aM9 l b d h with e|e|e;{exact absurd (de.1 (e.trans (by rfl:(9:Nat)=(9:UInt8).toNat))) f.1};{exact absurd (de.1 (e.trans (by rfl:(10:Nat)=(10:UInt8).toNat))) f.2};{exact de.1 (e.trans (by rfl:(32:Nat)=(32:UInt8).toNat))}
theorem aIC (o:U)(i k:Nat)(p:∀b∈o,b.toNat<=32->b=32)(D:i<=k)(A:k<=o.length)
  (r:∀j b,j<i->o[j]?=some b->b.toNat<=32) (v:i<k->∃b,o[i]?=some b/\32<b.toNat)
  (x:∀j b,k<=j->o[j]?=some b->b.toNat<=32) (y:i<k->∃b,o[k-1]?=some b/\32<b.toNat) (z:i=k->k=o.length):Lib.trimB o 32=(o.take k).drop i:=by
 have s:∀b:UInt8,32<b.toNat->b≠32:=fun b h e=>by{subst e;exact absurd h (by decide)};rcases ak i k with q|C
 ·unfold Lib.trimB;rw[vx o 32 k A (fun j b g d=>p b (tv d) (x j b g d)) (fun b _ d=>by
   obtain⟨t,f,m⟩:=y q;rw[d]at f
   cases f;exact s b m)]
  rw[Lib.trimLeftB_drop (o.take k) 32 i (by rw[bu];omega) (fun j b g d=>by
   rw[f9,af (by omega)]at d
   exact p b (tv d) (r j b g d)) (fun b d=>by
   rw[f9,af q]at d
   obtain⟨t,f,m⟩:=v q;rw[d]at f
   cases f;exact s b m)]
 ·obtain rfl:i=k:=by omega
  have B:=z rfl;subst B;unfold Lib.trimB;rw[vx o 32 0 (by omega) (fun j b _ d=>by
   have g:j<o.length:=(fc.1 d).1;exact p b (tv d) (r j b g d)) (fun b u=>absurd u (by omega))]
  simp[Lib.trimLeftB]
def bD (c:UInt8):UInt8:=if 65<=c.toNat/\c.toNat<=90 then UInt8.ofNat (c.toNat+32)else c
theorem rH (c:UInt8):(bD c).toNat=if 65<=c.toNat/\c.toNat<=90 then c.toNat+32 else c.toNat:=by
 unfold bD;split;{rw[ofN _ (by omega)]};{rfl}
def bO (l:U):U:=l.map bD
def aK (c:UInt8)(i:Nat):Bool :=
 (decide (97<=c.toNat)&&decide (c.toNat<=122))||(decide (0<i)&&((decide (48<=c.toNat)&&decide (c.toNat<=57))||decide (c.toNat=43)||decide (c.toNat=45)||decide (c.toNat=46)))
def gI:Nat->U->Bool
 | _,[]=>true
 | i,c :: l=>aK (bD c) i&&gI (i+1) l
theorem nD (l:U):∀i,gI i l=true↔∀j c,l[j]?=some c->aK (bD c) (i+j)=true:=by
 induction l with|nil=>{intro i;simp[gI]}|cons c l ih=>{intro i;rw[gI,bp,ih];constructor;{rintro⟨b,e⟩ j d hd;cases j with|zero=>{simp at hd;subst hd;exact b}|succ j=>{simp at hd;have:=e j d hd;rwa[show i+(j+1)=i+1+j by omega]}};{intro h;refine⟨h 0 c rfl,fun j d hd=>?_⟩;have:=h (j+1) d (by simpa using hd);rwa[show i+(j+1)=i+1+j by omega]at this}}
def gL (l:U):Option (U) :=
 if (Lib.cut l [58]).2.2=true/\(Lib.cut l [58]).1≠[]/\gI 0 (Lib.cut l [58]).1=true then some (bO (Lib.cut l [58]).1)else none
theorem mW (p q:U)(h:(58:UInt8)∉p):gL (p++58 :: q)=if p≠[]/\gI 0 p=true then some (bO p)else none:=by
 unfold gL;rw[aCI p q 58 h];simp
theorem sY (l:U)(h:(58:UInt8)∉l):gL l=none:=by
 unfold gL;rw[aER l 58 h];simp
theorem wY (i:Nat):aK (bD 58) i=false:=by
 have:bD 58=58:=by{decide};rw[this];unfold aK;simp
theorem sZ (l:U)(i:Nat)(h:∀j c,j<i->l[j]?=some c->aK (bD c) j=true):(58:UInt8)∉l.take i:=by
 intro e;obtain⟨j,b⟩:=List.getElem?_of_mem e;rw[f9]at b;split at b;{rename_i d;have:=h j 58 d b;rw[wY]at this;cases this};{cases b}
theorem aFP (l:U)(i:Nat)(hi:0<i)(d:l[i]?=some 58)(h:∀j c,j<i->l[j]?=some c->aK (bD c) j=true):gL l=some (bO (l.take i)):=by
 have k:=sZ l i h;have f:i<l.length:=(fc.1 d).1;have g:l=l.take i++58 :: l.drop (i+1):=by{(conv=>lhs;rw[<-lv i l]);rw[dt f];have:l[i]=58:=by{rw[bc f]at d;exact cy d};rw[this]};rw[g,mW _ _ k,<-g,af];refine⟨?_,?_⟩;{intro e;have:=az List.length e;rw[bu]at this;simp only[db]at this;omega};{rw[nD];intro j c b;rw[f9]at b;split at b;{rw[bw];exact h j c (by assumption) b};{cases b}}
theorem aIn (l:U)(i:Nat)(c:UInt8)(b:l[i]?=some c)(k:aK (bD c) i=false)(g:c=58->i=0)(h:∀j c,j<i->l[j]?=some c->aK (bD c) j=true):gL l=none:=by
 have v:=sZ l i h;have u:i<l.length:=(fc.1 b).1;by_cases f:(58:UInt8)∈l;{obtain⟨p,q,e,s⟩:=aBg f;subst e;rw[mW p q s,ae];rintro⟨r,d⟩;rw[nD]at d;by_cases o:i<p.length;{have t:p[i]?=some c:=by{rw[iw o]at b;exact b};have:=d i c t;rw[bw,k]at this;cases this};{by_cases m:i=p.length;{subst m;rw[jh tQ]at b;simp at b;have:=g b.symm;exact r (fj this)};{have:=h p.length 58 (by omega) (by rw[jh tQ];simp);rw[wY]at this;cases this}}};{exact sY l f}
theorem aIo (l:U)(h:∀j c,j<l.length->l[j]?=some c->aK (bD c) j=true):gL l=none:=by
 have b:=sZ l l.length h;rw[kh]at b;exact sY l b
open PU8
theorem aFl (r:Nat)(h:Val r):aI (aV r)=encN r:=by
 obtain⟨e,f⟩:=h;unfold aI aV;rw[oz];conv=>rhs;rw[<-List.map_id (encN r)]
 apply o8;intro c b;have d:c<256:=by{unfold encN at b;(repeat' split at b);(all_goals simp only[b9,iu,gi]at b);all_goals omega};simp only[Function.comp];exact ofN c d
theorem aAC (a b:U):aI (a++b)=aI a++aI b:=by simp[aI]
theorem aEP (lo hi n c:Nat)(r:List Nat)(h:¬(c<lo\/hi<c)):contU 1 lo hi n (c :: r)=(n+1,true):=by
 unfold contU;rw[ae h];rfl
theorem vY (lo hi n c d:Nat)(r:List Nat)(h:¬(c<lo\/hi<c))(b:¬(d<0x80\/0xbf<d)):contU 2 lo hi n (c :: d :: r)=(n+2,true):=by
 unfold contU;rw[ae h,aEP _ _ _ _ _ b]
theorem vX (lo hi n c d e:Nat)(r:List Nat)(h:¬(c<lo\/hi<c))(b:¬(d<0x80\/0xbf<d))(f:¬(e<0x80\/0xbf<e)):contU 3 lo hi n (c :: d :: e :: r)=(n+3,true):=by
 unfold contU;rw[ae h,vY _ _ _ _ _ _ b f]
theorem aMg (r:Nat)(h:Val r)(t:List Nat):lookU (encN r++t)=((encN r).length,true):=by
 obtain⟨g,i⟩:=h;by_cases a:r<0x80;{have e:encN r=[r]:=by{unfold encN;rw[af a]};rw[e,kr,look_cons,af a];rfl};{by_cases b:r<0x800;{rw[enc_two r (by omega) b];simp only[dw,d8];rw[look_cons,ae (by omega),ae (by omega),af (by omega),aEP _ _ _ _ _ (by omega)];rfl};{by_cases c:r<0x10000;{rw[enc_three r (by omega) c];simp only[dw,d8];rw[look_cons,ae (by omega),ae (by omega),ae (by omega)];by_cases d:r / 4096=0;{rw[af (by omega),vY _ _ _ _ _ _ (by omega) (by omega)];rfl};{rw[ae (by omega)];by_cases f:r / 4096=13;{rw[af (by omega),vY _ _ _ _ _ _ (by omega) (by omega)];rfl};{rw[ae (by omega),af (by omega),vY _ _ _ _ _ _ (by omega) (by omega)];rfl}}};{rw[enc_four r (by omega)];simp only[dw,d8];rw[look_cons,ae (by omega),ae (by omega),ae (by omega),ae (by omega),ae (by omega),ae (by omega)];by_cases d:r / 262144=0;{rw[af (by omega),vX _ _ _ _ _ _ _ (by omega) (by omega) (by omega)];rfl};{rw[ae (by omega)];by_cases f:r / 262144<4;{rw[af (by omega),vX _ _ _ _ _ _ _ (by omega) (by omega) (by omega)];rfl};{rw[ae (by omega),af (by omega),vX _ _ _ _ _ _ _ (by omega) (by omega) (by omega)];rfl}}}}}
theorem aN2 (r v:Nat)(h:encN r=encN v):r=v:=by
 unfold encN at h;repeat' split at h
 all_goals simp only[fu,fm,reduceCtorEq,and_false]at h
 all_goals omega
theorem aKc (r:Nat)(h:Val r)(t:U):(pieceU (aI (aV r++t))).2.1=r/\(pieceU (aI (aV r++t))).1=(aV r).length:=by
 have d:lookU (aI (aV r++t))=((encN r).length,true):=by{rw[aAC,aFl r h];exact aMg r h _};have s:=sameU (aI (aV r++t)) (nQ (aBE r t));have e:=s.num;rw[d]at e;have i:=(rQ r).1;have b:(aV r).length=(encN r).length:=by{unfold aV;simp};have f:(pieceU (aI (aV r++t))).1=(aV r).length:=by{rw[e,b];simp only;omega};refine⟨?_,f⟩;have g:=(s.val (by rw[d])).1;have ht:(aI (aV r++t)).take (encN r).length=encN r:=by{rw[aAC,aFl r h,mh]};rw[f,b,ht]at g;exact aN2 _ _ g
theorem aKA (rs:List Nat)(h:∀r∈rs,Val r):fH (rs.flatMap aV)=rs:=by
 induction rs with|nil=>rfl|cons r rs ih=>{have hr:=h r (du ..);rw[gl,oR _ (aBE r _)];obtain⟨b,e2⟩:=aKc r hr (rs.flatMap aV);rw[b,e2,gy,ih fun x hx=>h x (d7 _ hx)]}
def lW (l:U):Prop:=∃rs:List Nat,l=rs.flatMap aV/\∀r∈rs,Val r/\eW r=true
theorem zM (l:U):lW (bS l) :=
 ⟨_,rfl,fun r hr=>by
  obtain⟨b,d⟩:=jq.1 hr;exact⟨tT l.length l tQ r b,d⟩⟩
theorem tX {l:U}(h:lW l):bS l=l:=by
 obtain⟨d,rfl,b⟩:=h;unfold bS;rw[aKA d fun r hr=>(b r hr).1,qh.2 fun r hr=>(b r hr).2]
theorem aKX (l:U):bS (bS l)=bS l:=tX (zM l)
theorem sH (r:Nat)(h:r<128):aV r=[UInt8.ofNat r]:=by unfold aV encN;rw[af (by omega)];rfl
theorem aAV (r:Nat)(h:128<=r)(f:r<=0x10ffff):∀b∈aV r,128<=b.toNat:=by
 intro b e;unfold aV at e;obtain⟨c,d,rfl⟩:=g9.1 e;unfold encN at d;rw[ae (by omega)]at d;repeat' split at d
 all_goals simp only[b9,iu,gi]at d
 all_goals (rw[ofN c (by omega)];omega)
theorem aBK (c:Nat)(m:c<128)(d:List Nat)(h:∀r∈d,Val r):(d.flatMap aV).filter (fun b=>b !=UInt8.ofNat c)=(d.filter (fun r=>r !=c)).flatMap aV:=by
 induction d with|nil=>rfl|cons r d ih=>{have hr:=h r (du ..);rw[gl,ma,ih fun x hx=>h x (d7 _ hx)];by_cases g:r<128;{rw[sH r g];by_cases e:r=c;{subst e;rw[nx (by simp),nx (by simp)];rfl};{have k:UInt8.ofNat r≠UInt8.ofNat c:=by{intro f;have:=az UInt8.toNat f;rw[ofN r (by omega),ofN c (by omega)]at this;exact e this};rw[nw (by simpa using k),nw (by simpa using e),gl,sH r g];rfl}};{have j:(aV r).filter (fun b=>b !=UInt8.ofNat c)=aV r:=by{rw[qh];intro b i;have:=aAV r (by omega) hr.2 b i;simp only[ct,ne_eq];intro f;rw[f,ofN c (by omega)]at this;omega};rw[j,nw (by simp;omega),gl]}}
theorem aL2 (r c:Nat)(j:c<128)(h:Val r)(i:r≠c)(t:U):∀b,(aV r++t).head?=some b->b≠UInt8.ofNat c:=by
 intro b f e;have d:b∈aV r:=by{cases he:aV r with|nil=>{have:=(rQ r).1;rw[he]at this;simp at this}|cons x l=>{rw[he]at f;simp at f;subst f;exact du ..}};by_cases g:r<128;{rw[sH r g]at d;simp at d;rw[d]at e;have:=az UInt8.toNat e;rw[ofN r (by omega),ofN c (by omega)]at this;exact i this};{have:=aAV r (by omega) h.2 b d;rw[e,ofN c (by omega)]at this;omega}
theorem aDU (c:Nat)(f:c<128)(d:List Nat)(h:∀r∈d,Val r):(d.flatMap aV).dropWhile (· == UInt8.ofNat c)=(d.dropWhile (· == c)).flatMap aV:=by
 induction d with|nil=>rfl|cons r d ih=>{have hr:=h r (du ..);by_cases e:r=c;{subst e;rw[gl,sH r f,kr,ny (by simp),ny (by simp)];exact ih fun x hx=>h x (d7 _ hx)};{rw[mr (by simpa using e),gl];have g:=aL2 r c f hr e (d.flatMap aV);cases hl:aV r++d.flatMap aV with|nil=>exact absurd hl (aBE r _)|cons b l=>{rw[hl]at g;rw[mr];simpa using g b rfl}}}
theorem aBi {l:U}(h:lW l):lW (Lib.trimLeftB l 32):=by
 obtain⟨d,rfl,b⟩:=h;refine⟨d.dropWhile (· == 32),aDU 32 (by omega) d fun r hr=>(b r hr).1,fun r hr=>b r ?_⟩;exact(qi _).subset hr
theorem gN (l:U)(b c:UInt8):Lib.trimRightB (l++[b]) c=if b=c then Lib.trimRightB l c else l++[b]:=by
 unfold Lib.trimRightB;rw[rg];simp only[pf,List.reverse_nil,d8,kr];by_cases h:b=c;{rw[af h,ny (by simpa using h)]};{rw[ae h,mr (by simpa using h)];simp}
theorem aC9 (l m:U)(c:UInt8)(d:m≠[])(h:∀b∈m,b≠c):Lib.trimRightB (l++m) c=l++m:=by
 obtain⟨e,b,rfl⟩:∃e b,m=e++[b]:=⟨m.dropLast,m.getLast d,(qf d).symm⟩;rw[<-cv,gN,ae (h b (by simp))]
theorem aDE {α : Type}{P:List α -> Prop}(d:P [])(f:∀l x,P l->P (l++[x]))(l:List α):P l:=by
 have:∀n (l:List α),l.length=n->P l:=by{intro n;induction n with|zero=>{intro l b;have:=fj b;subst this;exact d}|succ n ih=>{intro l b;have g:l≠[]:=by{intro e;subst e;simp at b};rw[<-qf g];exact f _ _ (ih _ (by rw[List.length_dropLast];omega))}};exact this l.length l rfl
theorem aAo {l:U}(h:lW l):lW (Lib.trimRightB l 32):=by
 obtain⟨d,rfl,f⟩:=h;revert f;refine aDE (P:=fun d=>(∀r∈d,Val r/\eW r=true)->lW (Lib.trimRightB (d.flatMap aV) 32)) ?_ ?_ d;{intro _;exact⟨[],rfl,fun r hr=>by cases hr⟩};{intro d r p f;have hr:=f r (by simp);have o:∀x∈d,Val x/\eW x=true:=fun x hx=>f x (by simp[hx]);rw[qb,vy];by_cases e:r=32;{subst e;have j:aV 32=[32]:=by{decide};rw[j,gN,af rfl];exact p o};{rw[aC9 _ _ 32 (by intro k;have:=(rQ r).1;rw[k]at this;simp at this)];{refine⟨d++[r],by rw[qb,vy],f⟩};{intro b g i;by_cases m:r<128;{rw[sH r m]at g;simp at g;rw[g]at i;have:=az UInt8.toNat i;rw[ofN r (by omega)]at this;exact e this};{have:=aAV r (by omega) hr.1.2 b g;rw[i]at this;exact absurd this (by decide)}}}}
theorem aEJ (l:U):lW (dS l):=by
 obtain⟨g,e,b⟩:=zM l;unfold dS;rw[e];have f:=aBK 9 (by omega) g fun r hr=>(b r hr).1;have j:UInt8.ofNat 9=9:=rfl;rw[j]at f;rw[f];have d:=aBK 10 (by omega) (g.filter (fun r=>r !=9)) fun r hr=>(b r (jq.1 hr).1).1;have i:UInt8.ofNat 10=10:=rfl;rw[i]at d;rw[d];exact⟨_,rfl,fun r hr=>b r (jq.1 (jq.1 hr).1).1⟩
theorem aFh (l:U):lW (bN l):=by
 unfold bN Lib.trimB;exact aBi (aAo (aEJ l))
theorem aKW (l:U):bS (bN l)=bN l:=tX (aFh l)
theorem aDJ (l:U)(c:UInt8):(Lib.trimB l c).Sublist l:=by
 unfold Lib.trimB Lib.trimLeftB Lib.trimRightB;refine(qi _).trans ?_;have:=(qi (fun x=>x==c) (l:=l.reverse)).reverse;rwa[rt]at this
theorem aMf (l:U):(bN l).Sublist (bS l):=by
 unfold bN;refine(aDJ _ _).trans ?_;unfold dS;exact(vz).trans vz
theorem aC8 (l:U)(c:UInt8):Lib.trimRightB (Lib.trimRightB l c) c=Lib.trimRightB l c:=by
 refine aDE (P:=fun l=>Lib.trimRightB (Lib.trimRightB l c) c=Lib.trimRightB l c) rfl ?_ l;intro l b d;rw[gN];by_cases h:b=c;{rw[af h];exact d};{rw[ae h,gN,ae h]}
theorem aEd (l:U)(c:UInt8):Lib.trimLeftB (Lib.trimLeftB l c) c=Lib.trimLeftB l c:=by
 unfold Lib.trimLeftB;induction l with|nil=>rfl|cons b l ih=>{by_cases h:b=c;{rw[ny (by simpa using h)];exact ih};{rw[mr (by simpa using h),mr (by simpa using h)]}}
theorem aDa (l:U)(c:UInt8)(h:Lib.trimRightB l c=l):Lib.trimRightB (Lib.trimLeftB l c) c=Lib.trimLeftB l c:=by
 unfold Lib.trimLeftB;induction l with|nil=>rfl|cons b l ih=>{by_cases e:b=c;{rw[ny (by simpa using e)];apply ih;by_cases d:l=[];{subst d;rfl};{obtain⟨m,x,rfl⟩:∃m x,l=m++[x]:=⟨l.dropLast,l.getLast d,(qf d).symm⟩;rw[<-dw,gN]at h;by_cases hx:x=c;{rw[af hx]at h;have f:(Lib.trimRightB (b :: m) c).length<=(b :: m).length:=by{unfold Lib.trimRightB;rw[List.length_reverse];exact bg (qi _).length_le (by simp)};rw[h]at f;simp at f;omega};{rw[gN,ae hx]}}};{rw[mr (by simpa using e)];exact h}}
theorem aIB (l:U)(c:UInt8):Lib.trimB (Lib.trimB l c) c=Lib.trimB l c:=by
 unfold Lib.trimB;rw[aDa _ _ (aC8 l c),aEd]
theorem yH (l:U):bN (bN l)=bN l:=by
 have h:dS (bN l)=bN l:=by{rw[pN,aKW,qh];intro b e;have d:b∈dS l:=(aDJ _ _).subset e;rw[pN]at d;exact(jq.1 d).2};show Lib.trimB (dS (bN l)) 32=bN l;rw[h];exact aIB _ _
open Go.RowKit
section
variable {P:Program} (T E:TypeId) (ht:P.underlying T=some (.slice E)) (hs:(P.info? E).map (·.size)=some 1) (w:H) (a:Option Addr) (n c l h:Nat)
include ht hs
theorem aKy (b:h<=c):(Instr.slice T (.slice a n c) none (some (.int .i64 h)) none).run P w=.ok (.slice a h c) w:=by
 cases hq:P.info? E with|none=>simp[hq]at hs|some i=>simp[Instr.slice,run_underlying ht,Instr.sliceBounds,run_sliceBound,sizeOf,typeInfo,hq,b,Addr.add]
theorem wN (h1:l<=h)(b:h<=c):(Instr.slice T (.slice a n c) (some (.int .i64 l)) (some (.int .i64 h)) none).run P w=.ok (.slice (if c=l then a else a.map (·.add l)) (h-l) (c-l)) w:=by
 cases hq:P.info? E with|none=>simp[hq]at hs|some i=>{have hi:i.size=1:=by{simpa [hq]using hs};simp[Instr.slice,run_underlying ht,Instr.sliceBounds,run_sliceBound,sizeOf,typeInfo,hq,hi,h1,b]}
end
theorem iA.empty (w:H)(base:Nat)(E:TypeId)(h:base<=w.heap.size):iA (w.alloc (.cells #[] E)) base E (some ⟨w.heap.size,0,none⟩) 0 [] :=
 qy w #[] 0 h (by unfold maxLen;omega) rfl
theorem IsB.same {w w':H}{a:Option Addr}{bs:U}(h:IsB w a bs)(f:w'.heap=w.heap):IsB w' a bs:=by
 intro j b d;obtain⟨x,hx,e⟩:=h j b d;exact⟨x,hx,by unfold World.cell? at *;rw[f];exact e⟩
open Go.RowKit PU8
theorem aO8 (c:Nat)(h:c<128):PU8.size c=(1,c):=by unfold PU8.size;rw[af h]
theorem aO7 (c:Nat)(h:128<=c)(b:c<192):PU8.size c=(0,0):=by unfold PU8.size;rw[ae (by omega),ae (by omega),ae (by omega),ae (by omega)]
theorem aO9 (c:Nat)(h:192<=c)(b:c<224):PU8.size c=(2,c-192):=by unfold PU8.size;rw[ae (by omega),af (by omega)]
theorem aPa (c:Nat)(h:224<=c)(b:c<240):PU8.size c=(3,c-224):=by unfold PU8.size;rw[ae (by omega),ae (by omega),af (by omega)]
theorem aPb (c:Nat)(h:240<=c)(b:c<248):PU8.size c=(4,c-240):=by unfold PU8.size;rw[ae (by omega),ae (by omega),ae (by omega),af (by omega)]
theorem aPc (c:Nat)(h:248<=c):PU8.size c=(0,0):=by unfold PU8.size;rw[ae (by omega),ae (by omega),ae (by omega),ae (by omega)]
theorem vF {a b c d:Int}(h:a=c)(e:b=d):Ending.returned (.tuple #[.int .i64 a,.int .i64 b])=.returned (.tuple #[.int .i64 c,.int .i64 d]):=by rw[h,e]
theorem aQI {a b:Bool}(h:a=b):Ending.returned (.bool a)=.returned (.bool b):=by rw[h]
theorem aOX {a b:Int}(h:a=b):Ending.returned (.int .i64 a)=.returned (.int .i64 b):=by rw[h]
theorem tS (c:UInt8)(n v:Nat)(w:H)(hs:G (PU8.size c.toNat=(n,v))) :
  Y 180 #[.int .u8 c.toNat] w fun e w'=>e=.returned (.tuple #[.int .i64 n,.int .i64 v])/\w=w':=by
 have f:c.toNat<256:=c.toNat_lt;generalize c.toNat=c at hs f;have g:c<128\/(128<=c/\c<192)\/(192<=c/\c<224)\/(224<=c/\c<240)\/(240<=c/\c<248)\/248<=c:=by omega
 rcases g with h|⟨h,d⟩|⟨h,d⟩|⟨h,d⟩|⟨h,d⟩|h
 ·have b:=aO8 c h;rw[hs.o]at b
  obtain⟨rfl,rfl⟩:=go b;clear b;go_enter Tryz.func180,Tryz.ntmps180
  go_wp2
  go_ret2;exact⟨vF (by omega) (by omega),rfl⟩
 ·have b:=aO7 c h d;rw[hs.o]at b
  obtain⟨rfl,rfl⟩:=go b;clear b;go_enter Tryz.func180,Tryz.ntmps180
  go_wp2
  go_ret2;exact⟨vF (by omega) (by omega),rfl⟩
 ·have b:=aO9 c h d;rw[hs.o]at b
  obtain⟨rfl,rfl⟩:=go b;clear b;go_enter Tryz.func180,Tryz.ntmps180
  go_wp2
  go_ret2;exact⟨vF (by omega) (by omega),rfl⟩
 ·have b:=aPa c h d;rw[hs.o]at b
  obtain⟨rfl,rfl⟩:=go b;clear b;go_enter Tryz.func180,Tryz.ntmps180
  go_wp2
  go_ret2;exact⟨vF (by omega) (by omega),rfl⟩
 ·have b:=aPb c h d;rw[hs.o]at b
  obtain⟨rfl,rfl⟩:=go b;clear b;go_enter Tryz.func180,Tryz.ntmps180
  go_wp2
  go_ret2;exact⟨vF (by omega) (by omega),rfl⟩
 ·have b:=aPc c h;rw[hs.o]at b
  obtain⟨rfl,rfl⟩:=go b;clear b;go_enter Tryz.func180,Tryz.ntmps180
  go_wp2
  go_ret2;exact⟨vF (by omega) (by omega),rfl⟩
theorem aIf (n:Nat)(k:n<=4)(w:H):Y 181 #[.int .i64 n] w fun e w'=>e=.returned (.int .i64 (PU8.least n:Nat))/\w=w':=by
 have j:n=0\/n=1\/n=2\/n=3\/n=4:=by{omega};have b:PU8.least 0=0:=rfl;have d:PU8.least 1=0:=rfl;have f:PU8.least 2=128:=rfl;have g:PU8.least 3=2048:=rfl;have i:PU8.least 4=65536:=rfl;rcases j with rfl|rfl|rfl|rfl|rfl
 all_goals
  simp only[b,d,f,g,i];clear b d f g i;go_enter Tryz.func181,Tryz.ntmps181
  go_wp2
  go_ret;exact⟨aOX (by simp),rfl⟩
theorem aKm (c:Nat)(h:Val c)(w:H):Y 131 #[.int .i64 c] w fun e w'=>e=.returned (.bool true)/\w=w':=by
 obtain⟨b,d⟩:=h;rcases b with b|b;{go_enter Tryz.func131,Tryz.ntmps131;go_wp2;go_ret;exact⟨rfl,rfl⟩};{go_enter Tryz.func131,Tryz.ntmps131;go_wp2;go_ret;exact⟨aQI (by simp;omega),rfl⟩}
