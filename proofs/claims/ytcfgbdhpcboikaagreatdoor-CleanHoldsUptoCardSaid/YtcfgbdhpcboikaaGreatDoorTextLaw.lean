/-
policy.Text and Link as functions of bytes: the characters of a text, some left out. No program in sight.
-/
import Derived.Lib.MapLaws
import Derived.Lib.Replace
import Derived.Lib.TrimByte
import Derived.Test.YtcfgbdhpcboikaaGreatDoorUtf8Law
namespace Go.Proofs.YtcfgbdhpcboikaaGreatDoor
open PU8
theorem aAy {n:Nat}:n≤n:=Nat.le_refl n
def bE (l:List UInt8):List Nat:=l.map UInt8.toNat
def bM (v:Nat):List UInt8:=(encN v).map UInt8.ofNat
def Val (v:Nat):Prop:=(v<0xd800∨0xdfff<v)∧v≤0x10ffff
theorem mK {l:List UInt8}(h:l≠[]):bE l≠[]:=by
 unfold bE;simpa using h
theorem vJ (l:List UInt8)(h:l≠[]):1≤(pieceU (bE l)).1:=by
 have:=(sameU (bE l) (mK h)).num;omega
theorem aGT:bM 0xfffd=[239,191,189]:=by decide
theorem aIB (l:List UInt8)(h:l≠[]):Val (pieceU (bE l)).2.1:=by
 have s:=sameU (bE l) (mK h);cases hw:(lookU (bE l)).2 with
 | true=>exact(s.val hw).2
 | false=>rw[s.bad hw];exact⟨by decide,by decide⟩
theorem rZ (l:List UInt8)(h:l≠[])(hw:(lookU (bE l)).2=true):bM (pieceU (bE l)).2.1=l.take (lookU (bE l)).1∧1≤(lookU (bE l)).1∧(lookU (bE l)).1≤l.length:=by
 have s:=sameU (bE l) (mK h);obtain⟨h1,h2⟩:=s.val hw;have hn:∀b:List Nat,(lookU b).2=true→1≤(lookU b).1:=by
  intro b;have hc:∀need lo hi n r,1≤n→1≤(contU need lo hi n r).1:=by
   intro need;induction need with
   | zero=>intro lo hi n r hn;simpa [contU]using hn
   | succ k ih =>
    intro lo hi n r hn;cases r with
    | nil=>simpa [contU]using hn
    | cons c r =>
     unfold contU;split
     ·exact hn
     ·exact ih _ _ _ _ (by omega)
  cases b with
  | nil=>simp[lookU]
  | cons c r =>
   rw[look_cons];intro hh;repeat' split
   all_goals first
    | (exact hc _ _ _ _ _ aAy)
    | (simp_all;done)
    | decide
 have hl:=hn _ hw;have hnum:(pieceU (bE l)).1=(lookU (bE l)).1:=by
  have:=s.num;omega
 rw[hnum]at h1
 have hlen:(lookU (bE l)).1≤l.length:=by
  have he:=congrArg List.length h1;rw[List.length_take]at he
  have h4:1≤(encN (pieceU (bE l)).2.1).length:=by
   unfold encN;repeat' split
   all_goals simp
  have hle:∀b:List Nat,b≠[]→(lookU b).1≤b.length:=by
   have hc:∀need lo hi n (r:List Nat),(contU need lo hi n r).1≤n+r.length:=by
    intro need;induction need with
    | zero=>intro lo hi n r;simp[contU]
    | succ k ih =>
     intro lo hi n r;cases r with
     | nil=>simp[contU]
     | cons c r =>
      unfold contU;split
      ·simp
      ·have:=ih 0x80 0xbf (n+1) r;simp only[List.length_cons];omega
   intro b hb;cases b with
   | nil=>exact absurd rfl hb
   | cons c r =>
    rw[look_cons];simp only[List.length_cons];repeat' split
    all_goals first
     | (have:=hc 1 0x80 0xbf 1 r;omega)
     | (have:=hc 2 0xa0 0xbf 1 r;omega)
     | (have:=hc 2 0x80 0x9f 1 r;omega)
     | (have:=hc 2 0x80 0xbf 1 r;omega)
     | (have:=hc 3 0x90 0xbf 1 r;omega)
     | (have:=hc 3 0x80 0xbf 1 r;omega)
     | (have:=hc 3 0x80 0x8f 1 r;omega)
     | (simp only;omega)
  have:=hle _ (mK h);simpa [bE]using this
 refine⟨?_,hl,hlen⟩;unfold bM;rw[h1];unfold bE;rw[←List.map_take,List.map_map];conv=>rhs;rw[←List.map_id (List.take (lookU (List.map UInt8.toNat l)).1 l)]
 apply List.map_congr_left;intro c _;simp
theorem aG8 (l:List UInt8)(h:l≠[])(hw:(lookU (bE l)).2=false):(pieceU (bE l)).2.1=0xfffd :=
 (sameU (bE l) (mK h)).bad hw
theorem aIM (l:List UInt8)(h:l≠[]):(pieceU (bE l)).1=max (lookU (bE l)).1 1:=(sameU (bE l) (mK h)).num
def mR:Nat→List UInt8→List Nat
 | 0,_=>[]
 | n+1,l=>if l=[]then []else (pieceU (bE l)).2.1 :: mR n (l.drop (pieceU (bE l)).1)
def nB (l:List UInt8):List Nat:=mR l.length l
theorem oM (n:Nat):mR n []=[]:=by cases n<;>simp[mR]
theorem aEq:∀(n m:Nat) (l:List UInt8),l.length≤n→l.length≤m→mR n l=mR m l:=by
 intro n;induction n with
 | zero =>
  intro m l hn _;have:l=[]:=List.eq_nil_of_length_eq_zero (by omega);subst this;rw[oM,oM]
 | succ n ih =>
  intro m l hn hm;by_cases hne:l=[]
  ·subst hne;rw[oM,oM]
  ·have hp:=vJ l hne;have hl:0<l.length:=List.length_pos_iff.2 hne;cases m with
   | zero=>omega
   | succ m =>
    unfold mR;rw[if_neg hne,if_neg hne,ih m _ (by rw[List.length_drop];omega) (by rw[List.length_drop];omega)]
theorem aCq:nB []=[]:=rfl
theorem tZ (l:List UInt8)(h:l≠[]):nB l=(pieceU (bE l)).2.1 :: nB (l.drop (pieceU (bE l)).1):=by
 have hl:0<l.length:=List.length_pos_iff.2 h;have hp:=vJ l h;unfold nB;obtain⟨n,hn⟩:∃n,l.length=n+1:=⟨l.length-1,by omega⟩
 rw[hn];conv=>lhs;unfold mR
 rw[if_neg h,aEq n _ _ (by rw[List.length_drop];omega) aAy]
theorem aCr:∀(n:Nat) (l:List UInt8),l.length≤n→∀r∈nB l,Val r:=by
 intro n;induction n with
 | zero =>
  intro l hl r hr;have:l=[]:=List.eq_nil_of_length_eq_zero (by omega);subst this;rw[aCq]at hr;cases hr
 | succ n ih =>
  intro l hl r hr;by_cases hne:l=[]
  ·subst hne;rw[aCq]at hr;cases hr
  ·rw[tZ l hne]at hr
   have hp:=vJ l hne;have hpos:0<l.length:=List.length_pos_iff.2 hne;rcases List.mem_cons.1 hr with rfl|hr
   ·exact aIB l hne
   ·exact ih _ (by rw[List.length_drop];omega) r hr
def lM (l:List UInt8):List UInt8:=(nB l).flatMap bM
theorem aBE:lM []=[]:=rfl
theorem aDW (l:List UInt8)(h:l≠[]):lM l=(if (lookU (bE l)).2=true then l.take (lookU (bE l)).1 else [239,191,189])++lM (l.drop (max (lookU (bE l)).1 1)):=by
 unfold lM;rw[tZ l h,List.flatMap_cons,aIM l h];congr 1;cases hw:(lookU (bE l)).2 with
 | true=>rw[(rZ l h hw).1];rfl
 | false=>rw[aG8 l h hw,aGT];rfl
theorem ofN (n:Nat)(h:n<256):(UInt8.ofNat n).toNat=n:=by
 rw[UInt8.toNat_ofNat'];omega
theorem xS (v:Nat):1≤(bM v).length∧(bM v).length≤4:=by
 unfold bM;rw[List.length_map];unfold encN;repeat' split
 all_goals simp
theorem aF1 (r:Nat)(h:Val r)(t:List UInt8):Lib.decodeL (bM r++t)=(r,(bM r).length):=by
 obtain⟨h1,h2⟩:=h;rw[Lib.decodeL_N];by_cases a:r<0x80
 ·have e:bM r=[UInt8.ofNat r]:=by unfold bM encN;rw[if_pos a];rfl
  rw[e];simp only[List.cons_append,List.nil_append,List.length_cons,List.length_nil,List.getD_cons_zero];rw[ofN r (by omega)];unfold Lib.decodeN;rw[if_pos (by omega)]
 ·by_cases b:r<0x800
  ·have e:bM r=[UInt8.ofNat (0xc0+r / 64),UInt8.ofNat (0x80+r%64)]:=by unfold bM;rw[enc_two r (by omega) b];rfl
   rw[e];simp only[List.cons_append,List.nil_append,List.length_cons,List.length_nil,List.getD_cons_zero,List.getD_cons_succ];rw[ofN _ (by omega),ofN _ (by omega)];unfold Lib.decodeN;rw[if_neg (by omega),if_pos (by omega),if_pos (by omega)];apply Prod.ext
   ·simp only;omega
   ·rfl
  ·by_cases c:r<0x10000
   ·have e:bM r=[UInt8.ofNat (0xe0+r / 4096),UInt8.ofNat (0x80+r / 64%64),UInt8.ofNat (0x80+r%64)]:=by unfold bM;rw[enc_three r (by omega) c];rfl
    rw[e];simp only[List.cons_append,List.nil_append,List.length_cons,List.length_nil,List.getD_cons_zero,List.getD_cons_succ];rw[ofN _ (by omega),ofN _ (by omega),ofN _ (by omega)];unfold Lib.decodeN;rw[if_neg (by omega),if_neg (by omega),if_pos (by omega),if_pos (by omega)];apply Prod.ext
    ·simp only;omega
    ·rfl
   ·have e:bM r=[UInt8.ofNat (0xf0+r / 262144),UInt8.ofNat (0x80+r / 4096%64),UInt8.ofNat (0x80+r / 64%64),UInt8.ofNat (0x80+r%64)]:=by unfold bM;rw[enc_four r (by omega)];rfl
    rw[e];simp only[List.cons_append,List.nil_append,List.length_cons,List.length_nil,List.getD_cons_zero,List.getD_cons_succ];rw[ofN _ (by omega),ofN _ (by omega),ofN _ (by omega),ofN _ (by omega)];unfold Lib.decodeN;rw[if_neg (by omega),if_neg (by omega),if_neg (by omega),if_pos (by omega),if_pos (by omega)];apply Prod.ext
    ·simp only;omega
    ·rfl
theorem aBo (r:Nat)(h:Val r):Lib.encodeRune (r:Int)=bM r:=by
 obtain⟨h1,h2⟩:=h;have tb:∀(z:Int) (n:Nat),z=(n:Int)→z.toNat.toUInt8=UInt8.ofNat n:=by
  intro z n hz;subst hz;rfl
 unfold Lib.encodeRune;by_cases a:r<0x80
 ·rw[Lib.encodeRuneZ_one (by omega) (by omega)];have e:bM r=[UInt8.ofNat r]:=by unfold bM encN;rw[if_pos a];rfl
  rw[e];simp only[List.map_cons,List.map_nil];rw[tb _ r rfl]
 ·by_cases b:r<0x800
  ·rw[Lib.encodeRuneZ_two (by omega) (by omega)];have e:bM r=[UInt8.ofNat (0xc0+r / 64),UInt8.ofNat (0x80+r%64)]:=by unfold bM;rw[enc_two r (by omega) b];rfl
   rw[e];simp only[List.map_cons,List.map_nil];rw[tb _ (0xc0+r / 64) (by omega),tb _ (0x80+r%64) (by omega)]
  ·by_cases c:r<0x10000
   ·rw[Lib.encodeRuneZ_three (by omega)];have e:bM r=[UInt8.ofNat (0xe0+r / 4096),UInt8.ofNat (0x80+r / 64%64),UInt8.ofNat (0x80+r%64)]:=by unfold bM;rw[enc_three r (by omega) c];rfl
    rw[e];simp only[List.map_cons,List.map_nil];rw[tb _ (0xe0+r / 4096) (by omega),tb _ (0x80+r / 64%64) (by omega),tb _ (0x80+r%64) (by omega)]
   ·rw[Lib.encodeRuneZ_four (by omega) (by omega)];have e:bM r=[UInt8.ofNat (0xf0+r / 262144),UInt8.ofNat (0x80+r / 4096%64),UInt8.ofNat (0x80+r / 64%64),UInt8.ofNat (0x80+r%64)]:=by unfold bM;rw[enc_four r (by omega)];rfl
    rw[e];simp only[List.map_cons,List.map_nil];rw[tb _ (0xf0+r / 262144) (by omega),tb _ (0x80+r / 4096%64) (by omega),tb _ (0x80+r / 64%64) (by omega),tb _ (0x80+r%64) (by omega)]
def nG (r:Nat):Bool:=decide (r=9)||decide (r=10)||(decide (32≤r)&&decide (r<127))||decide (159<r)
def jY (r:Int):Int:=if r<32∧r≠9∧r≠10∨127≤r∧r≤159 then -1 else r
def cV (l:List UInt8):List UInt8:=((nB l).filter nG).flatMap bM
theorem aGz (r:Nat)(h:nG r=true):jY (r:Int)=(r:Int):=by
 unfold nG at h;simp only[Bool.or_eq_true,Bool.and_eq_true,decide_eq_true_eq]at h;unfold jY;rw[if_neg (by omega)]
theorem aFR (r:Nat)(h:nG r=false):jY (r:Int)=-1:=by
 unfold nG at h;simp only[Bool.or_eq_false_iff,Bool.and_eq_false_iff,decide_eq_false_iff_not]at h;unfold jY;rw[if_pos (by omega)]
theorem aEY (x:Nat)(h:x≤1114111):-2147483648≤jY x∧jY x≤2147483647:=by
 unfold jY;split<;>omega
theorem aA2 (r:Nat)(t:List UInt8):bM r++t≠[]:=by
 have:=(xS r).1;intro h;rw[List.append_eq_nil_iff]at h
 rw[h.1]at this
 simp at this
theorem aMN (rs:List Nat)(hv:∀r∈rs,Val r):Lib.mapD jY (rs.flatMap bM)=(rs.filter nG).flatMap bM:=by
 induction rs with
 | nil=>rfl
 | cons r rs ih =>
  have hr:=hv r (List.mem_cons_self ..);rw[List.flatMap_cons,Lib.mapD_step _ _ (aA2 r _),aF1 r hr];simp only[List.drop_left];rw[ih fun x hx=>hv x (List.mem_cons_of_mem _ hx)];cases hk:nG r with
  | true=>rw[aGz r hk,if_pos (by omega),List.filter_cons_of_pos hk,List.flatMap_cons,aBo r hr]
  | false=>rw[aFR r hk,if_neg (by omega),List.filter_cons_of_neg (by simp[hk])];rfl
theorem aNe (l:List UInt8):Lib.mapD jY (lM l)=cV l:=aMN _ (aCr l.length l aAy)
theorem aBa:∀(n:Nat) (l:List UInt8),l.length≤n→(lM l).length≤3*l.length:=by
 intro n;induction n with
 | zero =>
  intro l hl;have:l=[]:=List.eq_nil_of_length_eq_zero (by omega);subst this;simp[aBE]
 | succ n ih =>
  intro l hl;by_cases hne:l=[]
  ·subst hne;simp[aBE]
  ·have hpos:0<l.length:=List.length_pos_iff.2 hne;rw[aDW l hne,List.length_append];have:=ih (l.drop (max (lookU (bE l)).1 1)) (by rw[List.length_drop];omega);rw[List.length_drop]at this
   split
   ·rename_i hw;obtain⟨_,h1,h2⟩:=rZ l hne hw;rw[List.length_take];omega
   ·simp only[List.length_cons,List.length_nil];by_cases hm:max (lookU (bE l)).1 1≤l.length
    ·omega
    ·omega
theorem aK8 (l:List UInt8):(cV l).length≤(lM l).length:=by
 unfold cV lM;generalize nB l=rs;induction rs with
 | nil=>simp
 | cons r rs ih =>
  rw[List.flatMap_cons,List.length_append];cases hk:nG r with
  | true=>rw[List.filter_cons_of_pos hk,List.flatMap_cons,List.length_append];omega
  | false=>rw[List.filter_cons_of_neg (by simp[hk])];omega
theorem tV (b:UInt8)(l:List UInt8)(c:UInt8):Lib.index (b :: l) [c]=if b=c then 0 else if Lib.index l [c]=-1 then -1 else Lib.index l [c]+1:=by
 have e:Lib.index (b :: l) [c]=if [c].isPrefixOf (b :: l)then 0 else if Lib.index l [c]==-1 then -1 else Lib.index l [c]+1:=rfl
 rw[e];by_cases h:b=c
 ·subst h;simp
 ·have h':¬c=b:=fun x=>h x.symm
  simp[h,h']
theorem aC8 (l:List UInt8)(c:UInt8)(h:c∉l):Lib.index l [c]=-1:=by
 induction l with
 | nil=>rfl
 | cons b l ih =>
  have hb:¬b=c:=fun e=>h (e▸List.mem_cons_self ..)
  rw[tV,if_neg hb,if_pos (ih fun x=>h (List.mem_cons_of_mem _ x))]
theorem aDQ (p q:List UInt8)(c:UInt8)(h:c∉p):Lib.index (p++c :: q) [c]=p.length:=by
 induction p with
 | nil=>rw[List.nil_append,tV,if_pos rfl];rfl
 | cons b p ih =>
  have hb:¬b=c:=fun e=>h (e▸List.mem_cons_self ..)
  have:=ih fun x=>h (List.mem_cons_of_mem _ x)
  rw[List.cons_append,tV,if_neg hb,this,if_neg (by omega)];simp
theorem aDH {l:List UInt8}{c:UInt8}(h:c∈l):∃p q,l=p++c :: q∧c∉p:=by
 induction l with
 | nil=>cases h
 | cons b l ih =>
  by_cases hb:b=c
  ·subst hb;exact⟨[],l,rfl,by simp⟩
  ·obtain⟨p,q,e,hp⟩:=ih ((List.mem_cons.1 h).resolve_left fun x=>hb x.symm);refine⟨b :: p,q,by rw[e];rfl,?_⟩;intro hx;rcases List.mem_cons.1 hx with rfl|hx
   ·exact hb rfl
   ·exact hp hx
theorem aBc (p q:List UInt8)(c:UInt8)(h:c∉p):Lib.cut (p++c :: q) [c]=(p,q,true):=by
 unfold Lib.cut;rw[aDQ p q c h,if_pos (by omega)];simp
theorem aDp (l:List UInt8)(c:UInt8)(h:c∉l):Lib.cut l [c]=(l,[],false):=by
 unfold Lib.cut;rw[aC8 l c h,if_neg (by omega)]
theorem xY (l:List UInt8)(c:UInt8)(h:c∉l):l.filter (fun b=>b !=c)=l:=by
 rw[List.filter_eq_self];intro b hb;simp only[bne_iff_ne,ne_eq];intro e;exact h (e▸hb)
theorem aDy (c:UInt8):∀(n:Nat) (l:List UInt8) (f:Nat),l.length≤n→l.length<f→Lib.replaceK [c] [] (Lib.countFrom [c] f l) l=l.filter (fun b=>b !=c):=by
 intro n;induction n with
 | zero =>
  intro l f hl hf;have:l=[]:=List.eq_nil_of_length_eq_zero (by omega);subst this;obtain⟨g,rfl⟩:∃g,f=g+1:=⟨f-1,by omega⟩
  rfl
 | succ n ih =>
  intro l f hl hf;obtain⟨g,rfl⟩:∃g,f=g+1:=⟨f-1,by omega⟩
  by_cases hc:c∈l
  ·obtain⟨p,q,rfl,hp⟩:=aDH hc;have hi:=aDQ p q c hp;have hlen:(p++c :: q).length=p.length+q.length+1:=by simp;omega
   have hd:(p++c :: q).drop (p.length+1)=q:=by
    rw[←List.drop_drop,List.drop_left];rfl
   have hcount:Lib.countFrom [c] (g+1) (p++c :: q)=Lib.countFrom [c] g q+1:=by
    have e:Lib.countFrom [c] (g+1) (p++c :: q)=if Lib.index (p++c :: q) [c]==-1 then 0 else 1+Lib.countFrom [c] g ((p++c :: q).drop ((Lib.index (p++c :: q) [c]).toNat+1)):=rfl
    rw[e,hi];have hm:¬(((p.length:Nat):Int)==-1)=true:=fun x=>by have:=beq_iff_eq.1 x;omega
    rw[if_neg hm,Int.toNat_natCast,hd];omega
   rw[hcount,Lib.replaceK_hit [c] [] _ _ p.length hi];have hk:(p++c :: q).drop (p.length+[c].length)=q:=hd;rw[hk,ih q g (by omega) (by omega),List.take_left,List.append_nil,List.filter_append,xY p c hp,List.filter_cons_of_neg (by simp)]
  ·have hcount:Lib.countFrom [c] (g+1) l=0:=by
    have e:Lib.countFrom [c] (g+1) l=if Lib.index l [c]==-1 then 0 else 1+Lib.countFrom [c] g (l.drop ((Lib.index l [c]).toNat+1)):=rfl
    rw[e,aC8 l c hc];rfl
   rw[hcount,xY l c hc];rfl
theorem tC (c:UInt8)(l:List UInt8):Lib.replaceAll l [c] []=l.filter (fun b=>b !=c):=by
 unfold Lib.replaceAll Lib.replace;rw[if_neg (by simp)];have:Lib.replaceNum l [c] (-1)=Lib.countFrom [c] (l.length+1) l:=by
  unfold Lib.replaceNum;rw[if_pos (Or.inl (by omega))];rfl
 rw[this,aDy c l.length l _ aAy (by omega)]
def lA (l:List UInt8):List UInt8:=((cV l).filter (fun b=>b !=9)).filter (fun b=>b !=10)
def dI (l:List UInt8):List UInt8:=Lib.trimB (lA l) 32
theorem yO (l:List UInt8):lA l=(cV l).filter (fun b=>b !=9&&b !=10):=by
 unfold lA;rw[List.filter_filter];congr 1;funext b;cases (b !=9)<;>cases (b !=10)<;>rfl
def fG (c:UInt8):UInt8:=if 65≤c.toNat∧c.toNat≤90 then UInt8.ofNat (c.toNat+32)else c
theorem aF5 (c:UInt8):(fG c).toNat=if 65≤c.toNat∧c.toNat≤90 then c.toNat+32 else c.toNat:=by
 unfold fG;split
 ·rw[ofN _ (by omega)]
 ·rfl
def dC (l:List UInt8):List UInt8:=l.map fG
def aW (c:UInt8)(i:Nat):Bool :=
 (decide (97≤c.toNat)&&decide (c.toNat≤122))||(decide (0<i)&&((decide (48≤c.toNat)&&decide (c.toNat≤57))||decide (c.toNat=43)||decide (c.toNat=45)||decide (c.toNat=46)))
def gC:Nat→List UInt8→Bool
 | _,[]=>true
 | i,c :: l=>aW (fG c) i&&gC (i+1) l
theorem uW (l:List UInt8):∀i,gC i l=true↔∀j c,l[j]?=some c→aW (fG c) (i+j)=true:=by
 induction l with
 | nil=>intro i;simp[gC]
 | cons c l ih =>
  intro i;rw[gC,Bool.and_eq_true,ih];constructor
  ·rintro⟨h1,h2⟩ j d hd;cases j with
   | zero=>simp at hd;subst hd;exact h1
   | succ j=>simp at hd;have:=h2 j d hd;rwa[show i+(j+1)=i+1+j by omega]
  ·intro h;refine⟨h 0 c rfl,fun j d hd=>?_⟩;have:=h (j+1) d (by simpa using hd);rwa[show i+(j+1)=i+1+j by omega]at this
def lJ (l:List UInt8):Option (List UInt8) :=
 if (Lib.cut l [58]).2.2=true∧(Lib.cut l [58]).1≠[]∧gC 0 (Lib.cut l [58]).1=true then some (dC (Lib.cut l [58]).1)else none
theorem sB (p q:List UInt8)(h:(58:UInt8)∉p):lJ (p++58 :: q)=if p≠[]∧gC 0 p=true then some (dC p)else none:=by
 unfold lJ;rw[aBc p q 58 h];simp
theorem aD3 (l:List UInt8)(h:(58:UInt8)∉l):lJ l=none:=by
 unfold lJ;rw[aDp l 58 h];simp
open PU8
theorem aDN (r:Nat)(h:Val r):bE (bM r)=encN r:=by
 obtain⟨h1,h2⟩:=h;unfold bE bM;rw[List.map_map];conv=>rhs;rw[←List.map_id (encN r)]
 apply List.map_congr_left;intro c hc;have hlt:c<256:=by
  unfold encN at hc;repeat' split at hc
  all_goals simp only[List.mem_cons,List.mem_nil_iff,or_false]at hc
  all_goals omega
 simp only[Function.comp];exact ofN c hlt
theorem yE (a b:List UInt8):bE (a++b)=bE a++bE b:=by simp[bE]
theorem aDT (lo hi n c:Nat)(r:List Nat)(h:¬(c<lo∨hi<c)):contU 1 lo hi n (c :: r)=(n+1,true):=by
 unfold contU;rw[if_neg h];rfl
theorem uR (lo hi n c d:Nat)(r:List Nat)(h:¬(c<lo∨hi<c))(h2:¬(d<0x80∨0xbf<d)):contU 2 lo hi n (c :: d :: r)=(n+2,true):=by
 unfold contU;rw[if_neg h,aDT _ _ _ _ _ h2]
theorem tN (lo hi n c d e:Nat)(r:List Nat)(h:¬(c<lo∨hi<c))(h2:¬(d<0x80∨0xbf<d))(h3:¬(e<0x80∨0xbf<e)):contU 3 lo hi n (c :: d :: e :: r)=(n+3,true):=by
 unfold contU;rw[if_neg h,uR _ _ _ _ _ _ h2 h3]
theorem aJN (r:Nat)(h:Val r)(t:List Nat):lookU (encN r++t)=((encN r).length,true):=by
 obtain⟨h1,h2⟩:=h;by_cases a:r<0x80
 ·have e:encN r=[r]:=by unfold encN;rw[if_pos a]
  rw[e,List.singleton_append,look_cons,if_pos a];rfl
 ·by_cases b:r<0x800
  ·rw[enc_two r (by omega) b];simp only[List.cons_append,List.nil_append];rw[look_cons,if_neg (by omega),if_neg (by omega),if_pos (by omega),aDT _ _ _ _ _ (by omega)];rfl
  ·by_cases c:r<0x10000
   ·rw[enc_three r (by omega) c];simp only[List.cons_append,List.nil_append];rw[look_cons,if_neg (by omega),if_neg (by omega),if_neg (by omega)];by_cases d:r / 4096=0
    ·rw[if_pos (by omega),uR _ _ _ _ _ _ (by omega) (by omega)];rfl
    ·rw[if_neg (by omega)];by_cases f:r / 4096=13
     ·rw[if_pos (by omega),uR _ _ _ _ _ _ (by omega) (by omega)];rfl
     ·rw[if_neg (by omega),if_pos (by omega),uR _ _ _ _ _ _ (by omega) (by omega)];rfl
   ·rw[enc_four r (by omega)];simp only[List.cons_append,List.nil_append];rw[look_cons,if_neg (by omega),if_neg (by omega),if_neg (by omega),if_neg (by omega),if_neg (by omega),if_neg (by omega)];by_cases d:r / 262144=0
    ·rw[if_pos (by omega),tN _ _ _ _ _ _ _ (by omega) (by omega) (by omega)];rfl
    ·rw[if_neg (by omega)];by_cases f:r / 262144<4
     ·rw[if_pos (by omega),tN _ _ _ _ _ _ _ (by omega) (by omega) (by omega)];rfl
     ·rw[if_neg (by omega),if_pos (by omega),tN _ _ _ _ _ _ _ (by omega) (by omega) (by omega)];rfl
theorem aMV (r v:Nat)(h:encN r=encN v):r=v:=by
 unfold encN at h;repeat' split at h
 all_goals simp only[List.cons.injEq,and_true,reduceCtorEq,and_false]at h
 all_goals omega
theorem aHX (r:Nat)(h:Val r)(t:List UInt8):(pieceU (bE (bM r++t))).2.1=r∧(pieceU (bE (bM r++t))).1=(bM r).length:=by
 have hl:lookU (bE (bM r++t))=((encN r).length,true):=by
  rw[yE,aDN r h];exact aJN r h _
 have s:=sameU (bE (bM r++t)) (mK (aA2 r t));have hn:=s.num;rw[hl]at hn
 have h1:=(xS r).1;have e1:(bM r).length=(encN r).length:=by unfold bM;simp
 have hn':(pieceU (bE (bM r++t))).1=(bM r).length:=by
  rw[hn,e1];simp only;omega
 refine⟨?_,hn'⟩;have hv:=(s.val (by rw[hl])).1;have ht:(bE (bM r++t)).take (encN r).length=encN r:=by
  rw[yE,aDN r h,List.take_left]
 rw[hn',e1,ht]at hv
 exact aMV _ _ hv
theorem aHL (rs:List Nat)(h:∀r∈rs,Val r):nB (rs.flatMap bM)=rs:=by
 induction rs with
 | nil=>rfl
 | cons r rs ih =>
  have hr:=h r (List.mem_cons_self ..);rw[List.flatMap_cons,tZ _ (aA2 r _)];obtain⟨e1,e2⟩:=aHX r hr (rs.flatMap bM);rw[e1,e2,List.drop_left,ih fun x hx=>h x (List.mem_cons_of_mem _ hx)]
def gF (l:List UInt8):Prop:=∃rs:List Nat,l=rs.flatMap bM∧∀r∈rs,Val r∧nG r=true
theorem qX (l:List UInt8):gF (cV l) :=
 ⟨_,rfl,fun r hr=>by
  obtain⟨h1,h2⟩:=List.mem_filter.1 hr;exact⟨aCr l.length l aAy r h1,h2⟩⟩
theorem nE {l:List UInt8}(h:gF l):cV l=l:=by
 obtain⟨rs,rfl,hrs⟩:=h;unfold cV;rw[aHL rs fun r hr=>(hrs r hr).1,List.filter_eq_self.2 fun r hr=>(hrs r hr).2]
theorem aHJ (l:List UInt8):cV (cV l)=cV l:=nE (qX l)
theorem qS (r:Nat)(h:r<128):bM r=[UInt8.ofNat r]:=by unfold bM encN;rw[if_pos (by omega)];rfl
theorem zH (r:Nat)(h:128≤r)(h2:r≤0x10ffff):∀b∈bM r,128≤b.toNat:=by
 intro b hb;unfold bM at hb;obtain⟨c,hc,rfl⟩:=List.mem_map.1 hb;unfold encN at hc;rw[if_neg (by omega)]at hc
 repeat' split at hc
 all_goals simp only[List.mem_cons,List.mem_nil_iff,or_false]at hc
 all_goals (rw[ofN c (by omega)];omega)
theorem aAf (c:Nat)(hc:c<128)(rs:List Nat)(h:∀r∈rs,Val r):(rs.flatMap bM).filter (fun b=>b !=UInt8.ofNat c)=(rs.filter (fun r=>r !=c)).flatMap bM:=by
 induction rs with
 | nil=>rfl
 | cons r rs ih =>
  have hr:=h r (List.mem_cons_self ..);rw[List.flatMap_cons,List.filter_append,ih fun x hx=>h x (List.mem_cons_of_mem _ hx)];by_cases hl:r<128
  ·rw[qS r hl];by_cases e:r=c
   ·subst e;rw[List.filter_cons_of_neg (by simp),List.filter_cons_of_neg (by simp)];rfl
   ·have hne:UInt8.ofNat r≠UInt8.ofNat c:=by
     intro e2;have:=congrArg UInt8.toNat e2;rw[ofN r (by omega),ofN c (by omega)]at this
     exact e this
    rw[List.filter_cons_of_pos (by simpa using hne),List.filter_cons_of_pos (by simpa using e),List.flatMap_cons,qS r hl];rfl
  ·have hkeep:(bM r).filter (fun b=>b !=UInt8.ofNat c)=bM r:=by
    rw[List.filter_eq_self];intro b hb;have:=zH r (by omega) hr.2 b hb;simp only[bne_iff_ne,ne_eq];intro e2;rw[e2,ofN c (by omega)]at this
    omega
   rw[hkeep,List.filter_cons_of_pos (by simp;omega),List.flatMap_cons]
theorem aKE (r c:Nat)(hc:c<128)(h:Val r)(hne:r≠c)(t:List UInt8):∀b,(bM r++t).head?=some b→b≠UInt8.ofNat c:=by
 intro b hb e;have hm:b∈bM r:=by
  cases he:bM r with
  | nil=>have:=(xS r).1;rw[he]at this;simp at this
  | cons x l=>rw[he]at hb;simp at hb;subst hb;exact List.mem_cons_self ..
 by_cases hl:r<128
 ·rw[qS r hl]at hm
  simp at hm;rw[hm]at e
  have:=congrArg UInt8.toNat e;rw[ofN r (by omega),ofN c (by omega)]at this
  exact hne this
 ·have:=zH r (by omega) h.2 b hm;rw[e,ofN c (by omega)]at this
  omega
theorem aCA (c:Nat)(hc:c<128)(rs:List Nat)(h:∀r∈rs,Val r):(rs.flatMap bM).dropWhile (· == UInt8.ofNat c)=(rs.dropWhile (· == c)).flatMap bM:=by
 induction rs with
 | nil=>rfl
 | cons r rs ih =>
  have hr:=h r (List.mem_cons_self ..);by_cases e:r=c
  ·subst e;rw[List.flatMap_cons,qS r hc,List.singleton_append,List.dropWhile_cons_of_pos (by simp),List.dropWhile_cons_of_pos (by simp)];exact ih fun x hx=>h x (List.mem_cons_of_mem _ hx)
  ·rw[List.dropWhile_cons_of_neg (by simpa using e),List.flatMap_cons];have hh:=aKE r c hc hr e (rs.flatMap bM);cases hl:bM r++rs.flatMap bM with
   | nil=>exact absurd hl (aA2 r _)
   | cons b l =>
    rw[hl]at hh
    rw[List.dropWhile_cons_of_neg];simpa using hh b rfl
theorem yZ {l:List UInt8}(h:gF l):gF (Lib.trimLeftB l 32):=by
 obtain⟨rs,rfl,hrs⟩:=h;refine⟨rs.dropWhile (· == 32),aCA 32 (by omega) rs fun r hr=>(hrs r hr).1,fun r hr=>hrs r ?_⟩;exact(List.dropWhile_sublist _).subset hr
theorem gE (l:List UInt8)(b c:UInt8):Lib.trimRightB (l++[b]) c=if b=c then Lib.trimRightB l c else l++[b]:=by
 unfold Lib.trimRightB;rw[List.reverse_append];simp only[List.reverse_cons,List.reverse_nil,List.nil_append,List.singleton_append];by_cases h:b=c
 ·rw[if_pos h,List.dropWhile_cons_of_pos (by simpa using h)]
 ·rw[if_neg h,List.dropWhile_cons_of_neg (by simpa using h)];simp
theorem aBJ (l m:List UInt8)(c:UInt8)(hm:m≠[])(h:∀b∈m,b≠c):Lib.trimRightB (l++m) c=l++m:=by
 obtain⟨m',b,rfl⟩:∃m' b,m=m'++[b]:=⟨m.dropLast,m.getLast hm,(List.dropLast_concat_getLast hm).symm⟩
 rw[←List.append_assoc,gE,if_neg (h b (by simp))]
theorem aCt {α : Type}{P:List α → Prop}(h0:P [])(h1:∀l x,P l→P (l++[x]))(l:List α):P l:=by
 have:∀n (l:List α),l.length=n→P l:=by
  intro n;induction n with
  | zero =>
   intro l hl;have:=List.eq_nil_of_length_eq_zero hl;subst this;exact h0
  | succ n ih =>
   intro l hl;have hne:l≠[]:=by intro e;subst e;simp at hl
   rw[←List.dropLast_concat_getLast hne];exact h1 _ _ (ih _ (by rw[List.length_dropLast];omega))
 exact this l.length l rfl
theorem xT {l:List UInt8}(h:gF l):gF (Lib.trimRightB l 32):=by
 obtain⟨rs,rfl,hrs⟩:=h;revert hrs;refine aCt (P:=fun rs=>(∀r∈rs,Val r∧nG r=true)→gF (Lib.trimRightB (rs.flatMap bM) 32)) ?_ ?_ rs
 ·intro _;exact⟨[],rfl,fun r hr=>by cases hr⟩
 ·intro rs r ih hrs;have hr:=hrs r (by simp);have hrs':∀x∈rs,Val x∧nG x=true:=fun x hx=>hrs x (by simp[hx])
  rw[List.flatMap_append,List.flatMap_singleton];by_cases e:r=32
  ·subst e;have e32:bM 32=[32]:=by decide
   rw[e32,gE,if_pos rfl];exact ih hrs'
  ·rw[aBJ _ _ 32 (by intro h0;have:=(xS r).1;rw[h0]at this;simp at this)]
   ·refine⟨rs++[r],by rw[List.flatMap_append,List.flatMap_singleton],hrs⟩
   ·intro b hb e2;by_cases hl:r<128
    ·rw[qS r hl]at hb
     simp at hb;rw[hb]at e2
     have:=congrArg UInt8.toNat e2;rw[ofN r (by omega)]at this
     exact e this
    ·have:=zH r (by omega) hr.1.2 b hb;rw[e2]at this
     exact absurd this (by decide)
theorem aDe (l:List UInt8):gF (lA l):=by
 obtain⟨rs,e,hrs⟩:=qX l;unfold lA;rw[e];have h9:=aAf 9 (by omega) rs fun r hr=>(hrs r hr).1
 have e9:UInt8.ofNat 9=9:=rfl;rw[e9]at h9
 rw[h9];have h10:=aAf 10 (by omega) (rs.filter (fun r=>r !=9)) fun r hr=>(hrs r (List.mem_filter.1 hr).1).1
 have e10:UInt8.ofNat 10=10:=rfl;rw[e10]at h10
 rw[h10];exact⟨_,rfl,fun r hr=>hrs r (List.mem_filter.1 (List.mem_filter.1 hr).1).1⟩
theorem aC9 (l:List UInt8):gF (dI l):=by
 unfold dI Lib.trimB;exact yZ (xT (aDe l))
theorem aH0 (l:List UInt8):cV (dI l)=dI l:=nE (aC9 l)
theorem aCg (l:List UInt8)(c:UInt8):(Lib.trimB l c).Sublist l:=by
 unfold Lib.trimB Lib.trimLeftB Lib.trimRightB;refine(List.dropWhile_sublist _).trans ?_;have:=(List.dropWhile_sublist (fun x=>x==c) (l:=l.reverse)).reverse;rwa[List.reverse_reverse]at this
theorem aKg (l:List UInt8):(dI l).Sublist (cV l):=by
 unfold dI;refine(aCg _ _).trans ?_;unfold lA;exact(List.filter_sublist).trans List.filter_sublist
theorem aBK (l:List UInt8)(c:UInt8):Lib.trimRightB (Lib.trimRightB l c) c=Lib.trimRightB l c:=by
 refine aCt (P:=fun l=>Lib.trimRightB (Lib.trimRightB l c) c=Lib.trimRightB l c) rfl ?_ l;intro l b ih;rw[gE];by_cases h:b=c
 ·rw[if_pos h];exact ih
 ·rw[if_neg h,gE,if_neg h]
theorem aCN (l:List UInt8)(c:UInt8):Lib.trimLeftB (Lib.trimLeftB l c) c=Lib.trimLeftB l c:=by
 unfold Lib.trimLeftB;induction l with
 | nil=>rfl
 | cons b l ih =>
  by_cases h:b=c
  ·rw[List.dropWhile_cons_of_pos (by simpa using h)];exact ih
  ·rw[List.dropWhile_cons_of_neg (by simpa using h),List.dropWhile_cons_of_neg (by simpa using h)]
theorem aBI (l:List UInt8)(c:UInt8)(h:Lib.trimRightB l c=l):Lib.trimRightB (Lib.trimLeftB l c) c=Lib.trimLeftB l c:=by
 unfold Lib.trimLeftB;induction l with
 | nil=>rfl
 | cons b l ih =>
  by_cases hb:b=c
  ·rw[List.dropWhile_cons_of_pos (by simpa using hb)];apply ih;by_cases hl:l=[]
   ·subst hl;rfl
   ·obtain⟨m,x,rfl⟩:∃m x,l=m++[x]:=⟨l.dropLast,l.getLast hl,(List.dropLast_concat_getLast hl).symm⟩
    rw[←List.cons_append,gE]at h
    by_cases hx:x=c
    ·rw[if_pos hx]at h
     have hle:(Lib.trimRightB (b :: m) c).length≤(b :: m).length:=by
      unfold Lib.trimRightB;rw[List.length_reverse];exact Nat.le_trans (List.dropWhile_sublist _).length_le (by simp)
     rw[h]at hle
     simp at hle;omega
    ·rw[gE,if_neg hx]
  ·rw[List.dropWhile_cons_of_neg (by simpa using hb)];exact h
theorem aGq (l:List UInt8)(c:UInt8):Lib.trimB (Lib.trimB l c) c=Lib.trimB l c:=by
 unfold Lib.trimB;rw[aBI _ _ (aBK l c),aCN]
theorem vX (l:List UInt8):dI (dI l)=dI l:=by
 have h:lA (dI l)=dI l:=by
  rw[yO,aH0,List.filter_eq_self];intro b hb;have hm:b∈lA l:=(aCg _ _).subset hb;rw[yO]at hm
  exact(List.mem_filter.1 hm).2
 show Lib.trimB (lA (dI l)) 32=dI l;rw[h];exact aGq _ _
end Go.Proofs.YtcfgbdhpcboikaaGreatDoor
