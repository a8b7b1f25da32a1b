/-
policy.Text and Link as functions of bytes: the characters of a text, some left out. No program in sight.
-/
import Derived.Lib.MapLaws
import Derived.Lib.Replace
import Derived.Lib.TrimByte
import Derived.Test.YtcfgbdhpcboikaaGreatDoorUtf8Law
namespace Go.Proofs.YtcfgbdhpcboikaaGreatDoor
open PU8
theorem vL {n:Nat}:n≤n:=Nat.le_refl n
def aO (l:List UInt8):List Nat:=l.map UInt8.toNat
def cK (v:Nat):List UInt8:=(encN v).map UInt8.ofNat
def Val (v:Nat):Prop:=(v<0xd800∨0xdfff<v)∧v≤0x10ffff
theorem oQ {l:List UInt8}(h:l≠[]):aO l≠[]:=by
 unfold aO;simpa using h
theorem pU (l:List UInt8)(h:l≠[]):1≤(pieceU (aO l)).1:=by
 have:=(sameU (aO l) (oQ h)).num;omega
theorem aIP:cK 0xfffd=[239,191,189]:=by decide
theorem aC0 (l:List UInt8)(h:l≠[]):Val (pieceU (aO l)).2.1:=by
 have s:=sameU (aO l) (oQ h);cases hw:(lookU (aO l)).2 with
 | true=>exact(s.val hw).2
 | false=>rw[s.bad hw];exact⟨by decide,by decide⟩
theorem tN (l:List UInt8)(h:l≠[])(hw:(lookU (aO l)).2=true):cK (pieceU (aO l)).2.1=l.take (lookU (aO l)).1∧1≤(lookU (aO l)).1∧(lookU (aO l)).1≤l.length:=by
 have s:=sameU (aO l) (oQ h);obtain⟨h1,h2⟩:=s.val hw;have hn:∀b:List Nat,(lookU b).2=true→1≤(lookU b).1:=by
  intro b;have hc:∀need lo hi n r,1≤n→1≤(contU need lo hi n r).1:=by
   intro need;induction need with
   | zero=>intro lo hi n r hn;simpa [contU]using hn
   | succ k ih =>
    intro lo hi n r hn;cases r with
    | nil=>simpa [contU]using hn
    | cons c r =>
     unfold contU;split
     ·exact hn
     ·exact ih _ _ _ _ (by omega)
  cases b with
  | nil=>simp[lookU]
  | cons c r =>
   rw[look_cons];intro hh;repeat' split
   all_goals first
    | (exact hc _ _ _ _ _ vL)
    | (simp_all;done)
    | decide
 have hl:=hn _ hw;have hnum:(pieceU (aO l)).1=(lookU (aO l)).1:=by
  have:=s.num;omega
 rw[hnum]at h1
 have hlen:(lookU (aO l)).1≤l.length:=by
  have he:=congrArg List.length h1;rw[List.length_take]at he
  have h4:1≤(encN (pieceU (aO l)).2.1).length:=by
   unfold encN;repeat' split
   all_goals simp
  have hle:∀b:List Nat,b≠[]→(lookU b).1≤b.length:=by
   have hc:∀need lo hi n (r:List Nat),(contU need lo hi n r).1≤n+r.length:=by
    intro need;induction need with
    | zero=>intro lo hi n r;simp[contU]
    | succ k ih =>
     intro lo hi n r;cases r with
     | nil=>simp[contU]
     | cons c r =>
      unfold contU;split
      ·simp
      ·have:=ih 0x80 0xbf (n+1) r;simp only[List.length_cons];omega
   intro b hb;cases b with
   | nil=>exact absurd rfl hb
   | cons c r =>
    rw[look_cons];simp only[List.length_cons];repeat' split
    all_goals first
     | (have:=hc 1 0x80 0xbf 1 r;omega)
     | (have:=hc 2 0xa0 0xbf 1 r;omega)
     | (have:=hc 2 0x80 0x9f 1 r;omega)
     | (have:=hc 2 0x80 0xbf 1 r;omega)
     | (have:=hc 3 0x90 0xbf 1 r;omega)
     | (have:=hc 3 0x80 0xbf 1 r;omega)
     | (have:=hc 3 0x80 0x8f 1 r;omega)
     | (simp only;omega)
  have:=hle _ (oQ h);simpa [aO]using this
 refine⟨?_,hl,hlen⟩;unfold cK;rw[h1];unfold aO;rw[←List.map_take,List.map_map];conv=>rhs;rw[←List.map_id (List.take (lookU (List.map UInt8.toNat l)).1 l)]
 apply List.map_congr_left;intro c _;simp
theorem aJN (l:List UInt8)(h:l≠[])(hw:(lookU (aO l)).2=false):(pieceU (aO l)).2.1=0xfffd :=
 (sameU (aO l) (oQ h)).bad hw
theorem aCZ (l:List UInt8)(h:l≠[]):(pieceU (aO l)).1=max (lookU (aO l)).1 1:=(sameU (aO l) (oQ h)).num
def nJ:Nat→List UInt8→List Nat
 | 0,_=>[]
 | n+1,l=>if l=[]then []else (pieceU (aO l)).2.1 :: nJ n (l.drop (pieceU (aO l)).1)
def fJ (l:List UInt8):List Nat:=nJ l.length l
theorem pE (n:Nat):nJ n []=[]:=by cases n<;>simp[nJ]
theorem aE3:∀(n m:Nat) (l:List UInt8),l.length≤n→l.length≤m→nJ n l=nJ m l:=by
 intro n;induction n with
 | zero =>
  intro m l hn _;have:l=[]:=List.eq_nil_of_length_eq_zero (by omega);subst this;rw[pE,pE]
 | succ n ih =>
  intro m l hn hm;by_cases hne:l=[]
  ·subst hne;rw[pE,pE]
  ·have hp:=pU l hne;have hl:0<l.length:=List.length_pos_iff.2 hne;cases m with
   | zero=>omega
   | succ m =>
    unfold nJ;rw[if_neg hne,if_neg hne,ih m _ (by rw[List.length_drop];omega) (by rw[List.length_drop];omega)]
theorem yC:fJ []=[]:=rfl
theorem qQ (l:List UInt8)(h:l≠[]):fJ l=(pieceU (aO l)).2.1 :: fJ (l.drop (pieceU (aO l)).1):=by
 have hl:0<l.length:=List.length_pos_iff.2 h;have hp:=pU l h;unfold fJ;obtain⟨n,hn⟩:∃n,l.length=n+1:=⟨l.length-1,by omega⟩
 rw[hn];conv=>lhs;unfold nJ
 rw[if_neg h,aE3 n _ _ (by rw[List.length_drop];omega) vL]
theorem yD:∀(n:Nat) (l:List UInt8),l.length≤n→∀r∈fJ l,Val r:=by
 intro n;induction n with
 | zero =>
  intro l hl r hr;have:l=[]:=List.eq_nil_of_length_eq_zero (by omega);subst this;rw[yC]at hr;cases hr
 | succ n ih =>
  intro l hl r hr;by_cases hne:l=[]
  ·subst hne;rw[yC]at hr;cases hr
  ·rw[qQ l hne]at hr
   have hp:=pU l hne;have hpos:0<l.length:=List.length_pos_iff.2 hne;rcases List.mem_cons.1 hr with rfl|hr
   ·exact aC0 l hne
   ·exact ih _ (by rw[List.length_drop];omega) r hr
def lV (l:List UInt8):List UInt8:=(fJ l).flatMap cK
theorem aCe:lV []=[]:=rfl
theorem aD4 (l:List UInt8)(h:l≠[]):lV l=(if (lookU (aO l)).2=true then l.take (lookU (aO l)).1 else [239,191,189])++lV (l.drop (max (lookU (aO l)).1 1)):=by
 unfold lV;rw[qQ l h,List.flatMap_cons,aCZ l h];congr 1;cases hw:(lookU (aO l)).2 with
 | true=>rw[(tN l h hw).1];rfl
 | false=>rw[aJN l h hw,aIP];rfl
theorem ofN (n:Nat)(h:n<256):(UInt8.ofNat n).toNat=n:=by
 rw[UInt8.toNat_ofNat'];omega
theorem aCh (v:Nat):1≤(cK v).length∧(cK v).length≤4:=by
 unfold cK;rw[List.length_map];unfold encN;repeat' split
 all_goals simp
theorem aHe (r:Nat)(h:Val r)(t:List UInt8):Lib.decodeL (cK r++t)=(r,(cK r).length):=by
 obtain⟨h1,h2⟩:=h;rw[Lib.decodeL_N];by_cases a:r<0x80
 ·have e:cK r=[UInt8.ofNat r]:=by unfold cK encN;rw[if_pos a];rfl
  rw[e];simp only[List.cons_append,List.nil_append,List.length_cons,List.length_nil,List.getD_cons_zero];rw[ofN r (by omega)];unfold Lib.decodeN;rw[if_pos (by omega)]
 ·by_cases b:r<0x800
  ·have e:cK r=[UInt8.ofNat (0xc0+r / 64),UInt8.ofNat (0x80+r%64)]:=by unfold cK;rw[enc_two r (by omega) b];rfl
   rw[e];simp only[List.cons_append,List.nil_append,List.length_cons,List.length_nil,List.getD_cons_zero,List.getD_cons_succ];rw[ofN _ (by omega),ofN _ (by omega)];unfold Lib.decodeN;rw[if_neg (by omega),if_pos (by omega),if_pos (by omega)];apply Prod.ext
   ·simp only;omega
   ·rfl
  ·by_cases c:r<0x10000
   ·have e:cK r=[UInt8.ofNat (0xe0+r / 4096),UInt8.ofNat (0x80+r / 64%64),UInt8.ofNat (0x80+r%64)]:=by unfold cK;rw[enc_three r (by omega) c];rfl
    rw[e];simp only[List.cons_append,List.nil_append,List.length_cons,List.length_nil,List.getD_cons_zero,List.getD_cons_succ];rw[ofN _ (by omega),ofN _ (by omega),ofN _ (by omega)];unfold Lib.decodeN;rw[if_neg (by omega),if_neg (by omega),if_pos (by omega),if_pos (by omega)];apply Prod.ext
    ·simp only;omega
    ·rfl
   ·have e:cK r=[UInt8.ofNat (0xf0+r / 262144),UInt8.ofNat (0x80+r / 4096%64),UInt8.ofNat (0x80+r / 64%64),UInt8.ofNat (0x80+r%64)]:=by unfold cK;rw[enc_four r (by omega)];rfl
    rw[e];simp only[List.cons_append,List.nil_append,List.length_cons,List.length_nil,List.getD_cons_zero,List.getD_cons_succ];rw[ofN _ (by omega),ofN _ (by omega),ofN _ (by omega),ofN _ (by omega)];unfold Lib.decodeN;rw[if_neg (by omega),if_neg (by omega),if_neg (by omega),if_pos (by omega),if_pos (by omega)];apply Prod.ext
    ·simp only;omega
    ·rfl
theorem aCi (r:Nat)(h:Val r):Lib.encodeRune (r:Int)=cK r:=by
 obtain⟨h1,h2⟩:=h;have tb:∀(z:Int) (n:Nat),z=(n:Int)→z.toNat.toUInt8=UInt8.ofNat n:=by
  intro z n hz;subst hz;rfl
 unfold Lib.encodeRune;by_cases a:r<0x80
 ·rw[Lib.encodeRuneZ_one (by omega) (by omega)];have e:cK r=[UInt8.ofNat r]:=by unfold cK encN;rw[if_pos a];rfl
  rw[e];simp only[List.map_cons,List.map_nil];rw[tb _ r rfl]
 ·by_cases b:r<0x800
  ·rw[Lib.encodeRuneZ_two (by omega) (by omega)];have e:cK r=[UInt8.ofNat (0xc0+r / 64),UInt8.ofNat (0x80+r%64)]:=by unfold cK;rw[enc_two r (by omega) b];rfl
   rw[e];simp only[List.map_cons,List.map_nil];rw[tb _ (0xc0+r / 64) (by omega),tb _ (0x80+r%64) (by omega)]
  ·by_cases c:r<0x10000
   ·rw[Lib.encodeRuneZ_three (by omega)];have e:cK r=[UInt8.ofNat (0xe0+r / 4096),UInt8.ofNat (0x80+r / 64%64),UInt8.ofNat (0x80+r%64)]:=by unfold cK;rw[enc_three r (by omega) c];rfl
    rw[e];simp only[List.map_cons,List.map_nil];rw[tb _ (0xe0+r / 4096) (by omega),tb _ (0x80+r / 64%64) (by omega),tb _ (0x80+r%64) (by omega)]
   ·rw[Lib.encodeRuneZ_four (by omega) (by omega)];have e:cK r=[UInt8.ofNat (0xf0+r / 262144),UInt8.ofNat (0x80+r / 4096%64),UInt8.ofNat (0x80+r / 64%64),UInt8.ofNat (0x80+r%64)]:=by unfold cK;rw[enc_four r (by omega)];rfl
    rw[e];simp only[List.map_cons,List.map_nil];rw[tb _ (0xf0+r / 262144) (by omega),tb _ (0x80+r / 4096%64) (by omega),tb _ (0x80+r / 64%64) (by omega),tb _ (0x80+r%64) (by omega)]
def fO (r:Nat):Bool:=decide (r=9)||decide (r=10)||(decide (32≤r)&&decide (r<127))||decide (159<r)
def kL (r:Int):Int:=if r<32∧r≠9∧r≠10∨127≤r∧r≤159 then -1 else r
def cT (l:List UInt8):List UInt8:=((fJ l).filter fO).flatMap cK
theorem aH5 (r:Nat)(h:fO r=true):kL (r:Int)=(r:Int):=by
 unfold fO at h;simp only[Bool.or_eq_true,Bool.and_eq_true,decide_eq_true_eq]at h;unfold kL;rw[if_neg (by omega)]
theorem aH4 (r:Nat)(h:fO r=false):kL (r:Int)=-1:=by
 unfold fO at h;simp only[Bool.or_eq_false_iff,Bool.and_eq_false_iff,decide_eq_false_iff_not]at h;unfold kL;rw[if_pos (by omega)]
theorem aF8 (x:Nat)(h:x≤1114111):-2147483648≤kL x∧kL x≤2147483647:=by
 unfold kL;split<;>omega
theorem aPv (r:Nat)(t:List UInt8):cK r++t≠[]:=by
 have:=(aCh r).1;intro h;rw[List.append_eq_nil_iff]at h
 rw[h.1]at this
 simp at this
theorem aNY (rs:List Nat)(hv:∀r∈rs,Val r):Lib.mapD kL (rs.flatMap cK)=(rs.filter fO).flatMap cK:=by
 induction rs with
 | nil=>rfl
 | cons r rs ih =>
  have hr:=hv r (List.mem_cons_self ..);rw[List.flatMap_cons,Lib.mapD_step _ _ (aPv r _),aHe r hr];simp only[List.drop_left];rw[ih fun x hx=>hv x (List.mem_cons_of_mem _ hx)];cases hk:fO r with
  | true=>rw[aH5 r hk,if_pos (by omega),List.filter_cons_of_pos hk,List.flatMap_cons,aCi r hr]
  | false=>rw[aH4 r hk,if_neg (by omega),List.filter_cons_of_neg (by simp[hk])];rfl
theorem aNX (l:List UInt8):Lib.mapD kL (lV l)=cT l:=aNY _ (yD l.length l vL)
theorem aCd:∀(n:Nat) (l:List UInt8),l.length≤n→(lV l).length≤3*l.length:=by
 intro n;induction n with
 | zero =>
  intro l hl;have:l=[]:=List.eq_nil_of_length_eq_zero (by omega);subst this;simp[aCe]
 | succ n ih =>
  intro l hl;by_cases hne:l=[]
  ·subst hne;simp[aCe]
  ·have hpos:0<l.length:=List.length_pos_iff.2 hne;rw[aD4 l hne,List.length_append];have:=ih (l.drop (max (lookU (aO l)).1 1)) (by rw[List.length_drop];omega);rw[List.length_drop]at this
   split
   ·rename_i hw;obtain⟨_,h1,h2⟩:=tN l hne hw;rw[List.length_take];omega
   ·simp only[List.length_cons,List.length_nil];by_cases hm:max (lookU (aO l)).1 1≤l.length
    ·omega
    ·omega
theorem aMz (l:List UInt8):(cT l).length≤(lV l).length:=by
 unfold cT lV;generalize fJ l=rs;induction rs with
 | nil=>simp
 | cons r rs ih =>
  rw[List.flatMap_cons,List.length_append];cases hk:fO r with
  | true=>rw[List.filter_cons_of_pos hk,List.flatMap_cons,List.length_append];omega
  | false=>rw[List.filter_cons_of_neg (by simp[hk])];omega
theorem vI (b:UInt8)(l:List UInt8)(c:UInt8):Lib.index (b :: l) [c]=if b=c then 0 else if Lib.index l [c]=-1 then -1 else Lib.index l [c]+1:=by
 have e:Lib.index (b :: l) [c]=if [c].isPrefixOf (b :: l)then 0 else if Lib.index l [c]==-1 then -1 else Lib.index l [c]+1:=rfl
 rw[e];by_cases h:b=c
 ·subst h;simp
 ·have h':¬c=b:=fun x=>h x.symm
  simp[h,h']
theorem aEn (l:List UInt8)(c:UInt8)(h:c∉l):Lib.index l [c]=-1:=by
 induction l with
 | nil=>rfl
 | cons b l ih =>
  have hb:¬b=c:=fun e=>h (e▸List.mem_cons_self ..)
  rw[vI,if_neg hb,if_pos (ih fun x=>h (List.mem_cons_of_mem _ x))]
theorem aEm (p q:List UInt8)(c:UInt8)(h:c∉p):Lib.index (p++c :: q) [c]=p.length:=by
 induction p with
 | nil=>rw[List.nil_append,vI,if_pos rfl];rfl
 | cons b p ih =>
  have hb:¬b=c:=fun e=>h (e▸List.mem_cons_self ..)
  have:=ih fun x=>h (List.mem_cons_of_mem _ x)
  rw[List.cons_append,vI,if_neg hb,this,if_neg (by omega)];simp
theorem aAO {l:List UInt8}{c:UInt8}(h:c∈l):∃p q,l=p++c :: q∧c∉p:=by
 induction l with
 | nil=>cases h
 | cons b l ih =>
  by_cases hb:b=c
  ·subst hb;exact⟨[],l,rfl,by simp⟩
  ·obtain⟨p,q,e,hp⟩:=ih ((List.mem_cons.1 h).resolve_left fun x=>hb x.symm);refine⟨b :: p,q,by rw[e];rfl,?_⟩;intro hx;rcases List.mem_cons.1 hx with rfl|hx
   ·exact hb rfl
   ·exact hp hx
theorem aCb (p q:List UInt8)(c:UInt8)(h:c∉p):Lib.cut (p++c :: q) [c]=(p,q,true):=by
 unfold Lib.cut;rw[aEm p q c h,if_pos (by omega)];simp
theorem aD3 (l:List UInt8)(c:UInt8)(h:c∉l):Lib.cut l [c]=(l,[],false):=by
 unfold Lib.cut;rw[aEn l c h,if_neg (by omega)]
theorem zW (l:List UInt8)(c:UInt8)(h:c∉l):l.filter (fun b=>b !=c)=l:=by
 rw[List.filter_eq_self];intro b hb;simp only[bne_iff_ne,ne_eq];intro e;exact h (e▸hb)
theorem aE0 (c:UInt8):∀(n:Nat) (l:List UInt8) (f:Nat),l.length≤n→l.length<f→Lib.replaceK [c] [] (Lib.countFrom [c] f l) l=l.filter (fun b=>b !=c):=by
 intro n;induction n with
 | zero =>
  intro l f hl hf;have:l=[]:=List.eq_nil_of_length_eq_zero (by omega);subst this;obtain⟨g,rfl⟩:∃g,f=g+1:=⟨f-1,by omega⟩
  rfl
 | succ n ih =>
  intro l f hl hf;obtain⟨g,rfl⟩:∃g,f=g+1:=⟨f-1,by omega⟩
  by_cases hc:c∈l
  ·obtain⟨p,q,rfl,hp⟩:=aAO hc;have hi:=aEm p q c hp;have hlen:(p++c :: q).length=p.length+q.length+1:=by simp;omega
   have hd:(p++c :: q).drop (p.length+1)=q:=by
    rw[←List.drop_drop,List.drop_left];rfl
   have hcount:Lib.countFrom [c] (g+1) (p++c :: q)=Lib.countFrom [c] g q+1:=by
    have e:Lib.countFrom [c] (g+1) (p++c :: q)=if Lib.index (p++c :: q) [c]==-1 then 0 else 1+Lib.countFrom [c] g ((p++c :: q).drop ((Lib.index (p++c :: q) [c]).toNat+1)):=rfl
    rw[e,hi];have hm:¬(((p.length:Nat):Int)==-1)=true:=fun x=>by have:=beq_iff_eq.1 x;omega
    rw[if_neg hm,Int.toNat_natCast,hd];omega
   rw[hcount,Lib.replaceK_hit [c] [] _ _ p.length hi];have hk:(p++c :: q).drop (p.length+[c].length)=q:=hd;rw[hk,ih q g (by omega) (by omega),List.take_left,List.append_nil,List.filter_append,zW p c hp,List.filter_cons_of_neg (by simp)]
  ·have hcount:Lib.countFrom [c] (g+1) l=0:=by
    have e:Lib.countFrom [c] (g+1) l=if Lib.index l [c]==-1 then 0 else 1+Lib.countFrom [c] g (l.drop ((Lib.index l [c]).toNat+1)):=rfl
    rw[e,aEn l c hc];rfl
   rw[hcount,zW l c hc];rfl
theorem uM (c:UInt8)(l:List UInt8):Lib.replaceAll l [c] []=l.filter (fun b=>b !=c):=by
 unfold Lib.replaceAll Lib.replace;rw[if_neg (by simp)];have:Lib.replaceNum l [c] (-1)=Lib.countFrom [c] (l.length+1) l:=by
  unfold Lib.replaceNum;rw[if_pos (Or.inl (by omega))];rfl
 rw[this,aE0 c l.length l _ vL (by omega)]
def fD (l:List UInt8):List UInt8:=((cT l).filter (fun b=>b !=9)).filter (fun b=>b !=10)
def cM (l:List UInt8):List UInt8:=Lib.trimB (fD l) 32
theorem zU (l:List UInt8):fD l=(cT l).filter (fun b=>b !=9&&b !=10):=by
 unfold fD;rw[List.filter_filter];congr 1;funext b;cases (b !=9)<;>cases (b !=10)<;>rfl
theorem aNv (r:Nat)(hk:fO r=true)(hv:Val r):∀b∈cK r,b.toNat≤32→b.toNat=9∨b.toNat=10∨b.toNat=32:=by
 intro b hb h32;obtain⟨h1,h2⟩:=hv;unfold fO at hk;simp only[Bool.or_eq_true,Bool.and_eq_true,decide_eq_true_eq]at hk;unfold cK encN at hb;split at hb
 ·simp only[List.map_cons,List.map_nil,List.mem_cons,List.mem_nil_iff,or_false]at hb;subst hb;rw[ofN r (by omega)]at h32 ⊢
  omega
 ·exfalso;split at hb
  ·simp only[List.map_cons,List.map_nil,List.mem_cons,List.mem_nil_iff,or_false]at hb;rcases hb with rfl|rfl
   ·rw[ofN _ (by omega)]at h32;omega
   ·rw[ofN _ (by omega)]at h32;omega
  ·split at hb
   ·simp only[List.map_cons,List.map_nil,List.mem_cons,List.mem_nil_iff,or_false]at hb;rcases hb with rfl|rfl|rfl
    ·rw[ofN _ (by omega)]at h32;omega
    ·rw[ofN _ (by omega)]at h32;omega
    ·rw[ofN _ (by omega)]at h32;omega
   ·simp only[List.map_cons,List.map_nil,List.mem_cons,List.mem_nil_iff,or_false]at hb;rcases hb with rfl|rfl|rfl|rfl
    ·rw[ofN _ (by omega)]at h32;omega
    ·rw[ofN _ (by omega)]at h32;omega
    ·rw[ofN _ (by omega)]at h32;omega
    ·rw[ofN _ (by omega)]at h32;omega
theorem aMA (l:List UInt8):∀b∈cT l,b.toNat≤32→b.toNat=9∨b.toNat=10∨b.toNat=32:=by
 intro b hb;unfold cT at hb;obtain⟨r,hr,hb⟩:=List.mem_flatMap.1 hb;obtain⟨hr,hk⟩:=List.mem_filter.1 hr;exact aNv r hk (yD l.length l vL r hr) b hb
theorem aK1 (l:List UInt8):∀b∈fD l,b.toNat≤32→b=32:=by
 intro b hb h;rw[zU]at hb
 obtain⟨hb,hn⟩:=List.mem_filter.1 hb;simp only[Bool.and_eq_true,bne_iff_ne,ne_eq]at hn;rcases aMA l b hb h with e|e|e
 ·exact absurd (UInt8.toNat_inj.1 (e.trans (by rfl:(9:Nat)=(9:UInt8).toNat))) hn.1
 ·exact absurd (UInt8.toNat_inj.1 (e.trans (by rfl:(10:Nat)=(10:UInt8).toNat))) hn.2
 ·exact UInt8.toNat_inj.1 (e.trans (by rfl:(32:Nat)=(32:UInt8).toNat))
theorem aH6 (o:List UInt8)(i k:Nat)(hlow:∀b∈o,b.toNat≤32→b=32)(hik:i≤k)(hk:k≤o.length)
  (h1:∀j b,j<i→o[j]?=some b→b.toNat≤32) (h2:i<k→∃b,o[i]?=some b∧32<b.toNat)
  (h3:∀j b,k≤j→o[j]?=some b→b.toNat≤32) (h4:i<k→∃b,o[k-1]?=some b∧32<b.toNat) (h5:i=k→k=o.length):Lib.trimB o 32=(o.take k).drop i:=by
 have ne32:∀b:UInt8,32<b.toNat→b≠32:=fun b h e=>by subst e;exact absurd h (by decide)
 rcases Nat.lt_or_ge i k with hlt|hge
 ·unfold Lib.trimB;rw[Lib.trimRightB_take o 32 k hk (fun j b hj hb=>hlow b (List.mem_of_getElem? hb) (h3 j b hj hb)) (fun b _ hb=>by
   obtain⟨b',hb',hgt⟩:=h4 hlt;rw[hb]at hb'
   cases hb';exact ne32 b hgt)]
  rw[Lib.trimLeftB_drop (o.take k) 32 i (by rw[List.length_take];omega) (fun j b hj hb=>by
   rw[List.getElem?_take,if_pos (by omega)]at hb
   exact hlow b (List.mem_of_getElem? hb) (h1 j b hj hb)) (fun b hb=>by
   rw[List.getElem?_take,if_pos hlt]at hb
   obtain⟨b',hb',hgt⟩:=h2 hlt;rw[hb]at hb'
   cases hb';exact ne32 b hgt)]
 ·obtain rfl:i=k:=by omega
  have hl:=h5 rfl;subst hl;unfold Lib.trimB;rw[Lib.trimRightB_take o 32 0 (by omega) (fun j b _ hb=>by
   have hj:j<o.length:=(List.getElem?_eq_some_iff.1 hb).1;exact hlow b (List.mem_of_getElem? hb) (h1 j b hj hb)) (fun b h0=>absurd h0 (by omega))]
  simp[Lib.trimLeftB]
def bB (c:UInt8):UInt8:=if 65≤c.toNat∧c.toNat≤90 then UInt8.ofNat (c.toNat+32)else c
theorem qS (c:UInt8):(bB c).toNat=if 65≤c.toNat∧c.toNat≤90 then c.toNat+32 else c.toNat:=by
 unfold bB;split
 ·rw[ofN _ (by omega)]
 ·rfl
def bK (l:List UInt8):List UInt8:=l.map bB
def aI (c:UInt8)(i:Nat):Bool :=
 (decide (97≤c.toNat)&&decide (c.toNat≤122))||(decide (0<i)&&((decide (48≤c.toNat)&&decide (c.toNat≤57))||decide (c.toNat=43)||decide (c.toNat=45)||decide (c.toNat=46)))
def gH:Nat→List UInt8→Bool
 | _,[]=>true
 | i,c :: l=>aI (bB c) i&&gH (i+1) l
theorem mQ (l:List UInt8):∀i,gH i l=true↔∀j c,l[j]?=some c→aI (bB c) (i+j)=true:=by
 induction l with
 | nil=>intro i;simp[gH]
 | cons c l ih =>
  intro i;rw[gH,Bool.and_eq_true,ih];constructor
  ·rintro⟨h1,h2⟩ j d hd;cases j with
   | zero=>simp at hd;subst hd;exact h1
   | succ j=>simp at hd;have:=h2 j d hd;rwa[show i+(j+1)=i+1+j by omega]
  ·intro h;refine⟨h 0 c rfl,fun j d hd=>?_⟩;have:=h (j+1) d (by simpa using hd);rwa[show i+(j+1)=i+1+j by omega]at this
def fP (l:List UInt8):Option (List UInt8) :=
 if (Lib.cut l [58]).2.2=true∧(Lib.cut l [58]).1≠[]∧gH 0 (Lib.cut l [58]).1=true then some (bK (Lib.cut l [58]).1)else none
theorem mH (p q:List UInt8)(h:(58:UInt8)∉p):fP (p++58 :: q)=if p≠[]∧gH 0 p=true then some (bK p)else none:=by
 unfold fP;rw[aCb p q 58 h];simp
theorem rU (l:List UInt8)(h:(58:UInt8)∉l):fP l=none:=by
 unfold fP;rw[aD3 l 58 h];simp
theorem wG (i:Nat):aI (bB 58) i=false:=by
 have:bB 58=58:=by decide
 rw[this];unfold aI;simp
theorem rV (l:List UInt8)(i:Nat)(h:∀j c,j<i→l[j]?=some c→aI (bB c) j=true):(58:UInt8)∉l.take i:=by
 intro hm;obtain⟨j,hj⟩:=List.getElem?_of_mem hm;rw[List.getElem?_take]at hj
 split at hj
 ·rename_i hlt;have:=h j 58 hlt hj;rw[wG]at this
  cases this
 ·cases hj
theorem aE4 (l:List UInt8)(i:Nat)(hi:0<i)(hc:l[i]?=some 58)(h:∀j c,j<i→l[j]?=some c→aI (bB c) j=true):fP l=some (bK (l.take i)):=by
 have hn:=rV l i h;have hlt:i<l.length:=(List.getElem?_eq_some_iff.1 hc).1;have hsp:l=l.take i++58 :: l.drop (i+1):=by
  conv=>lhs;rw[←List.take_append_drop i l]
  rw[List.drop_eq_getElem_cons hlt];have:l[i]=58:=by rw[List.getElem?_eq_getElem hlt]at hc;exact Option.some.inj hc
  rw[this]
 rw[hsp,mH _ _ hn,←hsp,if_pos];refine⟨?_,?_⟩
 ·intro e;have:=congrArg List.length e;rw[List.length_take]at this
  simp only[List.length_nil]at this;omega
 ·rw[mQ];intro j c hj;rw[List.getElem?_take]at hj
  split at hj
  ·rw[Nat.zero_add];exact h j c (by assumption) hj
  ·cases hj
theorem aHU (l:List UInt8)(i:Nat)(c:UInt8)(hc:l[i]?=some c)(hb:aI (bB c) i=false)(h58:c=58→i=0)(h:∀j c,j<i→l[j]?=some c→aI (bB c) j=true):fP l=none:=by
 have hn:=rV l i h;have hlt:i<l.length:=(List.getElem?_eq_some_iff.1 hc).1;by_cases hm:(58:UInt8)∈l
 ·obtain⟨p,q,e,hp⟩:=aAO hm;subst e;rw[mH p q hp,if_neg];rintro⟨hne,hall⟩;rw[mQ]at hall
  by_cases hip:i<p.length
  ·have hpc:p[i]?=some c:=by rw[List.getElem?_append_left hip]at hc;exact hc
   have:=hall i c hpc;rw[Nat.zero_add,hb]at this
   cases this
  ·by_cases hie:i=p.length
   ·subst hie;rw[List.getElem?_append_right vL]at hc
    simp at hc;have:=h58 hc.symm;exact hne (List.eq_nil_of_length_eq_zero this)
   ·have:=h p.length 58 (by omega) (by rw[List.getElem?_append_right vL];simp);rw[wG]at this
    cases this
 ·exact rU l hm
theorem aHV (l:List UInt8)(h:∀j c,j<l.length→l[j]?=some c→aI (bB c) j=true):fP l=none:=by
 have hn:=rV l l.length h;rw[List.take_length]at hn
 exact rU l hn
end Go.Proofs.YtcfgbdhpcboikaaGreatDoor
