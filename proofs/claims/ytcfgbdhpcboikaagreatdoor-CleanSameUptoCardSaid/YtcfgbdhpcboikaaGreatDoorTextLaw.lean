/-
policy.Text and Link as functions of bytes: the characters of a text, some left out. No program in sight.
-/
import Derived.Test.YtcfgbdhpcboikaaGreatDoorUtf8Law
import Derived.Test.YtcfgbdhpcboikaaGreatDoorKinds
import Derived.Test.YtcfgbdhpcboikaaGreatDoorShelfB
import Derived.Test.YtcfgbdhpcboikaaGreatDoorBase
import Derived.Test.YtcfgbdhpcboikaaGreatDoorShelf
namespace Go.Proofs.YtcfgbdhpcboikaaGreatDoor
open Go.Lib (hid)
set_option maxHeartbeats 8000000
set_option maxRecDepth 100000
open PU8
theorem xD {n:Nat}:n≤n:=Nat.le_refl n
def bE (l:List UInt8):List Nat:=l.map UInt8.toNat
def bK (v:Nat):List UInt8:=(encN v).map UInt8.ofNat
def Val (v:Nat):Prop:=(v<0xd800∨0xdfff<v)∧v≤0x10ffff
theorem mD {l:List UInt8}(h:l≠[]):bE l≠[]:=by
 unfold bE;simpa using h
theorem vV (l:List UInt8)(h:l≠[]):1≤(pieceU (bE l)).1:=by
 have:=(sameU (bE l) (mD h)).num;omega
theorem aGO:bK 0xfffd=[239,191,189]:=by decide
theorem aHA (l:List UInt8)(h:l≠[]):Val (pieceU (bE l)).2.1:=by
 have s:=sameU (bE l) (mD h);cases hw:(lookU (bE l)).2 with
 | true=>exact(s.val hw).2
 | false=>rw[s.bad hw];exact⟨by decide,by decide⟩
theorem rS (l:List UInt8)(h:l≠[])(hw:(lookU (bE l)).2=true):bK (pieceU (bE l)).2.1=l.take (lookU (bE l)).1∧1≤(lookU (bE l)).1∧(lookU (bE l)).1≤l.length:=by
 have s:=sameU (bE l) (mD h);obtain⟨h1,h2⟩:=s.val hw;have hn:∀b:List Nat,(lookU b).2=true→1≤(lookU b).1:=by
  intro b;have hc:∀need lo hi n r,1≤n→1≤(contU need lo hi n r).1:=by
   intro need;induction need with
   | zero=>intro lo hi n r hn;simpa [contU]using hn
   | succ k ih =>
    intro lo hi n r hn;cases r with
    | nil=>simpa [contU]using hn
    | cons c r =>
     unfold contU;split
     ·exact hn
     ·exact ih _ _ _ _ (by omega)
  cases b with
  | nil=>simp[lookU]
  | cons c r =>
   rw[look_cons];intro hh;repeat' split
   all_goals first
    | (exact hc _ _ _ _ _ xD)
    | (simp_all;done)
    | decide
 have hl:=hn _ hw;have hnum:(pieceU (bE l)).1=(lookU (bE l)).1:=by
  have:=s.num;omega
 rw[hnum]at h1
 have hlen:(lookU (bE l)).1≤l.length:=by
  have he:=congrArg List.length h1;rw[List.length_take]at he
  have h4:1≤(encN (pieceU (bE l)).2.1).length:=by
   unfold encN;repeat' split
   all_goals simp
  have hle:∀b:List Nat,b≠[]→(lookU b).1≤b.length:=by
   have hc:∀need lo hi n (r:List Nat),(contU need lo hi n r).1≤n+r.length:=by
    intro need;induction need with
    | zero=>intro lo hi n r;simp[contU]
    | succ k ih =>
     intro lo hi n r;cases r with
     | nil=>simp[contU]
     | cons c r =>
      unfold contU;split
      ·simp
      ·have:=ih 0x80 0xbf (n+1) r;simp only[List.length_cons];omega
   intro b hb;cases b with
   | nil=>exact absurd rfl hb
   | cons c r =>
    rw[look_cons];simp only[List.length_cons];repeat' split
    all_goals first
     | (have:=hc 1 0x80 0xbf 1 r;omega)
     | (have:=hc 2 0xa0 0xbf 1 r;omega)
     | (have:=hc 2 0x80 0x9f 1 r;omega)
     | (have:=hc 2 0x80 0xbf 1 r;omega)
     | (have:=hc 3 0x90 0xbf 1 r;omega)
     | (have:=hc 3 0x80 0xbf 1 r;omega)
     | (have:=hc 3 0x80 0x8f 1 r;omega)
     | (simp only;omega)
  have:=hle _ (mD h);simpa [bE]using this
 refine⟨?_,hl,hlen⟩;unfold bK;rw[h1];unfold bE;rw[←List.map_take,List.map_map];conv=>rhs;rw[←List.map_id (List.take (lookU (List.map UInt8.toNat l)).1 l)]
 apply List.map_congr_left;intro c _;simp
theorem aHz (l:List UInt8)(h:l≠[])(hw:(lookU (bE l)).2=false):(pieceU (bE l)).2.1=0xfffd :=
 (sameU (bE l) (mD h)).bad hw
theorem aHy (l:List UInt8)(h:l≠[]):(pieceU (bE l)).1=max (lookU (bE l)).1 1:=(sameU (bE l) (mD h)).num
def mH:Nat→List UInt8→List Nat
 | 0,_=>[]
 | n+1,l=>if l=[]then []else (pieceU (bE l)).2.1 :: mH n (l.drop (pieceU (bE l)).1)
def mZ (l:List UInt8):List Nat:=mH l.length l
theorem oC (n:Nat):mH n []=[]:=by cases n<;>simp[mH]
theorem aDT:∀(n m:Nat) (l:List UInt8),l.length≤n→l.length≤m→mH n l=mH m l:=by
 intro n;induction n with
 | zero =>
  intro m l hn _;have:l=[]:=List.eq_nil_of_length_eq_zero (by omega);subst this;rw[oC,oC]
 | succ n ih =>
  intro m l hn hm;by_cases hne:l=[]
  ·subst hne;rw[oC,oC]
  ·have hp:=vV l hne;have hl:0<l.length:=List.length_pos_iff.2 hne;cases m with
   | zero=>omega
   | succ m =>
    unfold mH;rw[if_neg hne,if_neg hne,ih m _ (by rw[List.length_drop];omega) (by rw[List.length_drop];omega)]
theorem aB4:mZ []=[]:=rfl
theorem uF (l:List UInt8)(h:l≠[]):mZ l=(pieceU (bE l)).2.1 :: mZ (l.drop (pieceU (bE l)).1):=by
 have hl:0<l.length:=List.length_pos_iff.2 h;have hp:=vV l h;unfold mZ;obtain⟨n,hn⟩:∃n,l.length=n+1:=⟨l.length-1,by omega⟩
 rw[hn];conv=>lhs;unfold mH
 rw[if_neg h,aDT n _ _ (by rw[List.length_drop];omega) xD]
theorem aB5:∀(n:Nat) (l:List UInt8),l.length≤n→∀r∈mZ l,Val r:=by
 intro n;induction n with
 | zero =>
  intro l hl r hr;have:l=[]:=List.eq_nil_of_length_eq_zero (by omega);subst this;rw[aB4]at hr;cases hr
 | succ n ih =>
  intro l hl r hr;by_cases hne:l=[]
  ·subst hne;rw[aB4]at hr;cases hr
  ·rw[uF l hne]at hr
   have hp:=vV l hne;have hpos:0<l.length:=List.length_pos_iff.2 hne;rcases List.mem_cons.1 hr with rfl|hr
   ·exact aHA l hne
   ·exact ih _ (by rw[List.length_drop];omega) r hr
def lF (l:List UInt8):List UInt8:=(mZ l).flatMap bK
theorem aA8:lF []=[]:=rfl
theorem aDf (l:List UInt8)(h:l≠[]):lF l=(if (lookU (bE l)).2=true then l.take (lookU (bE l)).1 else [239,191,189])++lF (l.drop (max (lookU (bE l)).1 1)):=by
 unfold lF;rw[uF l h,List.flatMap_cons,aHy l h];congr 1;cases hw:(lookU (bE l)).2 with
 | true=>rw[(rS l h hw).1];rfl
 | false=>rw[aHz l h hw,aGO];rfl
theorem ofN (n:Nat)(h:n<256):(UInt8.ofNat n).toNat=n:=by
 rw[UInt8.toNat_ofNat'];omega
theorem wW (v:Nat):1≤(bK v).length∧(bK v).length≤4:=by
 unfold bK;rw[List.length_map];unfold encN;repeat' split
 all_goals simp
theorem aFs (r:Nat)(h:Val r)(t:List UInt8):Lib.decodeL (bK r++t)=(r,(bK r).length):=by
 obtain⟨h1,h2⟩:=h;rw[Lib.decodeL_N];by_cases a:r<0x80
 ·have e:bK r=[UInt8.ofNat r]:=by unfold bK encN;rw[if_pos a];rfl
  rw[e];simp only[List.cons_append,List.nil_append,List.length_cons,List.length_nil,List.getD_cons_zero];rw[ofN r (by omega)];unfold Lib.decodeN;rw[if_pos (by omega)]
 ·by_cases b:r<0x800
  ·have e:bK r=[UInt8.ofNat (0xc0+r / 64),UInt8.ofNat (0x80+r%64)]:=by unfold bK;rw[enc_two r (by omega) b];rfl
   rw[e];simp only[List.cons_append,List.nil_append,List.length_cons,List.length_nil,List.getD_cons_zero,List.getD_cons_succ];rw[ofN _ (by omega),ofN _ (by omega)];unfold Lib.decodeN;rw[if_neg (by omega),if_pos (by omega),if_pos (by omega)];apply Prod.ext
   ·simp only;omega
   ·rfl
  ·by_cases c:r<0x10000
   ·have e:bK r=[UInt8.ofNat (0xe0+r / 4096),UInt8.ofNat (0x80+r / 64%64),UInt8.ofNat (0x80+r%64)]:=by unfold bK;rw[enc_three r (by omega) c];rfl
    rw[e];simp only[List.cons_append,List.nil_append,List.length_cons,List.length_nil,List.getD_cons_zero,List.getD_cons_succ];rw[ofN _ (by omega),ofN _ (by omega),ofN _ (by omega)];unfold Lib.decodeN;rw[if_neg (by omega),if_neg (by omega),if_pos (by omega),if_pos (by omega)];apply Prod.ext
    ·simp only;omega
    ·rfl
   ·have e:bK r=[UInt8.ofNat (0xf0+r / 262144),UInt8.ofNat (0x80+r / 4096%64),UInt8.ofNat (0x80+r / 64%64),UInt8.ofNat (0x80+r%64)]:=by unfold bK;rw[enc_four r (by omega)];rfl
    rw[e];simp only[List.cons_append,List.nil_append,List.length_cons,List.length_nil,List.getD_cons_zero,List.getD_cons_succ];rw[ofN _ (by omega),ofN _ (by omega),ofN _ (by omega),ofN _ (by omega)];unfold Lib.decodeN;rw[if_neg (by omega),if_neg (by omega),if_neg (by omega),if_pos (by omega),if_pos (by omega)];apply Prod.ext
    ·simp only;omega
    ·rfl
theorem aBa (r:Nat)(h:Val r):Lib.encodeRune (r:Int)=bK r:=by
 obtain⟨h1,h2⟩:=h;have tb:∀(z:Int) (n:Nat),z=(n:Int)→z.toNat.toUInt8=UInt8.ofNat n:=by
  intro z n hz;subst hz;rfl
 unfold Lib.encodeRune;by_cases a:r<0x80
 ·rw[Lib.encodeRuneZ_one (by omega) (by omega)];have e:bK r=[UInt8.ofNat r]:=by unfold bK encN;rw[if_pos a];rfl
  rw[e];simp only[List.map_cons,List.map_nil];rw[tb _ r rfl]
 ·by_cases b:r<0x800
  ·rw[Lib.encodeRuneZ_two (by omega) (by omega)];have e:bK r=[UInt8.ofNat (0xc0+r / 64),UInt8.ofNat (0x80+r%64)]:=by unfold bK;rw[enc_two r (by omega) b];rfl
   rw[e];simp only[List.map_cons,List.map_nil];rw[tb _ (0xc0+r / 64) (by omega),tb _ (0x80+r%64) (by omega)]
  ·by_cases c:r<0x10000
   ·rw[Lib.encodeRuneZ_three (by omega)];have e:bK r=[UInt8.ofNat (0xe0+r / 4096),UInt8.ofNat (0x80+r / 64%64),UInt8.ofNat (0x80+r%64)]:=by unfold bK;rw[enc_three r (by omega) c];rfl
    rw[e];simp only[List.map_cons,List.map_nil];rw[tb _ (0xe0+r / 4096) (by omega),tb _ (0x80+r / 64%64) (by omega),tb _ (0x80+r%64) (by omega)]
   ·rw[Lib.encodeRuneZ_four (by omega) (by omega)];have e:bK r=[UInt8.ofNat (0xf0+r / 262144),UInt8.ofNat (0x80+r / 4096%64),UInt8.ofNat (0x80+r / 64%64),UInt8.ofNat (0x80+r%64)]:=by unfold bK;rw[enc_four r (by omega)];rfl
    rw[e];simp only[List.map_cons,List.map_nil];rw[tb _ (0xf0+r / 262144) (by omega),tb _ (0x80+r / 4096%64) (by omega),tb _ (0x80+r / 64%64) (by omega),tb _ (0x80+r%64) (by omega)]
def mW (r:Nat):Bool:=decide (r=9)||decide (r=10)||(decide (32≤r)&&decide (r<127))||decide (159<r)
def jV (r:Int):Int:=if r<32∧r≠9∧r≠10∨127≤r∧r≤159 then -1 else r
def cT (l:List UInt8):List UInt8:=((mZ l).filter mW).flatMap bK
theorem aF4 (r:Nat)(h:mW r=true):jV (r:Int)=(r:Int):=by
 unfold mW at h;simp only[Bool.or_eq_true,Bool.and_eq_true,decide_eq_true_eq]at h;unfold jV;rw[if_neg (by omega)]
theorem aF3 (r:Nat)(h:mW r=false):jV (r:Int)=-1:=by
 unfold mW at h;simp only[Bool.or_eq_false_iff,Bool.and_eq_false_iff,decide_eq_false_iff_not]at h;unfold jV;rw[if_pos (by omega)]
theorem aEK (x:Nat)(h:x≤1114111):-2147483648≤jV x∧jV x≤2147483647:=by
 unfold jV;split<;>omega
theorem aAc (r:Nat)(t:List UInt8):bK r++t≠[]:=by
 have:=(wW r).1;intro h;rw[List.append_eq_nil_iff]at h
 rw[h.1]at this
 simp at this
theorem aK2 (rs:List Nat)(hv:∀r∈rs,Val r):Lib.mapD jV (rs.flatMap bK)=(rs.filter mW).flatMap bK:=by
 induction rs with
 | nil=>rfl
 | cons r rs ih =>
  have hr:=hv r (List.mem_cons_self ..);rw[List.flatMap_cons,Lib.mapD_step _ _ (aAc r _),aFs r hr];simp only[List.drop_left];rw[ih fun x hx=>hv x (List.mem_cons_of_mem _ hx)];cases hk:mW r with
  | true=>rw[aF4 r hk,if_pos (by omega),List.filter_cons_of_pos hk,List.flatMap_cons,aBa r hr]
  | false=>rw[aF3 r hk,if_neg (by omega),List.filter_cons_of_neg (by simp[hk])];rfl
theorem aK1 (l:List UInt8):Lib.mapD jV (lF l)=cT l:=aK2 _ (aB5 l.length l xD)
theorem aA7:∀(n:Nat) (l:List UInt8),l.length≤n→(lF l).length≤3*l.length:=by
 intro n;induction n with
 | zero =>
  intro l hl;have:l=[]:=List.eq_nil_of_length_eq_zero (by omega);subst this;simp[aA8]
 | succ n ih =>
  intro l hl;by_cases hne:l=[]
  ·subst hne;simp[aA8]
  ·have hpos:0<l.length:=List.length_pos_iff.2 hne;rw[aDf l hne,List.length_append];have:=ih (l.drop (max (lookU (bE l)).1 1)) (by rw[List.length_drop];omega);rw[List.length_drop]at this
   split
   ·rename_i hw;obtain⟨_,h1,h2⟩:=rS l hne hw;rw[List.length_take];omega
   ·simp only[List.length_cons,List.length_nil];by_cases hm:max (lookU (bE l)).1 1≤l.length
    ·omega
    ·omega
theorem aJV (l:List UInt8):(cT l).length≤(lF l).length:=by
 unfold cT lF;generalize mZ l=rs;induction rs with
 | nil=>simp
 | cons r rs ih =>
  rw[List.flatMap_cons,List.length_append];cases hk:mW r with
  | true=>rw[List.filter_cons_of_pos hk,List.flatMap_cons,List.length_append];omega
  | false=>rw[List.filter_cons_of_neg (by simp[hk])];omega
theorem tQ (b:UInt8)(l:List UInt8)(c:UInt8):Lib.index (b :: l) [c]=if b=c then 0 else if Lib.index l [c]=-1 then -1 else Lib.index l [c]+1:=by
 have e:Lib.index (b :: l) [c]=if [c].isPrefixOf (b :: l)then 0 else if Lib.index l [c]==-1 then -1 else Lib.index l [c]+1:=rfl
 rw[e];by_cases h:b=c
 ·subst h;simp
 ·have h':¬c=b:=fun x=>h x.symm
  simp[h,h']
theorem aDr (l:List UInt8)(c:UInt8)(h:c∉l):Lib.index l [c]=-1:=by
 induction l with
 | nil=>rfl
 | cons b l ih =>
  have hb:¬b=c:=fun e=>h (e▸List.mem_cons_self ..)
  rw[tQ,if_neg hb,if_pos (ih fun x=>h (List.mem_cons_of_mem _ x))]
theorem aDq (p q:List UInt8)(c:UInt8)(h:c∉p):Lib.index (p++c :: q) [c]=p.length:=by
 induction p with
 | nil=>rw[List.nil_append,tQ,if_pos rfl];rfl
 | cons b p ih =>
  have hb:¬b=c:=fun e=>h (e▸List.mem_cons_self ..)
  have:=ih fun x=>h (List.mem_cons_of_mem _ x)
  rw[List.cons_append,tQ,if_neg hb,this,if_neg (by omega)];simp
theorem aD6 {l:List UInt8}{c:UInt8}(h:c∈l):∃p q,l=p++c :: q∧c∉p:=by
 induction l with
 | nil=>cases h
 | cons b l ih =>
  by_cases hb:b=c
  ·subst hb;exact⟨[],l,rfl,by simp⟩
  ·obtain⟨p,q,e,hp⟩:=ih ((List.mem_cons.1 h).resolve_left fun x=>hb x.symm);refine⟨b :: p,q,by rw[e];rfl,?_⟩;intro hx;rcases List.mem_cons.1 hx with rfl|hx
   ·exact hb rfl
   ·exact hp hx
theorem aA4 (p q:List UInt8)(c:UInt8)(h:c∉p):Lib.cut (p++c :: q) [c]=(p,q,true):=by
 unfold Lib.cut;rw[aDq p q c h,if_pos (by omega)];simp
theorem aDe (l:List UInt8)(c:UInt8)(h:c∉l):Lib.cut l [c]=(l,[],false):=by
 unfold Lib.cut;rw[aDr l c h,if_neg (by omega)]
theorem xU (l:List UInt8)(c:UInt8)(h:c∉l):l.filter (fun b=>b !=c)=l:=by
 rw[List.filter_eq_self];intro b hb;simp only[bne_iff_ne,ne_eq];intro e;exact h (e▸hb)
theorem aDR (c:UInt8):∀(n:Nat) (l:List UInt8) (f:Nat),l.length≤n→l.length<f→Lib.replaceK [c] [] (Lib.countFrom [c] f l) l=l.filter (fun b=>b !=c):=by
 intro n;induction n with
 | zero =>
  intro l f hl hf;have:l=[]:=List.eq_nil_of_length_eq_zero (by omega);subst this;obtain⟨g,rfl⟩:∃g,f=g+1:=⟨f-1,by omega⟩
  rfl
 | succ n ih =>
  intro l f hl hf;obtain⟨g,rfl⟩:∃g,f=g+1:=⟨f-1,by omega⟩
  by_cases hc:c∈l
  ·obtain⟨p,q,rfl,hp⟩:=aD6 hc;have hi:=aDq p q c hp;have hlen:(p++c :: q).length=p.length+q.length+1:=by simp;omega
   have hd:(p++c :: q).drop (p.length+1)=q:=by
    rw[←List.drop_drop,List.drop_left];rfl
   have hcount:Lib.countFrom [c] (g+1) (p++c :: q)=Lib.countFrom [c] g q+1:=by
    have e:Lib.countFrom [c] (g+1) (p++c :: q)=if Lib.index (p++c :: q) [c]==-1 then 0 else 1+Lib.countFrom [c] g ((p++c :: q).drop ((Lib.index (p++c :: q) [c]).toNat+1)):=rfl
    rw[e,hi];have hm:¬(((p.length:Nat):Int)==-1)=true:=fun x=>by have:=beq_iff_eq.1 x;omega
    rw[if_neg hm,Int.toNat_natCast,hd];omega
   rw[hcount,Lib.replaceK_hit [c] [] _ _ p.length hi];have hk:(p++c :: q).drop (p.length+[c].length)=q:=hd;rw[hk,ih q g (by omega) (by omega),List.take_left,List.append_nil,List.filter_append,xU p c hp,List.filter_cons_of_neg (by simp)]
  ·have hcount:Lib.countFrom [c] (g+1) l=0:=by
    have e:Lib.countFrom [c] (g+1) l=if Lib.index l [c]==-1 then 0 else 1+Lib.countFrom [c] g (l.drop ((Lib.index l [c]).toNat+1)):=rfl
    rw[e,aDr l c hc];rfl
   rw[hcount,xU l c hc];rfl
theorem sP (c:UInt8)(l:List UInt8):Lib.replaceAll l [c] []=l.filter (fun b=>b !=c):=by
 unfold Lib.replaceAll Lib.replace;rw[if_neg (by simp)];have:Lib.replaceNum l [c] (-1)=Lib.countFrom [c] (l.length+1) l:=by
  unfold Lib.replaceNum;rw[if_pos (Or.inl (by omega))];rfl
 rw[this,aDR c l.length l _ xD (by omega)]
def kX (l:List UInt8):List UInt8:=((cT l).filter (fun b=>b !=9)).filter (fun b=>b !=10)
def dG (l:List UInt8):List UInt8:=Lib.trimB (kX l) 32
theorem xP (l:List UInt8):kX l=(cT l).filter (fun b=>b !=9&&b !=10):=by
 unfold kX;rw[List.filter_filter];congr 1;funext b;cases (b !=9)<;>cases (b !=10)<;>rfl
def fH (c:UInt8):UInt8:=if 65≤c.toNat∧c.toNat≤90 then UInt8.ofNat (c.toNat+32)else c
theorem aFX (c:UInt8):(fH c).toNat=if 65≤c.toNat∧c.toNat≤90 then c.toNat+32 else c.toNat:=by
 unfold fH;split
 ·rw[ofN _ (by omega)]
 ·rfl
def cZ (l:List UInt8):List UInt8:=l.map fH
def aS (c:UInt8)(i:Nat):Bool :=
 (decide (97≤c.toNat)&&decide (c.toNat≤122))||(decide (0<i)&&((decide (48≤c.toNat)&&decide (c.toNat≤57))||decide (c.toNat=43)||decide (c.toNat=45)||decide (c.toNat=46)))
def gA:Nat→List UInt8→Bool
 | _,[]=>true
 | i,c :: l=>aS (fH c) i&&gA (i+1) l
theorem uP (l:List UInt8):∀i,gA i l=true↔∀j c,l[j]?=some c→aS (fH c) (i+j)=true:=by
 induction l with
 | nil=>intro i;simp[gA]
 | cons c l ih =>
  intro i;rw[gA,Bool.and_eq_true,ih];constructor
  ·rintro⟨h1,h2⟩ j d hd;cases j with
   | zero=>simp at hd;subst hd;exact h1
   | succ j=>simp at hd;have:=h2 j d hd;rwa[show i+(j+1)=i+1+j by omega]
  ·intro h;refine⟨h 0 c rfl,fun j d hd=>?_⟩;have:=h (j+1) d (by simpa using hd);rwa[show i+(j+1)=i+1+j by omega]at this
def lB (l:List UInt8):Option (List UInt8) :=
 if (Lib.cut l [58]).2.2=true∧(Lib.cut l [58]).1≠[]∧gA 0 (Lib.cut l [58]).1=true then some (cZ (Lib.cut l [58]).1)else none
theorem rV (p q:List UInt8)(h:(58:UInt8)∉p):lB (p++58 :: q)=if p≠[]∧gA 0 p=true then some (cZ p)else none:=by
 unfold lB;rw[aA4 p q 58 h];simp
theorem aDZ (l:List UInt8)(h:(58:UInt8)∉l):lB l=none:=by
 unfold lB;rw[aDe l 58 h];simp
open Go.RowKit PU8
def eI (w:World)(g off:Nat)(L:List UInt8):Prop:=∀j (h:j<L.length),w.cell? ⟨g,off+j,none⟩=some (.int .u8 (L[j].toNat:Nat))
theorem tX (L:List UInt8)(k:Nat)(h:k<L.length):bE (L.drop k)=L[k].toNat :: bE (L.drop (k+1)):=by
 rw[List.drop_eq_getElem_cons h];rfl
theorem aHh (L:List UInt8)(k:Nat)(h:L.length≤k):bE (L.drop k)=[]:=by
 rw[List.drop_eq_nil_of_le h];rfl
def gS (L:List UInt8)(i need m:Nat)(t:Bool)(n lo hi:Nat):Prop :=
 1≤n∧n≤need+1∧i+n≤L.length∧contU (need+1-n) lo hi n (bE (L.drop (i+n)))=(m,t)
theorem gS.stop {L:List UInt8}{i need m:Nat}{t:Bool}{n lo hi:Nat}(h:gS L i need m t n lo hi)(hn:n=need+1):m=n∧t=true:=by
 obtain⟨_,_,_,h⟩:=h;rw[hn,Nat.sub_self]at h
 unfold contU at h;cases h;exact⟨hn.symm,rfl⟩
theorem gS.short {L:List UInt8}{i need m:Nat}{t:Bool}{n lo hi:Nat}(h:gS L i need m t n lo hi)(hn:n≤need)(he:i+n=L.length):m=n∧t=false:=by
 obtain⟨_,_,_,h⟩:=h;obtain⟨k,hk⟩:∃k,need+1-n=k+1:=⟨need-n,by omega⟩
 rw[hk,aHh _ _ (by omega)]at h
 unfold contU at h;cases h;exact⟨rfl,rfl⟩
theorem gS.bad {L:List UInt8}{i need m:Nat}{t:Bool}{n lo hi:Nat}(h:gS L i need m t n lo hi)(hn:n≤need)(he:i+n<L.length)(hb:L[i+n].toNat<lo∨hi<L[i+n].toNat):m=n∧t=false:=by
 obtain⟨_,_,_,h⟩:=h;obtain⟨k,hk⟩:∃k,need+1-n=k+1:=⟨need-n,by omega⟩
 rw[hk,tX _ _ he]at h
 unfold contU at h;rw[if_pos hb]at h
 cases h;exact⟨rfl,rfl⟩
theorem gS.next {L:List UInt8}{i need m:Nat}{t:Bool}{n lo hi:Nat}(h:gS L i need m t n lo hi)(hn:n≤need)(he:i+n<L.length)(hb:¬(L[i+n].toNat<lo∨hi<L[i+n].toNat)):gS L i need m t (n+1) 128 191:=by
 obtain⟨h1,_,_,h⟩:=h;obtain⟨k,hk⟩:∃k,need+1-n=k+1:=⟨need-n,by omega⟩
 rw[hk,tX _ _ he]at h
 unfold contU at h;rw[if_neg hb]at h
 refine⟨by omega,by omega,by omega,?_⟩;rw[show need+1-(n+1)=k by omega];exact h
theorem kG (g off cap i m c N l0 h0:Nat)(t:Bool)(L:List UInt8)(w:World)(hB:Hid (eI w g off L))(hi:i<L.length)(hL:L.length≤140737488355328)(hc:w.cell? ⟨g,off+i,none⟩=some (.int .u8 (c:Nat)))(h0c:194≤c)
  (hcc:c<224∧N=1∧l0=128∧h0=191∨c=224∧N=2∧l0=160∧h0=191∨c=237∧N=2∧l0=128∧h0=159∨(225≤c∧c<240∧c≠237)∧N=2∧l0=128∧h0=191∨c=240∧N=3∧l0=144∧h0=191∨(241≤c∧c<244)∧N=3∧l0=128∧h0=191∨c=244∧N=3∧l0=128∧h0=143)
  (hR:Hid (gS L i N m t 1 l0 h0)):Calls Tryz.prog 129 #[.slice (some ⟨g,off,none⟩) L.length cap,.int .i64 i] w fun e w'=>e=.returned (.tuple #[.int .i64 m,.bool t])∧w=w':=by
 have l128:decide ((c:Int)<128)=false:=by simp;omega
 have l194:decide ((c:Int)<194)=false:=by simp;omega
 rcases hcc with⟨hc2,hN,rfl,rfl⟩|⟨hc2,hN,rfl,rfl⟩|⟨hc2,hN,rfl,rfl⟩|⟨hc2,hN,rfl,rfl⟩|⟨hc2,hN,rfl,rfl⟩|⟨hc2,hN,rfl,rfl⟩|⟨hc2,hN,rfl,rfl⟩
 all_goals (first|have f224:decide ((c:Int)<224)=true:=(by simp;omega)|have f224:decide ((c:Int)<224)=false:=(by simp;omega)|skip)
 all_goals (first|have f240:decide ((c:Int)<240)=true:=(by simp;omega)|have f240:decide ((c:Int)<240)=false:=(by simp;omega)|skip)
 all_goals (first|have f244:decide ((c:Int)<244)=true:=(by simp;omega)|have f244:decide ((c:Int)<244)=false:=(by simp;omega)|skip)
 all_goals (first|have f224q:((c:Int)==224)=true:=(by simp;omega)|have f224q:((c:Int)==224)=false:=(by simp;omega)|skip)
 all_goals (first|have f237q:((c:Int)==237)=true:=(by simp;omega)|have f237q:((c:Int)==237)=false:=(by simp;omega)|skip)
 all_goals (first|have f240q:((c:Int)==240)=true:=(by simp;omega)|have f240q:((c:Int)==240)=false:=(by simp;omega)|skip)
 all_goals (first|have f244q:((c:Int)==244)=true:=(by simp;omega)|have f244q:((c:Int)==244)=false:=(by simp;omega)|skip)
 all_goals (have HN:=hid hN)
 all_goals (have HCC:=hid hc2)
 all_goals clear hN hc2
 all_goals (go_enter Tryz.func129,Tryz.ntmps129)
 all_goals go_wp2
 all_goals clear hc l128 l194
 all_goals ((try clear f224);(try clear f240);(try clear f244);(try clear f224q);(try clear f237q);(try clear f240q);(try clear f244q))
 all_goals (
  go_loop [4,5,8,9,10] (fun r4 r5 l h n=>r4=.int .i64 0∧r5=.bool false∧∃n' lo hi:Nat,n=.int .i64 n'∧l=.int .u8 lo∧h=.int .u8 hi∧Hid (gS L i N m t n' lo hi)) (fun _ _ _ _ n=>N+1-(intOf n).toNat)
  case atStart=>exact⟨rfl,rfl,1,_,_,rfl,rfl,rfl,hR⟩
  case round =>
   obtain⟨rfl,rfl,n,lo,hi',rfl,rfl,rfl,hQ⟩:=hrel;have n1:1≤n:=hQ.out.1;have n2:n≤3+1:=by have h1:=hQ.out.2.1;have h2:=HN.out;omega
   have n3:i+n≤L.length:=hQ.out.2.2.1;rcases Nat.lt_or_ge N n with hn|hn
   ·have hE:=hQ.out.stop (by have h1:=hQ.out.2.1;omega);have HE:=hid hE;clear hE;rw[HN.out]at hn
    go_wp2
    go_ret2;refine⟨?_,rfl⟩;rw[HE.out.1,HE.out.2];rfl
   ·rcases Nat.lt_or_ge (i+n) L.length with hlt|hge
    ·have hcell:=hB.out (i+n) hlt;by_cases hbad:L[i+n].toNat<lo∨hi'<L[i+n].toNat
     ·have HE:=hid (hQ.out.bad hn hlt hbad);rw[HN.out]at hn
      have HQ2:=hid hbad;generalize L[i+n].toNat=d at hcell hbad;have hne:((i:Int)+(n:Int)==(L.length:Int))=false:=by rw[beq_eq_false_iff_ne];omega
      rcases Nat.lt_or_ge d lo with hd|hd
      ·clear hbad HQ2;go_wp2
       go_ret2;refine⟨?_,rfl⟩;rw[HE.out.1,HE.out.2];rfl
      ·have hd2:hi'<d:=by omega
       clear hbad HQ2;go_wp2
       go_ret2;refine⟨?_,rfl⟩;rw[HE.out.1,HE.out.2];rfl
     ·have HE:=hid (hQ.out.next hn hlt hbad);rw[HN.out]at hn
      generalize L[i+n].toNat=d at hcell hbad;have hne:((i:Int)+(n:Int)==(L.length:Int))=false:=by rw[beq_eq_false_iff_ne];omega
      have hd1:lo≤d:=by omega
      have hd2:d≤hi':=by omega
      clear hbad;go_wp2
      go_round
      case rel=>exact⟨rfl,rfl,n+1,128,191,by go_num,rfl,rfl,HE⟩
      case measure=>have h2:=HN.out;simp[intOf];omega
    ·have he:i+n=L.length:=by omega
     have HE:=hid (hQ.out.short hn he);rw[HN.out]at hn
     have heq:((i:Int)+(n:Int)==(L.length:Int))=true:=by rw[beq_iff_eq];omega
     clear he;go_wp2
     go_ret2;refine⟨?_,rfl⟩;rw[HE.out.1,HE.out.2];rfl)
open Go.RowKit PU8
theorem aJp (g off cap i c:Nat)(L:List UInt8)(w:World)(hi:i<L.length)(_hL:L.length≤140737488355328)(hc:w.cell? ⟨g,off+i,none⟩=some (.int .u8 (c:Nat)))(hcc:c<128) :
  Calls Tryz.prog 129 #[.slice (some ⟨g,off,none⟩) L.length cap,.int .i64 i] w fun e w'=>e=.returned (.tuple #[.int .i64 1,.bool true])∧w=w':=by
 have l128:decide ((c:Int)<128)=true:=by simp;omega
 have HCC:=hid hcc;clear hcc;go_enter Tryz.func129,Tryz.ntmps129
 go_wp2
 go_ret2;exact⟨rfl,rfl⟩
theorem aHd (g off cap i c:Nat)(L:List UInt8)(w:World)(hi:i<L.length)(_hL:L.length≤140737488355328)(hc:w.cell? ⟨g,off+i,none⟩=some (.int .u8 (c:Nat)))(hcc:128≤c∧c<194) :
  Calls Tryz.prog 129 #[.slice (some ⟨g,off,none⟩) L.length cap,.int .i64 i] w fun e w'=>e=.returned (.tuple #[.int .i64 0,.bool false])∧w=w':=by
 have l128:decide ((c:Int)<128)=false:=by simp;omega
 have l194:decide ((c:Int)<194)=true:=by simp;omega
 have HCC:=hid hcc;clear hcc;go_enter Tryz.func129,Tryz.ntmps129
 go_wp2
 go_ret2;exact⟨rfl,rfl⟩
theorem aHc (g off cap i c:Nat)(L:List UInt8)(w:World)(hi:i<L.length)(_hL:L.length≤140737488355328)(hc:w.cell? ⟨g,off+i,none⟩=some (.int .u8 (c:Nat)))(hcc:244<c) :
  Calls Tryz.prog 129 #[.slice (some ⟨g,off,none⟩) L.length cap,.int .i64 i] w fun e w'=>e=.returned (.tuple #[.int .i64 0,.bool false])∧w=w':=by
 have l128:decide ((c:Int)<128)=false:=by simp;omega
 have l194:decide ((c:Int)<194)=false:=by simp;omega
 have l224:decide ((c:Int)<224)=false:=by simp;omega
 have l240:decide ((c:Int)<240)=false:=by simp;omega
 have l244:decide ((c:Int)<244)=false:=by simp;omega
 have q224:((c:Int)==224)=false:=by simp;omega
 have q237:((c:Int)==237)=false:=by simp;omega
 have q240:((c:Int)==240)=false:=by simp;omega
 have q244:((c:Int)==244)=false:=by simp;omega
 have HCC:=hid hcc;clear hcc;go_enter Tryz.func129,Tryz.ntmps129
 go_wp2
 go_ret2;exact⟨rfl,rfl⟩
theorem fR (L:List UInt8)(i need lo hi m:Nat)(t:Bool)(h:i<L.length)(hl:contU need lo hi 1 (bE (L.drop (i+1)))=(m,t)):gS L i need m t 1 lo hi :=
 ⟨Nat.le_refl _,by omega,h,hl⟩
theorem aDw (g off cap i m:Nat)(t:Bool)(L:List UInt8)(w:World)(hB:Hid (eI w g off L))(hi:i<L.length)(hL:L.length≤140737488355328)(hr:Hid (lookU (bE (L.drop i))=(m,t))) :
  Calls Tryz.prog 129 #[.slice (some ⟨g,off,none⟩) L.length cap,.int .i64 i] w fun e w'=>e=.returned (.tuple #[.int .i64 m,.bool t])∧w=w':=by
 have hc:=hB.out i hi;have h:=hr.out;rw[tX _ _ hi,look_cons]at h
 have hc256:=L[i].toNat_lt;generalize L[i].toNat=c at hc h hc256;by_cases h1:c<128
 ·rw[if_pos h1]at h
  cases h;exact aJp g off cap i c L w hi hL hc h1
 rw[if_neg h1]at h
 by_cases h2:c<194
 ·rw[if_pos h2]at h
  cases h;exact aHd g off cap i c L w hi hL hc ⟨by omega,h2⟩
 rw[if_neg h2]at h
 by_cases h3:c<224
 ·rw[if_pos h3]at h
  exact kG g off cap i m c 1 128 191 t L w hB hi hL hc (by omega) (.inl ⟨h3,rfl,rfl,rfl⟩) (hid (fR L i _ _ _ m t hi h))
 rw[if_neg h3]at h
 by_cases h4:c=224
 ·rw[if_pos h4]at h
  exact kG g off cap i m c 2 160 191 t L w hB hi hL hc (by omega) (.inr (.inl ⟨h4,rfl,rfl,rfl⟩)) (hid (fR L i _ _ _ m t hi h))
 rw[if_neg h4]at h
 by_cases h5:c=237
 ·rw[if_pos h5]at h
  exact kG g off cap i m c 2 128 159 t L w hB hi hL hc (by omega) (.inr (.inr (.inl ⟨h5,rfl,rfl,rfl⟩))) (hid (fR L i _ _ _ m t hi h))
 rw[if_neg h5]at h
 by_cases h6:c<240
 ·rw[if_pos h6]at h
  exact kG g off cap i m c 2 128 191 t L w hB hi hL hc (by omega) (.inr (.inr (.inr (.inl ⟨⟨by omega,h6,h5⟩,rfl,rfl,rfl⟩)))) (hid (fR L i _ _ _ m t hi h))
 rw[if_neg h6]at h
 by_cases h7:c=240
 ·rw[if_pos h7]at h
  exact kG g off cap i m c 3 144 191 t L w hB hi hL hc (by omega) (.inr (.inr (.inr (.inr (.inl ⟨h7,rfl,rfl,rfl⟩))))) (hid (fR L i _ _ _ m t hi h))
 rw[if_neg h7]at h
 by_cases h8:c<244
 ·rw[if_pos h8]at h
  exact kG g off cap i m c 3 128 191 t L w hB hi hL hc (by omega) (.inr (.inr (.inr (.inr (.inr (.inl ⟨⟨by omega,h8⟩,rfl,rfl,rfl⟩)))))) (hid (fR L i _ _ _ m t hi h))
 rw[if_neg h8]at h
 by_cases h9:c=244
 ·rw[if_pos h9]at h
  exact kG g off cap i m c 3 128 143 t L w hB hi hL hc (by omega) (.inr (.inr (.inr (.inr (.inr (.inr ⟨h9,rfl,rfl,rfl⟩)))))) (hid (fR L i _ _ _ m t hi h))
 rw[if_neg h9]at h
 cases h;exact aHc g off cap i c L w hi hL hc (by omega)
open Go.RowKit
theorem Tryz.info5:(Tryz.prog.info? 5).map (fun i=>(i.zero,i.size,i.bytes))=some (some (.int .u8 0),1,1):=by kernel_rfl
theorem eI.below {w w':World}{g off B:Nat}{L:List UInt8}(h:eI w g off L)(hb:Below B w w')(hg:g<B):eI w' g off L:=by
 intro j hj;rw[hb.cell (p:=⟨g,off+j,none⟩) hg];exact h j hj
theorem eI.news {w:World}{g off:Nat}{L:List UInt8}(h:eI w g off L):∀j u,(Lib.byteCells L)[j]?=some u→w.cell? ((⟨g,off,none⟩:Addr).add j)=some u:=by
 intro j u hu;unfold Lib.byteCells at hu;rw[List.getElem?_map]at hu
 rcases Nat.lt_or_ge j L.length with hj|hj
 ·rw[List.getElem?_eq_getElem hj]at hu
  simp at hu;have hadd:(⟨g,off,none⟩:Addr).add j=⟨g,off+j,none⟩:=by unfold Addr.add;split<;>simp_all
  rw[hadd,h j hj,hu]
 ·rw[List.getElem?_eq_none hj]at hu
  simp at hu
theorem aCo (L:List UInt8):∀u∈Lib.byteCells L,u.oneCell'=true:=by
 intro u hu;unfold Lib.byteCells at hu;obtain⟨b,_,rfl⟩:=List.mem_map.1 hu;rfl
theorem jE (L:List UInt8):(Lib.byteCells L).length=L.length:=by unfold Lib.byteCells;simp
theorem aLQ (B b:Nat)(bs:List Value)(g off cap n:Nat)(L:List UInt8)(hn:L.length=n)(w:World)(h:Lib.IsBuilderF 112 5 B b bs w)(hsrc:Hid (eI w g off L))(hgB:g<B)(hlen:bs.length+L.length≤140737488355328)(hBw:B≤w.heap.size) :
  Calls Tryz.prog 130 #[.pointer (some ⟨b,0,none⟩),.slice (some ⟨g,off,none⟩) n cap] w fun e w'=>e=.returned (.tuple #[.int .i64 n,.nilIface])∧(Lib.BuilderAtF 112 5 B b (.pointer (some ⟨b,0,none⟩)) (bs++Lib.byteCells L) w'∧Below B w w'∧Lib.OthersKept 5 (some b) w w'):=by
 subst hn;obtain⟨i0,hi,hz0,hz1,hz2⟩:=info_parts Tryz.info5;go_enter Tryz.func130,Tryz.ntmps130
 go_wp2_with (go_at_call 156;refine(Tryz.Builder_copyCheck_k B b bs _ h).mono ?_)
 rintro e w1 ⟨rfl,h1,hb1,hk1⟩;obtain⟨hB,v,hbk,hown,hne⟩:=h1;have hs1:Hid (eI w1 g off L):=hsrc.out.below hb1 hgB;have c0:w1.cell? ⟨b,0,none⟩=some (.pointer (some ⟨b,0,none⟩)):=by rw[Lib.cell_of_heap hbk];rfl
 have c1:w1.cell? ⟨b,1,none⟩=some v:=by rw[Lib.cell_of_heap hbk];rfl
 go_wp2_with (at_builtin;refine wpList_append_ownF _ rfl _ _ 35 rfl B 5 i0 (.int .u8 0) 1 1 Tryz.underlying35 hi hz0 hz1 hz2 rfl (by decide) _ _ _ rfl hown ⟨g,off,none⟩ L.length cap (Lib.byteCells L) rfl ?c1 hs1.out.news (aCo L) ?c3 ?c4 ?c5 ?_)
 case c1=>rw[jE,Nat.mul_one]
 case c3=>unfold maxLen;omega
 case c4=>omega
 case c5=>have:=hb1.size;omega
 intro v' w2 hown' hgrow _;have hlt:b<w1.heap.size:=by
  rcases Nat.lt_or_ge b w1.heap.size with h'|h'
  ·exact h'
  ·simp[Array.getElem?_eq_none h']at hbk
 have hb2:w2.heap[b]?=some (.cells #[.pointer (some ⟨b,0,none⟩),v] 112 (0,0)):=by
  rw[hgrow.block b hlt (fun e=>hne e.symm)];exact hbk
 have d0:w2.cell? ⟨b,0,none⟩=some (.pointer (some ⟨b,0,none⟩)):=by rw[Lib.cell_of_heap hb2];rfl
 have d1:w2.cell? ⟨b,1,none⟩=some v:=by rw[Lib.cell_of_heap hb2];rfl
 have f1:w2.frozen? ⟨b,1,none⟩=false:=Lib.frozen_of_heap hb2 1;obtain⟨ao,n',cap',rfl⟩:∃ao n' cap,v'=.slice ao n' cap:=by
  rcases hown'.2 with⟨hv,_⟩|⟨g,cap,cur,fz,hv,_⟩
  ·exact⟨_,_,_,hv⟩
  ·exact⟨_,_,_,hv⟩
 go_wp2
 go_ret2;refine⟨rfl,?_,?_,(hk1.grown hgrow (Lib.ownsRowF_kind hown)).setCell ⟨b,1,none⟩ rfl _⟩
 ·exact Lib.BuilderAtF.put (T:=112) (e:=5) hB hb2 (bs':=bs++Lib.byteCells L) (by simpa [jE]using hown') (by decide)
 ·exact(hb1.grown hgrow (by have:=hb1.size;omega) (fun k hk=>(hown.lt k hk).1)).setCell (p:=⟨b,1,none⟩) hB _
open Go.RowKit
section
variable {P:Program} (T E:TypeId) (ht:P.underlying T=some (.slice E)) (hs:(P.info? E).map (·.size)=some 1) (w:World) (a:Option Addr) (n c l h:Nat)
include ht hs
theorem aHS (h1:h≤c):(Instr.slice T (.slice a n c) none (some (.int .i64 h)) none).run P w=.ok (.slice a h c) w:=by
 cases hq:P.info? E with
 | none=>simp[hq]at hs
 | some i =>
  simp[Instr.slice,run_underlying ht,Instr.sliceBounds,run_sliceBound,sizeOf,typeInfo,hq,h1,Addr.add]
theorem jA (h1:l≤h)(h2:h≤c):(Instr.slice T (.slice a n c) (some (.int .i64 l)) (some (.int .i64 h)) none).run P w=.ok (.slice (if c=l then a else a.map (·.add l)) (h-l) (c-l)) w:=by
 cases hq:P.info? E with
 | none=>simp[hq]at hs
 | some i =>
  have hi:i.size=1:=by simpa [hq]using hs
  simp[Instr.slice,run_underlying ht,Instr.sliceBounds,run_sliceBound,sizeOf,typeInfo,hq,hi,h1,h2]
end
theorem gO.empty (w:World)(base:Nat)(E:TypeId)(h:base≤w.heap.size):gO (w.alloc (.cells #[] E)) base E (some ⟨w.heap.size,0,none⟩) 0 [] :=
 World.ownsRow_made w #[] 0 h (by unfold maxLen;omega) rfl
theorem IsB.same {w w':World}{a:Option Addr}{bs:List UInt8}(h:IsB w a bs)(hh:w'.heap=w.heap):IsB w' a bs:=by
 intro j b hb;obtain⟨x,hx,hc⟩:=h j b hb;exact⟨x,hx,by unfold World.cell? at *;rw[hh];exact hc⟩
open Go.RowKit PU8
theorem aJJ (g off cap k h:Nat)(n:Nat)(hk:k<cap)(h1:k≤h)(h2:h≤cap)(w:World) :
  (Instr.slice 35 (.slice (some ⟨g,off,none⟩) n cap) (some (.int .i64 k)) (some (.int .i64 h)) none).run Tryz.prog w=.ok (.slice (some ⟨g,off+k,none⟩) (h-k) (cap-k)) w:=by
 rw[jA 35 5 Tryz.underlying35 (by kernel_rfl) w (some ⟨g,off,none⟩) n cap k h h1 h2,if_neg (by omega)];have hadd:(⟨g,off,none⟩:Addr).add k=⟨g,off+k,none⟩:=by unfold Addr.add;split<;>simp_all
 simp[hadd]
theorem eI.cut {w:World}{g off:Nat}{L:List UInt8}(h:eI w g off L)(k m:Nat):eI w g (off+k) ((L.drop k).take m):=by
 intro j hj;rw[List.length_take,List.length_drop]at hj
 rw[Nat.add_assoc,h (k+j) (by omega)];simp
theorem aHT:Lib.runeCells 65533=Lib.byteCells [239,191,189]:=by
 rw[←Lib.byteCells_encodeRune];have:Lib.encodeRune 65533=[239,191,189]:=by decide
 rw[this]
theorem lW (a b:List UInt8):Lib.byteCells a++Lib.byteCells b=Lib.byteCells (a++b):=by simp[Lib.byteCells]
theorem aKY (l:List UInt8)(h:l≠[]):(lookU (bE l)).1≤l.length:=by
 have hc:∀need lo hi n (r:List Nat),(contU need lo hi n r).1≤n+r.length:=by
  intro need;induction need with
  | zero=>intro lo hi n r;simp[contU]
  | succ k ih =>
   intro lo hi n r;cases r with
   | nil=>simp[contU]
   | cons c r =>
    unfold contU;split
    ·simp
    ·have:=ih 0x80 0xbf (n+1) r;simp only[List.length_cons];omega
 have hl:(bE l).length=l.length:=by unfold bE;simp
 rw[←hl];cases hb:bE l with
 | nil=>exact absurd hb (mD h)
 | cons c r =>
  rw[look_cons];simp only[List.length_cons];repeat' split
  all_goals first
   | (have:=hc 1 0x80 0xbf 1 r;omega)
   | (have:=hc 2 0xa0 0xbf 1 r;omega)
   | (have:=hc 2 0x80 0x9f 1 r;omega)
   | (have:=hc 2 0x80 0xbf 1 r;omega)
   | (have:=hc 3 0x90 0xbf 1 r;omega)
   | (have:=hc 3 0x80 0xbf 1 r;omega)
   | (have:=hc 3 0x80 0x8f 1 r;omega)
   | (simp only;omega)
structure zS (L:List UInt8) (B k:Nat) (w wx:World) (o:List UInt8):Prop where
 le:k≤L.length
 bld:Lib.IsBuilderF 112 5 B B (Lib.byteCells o) wx
 bel:Below B w wx
 out:o++lF (L.drop k)=lF L
theorem zS.len {L:List UInt8}{B k:Nat}{w wx:World}{o:List UInt8}(h:zS L B k w wx o):o.length≤3*L.length:=by
 have:=congrArg List.length h.out;rw[List.length_append]at this
 have h2:=aA7 L.length L xD;omega
theorem aFr (g off cap:Nat)(L:List UInt8)(hL:L.length≤1000000000)(hcap:L.length≤cap)(w:World)(hB:Hid (eI w g off L))(hg:g<w.heap.size) :
  Calls Tryz.prog 77 #[.slice (some ⟨g,off,none⟩) L.length cap] w fun e w'=>e=.returned (.string ⟨(lF L).toArray⟩)∧Below w.heap.size w w':=by
 go_enter Tryz.func77,Tryz.ntmps77
 go_wp2
 go_loopw [4] (fun i wx=>∃k:Nat,i=.int .i64 k∧∃o,Hid (zS L w.heap.size k w wx o)) (fun i _=>L.length-(intOf i).toNat)
 case atStart =>
  refine⟨0,rfl,[],⟨Nat.zero_le _,?_,(Below.refl _ w).alloc xD _,rfl⟩⟩;exact .inl ⟨Nat.le_refl _,.slice none 0 0,heap_alloc_new w _,World.ownsRowF_nil _ _ _ _,by simp[Value.ownBlock]⟩
 case round =>
  obtain⟨k,rfl,o,hD⟩:=hrel;have hk:=hD.out.le;rcases Nat.lt_or_ge k L.length with hlt|hge
  ·have hBr:Hid (eI wr g off L):=hB.out.below hD.out.bel hg;have hne:L.drop k≠[]:=by
    intro e;have:=congrArg List.length e;rw[List.length_drop]at this
    simp at this;omega
   have hst:=aDf (L.drop k) hne;have hpw:=rS (L.drop k) hne;cases hlk:lookU (bE (L.drop k))with
   | mk m t =>
   rw[hlk]at hst hpw
   simp only at hst hpw;have HLK:Hid (lookU (bE (L.drop k))=(m,t)):=hlk;have hol:=hD.out.len;cases t with
   | true =>
    obtain⟨_,hm1,hm2⟩:=hpw rfl;rw[List.length_drop]at hm2
    have hmax:max m 1=m:=by omega
    rw[if_pos rfl,hmax]at hst
    have HST:=hid hst;have hsl:=aJJ g off cap k (k+m) L.length (by omega) (by omega) (by omega);have hkm:k+m-k=m:=by omega
    rw[hkm]at hsl
    rw[Int.natCast_add]at hsl
    clear hst hpw hlk hmax hne hkm;go_wp2_with fail
    refine(aDw g off cap k m true L _ hBr hlt (by omega) HLK).mono ?_;rintro e w' ⟨rfl,rfl⟩;go_wp2_with fail
    refine(aLQ w.heap.size w.heap.size (Lib.byteCells o) g (off+k) (cap-k) m ((L.drop k).take m) (by rw[List.length_take,List.length_drop];omega) _ hD.out.bld (hid (hBr.out.cut k m)) hg (by rw[jE,List.length_take,List.length_drop];omega) hD.out.bel.size).mono ?_;rintro e w2 ⟨rfl,b1,b2,b3⟩;have HN:Hid (zS L w.heap.size (k+m) w w2 (o++(L.drop k).take m)):=by
     refine⟨by omega,.inr (by rw[←lW];exact b1),hD.out.bel.trans b2,?_⟩;have:=hD.out.out;rw[HST.out,List.drop_drop]at this
     rw[List.append_assoc];exact this
    clear b1 b2 b3;go_wp2
    refine⟨⟨k+m,by congr 1;omega,_,HN⟩,?_⟩;simp[intOf];omega
   | false =>
    rw[if_neg (by simp),List.drop_drop]at hst
    have HST:=hid hst;clear hst hpw hlk hne;go_wp2_with fail
    refine(aDw g off cap k m false L _ hBr hlt (by omega) HLK).mono ?_;rintro e w' ⟨rfl,rfl⟩;go_wp2_with fail
    refine(Tryz.Builder_WriteRune_k w.heap.size w.heap.size (Lib.byteCells o) 65533 (by omega) (by omega) _ hD.out.bld (by rw[jE];omega) hD.out.bel.size).mono ?_;rintro e w2 ⟨rfl,b1,b2,b3⟩;have HN:Hid (k+max m 1≤L.length→zS L w.heap.size (k+max m 1) w w2 (o++[239,191,189])):=by
     intro hle;refine⟨hle,.inr (by rw[←lW,←aHT];exact b1),hD.out.bel.trans b2,?_⟩;have:=hD.out.out;rw[HST.out]at this
     rw[List.append_assoc];exact this
    have hle:m≤L.length-k:=by
     have:=aKY (L.drop k) (by intro e;have:=congrArg List.length e;rw[List.length_drop]at this;simp at this;omega);rw[HLK.out,List.length_drop]at this
     exact this
    clear b1 b2 b3;go_wp2
    refine⟨⟨k+max m 1,by congr 1;omega,_,HN.out (by omega)⟩,?_⟩;simp[intOf];omega
  ·have hE:o=lF L:=by
    have:=hD.out.out;rw[List.drop_eq_nil_of_le (by omega),aA8,List.append_nil]at this
    exact this
   have HE:=hid hE;clear hE;go_wp2_with fail
   refine(Tryz.Builder_String_any_k w.heap.size w.heap.size o _ hD.out.bld hD.out.bel.size).mono ?_;rintro e w2 ⟨rfl,b1,b2,b3⟩;clear b1 b3;go_wp2
   go_ret;refine⟨?_,hD.out.bel.trans b2⟩;rw[HE.out];rfl
