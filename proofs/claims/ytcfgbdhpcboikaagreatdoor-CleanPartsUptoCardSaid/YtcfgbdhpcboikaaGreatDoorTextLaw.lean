/-
  policy.Text and Link as functions of bytes: the characters of a text, some left out. No program in sight.
  utf8.look: what it answers of the bytes at a place (printed by wip/gen/lookw.py).
-/
import Derived.Lib.MapLaws
import Derived.Lib.TrimUEq
import Derived.Lib.Replace
import Derived.Lib.TrimByte
import Derived.Lib.IndexMore
import Derived.Test.YtcfgbdhpcboikaaGreatDoorUtf8Law
import Derived.Test.YtcfgbdhpcboikaaGreatDoorKinds
import Derived.LoopTactic
namespace Go.Proofs.YtcfgbdhpcboikaaGreatDoor
set_option maxHeartbeats 1000000
set_option maxRecDepth 100000
open PU8
def natsU (l:List UInt8):List Nat:=l.map UInt8.toNat
def encU (v:Nat):List UInt8:=(encN v).map UInt8.ofNat
def Val (v:Nat):Prop:=(v<0xd800∨0xdfff<v)∧v≤0x10ffff
theorem nats_ne {l:List UInt8}(h:l≠[]):natsU l≠[]:=by
 unfold natsU
 simpa using h
theorem piece_pos (l:List UInt8)(h:l≠[]):1≤(pieceU (natsU l)).1:=by
 have:=(sameU (natsU l) (nats_ne h)).num
 omega
theorem encU_fffd:encU 0xfffd=[239,191,189]:=by decide
theorem piece_val (l:List UInt8)(h:l≠[]):Val (pieceU (natsU l)).2.1:=by
 have s:=sameU (natsU l) (nats_ne h)
 cases hw:(lookU (natsU l)).2 with
 | true=>exact(s.val hw).2
 | false=>rw[s.bad hw];exact⟨by decide,by decide⟩
theorem piece_whole (l:List UInt8)(h:l≠[])(hw:(lookU (natsU l)).2=true):encU (pieceU (natsU l)).2.1=l.take (lookU (natsU l)).1∧1≤(lookU (natsU l)).1∧(lookU (natsU l)).1≤l.length:=by
 have s:=sameU (natsU l) (nats_ne h)
 obtain⟨h1,h2⟩:=s.val hw
 have hn:∀ b:List Nat,(lookU b).2=true→1≤(lookU b).1:=by
  intro b
  have hc:∀ need lo hi n r,1≤n→1≤(contU need lo hi n r).1:=by
   intro need
   induction need with
   | zero=>intro lo hi n r hn;simpa [contU] using hn
   | succ k ih =>
    intro lo hi n r hn
    cases r with
    | nil=>simpa [contU] using hn
    | cons c r =>
     unfold contU
     split
     ·exact hn
     ·exact ih _ _ _ _ (by omega)
  cases b with
  | nil=>simp[lookU]
  | cons c r =>
   rw[look_cons]
   intro hh
   repeat' split
   all_goals first
    | (exact hc _ _ _ _ _ (Nat.le_refl _))
    | (simp_all;done)
    | decide
 have hl:=hn _ hw
 have hnum:(pieceU (natsU l)).1=(lookU (natsU l)).1:=by
  have:=s.num;omega
 rw[hnum] at h1
 have hlen:(lookU (natsU l)).1≤l.length:=by
  have he:=congrArg List.length h1
  rw[List.length_take] at he
  have h4:1≤(encN (pieceU (natsU l)).2.1).length:=by
   unfold encN;repeat' split
   all_goals simp
  have hle:∀ b:List Nat,b≠[]→(lookU b).1≤b.length:=by
   have hc:∀ need lo hi n (r:List Nat),(contU need lo hi n r).1≤n+r.length:=by
    intro need
    induction need with
    | zero=>intro lo hi n r;simp[contU]
    | succ k ih =>
     intro lo hi n r
     cases r with
     | nil=>simp[contU]
     | cons c r =>
      unfold contU
      split
      ·simp
      ·have:=ih 0x80 0xbf (n+1) r
       simp only[List.length_cons]
       omega
   intro b hb
   cases b with
   | nil=>exact absurd rfl hb
   | cons c r =>
    rw[look_cons]
    simp only[List.length_cons]
    repeat' split
    all_goals first
     | (have:=hc 1 0x80 0xbf 1 r;omega)
     | (have:=hc 2 0xa0 0xbf 1 r;omega)
     | (have:=hc 2 0x80 0x9f 1 r;omega)
     | (have:=hc 2 0x80 0xbf 1 r;omega)
     | (have:=hc 3 0x90 0xbf 1 r;omega)
     | (have:=hc 3 0x80 0xbf 1 r;omega)
     | (have:=hc 3 0x80 0x8f 1 r;omega)
     | (simp only;omega)
  have:=hle _ (nats_ne h)
  simpa [natsU] using this
 refine⟨?_,hl,hlen⟩
 unfold encU
 rw[h1]
 unfold natsU
 rw[← List.map_take,List.map_map]
 conv=>rhs;rw[← List.map_id (List.take (lookU (List.map UInt8.toNat l)).1 l)]
 apply List.map_congr_left
 intro c _
 simp
theorem piece_odd (l:List UInt8)(h:l≠[])(hw:(lookU (natsU l)).2=false):(pieceU (natsU l)).2.1=0xfffd :=
 (sameU (natsU l) (nats_ne h)).bad hw
theorem piece_num (l:List UInt8)(h:l≠[]):(pieceU (natsU l)).1=max (lookU (natsU l)).1 1:=(sameU (natsU l) (nats_ne h)).num
def runesGo:Nat→List UInt8→List Nat
 | 0,_=>[]
 | n+1,l=>if l=[] then [] else (pieceU (natsU l)).2.1 :: runesGo n (l.drop (pieceU (natsU l)).1)
def runesU (l:List UInt8):List Nat:=runesGo l.length l
theorem runesGo_nil (n:Nat):runesGo n []=[]:=by cases n<;>simp[runesGo]
theorem runesGo_fuel:∀ (n m:Nat) (l:List UInt8),l.length≤n→l.length≤m→runesGo n l=runesGo m l:=by
 intro n
 induction n with
 | zero =>
  intro m l hn _
  have:l=[]:=List.eq_nil_of_length_eq_zero (by omega)
  subst this
  rw[runesGo_nil,runesGo_nil]
 | succ n ih =>
  intro m l hn hm
  by_cases hne:l=[]
  ·subst hne;rw[runesGo_nil,runesGo_nil]
  ·have hp:=piece_pos l hne
   have hl:0<l.length:=List.length_pos_iff.2 hne
   cases m with
   | zero=>omega
   | succ m =>
    unfold runesGo
    rw[if_neg hne,if_neg hne,ih m _ (by rw[List.length_drop];omega) (by rw[List.length_drop];omega)]
theorem runes_nil:runesU []=[]:=rfl
theorem runes_step (l:List UInt8)(h:l≠[]):runesU l=(pieceU (natsU l)).2.1 :: runesU (l.drop (pieceU (natsU l)).1):=by
 have hl:0<l.length:=List.length_pos_iff.2 h
 have hp:=piece_pos l h
 unfold runesU
 obtain⟨n,hn⟩:∃ n,l.length=n+1:=⟨l.length-1,by omega⟩
 rw[hn]
 conv=>lhs;unfold runesGo
 rw[if_neg h,runesGo_fuel n _ _ (by rw[List.length_drop];omega) (Nat.le_refl _)]
theorem runes_val:∀ (n:Nat) (l:List UInt8),l.length≤n→∀ r∈runesU l,Val r:=by
 intro n
 induction n with
 | zero =>
  intro l hl r hr
  have:l=[]:=List.eq_nil_of_length_eq_zero (by omega)
  subst this
  rw[runes_nil] at hr;cases hr
 | succ n ih =>
  intro l hl r hr
  by_cases hne:l=[]
  ·subst hne;rw[runes_nil] at hr;cases hr
  ·rw[runes_step l hne] at hr
   have hp:=piece_pos l hne
   have hpos:0<l.length:=List.length_pos_iff.2 hne
   rcases List.mem_cons.1 hr with rfl|hr
   ·exact piece_val l hne
   ·exact ih _ (by rw[List.length_drop];omega) r hr
def decU (l:List UInt8):List UInt8:=(runesU l).flatMap encU
theorem dec_nil:decU []=[]:=rfl
theorem dec_step (l:List UInt8)(h:l≠[]):decU l=(if (lookU (natsU l)).2=true then l.take (lookU (natsU l)).1 else [239,191,189])++decU (l.drop (max (lookU (natsU l)).1 1)):=by
 unfold decU
 rw[runes_step l h,List.flatMap_cons,piece_num l h]
 congr 1
 cases hw:(lookU (natsU l)).2 with
 | true=>rw[(piece_whole l h hw).1];rfl
 | false=>rw[piece_odd l h hw,encU_fffd];rfl
theorem ofN (n:Nat)(h:n<256):(UInt8.ofNat n).toNat=n:=by
 rw[UInt8.toNat_ofNat'];omega
theorem enc_len (v:Nat):1≤(encU v).length∧(encU v).length≤4:=by
 unfold encU
 rw[List.length_map]
 unfold encN
 repeat' split
 all_goals simp
theorem decode_enc (r:Nat)(h:Val r)(t:List UInt8):Lib.decodeL (encU r++t)=(r,(encU r).length):=by
 obtain⟨h1,h2⟩:=h
 rw[Lib.decodeL_N]
 by_cases a:r<0x80
 ·have e:encU r=[UInt8.ofNat r]:=by unfold encU encN;rw[if_pos a];rfl
  rw[e]
  simp only[List.cons_append,List.nil_append,List.length_cons,List.length_nil,List.getD_cons_zero]
  rw[ofN r (by omega)]
  unfold Lib.decodeN
  rw[if_pos (by omega)]
 ·by_cases b:r<0x800
  ·have e:encU r=[UInt8.ofNat (0xc0+r / 64),UInt8.ofNat (0x80+r%64)]:=by unfold encU;rw[enc_two r (by omega) b];rfl
   rw[e]
   simp only[List.cons_append,List.nil_append,List.length_cons,List.length_nil,List.getD_cons_zero,List.getD_cons_succ]
   rw[ofN _ (by omega),ofN _ (by omega)]
   unfold Lib.decodeN
   rw[if_neg (by omega),if_pos (by omega),if_pos (by omega)]
   apply Prod.ext
   ·simp only;omega
   ·rfl
  ·by_cases c:r<0x10000
   ·have e:encU r=[UInt8.ofNat (0xe0+r / 4096),UInt8.ofNat (0x80+r / 64%64),UInt8.ofNat (0x80+r%64)]:=by unfold encU;rw[enc_three r (by omega) c];rfl
    rw[e]
    simp only[List.cons_append,List.nil_append,List.length_cons,List.length_nil,List.getD_cons_zero,List.getD_cons_succ]
    rw[ofN _ (by omega),ofN _ (by omega),ofN _ (by omega)]
    unfold Lib.decodeN
    rw[if_neg (by omega),if_neg (by omega),if_pos (by omega),if_pos (by omega)]
    apply Prod.ext
    ·simp only;omega
    ·rfl
   ·have e:encU r=[UInt8.ofNat (0xf0+r / 262144),UInt8.ofNat (0x80+r / 4096%64),UInt8.ofNat (0x80+r / 64%64),UInt8.ofNat (0x80+r%64)]:=by unfold encU;rw[enc_four r (by omega)];rfl
    rw[e]
    simp only[List.cons_append,List.nil_append,List.length_cons,List.length_nil,List.getD_cons_zero,List.getD_cons_succ]
    rw[ofN _ (by omega),ofN _ (by omega),ofN _ (by omega),ofN _ (by omega)]
    unfold Lib.decodeN
    rw[if_neg (by omega),if_neg (by omega),if_neg (by omega),if_pos (by omega),if_pos (by omega)]
    apply Prod.ext
    ·simp only;omega
    ·rfl
theorem encodeRune_enc (r:Nat)(h:Val r):Lib.encodeRune (r:Int)=encU r:=by
 obtain⟨h1,h2⟩:=h
 have tb:∀ (z:Int) (n:Nat),z=(n:Int)→z.toNat.toUInt8=UInt8.ofNat n:=by
  intro z n hz
  subst hz
  rfl
 unfold Lib.encodeRune
 by_cases a:r<0x80
 ·rw[Lib.encodeRuneZ_one (by omega) (by omega)]
  have e:encU r=[UInt8.ofNat r]:=by unfold encU encN;rw[if_pos a];rfl
  rw[e]
  simp only[List.map_cons,List.map_nil]
  rw[tb _ r rfl]
 ·by_cases b:r<0x800
  ·rw[Lib.encodeRuneZ_two (by omega) (by omega)]
   have e:encU r=[UInt8.ofNat (0xc0+r / 64),UInt8.ofNat (0x80+r%64)]:=by unfold encU;rw[enc_two r (by omega) b];rfl
   rw[e]
   simp only[List.map_cons,List.map_nil]
   rw[tb _ (0xc0+r / 64) (by omega),tb _ (0x80+r%64) (by omega)]
  ·by_cases c:r<0x10000
   ·rw[Lib.encodeRuneZ_three (by omega)]
    have e:encU r=[UInt8.ofNat (0xe0+r / 4096),UInt8.ofNat (0x80+r / 64%64),UInt8.ofNat (0x80+r%64)]:=by unfold encU;rw[enc_three r (by omega) c];rfl
    rw[e]
    simp only[List.map_cons,List.map_nil]
    rw[tb _ (0xe0+r / 4096) (by omega),tb _ (0x80+r / 64%64) (by omega),tb _ (0x80+r%64) (by omega)]
   ·rw[Lib.encodeRuneZ_four (by omega) (by omega)]
    have e:encU r=[UInt8.ofNat (0xf0+r / 262144),UInt8.ofNat (0x80+r / 4096%64),UInt8.ofNat (0x80+r / 64%64),UInt8.ofNat (0x80+r%64)]:=by unfold encU;rw[enc_four r (by omega)];rfl
    rw[e]
    simp only[List.map_cons,List.map_nil]
    rw[tb _ (0xf0+r / 262144) (by omega),tb _ (0x80+r / 4096%64) (by omega),tb _ (0x80+r / 64%64) (by omega),tb _ (0x80+r%64) (by omega)]
def keepR (r:Nat):Bool:=decide (r=9)||decide (r=10)||(decide (32≤r)&&decide (r<127))||decide (159<r)
def textF (r:Int):Int:=if r<32∧r≠9∧r≠10∨127≤r∧r≤159 then -1 else r
def textL (l:List UInt8):List UInt8:=((runesU l).filter keepR).flatMap encU
theorem textF_keep (r:Nat)(h:keepR r=true):textF (r:Int)=(r:Int):=by
 unfold keepR at h
 simp only[Bool.or_eq_true,Bool.and_eq_true,decide_eq_true_eq] at h
 unfold textF
 rw[if_neg (by omega)]
theorem textF_drop (r:Nat)(h:keepR r=false):textF (r:Int)=-1:=by
 unfold keepR at h
 simp only[Bool.or_eq_false_iff,Bool.and_eq_false_iff,decide_eq_false_iff_not] at h
 unfold textF
 rw[if_pos (by omega)]
theorem textF_range (x:Nat)(h:x≤1114111):-2147483648≤textF x∧textF x≤2147483647:=by
 unfold textF
 split<;>omega
theorem enc_ne (r:Nat)(t:List UInt8):encU r++t≠[]:=by
 have:=(enc_len r).1
 intro h
 rw[List.append_eq_nil_iff] at h
 rw[h.1] at this
 simp at this
theorem map_enc (rs:List Nat)(hv:∀ r∈rs,Val r):Lib.mapD textF (rs.flatMap encU)=(rs.filter keepR).flatMap encU:=by
 induction rs with
 | nil=>rfl
 | cons r rs ih =>
  have hr:=hv r (List.mem_cons_self ..)
  rw[List.flatMap_cons,Lib.mapD_step _ _ (enc_ne r _),decode_enc r hr]
  simp only[List.drop_left]
  rw[ih fun x hx=>hv x (List.mem_cons_of_mem _ hx)]
  cases hk:keepR r with
  | true=>rw[textF_keep r hk,if_pos (by omega),List.filter_cons_of_pos hk,List.flatMap_cons,encodeRune_enc r hr]
  | false=>rw[textF_drop r hk,if_neg (by omega),List.filter_cons_of_neg (by simp[hk])];rfl
theorem map_dec (l:List UInt8):Lib.mapD textF (decU l)=textL l:=map_enc _ (runes_val l.length l (Nat.le_refl _))
theorem dec_len:∀ (n:Nat) (l:List UInt8),l.length≤n→(decU l).length≤3*l.length:=by
 intro n
 induction n with
 | zero =>
  intro l hl
  have:l=[]:=List.eq_nil_of_length_eq_zero (by omega)
  subst this
  simp[dec_nil]
 | succ n ih =>
  intro l hl
  by_cases hne:l=[]
  ·subst hne;simp[dec_nil]
  ·have hpos:0<l.length:=List.length_pos_iff.2 hne
   rw[dec_step l hne,List.length_append]
   have:=ih (l.drop (max (lookU (natsU l)).1 1)) (by rw[List.length_drop];omega)
   rw[List.length_drop] at this
   split
   ·rename_i hw
    obtain⟨_,h1,h2⟩:=piece_whole l hne hw
    rw[List.length_take]
    omega
   ·simp only[List.length_cons,List.length_nil]
    by_cases hm:max (lookU (natsU l)).1 1≤l.length
    ·omega
    ·omega
theorem text_len (l:List UInt8):(textL l).length≤(decU l).length:=by
 unfold textL decU
 generalize runesU l=rs
 induction rs with
 | nil=>simp
 | cons r rs ih =>
  rw[List.flatMap_cons,List.length_append]
  cases hk:keepR r with
  | true=>rw[List.filter_cons_of_pos hk,List.flatMap_cons,List.length_append];omega
  | false=>rw[List.filter_cons_of_neg (by simp[hk])];omega
theorem index_cons (b:UInt8)(l:List UInt8)(c:UInt8):Lib.index (b :: l) [c]=if b=c then 0 else if Lib.index l [c]=-1 then -1 else Lib.index l [c]+1:=by
 have e:Lib.index (b :: l) [c]=if [c].isPrefixOf (b :: l) then 0 else if Lib.index l [c]==-1 then -1 else Lib.index l [c]+1:=rfl
 rw[e]
 by_cases h:b=c
 ·subst h;simp
 ·have h':¬ c=b:=fun x=>h x.symm
  simp[h,h']
theorem index_no (l:List UInt8)(c:UInt8)(h:c∉l):Lib.index l [c]=-1:=by
 induction l with
 | nil=>rfl
 | cons b l ih =>
  have hb:¬ b=c:=fun e=>h (e▸List.mem_cons_self ..)
  rw[index_cons,if_neg hb,if_pos (ih fun x=>h (List.mem_cons_of_mem _ x))]
theorem index_at (p q:List UInt8)(c:UInt8)(h:c∉p):Lib.index (p++c :: q) [c]=p.length:=by
 induction p with
 | nil=>rw[List.nil_append,index_cons,if_pos rfl];rfl
 | cons b p ih =>
  have hb:¬ b=c:=fun e=>h (e▸List.mem_cons_self ..)
  have:=ih fun x=>h (List.mem_cons_of_mem _ x)
  rw[List.cons_append,index_cons,if_neg hb,this,if_neg (by omega)]
  simp
theorem split_at {l:List UInt8}{c:UInt8}(h:c∈l):∃ p q,l=p++c :: q∧c∉p:=by
 induction l with
 | nil=>cases h
 | cons b l ih =>
  by_cases hb:b=c
  ·subst hb;exact⟨[],l,rfl,by simp⟩
  ·obtain⟨p,q,e,hp⟩:=ih ((List.mem_cons.1 h).resolve_left fun x=>hb x.symm)
   refine⟨b :: p,q,by rw[e];rfl,?_⟩
   intro hx
   rcases List.mem_cons.1 hx with rfl|hx
   ·exact hb rfl
   ·exact hp hx
theorem cut_one (p q:List UInt8)(c:UInt8)(h:c∉p):Lib.cut (p++c :: q) [c]=(p,q,true):=by
 unfold Lib.cut
 rw[index_at p q c h,if_pos (by omega)]
 simp
theorem cut_none (l:List UInt8)(c:UInt8)(h:c∉l):Lib.cut l [c]=(l,[],false):=by
 unfold Lib.cut
 rw[index_no l c h,if_neg (by omega)]
theorem filter_keep (l:List UInt8)(c:UInt8)(h:c∉l):l.filter (fun b=>b !=c)=l:=by
 rw[List.filter_eq_self]
 intro b hb
 simp only[bne_iff_ne,ne_eq]
 intro e
 exact h (e▸hb)
theorem replaceK_one (c:UInt8):∀ (n:Nat) (l:List UInt8) (f:Nat),l.length≤n→l.length<f→Lib.replaceK [c] [] (Lib.countFrom [c] f l) l=l.filter (fun b=>b !=c):=by
 intro n
 induction n with
 | zero =>
  intro l f hl hf
  have:l=[]:=List.eq_nil_of_length_eq_zero (by omega)
  subst this
  obtain⟨g,rfl⟩:∃ g,f=g+1:=⟨f-1,by omega⟩
  rfl
 | succ n ih =>
  intro l f hl hf
  obtain⟨g,rfl⟩:∃ g,f=g+1:=⟨f-1,by omega⟩
  by_cases hc:c∈l
  ·obtain⟨p,q,rfl,hp⟩:=split_at hc
   have hi:=index_at p q c hp
   have hlen:(p++c :: q).length=p.length+q.length+1:=by simp;omega
   have hd:(p++c :: q).drop (p.length+1)=q:=by
    rw[← List.drop_drop,List.drop_left]
    rfl
   have hcount:Lib.countFrom [c] (g+1) (p++c :: q)=Lib.countFrom [c] g q+1:=by
    have e:Lib.countFrom [c] (g+1) (p++c :: q)=if Lib.index (p++c :: q) [c]==-1 then 0 else 1+Lib.countFrom [c] g ((p++c :: q).drop ((Lib.index (p++c :: q) [c]).toNat+1)):=rfl
    rw[e,hi]
    have hm:¬ (((p.length:Nat):Int)==-1)=true:=fun x=>by have:=beq_iff_eq.1 x;omega
    rw[if_neg hm,Int.toNat_natCast,hd]
    omega
   rw[hcount,Lib.replaceK_hit [c] [] _ _ p.length hi]
   have hk:(p++c :: q).drop (p.length+[c].length)=q:=hd
   rw[hk,ih q g (by omega) (by omega),List.take_left,List.append_nil,List.filter_append,filter_keep p c hp,List.filter_cons_of_neg (by simp)]
  ·have hcount:Lib.countFrom [c] (g+1) l=0:=by
    have e:Lib.countFrom [c] (g+1) l=if Lib.index l [c]==-1 then 0 else 1+Lib.countFrom [c] g (l.drop ((Lib.index l [c]).toNat+1)):=rfl
    rw[e,index_no l c hc]
    rfl
   rw[hcount,filter_keep l c hc]
   rfl
theorem replaceAll_one (c:UInt8)(l:List UInt8):Lib.replaceAll l [c] []=l.filter (fun b=>b !=c):=by
 unfold Lib.replaceAll Lib.replace
 rw[if_neg (by simp)]
 have:Lib.replaceNum l [c] (-1)=Lib.countFrom [c] (l.length+1) l:=by
  unfold Lib.replaceNum
  rw[if_pos (Or.inl (by omega))]
  rfl
 rw[this,replaceK_one c l.length l _ (Nat.le_refl _) (by omega)]
def bareL (l:List UInt8):List UInt8:=((textL l).filter (fun b=>b !=9)).filter (fun b=>b !=10)
def linkL (l:List UInt8):List UInt8:=Lib.trimB (bareL l) 32
theorem bare_filter (l:List UInt8):bareL l=(textL l).filter (fun b=>b !=9&&b !=10):=by
 unfold bareL
 rw[List.filter_filter]
 congr 1
 funext b
 cases (b !=9)<;>cases (b !=10)<;>rfl
def smallB (c:UInt8):UInt8:=if 65≤c.toNat∧c.toNat≤90 then UInt8.ofNat (c.toNat+32) else c
theorem smallB_nat (c:UInt8):(smallB c).toNat=if 65≤c.toNat∧c.toNat≤90 then c.toNat+32 else c.toNat:=by
 unfold smallB
 split
 ·rw[ofN _ (by omega)]
 ·rfl
def smallL (l:List UInt8):List UInt8:=l.map smallB
def schemeB (c:UInt8)(i:Nat):Bool :=
 (decide (97≤c.toNat)&&decide (c.toNat≤122))||(decide (0<i)&&((decide (48≤c.toNat)&&decide (c.toNat≤57))||decide (c.toNat=43)||decide (c.toNat=45)||decide (c.toNat=46)))
def schemeAll:Nat→List UInt8→Bool
 | _,[]=>true
 | i,c :: l=>schemeB (smallB c) i&&schemeAll (i+1) l
theorem schemeAll_iff (l:List UInt8):∀ i,schemeAll i l=true↔∀ j c,l[j]?=some c→schemeB (smallB c) (i+j)=true:=by
 induction l with
 | nil=>intro i;simp[schemeAll]
 | cons c l ih =>
  intro i
  rw[schemeAll,Bool.and_eq_true,ih]
  constructor
  ·rintro⟨h1,h2⟩ j d hd
   cases j with
   | zero=>simp at hd;subst hd;exact h1
   | succ j=>simp at hd;have:=h2 j d hd;rwa[show i+(j+1)=i+1+j by omega]
  ·intro h
   refine⟨h 0 c rfl,fun j d hd=>?_⟩
   have:=h (j+1) d (by simpa using hd)
   rwa[show i+(j+1)=i+1+j by omega] at this
def schemeL (l:List UInt8):Option (List UInt8) :=
 if (Lib.cut l [58]).2.2=true∧(Lib.cut l [58]).1≠[]∧schemeAll 0 (Lib.cut l [58]).1=true then some (smallL (Lib.cut l [58]).1) else none
theorem schemeL_cut (p q:List UInt8)(h:(58:UInt8)∉p):schemeL (p++58 :: q)=if p≠[]∧schemeAll 0 p=true then some (smallL p) else none:=by
 unfold schemeL
 rw[cut_one p q 58 h]
 simp
theorem schemeL_none (l:List UInt8)(h:(58:UInt8)∉l):schemeL l=none:=by
 unfold schemeL
 rw[cut_none l 58 h]
 simp
open Go.RowKit PU8
def BytesAt (w:World)(g off:Nat)(L:List UInt8):Prop:=∀ j (h:j<L.length),w.cell? ⟨g,off+j,none⟩=some (.int .u8 (L[j].toNat:Nat))
theorem natsU_drop (L:List UInt8)(k:Nat)(h:k<L.length):natsU (L.drop k)=L[k].toNat :: natsU (L.drop (k+1)):=by
 rw[List.drop_eq_getElem_cons h];rfl
theorem natsU_end (L:List UInt8)(k:Nat)(h:L.length≤k):natsU (L.drop k)=[]:=by
 rw[List.drop_eq_nil_of_le h];rfl
def LookRel (L:List UInt8)(i need m:Nat)(t:Bool)(n lo hi:Nat):Prop :=
 1≤n∧n≤need+1∧i+n≤L.length∧contU (need+1-n) lo hi n (natsU (L.drop (i+n)))=(m,t)
theorem LookRel.stop {L:List UInt8}{i need m:Nat}{t:Bool}{n lo hi:Nat}(h:LookRel L i need m t n lo hi)(hn:n=need+1):m=n∧t=true:=by
 obtain⟨_,_,_,h⟩:=h
 rw[hn,Nat.sub_self] at h
 unfold contU at h
 cases h
 exact⟨hn.symm,rfl⟩
theorem LookRel.short {L:List UInt8}{i need m:Nat}{t:Bool}{n lo hi:Nat}(h:LookRel L i need m t n lo hi)(hn:n≤need)(he:i+n=L.length):m=n∧t=false:=by
 obtain⟨_,_,_,h⟩:=h
 obtain⟨k,hk⟩:∃ k,need+1-n=k+1:=⟨need-n,by omega⟩
 rw[hk,natsU_end _ _ (by omega)] at h
 unfold contU at h
 cases h
 exact⟨rfl,rfl⟩
theorem LookRel.bad {L:List UInt8}{i need m:Nat}{t:Bool}{n lo hi:Nat}(h:LookRel L i need m t n lo hi)(hn:n≤need)(he:i+n<L.length)(hb:L[i+n].toNat<lo∨hi<L[i+n].toNat):m=n∧t=false:=by
 obtain⟨_,_,_,h⟩:=h
 obtain⟨k,hk⟩:∃ k,need+1-n=k+1:=⟨need-n,by omega⟩
 rw[hk,natsU_drop _ _ he] at h
 unfold contU at h
 rw[if_pos hb] at h
 cases h
 exact⟨rfl,rfl⟩
theorem LookRel.next {L:List UInt8}{i need m:Nat}{t:Bool}{n lo hi:Nat}(h:LookRel L i need m t n lo hi)(hn:n≤need)(he:i+n<L.length)(hb:¬ (L[i+n].toNat<lo∨hi<L[i+n].toNat)):LookRel L i need m t (n+1) 128 191:=by
 obtain⟨h1,_,_,h⟩:=h
 obtain⟨k,hk⟩:∃ k,need+1-n=k+1:=⟨need-n,by omega⟩
 rw[hk,natsU_drop _ _ he] at h
 unfold contU at h
 rw[if_neg hb] at h
 refine⟨by omega,by omega,by omega,?_⟩
 rw[show need+1-(n+1)=k by omega]
 exact h
theorem look_two (g off cap i m c:Nat)(t:Bool)(L:List UInt8)(w:World)(hB:Hid (BytesAt w g off L))(hi:i<L.length)(hL:L.length≤140737488355328)(hc:w.cell? ⟨g,off+i,none⟩=some (.int .u8 (c:Nat)))(hcc:194≤c∧c<224)
  (hR:Hid (LookRel L i 1 m t 1 128 191)):Calls Tryz.prog 129 #[.slice (some ⟨g,off,none⟩) L.length cap,.int .i64 i] w fun e w'=>e=.returned (.tuple #[.int .i64 m,.bool t])∧w=w':=by
 have l128:decide ((c:Int)<128)=false:=by simp;omega
 have l194:decide ((c:Int)<194)=false:=by simp;omega
 have l224:decide ((c:Int)<224)=true:=by simp;omega
 have HCC:=Lib.hid hcc
 clear hcc
 go_enter Tryz.func129,Tryz.ntmps129
 go_wp2
 clear hc l128 l194 l224
 go_loop [4,5,8,9,10] (fun r4 r5 l h n=>r4=.int .i64 0∧r5=.bool false∧∃ n' lo hi:Nat,n=.int .i64 n'∧l=.int .u8 lo∧h=.int .u8 hi∧Hid (LookRel L i 1 m t n' lo hi)) (fun _ _ _ _ n=>1+1-(intOf n).toNat)
 case atStart=>exact⟨rfl,rfl,1,128,191,rfl,rfl,rfl,hR⟩
 case round =>
  obtain⟨rfl,rfl,n,lo,hi',rfl,rfl,rfl,hQ⟩:=hrel
  have n1:1≤n:=hQ.out.1
  have n2:n≤1+1:=hQ.out.2.1
  have n3:i+n≤L.length:=hQ.out.2.2.1
  rcases Nat.lt_or_ge 1 n with hn|hn
  ·have hE:=hQ.out.stop (by omega)
   have HE:=Lib.hid hE
   clear hE
   go_wp2
   go_ret2
   refine⟨?_,rfl⟩
   rw[HE.out.1,HE.out.2]
   rfl
  ·rcases Nat.lt_or_ge (i+n) L.length with hlt|hge
   ·have hcell:=hB.out (i+n) hlt
    by_cases hbad:L[i+n].toNat<lo∨hi'<L[i+n].toNat
    ·have HE:=Lib.hid (hQ.out.bad hn hlt hbad)
     have HQ2:=Lib.hid hbad
     generalize L[i+n].toNat=d at hcell hbad
     have hne:((i:Int)+(n:Int)==(L.length:Int))=false:=by rw[beq_eq_false_iff_ne];omega
     rcases Nat.lt_or_ge d lo with hd|hd
     ·clear hbad HQ2
      go_wp2
      go_ret2
      refine⟨?_,rfl⟩
      rw[HE.out.1,HE.out.2]
      rfl
     ·have hd2:hi'<d:=by omega
      clear hbad HQ2
      go_wp2
      go_ret2
      refine⟨?_,rfl⟩
      rw[HE.out.1,HE.out.2]
      rfl
    ·have HE:=Lib.hid (hQ.out.next hn hlt hbad)
     generalize L[i+n].toNat=d at hcell hbad
     have hne:((i:Int)+(n:Int)==(L.length:Int))=false:=by rw[beq_eq_false_iff_ne];omega
     have hd1:lo≤d:=by omega
     have hd2:d≤hi':=by omega
     clear hbad
     go_wp2
     go_round
     case rel=>exact⟨rfl,rfl,n+1,128,191,by go_num,rfl,rfl,HE⟩
     case measure=>simp[intOf];omega
   ·have he:i+n=L.length:=by omega
    have HE:=Lib.hid (hQ.out.short hn he)
    have heq:((i:Int)+(n:Int)==(L.length:Int))=true:=by rw[beq_iff_eq];omega
    clear he
    go_wp2
    go_ret2
    refine⟨?_,rfl⟩
    rw[HE.out.1,HE.out.2]
    rfl
theorem look_e0 (g off cap i m c:Nat)(t:Bool)(L:List UInt8)(w:World)(hB:Hid (BytesAt w g off L))(hi:i<L.length)(hL:L.length≤140737488355328)(hc:w.cell? ⟨g,off+i,none⟩=some (.int .u8 (c:Nat)))(hcc:c=224)
  (hR:Hid (LookRel L i 2 m t 1 160 191)):Calls Tryz.prog 129 #[.slice (some ⟨g,off,none⟩) L.length cap,.int .i64 i] w fun e w'=>e=.returned (.tuple #[.int .i64 m,.bool t])∧w=w':=by
 have l128:decide ((c:Int)<128)=false:=by simp;omega
 have l194:decide ((c:Int)<194)=false:=by simp;omega
 have l224:decide ((c:Int)<224)=false:=by simp;omega
 have q224:((c:Int)==224)=true:=by simp;omega
 have HCC:=Lib.hid hcc
 clear hcc
 go_enter Tryz.func129,Tryz.ntmps129
 go_wp2
 clear hc l128 l194 l224 q224
 go_loop [4,5,8,9,10] (fun r4 r5 l h n=>r4=.int .i64 0∧r5=.bool false∧∃ n' lo hi:Nat,n=.int .i64 n'∧l=.int .u8 lo∧h=.int .u8 hi∧Hid (LookRel L i 2 m t n' lo hi)) (fun _ _ _ _ n=>2+1-(intOf n).toNat)
 case atStart=>exact⟨rfl,rfl,1,160,191,rfl,rfl,rfl,hR⟩
 case round =>
  obtain⟨rfl,rfl,n,lo,hi',rfl,rfl,rfl,hQ⟩:=hrel
  have n1:1≤n:=hQ.out.1
  have n2:n≤2+1:=hQ.out.2.1
  have n3:i+n≤L.length:=hQ.out.2.2.1
  rcases Nat.lt_or_ge 2 n with hn|hn
  ·have hE:=hQ.out.stop (by omega)
   have HE:=Lib.hid hE
   clear hE
   go_wp2
   go_ret2
   refine⟨?_,rfl⟩
   rw[HE.out.1,HE.out.2]
   rfl
  ·rcases Nat.lt_or_ge (i+n) L.length with hlt|hge
   ·have hcell:=hB.out (i+n) hlt
    by_cases hbad:L[i+n].toNat<lo∨hi'<L[i+n].toNat
    ·have HE:=Lib.hid (hQ.out.bad hn hlt hbad)
     have HQ2:=Lib.hid hbad
     generalize L[i+n].toNat=d at hcell hbad
     have hne:((i:Int)+(n:Int)==(L.length:Int))=false:=by rw[beq_eq_false_iff_ne];omega
     rcases Nat.lt_or_ge d lo with hd|hd
     ·clear hbad HQ2
      go_wp2
      go_ret2
      refine⟨?_,rfl⟩
      rw[HE.out.1,HE.out.2]
      rfl
     ·have hd2:hi'<d:=by omega
      clear hbad HQ2
      go_wp2
      go_ret2
      refine⟨?_,rfl⟩
      rw[HE.out.1,HE.out.2]
      rfl
    ·have HE:=Lib.hid (hQ.out.next hn hlt hbad)
     generalize L[i+n].toNat=d at hcell hbad
     have hne:((i:Int)+(n:Int)==(L.length:Int))=false:=by rw[beq_eq_false_iff_ne];omega
     have hd1:lo≤d:=by omega
     have hd2:d≤hi':=by omega
     clear hbad
     go_wp2
     go_round
     case rel=>exact⟨rfl,rfl,n+1,128,191,by go_num,rfl,rfl,HE⟩
     case measure=>simp[intOf];omega
   ·have he:i+n=L.length:=by omega
    have HE:=Lib.hid (hQ.out.short hn he)
    have heq:((i:Int)+(n:Int)==(L.length:Int))=true:=by rw[beq_iff_eq];omega
    clear he
    go_wp2
    go_ret2
    refine⟨?_,rfl⟩
    rw[HE.out.1,HE.out.2]
    rfl
theorem look_ed (g off cap i m c:Nat)(t:Bool)(L:List UInt8)(w:World)(hB:Hid (BytesAt w g off L))(hi:i<L.length)(hL:L.length≤140737488355328)(hc:w.cell? ⟨g,off+i,none⟩=some (.int .u8 (c:Nat)))(hcc:c=237)
  (hR:Hid (LookRel L i 2 m t 1 128 159)):Calls Tryz.prog 129 #[.slice (some ⟨g,off,none⟩) L.length cap,.int .i64 i] w fun e w'=>e=.returned (.tuple #[.int .i64 m,.bool t])∧w=w':=by
 have l128:decide ((c:Int)<128)=false:=by simp;omega
 have l194:decide ((c:Int)<194)=false:=by simp;omega
 have l224:decide ((c:Int)<224)=false:=by simp;omega
 have q224:((c:Int)==224)=false:=by simp;omega
 have q237:((c:Int)==237)=true:=by simp;omega
 have HCC:=Lib.hid hcc
 clear hcc
 go_enter Tryz.func129,Tryz.ntmps129
 go_wp2
 clear hc l128 l194 l224 q224 q237
 go_loop [4,5,8,9,10] (fun r4 r5 l h n=>r4=.int .i64 0∧r5=.bool false∧∃ n' lo hi:Nat,n=.int .i64 n'∧l=.int .u8 lo∧h=.int .u8 hi∧Hid (LookRel L i 2 m t n' lo hi)) (fun _ _ _ _ n=>2+1-(intOf n).toNat)
 case atStart=>exact⟨rfl,rfl,1,128,159,rfl,rfl,rfl,hR⟩
 case round =>
  obtain⟨rfl,rfl,n,lo,hi',rfl,rfl,rfl,hQ⟩:=hrel
  have n1:1≤n:=hQ.out.1
  have n2:n≤2+1:=hQ.out.2.1
  have n3:i+n≤L.length:=hQ.out.2.2.1
  rcases Nat.lt_or_ge 2 n with hn|hn
  ·have hE:=hQ.out.stop (by omega)
   have HE:=Lib.hid hE
   clear hE
   go_wp2
   go_ret2
   refine⟨?_,rfl⟩
   rw[HE.out.1,HE.out.2]
   rfl
  ·rcases Nat.lt_or_ge (i+n) L.length with hlt|hge
   ·have hcell:=hB.out (i+n) hlt
    by_cases hbad:L[i+n].toNat<lo∨hi'<L[i+n].toNat
    ·have HE:=Lib.hid (hQ.out.bad hn hlt hbad)
     have HQ2:=Lib.hid hbad
     generalize L[i+n].toNat=d at hcell hbad
     have hne:((i:Int)+(n:Int)==(L.length:Int))=false:=by rw[beq_eq_false_iff_ne];omega
     rcases Nat.lt_or_ge d lo with hd|hd
     ·clear hbad HQ2
      go_wp2
      go_ret2
      refine⟨?_,rfl⟩
      rw[HE.out.1,HE.out.2]
      rfl
     ·have hd2:hi'<d:=by omega
      clear hbad HQ2
      go_wp2
      go_ret2
      refine⟨?_,rfl⟩
      rw[HE.out.1,HE.out.2]
      rfl
    ·have HE:=Lib.hid (hQ.out.next hn hlt hbad)
     generalize L[i+n].toNat=d at hcell hbad
     have hne:((i:Int)+(n:Int)==(L.length:Int))=false:=by rw[beq_eq_false_iff_ne];omega
     have hd1:lo≤d:=by omega
     have hd2:d≤hi':=by omega
     clear hbad
     go_wp2
     go_round
     case rel=>exact⟨rfl,rfl,n+1,128,191,by go_num,rfl,rfl,HE⟩
     case measure=>simp[intOf];omega
   ·have he:i+n=L.length:=by omega
    have HE:=Lib.hid (hQ.out.short hn he)
    have heq:((i:Int)+(n:Int)==(L.length:Int))=true:=by rw[beq_iff_eq];omega
    clear he
    go_wp2
    go_ret2
    refine⟨?_,rfl⟩
    rw[HE.out.1,HE.out.2]
    rfl
theorem look_three (g off cap i m c:Nat)(t:Bool)(L:List UInt8)(w:World)(hB:Hid (BytesAt w g off L))(hi:i<L.length)(hL:L.length≤140737488355328)(hc:w.cell? ⟨g,off+i,none⟩=some (.int .u8 (c:Nat)))(hcc:225≤c∧c<240∧c≠237)
  (hR:Hid (LookRel L i 2 m t 1 128 191)):Calls Tryz.prog 129 #[.slice (some ⟨g,off,none⟩) L.length cap,.int .i64 i] w fun e w'=>e=.returned (.tuple #[.int .i64 m,.bool t])∧w=w':=by
 have l128:decide ((c:Int)<128)=false:=by simp;omega
 have l194:decide ((c:Int)<194)=false:=by simp;omega
 have l224:decide ((c:Int)<224)=false:=by simp;omega
 have l240:decide ((c:Int)<240)=true:=by simp;omega
 have q224:((c:Int)==224)=false:=by simp;omega
 have q237:((c:Int)==237)=false:=by simp;omega
 have HCC:=Lib.hid hcc
 clear hcc
 go_enter Tryz.func129,Tryz.ntmps129
 go_wp2
 clear hc l128 l194 l224 l240 q224 q237
 go_loop [4,5,8,9,10] (fun r4 r5 l h n=>r4=.int .i64 0∧r5=.bool false∧∃ n' lo hi:Nat,n=.int .i64 n'∧l=.int .u8 lo∧h=.int .u8 hi∧Hid (LookRel L i 2 m t n' lo hi)) (fun _ _ _ _ n=>2+1-(intOf n).toNat)
 case atStart=>exact⟨rfl,rfl,1,128,191,rfl,rfl,rfl,hR⟩
 case round =>
  obtain⟨rfl,rfl,n,lo,hi',rfl,rfl,rfl,hQ⟩:=hrel
  have n1:1≤n:=hQ.out.1
  have n2:n≤2+1:=hQ.out.2.1
  have n3:i+n≤L.length:=hQ.out.2.2.1
  rcases Nat.lt_or_ge 2 n with hn|hn
  ·have hE:=hQ.out.stop (by omega)
   have HE:=Lib.hid hE
   clear hE
   go_wp2
   go_ret2
   refine⟨?_,rfl⟩
   rw[HE.out.1,HE.out.2]
   rfl
  ·rcases Nat.lt_or_ge (i+n) L.length with hlt|hge
   ·have hcell:=hB.out (i+n) hlt
    by_cases hbad:L[i+n].toNat<lo∨hi'<L[i+n].toNat
    ·have HE:=Lib.hid (hQ.out.bad hn hlt hbad)
     have HQ2:=Lib.hid hbad
     generalize L[i+n].toNat=d at hcell hbad
     have hne:((i:Int)+(n:Int)==(L.length:Int))=false:=by rw[beq_eq_false_iff_ne];omega
     rcases Nat.lt_or_ge d lo with hd|hd
     ·clear hbad HQ2
      go_wp2
      go_ret2
      refine⟨?_,rfl⟩
      rw[HE.out.1,HE.out.2]
      rfl
     ·have hd2:hi'<d:=by omega
      clear hbad HQ2
      go_wp2
      go_ret2
      refine⟨?_,rfl⟩
      rw[HE.out.1,HE.out.2]
      rfl
    ·have HE:=Lib.hid (hQ.out.next hn hlt hbad)
     generalize L[i+n].toNat=d at hcell hbad
     have hne:((i:Int)+(n:Int)==(L.length:Int))=false:=by rw[beq_eq_false_iff_ne];omega
     have hd1:lo≤d:=by omega
     have hd2:d≤hi':=by omega
     clear hbad
     go_wp2
     go_round
     case rel=>exact⟨rfl,rfl,n+1,128,191,by go_num,rfl,rfl,HE⟩
     case measure=>simp[intOf];omega
   ·have he:i+n=L.length:=by omega
    have HE:=Lib.hid (hQ.out.short hn he)
    have heq:((i:Int)+(n:Int)==(L.length:Int))=true:=by rw[beq_iff_eq];omega
    clear he
    go_wp2
    go_ret2
    refine⟨?_,rfl⟩
    rw[HE.out.1,HE.out.2]
    rfl
theorem look_f0 (g off cap i m c:Nat)(t:Bool)(L:List UInt8)(w:World)(hB:Hid (BytesAt w g off L))(hi:i<L.length)(hL:L.length≤140737488355328)(hc:w.cell? ⟨g,off+i,none⟩=some (.int .u8 (c:Nat)))(hcc:c=240)
  (hR:Hid (LookRel L i 3 m t 1 144 191)):Calls Tryz.prog 129 #[.slice (some ⟨g,off,none⟩) L.length cap,.int .i64 i] w fun e w'=>e=.returned (.tuple #[.int .i64 m,.bool t])∧w=w':=by
 have l128:decide ((c:Int)<128)=false:=by simp;omega
 have l194:decide ((c:Int)<194)=false:=by simp;omega
 have l224:decide ((c:Int)<224)=false:=by simp;omega
 have l240:decide ((c:Int)<240)=false:=by simp;omega
 have q224:((c:Int)==224)=false:=by simp;omega
 have q237:((c:Int)==237)=false:=by simp;omega
 have q240:((c:Int)==240)=true:=by simp;omega
 have HCC:=Lib.hid hcc
 clear hcc
 go_enter Tryz.func129,Tryz.ntmps129
 go_wp2
 clear hc l128 l194 l224 l240 q224 q237 q240
 go_loop [4,5,8,9,10] (fun r4 r5 l h n=>r4=.int .i64 0∧r5=.bool false∧∃ n' lo hi:Nat,n=.int .i64 n'∧l=.int .u8 lo∧h=.int .u8 hi∧Hid (LookRel L i 3 m t n' lo hi)) (fun _ _ _ _ n=>3+1-(intOf n).toNat)
 case atStart=>exact⟨rfl,rfl,1,144,191,rfl,rfl,rfl,hR⟩
 case round =>
  obtain⟨rfl,rfl,n,lo,hi',rfl,rfl,rfl,hQ⟩:=hrel
  have n1:1≤n:=hQ.out.1
  have n2:n≤3+1:=hQ.out.2.1
  have n3:i+n≤L.length:=hQ.out.2.2.1
  rcases Nat.lt_or_ge 3 n with hn|hn
  ·have hE:=hQ.out.stop (by omega)
   have HE:=Lib.hid hE
   clear hE
   go_wp2
   go_ret2
   refine⟨?_,rfl⟩
   rw[HE.out.1,HE.out.2]
   rfl
  ·rcases Nat.lt_or_ge (i+n) L.length with hlt|hge
   ·have hcell:=hB.out (i+n) hlt
    by_cases hbad:L[i+n].toNat<lo∨hi'<L[i+n].toNat
    ·have HE:=Lib.hid (hQ.out.bad hn hlt hbad)
     have HQ2:=Lib.hid hbad
     generalize L[i+n].toNat=d at hcell hbad
     have hne:((i:Int)+(n:Int)==(L.length:Int))=false:=by rw[beq_eq_false_iff_ne];omega
     rcases Nat.lt_or_ge d lo with hd|hd
     ·clear hbad HQ2
      go_wp2
      go_ret2
      refine⟨?_,rfl⟩
      rw[HE.out.1,HE.out.2]
      rfl
     ·have hd2:hi'<d:=by omega
      clear hbad HQ2
      go_wp2
      go_ret2
      refine⟨?_,rfl⟩
      rw[HE.out.1,HE.out.2]
      rfl
    ·have HE:=Lib.hid (hQ.out.next hn hlt hbad)
     generalize L[i+n].toNat=d at hcell hbad
     have hne:((i:Int)+(n:Int)==(L.length:Int))=false:=by rw[beq_eq_false_iff_ne];omega
     have hd1:lo≤d:=by omega
     have hd2:d≤hi':=by omega
     clear hbad
     go_wp2
     go_round
     case rel=>exact⟨rfl,rfl,n+1,128,191,by go_num,rfl,rfl,HE⟩
     case measure=>simp[intOf];omega
   ·have he:i+n=L.length:=by omega
    have HE:=Lib.hid (hQ.out.short hn he)
    have heq:((i:Int)+(n:Int)==(L.length:Int))=true:=by rw[beq_iff_eq];omega
    clear he
    go_wp2
    go_ret2
    refine⟨?_,rfl⟩
    rw[HE.out.1,HE.out.2]
    rfl
theorem look_four (g off cap i m c:Nat)(t:Bool)(L:List UInt8)(w:World)(hB:Hid (BytesAt w g off L))(hi:i<L.length)(hL:L.length≤140737488355328)(hc:w.cell? ⟨g,off+i,none⟩=some (.int .u8 (c:Nat)))(hcc:241≤c∧c<244)
  (hR:Hid (LookRel L i 3 m t 1 128 191)):Calls Tryz.prog 129 #[.slice (some ⟨g,off,none⟩) L.length cap,.int .i64 i] w fun e w'=>e=.returned (.tuple #[.int .i64 m,.bool t])∧w=w':=by
 have l128:decide ((c:Int)<128)=false:=by simp;omega
 have l194:decide ((c:Int)<194)=false:=by simp;omega
 have l224:decide ((c:Int)<224)=false:=by simp;omega
 have l240:decide ((c:Int)<240)=false:=by simp;omega
 have l244:decide ((c:Int)<244)=true:=by simp;omega
 have q224:((c:Int)==224)=false:=by simp;omega
 have q237:((c:Int)==237)=false:=by simp;omega
 have q240:((c:Int)==240)=false:=by simp;omega
 have HCC:=Lib.hid hcc
 clear hcc
 go_enter Tryz.func129,Tryz.ntmps129
 go_wp2
 clear hc l128 l194 l224 l240 l244 q224 q237 q240
 go_loop [4,5,8,9,10] (fun r4 r5 l h n=>r4=.int .i64 0∧r5=.bool false∧∃ n' lo hi:Nat,n=.int .i64 n'∧l=.int .u8 lo∧h=.int .u8 hi∧Hid (LookRel L i 3 m t n' lo hi)) (fun _ _ _ _ n=>3+1-(intOf n).toNat)
 case atStart=>exact⟨rfl,rfl,1,128,191,rfl,rfl,rfl,hR⟩
 case round =>
  obtain⟨rfl,rfl,n,lo,hi',rfl,rfl,rfl,hQ⟩:=hrel
  have n1:1≤n:=hQ.out.1
  have n2:n≤3+1:=hQ.out.2.1
  have n3:i+n≤L.length:=hQ.out.2.2.1
  rcases Nat.lt_or_ge 3 n with hn|hn
  ·have hE:=hQ.out.stop (by omega)
   have HE:=Lib.hid hE
   clear hE
   go_wp2
   go_ret2
   refine⟨?_,rfl⟩
   rw[HE.out.1,HE.out.2]
   rfl
  ·rcases Nat.lt_or_ge (i+n) L.length with hlt|hge
   ·have hcell:=hB.out (i+n) hlt
    by_cases hbad:L[i+n].toNat<lo∨hi'<L[i+n].toNat
    ·have HE:=Lib.hid (hQ.out.bad hn hlt hbad)
     have HQ2:=Lib.hid hbad
     generalize L[i+n].toNat=d at hcell hbad
     have hne:((i:Int)+(n:Int)==(L.length:Int))=false:=by rw[beq_eq_false_iff_ne];omega
     rcases Nat.lt_or_ge d lo with hd|hd
     ·clear hbad HQ2
      go_wp2
      go_ret2
      refine⟨?_,rfl⟩
      rw[HE.out.1,HE.out.2]
      rfl
     ·have hd2:hi'<d:=by omega
      clear hbad HQ2
      go_wp2
      go_ret2
      refine⟨?_,rfl⟩
      rw[HE.out.1,HE.out.2]
      rfl
    ·have HE:=Lib.hid (hQ.out.next hn hlt hbad)
     generalize L[i+n].toNat=d at hcell hbad
     have hne:((i:Int)+(n:Int)==(L.length:Int))=false:=by rw[beq_eq_false_iff_ne];omega
     have hd1:lo≤d:=by omega
     have hd2:d≤hi':=by omega
     clear hbad
     go_wp2
     go_round
     case rel=>exact⟨rfl,rfl,n+1,128,191,by go_num,rfl,rfl,HE⟩
     case measure=>simp[intOf];omega
   ·have he:i+n=L.length:=by omega
    have HE:=Lib.hid (hQ.out.short hn he)
    have heq:((i:Int)+(n:Int)==(L.length:Int))=true:=by rw[beq_iff_eq];omega
    clear he
    go_wp2
    go_ret2
    refine⟨?_,rfl⟩
    rw[HE.out.1,HE.out.2]
    rfl
theorem look_f4 (g off cap i m c:Nat)(t:Bool)(L:List UInt8)(w:World)(hB:Hid (BytesAt w g off L))(hi:i<L.length)(hL:L.length≤140737488355328)(hc:w.cell? ⟨g,off+i,none⟩=some (.int .u8 (c:Nat)))(hcc:c=244)
  (hR:Hid (LookRel L i 3 m t 1 128 143)):Calls Tryz.prog 129 #[.slice (some ⟨g,off,none⟩) L.length cap,.int .i64 i] w fun e w'=>e=.returned (.tuple #[.int .i64 m,.bool t])∧w=w':=by
 have l128:decide ((c:Int)<128)=false:=by simp;omega
 have l194:decide ((c:Int)<194)=false:=by simp;omega
 have l224:decide ((c:Int)<224)=false:=by simp;omega
 have l240:decide ((c:Int)<240)=false:=by simp;omega
 have l244:decide ((c:Int)<244)=false:=by simp;omega
 have q224:((c:Int)==224)=false:=by simp;omega
 have q237:((c:Int)==237)=false:=by simp;omega
 have q240:((c:Int)==240)=false:=by simp;omega
 have q244:((c:Int)==244)=true:=by simp;omega
 have HCC:=Lib.hid hcc
 clear hcc
 go_enter Tryz.func129,Tryz.ntmps129
 go_wp2
 clear hc l128 l194 l224 l240 l244 q224 q237 q240 q244
 go_loop [4,5,8,9,10] (fun r4 r5 l h n=>r4=.int .i64 0∧r5=.bool false∧∃ n' lo hi:Nat,n=.int .i64 n'∧l=.int .u8 lo∧h=.int .u8 hi∧Hid (LookRel L i 3 m t n' lo hi)) (fun _ _ _ _ n=>3+1-(intOf n).toNat)
 case atStart=>exact⟨rfl,rfl,1,128,143,rfl,rfl,rfl,hR⟩
 case round =>
  obtain⟨rfl,rfl,n,lo,hi',rfl,rfl,rfl,hQ⟩:=hrel
  have n1:1≤n:=hQ.out.1
  have n2:n≤3+1:=hQ.out.2.1
  have n3:i+n≤L.length:=hQ.out.2.2.1
  rcases Nat.lt_or_ge 3 n with hn|hn
  ·have hE:=hQ.out.stop (by omega)
   have HE:=Lib.hid hE
   clear hE
   go_wp2
   go_ret2
   refine⟨?_,rfl⟩
   rw[HE.out.1,HE.out.2]
   rfl
  ·rcases Nat.lt_or_ge (i+n) L.length with hlt|hge
   ·have hcell:=hB.out (i+n) hlt
    by_cases hbad:L[i+n].toNat<lo∨hi'<L[i+n].toNat
    ·have HE:=Lib.hid (hQ.out.bad hn hlt hbad)
     have HQ2:=Lib.hid hbad
     generalize L[i+n].toNat=d at hcell hbad
     have hne:((i:Int)+(n:Int)==(L.length:Int))=false:=by rw[beq_eq_false_iff_ne];omega
     rcases Nat.lt_or_ge d lo with hd|hd
     ·clear hbad HQ2
      go_wp2
      go_ret2
      refine⟨?_,rfl⟩
      rw[HE.out.1,HE.out.2]
      rfl
     ·have hd2:hi'<d:=by omega
      clear hbad HQ2
      go_wp2
      go_ret2
      refine⟨?_,rfl⟩
      rw[HE.out.1,HE.out.2]
      rfl
    ·have HE:=Lib.hid (hQ.out.next hn hlt hbad)
     generalize L[i+n].toNat=d at hcell hbad
     have hne:((i:Int)+(n:Int)==(L.length:Int))=false:=by rw[beq_eq_false_iff_ne];omega
     have hd1:lo≤d:=by omega
     have hd2:d≤hi':=by omega
     clear hbad
     go_wp2
     go_round
     case rel=>exact⟨rfl,rfl,n+1,128,191,by go_num,rfl,rfl,HE⟩
     case measure=>simp[intOf];omega
   ·have he:i+n=L.length:=by omega
    have HE:=Lib.hid (hQ.out.short hn he)
    have heq:((i:Int)+(n:Int)==(L.length:Int))=true:=by rw[beq_iff_eq];omega
    clear he
    go_wp2
    go_ret2
    refine⟨?_,rfl⟩
    rw[HE.out.1,HE.out.2]
    rfl
end Go.Proofs.YtcfgbdhpcboikaaGreatDoor
