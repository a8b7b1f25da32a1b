/-
What has its form has it once for all: Text of Text, Link of Link. No program in sight.
-/
import Derived.Test.YtcfgbdhpcboikaaGreatDoorLinkW
namespace Go.Proofs.YtcfgbdhpcboikaaGreatDoor
open Go.Lib (hid)
set_option maxHeartbeats 1000000
set_option maxRecDepth 100000
open PU8
theorem lT {n:Nat}:n≤n:=Nat.le_refl n
theorem qV {a w v:World}(h:Go.RowKit.Hid (Go.RowKit.Below a.heap.size a w))(b:Go.RowKit.Below w.heap.size w v):Go.RowKit.Hid (Go.RowKit.Below a.heap.size a v):=hid (h.out.trans (b.mono h.out.size))
theorem aDz (r:Nat)(h:Val r):bE (bK r)=encN r:=by
 obtain⟨h1,h2⟩:=h;unfold bE bK;rw[List.map_map];conv=>rhs;rw[←List.map_id (encN r)]
 apply List.map_congr_left;intro c hc;have hlt:c<256:=by
  unfold encN at hc;repeat' split at hc
  all_goals simp only[List.mem_cons,List.mem_nil_iff,or_false]at hc
  all_goals omega
 simp only[Function.comp];exact ofN c hlt
theorem yA (a b:List UInt8):bE (a++b)=bE a++bE b:=by simp[bE]
theorem aDb (lo hi n c:Nat)(r:List Nat)(h:¬(c<lo∨hi<c)):contU 1 lo hi n (c :: r)=(n+1,true):=by
 unfold contU;rw[if_neg h];rfl
theorem tI (lo hi n c d:Nat)(r:List Nat)(h:¬(c<lo∨hi<c))(h2:¬(d<0x80∨0xbf<d)):contU 2 lo hi n (c :: d :: r)=(n+2,true):=by
 unfold contU;rw[if_neg h,aDb _ _ _ _ _ h2]
theorem tH (lo hi n c d e:Nat)(r:List Nat)(h:¬(c<lo∨hi<c))(h2:¬(d<0x80∨0xbf<d))(h3:¬(e<0x80∨0xbf<e)):contU 3 lo hi n (c :: d :: e :: r)=(n+3,true):=by
 unfold contU;rw[if_neg h,tI _ _ _ _ _ _ h2 h3]
theorem aJo (r:Nat)(h:Val r)(t:List Nat):lookU (encN r++t)=((encN r).length,true):=by
 obtain⟨h1,h2⟩:=h;by_cases a:r<0x80
 ·have e:encN r=[r]:=by unfold encN;rw[if_pos a]
  rw[e,List.singleton_append,look_cons,if_pos a];rfl
 ·by_cases b:r<0x800
  ·rw[enc_two r (by omega) b];simp only[List.cons_append,List.nil_append];rw[look_cons,if_neg (by omega),if_neg (by omega),if_pos (by omega),aDb _ _ _ _ _ (by omega)];rfl
  ·by_cases c:r<0x10000
   ·rw[enc_three r (by omega) c];simp only[List.cons_append,List.nil_append];rw[look_cons,if_neg (by omega),if_neg (by omega),if_neg (by omega)];by_cases d:r / 4096=0
    ·rw[if_pos (by omega),tI _ _ _ _ _ _ (by omega) (by omega)];rfl
    ·rw[if_neg (by omega)];by_cases f:r / 4096=13
     ·rw[if_pos (by omega),tI _ _ _ _ _ _ (by omega) (by omega)];rfl
     ·rw[if_neg (by omega),if_pos (by omega),tI _ _ _ _ _ _ (by omega) (by omega)];rfl
   ·rw[enc_four r (by omega)];simp only[List.cons_append,List.nil_append];rw[look_cons,if_neg (by omega),if_neg (by omega),if_neg (by omega),if_neg (by omega),if_neg (by omega),if_neg (by omega)];by_cases d:r / 262144=0
    ·rw[if_pos (by omega),tH _ _ _ _ _ _ _ (by omega) (by omega) (by omega)];rfl
    ·rw[if_neg (by omega)];by_cases f:r / 262144<4
     ·rw[if_pos (by omega),tH _ _ _ _ _ _ _ (by omega) (by omega) (by omega)];rfl
     ·rw[if_neg (by omega),if_pos (by omega),tH _ _ _ _ _ _ _ (by omega) (by omega) (by omega)];rfl
theorem aKL (r v:Nat)(h:encN r=encN v):r=v:=by
 unfold encN at h;repeat' split at h
 all_goals simp only[List.cons.injEq,and_true,reduceCtorEq,and_false]at h
 all_goals omega
theorem aHx (r:Nat)(h:Val r)(t:List UInt8):(pieceU (bE (bK r++t))).2.1=r∧(pieceU (bE (bK r++t))).1=(bK r).length:=by
 have hl:lookU (bE (bK r++t))=((encN r).length,true):=by
  rw[yA,aDz r h];exact aJo r h _
 have s:=sameU (bE (bK r++t)) (mD (aAc r t));have hn:=s.num;rw[hl]at hn
 have h1:=(wW r).1;have e1:(bK r).length=(encN r).length:=by unfold bK;simp
 have hn':(pieceU (bE (bK r++t))).1=(bK r).length:=by
  rw[hn,e1];simp only;omega
 refine⟨?_,hn'⟩;have hv:=(s.val (by rw[hl])).1;have ht:(bE (bK r++t)).take (encN r).length=encN r:=by
  rw[yA,aDz r h,List.take_left]
 rw[hn',e1,ht]at hv
 exact aKL _ _ hv
theorem aHU (rs:List Nat)(h:∀r∈rs,Val r):mZ (rs.flatMap bK)=rs:=by
 induction rs with
 | nil=>rfl
 | cons r rs ih =>
  have hr:=h r (List.mem_cons_self ..);rw[List.flatMap_cons,uF _ (aAc r _)];obtain⟨e1,e2⟩:=aHx r hr (rs.flatMap bK);rw[e1,e2,List.drop_left,ih fun x hx=>h x (List.mem_cons_of_mem _ hx)]
def kV (l:List UInt8):Prop:=∃rs:List Nat,l=rs.flatMap bK∧∀r∈rs,Val r∧mW r=true
theorem wF (l:List UInt8):kV (cT l) :=
 ⟨_,rfl,fun r hr=>by
  obtain⟨h1,h2⟩:=List.mem_filter.1 hr;exact⟨aB5 l.length l lT r h1,h2⟩⟩
theorem rH {l:List UInt8}(h:kV l):cT l=l:=by
 obtain⟨rs,rfl,hrs⟩:=h;unfold cT;rw[aHU rs fun r hr=>(hrs r hr).1,List.filter_eq_self.2 fun r hr=>(hrs r hr).2]
theorem aIa (l:List UInt8):cT (cT l)=cT l:=rH (wF l)
theorem qJ (r:Nat)(h:r<128):bK r=[UInt8.ofNat r]:=by unfold bK encN;rw[if_pos (by omega)];rfl
theorem yT (r:Nat)(h:128≤r)(h2:r≤0x10ffff):∀b∈bK r,128≤b.toNat:=by
 intro b hb;unfold bK at hb;obtain⟨c,hc,rfl⟩:=List.mem_map.1 hb;unfold encN at hc;rw[if_neg (by omega)]at hc
 repeat' split at hc
 all_goals simp only[List.mem_cons,List.mem_nil_iff,or_false]at hc
 all_goals (rw[ofN c (by omega)];omega)
theorem aAh (c:Nat)(hc:c<128)(rs:List Nat)(h:∀r∈rs,Val r):(rs.flatMap bK).filter (fun b=>b !=UInt8.ofNat c)=(rs.filter (fun r=>r !=c)).flatMap bK:=by
 induction rs with
 | nil=>rfl
 | cons r rs ih =>
  have hr:=h r (List.mem_cons_self ..);rw[List.flatMap_cons,List.filter_append,ih fun x hx=>h x (List.mem_cons_of_mem _ hx)];by_cases hl:r<128
  ·rw[qJ r hl];by_cases e:r=c
   ·subst e;rw[List.filter_cons_of_neg (by simp),List.filter_cons_of_neg (by simp)];rfl
   ·have hne:UInt8.ofNat r≠UInt8.ofNat c:=by
     intro e2;have:=congrArg UInt8.toNat e2;rw[ofN r (by omega),ofN c (by omega)]at this
     exact e this
    rw[List.filter_cons_of_pos (by simpa using hne),List.filter_cons_of_pos (by simpa using e),List.flatMap_cons,qJ r hl];rfl
  ·have hkeep:(bK r).filter (fun b=>b !=UInt8.ofNat c)=bK r:=by
    rw[List.filter_eq_self];intro b hb;have:=yT r (by omega) hr.2 b hb;simp only[bne_iff_ne,ne_eq];intro e2;rw[e2,ofN c (by omega)]at this
    omega
   rw[hkeep,List.filter_cons_of_pos (by simp;omega),List.flatMap_cons]
theorem aJd (r c:Nat)(hc:c<128)(h:Val r)(hne:r≠c)(t:List UInt8):∀b,(bK r++t).head?=some b→b≠UInt8.ofNat c:=by
 intro b hb e;have hm:b∈bK r:=by
  cases he:bK r with
  | nil=>have:=(wW r).1;rw[he]at this;simp at this
  | cons x l=>rw[he]at hb;simp at hb;subst hb;exact List.mem_cons_self ..
 by_cases hl:r<128
 ·rw[qJ r hl]at hm
  simp at hm;rw[hm]at e
  have:=congrArg UInt8.toNat e;rw[ofN r (by omega),ofN c (by omega)]at this
  exact hne this
 ·have:=yT r (by omega) h.2 b hm;rw[e,ofN c (by omega)]at this
  omega
theorem aCp (c:Nat)(hc:c<128)(rs:List Nat)(h:∀r∈rs,Val r):(rs.flatMap bK).dropWhile (· == UInt8.ofNat c)=(rs.dropWhile (· == c)).flatMap bK:=by
 induction rs with
 | nil=>rfl
 | cons r rs ih =>
  have hr:=h r (List.mem_cons_self ..);by_cases e:r=c
  ·subst e;rw[List.flatMap_cons,qJ r hc,List.singleton_append,List.dropWhile_cons_of_pos (by simp),List.dropWhile_cons_of_pos (by simp)];exact ih fun x hx=>h x (List.mem_cons_of_mem _ hx)
  ·rw[List.dropWhile_cons_of_neg (by simpa using e),List.flatMap_cons];have hh:=aJd r c hc hr e (rs.flatMap bK);cases hl:bK r++rs.flatMap bK with
   | nil=>exact absurd hl (aAc r _)
   | cons b l =>
    rw[hl]at hh
    rw[List.dropWhile_cons_of_neg];simpa using hh b rfl
theorem zK {l:List UInt8}(h:kV l):kV (Lib.trimLeftB l 32):=by
 obtain⟨rs,rfl,hrs⟩:=h;refine⟨rs.dropWhile (· == 32),aCp 32 (by omega) rs fun r hr=>(hrs r hr).1,fun r hr=>hrs r ?_⟩;exact(List.dropWhile_sublist _).subset hr
theorem gD (l:List UInt8)(b c:UInt8):Lib.trimRightB (l++[b]) c=if b=c then Lib.trimRightB l c else l++[b]:=by
 unfold Lib.trimRightB;rw[List.reverse_append];simp only[List.reverse_cons,List.reverse_nil,List.nil_append,List.singleton_append];by_cases h:b=c
 ·rw[if_pos h,List.dropWhile_cons_of_pos (by simpa using h)]
 ·rw[if_neg h,List.dropWhile_cons_of_neg (by simpa using h)];simp
theorem aBB (l m:List UInt8)(c:UInt8)(hm:m≠[])(h:∀b∈m,b≠c):Lib.trimRightB (l++m) c=l++m:=by
 obtain⟨m',b,rfl⟩:∃m' b,m=m'++[b]:=⟨m.dropLast,m.getLast hm,(List.dropLast_concat_getLast hm).symm⟩
 rw[←List.append_assoc,gD,if_neg (h b (by simp))]
theorem aCd {α : Type}{P:List α → Prop}(h0:P [])(h1:∀l x,P l→P (l++[x]))(l:List α):P l:=by
 have:∀n (l:List α),l.length=n→P l:=by
  intro n;induction n with
  | zero =>
   intro l hl;have:=List.eq_nil_of_length_eq_zero hl;subst this;exact h0
  | succ n ih =>
   intro l hl;have hne:l≠[]:=by intro e;subst e;simp at hl
   rw[←List.dropLast_concat_getLast hne];exact h1 _ _ (ih _ (by rw[List.length_dropLast];omega))
 exact this l.length l rfl
theorem xM {l:List UInt8}(h:kV l):kV (Lib.trimRightB l 32):=by
 obtain⟨rs,rfl,hrs⟩:=h;revert hrs;refine aCd (P:=fun rs=>(∀r∈rs,Val r∧mW r=true)→kV (Lib.trimRightB (rs.flatMap bK) 32)) ?_ ?_ rs
 ·intro _;exact⟨[],rfl,fun r hr=>by cases hr⟩
 ·intro rs r ih hrs;have hr:=hrs r (by simp);have hrs':∀x∈rs,Val x∧mW x=true:=fun x hx=>hrs x (by simp[hx])
  rw[List.flatMap_append,List.flatMap_singleton];by_cases e:r=32
  ·subst e;have e32:bK 32=[32]:=by decide
   rw[e32,gD,if_pos rfl];exact ih hrs'
  ·rw[aBB _ _ 32 (by intro h0;have:=(wW r).1;rw[h0]at this;simp at this)]
   ·refine⟨rs++[r],by rw[List.flatMap_append,List.flatMap_singleton],hrs⟩
   ·intro b hb e2;by_cases hl:r<128
    ·rw[qJ r hl]at hb
     simp at hb;rw[hb]at e2
     have:=congrArg UInt8.toNat e2;rw[ofN r (by omega)]at this
     exact e this
    ·have:=yT r (by omega) hr.1.2 b hb;rw[e2]at this
     exact absurd this (by decide)
theorem aC7 (l:List UInt8):kV (kX l):=by
 obtain⟨rs,e,hrs⟩:=wF l;unfold kX;rw[e];have h9:=aAh 9 (by omega) rs fun r hr=>(hrs r hr).1
 have e9:UInt8.ofNat 9=9:=rfl;rw[e9]at h9
 rw[h9];have h10:=aAh 10 (by omega) (rs.filter (fun r=>r !=9)) fun r hr=>(hrs r (List.mem_filter.1 hr).1).1
 have e10:UInt8.ofNat 10=10:=rfl;rw[e10]at h10
 rw[h10];exact⟨_,rfl,fun r hr=>hrs r (List.mem_filter.1 (List.mem_filter.1 hr).1).1⟩
theorem aDv (l:List UInt8):kV (dG l):=by
 unfold dG Lib.trimB;exact zK (xM (aC7 l))
theorem aH9 (l:List UInt8):cT (dG l)=dG l:=rH (aDv l)
theorem aCi (l:List UInt8)(c:UInt8):(Lib.trimB l c).Sublist l:=by
 unfold Lib.trimB Lib.trimLeftB Lib.trimRightB;refine(List.dropWhile_sublist _).trans ?_;have:=(List.dropWhile_sublist (fun x=>x==c) (l:=l.reverse)).reverse;rwa[List.reverse_reverse]at this
theorem aJn (l:List UInt8):(dG l).Sublist (cT l):=by
 unfold dG;refine(aCi _ _).trans ?_;unfold kX;exact(List.filter_sublist).trans List.filter_sublist
theorem aBA (l:List UInt8)(c:UInt8):Lib.trimRightB (Lib.trimRightB l c) c=Lib.trimRightB l c:=by
 refine aCd (P:=fun l=>Lib.trimRightB (Lib.trimRightB l c) c=Lib.trimRightB l c) rfl ?_ l;intro l b ih;rw[gD];by_cases h:b=c
 ·rw[if_pos h];exact ih
 ·rw[if_neg h,gD,if_neg h]
theorem aCK (l:List UInt8)(c:UInt8):Lib.trimLeftB (Lib.trimLeftB l c) c=Lib.trimLeftB l c:=by
 unfold Lib.trimLeftB;induction l with
 | nil=>rfl
 | cons b l ih =>
  by_cases h:b=c
  ·rw[List.dropWhile_cons_of_pos (by simpa using h)];exact ih
  ·rw[List.dropWhile_cons_of_neg (by simpa using h),List.dropWhile_cons_of_neg (by simpa using h)]
theorem aBC (l:List UInt8)(c:UInt8)(h:Lib.trimRightB l c=l):Lib.trimRightB (Lib.trimLeftB l c) c=Lib.trimLeftB l c:=by
 unfold Lib.trimLeftB;induction l with
 | nil=>rfl
 | cons b l ih =>
  by_cases hb:b=c
  ·rw[List.dropWhile_cons_of_pos (by simpa using hb)];apply ih;by_cases hl:l=[]
   ·subst hl;rfl
   ·obtain⟨m,x,rfl⟩:∃m x,l=m++[x]:=⟨l.dropLast,l.getLast hl,(List.dropLast_concat_getLast hl).symm⟩
    rw[←List.cons_append,gD]at h
    by_cases hx:x=c
    ·rw[if_pos hx]at h
     have hle:(Lib.trimRightB (b :: m) c).length≤(b :: m).length:=by
      unfold Lib.trimRightB;rw[List.length_reverse];exact Nat.le_trans (List.dropWhile_sublist _).length_le (by simp)
     rw[h]at hle
     simp at hle;omega
    ·rw[gD,if_neg hx]
  ·rw[List.dropWhile_cons_of_neg (by simpa using hb)];exact h
theorem aF7 (l:List UInt8)(c:UInt8):Lib.trimB (Lib.trimB l c) c=Lib.trimB l c:=by
 unfold Lib.trimB;rw[aBC _ _ (aBA l c),aCK]
theorem vL (l:List UInt8):dG (dG l)=dG l:=by
 have h:kX (dG l)=dG l:=by
  rw[xP,aH9,List.filter_eq_self];intro b hb;have hm:b∈kX l:=(aCi _ _).subset hb;rw[xP]at hm
  exact(List.mem_filter.1 hm).2
 show Lib.trimB (kX (dG l)) 32=dG l;rw[h];exact aF7 _ _
open Go.RowKit
def kF (zs:List ByteArray)(l:List UInt8):Bool:=match lB l with
 | none=>true
 | some w=>Lib.containsS zs ⟨w.toArray⟩
def oJ (w:World)(g off:Nat)(zs:List ByteArray):Prop:=∀j,j<zs.length→w.cell? ⟨g,off+j,none⟩=some (.string (zs.getD j ByteArray.empty))
theorem oJ.below {w w':World}{g off B:Nat}{zs:List ByteArray}(h:oJ w g off zs)(hb:Below B w w')(hg:g<B):oJ w' g off zs:=by
 intro j hj;rw[hb.cell (p:=⟨g,off+j,none⟩) hg];exact h j hj
theorem aBX (l:List UInt8):(dG l).length≤3*l.length:=Nat.le_trans (aJn l).length_le (oR l)
theorem aBY (s:ByteArray)(hs:s.size≤1000000000)(g off n c:Nat)(zs:List ByteArray)(hn:zs.length=n)(hn9:n≤1000)(w:World)(T:aB w)(hz:Hid (oJ w g off zs))(hg:g<w.heap.size)(b:Bool)(hb:Hid (kF zs (dG s.data.toList)=b)) :
  Calls Tryz.prog 143 #[.string s,.slice (some ⟨g,off,none⟩) n c] w fun e w'=>e=.returned (.tuple #[.string ⟨(dG s.data.toList).toArray⟩,.bool b])∧Below w.heap.size w w':=by
 have HT:=hid T;clear T;have hl:=aBX s.data.toList;have hl2:s.data.toList.length=s.size:=rfl;have hsz:(⟨(dG s.data.toList).toArray⟩:ByteArray).size<4294967281:=by rw[pF];omega
 have HSZ:=hid hsz;clear hsz hl hl2;obtain⟨L,hL⟩:∃L,dG s.data.toList=L:=⟨_,rfl⟩
 have K:=fun w T=>aJm s hs w T
 rw[hL]at K HSZ
 have HK:=hid K;have HB:=hid (show kF zs L=b by rw[←hL];exact hb.out);rw[hL];clear K hL hb;go_enter Tryz.func143,Tryz.ntmps143
 go_wp2_with fail
 refine(HK.out w HT.out).mono ?_;rintro e W1 ⟨rfl,B1⟩;have HB1:=hid B1;have HT1:=hid (HT.out.below HB1.out lT);clear B1;have S:=aFS ⟨L.toArray⟩ HSZ.out W1 HT1.out;have hb:=HB.out;unfold kF at hb;cases hsc:lB L with
 | none =>
  rw[show nQ (⟨L.toArray⟩:ByteArray).data.toList=.tuple #[.string ⟨#[]⟩,.bool false]from nB hsc]at S
  have HS:=hid S;rw[hsc]at hb
  subst hb;clear S hsc;go_wp2_with fail
  refine HS.out.mono ?_;rintro e W2 ⟨rfl,B2⟩;have HB2:=qV HB1 B2;clear B2;go_wp2
  go_ret2;exact⟨rfl,HB2.out⟩
 | some x =>
  rw[show nQ (⟨L.toArray⟩:ByteArray).data.toList=.tuple #[.string ⟨x.toArray⟩,.bool true]from wA hsc]at S
  have HS:=hid S;rw[hsc]at hb
  have HBX:Hid (Lib.containsS zs ⟨x.toArray⟩=b):=hb;clear S hsc hb;go_wp2_with fail
  refine HS.out.mono ?_;rintro e W2 ⟨rfl,B2⟩;have HB2:=qV HB1 B2;clear B2;have hz2:Hid (oJ W2 g off zs):=hz.out.below HB2.out hg;have C:=Tryz.slices_Contains_string g off n c zs ⟨x.toArray⟩ W2 (by omega) (by omega) hz2.out;rw[List.take_of_length_le (by omega),HBX.out]at C
  have HC:=hid C;clear C;go_wp2_with fail
  refine HC.out.mono ?_;rintro e W3 ⟨rfl,rfl⟩;go_wp2
  all_goals
   go_ret2;exact⟨rfl,HB2.out⟩
theorem aDQ (old new:List UInt8)(h:1≤old.length):∀(k:Nat) (s:List UInt8),(Lib.replaceK old new k s).length≤s.length+k*new.length:=by
 intro k;induction k with
 | zero=>intro s;simp[Lib.replaceK]
 | succ k ih =>
  intro s;rw[Nat.succ_mul];by_cases hi:Lib.index s old=-1
  ·unfold Lib.replaceK;rw[if_pos (by rw[hi];rfl)];omega
  ·have hge:=Lib.index_ge s old;obtain⟨i,hi'⟩:∃i:Nat,Lib.index s old=i:=⟨(Lib.index s old).toNat,by omega⟩
   rw[Lib.replaceK_hit old new k s i hi'];have:=ih (s.drop (i+old.length));have hr:=Lib.index_room s old (by omega);rw[List.length_append,List.length_append,List.length_take];rw[List.length_drop]at this
   omega
theorem aBv (s old new:ByteArray)(h:1≤old.size):(Lib.replaceAll s.data.toList old.data.toList new.data.toList).length≤s.size*(1+new.size):=by
 unfold Lib.replaceAll Lib.replace;have h1:=Lib.countB_le old h s.size s lT;have e1:s.size=s.data.toList.length:=rfl;have e2:new.size=new.data.toList.length:=rfl;split
 ·rw[e1,Nat.mul_add];omega
 ·have hn:Lib.replaceNum s.data.toList old.data.toList (-1)=Lib.count s.data.toList old.data.toList:=by
   unfold Lib.replaceNum;rw[if_pos (Or.inl (by omega))]
  rw[hn];have h2:=aDQ old.data.toList new.data.toList h (Lib.count s.data.toList old.data.toList) s.data.toList;have h3:Lib.count s.data.toList old.data.toList≤s.size:=h1;have h4:Lib.count s.data.toList old.data.toList*new.data.toList.length≤s.size*new.data.toList.length:=Nat.mul_le_mul_right _ h3;rw[Nat.mul_add,e2];omega
def mQ:ByteArray:=⟨#[38,97,109,112,59]⟩
def bNb:ByteArray:=⟨#[38,110,98,115,112,59]⟩
def bLt:ByteArray:=⟨#[38,108,116,59]⟩
def bGt:ByteArray:=⟨#[38,103,116,59]⟩
def bQ:ByteArray:=⟨#[38,113,117,111,116,59]⟩
def dW (s old new:ByteArray):ByteArray:=⟨(Lib.replaceAll s.data.toList old.data.toList new.data.toList).toArray⟩
theorem uD (s old new:ByteArray)(h:1≤old.size):(dW s old new).size≤s.size*(1+new.size):=aBv s old new h
theorem sO (s old new:ByteArray)(w:World)(T:aB w)(hs:s.size<4294967281)(h1:1≤old.size)(h2:new.size≤10) :
  Calls Tryz.prog 80 #[.string s,.string old,.string new] w fun e w'=>e=.returned (.string (dW s old new))∧Below w.heap.size w w':=by
 obtain⟨m,hm⟩:=T.most;refine Tryz.strings_ReplaceAll s old new m w hs hm h1 ?_;have h3:=Lib.countB_le old h1 s.size s lT;have h4:Lib.countB s old*new.size≤s.size*10:=Nat.mul_le_mul h3 h2;omega
def nF (s:ByteArray):ByteArray:=dW (dW (dW (dW (dW s ⟨#[38]⟩ mQ) ⟨#[194,160]⟩ bNb) ⟨#[60]⟩ bLt) ⟨#[62]⟩ bGt) ⟨#[34]⟩ bQ
theorem aEU (s:ByteArray)(hs:s.size≤4000000)(w:World)(T:aB w):Calls Tryz.prog 84 #[.string s,.bool true] w fun e w'=>e=.returned (.string (nF s))∧Below w.heap.size w w':=by
 have a1:=uD s ⟨#[38]⟩ mQ (by decide);have a2:=uD (dW s ⟨#[38]⟩ mQ) ⟨#[194,160]⟩ bNb (by decide);have a3:=uD (dW (dW s ⟨#[38]⟩ mQ) ⟨#[194,160]⟩ bNb) ⟨#[60]⟩ bLt (by decide);have a4:=uD (dW (dW (dW s ⟨#[38]⟩ mQ) ⟨#[194,160]⟩ bNb) ⟨#[60]⟩ bLt) ⟨#[62]⟩ bGt (by decide);have e1:mQ.size=5:=rfl;have e2:bNb.size=6:=rfl;have e3:bLt.size=4:=rfl;have e4:bGt.size=4:=rfl;rw[e1]at a1
 rw[e2]at a2
 rw[e3]at a3
 rw[e4]at a4
 have HT:=hid T;have R1:=hid (fun w T=>sO s ⟨#[38]⟩ mQ w T (by omega) (by decide) (by decide));have R2:=hid (fun w T=>sO (dW s ⟨#[38]⟩ mQ) ⟨#[194,160]⟩ bNb w T (by omega) (by decide) (by decide));have R3:=hid (fun w T=>sO (dW (dW s ⟨#[38]⟩ mQ) ⟨#[194,160]⟩ bNb) ⟨#[60]⟩ bLt w T (by omega) (by decide) (by decide));have R4:=hid (fun w T=>sO (dW (dW (dW s ⟨#[38]⟩ mQ) ⟨#[194,160]⟩ bNb) ⟨#[60]⟩ bLt) ⟨#[62]⟩ bGt w T (by omega) (by decide) (by decide));have R5:=hid (fun w T=>sO (dW (dW (dW (dW s ⟨#[38]⟩ mQ) ⟨#[194,160]⟩ bNb) ⟨#[60]⟩ bLt) ⟨#[62]⟩ bGt) ⟨#[34]⟩ bQ w T (by omega) (by decide) (by decide));have hE:nF s=dW (dW (dW (dW (dW s ⟨#[38]⟩ mQ) ⟨#[194,160]⟩ bNb) ⟨#[60]⟩ bLt) ⟨#[62]⟩ bGt) ⟨#[34]⟩ bQ:=rfl;rw[hE];clear a1 a2 a3 a4 e1 e2 e3 e4 T hE;generalize dW s ⟨#[38]⟩ mQ=s1 at *
 generalize dW s1 ⟨#[194,160]⟩ bNb=s2 at *
 generalize dW s2 ⟨#[60]⟩ bLt=s3 at *
 generalize dW s3 ⟨#[62]⟩ bGt=s4 at *
 generalize dW s4 ⟨#[34]⟩ bQ=s5 at *
 unfold mQ at R1;unfold bNb at R2;unfold bLt at R3;unfold bGt at R4;unfold bQ at R5;go_enter Tryz.func84,Tryz.ntmps84
 go_wp2_with fail
 refine(R1.out w HT.out).mono ?_;rintro e W1 ⟨rfl,B1⟩;have HB1:=hid B1;have HT1:=hid (HT.out.below HB1.out lT);clear B1;go_wp2_with fail
 refine(R2.out W1 HT1.out).mono ?_;rintro e W2 ⟨rfl,B2⟩;have HB2:=qV HB1 B2;have HT2:=hid (HT.out.below HB2.out lT);clear B2;go_wp2_with fail
 refine(R3.out W2 HT2.out).mono ?_;rintro e W3 ⟨rfl,B3⟩;have HB3:=qV HB2 B3;have HT3:=hid (HT.out.below HB3.out lT);clear B3;go_wp2_with fail
 refine(R4.out W3 HT3.out).mono ?_;rintro e W4 ⟨rfl,B4⟩;have HB4:=qV HB3 B4;have HT4:=hid (HT.out.below HB4.out lT);clear B4;go_wp2_with fail
 refine(R5.out W4 HT4.out).mono ?_;rintro e W5 ⟨rfl,B5⟩;have HB5:=qV HB4 B5;clear B5;go_wp2
 go_ret;exact⟨rfl,HB5.out⟩
open Go.RowKit
def cK (e n v:ByteArray)(t:ByteArray)(ok:Bool):Prop:=∀w,aB w→Calls Tryz.prog 83 #[.string e,.string n,.string v] w fun x w'=>x=.returned (.tuple #[.string t,.bool ok])∧Below w.heap.size w w'
theorem aIn (e n v:ByteArray)(k:Int)(hk:Hid (aV e k))(h:k<2∨k=14)(w:World) :
  Calls Tryz.prog 37 #[.string e,.string n,.string v] w fun x w'=>x=.returned (.tuple #[.string ⟨#[]⟩,.bool false])∧Below w.heap.size w w':=by
 rcases h with h|h
 ·have l1:decide (k<2)=true:=by simpa using h
  clear h;go_enter Tryz.func37,Tryz.ntmps37
  go_wp2_with fail
  refine(hk.out _).mono ?_;rintro x w' ⟨rfl,rfl⟩;go_wp2
  go_ret2;exact⟨rfl,Below.refl _ _⟩
 ·subst h;go_enter Tryz.func37,Tryz.ntmps37
  go_wp2_with fail
  refine(hk.out _).mono ?_;rintro x w' ⟨rfl,rfl⟩;go_wp2
  go_ret2;exact⟨rfl,Below.refl _ _⟩
theorem aJZ (e n v t:ByteArray)(k:Int)(hk:Hid (aV e k))(h2:¬k<2)(h14:(k==14)=false)(hF:Hid (cK e n v t false))(w:World)(T:aB w) :
  Calls Tryz.prog 37 #[.string e,.string n,.string v] w fun x w'=>x=.returned (.tuple #[.string ⟨#[]⟩,.bool false])∧Below w.heap.size w w':=by
 have l1:decide (k<2)=false:=by simpa using h2
 have HT:=hid T;clear h2 T;go_enter Tryz.func37,Tryz.ntmps37
 go_wp2_with fail
 refine(hk.out _).mono ?_;rintro x w' ⟨rfl,rfl⟩;go_wp2_with fail
 refine(hF.out _ HT.out).mono ?_;rintro x W1 ⟨rfl,B1⟩;have HB1:=hid B1;clear B1;go_wp2
 go_ret2;exact⟨rfl,HB1.out⟩
theorem aGd (e n v t:ByteArray)(k:Int)(hk:Hid (aV e k))(h2:¬k<2)(h14:(k==14)=false)(hF:Hid (cK e n v t true))(ht:t.size≤4000000)(hE:Hid (120<(nF t).size))(w:World)(T:aB w) :
  Calls Tryz.prog 37 #[.string e,.string n,.string v] w fun x w'=>x=.returned (.tuple #[.string ⟨#[]⟩,.bool false])∧Below w.heap.size w w':=by
 have l1:decide (k<2)=false:=by simpa using h2
 have HT:=hid T;have hx:120<(nF t).size:=hE.out;have E:=aEU t ht;generalize nF t=u at hx E;have HEA:=hid E;clear h2 T E;go_enter Tryz.func37,Tryz.ntmps37
 go_wp2_with fail
 refine(hk.out _).mono ?_;rintro x w' ⟨rfl,rfl⟩;go_wp2_with fail
 refine(hF.out _ HT.out).mono ?_;rintro x W1 ⟨rfl,B1⟩;have HB1:=hid B1;have HT1:=hid (HT.out.below HB1.out lT);clear B1;go_wp2_with fail
 refine(HEA.out W1 HT1.out).mono ?_;rintro x W2 ⟨rfl,B2⟩;have HB2:=qV HB1 B2;clear B2;have l2:decide ((120:Int)<(u.size:Int))=true:=by simp;omega
 go_wp2
 go_ret2;exact⟨rfl,HB2.out⟩
theorem aIo (e n v t:ByteArray)(k:Int)(hk:Hid (aV e k))(h2:¬k<2)(h14:(k==14)=false)(hF:Hid (cK e n v t true))(ht:t.size≤4000000)(hE:Hid ((nF t).size≤120))(w:World)(T:aB w) :
  Calls Tryz.prog 37 #[.string e,.string n,.string v] w fun x w'=>x=.returned (.tuple #[.string t,.bool true])∧Below w.heap.size w w':=by
 have l1:decide (k<2)=false:=by simpa using h2
 have HT:=hid T;have hx:(nF t).size≤120:=hE.out;have E:=aEU t ht;generalize nF t=u at hx E;have HEA:=hid E;clear h2 T E;go_enter Tryz.func37,Tryz.ntmps37
 go_wp2_with fail
 refine(hk.out _).mono ?_;rintro x w' ⟨rfl,rfl⟩;go_wp2_with fail
 refine(hF.out _ HT.out).mono ?_;rintro x W1 ⟨rfl,B1⟩;have HB1:=hid B1;have HT1:=hid (HT.out.below HB1.out lT);clear B1;go_wp2_with fail
 refine(HEA.out W1 HT1.out).mono ?_;rintro x W2 ⟨rfl,B2⟩;have HB2:=qV HB1 B2;clear B2;have l2:decide ((120:Int)<(u.size:Int))=false:=by simp;omega
 go_wp2
 go_ret2;exact⟨rfl,HB2.out⟩
def aX:ByteArray:=⟨#[116,105,116,108,101]⟩
def aAN:ByteArray:=⟨#[104,114,101,102]⟩
def sA:ByteArray:=⟨#[97]⟩
theorem aFy (e v:ByteArray)(hv:v.size≤1000000000):cK e aX v ⟨(cT v.data.toList).toArray⟩ true:=by
 intro w T;have HX:=hid (nR v hv w T);clear T;unfold aX;go_enter Tryz.func83,Tryz.ntmps83
 go_wp2_with fail
 refine HX.out.mono ?_;rintro x W1 ⟨rfl,B1⟩;have HB1:=hid B1;clear B1;go_wp2
 go_ret2;exact⟨rfl,HB1.out⟩
open Go.RowKit
theorem aMW:(⟨#[97]⟩:ByteArray)++⟨#[32]⟩=⟨#[97,32]⟩:=by decide
theorem aGy:(⟨#[97,32]⟩:ByteArray)++⟨#[104,114,101,102]⟩=⟨#[97,32,104,114,101,102]⟩:=by decide
def uN:List ByteArray:=[⟨#[104,116,116,112]⟩,⟨#[104,116,116,112,115]⟩,⟨#[109,97,105,108,116,111]⟩]
theorem aAq (v:ByteArray)(b:Bool)(hb:Hid (kF uN (dG v.data.toList)=b))(hv:v.size≤1000000000):cK sA aAN v ⟨(dG v.data.toList).toArray⟩ b:=by
 intro w T;have HT:=hid T;clear T;unfold sA aAN;have c1:=aMW;have c2:=aGy;go_enter Tryz.func83,Tryz.ntmps83
 go_wp2_with fail
 have hB:Below w.heap.size w (w.alloc (.cells #[Value.string ⟨#[104,116,116,112]⟩,Value.string ⟨#[104,116,116,112,115]⟩,Value.string ⟨#[109,97,105,108,116,111]⟩] 9)):=(Below.refl _ w).alloc lT _;have hS:oJ (w.alloc (.cells #[Value.string ⟨#[104,116,116,112]⟩,Value.string ⟨#[104,116,116,112,115]⟩,Value.string ⟨#[109,97,105,108,116,111]⟩] 9)) w.heap.size 0 uN:=by
  intro j hj;rw[Nat.zero_add,cell_of_row _ w.heap.size j _ 9 (0,0) (heap_alloc_new w _)];have:∀j<3,(#[Value.string ⟨#[104,116,116,112]⟩,Value.string ⟨#[104,116,116,112,115]⟩,Value.string ⟨#[109,97,105,108,116,111]⟩]:Array Value)[j]?=some (Value.string (uN.getD j ByteArray.empty)):=by
   intro j hj;match j,hj with
   | 0,_=>rfl
   | 1,_=>rfl
   | 2,_=>rfl
  exact this j hj
 refine(aBY v hv w.heap.size 0 3 3 uN rfl (by omega) _ (HT.out.below hB lT) hS (by simp) b hb).mono ?_;rintro x W1 ⟨rfl,B1⟩;have HB1:=hid (hB.trans (B1.mono (by simp)));clear B1 hB hS;go_wp2
 go_ret2;exact⟨rfl,HB1.out⟩
def v1:ByteArray:=⟨#[72,84,84,80,58,47,47,97]⟩
def v2:ByteArray:=⟨#[32,74,97,118,97,9,83,99,114,105,112,116,58,120]⟩
