/-
  What has its form has it once for all: Text of Text, Link of Link. No program in sight.
  policy.link and refs.Escape: what they answer.
  policy.Value: what it answers, by what form answers; form at a title and at a's href.
  policy.form at a's href.
-/
import Derived.Test.YtcfgbdhpcboikaaGreatDoorTextLaw
import Derived.Test.YtcfgbdhpcboikaaGreatDoorLinkW
import Derived.Lib.ReplaceLaws
import Derived.Test.YtcfgbdhpcboikaaGreatDoorMayW
namespace Go.Proofs.YtcfgbdhpcboikaaGreatDoor
set_option maxHeartbeats 1000000
set_option maxRecDepth 100000
open PU8
theorem nats_enc (r:Nat)(h:Val r):natsU (encU r)=encN r:=by
 obtain⟨h1,h2⟩:=h
 unfold natsU encU
 rw[List.map_map]
 conv=>rhs;rw[← List.map_id (encN r)]
 apply List.map_congr_left
 intro c hc
 have hlt:c<256:=by
  unfold encN at hc
  repeat' split at hc
  all_goals simp only[List.mem_cons,List.mem_nil_iff,or_false] at hc
  all_goals omega
 simp only[Function.comp]
 exact ofN c hlt
theorem nats_append (a b:List UInt8):natsU (a++b)=natsU a++natsU b:=by simp[natsU]
theorem cont_one (lo hi n c:Nat)(r:List Nat)(h:¬ (c<lo∨hi<c)):contU 1 lo hi n (c :: r)=(n+1,true):=by
 unfold contU;rw[if_neg h];rfl
theorem cont_two (lo hi n c d:Nat)(r:List Nat)(h:¬ (c<lo∨hi<c))(h2:¬ (d<0x80∨0xbf<d)):contU 2 lo hi n (c :: d :: r)=(n+2,true):=by
 unfold contU;rw[if_neg h,cont_one _ _ _ _ _ h2]
theorem cont_three (lo hi n c d e:Nat)(r:List Nat)(h:¬ (c<lo∨hi<c))(h2:¬ (d<0x80∨0xbf<d))(h3:¬ (e<0x80∨0xbf<e)):contU 3 lo hi n (c :: d :: e :: r)=(n+3,true):=by
 unfold contU;rw[if_neg h,cont_two _ _ _ _ _ _ h2 h3]
theorem look_enc (r:Nat)(h:Val r)(t:List Nat):lookU (encN r++t)=((encN r).length,true):=by
 obtain⟨h1,h2⟩:=h
 by_cases a:r<0x80
 ·have e:encN r=[r]:=by unfold encN;rw[if_pos a]
  rw[e,List.singleton_append,look_cons,if_pos a];rfl
 ·by_cases b:r<0x800
  ·rw[enc_two r (by omega) b]
   simp only[List.cons_append,List.nil_append]
   rw[look_cons,if_neg (by omega),if_neg (by omega),if_pos (by omega),cont_one _ _ _ _ _ (by omega)]
   rfl
  ·by_cases c:r<0x10000
   ·rw[enc_three r (by omega) c]
    simp only[List.cons_append,List.nil_append]
    rw[look_cons,if_neg (by omega),if_neg (by omega),if_neg (by omega)]
    by_cases d:r / 4096=0
    ·rw[if_pos (by omega),cont_two _ _ _ _ _ _ (by omega) (by omega)];rfl
    ·rw[if_neg (by omega)]
     by_cases f:r / 4096=13
     ·rw[if_pos (by omega),cont_two _ _ _ _ _ _ (by omega) (by omega)];rfl
     ·rw[if_neg (by omega),if_pos (by omega),cont_two _ _ _ _ _ _ (by omega) (by omega)];rfl
   ·rw[enc_four r (by omega)]
    simp only[List.cons_append,List.nil_append]
    rw[look_cons,if_neg (by omega),if_neg (by omega),if_neg (by omega),if_neg (by omega),if_neg (by omega),if_neg (by omega)]
    by_cases d:r / 262144=0
    ·rw[if_pos (by omega),cont_three _ _ _ _ _ _ _ (by omega) (by omega) (by omega)];rfl
    ·rw[if_neg (by omega)]
     by_cases f:r / 262144<4
     ·rw[if_pos (by omega),cont_three _ _ _ _ _ _ _ (by omega) (by omega) (by omega)];rfl
     ·rw[if_neg (by omega),if_pos (by omega),cont_three _ _ _ _ _ _ _ (by omega) (by omega) (by omega)];rfl
theorem enc_inj (r v:Nat)(h:encN r=encN v):r=v:=by
 unfold encN at h
 repeat' split at h
 all_goals simp only[List.cons.injEq,and_true,reduceCtorEq,and_false] at h
 all_goals omega
theorem piece_enc (r:Nat)(h:Val r)(t:List UInt8):(pieceU (natsU (encU r++t))).2.1=r∧(pieceU (natsU (encU r++t))).1=(encU r).length:=by
 have hl:lookU (natsU (encU r++t))=((encN r).length,true):=by
  rw[nats_append,nats_enc r h];exact look_enc r h _
 have s:=sameU (natsU (encU r++t)) (nats_ne (enc_ne r t))
 have hn:=s.num
 rw[hl] at hn
 have h1:=(enc_len r).1
 have e1:(encU r).length=(encN r).length:=by unfold encU;simp
 have hn':(pieceU (natsU (encU r++t))).1=(encU r).length:=by
  rw[hn,e1]
  simp only
  omega
 refine⟨?_,hn'⟩
 have hv:=(s.val (by rw[hl])).1
 have ht:(natsU (encU r++t)).take (encN r).length=encN r:=by
  rw[nats_append,nats_enc r h,List.take_left]
 rw[hn',e1,ht] at hv
 exact enc_inj _ _ hv
theorem runes_enc (rs:List Nat)(h:∀ r∈rs,Val r):runesU (rs.flatMap encU)=rs:=by
 induction rs with
 | nil=>rfl
 | cons r rs ih =>
  have hr:=h r (List.mem_cons_self ..)
  rw[List.flatMap_cons,runes_step _ (enc_ne r _)]
  obtain⟨e1,e2⟩:=piece_enc r hr (rs.flatMap encU)
  rw[e1,e2,List.drop_left,ih fun x hx=>h x (List.mem_cons_of_mem _ hx)]
def Plainly (l:List UInt8):Prop:=∃ rs:List Nat,l=rs.flatMap encU∧∀ r∈rs,Val r∧keepR r=true
theorem text_plainly (l:List UInt8):Plainly (textL l) :=
 ⟨_,rfl,fun r hr=>by
  obtain⟨h1,h2⟩:=List.mem_filter.1 hr
  exact⟨runes_val l.length l (Nat.le_refl _) r h1,h2⟩⟩
theorem text_of_plainly {l:List UInt8}(h:Plainly l):textL l=l:=by
 obtain⟨rs,rfl,hrs⟩:=h
 unfold textL
 rw[runes_enc rs fun r hr=>(hrs r hr).1,List.filter_eq_self.2 fun r hr=>(hrs r hr).2]
theorem text_text (l:List UInt8):textL (textL l)=textL l:=text_of_plainly (text_plainly l)
theorem enc_low1 (r:Nat)(h:r<128):encU r=[UInt8.ofNat r]:=by unfold encU encN;rw[if_pos (by omega)];rfl
theorem enc_high (r:Nat)(h:128≤r)(h2:r≤0x10ffff):∀ b∈encU r,128≤b.toNat:=by
 intro b hb
 unfold encU at hb
 obtain⟨c,hc,rfl⟩:=List.mem_map.1 hb
 unfold encN at hc
 rw[if_neg (by omega)] at hc
 repeat' split at hc
 all_goals simp only[List.mem_cons,List.mem_nil_iff,or_false] at hc
 all_goals (rw[ofN c (by omega)];omega)
theorem filter_enc (c:Nat)(hc:c<128)(rs:List Nat)(h:∀ r∈rs,Val r):(rs.flatMap encU).filter (fun b=>b !=UInt8.ofNat c)=(rs.filter (fun r=>r !=c)).flatMap encU:=by
 induction rs with
 | nil=>rfl
 | cons r rs ih =>
  have hr:=h r (List.mem_cons_self ..)
  rw[List.flatMap_cons,List.filter_append,ih fun x hx=>h x (List.mem_cons_of_mem _ hx)]
  by_cases hl:r<128
  ·rw[enc_low1 r hl]
   by_cases e:r=c
   ·subst e
    rw[List.filter_cons_of_neg (by simp),List.filter_cons_of_neg (by simp)]
    rfl
   ·have hne:UInt8.ofNat r≠UInt8.ofNat c:=by
     intro e2
     have:=congrArg UInt8.toNat e2
     rw[ofN r (by omega),ofN c (by omega)] at this
     exact e this
    rw[List.filter_cons_of_pos (by simpa using hne),List.filter_cons_of_pos (by simpa using e),List.flatMap_cons,enc_low1 r hl]
    rfl
  ·have hkeep:(encU r).filter (fun b=>b !=UInt8.ofNat c)=encU r:=by
    rw[List.filter_eq_self]
    intro b hb
    have:=enc_high r (by omega) hr.2 b hb
    simp only[bne_iff_ne,ne_eq]
    intro e2
    rw[e2,ofN c (by omega)] at this
    omega
   rw[hkeep,List.filter_cons_of_pos (by simp;omega),List.flatMap_cons]
theorem head_enc (r c:Nat)(hc:c<128)(h:Val r)(hne:r≠c)(t:List UInt8):∀ b,(encU r++t).head?=some b→b≠UInt8.ofNat c:=by
 intro b hb e
 have hm:b∈encU r:=by
  cases he:encU r with
  | nil=>have:=(enc_len r).1;rw[he] at this;simp at this
  | cons x l=>rw[he] at hb;simp at hb;subst hb;exact List.mem_cons_self ..
 by_cases hl:r<128
 ·rw[enc_low1 r hl] at hm
  simp at hm
  rw[hm] at e
  have:=congrArg UInt8.toNat e
  rw[ofN r (by omega),ofN c (by omega)] at this
  exact hne this
 ·have:=enc_high r (by omega) h.2 b hm
  rw[e,ofN c (by omega)] at this
  omega
theorem dropWhile_enc (c:Nat)(hc:c<128)(rs:List Nat)(h:∀ r∈rs,Val r):(rs.flatMap encU).dropWhile (· == UInt8.ofNat c)=(rs.dropWhile (· == c)).flatMap encU:=by
 induction rs with
 | nil=>rfl
 | cons r rs ih =>
  have hr:=h r (List.mem_cons_self ..)
  by_cases e:r=c
  ·subst e
   rw[List.flatMap_cons,enc_low1 r hc,List.singleton_append,List.dropWhile_cons_of_pos (by simp),List.dropWhile_cons_of_pos (by simp)]
   exact ih fun x hx=>h x (List.mem_cons_of_mem _ hx)
  ·rw[List.dropWhile_cons_of_neg (by simpa using e),List.flatMap_cons]
   have hh:=head_enc r c hc hr e (rs.flatMap encU)
   cases hl:encU r++rs.flatMap encU with
   | nil=>exact absurd hl (enc_ne r _)
   | cons b l =>
    rw[hl] at hh
    rw[List.dropWhile_cons_of_neg]
    simpa using hh b rfl
theorem trimLeft_plainly {l:List UInt8}(h:Plainly l):Plainly (Lib.trimLeftB l 32):=by
 obtain⟨rs,rfl,hrs⟩:=h
 refine⟨rs.dropWhile (· == 32),dropWhile_enc 32 (by omega) rs fun r hr=>(hrs r hr).1,fun r hr=>hrs r ?_⟩
 exact(List.dropWhile_sublist _).subset hr
theorem trimRight_snoc (l:List UInt8)(b c:UInt8):Lib.trimRightB (l++[b]) c=if b=c then Lib.trimRightB l c else l++[b]:=by
 unfold Lib.trimRightB
 rw[List.reverse_append]
 simp only[List.reverse_cons,List.reverse_nil,List.nil_append,List.singleton_append]
 by_cases h:b=c
 ·rw[if_pos h,List.dropWhile_cons_of_pos (by simpa using h)]
 ·rw[if_neg h,List.dropWhile_cons_of_neg (by simpa using h)]
  simp
theorem trimRight_keep (l m:List UInt8)(c:UInt8)(hm:m≠[])(h:∀ b∈m,b≠c):Lib.trimRightB (l++m) c=l++m:=by
 obtain⟨m',b,rfl⟩:∃ m' b,m=m'++[b]:=⟨m.dropLast,m.getLast hm,(List.dropLast_concat_getLast hm).symm⟩
 rw[← List.append_assoc,trimRight_snoc,if_neg (h b (by simp))]
theorem snocB_ind {α : Type}{P:List α → Prop}(h0:P [])(h1:∀ l x,P l→P (l++[x]))(l:List α):P l:=by
 have:∀ n (l:List α),l.length=n→P l:=by
  intro n
  induction n with
  | zero =>
   intro l hl
   have:=List.eq_nil_of_length_eq_zero hl
   subst this
   exact h0
  | succ n ih =>
   intro l hl
   have hne:l≠[]:=by intro e;subst e;simp at hl
   rw[← List.dropLast_concat_getLast hne]
   exact h1 _ _ (ih _ (by rw[List.length_dropLast];omega))
 exact this l.length l rfl
theorem trimRight_plainly {l:List UInt8}(h:Plainly l):Plainly (Lib.trimRightB l 32):=by
 obtain⟨rs,rfl,hrs⟩:=h
 revert hrs
 refine snocB_ind (P:=fun rs=>(∀ r∈rs,Val r∧keepR r=true)→Plainly (Lib.trimRightB (rs.flatMap encU) 32)) ?_ ?_ rs
 ·intro _;exact⟨[],rfl,fun r hr=>by cases hr⟩
 ·intro rs r ih hrs
  have hr:=hrs r (by simp)
  have hrs':∀ x∈rs,Val x∧keepR x=true:=fun x hx=>hrs x (by simp[hx])
  rw[List.flatMap_append,List.flatMap_singleton]
  by_cases e:r=32
  ·subst e
   have e32:encU 32=[32]:=by decide
   rw[e32,trimRight_snoc,if_pos rfl]
   exact ih hrs'
  ·rw[trimRight_keep _ _ 32 (by intro h0;have:=(enc_len r).1;rw[h0] at this;simp at this)]
   ·refine⟨rs++[r],by rw[List.flatMap_append,List.flatMap_singleton],hrs⟩
   ·intro b hb e2
    by_cases hl:r<128
    ·rw[enc_low1 r hl] at hb
     simp at hb
     rw[hb] at e2
     have:=congrArg UInt8.toNat e2
     rw[ofN r (by omega)] at this
     exact e this
    ·have:=enc_high r (by omega) hr.1.2 b hb
     rw[e2] at this
     exact absurd this (by decide)
theorem bare_plainly (l:List UInt8):Plainly (bareL l):=by
 obtain⟨rs,e,hrs⟩:=text_plainly l
 unfold bareL
 rw[e]
 have h9:=filter_enc 9 (by omega) rs fun r hr=>(hrs r hr).1
 have e9:UInt8.ofNat 9=9:=rfl
 rw[e9] at h9
 rw[h9]
 have h10:=filter_enc 10 (by omega) (rs.filter (fun r=>r !=9)) fun r hr=>(hrs r (List.mem_filter.1 hr).1).1
 have e10:UInt8.ofNat 10=10:=rfl
 rw[e10] at h10
 rw[h10]
 exact⟨_,rfl,fun r hr=>hrs r (List.mem_filter.1 (List.mem_filter.1 hr).1).1⟩
theorem link_plainly (l:List UInt8):Plainly (linkL l):=by
 unfold linkL Lib.trimB
 exact trimLeft_plainly (trimRight_plainly (bare_plainly l))
theorem text_link (l:List UInt8):textL (linkL l)=linkL l:=text_of_plainly (link_plainly l)
theorem trimB_sub (l:List UInt8)(c:UInt8):(Lib.trimB l c).Sublist l:=by
 unfold Lib.trimB Lib.trimLeftB Lib.trimRightB
 refine(List.dropWhile_sublist _).trans ?_
 have:=(List.dropWhile_sublist (fun x=>x==c) (l:=l.reverse)).reverse
 rwa[List.reverse_reverse] at this
theorem link_sub (l:List UInt8):(linkL l).Sublist (textL l):=by
 unfold linkL
 refine(trimB_sub _ _).trans ?_
 unfold bareL
 exact(List.filter_sublist).trans List.filter_sublist
theorem trimRight_idem (l:List UInt8)(c:UInt8):Lib.trimRightB (Lib.trimRightB l c) c=Lib.trimRightB l c:=by
 refine snocB_ind (P:=fun l=>Lib.trimRightB (Lib.trimRightB l c) c=Lib.trimRightB l c) rfl ?_ l
 intro l b ih
 rw[trimRight_snoc]
 by_cases h:b=c
 ·rw[if_pos h];exact ih
 ·rw[if_neg h,trimRight_snoc,if_neg h]
theorem trimLeft_idem (l:List UInt8)(c:UInt8):Lib.trimLeftB (Lib.trimLeftB l c) c=Lib.trimLeftB l c:=by
 unfold Lib.trimLeftB
 induction l with
 | nil=>rfl
 | cons b l ih =>
  by_cases h:b=c
  ·rw[List.dropWhile_cons_of_pos (by simpa using h)];exact ih
  ·rw[List.dropWhile_cons_of_neg (by simpa using h),List.dropWhile_cons_of_neg (by simpa using h)]
theorem trimRight_left (l:List UInt8)(c:UInt8)(h:Lib.trimRightB l c=l):Lib.trimRightB (Lib.trimLeftB l c) c=Lib.trimLeftB l c:=by
 unfold Lib.trimLeftB
 induction l with
 | nil=>rfl
 | cons b l ih =>
  by_cases hb:b=c
  ·rw[List.dropWhile_cons_of_pos (by simpa using hb)]
   apply ih
   by_cases hl:l=[]
   ·subst hl;rfl
   ·obtain⟨m,x,rfl⟩:∃ m x,l=m++[x]:=⟨l.dropLast,l.getLast hl,(List.dropLast_concat_getLast hl).symm⟩
    rw[← List.cons_append,trimRight_snoc] at h
    by_cases hx:x=c
    ·rw[if_pos hx] at h
     have hle:(Lib.trimRightB (b :: m) c).length≤(b :: m).length:=by
      unfold Lib.trimRightB
      rw[List.length_reverse]
      exact Nat.le_trans (List.dropWhile_sublist _).length_le (by simp)
     rw[h] at hle
     simp at hle
     omega
    ·rw[trimRight_snoc,if_neg hx]
  ·rw[List.dropWhile_cons_of_neg (by simpa using hb)];exact h
theorem trimB_idem (l:List UInt8)(c:UInt8):Lib.trimB (Lib.trimB l c) c=Lib.trimB l c:=by
 unfold Lib.trimB
 rw[trimRight_left _ _ (trimRight_idem l c),trimLeft_idem]
theorem link_link (l:List UInt8):linkL (linkL l)=linkL l:=by
 have h:bareL (linkL l)=linkL l:=by
  rw[bare_filter,text_link,List.filter_eq_self]
  intro b hb
  have hm:b∈bareL l:=(trimB_sub _ _).subset hb
  rw[bare_filter] at hm
  exact(List.mem_filter.1 hm).2
 show Lib.trimB (bareL (linkL l)) 32=linkL l
 rw[h]
 exact trimB_idem _ _
open Go.RowKit
def linkOk (zs:List ByteArray)(l:List UInt8):Bool:=match schemeL l with
 | none=>true
 | some w=>Lib.containsS zs ⟨w.toArray⟩
def StrsAt (w:World)(g off:Nat)(zs:List ByteArray):Prop:=∀ j,j<zs.length→w.cell? ⟨g,off+j,none⟩=some (.string (zs.getD j ByteArray.empty))
theorem StrsAt.below {w w':World}{g off B:Nat}{zs:List ByteArray}(h:StrsAt w g off zs)(hb:Below B w w')(hg:g<B):StrsAt w' g off zs:=by
 intro j hj
 rw[hb.cell (p:=⟨g,off+j,none⟩) hg]
 exact h j hj
theorem link_size (l:List UInt8):(linkL l).length≤3*l.length:=Nat.le_trans (link_sub l).length_le (text_size l)
theorem linkf_any (s:ByteArray)(hs:s.size≤1000000000)(g off n c:Nat)(zs:List ByteArray)(hn:zs.length=n)(hn9:n≤1000)(w:World)(T:Tabs w)(hz:Hid (StrsAt w g off zs))(hg:g<w.heap.size)(b:Bool)(hb:Hid (linkOk zs (linkL s.data.toList)=b)) :
  Calls Tryz.prog 143 #[.string s,.slice (some ⟨g,off,none⟩) n c] w fun e w'=>e=.returned (.tuple #[.string ⟨(linkL s.data.toList).toArray⟩,.bool b])∧Below w.heap.size w w':=by
 have HT:=Lib.hid T
 clear T
 have hl:=link_size s.data.toList
 have hl2:s.data.toList.length=s.size:=rfl
 have hsz:(⟨(linkL s.data.toList).toArray⟩:ByteArray).size<4294967281:=by rw[bytes_size];omega
 have HSZ:=Lib.hid hsz
 clear hsz hl hl2
 obtain⟨L,hL⟩:∃ L,linkL s.data.toList=L:=⟨_,rfl⟩
 have K:=fun w T=>link_any s hs w T
 rw[hL] at K HSZ
 have HK:=Lib.hid K
 have HB:=Lib.hid (show linkOk zs L=b by rw[← hL];exact hb.out)
 rw[hL]
 clear K hL hb
 go_enter Tryz.func143,Tryz.ntmps143
 go_wp2_with fail
 refine(HK.out w HT.out).mono ?_
 rintro e W1 ⟨rfl,B1⟩
 have HB1:=Lib.hid B1
 have HT1:=Lib.hid (HT.out.below HB1.out (Nat.le_refl _))
 clear B1
 have S:=scheme_any ⟨L.toArray⟩ HSZ.out W1 HT1.out
 have hb:=HB.out
 unfold linkOk at hb
 cases hsc:schemeL L with
 | none =>
  rw[show schemeV (⟨L.toArray⟩:ByteArray).data.toList=.tuple #[.string ⟨#[]⟩,.bool false] from schemeV_none hsc] at S
  have HS:=Lib.hid S
  rw[hsc] at hb
  subst hb
  clear S hsc
  go_wp2_with fail
  refine HS.out.mono ?_
  rintro e W2 ⟨rfl,B2⟩
  have HB2:=Lib.hid (HB1.out.trans (B2.mono HB1.out.size))
  clear B2
  go_wp2
  go_ret2
  exact⟨rfl,HB2.out⟩
 | some x =>
  rw[show schemeV (⟨L.toArray⟩:ByteArray).data.toList=.tuple #[.string ⟨x.toArray⟩,.bool true] from schemeV_some hsc] at S
  have HS:=Lib.hid S
  rw[hsc] at hb
  have HBX:Hid (Lib.containsS zs ⟨x.toArray⟩=b):=hb
  clear S hsc hb
  go_wp2_with fail
  refine HS.out.mono ?_
  rintro e W2 ⟨rfl,B2⟩
  have HB2:=Lib.hid (HB1.out.trans (B2.mono HB1.out.size))
  clear B2
  have hz2:Hid (StrsAt W2 g off zs):=hz.out.below HB2.out hg
  have C:=Tryz.slices_Contains_string g off n c zs ⟨x.toArray⟩ W2 (by omega) (by omega) hz2.out
  rw[List.take_of_length_le (by omega),HBX.out] at C
  have HC:=Lib.hid C
  clear C
  go_wp2_with fail
  refine HC.out.mono ?_
  rintro e W3 ⟨rfl,rfl⟩
  go_wp2
  all_goals
   go_ret2
   exact⟨rfl,HB2.out⟩
theorem replaceK_len (old new:List UInt8)(h:1≤old.length):∀ (k:Nat) (s:List UInt8),(Lib.replaceK old new k s).length≤s.length+k*new.length:=by
 intro k
 induction k with
 | zero=>intro s;simp[Lib.replaceK]
 | succ k ih =>
  intro s
  rw[Nat.succ_mul]
  by_cases hi:Lib.index s old=-1
  ·unfold Lib.replaceK
   rw[if_pos (by rw[hi];rfl)]
   omega
  ·have hge:=Lib.index_ge s old
   obtain⟨i,hi'⟩:∃ i:Nat,Lib.index s old=i:=⟨(Lib.index s old).toNat,by omega⟩
   rw[Lib.replaceK_hit old new k s i hi']
   have:=ih (s.drop (i+old.length))
   have hr:=Lib.index_room s old (by omega)
   rw[List.length_append,List.length_append,List.length_take]
   rw[List.length_drop] at this
   omega
theorem replaceAll_len (s old new:ByteArray)(h:1≤old.size):(Lib.replaceAll s.data.toList old.data.toList new.data.toList).length≤s.size*(1+new.size):=by
 unfold Lib.replaceAll Lib.replace
 have h1:=Lib.countB_le old h s.size s (Nat.le_refl _)
 have e1:s.size=s.data.toList.length:=rfl
 have e2:new.size=new.data.toList.length:=rfl
 split
 ·rw[e1,Nat.mul_add];omega
 ·have hn:Lib.replaceNum s.data.toList old.data.toList (-1)=Lib.count s.data.toList old.data.toList:=by
   unfold Lib.replaceNum;rw[if_pos (Or.inl (by omega))]
  rw[hn]
  have h2:=replaceK_len old.data.toList new.data.toList h (Lib.count s.data.toList old.data.toList) s.data.toList
  have h3:Lib.count s.data.toList old.data.toList≤s.size:=h1
  have h4:Lib.count s.data.toList old.data.toList*new.data.toList.length≤s.size*new.data.toList.length:=Nat.mul_le_mul_right _ h3
  rw[Nat.mul_add,e2]
  omega
def bAmp:ByteArray:=⟨#[38,97,109,112,59]⟩
def bNb:ByteArray:=⟨#[38,110,98,115,112,59]⟩
def bLt:ByteArray:=⟨#[38,108,116,59]⟩
def bGt:ByteArray:=⟨#[38,103,116,59]⟩
def bQ:ByteArray:=⟨#[38,113,117,111,116,59]⟩
def repB (s old new:ByteArray):ByteArray:=⟨(Lib.replaceAll s.data.toList old.data.toList new.data.toList).toArray⟩
theorem repB_len (s old new:ByteArray)(h:1≤old.size):(repB s old new).size≤s.size*(1+new.size):=replaceAll_len s old new h
theorem rep_any (s old new:ByteArray)(w:World)(T:Tabs w)(hs:s.size<4294967281)(h1:1≤old.size)(h2:new.size≤10) :
  Calls Tryz.prog 80 #[.string s,.string old,.string new] w fun e w'=>e=.returned (.string (repB s old new))∧Below w.heap.size w w':=by
 obtain⟨m,hm⟩:=T.most
 refine Tryz.strings_ReplaceAll s old new m w hs hm h1 ?_
 have h3:=Lib.countB_le old h1 s.size s (Nat.le_refl _)
 have h4:Lib.countB s old*new.size≤s.size*10:=Nat.mul_le_mul h3 h2
 omega
def escB (s:ByteArray):ByteArray:=repB (repB (repB (repB (repB s ⟨#[38]⟩ bAmp) ⟨#[194,160]⟩ bNb) ⟨#[60]⟩ bLt) ⟨#[62]⟩ bGt) ⟨#[34]⟩ bQ
theorem esc_any (s:ByteArray)(hs:s.size≤4000000)(w:World)(T:Tabs w):Calls Tryz.prog 84 #[.string s,.bool true] w fun e w'=>e=.returned (.string (escB s))∧Below w.heap.size w w':=by
 have a1:=repB_len s ⟨#[38]⟩ bAmp (by decide)
 have a2:=repB_len (repB s ⟨#[38]⟩ bAmp) ⟨#[194,160]⟩ bNb (by decide)
 have a3:=repB_len (repB (repB s ⟨#[38]⟩ bAmp) ⟨#[194,160]⟩ bNb) ⟨#[60]⟩ bLt (by decide)
 have a4:=repB_len (repB (repB (repB s ⟨#[38]⟩ bAmp) ⟨#[194,160]⟩ bNb) ⟨#[60]⟩ bLt) ⟨#[62]⟩ bGt (by decide)
 have e1:bAmp.size=5:=rfl
 have e2:bNb.size=6:=rfl
 have e3:bLt.size=4:=rfl
 have e4:bGt.size=4:=rfl
 rw[e1] at a1
 rw[e2] at a2
 rw[e3] at a3
 rw[e4] at a4
 have HT:=Lib.hid T
 have R1:=Lib.hid (fun w T=>rep_any s ⟨#[38]⟩ bAmp w T (by omega) (by decide) (by decide))
 have R2:=Lib.hid (fun w T=>rep_any (repB s ⟨#[38]⟩ bAmp) ⟨#[194,160]⟩ bNb w T (by omega) (by decide) (by decide))
 have R3:=Lib.hid (fun w T=>rep_any (repB (repB s ⟨#[38]⟩ bAmp) ⟨#[194,160]⟩ bNb) ⟨#[60]⟩ bLt w T (by omega) (by decide) (by decide))
 have R4:=Lib.hid (fun w T=>rep_any (repB (repB (repB s ⟨#[38]⟩ bAmp) ⟨#[194,160]⟩ bNb) ⟨#[60]⟩ bLt) ⟨#[62]⟩ bGt w T (by omega) (by decide) (by decide))
 have R5:=Lib.hid (fun w T=>rep_any (repB (repB (repB (repB s ⟨#[38]⟩ bAmp) ⟨#[194,160]⟩ bNb) ⟨#[60]⟩ bLt) ⟨#[62]⟩ bGt) ⟨#[34]⟩ bQ w T (by omega) (by decide) (by decide))
 have hE:escB s=repB (repB (repB (repB (repB s ⟨#[38]⟩ bAmp) ⟨#[194,160]⟩ bNb) ⟨#[60]⟩ bLt) ⟨#[62]⟩ bGt) ⟨#[34]⟩ bQ:=rfl
 rw[hE]
 clear a1 a2 a3 a4 e1 e2 e3 e4 T hE
 generalize repB s ⟨#[38]⟩ bAmp=s1 at *
 generalize repB s1 ⟨#[194,160]⟩ bNb=s2 at *
 generalize repB s2 ⟨#[60]⟩ bLt=s3 at *
 generalize repB s3 ⟨#[62]⟩ bGt=s4 at *
 generalize repB s4 ⟨#[34]⟩ bQ=s5 at *
 unfold bAmp at R1
 unfold bNb at R2
 unfold bLt at R3
 unfold bGt at R4
 unfold bQ at R5
 go_enter Tryz.func84,Tryz.ntmps84
 go_wp2_with fail
 refine(R1.out w HT.out).mono ?_
 rintro e W1 ⟨rfl,B1⟩
 have HB1:=Lib.hid B1
 have HT1:=Lib.hid (HT.out.below HB1.out (Nat.le_refl _))
 clear B1
 go_wp2_with fail
 refine(R2.out W1 HT1.out).mono ?_
 rintro e W2 ⟨rfl,B2⟩
 have HB2:=Lib.hid (HB1.out.trans (B2.mono HB1.out.size))
 have HT2:=Lib.hid (HT.out.below HB2.out (Nat.le_refl _))
 clear B2
 go_wp2_with fail
 refine(R3.out W2 HT2.out).mono ?_
 rintro e W3 ⟨rfl,B3⟩
 have HB3:=Lib.hid (HB2.out.trans (B3.mono HB2.out.size))
 have HT3:=Lib.hid (HT.out.below HB3.out (Nat.le_refl _))
 clear B3
 go_wp2_with fail
 refine(R4.out W3 HT3.out).mono ?_
 rintro e W4 ⟨rfl,B4⟩
 have HB4:=Lib.hid (HB3.out.trans (B4.mono HB3.out.size))
 have HT4:=Lib.hid (HT.out.below HB4.out (Nat.le_refl _))
 clear B4
 go_wp2_with fail
 refine(R5.out W4 HT4.out).mono ?_
 rintro e W5 ⟨rfl,B5⟩
 have HB5:=Lib.hid (HB4.out.trans (B5.mono HB4.out.size))
 clear B5
 go_wp2
 go_ret
 exact⟨rfl,HB5.out⟩
open Go.RowKit
def FormAt (e n v:ByteArray)(t:ByteArray)(ok:Bool):Prop:=∀ w,Tabs w→Calls Tryz.prog 83 #[.string e,.string n,.string v] w fun x w'=>x=.returned (.tuple #[.string t,.bool ok])∧Below w.heap.size w w'
theorem value_out (e n v:ByteArray)(k:Int)(hk:Hid (KindAt e k))(h:k<2∨k=14)(w:World) :
  Calls Tryz.prog 37 #[.string e,.string n,.string v] w fun x w'=>x=.returned (.tuple #[.string ⟨#[]⟩,.bool false])∧Below w.heap.size w w':=by
 rcases h with h|h
 ·have l1:decide (k<2)=true:=by simpa using h
  clear h
  go_enter Tryz.func37,Tryz.ntmps37
  go_wp2_with fail
  refine(hk.out _).mono ?_
  rintro x w' ⟨rfl,rfl⟩
  go_wp2
  go_ret2
  exact⟨rfl,Below.refl _ _⟩
 ·subst h
  go_enter Tryz.func37,Tryz.ntmps37
  go_wp2_with fail
  refine(hk.out _).mono ?_
  rintro x w' ⟨rfl,rfl⟩
  go_wp2
  go_ret2
  exact⟨rfl,Below.refl _ _⟩
theorem value_no (e n v t:ByteArray)(k:Int)(hk:Hid (KindAt e k))(h2:¬ k<2)(h14:(k==14)=false)(hF:Hid (FormAt e n v t false))(w:World)(T:Tabs w) :
  Calls Tryz.prog 37 #[.string e,.string n,.string v] w fun x w'=>x=.returned (.tuple #[.string ⟨#[]⟩,.bool false])∧Below w.heap.size w w':=by
 have l1:decide (k<2)=false:=by simpa using h2
 have HT:=Lib.hid T
 clear h2 T
 go_enter Tryz.func37,Tryz.ntmps37
 go_wp2_with fail
 refine(hk.out _).mono ?_
 rintro x w' ⟨rfl,rfl⟩
 go_wp2_with fail
 refine(hF.out _ HT.out).mono ?_
 rintro x W1 ⟨rfl,B1⟩
 have HB1:=Lib.hid B1
 clear B1
 go_wp2
 go_ret2
 exact⟨rfl,HB1.out⟩
theorem value_long (e n v t:ByteArray)(k:Int)(hk:Hid (KindAt e k))(h2:¬ k<2)(h14:(k==14)=false)(hF:Hid (FormAt e n v t true))(ht:t.size≤4000000)(hE:Hid (120<(escB t).size))(w:World)(T:Tabs w) :
  Calls Tryz.prog 37 #[.string e,.string n,.string v] w fun x w'=>x=.returned (.tuple #[.string ⟨#[]⟩,.bool false])∧Below w.heap.size w w':=by
 have l1:decide (k<2)=false:=by simpa using h2
 have HT:=Lib.hid T
 have hx:120<(escB t).size:=hE.out
 have E:=esc_any t ht
 generalize escB t=u at hx E
 have HEA:=Lib.hid E
 clear h2 T E
 go_enter Tryz.func37,Tryz.ntmps37
 go_wp2_with fail
 refine(hk.out _).mono ?_
 rintro x w' ⟨rfl,rfl⟩
 go_wp2_with fail
 refine(hF.out _ HT.out).mono ?_
 rintro x W1 ⟨rfl,B1⟩
 have HB1:=Lib.hid B1
 have HT1:=Lib.hid (HT.out.below HB1.out (Nat.le_refl _))
 clear B1
 go_wp2_with fail
 refine(HEA.out W1 HT1.out).mono ?_
 rintro x W2 ⟨rfl,B2⟩
 have HB2:=Lib.hid (HB1.out.trans (B2.mono HB1.out.size))
 clear B2
 have l2:decide ((120:Int)<(u.size:Int))=true:=by simp;omega
 go_wp2
 go_ret2
 exact⟨rfl,HB2.out⟩
theorem value_yes (e n v t:ByteArray)(k:Int)(hk:Hid (KindAt e k))(h2:¬ k<2)(h14:(k==14)=false)(hF:Hid (FormAt e n v t true))(ht:t.size≤4000000)(hE:Hid ((escB t).size≤120))(w:World)(T:Tabs w) :
  Calls Tryz.prog 37 #[.string e,.string n,.string v] w fun x w'=>x=.returned (.tuple #[.string t,.bool true])∧Below w.heap.size w w':=by
 have l1:decide (k<2)=false:=by simpa using h2
 have HT:=Lib.hid T
 have hx:(escB t).size≤120:=hE.out
 have E:=esc_any t ht
 generalize escB t=u at hx E
 have HEA:=Lib.hid E
 clear h2 T E
 go_enter Tryz.func37,Tryz.ntmps37
 go_wp2_with fail
 refine(hk.out _).mono ?_
 rintro x w' ⟨rfl,rfl⟩
 go_wp2_with fail
 refine(hF.out _ HT.out).mono ?_
 rintro x W1 ⟨rfl,B1⟩
 have HB1:=Lib.hid B1
 have HT1:=Lib.hid (HT.out.below HB1.out (Nat.le_refl _))
 clear B1
 go_wp2_with fail
 refine(HEA.out W1 HT1.out).mono ?_
 rintro x W2 ⟨rfl,B2⟩
 have HB2:=Lib.hid (HB1.out.trans (B2.mono HB1.out.size))
 clear B2
 have l2:decide ((120:Int)<(u.size:Int))=false:=by simp;omega
 go_wp2
 go_ret2
 exact⟨rfl,HB2.out⟩
def sTitle:ByteArray:=⟨#[116,105,116,108,101]⟩
def sHref:ByteArray:=⟨#[104,114,101,102]⟩
def sA:ByteArray:=⟨#[97]⟩
theorem form_title (e v:ByteArray)(hv:v.size≤1000000000):FormAt e sTitle v ⟨(textL v.data.toList).toArray⟩ true:=by
 intro w T
 have HX:=Lib.hid (text_any v hv w T)
 clear T
 unfold sTitle
 go_enter Tryz.func83,Tryz.ntmps83
 go_wp2_with fail
 refine HX.out.mono ?_
 rintro x W1 ⟨rfl,B1⟩
 have HB1:=Lib.hid B1
 clear B1
 go_wp2
 go_ret2
 exact⟨rfl,HB1.out⟩
open Go.RowKit
theorem cat_a:(⟨#[97]⟩:ByteArray)++⟨#[32]⟩=⟨#[97,32]⟩:=by decide
theorem cat_ahref:(⟨#[97,32]⟩:ByteArray)++⟨#[104,114,101,102]⟩=⟨#[97,32,104,114,101,102]⟩:=by decide
def zHref:List ByteArray:=[⟨#[104,116,116,112]⟩,⟨#[104,116,116,112,115]⟩,⟨#[109,97,105,108,116,111]⟩]
theorem form_ahref (v:ByteArray)(b:Bool)(hb:Hid (linkOk zHref (linkL v.data.toList)=b))(hv:v.size≤1000000000):FormAt sA sHref v ⟨(linkL v.data.toList).toArray⟩ b:=by
 intro w T
 have HT:=Lib.hid T
 clear T
 unfold sA sHref
 have c1:=cat_a
 have c2:=cat_ahref
 go_enter Tryz.func83,Tryz.ntmps83
 go_wp2_with fail
 have hB:Below w.heap.size w (w.alloc (.cells #[Value.string ⟨#[104,116,116,112]⟩,Value.string ⟨#[104,116,116,112,115]⟩,Value.string ⟨#[109,97,105,108,116,111]⟩] 9)):=(Below.refl _ w).alloc (Nat.le_refl _) _
 have hS:StrsAt (w.alloc (.cells #[Value.string ⟨#[104,116,116,112]⟩,Value.string ⟨#[104,116,116,112,115]⟩,Value.string ⟨#[109,97,105,108,116,111]⟩] 9)) w.heap.size 0 zHref:=by
  intro j hj
  rw[Nat.zero_add,cell_of_row _ w.heap.size j _ 9 (0,0) (heap_alloc_new w _)]
  have:∀ j<3,(#[Value.string ⟨#[104,116,116,112]⟩,Value.string ⟨#[104,116,116,112,115]⟩,Value.string ⟨#[109,97,105,108,116,111]⟩]:Array Value)[j]?=some (Value.string (zHref.getD j ByteArray.empty)):=by
   intro j hj
   match j,hj with
   | 0,_=>rfl
   | 1,_=>rfl
   | 2,_=>rfl
  exact this j hj
 refine(linkf_any v hv w.heap.size 0 3 3 zHref rfl (by omega) _ (HT.out.below hB (Nat.le_refl _)) hS (by simp) b hb).mono ?_
 rintro x W1 ⟨rfl,B1⟩
 have HB1:=Lib.hid (hB.trans (B1.mono (by simp)))
 clear B1 hB hS
 go_wp2
 go_ret2
 exact⟨rfl,HB1.out⟩
def v1:ByteArray:=⟨#[72,84,84,80,58,47,47,97]⟩
def v2:ByteArray:=⟨#[32,74,97,118,97,9,83,99,114,105,112,116,58,120]⟩
end Go.Proofs.YtcfgbdhpcboikaaGreatDoor
