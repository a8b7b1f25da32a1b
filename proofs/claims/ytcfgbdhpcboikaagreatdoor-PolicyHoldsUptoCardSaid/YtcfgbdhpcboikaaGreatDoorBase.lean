/-
Lemmas on byte slices and frames, over any program: what a copy, an append, a conversion to a string does to slices of bytes. No program in sight.
-/
import Derived.WalkLawsBesides
import Derived.WalkSpells
import Derived.Laws.CopyOwn
import Derived.Laws.AppendOwnNone
import Derived.StillTailTactics
import Derived.Test.YtcfgbdhpcboikaaGreatDoorDecLaw
import Derived.Test.YtcfgbdhpcboikaaGreatDoorProg
import Derived.BigQuiet
import Derived.Lib.Hide
import Derived.Deep.LoopGhost
import GoSem.PinnedTables
namespace Go.Proofs.YtcfgbdhpcboikaaGreatDoor
open Go.Lib (hid)
set_option maxHeartbeats 1000000
set_option maxRecDepth 100000
open Go.RowKit
def cX (b:UInt8):Value:=.int .u8 b.toNat
theorem aDs (cs:List UInt8):∀v∈cs.map cX,v.oneCell'=true:=by
 intro v hv;obtain⟨b,_,rfl⟩:=List.mem_map.1 hv;rfl
structure aD (S:Nat→Prop) (w w':World):Prop where
 os:w'.os=w.os
 tape:w'.tape=w.tape
 output:w'.output=w.output
 size:w.heap.size≤w'.heap.size
 block:∀k,k<w.heap.size→¬S k→w'.heap[k]?=w.heap[k]?
theorem aD.refl (S:Nat→Prop)(w:World):aD S w w:=⟨rfl,rfl,rfl,Nat.le_refl _,fun _ _ _=>rfl⟩
theorem aD.trans {S:Nat→Prop}{a b c:World}(h:aD S a b)(k:aD S b c):aD S a c :=
 ⟨k.os.trans h.os,k.tape.trans h.tape,k.output.trans h.output,Nat.le_trans h.size k.size,fun i hi hs=>(k.block i (Nat.lt_of_lt_of_le hi h.size) hs).trans (h.block i hi hs)⟩
theorem aD.mono {S S':Nat→Prop}{a b:World}(h:aD S a b)(hs:∀k,k<a.heap.size→S k→S' k):aD S' a b :=
 ⟨h.os,h.tape,h.output,h.size,fun k hk hn=>h.block k hk (fun x=>hn (hs k hk x))⟩
theorem aD.trans' {S S':Nat→Prop}{a b c:World}(h:aD S a b)(k:aD S' b c)(hs:∀i,i<a.heap.size→S' i→S i):aD S a c :=
 ⟨k.os.trans h.os,k.tape.trans h.tape,k.output.trans h.output,Nat.le_trans h.size k.size,fun i hi hn=>(k.block i (Nat.lt_of_lt_of_le hi h.size) (fun x=>hn (hs i hi x))).trans (h.block i hi hn)⟩
theorem aD.drew {S:Nat→Prop}{a b:World}(h:aD S a b):aD S a b.drew:=⟨h.os,h.tape,h.output,h.size,h.block⟩
theorem aD.drewN {S:Nat→Prop}{a b:World}(h:aD S a b)(n:Nat):aD S a (b.drewN n):=⟨h.os,h.tape,h.output,h.size,h.block⟩
theorem aD.alloc {S:Nat→Prop}{a b:World}(h:aD S a b)(o:Obj):aD S a (b.alloc o) :=
 h.trans ⟨rfl,rfl,rfl,by simp,fun k hk _=>Below.heap_alloc b o k hk⟩
theorem aD.setCell {S:Nat→Prop}{a b:World}(h:aD S a b)(p:Addr)(v:Value)(hp:p.block<a.heap.size→S p.block):aD S a (b.setCell p v) :=
 h.trans' (S':=(· = p.block)) ⟨rfl,rfl,rfl,by simp[World.setCell],fun k _ hn=>heap_setCell_other b p k v hn⟩ (fun i hi e=>by subst e;exact hp hi)
theorem aD.below {S:Nat→Prop}{B:Nat}{w w':World}(h:aD S w w')(hB:B≤w.heap.size)(hs:∀k,k<w.heap.size→S k→B≤k):Below B w w' :=
 ⟨h.os,h.tape,h.output,h.size,fun k hk=>h.block k (by omega) (fun x=>by have:=hs k (by omega) x;omega)⟩
theorem aD.of_below {B:Nat}{w w':World}(h:Below B w w'):aD (B≤·) w w' :=
 ⟨h.os,h.tape,h.output,h.size,fun k _ hn=>h.block k (by omega)⟩
theorem aD.of_grownBy {w w':World}{row:Option Nat}(h:w.grownBy w' row):aD (fun k=>some k=row) w w' :=
 ⟨h.os,h.tape,h.output,h.size,fun k hk hn=>h.block k hk hn⟩
theorem aD.heap {S:Nat→Prop}{w w':World}(h:aD S w w'){k:Nat}{o:Obj}(hk:w.heap[k]?=some o)(hs:¬S k):w'.heap[k]?=some o :=
 (h.block k (Array.getElem?_eq_some_iff.1 hk).1 hs).trans hk
theorem aD.cell {S:Nat→Prop}{w w':World}(h:aD S w w'){p:Addr}{v:Value}(hk:w.cell? p=some v)(hs:¬S p.block):w'.cell? p=some v :=
 (World.cell?_of_block (h.block p.block (World.block_lt_of_cell? w p hk) hs)).trans hk
def IsB (w:World)(a:Option Addr)(bs:List UInt8):Prop :=
 ∀j b,bs[j]?=some b→∃x,a=some x∧w.cell? (x.add j)=some (cX b)
theorem wQ (x:Addr)(i j:Nat):(x.add i).add j=x.add (i+j):=by
 unfold Addr.add;by_cases hi:i=0<;>by_cases hj:j=0<;>simp[hi,hj]<;>omega
theorem tZ (x:Addr)(i:Nat):(x.add i).block=x.block:=by unfold Addr.add;split<;>rfl
theorem IsB.nil (w:World)(a:Option Addr):IsB w a []:=fun j b h=>by simp at h
theorem IsB.none_eq {w:World}{bs:List UInt8}(h:IsB w none bs):bs=[]:=by
 cases bs with
 | nil=>rfl
 | cons b bs=>obtain⟨x,hx,_⟩:=h 0 b rfl;cases hx
theorem IsB.values {w:World}{x:Addr}{bs:List UInt8}(h:IsB w (some x) bs):∀j u,(bs.map cX)[j]?=some u→w.cell? (x.add j)=some u:=by
 intro j u hu;rw[List.getElem?_map]at hu
 cases hb:bs[j]? with
 | none=>rw[hb]at hu;cases hu
 | some b =>
  rw[hb]at hu
  simp at hu;subst hu;obtain⟨y,hy,hc⟩:=h j b hb;cases hy;exact hc
theorem IsB.take {w:World}{a:Option Addr}{bs:List UInt8}(h:IsB w a bs)(n:Nat):IsB w a (bs.take n):=by
 intro j b hb;rw[List.getElem?_take]at hb
 split at hb
 ·exact h j b hb
 ·cases hb
theorem IsB.cut {w:World}{a:Option Addr}{bs:List UInt8}(h:IsB w a bs)(l m:Nat)(hm:bs.length≤m):IsB w (if m=l then a else a.map (·.add l)) (bs.drop l):=by
 intro j b hb;rw[List.getElem?_drop]at hb
 have hj:l+j<bs.length:=by
  rcases Nat.lt_or_ge (l+j) bs.length with h1|h1
  ·exact h1
  ·rw[List.getElem?_eq_none h1]at hb;cases hb
 obtain⟨x,rfl,hc⟩:=h (l+j) b hb;rw[if_neg (by omega)];exact⟨x.add l,rfl,by rw[wQ x l j];exact hc⟩
theorem IsB.kept {S:Nat→Prop}{w w':World}{a:Option Addr}{bs:List UInt8}(h:IsB w a bs)(k:aD S w w')(hs:∀x,a=some x→bs≠[]→¬S x.block):IsB w' a bs:=by
 intro j b hb;obtain⟨x,hx,hc⟩:=h j b hb;exact⟨x,hx,k.cell hc (by rw[tZ];exact hs x hx (by intro e;subst e;simp at hb))⟩
theorem IsB.lt {w:World}{x:Addr}{bs:List UInt8}(h:IsB w (some x) bs)(hb:bs≠[]):x.block<w.heap.size:=by
 cases bs with
 | nil=>exact absurd rfl hb
 | cons b bs =>
  obtain⟨y,hy,hc⟩:=h 0 b rfl;cases hy;have:=World.block_lt_of_cell? w _ hc;rw[tZ]at this
  exact this
theorem IsB.of_heap {w:World}{g:Nat}{arr:List UInt8}{E:TypeId}{fz:Nat × Nat}(h:w.heap[g]?=some (.cells (arr.map cX).toArray E fz))(o:Nat):IsB w (some ⟨g,o,none⟩) (arr.drop o):=by
 intro j b hb;refine⟨_,rfl,?_⟩;have hadd:(⟨g,o,none⟩:Addr).add j=⟨g,o+j,none⟩:=by unfold Addr.add;split<;>simp_all
 rw[hadd,cell_of_row w g (o+j) _ _ _ h];rw[List.getElem?_drop]at hb
 simp[hb]
section
variable {P:Program} {w:World} {ops:Array Oper} {rest:List Oper} {o:Oper} {a:Act} {Q:Exit→Act→World→Prop}
theorem aFl (k:Nat):madeCells (Value.int .u8 0).cells (k*1)=((List.replicate k (0:UInt8)).map cX).toArray:=by
 apply Array.toList_inj.1;rw[show(Value.int .u8 0).cells=#[Value.int .u8 0]from rfl,toList_madeCells_one];simp[cX]
def gW (w:World)(base:Nat)(E:TypeId)(a:Option Addr)(c:Nat)(bs:List UInt8):Prop :=
 w.ownsRow base E 1 (.slice a bs.length c) bs.length (bs.map cX)
theorem gW.nil (w:World)(base:Nat)(E:TypeId):gW w base E none 0 []:=World.ownsRow_nil w base E 1
theorem gW.isB {base:Nat}{E:TypeId}{x:Option Addr}{c:Nat}{bs:List UInt8}(h:gW w base E x c bs):IsB w x bs:=by
 intro j b hb;rcases h.2 with⟨hv,h0⟩|⟨g,cap,cur,hv,hbg,hg,hnc,hcm,hcs,htake⟩
 ·obtain rfl:bs=[]:=List.eq_nil_of_length_eq_zero h0;simp at hb
 ·simp only[Value.slice.injEq]at hv;obtain⟨rfl,_,rfl⟩:=hv;refine⟨_,rfl,?_⟩;have hadd:(⟨g,0,none⟩:Addr).add j=⟨g,j,none⟩:=by unfold Addr.add;split<;>simp_all
  rw[hadd,cell_of_row w g j cur E (0,0) hg];have hj:j<bs.length:=by
   rcases Nat.lt_or_ge j bs.length with h1|h1
   ·exact h1
   ·rw[List.getElem?_eq_none h1]at hb;cases hb
  have h2:(cur.toList.take (bs.length*1))[j]?=some (cX b):=by rw[htake];simp[hb]
  rw[List.getElem?_take]at h2
  rw[if_pos (by omega)]at h2
  simpa using h2
theorem gW.cap {base:Nat}{E:TypeId}{x:Option Addr}{c:Nat}{bs:List UInt8}(h:gW w base E x c bs):bs.length≤c∧c≤maxLen:=by
 rcases h.2 with⟨hv,h0⟩|⟨g,cap,cur,hv,hbg,hg,hnc,hcm,hcs,htake⟩
 ·simp only[Value.slice.injEq]at hv;obtain⟨_,h1,rfl⟩:=hv;exact⟨by omega,by unfold maxLen;omega⟩
 ·simp only[Value.slice.injEq]at hv;obtain⟨_,_,rfl⟩:=hv;exact⟨hnc,hcm⟩
theorem gW.at {base:Nat}{E:TypeId}{x:Option Addr}{c:Nat}{bs:List UInt8}(h:gW w base E x c bs):∀y,x=some y→base≤y.block∧y.block<w.heap.size:=by
 intro y hy;subst hy;exact h.lt y.block rfl
theorem gW.kept {S:Nat→Prop}{w':World}{base:Nat}{E:TypeId}{x:Option Addr}{c:Nat}{bs:List UInt8}(h:gW w base E x c bs)(k:aD S w w')(hs:∀y,x=some y→¬S y.block):gW w' base E x c bs:=by
 refine⟨h.1,?_⟩;rcases h.2 with hn|⟨g,cap,cur,hv,hb,hgg,rest⟩
 ·exact .inl hn
 ·have hv':=hv;simp only[Value.slice.injEq]at hv';exact .inr ⟨g,cap,cur,hv,hb,k.heap hgg (hs _ hv'.1),rest⟩
theorem aAJ (base:Nat)(t ty e:TypeId)(i:TypeInfo)(ht:P.underlying t=some (.slice e))(hi:P.info? e=some i)
  (v:Value) (n c:Nat) (xs:List Value) (hown:w.ownsRow base e 1 v n xs) :
  (Builtin.append_ #[t,t] ty #[v,.slice none 0 c]).run P w=.ok v w:=by
 rcases hown.2 with⟨rfl,rfl⟩|⟨g,cap,cur,rfl,_,_,hnc,_⟩
 ·simp[Builtin.append_,run_underlying ht,sizeOf,typeInfo,hi,Builtin.lenOf,Builtin.firstCells]
 ·simp[Builtin.append_,run_underlying ht,sizeOf,typeInfo,hi,Builtin.lenOf,Builtin.firstCells,hnc,storeCells]
theorem aIj {K:Act→World→Prop}(s x:Operand)(t:TypeId)
  (ho:o.op=.call { callee:=.builtin .append,args:=#[s,x],argTypes:=#[t,t] })
  (base:Nat) (E:TypeId) (i:TypeInfo) (ht:P.underlying t=some (.slice E)) (hi:P.info? E=some i) (hz:i.zero=some (.int .u8 0))
  (hsize:i.size=1) (hby:i.bytes=1)
  (ad:Option Addr) (n c:Nat) (bs:List UInt8) (hs:a.eval s=.slice ad n c) (hn:bs.length=n) (hown:gW w base E ad c bs)
  (sp:Option Addr) (m sc:Nat) (cs:List UInt8) (hx:a.eval x=.slice sp m sc) (hm:cs.length=m) (hsrc:IsB w sp cs)
  (hbytes:n+m≤140737488355328) (hbase:base≤w.heap.size)
  (h:∀ad' c' w',Hid (gW w' base E ad' c' (bs++cs))→aD (fun k=>ad.map (·.block)=some k) w w'→(∀y,ad'=some y→ad.map (·.block)=some y.block∨w.heap.size≤y.block) →
   K (a.put o.dst (.slice ad' (n+m:Nat) c')) w'):o.wp P a w K Q:=by
 subst hn;subst hm;cases sp with
 | none =>
  have h0:=hsrc.none_eq;subst h0;have hrun:=aAJ (P:=P) (w:=w) base t o.type E i ht hi (.slice ad bs.length c) bs.length sc _ hown;unfold Oper.wp;have hx':a.eval x=.slice none 0 sc:=by simpa using hx
  simp[execOp,ho,resolve,invoke,builtin,hs,hx',hrun,Result.andThen];have:=h ad c w (show gW _ _ _ _ _ _ by simpa using hown) (aD.refl _ _) (fun y hy=>.inl (by subst hy;rfl));simp only[List.length_nil,Nat.add_zero]at this;exact this
 | some y =>
  obtain⟨v',w',hr,hown',hgrow,hnil,hat⟩:=run_append_own_at (P:=P) w base t o.type E i (.int .u8 0) 1 1 ht hi hz hsize hby rfl (by decide) (.slice ad bs.length c) bs.length _ hown y cs.length sc (cs.map cX) (by simp) hsrc.values (aDs cs)
   (by unfold maxLen;omega) (by omega) hbase
  unfold Oper.wp execOp;simp only[ho,resolve,invoke,builtin,Sem.run_bind,Sem.run_pure,Result.andThen_ok,List.map_toArray,List.map_cons,List.map_nil,hs,hx,hr];clear hr;have hex:∃ad' c',v'=.slice ad' (bs.length+cs.length) c':=by
   rcases hown'.2 with⟨rfl,h0⟩|⟨g,cap,cur,rfl,_⟩
   ·exact⟨none,0,by rw[h0]⟩
   ·exact⟨_,_,rfl⟩
  obtain⟨ad',c',rfl⟩:=hex;have hmap:(Value.slice ad bs.length c).ownBlock=ad.map (·.block):=by cases ad<;>rfl
  have hK:aD (fun k=>ad.map (·.block)=some k) w w':=by
   refine(aD.of_grownBy hgrow).mono ?_;intro k _ hk;rw[←hmap];exact hk.symm
  refine h ad' c' w' (show gW _ _ _ _ _ _ by unfold gW;simpa using hown') hK ?_;intro y' hy';subst hy';rw[hmap]at hat
  rcases hat with h1|h1
  ·left;rw[←h1];rfl
  ·right;have:y'.block=w.heap.size:=by simpa [Value.ownBlock]using h1
   omega
theorem aCD (hgd:o.guard=none)(s x:Operand)(t:TypeId)
  (ho:o.op=.call { callee:=.builtin .append,args:=#[s,x],argTypes:=#[t,t] })
  (base:Nat) (E:TypeId) (i:TypeInfo) (ht:P.underlying t=some (.slice E)) (hi:P.info? E=some i) (hz:i.zero=some (.int .u8 0))
  (hsize:i.size=1) (hby:i.bytes=1)
  (ad:Option Addr) (n c:Nat) (bs:List UInt8) (hs:a.eval s=.slice ad n c) (hn:bs.length=n) (hown:gW w base E ad c bs)
  (sp:Option Addr) (m sc:Nat) (cs:List UInt8) (hx:a.eval x=.slice sp m sc) (hm:cs.length=m) (hsrc:IsB w sp cs)
  (hbytes:n+m≤140737488355328) (hbase:base≤w.heap.size)
  (h:∀ad' c' w',Hid (gW w' base E ad' c' (bs++cs))→aD (fun k=>ad.map (·.block)=some k) w w'→(∀y,ad'=some y→ad.map (·.block)=some y.block∨w.heap.size≤y.block) →
   wpList P ops Q rest (a.put o.dst (.slice ad' (n+m:Nat) c')) w'):wpList P ops Q (o :: rest) a w :=
 wpList_plain hgd fun _ hK=>aIj s x t ho base E i ht hi hz hsize hby ad n c bs hs hn hown sp m sc cs hx hm hsrc hbytes hbase fun ad' c' w' h1 h2 h3=>hK _ _ (h ad' c' w' h1 h2 h3)
end
theorem pX {P:Program}(w:World)(src E dst:TypeId)(hs:P.underlying src=some (.slice E))(he:P.underlying E=some (.int .u8))(hd:P.underlying dst=some .string)
  (x:Option Addr) (bs:List UInt8) (n c:Nat) (hn:bs.length=n) (h:IsB w x bs):(convert src dst (.slice x n c)).run P w=.ok (.string ⟨bs.toArray⟩) w:=by
 subst hn;cases x with
 | none =>
  obtain rfl:=h.none_eq;exact run_convert_bytes_nil w src E hs he 0 c dst hd
 | some y =>
  have hl:(loadCells y bs.length).run P w=.ok ((bs.map fun b=>(b.toNat:Int)).map (Value.int .u8)).toArray w:=by
   have:=run_loadCells_list (P:=P) w y (bs.map cX) h.values;simpa [show cX=fun b=>Value.int .u8 b.toNat from rfl,Function.comp_def]using this
  rw[run_convert_bytes_string w src dst E _ bs.length c hs he hd,run_bytesToString w _ bs.length c _ hl,foldl_push_bytes];simp[Function.comp_def,ByteArray.empty,ByteArray.emptyWithCapacity];rfl
open Go.RowKit
def kP (s:Dec.Dc):List Value:=s.D.map cX++[.int .i64 s.nd,.int .i64 s.dp,.bool s.neg,.bool s.trunc]
structure aC (w:World) (B:Nat) (s:Dec.Dc):Prop where
 h:w.heap[B]?=some (.cells (kP s).toArray 234 (0,0))
 len:s.D.length=800
section
variable {w:World} {B:Nat} {s:Dec.Dc}
theorem aC.byte (h:aC w B s)(i:Nat)(hi:i<s.D.length):w.cell? ⟨B,i,none⟩=some (.int .u8 (s.D[i].toNat:Nat)):=by
 rw[cell_of_row w B i _ _ _ h.h];unfold kP;rw[List.getElem?_toArray,List.getElem?_append,if_pos (by rw[List.length_map];exact hi),List.getElem?_map,List.getElem?_eq_getElem hi];rfl
theorem aC.tail (h:aC w B s)(j:Nat):w.cell? ⟨B,800+j,none⟩=[Value.int .i64 s.nd,.int .i64 s.dp,.bool s.neg,.bool s.trunc][j]?:=by
 rw[cell_of_row w B _ _ _ _ h.h];unfold kP;rw[List.getElem?_toArray,List.getElem?_append,if_neg (by rw[List.length_map,h.len];omega),List.length_map,h.len,show 800+j-800=j by omega]
theorem aC.nd (h:aC w B s):w.cell? ⟨B,800,none⟩=some (.int .i64 s.nd):=h.tail 0
theorem aC.dp (h:aC w B s):w.cell? ⟨B,801,none⟩=some (.int .i64 s.dp):=h.tail 1
theorem aC.neg (h:aC w B s):w.cell? ⟨B,802,none⟩=some (.bool s.neg):=h.tail 2
theorem aC.trunc (h:aC w B s):w.cell? ⟨B,803,none⟩=some (.bool s.trunc):=h.tail 3
theorem aC.fz (h:aC w B s)(j:Nat):w.frozen? ⟨B,j,none⟩=false:=frozen_of_row w B j _ _ h.h
theorem aC.lt (h:aC w B s):B<w.heap.size:=(Array.getElem?_eq_some_iff.1 h.h).1
theorem aC.same {w':World}(h:aC w B s)(e:w'.heap=w.heap):aC w' B s:=⟨by rw[e];exact h.h,h.len⟩
theorem aC.drewN (h:aC w B s)(n:Nat):aC (w.drewN n) B s:=h.same rfl
theorem aC.kept {w':World}{S:Nat→Prop}(h:aC w B s)(k:aD S w w')(hs:¬S B):aC w' B s:=⟨k.heap h.h hs,h.len⟩
theorem aC.setByte (h:aC w B s)(i:Nat)(hi:i<800)(c:UInt8)(v:Int)(hv:v=(c.toNat:Nat)):aC (w.setCell ⟨B,i,none⟩ (.int .u8 v)) B { s with D:=s.D.set i c }:=by
 subst hv;refine⟨?_,by rw[List.length_set];exact h.len⟩;rw[heap_setCell_same _ _ _ _ _ _ h.h];congr 2;apply Array.toList_inj.1;unfold kP;rw[Array.toList_setIfInBounds,List.set_append,if_pos (by rw[List.length_map,h.len];exact hi)];simp only[List.map_set];rfl
theorem kQ (s s':Dec.Dc)(hl:s.D.length=800)(hD:s'.D=s.D)(j:Nat)(v:Value)
  (h:[Value.int .i64 s.nd,.int .i64 s.dp,.bool s.neg,.bool s.trunc].set j v=[Value.int .i64 s'.nd,.int .i64 s'.dp,.bool s'.neg,.bool s'.trunc]) :
  (kP s).toArray.setIfInBounds (800+j) v=(kP s').toArray:=by
 apply Array.toList_inj.1;unfold kP;rw[Array.toList_setIfInBounds,List.set_append,if_neg (by rw[List.length_map,hl];omega),List.length_map,hl,show 800+j-800=j by omega,h,hD]
theorem aC.setNd (h:aC w B s)(n:Nat):aC (w.setCell ⟨B,800,none⟩ (.int .i64 n)) B { s with nd:=n } :=
 ⟨by rw[heap_setCell_same _ _ _ _ _ _ h.h,kQ s { s with nd:=n } h.len rfl 0 _ rfl],h.len⟩
theorem aC.setNdV (h:aC w B s)(n:Nat)(v:Int)(hv:v=(n:Nat)):aC (w.setCell ⟨B,800,none⟩ (.int .i64 v)) B { s with nd:=n }:=by
 subst hv;exact h.setNd n
theorem aC.setDpV (h:aC w B s)(n v:Int)(hv:v=n):aC (w.setCell ⟨B,801,none⟩ (.int .i64 v)) B { s with dp:=n }:=by
 subst hv;exact⟨by rw[heap_setCell_same _ _ _ _ _ _ h.h,kQ s { s with dp:=v } h.len rfl 1 _ rfl],h.len⟩
theorem aC.setDp (h:aC w B s)(n:Int):aC (w.setCell ⟨B,801,none⟩ (.int .i64 n)) B { s with dp:=n } :=
 ⟨by rw[heap_setCell_same _ _ _ _ _ _ h.h,kQ s { s with dp:=n } h.len rfl 1 _ rfl],h.len⟩
theorem aC.setNeg (h:aC w B s)(b:Bool):aC (w.setCell ⟨B,802,none⟩ (.bool b)) B { s with neg:=b } :=
 ⟨by rw[heap_setCell_same _ _ _ _ _ _ h.h,kQ s { s with neg:=b } h.len rfl 2 _ rfl],h.len⟩
theorem aC.setTr (h:aC w B s)(b:Bool):aC (w.setCell ⟨B,803,none⟩ (.bool b)) B { s with trunc:=b } :=
 ⟨by rw[heap_setCell_same _ _ _ _ _ _ h.h,kQ s { s with trunc:=b } h.len rfl 3 _ rfl],h.len⟩
end
def aKQ (B:Nat)(s:Dec.Dc)(w:World)(e:Ending)(w':World):Prop:=e=.returned (.tuple #[])∧aC w' B (Dec.trimD s)∧aD (· = B) w w'
theorem aAP (B:Nat)(s:Dec.Dc)(w:World)(h:aC w B s)(hn:s.nd≤800) :
  Calls Tryz.prog 287 #[.pointer (some ⟨B,0,none⟩)] w (aKQ B s w):=by
 have H:=hid h;have L:=hid h.len;clear h;go_enter Tryz.func287,Tryz.ntmps287
 go_wp2_with fail
 go_loopg [] s.nd (fun g wr=>∃k:Nat,g=k∧k≤s.nd∧aC wr B { s with nd:=k }∧Dec.trimL (s.D.take k)=Dec.trimL (s.D.take s.nd)∧aD (· = B) w wr)
 case atStart=>exact⟨s.nd,rfl,Nat.le_refl _,H.out,rfl,aD.refl _ _⟩
 case round =>
  obtain⟨k,hgk,hk,hd,ht,hK⟩:=hrel;have HGK:=hid hgk;clear hgk;have f0:=hd.fz 800;have f1:=hd.fz 801;have c801:wr.cell? ⟨B,801,none⟩=some (.int .i64 s.dp):=hd.dp;have HD:=hid hd;have HT:=hid ht;have HK:=hid hK;by_cases h0:k=0
  ·subst h0;have c8:wr.cell? ⟨B,800,none⟩=some (.int .i64 0):=hd.nd;clear hd ht hK hk;go_wp2_with fail
   go_quiet (fail)
   go_wp2
   go_end0
   have t0:Dec.trimL (s.D.take s.nd)=0:=HT.out.symm;have e:Dec.trimD s={ ({ s with nd:=0 }:Dec.Dc)with dp:=0 }:=by unfold Dec.trimD;rw[t0,if_pos rfl]
   refine⟨rfl,?_,(HK.out.drewN _).setCell _ _ (fun _=>rfl)⟩;rw[e];exact(HD.out.drewN _).setDp 0
  ·obtain⟨i,rfl⟩:∃i,k=i+1:=⟨k-1,by omega⟩
   have hi:i<s.D.length:=by rw[L.out];omega
   have c8:wr.cell? ⟨B,800,none⟩=some (.int .i64 ((i:Int)+1)):=by have:=hd.nd;simpa using this
   have ci:wr.cell? ⟨B,i,none⟩=some (.int .u8 (s.D[i].toNat:Nat)):=hd.byte i hi;obtain⟨c,hc⟩:∃c,s.D[i]=c:=⟨_,rfl⟩
   rw[hc]at ci
   have hg:s.D[i]?=some c:=by rw[List.getElem?_eq_getElem hi,hc]
   have HG:=hid hg;have i800:i<800:=by omega
   clear hd ht hK hc hg hi h0;by_cases h48:c=48
   ·have e1:((c.toNat:Int)==48)=true:=by rw[h48];rfl
    have H48:=hid h48;clear h48;have w1:IntKind.i64.wrap ((i:Int)+1-1)=i:=by rw[IntWalk.i64_in _ (by omega)];omega
    go_wp2_with fail
    go_quiet (fail)
    go_wp2
    go_roundg i
    case measure=>have:=HGK.out;omega
    case rel=>exact⟨i,rfl,by omega,(HD.out.drewN _).setNd i,(Dec.trimL_take s.D i c HG.out H48.out).symm.trans HT.out,(HK.out.drewN _).setCell _ _ (fun _=>rfl)⟩
   ·have e1:((c.toNat:Int)==48)=false:=beq_eq_false_iff_ne.2 (by intro e;exact h48 (UInt8.toNat_inj.1 (by show _=48;omega)));have H48:=hid h48;clear h48;have w1:IntKind.i64.wrap ((i:Int)+1-1)=i:=by rw[IntWalk.i64_in _ (by omega)];omega
    go_wp2_with fail
    go_quiet (fail)
    go_wp2
    go_end0
    have t0:Dec.trimL (s.D.take s.nd)=i+1:=HT.out.symm.trans (Dec.trimL_stop s.D i c HG.out H48.out);have e:Dec.trimD s={ s with nd:=i+1 }:=by unfold Dec.trimD;rw[t0,if_neg (by omega)]
    refine⟨rfl,?_,HK.out.drewN _⟩;rw[e];exact HD.out.drewN _
open Go.RowKit
def lX (l:List UInt8):List Nat:=l.map UInt8.toNat
theorem xP (l:List UInt8)(k:Nat)(c:UInt8)(h:l[k]?=some c):(lX l).drop k=c.toNat :: (lX l).drop (k+1):=by
 obtain⟨hk,e⟩:=List.getElem?_eq_some_iff.1 h;unfold lX;rw[←List.map_drop,←List.map_drop,List.drop_eq_getElem_cons hk,e];rfl
theorem aEz (l:List UInt8)(k:Nat)(h:l.length≤k):(lX l).drop k=[]:=List.drop_eq_nil_of_le (by unfold lX;rw[List.length_map];exact h)
theorem vT {a b:Bool}(h:a=b):Ending.returned (.bool a)=.returned (.bool b):=by rw[h]
theorem aJP (B n c:Nat)(d:Dec.Dc)(s:ByteArray)(w:World)(h:aC w B d)(hn:n≤800)(_hs:s.size≤1000) :
  Calls Tryz.prog 296 #[.slice (some ⟨B,0,none⟩) n c,.string s] w fun e w'=>e=.returned (.bool (Dec.less (lX (d.D.take n)) (lX s.data.toList)))∧∃m,w'=w.drewN m:=by
 have H:=hid h;have L:=hid h.len;obtain⟨r,hr⟩:∃r,Dec.less (lX (d.D.take n)) (lX s.data.toList)=r:=⟨_,rfl⟩
 have HR:=hid hr;rw[hr];clear h hr;go_enter Tryz.func296,Tryz.ntmps296
 go_wp2_with fail
 go_loopw [5] (fun i wr=>∃k m:Nat,k≤s.size∧i=.int .i64 k∧Dec.less ((lX (d.D.take n)).drop k) ((lX s.data.toList).drop k)=r∧wr=w.drewN m) (fun i _=>s.size-(intOf i).toNat)
 case atStart=>exact⟨0,0,Nat.zero_le _,rfl,HR.out,rfl⟩
 case round =>
  obtain⟨k,m,hk,rfl,hl,hw⟩:=hrel;have HD:Hid (aC wr B d):=by rw[hw];exact H.out.drewN m
  have HW:=hid hw;have HL:=hid hl;clear hw hl;by_cases hlt:k<s.size
  ·by_cases hkn:k<n
   ·have hkD:k<d.D.length:=by rw[L.out];omega
    have ci:wr.cell? ⟨B,k,none⟩=some (.int .u8 (d.D[k].toNat:Nat)):=HD.out.byte k hkD;obtain⟨b,hb⟩:∃b,d.D[k]=b:=⟨_,rfl⟩
    rw[hb]at ci
    have g1:(d.D.take n)[k]?=some b:=by rw[List.getElem?_take,if_pos hkn,List.getElem?_eq_getElem hkD,hb]
    have g2:s.data.toList[k]?=some s[k]:=by rw[List.getElem?_eq_getElem (by simpa using hlt)];rfl
    have G1:=hid (xP _ _ _ g1);have G2:=hid (xP _ _ _ g2);clear g1 g2 hb hkD;by_cases he:b.toNat=s[k].toNat
    ·have e1:((b.toNat:Int) !=(s[k].toNat:Int))=false:=bne_eq_false_iff_eq.2 (by omega);have HE:=hid he;clear he;go_wp2_with fail
     go_quiet (fail)
     go_wp2
     go_roundw
     case measure=>simp[intOf];omega
     case rel =>
      refine⟨k+1,m+nq,by omega,by go_num,?_,?_⟩
      ·rw[←HL.out,G1.out,G2.out];show _=(if b.toNat=s[k].toNat then _ else _)
       rw[if_pos HE.out]
      ·rw[HW.out,World.drewN_drewN]
    ·have e1:((b.toNat:Int) !=(s[k].toNat:Int))=true:=bne_iff_ne.2 (by omega);have HE:=hid he;clear he;go_wp2_with fail
     go_quiet (fail)
     go_wp2_with fail
     go_quiet (fail)
     go_wp2
     go_ret;refine⟨vT ?_,_,by rw[HW.out,World.drewN_drewN,World.drewN_drewN]⟩;rw[←HL.out,G1.out,G2.out];show _=(if b.toNat=s[k].toNat then _ else _)
     rw[if_neg HE.out]
   ·have hl0:(d.D.take n).length≤k:=by rw[List.length_take];omega
    have G1:=hid (aEz _ _ hl0);have g2:s.data.toList[k]?=some s[k]:=by rw[List.getElem?_eq_getElem (by simpa using hlt)];rfl
    have G2:=hid (xP _ _ _ g2);clear g2 hl0;go_wp2
    go_ret;refine⟨vT ?_,m,HW.out⟩;rw[←HL.out,G1.out,G2.out];rfl
  ·have G2:=hid (aEz s.data.toList k (by show s.size≤k;omega));go_wp2
   go_ret;refine⟨vT ?_,m,HW.out⟩;rw[←HL.out,G2.out];cases (lX (d.D.take n)).drop k<;>rfl
theorem aHs (x y:List Nat):Dec.less (x.map (· + 48)) (y.map (· + 48))=Dec.less x y:=by
 induction x generalizing y with
 | nil=>cases y<;>rfl
 | cons a x ih =>
  cases y with
  | nil=>rfl
  | cons b y =>
   show(if a+48=b+48 then _ else _)=(if a=b then _ else _)
   by_cases h:a=b
   ·rw[if_pos (by omega),if_pos h];exact ih y
   ·rw[if_neg (by omega),if_neg h];by_cases g:a<b
    ·rw[decide_eq_true g,decide_eq_true (show a+48<b+48 by omega)]
    ·rw[decide_eq_false g,decide_eq_false (show ¬a+48<b+48 by omega)]
theorem aLS (s:Dec.Dc)(h:Dec.Fine s):lX (s.D.take s.nd)=(Dec.dgs s.D s.nd).map (· + 48):=by
 unfold lX Dec.dgs;rw[List.map_map];refine List.map_congr_left fun c hc=>?_
 have:=h.dig c hc;show c.toNat=Dec.un c+48;unfold Dec.un;omega
theorem aIE:∀k<61,k≠0→(Pinned.cheatRows.getD k (0,[])).1=Dec.more k∧lX (Pinned.cheatRows.getD k (0,[])).2=(Dec.cut k).map (· + 48)∧(Pinned.cheatRows.getD k (0,[])).2.length≤60:=by decide +kernel
end Go.Proofs.YtcfgbdhpcboikaaGreatDoor
