/-
  Lemmas on byte slices and frames, over any program: what a copy, an append, a conversion to a string does to slices of bytes. No program in sight.
  Trees of nodes in memory; how many nodes a budget leaves (policy.few).
  policy.elem, plain, text; Attrs and Equal of no attributes.
  The library's sort of no attributes; policy.Attrs of none.
  policy.holds of an element b: alone, and around another b.
  policy.holds of a body with one b in it.
  policy.heads of the one meta; Holds of the least pages.
  The size of a node.
-/
import Derived.WalkKit
import Derived.WalkLawsBesides
import Derived.WalkSpells
import Derived.Laws.CopyOwn
import Derived.Laws.AppendOwnNone
import Derived.Laws.BytesArg
import Derived.Maps.AppendAt
import Derived.StillTailTactics
import Derived.Deep.Draws
import Derived.Test.YtcfgbdhpcboikaaGreatDoorProg
import Derived.Lib.Hide
import Derived.LoopTactic
import Derived.Test.YtcfgbdhpcboikaaGreatDoorMayW
import Derived.Test.YtcfgbdhpcboikaaGreatDoorSched
import Derived.Deep.QuietTactic
import Derived.BigQuiet
import Derived.Test.YtcfgbdhpcboikaaGreatDoorShelf
import Derived.Lib.FrozenHead2
namespace Go.Proofs.YtcfgbdhpcboikaaGreatDoor
set_option maxRecDepth 100000
open Go.RowKit
def byteV (b:UInt8):Value:=.int .u8 b.toNat
theorem oneCell_byteV (cs:List UInt8):∀ v∈cs.map byteV,v.oneCell'=true:=by
 intro v hv
 obtain⟨b,_,rfl⟩:=List.mem_map.1 hv
 rfl
structure Kept (S:Nat→Prop) (w w':World):Prop where
 os:w'.os=w.os
 tape:w'.tape=w.tape
 output:w'.output=w.output
 size:w.heap.size≤w'.heap.size
 block:∀ k,k<w.heap.size→¬ S k→w'.heap[k]?=w.heap[k]?
theorem Kept.refl (S:Nat→Prop)(w:World):Kept S w w:=⟨rfl,rfl,rfl,Nat.le_refl _,fun _ _ _=>rfl⟩
theorem Kept.trans {S:Nat→Prop}{a b c:World}(h:Kept S a b)(k:Kept S b c):Kept S a c :=
 ⟨k.os.trans h.os,k.tape.trans h.tape,k.output.trans h.output,Nat.le_trans h.size k.size,fun i hi hs=>(k.block i (Nat.lt_of_lt_of_le hi h.size) hs).trans (h.block i hi hs)⟩
theorem Kept.mono {S S':Nat→Prop}{a b:World}(h:Kept S a b)(hs:∀ k,k<a.heap.size→S k→S' k):Kept S' a b :=
 ⟨h.os,h.tape,h.output,h.size,fun k hk hn=>h.block k hk (fun x=>hn (hs k hk x))⟩
theorem Kept.trans' {S S':Nat→Prop}{a b c:World}(h:Kept S a b)(k:Kept S' b c)(hs:∀ i,i<a.heap.size→S' i→S i):Kept S a c :=
 ⟨k.os.trans h.os,k.tape.trans h.tape,k.output.trans h.output,Nat.le_trans h.size k.size,fun i hi hn=>(k.block i (Nat.lt_of_lt_of_le hi h.size) (fun x=>hn (hs i hi x))).trans (h.block i hi hn)⟩
theorem Kept.drew {S:Nat→Prop}{a b:World}(h:Kept S a b):Kept S a b.drew:=⟨h.os,h.tape,h.output,h.size,h.block⟩
theorem Kept.drewN {S:Nat→Prop}{a b:World}(h:Kept S a b)(n:Nat):Kept S a (b.drewN n):=⟨h.os,h.tape,h.output,h.size,h.block⟩
theorem Kept.alloc {S:Nat→Prop}{a b:World}(h:Kept S a b)(o:Obj):Kept S a (b.alloc o) :=
 h.trans ⟨rfl,rfl,rfl,by simp,fun k hk _=>Below.heap_alloc b o k hk⟩
theorem Kept.setCell {S:Nat→Prop}{a b:World}(h:Kept S a b)(p:Addr)(v:Value)(hp:p.block<a.heap.size→S p.block):Kept S a (b.setCell p v) :=
 h.trans' (S':=(· = p.block)) ⟨rfl,rfl,rfl,by simp[World.setCell],fun k _ hn=>heap_setCell_other b p k v hn⟩ (fun i hi e=>by subst e;exact hp hi)
theorem Kept.below {S:Nat→Prop}{B:Nat}{w w':World}(h:Kept S w w')(hB:B≤w.heap.size)(hs:∀ k,k<w.heap.size→S k→B≤k):Below B w w' :=
 ⟨h.os,h.tape,h.output,h.size,fun k hk=>h.block k (by omega) (fun x=>by have:=hs k (by omega) x;omega)⟩
theorem Kept.of_below {B:Nat}{w w':World}(h:Below B w w'):Kept (B≤·) w w' :=
 ⟨h.os,h.tape,h.output,h.size,fun k _ hn=>h.block k (by omega)⟩
theorem Kept.of_grownBy {w w':World}{row:Option Nat}(h:w.grownBy w' row):Kept (fun k=>some k=row) w w' :=
 ⟨h.os,h.tape,h.output,h.size,fun k hk hn=>h.block k hk hn⟩
theorem Kept.heap {S:Nat→Prop}{w w':World}(h:Kept S w w'){k:Nat}{o:Obj}(hk:w.heap[k]?=some o)(hs:¬ S k):w'.heap[k]?=some o :=
 (h.block k (Array.getElem?_eq_some_iff.1 hk).1 hs).trans hk
theorem Kept.cell {S:Nat→Prop}{w w':World}(h:Kept S w w'){p:Addr}{v:Value}(hk:w.cell? p=some v)(hs:¬ S p.block):w'.cell? p=some v :=
 (World.cell?_of_block (h.block p.block (World.block_lt_of_cell? w p hk) hs)).trans hk
def IsB (w:World)(a:Option Addr)(bs:List UInt8):Prop :=
 ∀ j b,bs[j]?=some b→∃ x,a=some x∧w.cell? (x.add j)=some (byteV b)
theorem addr_add_add (x:Addr)(i j:Nat):(x.add i).add j=x.add (i+j):=by
 unfold Addr.add
 by_cases hi:i=0<;>by_cases hj:j=0<;>simp[hi,hj]<;>omega
theorem addr_add_block (x:Addr)(i:Nat):(x.add i).block=x.block:=by unfold Addr.add;split<;>rfl
theorem IsB.nil (w:World)(a:Option Addr):IsB w a []:=fun j b h=>by simp at h
theorem IsB.none_eq {w:World}{bs:List UInt8}(h:IsB w none bs):bs=[]:=by
 cases bs with
 | nil=>rfl
 | cons b bs=>obtain⟨x,hx,_⟩:=h 0 b rfl;cases hx
theorem IsB.values {w:World}{x:Addr}{bs:List UInt8}(h:IsB w (some x) bs):∀ j u,(bs.map byteV)[j]?=some u→w.cell? (x.add j)=some u:=by
 intro j u hu
 rw[List.getElem?_map] at hu
 cases hb:bs[j]? with
 | none=>rw[hb] at hu;cases hu
 | some b =>
  rw[hb] at hu
  simp at hu
  subst hu
  obtain⟨y,hy,hc⟩:=h j b hb
  cases hy
  exact hc
theorem IsB.take {w:World}{a:Option Addr}{bs:List UInt8}(h:IsB w a bs)(n:Nat):IsB w a (bs.take n):=by
 intro j b hb
 rw[List.getElem?_take] at hb
 split at hb
 ·exact h j b hb
 ·cases hb
theorem IsB.cut {w:World}{a:Option Addr}{bs:List UInt8}(h:IsB w a bs)(l m:Nat)(hm:bs.length≤m):IsB w (if m=l then a else a.map (·.add l)) (bs.drop l):=by
 intro j b hb
 rw[List.getElem?_drop] at hb
 have hj:l+j<bs.length:=by
  rcases Nat.lt_or_ge (l+j) bs.length with h1|h1
  ·exact h1
  ·rw[List.getElem?_eq_none h1] at hb;cases hb
 obtain⟨x,rfl,hc⟩:=h (l+j) b hb
 rw[if_neg (by omega)]
 exact⟨x.add l,rfl,by rw[addr_add_add x l j];exact hc⟩
theorem IsB.kept {S:Nat→Prop}{w w':World}{a:Option Addr}{bs:List UInt8}(h:IsB w a bs)(k:Kept S w w')(hs:∀ x,a=some x→bs≠[]→¬ S x.block):IsB w' a bs:=by
 intro j b hb
 obtain⟨x,hx,hc⟩:=h j b hb
 exact⟨x,hx,k.cell hc (by rw[addr_add_block];exact hs x hx (by intro e;subst e;simp at hb))⟩
theorem IsB.lt {w:World}{x:Addr}{bs:List UInt8}(h:IsB w (some x) bs)(hb:bs≠[]):x.block<w.heap.size:=by
 cases bs with
 | nil=>exact absurd rfl hb
 | cons b bs =>
  obtain⟨y,hy,hc⟩:=h 0 b rfl
  cases hy
  have:=World.block_lt_of_cell? w _ hc
  rw[addr_add_block] at this
  exact this
theorem IsB.of_heap {w:World}{g:Nat}{arr:List UInt8}{E:TypeId}{fz:Nat × Nat}(h:w.heap[g]?=some (.cells (arr.map byteV).toArray E fz))(o:Nat):IsB w (some ⟨g,o,none⟩) (arr.drop o):=by
 intro j b hb
 refine⟨_,rfl,?_⟩
 have hadd:(⟨g,o,none⟩:Addr).add j=⟨g,o+j,none⟩:=by unfold Addr.add;split<;>simp_all
 rw[hadd,cell_of_row w g (o+j) _ _ _ h]
 rw[List.getElem?_drop] at hb
 simp[hb]
section
variable {P:Program} {w:World} {ops:Array Oper} {rest:List Oper} {o:Oper} {a:Act} {Q:Exit→Act→World→Prop}
theorem toList_zeros (k:Nat):madeCells (Value.int .u8 0).cells (k*1)=((List.replicate k (0:UInt8)).map byteV).toArray:=by
 apply Array.toList_inj.1
 rw[show(Value.int .u8 0).cells=#[Value.int .u8 0] from rfl,toList_madeCells_one]
 simp[byteV]
def OwnB (w:World)(base:Nat)(E:TypeId)(a:Option Addr)(c:Nat)(bs:List UInt8):Prop :=
 w.ownsRow base E 1 (.slice a bs.length c) bs.length (bs.map byteV)
theorem OwnB.nil (w:World)(base:Nat)(E:TypeId):OwnB w base E none 0 []:=World.ownsRow_nil w base E 1
theorem OwnB.isB {base:Nat}{E:TypeId}{x:Option Addr}{c:Nat}{bs:List UInt8}(h:OwnB w base E x c bs):IsB w x bs:=by
 intro j b hb
 rcases h.2 with⟨hv,h0⟩|⟨g,cap,cur,hv,hbg,hg,hnc,hcm,hcs,htake⟩
 ·obtain rfl:bs=[]:=List.eq_nil_of_length_eq_zero h0
  simp at hb
 ·simp only[Value.slice.injEq] at hv
  obtain⟨rfl,_,rfl⟩:=hv
  refine⟨_,rfl,?_⟩
  have hadd:(⟨g,0,none⟩:Addr).add j=⟨g,j,none⟩:=by unfold Addr.add;split<;>simp_all
  rw[hadd,cell_of_row w g j cur E (0,0) hg]
  have hj:j<bs.length:=by
   rcases Nat.lt_or_ge j bs.length with h1|h1
   ·exact h1
   ·rw[List.getElem?_eq_none h1] at hb;cases hb
  have h2:(cur.toList.take (bs.length*1))[j]?=some (byteV b):=by rw[htake];simp[hb]
  rw[List.getElem?_take] at h2
  rw[if_pos (by omega)] at h2
  simpa using h2
theorem OwnB.cap {base:Nat}{E:TypeId}{x:Option Addr}{c:Nat}{bs:List UInt8}(h:OwnB w base E x c bs):bs.length≤c∧c≤maxLen:=by
 rcases h.2 with⟨hv,h0⟩|⟨g,cap,cur,hv,hbg,hg,hnc,hcm,hcs,htake⟩
 ·simp only[Value.slice.injEq] at hv
  obtain⟨_,h1,rfl⟩:=hv
  exact⟨by omega,by unfold maxLen;omega⟩
 ·simp only[Value.slice.injEq] at hv
  obtain⟨_,_,rfl⟩:=hv
  exact⟨hnc,hcm⟩
theorem OwnB.at {base:Nat}{E:TypeId}{x:Option Addr}{c:Nat}{bs:List UInt8}(h:OwnB w base E x c bs):∀ y,x=some y→base≤y.block∧y.block<w.heap.size:=by
 intro y hy
 subst hy
 exact h.lt y.block rfl
theorem OwnB.kept {S:Nat→Prop}{w':World}{base:Nat}{E:TypeId}{x:Option Addr}{c:Nat}{bs:List UInt8}(h:OwnB w base E x c bs)(k:Kept S w w')(hs:∀ y,x=some y→¬ S y.block):OwnB w' base E x c bs:=by
 refine⟨h.1,?_⟩
 rcases h.2 with hn|⟨g,cap,cur,hv,hb,hgg,rest⟩
 ·exact .inl hn
 ·have hv':=hv
  simp only[Value.slice.injEq] at hv'
  exact .inr ⟨g,cap,cur,hv,hb,k.heap hgg (hs _ hv'.1),rest⟩
theorem run_append_noneB (base:Nat)(t ty e:TypeId)(i:TypeInfo)(ht:P.underlying t=some (.slice e))(hi:P.info? e=some i)
  (v:Value) (n c:Nat) (xs:List Value) (hown:w.ownsRow base e 1 v n xs) :
  (Builtin.append_ #[t,t] ty #[v,.slice none 0 c]).run P w=.ok v w:=by
 rcases hown.2 with⟨rfl,rfl⟩|⟨g,cap,cur,rfl,_,_,hnc,_⟩
 ·simp[Builtin.append_,run_underlying ht,sizeOf,typeInfo,hi,Builtin.lenOf,Builtin.firstCells]
 ·simp[Builtin.append_,run_underlying ht,sizeOf,typeInfo,hi,Builtin.lenOf,Builtin.firstCells,hnc,storeCells]
theorem wp_appendB {K:Act→World→Prop}(s x:Operand)(t:TypeId)
  (ho:o.op=.call { callee:=.builtin .append,args:=#[s,x],argTypes:=#[t,t] })
  (base:Nat) (E:TypeId) (i:TypeInfo) (ht:P.underlying t=some (.slice E)) (hi:P.info? E=some i) (hz:i.zero=some (.int .u8 0))
  (hsize:i.size=1) (hby:i.bytes=1)
  (ad:Option Addr) (n c:Nat) (bs:List UInt8) (hs:a.eval s=.slice ad n c) (hn:bs.length=n) (hown:OwnB w base E ad c bs)
  (sp:Option Addr) (m sc:Nat) (cs:List UInt8) (hx:a.eval x=.slice sp m sc) (hm:cs.length=m) (hsrc:IsB w sp cs)
  (hbytes:n+m≤140737488355328) (hbase:base≤w.heap.size)
  (h:∀ ad' c' w',Hid (OwnB w' base E ad' c' (bs++cs))→Kept (fun k=>ad.map (·.block)=some k) w w'→(∀ y,ad'=some y→ad.map (·.block)=some y.block∨w.heap.size≤y.block) →
   K (a.put o.dst (.slice ad' (n+m:Nat) c')) w'):o.wp P a w K Q:=by
 subst hn
 subst hm
 cases sp with
 | none =>
  have h0:=hsrc.none_eq
  subst h0
  have hrun:=run_append_noneB (P:=P) (w:=w) base t o.type E i ht hi (.slice ad bs.length c) bs.length sc _ hown
  unfold Oper.wp
  have hx':a.eval x=.slice none 0 sc:=by simpa using hx
  simp[execOp,ho,resolve,invoke,builtin,hs,hx',hrun,Result.andThen]
  have:=h ad c w (show OwnB _ _ _ _ _ _ by simpa using hown) (Kept.refl _ _) (fun y hy=>.inl (by subst hy;rfl))
  simp only[List.length_nil,Nat.add_zero] at this
  exact this
 | some y =>
  obtain⟨v',w',hr,hown',hgrow,hnil,hat⟩:=run_append_own_at (P:=P) w base t o.type E i (.int .u8 0) 1 1 ht hi hz hsize hby rfl (by decide) (.slice ad bs.length c) bs.length _ hown y cs.length sc (cs.map byteV) (by simp) hsrc.values (oneCell_byteV cs)
   (by unfold maxLen;omega) (by omega) hbase
  unfold Oper.wp execOp
  simp only[ho,resolve,invoke,builtin,Sem.run_bind,Sem.run_pure,Result.andThen_ok,List.map_toArray,List.map_cons,List.map_nil,hs,hx,hr]
  clear hr
  have hex:∃ ad' c',v'=.slice ad' (bs.length+cs.length) c':=by
   rcases hown'.2 with⟨rfl,h0⟩|⟨g,cap,cur,rfl,_⟩
   ·exact⟨none,0,by rw[h0]⟩
   ·exact⟨_,_,rfl⟩
  obtain⟨ad',c',rfl⟩:=hex
  have hmap:(Value.slice ad bs.length c).ownBlock=ad.map (·.block):=by cases ad<;>rfl
  have hK:Kept (fun k=>ad.map (·.block)=some k) w w':=by
   refine(Kept.of_grownBy hgrow).mono ?_
   intro k _ hk
   rw[← hmap]
   exact hk.symm
  refine h ad' c' w' (show OwnB _ _ _ _ _ _ by unfold OwnB;simpa using hown') hK ?_
  intro y' hy'
  subst hy'
  rw[hmap] at hat
  rcases hat with h1|h1
  ·left
   rw[← h1];rfl
  ·right
   have:y'.block=w.heap.size:=by simpa [Value.ownBlock] using h1
   omega
theorem wpList_appendB (hgd:o.guard=none)(s x:Operand)(t:TypeId)
  (ho:o.op=.call { callee:=.builtin .append,args:=#[s,x],argTypes:=#[t,t] })
  (base:Nat) (E:TypeId) (i:TypeInfo) (ht:P.underlying t=some (.slice E)) (hi:P.info? E=some i) (hz:i.zero=some (.int .u8 0))
  (hsize:i.size=1) (hby:i.bytes=1)
  (ad:Option Addr) (n c:Nat) (bs:List UInt8) (hs:a.eval s=.slice ad n c) (hn:bs.length=n) (hown:OwnB w base E ad c bs)
  (sp:Option Addr) (m sc:Nat) (cs:List UInt8) (hx:a.eval x=.slice sp m sc) (hm:cs.length=m) (hsrc:IsB w sp cs)
  (hbytes:n+m≤140737488355328) (hbase:base≤w.heap.size)
  (h:∀ ad' c' w',Hid (OwnB w' base E ad' c' (bs++cs))→Kept (fun k=>ad.map (·.block)=some k) w w'→(∀ y,ad'=some y→ad.map (·.block)=some y.block∨w.heap.size≤y.block) →
   wpList P ops Q rest (a.put o.dst (.slice ad' (n+m:Nat) c')) w'):wpList P ops Q (o :: rest) a w :=
 wpList_plain hgd fun _ hK=>wp_appendB s x t ho base E i ht hi hz hsize hby ad n c bs hs hn hown sp m sc cs hx hm hsrc hbytes hbase fun ad' c' w' h1 h2 h3=>hK _ _ (h ad' c' w' h1 h2 h3)
end
theorem run_convB {P:Program}(w:World)(src E dst:TypeId)(hs:P.underlying src=some (.slice E))(he:P.underlying E=some (.int .u8))(hd:P.underlying dst=some .string)
  (x:Option Addr) (bs:List UInt8) (n c:Nat) (hn:bs.length=n) (h:IsB w x bs):(convert src dst (.slice x n c)).run P w=.ok (.string ⟨bs.toArray⟩) w:=by
 subst hn
 cases x with
 | none =>
  obtain rfl:=h.none_eq
  exact run_convert_bytes_nil w src E hs he 0 c dst hd
 | some y =>
  have hl:(loadCells y bs.length).run P w=.ok ((bs.map fun b=>(b.toNat:Int)).map (Value.int .u8)).toArray w:=by
   have:=run_loadCells_list (P:=P) w y (bs.map byteV) h.values
   simpa [show byteV=fun b=>Value.int .u8 b.toNat from rfl,Function.comp_def] using this
  rw[run_convert_bytes_string w src dst E _ bs.length c hs he hd,run_bytesToString w _ bs.length c _ hl,foldl_push_bytes]
  simp[Function.comp_def,ByteArray.empty,ByteArray.emptyWithCapacity]
  rfl
open Go.RowKit
inductive Nd where
 | mk (kind space:Int) (name:ByteArray) (attrs:List (ByteArray × ByteArray)) (text:ByteArray) (kids:List Nd)
def Nd.kids:Nd→List Nd|.mk _ _ _ _ _ k=>k
def Nd.kind:Nd→Int|.mk k _ _ _ _ _=>k
def Nd.space:Nd→Int|.mk _ s _ _ _ _=>s
def Nd.name:Nd→ByteArray|.mk _ _ n _ _ _=>n
def Nd.attrs:Nd→List (ByteArray × ByteArray)|.mk _ _ _ a _ _=>a
def Nd.text:Nd→ByteArray|.mk _ _ _ _ t _=>t
mutual
def Nd.sz:Nd→Nat
 | .mk _ _ _ _ _ ks=>1+szAll ks
def szAll:List Nd→Nat
 | []=>0
 | k :: ks=>k.sz+szAll ks
end
theorem sz_pos (n:Nd):1≤n.sz:=by cases n;unfold Nd.sz;omega
theorem sz_get:∀ (ks:List Nd) (j:Nat) (h:j<ks.length),(ks[j]).sz≤szAll ks:=by
 intro ks
 induction ks with
 | nil=>intro j h;simp at h
 | cons k ks ih =>
  intro j h
  unfold szAll
  cases j with
  | zero=>simp
  | succ j =>
   have:=ih j (by simpa using h)
   simp only[List.getElem_cons_succ]
   omega
theorem nd_ind {P:Nd→Prop}{Q:List Nd→Prop}(h1:∀ n,Q n.kids→P n)(h2:Q [])(h3:∀ n ns,P n→Q ns→Q (n :: ns)):(∀ n,P n)∧∀ l,Q l:=by
 have key:∀ m,(∀ n:Nd,n.sz≤m→P n)∧∀ l:List Nd,szAll l≤m→Q l:=by
  intro m
  induction m with
  | zero =>
   refine⟨fun n hn=>absurd (sz_pos n) (by omega),fun l=>?_⟩
   cases l with
   | nil=>intro _;exact h2
   | cons k ks=>intro hs;unfold szAll at hs;exact absurd (sz_pos k) (by omega)
  | succ m ih =>
   have hP:∀ n:Nd,n.sz≤m+1→P n:=fun n hn=>by
    refine h1 n (ih.2 _ ?_)
    cases n
    unfold Nd.sz at hn
    show szAll _≤m
    simp only[Nd.kids]
    omega
   refine⟨hP,fun l=>?_⟩
   induction l with
   | nil=>intro _;exact h2
   | cons k ks ihk=>intro hs;unfold szAll at hs;exact h3 k ks (hP k (by omega)) (ihk (by omega))
 exact⟨fun n=>(key n.sz).1 n (Nat.le_refl _),fun l=>(key (szAll l)).2 l (Nat.le_refl _)⟩
structure Six (w:World) (g o:Nat) (c0 c1 c2 c3 c4 c5:Value):Prop where
 x0:w.cell? ⟨g,o,none⟩=some c0
 x1:w.cell? ⟨g,o+1,none⟩=some c1
 x2:w.cell? ⟨g,o+2,none⟩=some c2
 x3:w.cell? ⟨g,o+3,none⟩=some c3
 x4:w.cell? ⟨g,o+4,none⟩=some c4
 x5:w.cell? ⟨g,o+5,none⟩=some c5
theorem Six.below {w w':World}{g o B:Nat}{c0 c1 c2 c3 c4 c5:Value}(h:Six w g o c0 c1 c2 c3 c4 c5)(hb:Below B w w')(hB:w.heap.size≤B):Six w' g o c0 c1 c2 c3 c4 c5:=by
 have hg:g<B:=Nat.lt_of_lt_of_le (World.block_lt_of_cell? w _ h.x0) hB
 have k:∀ f v,w.cell? ⟨g,f,none⟩=some v→w'.cell? ⟨g,f,none⟩=some v:=fun f v e=>by rw[hb.cell (p:=⟨g,f,none⟩) hg];exact e
 exact⟨k _ _ h.x0,k _ _ h.x1,k _ _ h.x2,k _ _ h.x3,k _ _ h.x4,k _ _ h.x5⟩
def AttrsV (w:World)(v:Value)(l:List (ByteArray × ByteArray)):Prop :=
 ∃ a c,v=.slice a l.length c∧∀ j (h:j<l.length),∃ g off,a=some ⟨g,off,none⟩∧w.cell? ⟨g,off+j*2,none⟩=some (.string (l[j]).1)∧w.cell? ⟨g,off+j*2+1,none⟩=some (.string (l[j]).2)
theorem AttrsV.below {w w':World}{B:Nat}{v:Value}{l:List (ByteArray × ByteArray)}(h:AttrsV w v l)(hb:Below B w w')(hB:w.heap.size≤B):AttrsV w' v l:=by
 obtain⟨a,c,e,h⟩:=h
 refine⟨a,c,e,fun j hj=>?_⟩
 obtain⟨g,off,ha,h1,h2⟩:=h j hj
 have hg:g<B:=Nat.lt_of_lt_of_le (World.block_lt_of_cell? w _ h1) hB
 exact⟨g,off,ha,by rw[hb.cell (p:=⟨g,_,none⟩) hg];exact h1,by rw[hb.cell (p:=⟨g,_,none⟩) hg];exact h2⟩
mutual
def NodeV (w:World):Nd→Value→Prop
 | .mk kd sp nm at' tx ks,v=>∃ av a c,v=.agg #[.int .i64 kd,.int .i64 sp,.string nm,av,.string tx,.slice a ks.length c]∧ks.length≤140737488355328∧AttrsV w av at'∧KidsV w a 0 ks
def KidsV (w:World)(a:Option Addr):Nat→List Nd→Prop
 | _,[]=>True
 | i,n :: ks=>(∃ g off c0 c1 c2 c3 c4 c5,a=some ⟨g,off,none⟩∧Six w g (off+i*6) c0 c1 c2 c3 c4 c5∧NodeV w n (.agg #[c0,c1,c2,c3,c4,c5]))∧KidsV w a (i+1) ks
end
theorem KidsV.get {w:World}{a:Option Addr}:∀ (ks:List Nd) (i j:Nat) (h:j<ks.length),KidsV w a i ks→∃ g off c0 c1 c2 c3 c4 c5,a=some ⟨g,off,none⟩∧Six w g (off+(i+j)*6) c0 c1 c2 c3 c4 c5∧NodeV w ks[j] (.agg #[c0,c1,c2,c3,c4,c5]):=by
 intro ks
 induction ks with
 | nil=>intro i j h;simp at h
 | cons k ks ih =>
  intro i j h hk
  unfold KidsV at hk
  cases j with
  | zero=>exact hk.1
  | succ j =>
   have:=ih (i+1) j (by simpa using h) hk.2
   rw[show i+1+j=i+(j+1) by omega] at this
   exact this
theorem nodes_below {w w':World}{B:Nat}(hb:Below B w w')(hB:w.heap.size≤B):∀ m:Nat,(∀ (n:Nd) (v:Value),n.sz≤m→NodeV w n v→NodeV w' n v)∧(∀ (a:Option Addr) (ks:List Nd) (i:Nat),szAll ks≤m→KidsV w a i ks→KidsV w' a i ks):=by
 intro m
 induction m with
 | zero =>
  refine⟨fun n v hn=>absurd (sz_pos n) (by omega),fun a ks=>?_⟩
  induction ks with
  | nil=>intro i _ h;unfold KidsV;trivial
  | cons k ks _=>intro i hs;unfold szAll at hs;exact absurd (sz_pos k) (by omega)
 | succ m ih =>
  have hN:∀ (n:Nd) (v:Value),n.sz≤m+1→NodeV w n v→NodeV w' n v:=by
   intro n v hs h
   cases n with
   | mk kd sp nm at' tx ks =>
    unfold Nd.sz at hs
    unfold NodeV at h ⊢
    obtain⟨av,a,c,e,hl,ha,hk⟩:=h
    exact⟨av,a,c,e,hl,ha.below hb hB,ih.2 a ks 0 (by omega) hk⟩
  refine⟨hN,fun a ks=>?_⟩
  induction ks with
  | nil=>intro i _ h;unfold KidsV;trivial
  | cons k ks ihk =>
   intro i hs h
   unfold szAll at hs
   unfold KidsV at h ⊢
   obtain⟨⟨g,off,c0,c1,c2,c3,c4,c5,e,h6,hn⟩,hr⟩:=h
   exact⟨⟨g,off,c0,c1,c2,c3,c4,c5,e,h6.below hb hB,hN k _ (by omega) hn⟩,ihk (i+1) (by omega) hr⟩
theorem NodeV.below {w w':World}{B:Nat}{n:Nd}{v:Value}(h:NodeV w n v)(hb:Below B w w')(hB:w.heap.size≤B):NodeV w' n v:=(nodes_below hb hB n.sz).1 n v (Nat.le_refl _) h
theorem KidsV.below {w w':World}{B:Nat}{a:Option Addr}{ks:List Nd}{i:Nat}(h:KidsV w a i ks)(hb:Below B w w')(hB:w.heap.size≤B):KidsV w' a i ks:=(nodes_below hb hB (szAll ks)).2 a ks i (Nat.le_refl _) h
theorem Six.zero {w:World}{g:Nat}{c0 c1 c2 c3 c4 c5:Value}(h:Six w g 0 c0 c1 c2 c3 c4 c5) :
  w.cell? ⟨g,0,none⟩=some c0∧w.cell? ⟨g,1,none⟩=some c1∧w.cell? ⟨g,2,none⟩=some c2∧w.cell? ⟨g,3,none⟩=some c3∧w.cell? ⟨g,4,none⟩=some c4∧w.cell? ⟨g,5,none⟩=some c5:=⟨h.x0,h.x1,h.x2,h.x3,h.x4,h.x5⟩
theorem NodeV.get {w:World}{nd:Nd}{v:Value}(h:NodeV w nd v):∃ av a c,v=.agg #[.int .i64 nd.kind,.int .i64 nd.space,.string nd.name,av,.string nd.text,.slice a nd.kids.length c]∧AttrsV w av nd.attrs∧KidsV w a 0 nd.kids∧nd.kids.length≤140737488355328:=by
 cases nd with
 | mk kd sp nm at' tx ks =>
  unfold NodeV at h
  obtain⟨av,a,c,e,hl,hA,hK⟩:=h
  exact⟨av,a,c,e,hA,hK,hl⟩
theorem szAll_mem:∀ (ks:List Nd),(∀ k∈ks,k.sz≤szAll ks)∧ks.length≤szAll ks:=by
 intro ks
 induction ks with
 | nil=>exact⟨fun k hk=>by simp at hk,Nat.zero_le _⟩
 | cons n ks ih =>
  have h1:szAll (n :: ks)=n.sz+szAll ks:=by conv=>lhs;unfold szAll
  have h2:=sz_pos n
  refine⟨fun k hk=>?_,?_⟩
  ·rcases List.mem_cons.1 hk with h|h
   ·rw[h];omega
   ·have:=ih.1 k h;omega
  ·rw[h1,List.length_cons];have:=ih.2;omega
theorem sz_kids (n:Nd):n.sz=1+szAll n.kids:=by cases n;rfl
theorem NodeV.cells {w:World}{n:Nd}{c0 c1 c2 c3 c4 c5:Value}(h:NodeV w n (.agg #[c0,c1,c2,c3,c4,c5])) :
  ∃ a b a' b',c0=.int .i64 n.kind∧c1=.int .i64 n.space∧c2=.string n.name∧c3=.slice a n.attrs.length b∧c4=.string n.text∧c5=.slice a' n.kids.length b':=by
 cases n with
 | mk kd sp nm at' tx ks =>
  unfold NodeV at h
  obtain⟨av,a',b',e,_,⟨a,b,rfl,_⟩,_⟩:=h
  simp only[Value.agg.injEq,Array.mk.injEq,List.cons.injEq,and_true] at e
  obtain⟨rfl,rfl,rfl,rfl,rfl,rfl⟩:=e
  exact⟨a,b,a',b',rfl,rfl,rfl,rfl,rfl,rfl⟩
mutual
def fewL:Nat→Nd→Int→Int
 | 0,_,_=>-1
 | d+1,.mk _ _ _ _ _ ks,left=>fewK d ks (left-1)
def fewK:Nat→List Nd→Int→Int
 | _,[],left=>left
 | d,k :: ks,left=>if left<0 then left else fewK d ks (fewL d k left)
end
open Go.RowKit
open Go.RowKit
theorem insertion_nil (cmp:Value)(w:World):Calls Tryz.prog 182 #[.slice none 0 0,.int .i64 0,.int .i64 0,cmp] w fun e w'=>e=.returned (.tuple #[])∧w=w':=by
 go_enter Tryz.func182,Tryz.ntmps182
 go_wp2
 refine wp_loop_rounds 1 ?_
 rw[rounds_succ]
 go_wp2
 go_end0
 exact⟨rfl,rfl⟩
theorem pdq_nil (cmp:Value)(lim:Int)(w:World):Calls Tryz.prog 146 #[.slice none 0 0,.int .i64 0,.int .i64 0,.int .i64 lim,cmp] w fun e w'=>e=.returned (.tuple #[])∧w=w':=by
 go_enter Tryz.func146,Tryz.ntmps146
 go_wp2
 refine wp_loop_rounds 1 ?_
 rw[rounds_succ]
 go_wp2_with fail
 refine(insertion_nil cmp w).mono ?_
 rintro e w' ⟨rfl,rfl⟩
 go_wp2
 trace_state
 exact bodyPost_ret (v:=.tuple #[]) (by simp[results,Tryz.results146,go_sem]) rfl ⟨rfl,rfl⟩
theorem len_zero (w:World):Calls Tryz.prog 147 #[.int .u64 0] w fun e w'=>e=.returned (.int .i64 0)∧w=w':=by
 go_enter Tryz.func147,Tryz.ntmps147
 go_wp2_with fail
 refine(Tryz.bits_Len64 0 w (by omega) (by omega)).mono ?_
 rintro e w' ⟨rfl,hw⟩
 subst hw
 go_wp2
 go_ret
 exact⟨rfl,rfl⟩
theorem sort_nil (cmp:Value)(w:World):Calls Tryz.prog 86 #[.slice none 0 0,cmp] w fun e w'=>e=.returned (.tuple #[])∧w=w':=by
 go_enter Tryz.func86,Tryz.ntmps86
 go_wp2_with fail
 refine(len_zero w).mono ?_
 rintro e w' ⟨rfl,rfl⟩
 go_wp2_with fail
 refine(pdq_nil cmp _ w).mono ?_
 rintro e w' ⟨rfl,rfl⟩
 go_wp2
 go_end0
 exact⟨rfl,rfl⟩
open Go.RowKit
theorem six_alloc (w:World)(c0 c1 c2 c3 c4 c5:Value):Six (w.alloc (.cells #[c0,c1,c2,c3,c4,c5] 45)) w.heap.size 0 c0 c1 c2 c3 c4 c5:=by
 have h:∀ j,(w.alloc (.cells #[c0,c1,c2,c3,c4,c5] 45)).cell? ⟨w.heap.size,j,none⟩=(#[c0,c1,c2,c3,c4,c5]:Array Value)[j]?:=fun j=>cell_of_row _ w.heap.size j _ 45 (0,0) (heap_alloc_new w _)
 exact⟨h 0,h 1,h 2,h 3,h 4,h 5⟩
theorem Tryz.info9:(Tryz.prog.info? 9).map (fun i=>(i.zero,i.size,i.bytes))=some (some (.string ⟨#[]⟩),1,16):=by kernel_rfl
open Go.RowKit
def SomeBool (r:Bool)(w:World)(e:Ending)(w':World):Prop:=e=.returned (.bool r)∧Below w.heap.size w w'
open Go.RowKit
def Two (w:World)(g o:Nat)(c0 c1:Value):Prop:=w.cell? ⟨g,o,none⟩=some c0∧w.cell? ⟨g,o+1,none⟩=some c1
theorem Two.below {w w':World}{g o B:Nat}{c0 c1:Value}(h:Two w g o c0 c1)(hb:Below B w w')(hB:w.heap.size≤B):Two w' g o c0 c1:=by
 have hg:g<B:=Nat.lt_of_lt_of_le (World.block_lt_of_cell? w _ h.1) hB
 exact⟨by rw[hb.cell (p:=⟨g,_,none⟩) hg];exact h.1,by rw[hb.cell (p:=⟨g,_,none⟩) hg];exact h.2⟩
open Go.RowKit
theorem Tryz.info45:(Tryz.prog.info? 45).map (fun i=>(i.zero,i.size,i.bytes))=some (some (.agg #[.int .i64 0,.int .i64 0,.string ⟨#[]⟩,.slice none 0 0,.string ⟨#[]⟩,.slice none 0 0]),6,96):=by kernel_rfl
end Go.Proofs.YtcfgbdhpcboikaaGreatDoor
