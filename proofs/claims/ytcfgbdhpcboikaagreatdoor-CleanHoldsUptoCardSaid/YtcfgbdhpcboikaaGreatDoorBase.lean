/-
Lemmas on byte slices and frames, over any program: what a copy, an append, a conversion to a string does to slices of bytes. No program in sight.
-/
import Derived.WalkLawsBesides
import Derived.WalkSpells
import Derived.Laws.CopyOwn
import Derived.Laws.AppendOwnNone
import Derived.StillTailTactics
import Derived.Test.YtcfgbdhpcboikaaGreatDoorProg
import Derived.Lib.Hide
import Derived.Test.YtcfgbdhpcboikaaGreatDoorDecLaw
import Derived.BigQuiet
import Derived.Deep.LoopGhost
import GoSem.PinnedTables
namespace Go.Proofs.YtcfgbdhpcboikaaGreatDoor
open Go.Lib (hid)
set_option maxHeartbeats 2000000
set_option maxRecDepth 100000
open Go.RowKit
theorem kB {n:Nat}:n≤n:=Nat.le_refl n
def fI (b:UInt8):Value:=.int .u8 b.toNat
theorem aCx (cs:List UInt8):∀v∈cs.map fI,v.oneCell'=true:=by
 intro v hv;obtain⟨b,_,rfl⟩:=List.mem_map.1 hv;rfl
structure aG (S:Nat→Prop) (w w':World):Prop where
 os:w'.os=w.os
 tape:w'.tape=w.tape
 output:w'.output=w.output
 size:w.heap.size≤w'.heap.size
 block:∀k,k<w.heap.size→¬S k→w'.heap[k]?=w.heap[k]?
theorem aG.refl (S:Nat→Prop)(w:World):aG S w w:=⟨rfl,rfl,rfl,Nat.le_refl _,fun _ _ _=>rfl⟩
theorem aG.trans {S:Nat→Prop}{a b c:World}(h:aG S a b)(k:aG S b c):aG S a c :=
 ⟨k.os.trans h.os,k.tape.trans h.tape,k.output.trans h.output,Nat.le_trans h.size k.size,fun i hi hs=>(k.block i (Nat.lt_of_lt_of_le hi h.size) hs).trans (h.block i hi hs)⟩
theorem aG.mono {S S':Nat→Prop}{a b:World}(h:aG S a b)(hs:∀k,k<a.heap.size→S k→S' k):aG S' a b :=
 ⟨h.os,h.tape,h.output,h.size,fun k hk hn=>h.block k hk (fun x=>hn (hs k hk x))⟩
theorem aG.trans' {S S':Nat→Prop}{a b c:World}(h:aG S a b)(k:aG S' b c)(hs:∀i,i<a.heap.size→S' i→S i):aG S a c :=
 ⟨k.os.trans h.os,k.tape.trans h.tape,k.output.trans h.output,Nat.le_trans h.size k.size,fun i hi hn=>(k.block i (Nat.lt_of_lt_of_le hi h.size) (fun x=>hn (hs i hi x))).trans (h.block i hi hn)⟩
theorem aG.drew {S:Nat→Prop}{a b:World}(h:aG S a b):aG S a b.drew:=⟨h.os,h.tape,h.output,h.size,h.block⟩
theorem aG.drewN {S:Nat→Prop}{a b:World}(h:aG S a b)(n:Nat):aG S a (b.drewN n):=⟨h.os,h.tape,h.output,h.size,h.block⟩
theorem aG.alloc {S:Nat→Prop}{a b:World}(h:aG S a b)(o:Obj):aG S a (b.alloc o) :=
 h.trans ⟨rfl,rfl,rfl,by simp,fun k hk _=>Below.heap_alloc b o k hk⟩
theorem aG.setCell {S:Nat→Prop}{a b:World}(h:aG S a b)(p:Addr)(v:Value)(hp:p.block<a.heap.size→S p.block):aG S a (b.setCell p v) :=
 h.trans' (S':=(· = p.block)) ⟨rfl,rfl,rfl,by simp[World.setCell],fun k _ hn=>heap_setCell_other b p k v hn⟩ (fun i hi e=>by subst e;exact hp hi)
theorem aG.below {S:Nat→Prop}{B:Nat}{w w':World}(h:aG S w w')(hB:B≤w.heap.size)(hs:∀k,k<w.heap.size→S k→B≤k):Below B w w' :=
 ⟨h.os,h.tape,h.output,h.size,fun k hk=>h.block k (by omega) (fun x=>by have:=hs k (by omega) x;omega)⟩
theorem aG.of_below {B:Nat}{w w':World}(h:Below B w w'):aG (B≤·) w w' :=
 ⟨h.os,h.tape,h.output,h.size,fun k _ hn=>h.block k (by omega)⟩
theorem aG.of_grownBy {w w':World}{row:Option Nat}(h:w.grownBy w' row):aG (fun k=>some k=row) w w' :=
 ⟨h.os,h.tape,h.output,h.size,fun k hk hn=>h.block k hk hn⟩
theorem aG.heap {S:Nat→Prop}{w w':World}(h:aG S w w'){k:Nat}{o:Obj}(hk:w.heap[k]?=some o)(hs:¬S k):w'.heap[k]?=some o :=
 (h.block k (Array.getElem?_eq_some_iff.1 hk).1 hs).trans hk
theorem aG.cell {S:Nat→Prop}{w w':World}(h:aG S w w'){p:Addr}{v:Value}(hk:w.cell? p=some v)(hs:¬S p.block):w'.cell? p=some v :=
 (World.cell?_of_block (h.block p.block (World.block_lt_of_cell? w p hk) hs)).trans hk
def IsB (w:World)(a:Option Addr)(bs:List UInt8):Prop :=
 ∀j b,bs[j]?=some b→∃x,a=some x∧w.cell? (x.add j)=some (fI b)
theorem wA (x:Addr)(i j:Nat):(x.add i).add j=x.add (i+j):=by
 unfold Addr.add;by_cases hi:i=0<;>by_cases hj:j=0<;>simp[hi,hj]<;>omega
theorem sP (x:Addr)(i:Nat):(x.add i).block=x.block:=by unfold Addr.add;split<;>rfl
theorem IsB.nil (w:World)(a:Option Addr):IsB w a []:=fun j b h=>by simp at h
theorem IsB.none_eq {w:World}{bs:List UInt8}(h:IsB w none bs):bs=[]:=by
 cases bs with
 | nil=>rfl
 | cons b bs=>obtain⟨x,hx,_⟩:=h 0 b rfl;cases hx
theorem IsB.values {w:World}{x:Addr}{bs:List UInt8}(h:IsB w (some x) bs):∀j u,(bs.map fI)[j]?=some u→w.cell? (x.add j)=some u:=by
 intro j u hu;rw[List.getElem?_map]at hu
 cases hb:bs[j]? with
 | none=>rw[hb]at hu;cases hu
 | some b =>
  rw[hb]at hu
  simp at hu;subst hu;obtain⟨y,hy,hc⟩:=h j b hb;cases hy;exact hc
theorem IsB.take {w:World}{a:Option Addr}{bs:List UInt8}(h:IsB w a bs)(n:Nat):IsB w a (bs.take n):=by
 intro j b hb;rw[List.getElem?_take]at hb
 split at hb
 ·exact h j b hb
 ·cases hb
theorem IsB.cut {w:World}{a:Option Addr}{bs:List UInt8}(h:IsB w a bs)(l m:Nat)(hm:bs.length≤m):IsB w (if m=l then a else a.map (·.add l)) (bs.drop l):=by
 intro j b hb;rw[List.getElem?_drop]at hb
 have hj:l+j<bs.length:=by
  rcases Nat.lt_or_ge (l+j) bs.length with h1|h1
  ·exact h1
  ·rw[List.getElem?_eq_none h1]at hb;cases hb
 obtain⟨x,rfl,hc⟩:=h (l+j) b hb;rw[if_neg (by omega)];exact⟨x.add l,rfl,by rw[wA x l j];exact hc⟩
theorem IsB.kept {S:Nat→Prop}{w w':World}{a:Option Addr}{bs:List UInt8}(h:IsB w a bs)(k:aG S w w')(hs:∀x,a=some x→bs≠[]→¬S x.block):IsB w' a bs:=by
 intro j b hb;obtain⟨x,hx,hc⟩:=h j b hb;exact⟨x,hx,k.cell hc (by rw[sP];exact hs x hx (by intro e;subst e;simp at hb))⟩
theorem IsB.lt {w:World}{x:Addr}{bs:List UInt8}(h:IsB w (some x) bs)(hb:bs≠[]):x.block<w.heap.size:=by
 cases bs with
 | nil=>exact absurd rfl hb
 | cons b bs =>
  obtain⟨y,hy,hc⟩:=h 0 b rfl;cases hy;have:=World.block_lt_of_cell? w _ hc;rw[sP]at this
  exact this
theorem IsB.of_heap {w:World}{g:Nat}{arr:List UInt8}{E:TypeId}{fz:Nat × Nat}(h:w.heap[g]?=some (.cells (arr.map fI).toArray E fz))(o:Nat):IsB w (some ⟨g,o,none⟩) (arr.drop o):=by
 intro j b hb;refine⟨_,rfl,?_⟩;have hadd:(⟨g,o,none⟩:Addr).add j=⟨g,o+j,none⟩:=by unfold Addr.add;split<;>simp_all
 rw[hadd,cell_of_row w g (o+j) _ _ _ h];rw[List.getElem?_drop]at hb
 simp[hb]
section
variable {P:Program} {w:World} {ops:Array Oper} {rest:List Oper} {o:Oper} {a:Act} {Q:Exit→Act→World→Prop}
theorem aDb (k:Nat):madeCells (Value.int .u8 0).cells (k*1)=((List.replicate k (0:UInt8)).map fI).toArray:=by
 apply Array.toList_inj.1;rw[show(Value.int .u8 0).cells=#[Value.int .u8 0]from rfl,toList_madeCells_one];simp[fI]
def gP (w:World)(base:Nat)(E:TypeId)(a:Option Addr)(c:Nat)(bs:List UInt8):Prop :=
 w.ownsRow base E 1 (.slice a bs.length c) bs.length (bs.map fI)
theorem gP.nil (w:World)(base:Nat)(E:TypeId):gP w base E none 0 []:=World.ownsRow_nil w base E 1
theorem gP.isB {base:Nat}{E:TypeId}{x:Option Addr}{c:Nat}{bs:List UInt8}(h:gP w base E x c bs):IsB w x bs:=by
 intro j b hb;rcases h.2 with⟨hv,h0⟩|⟨g,cap,cur,hv,hbg,hg,hnc,hcm,hcs,htake⟩
 ·obtain rfl:bs=[]:=List.eq_nil_of_length_eq_zero h0;simp at hb
 ·simp only[Value.slice.injEq]at hv;obtain⟨rfl,_,rfl⟩:=hv;refine⟨_,rfl,?_⟩;have hadd:(⟨g,0,none⟩:Addr).add j=⟨g,j,none⟩:=by unfold Addr.add;split<;>simp_all
  rw[hadd,cell_of_row w g j cur E (0,0) hg];have hj:j<bs.length:=by
   rcases Nat.lt_or_ge j bs.length with h1|h1
   ·exact h1
   ·rw[List.getElem?_eq_none h1]at hb;cases hb
  have h2:(cur.toList.take (bs.length*1))[j]?=some (fI b):=by rw[htake];simp[hb]
  rw[List.getElem?_take]at h2
  rw[if_pos (by omega)]at h2
  simpa using h2
theorem gP.cap {base:Nat}{E:TypeId}{x:Option Addr}{c:Nat}{bs:List UInt8}(h:gP w base E x c bs):bs.length≤c∧c≤maxLen:=by
 rcases h.2 with⟨hv,h0⟩|⟨g,cap,cur,hv,hbg,hg,hnc,hcm,hcs,htake⟩
 ·simp only[Value.slice.injEq]at hv;obtain⟨_,h1,rfl⟩:=hv;exact⟨by omega,by unfold maxLen;omega⟩
 ·simp only[Value.slice.injEq]at hv;obtain⟨_,_,rfl⟩:=hv;exact⟨hnc,hcm⟩
theorem gP.at {base:Nat}{E:TypeId}{x:Option Addr}{c:Nat}{bs:List UInt8}(h:gP w base E x c bs):∀y,x=some y→base≤y.block∧y.block<w.heap.size:=by
 intro y hy;subst hy;exact h.lt y.block rfl
theorem gP.kept {S:Nat→Prop}{w':World}{base:Nat}{E:TypeId}{x:Option Addr}{c:Nat}{bs:List UInt8}(h:gP w base E x c bs)(k:aG S w w')(hs:∀y,x=some y→¬S y.block):gP w' base E x c bs:=by
 refine⟨h.1,?_⟩;rcases h.2 with hn|⟨g,cap,cur,hv,hb,hgg,rest⟩
 ·exact .inl hn
 ·have hv':=hv;simp only[Value.slice.injEq]at hv';exact .inr ⟨g,cap,cur,hv,hb,k.heap hgg (hs _ hv'.1),rest⟩
theorem zF (base:Nat)(t ty e:TypeId)(i:TypeInfo)(ht:P.underlying t=some (.slice e))(hi:P.info? e=some i)
  (v:Value) (n c:Nat) (xs:List Value) (hown:w.ownsRow base e 1 v n xs) :
  (Builtin.append_ #[t,t] ty #[v,.slice none 0 c]).run P w=.ok v w:=by
 rcases hown.2 with⟨rfl,rfl⟩|⟨g,cap,cur,rfl,_,_,hnc,_⟩
 ·simp[Builtin.append_,run_underlying ht,sizeOf,typeInfo,hi,Builtin.lenOf,Builtin.firstCells]
 ·simp[Builtin.append_,run_underlying ht,sizeOf,typeInfo,hi,Builtin.lenOf,Builtin.firstCells,hnc,storeCells]
theorem aFT {K:Act→World→Prop}(s x:Operand)(t:TypeId)
  (ho:o.op=.call { callee:=.builtin .append,args:=#[s,x],argTypes:=#[t,t] })
  (base:Nat) (E:TypeId) (i:TypeInfo) (ht:P.underlying t=some (.slice E)) (hi:P.info? E=some i) (hz:i.zero=some (.int .u8 0))
  (hsize:i.size=1) (hby:i.bytes=1)
  (ad:Option Addr) (n c:Nat) (bs:List UInt8) (hs:a.eval s=.slice ad n c) (hn:bs.length=n) (hown:gP w base E ad c bs)
  (sp:Option Addr) (m sc:Nat) (cs:List UInt8) (hx:a.eval x=.slice sp m sc) (hm:cs.length=m) (hsrc:IsB w sp cs)
  (hbytes:n+m≤140737488355328) (hbase:base≤w.heap.size)
  (h:∀ad' c' w',Hid (gP w' base E ad' c' (bs++cs))→aG (fun k=>ad.map (·.block)=some k) w w'→(∀y,ad'=some y→ad.map (·.block)=some y.block∨w.heap.size≤y.block) →
   K (a.put o.dst (.slice ad' (n+m:Nat) c')) w'):o.wp P a w K Q:=by
 subst hn;subst hm;cases sp with
 | none =>
  have h0:=hsrc.none_eq;subst h0;have hrun:=zF (P:=P) (w:=w) base t o.type E i ht hi (.slice ad bs.length c) bs.length sc _ hown;unfold Oper.wp;have hx':a.eval x=.slice none 0 sc:=by simpa using hx
  simp[execOp,ho,resolve,invoke,builtin,hs,hx',hrun,Result.andThen];have:=h ad c w (show gP _ _ _ _ _ _ by simpa using hown) (aG.refl _ _) (fun y hy=>.inl (by subst hy;rfl));simp only[List.length_nil,Nat.add_zero]at this;exact this
 | some y =>
  obtain⟨v',w',hr,hown',hgrow,hnil,hat⟩:=run_append_own_at (P:=P) w base t o.type E i (.int .u8 0) 1 1 ht hi hz hsize hby rfl (by decide) (.slice ad bs.length c) bs.length _ hown y cs.length sc (cs.map fI) (by simp) hsrc.values (aCx cs)
   (by unfold maxLen;omega) (by omega) hbase
  unfold Oper.wp execOp;simp only[ho,resolve,invoke,builtin,Sem.run_bind,Sem.run_pure,Result.andThen_ok,List.map_toArray,List.map_cons,List.map_nil,hs,hx,hr];clear hr;have hex:∃ad' c',v'=.slice ad' (bs.length+cs.length) c':=by
   rcases hown'.2 with⟨rfl,h0⟩|⟨g,cap,cur,rfl,_⟩
   ·exact⟨none,0,by rw[h0]⟩
   ·exact⟨_,_,rfl⟩
  obtain⟨ad',c',rfl⟩:=hex;have hmap:(Value.slice ad bs.length c).ownBlock=ad.map (·.block):=by cases ad<;>rfl
  have hK:aG (fun k=>ad.map (·.block)=some k) w w':=by
   refine(aG.of_grownBy hgrow).mono ?_;intro k _ hk;rw[←hmap];exact hk.symm
  refine h ad' c' w' (show gP _ _ _ _ _ _ by unfold gP;simpa using hown') hK ?_;intro y' hy';subst hy';rw[hmap]at hat
  rcases hat with h1|h1
  ·left;rw[←h1];rfl
  ·right;have:y'.block=w.heap.size:=by simpa [Value.ownBlock]using h1
   omega
theorem aBj (hgd:o.guard=none)(s x:Operand)(t:TypeId)
  (ho:o.op=.call { callee:=.builtin .append,args:=#[s,x],argTypes:=#[t,t] })
  (base:Nat) (E:TypeId) (i:TypeInfo) (ht:P.underlying t=some (.slice E)) (hi:P.info? E=some i) (hz:i.zero=some (.int .u8 0))
  (hsize:i.size=1) (hby:i.bytes=1)
  (ad:Option Addr) (n c:Nat) (bs:List UInt8) (hs:a.eval s=.slice ad n c) (hn:bs.length=n) (hown:gP w base E ad c bs)
  (sp:Option Addr) (m sc:Nat) (cs:List UInt8) (hx:a.eval x=.slice sp m sc) (hm:cs.length=m) (hsrc:IsB w sp cs)
  (hbytes:n+m≤140737488355328) (hbase:base≤w.heap.size)
  (h:∀ad' c' w',Hid (gP w' base E ad' c' (bs++cs))→aG (fun k=>ad.map (·.block)=some k) w w'→(∀y,ad'=some y→ad.map (·.block)=some y.block∨w.heap.size≤y.block) →
   wpList P ops Q rest (a.put o.dst (.slice ad' (n+m:Nat) c')) w'):wpList P ops Q (o :: rest) a w :=
 wpList_plain hgd fun _ hK=>aFT s x t ho base E i ht hi hz hsize hby ad n c bs hs hn hown sp m sc cs hx hm hsrc hbytes hbase fun ad' c' w' h1 h2 h3=>hK _ _ (h ad' c' w' h1 h2 h3)
end
theorem aHP {P:Program}(w:World)(src E dst:TypeId)(hs:P.underlying src=some (.slice E))(he:P.underlying E=some (.int .u8))(hd:P.underlying dst=some .string)
  (x:Option Addr) (bs:List UInt8) (n c:Nat) (hn:bs.length=n) (h:IsB w x bs):(convert src dst (.slice x n c)).run P w=.ok (.string ⟨bs.toArray⟩) w:=by
 subst hn;cases x with
 | none =>
  obtain rfl:=h.none_eq;exact run_convert_bytes_nil w src E hs he 0 c dst hd
 | some y =>
  have hl:(loadCells y bs.length).run P w=.ok ((bs.map fun b=>(b.toNat:Int)).map (Value.int .u8)).toArray w:=by
   have:=run_loadCells_list (P:=P) w y (bs.map fI) h.values;simpa [show fI=fun b=>Value.int .u8 b.toNat from rfl,Function.comp_def]using this
  rw[run_convert_bytes_string w src dst E _ bs.length c hs he hd,run_bytesToString w _ bs.length c _ hl,foldl_push_bytes];simp[Function.comp_def,ByteArray.empty,ByteArray.emptyWithCapacity];rfl
open Go.RowKit
inductive Nd where
 | mk (kind space:Int) (name:ByteArray) (attrs:List (ByteArray × ByteArray)) (text:ByteArray) (kids:List Nd)
def Nd.kids:Nd→List Nd|.mk _ _ _ _ _ k=>k
def Nd.kind:Nd→Int|.mk k _ _ _ _ _=>k
def Nd.space:Nd→Int|.mk _ s _ _ _ _=>s
def Nd.name:Nd→ByteArray|.mk _ _ n _ _ _=>n
def Nd.attrs:Nd→List (ByteArray × ByteArray)|.mk _ _ _ a _ _=>a
def Nd.text:Nd→ByteArray|.mk _ _ _ _ t _=>t
mutual
def Nd.sz:Nd→Nat
 | .mk _ _ _ _ _ ks=>1+aD ks
def aD:List Nd→Nat
 | []=>0
 | k :: ks=>k.sz+aD ks
end
theorem eG (n:Nd):1≤n.sz:=by cases n;unfold Nd.sz;omega
theorem aHt:∀(ks:List Nd) (j:Nat) (h:j<ks.length),(ks[j]).sz≤aD ks:=by
 intro ks;induction ks with
 | nil=>intro j h;simp at h
 | cons k ks ih =>
  intro j h;unfold aD;cases j with
  | zero=>simp
  | succ j =>
   have:=ih j (by simpa using h);simp only[List.getElem_cons_succ];omega
theorem lT {P:Nd→Prop}{Q:List Nd→Prop}(h1:∀n,Q n.kids→P n)(h2:Q [])(h3:∀n ns,P n→Q ns→Q (n :: ns)):(∀n,P n)∧∀l,Q l:=by
 have key:∀m,(∀n:Nd,n.sz≤m→P n)∧∀l:List Nd,aD l≤m→Q l:=by
  intro m;induction m with
  | zero =>
   refine⟨fun n hn=>absurd (eG n) (by omega),fun l=>?_⟩;cases l with
   | nil=>intro _;exact h2
   | cons k ks=>intro hs;unfold aD at hs;exact absurd (eG k) (by omega)
  | succ m ih =>
   have hP:∀n:Nd,n.sz≤m+1→P n:=fun n hn=>by
    refine h1 n (ih.2 _ ?_);cases n;unfold Nd.sz at hn;show aD _≤m;simp only[Nd.kids];omega
   refine⟨hP,fun l=>?_⟩;induction l with
   | nil=>intro _;exact h2
   | cons k ks ihk=>intro hs;unfold aD at hs;exact h3 k ks (hP k (by omega)) (ihk (by omega))
 exact⟨fun n=>(key n.sz).1 n kB,fun l=>(key (aD l)).2 l kB⟩
structure Six (w:World) (g o:Nat) (c0 c1 c2 c3 c4 c5:Value):Prop where
 x0:w.cell? ⟨g,o,none⟩=some c0
 x1:w.cell? ⟨g,o+1,none⟩=some c1
 x2:w.cell? ⟨g,o+2,none⟩=some c2
 x3:w.cell? ⟨g,o+3,none⟩=some c3
 x4:w.cell? ⟨g,o+4,none⟩=some c4
 x5:w.cell? ⟨g,o+5,none⟩=some c5
theorem Six.below {w w':World}{g o B:Nat}{c0 c1 c2 c3 c4 c5:Value}(h:Six w g o c0 c1 c2 c3 c4 c5)(hb:Below B w w')(hB:w.heap.size≤B):Six w' g o c0 c1 c2 c3 c4 c5:=by
 have hg:g<B:=Nat.lt_of_lt_of_le (World.block_lt_of_cell? w _ h.x0) hB;have k:∀f v,w.cell? ⟨g,f,none⟩=some v→w'.cell? ⟨g,f,none⟩=some v:=fun f v e=>by rw[hb.cell (p:=⟨g,f,none⟩) hg];exact e
 exact⟨k _ _ h.x0,k _ _ h.x1,k _ _ h.x2,k _ _ h.x3,k _ _ h.x4,k _ _ h.x5⟩
def eI (w:World)(v:Value)(l:List (ByteArray × ByteArray)):Prop :=
 ∃a c,v=.slice a l.length c∧∀j (h:j<l.length),∃g off,a=some ⟨g,off,none⟩∧w.cell? ⟨g,off+j*2,none⟩=some (.string (l[j]).1)∧w.cell? ⟨g,off+j*2+1,none⟩=some (.string (l[j]).2)
theorem eI.below {w w':World}{B:Nat}{v:Value}{l:List (ByteArray × ByteArray)}(h:eI w v l)(hb:Below B w w')(hB:w.heap.size≤B):eI w' v l:=by
 obtain⟨a,c,e,h⟩:=h;refine⟨a,c,e,fun j hj=>?_⟩;obtain⟨g,off,ha,h1,h2⟩:=h j hj;have hg:g<B:=Nat.lt_of_lt_of_le (World.block_lt_of_cell? w _ h1) hB;exact⟨g,off,ha,by rw[hb.cell (p:=⟨g,_,none⟩) hg];exact h1,by rw[hb.cell (p:=⟨g,_,none⟩) hg];exact h2⟩
mutual
def aL (w:World):Nd→Value→Prop
 | .mk kd sp nm at' tx ks,v=>∃av a c,v=.agg #[.int .i64 kd,.int .i64 sp,.string nm,av,.string tx,.slice a ks.length c]∧ks.length≤140737488355328∧eI w av at'∧aT w a 0 ks
def aT (w:World)(a:Option Addr):Nat→List Nd→Prop
 | _,[]=>True
 | i,n :: ks=>(∃g off c0 c1 c2 c3 c4 c5,a=some ⟨g,off,none⟩∧Six w g (off+i*6) c0 c1 c2 c3 c4 c5∧aL w n (.agg #[c0,c1,c2,c3,c4,c5]))∧aT w a (i+1) ks
end
theorem aT.get {w:World}{a:Option Addr}:∀(ks:List Nd) (i j:Nat) (h:j<ks.length),aT w a i ks→∃g off c0 c1 c2 c3 c4 c5,a=some ⟨g,off,none⟩∧Six w g (off+(i+j)*6) c0 c1 c2 c3 c4 c5∧aL w ks[j] (.agg #[c0,c1,c2,c3,c4,c5]):=by
 intro ks;induction ks with
 | nil=>intro i j h;simp at h
 | cons k ks ih =>
  intro i j h hk;unfold aT at hk;cases j with
  | zero=>exact hk.1
  | succ j =>
   have:=ih (i+1) j (by simpa using h) hk.2;rw[show i+1+j=i+(j+1) by omega]at this
   exact this
theorem yF {w w':World}{B:Nat}(hb:Below B w w')(hB:w.heap.size≤B):∀m:Nat,(∀(n:Nd) (v:Value),n.sz≤m→aL w n v→aL w' n v)∧(∀(a:Option Addr) (ks:List Nd) (i:Nat),aD ks≤m→aT w a i ks→aT w' a i ks):=by
 intro m;induction m with
 | zero =>
  refine⟨fun n v hn=>absurd (eG n) (by omega),fun a ks=>?_⟩;induction ks with
  | nil=>intro i _ h;unfold aT;trivial
  | cons k ks _=>intro i hs;unfold aD at hs;exact absurd (eG k) (by omega)
 | succ m ih =>
  have hN:∀(n:Nd) (v:Value),n.sz≤m+1→aL w n v→aL w' n v:=by
   intro n v hs h;cases n with
   | mk kd sp nm at' tx ks =>
    unfold Nd.sz at hs;unfold aL at h ⊢;obtain⟨av,a,c,e,hl,ha,hk⟩:=h;exact⟨av,a,c,e,hl,ha.below hb hB,ih.2 a ks 0 (by omega) hk⟩
  refine⟨hN,fun a ks=>?_⟩;induction ks with
  | nil=>intro i _ h;unfold aT;trivial
  | cons k ks ihk =>
   intro i hs h;unfold aD at hs;unfold aT at h ⊢;obtain⟨⟨g,off,c0,c1,c2,c3,c4,c5,e,h6,hn⟩,hr⟩:=h;exact⟨⟨g,off,c0,c1,c2,c3,c4,c5,e,h6.below hb hB,hN k _ (by omega) hn⟩,ihk (i+1) (by omega) hr⟩
theorem aL.below {w w':World}{B:Nat}{n:Nd}{v:Value}(h:aL w n v)(hb:Below B w w')(hB:w.heap.size≤B):aL w' n v:=(yF hb hB n.sz).1 n v kB h
theorem aT.below {w w':World}{B:Nat}{a:Option Addr}{ks:List Nd}{i:Nat}(h:aT w a i ks)(hb:Below B w w')(hB:w.heap.size≤B):aT w' a i ks:=(yF hb hB (aD ks)).2 a ks i kB h
theorem Six.zero {w:World}{g:Nat}{c0 c1 c2 c3 c4 c5:Value}(h:Six w g 0 c0 c1 c2 c3 c4 c5) :
  w.cell? ⟨g,0,none⟩=some c0∧w.cell? ⟨g,1,none⟩=some c1∧w.cell? ⟨g,2,none⟩=some c2∧w.cell? ⟨g,3,none⟩=some c3∧w.cell? ⟨g,4,none⟩=some c4∧w.cell? ⟨g,5,none⟩=some c5:=⟨h.x0,h.x1,h.x2,h.x3,h.x4,h.x5⟩
theorem aL.get {w:World}{nd:Nd}{v:Value}(h:aL w nd v):∃av a c,v=.agg #[.int .i64 nd.kind,.int .i64 nd.space,.string nd.name,av,.string nd.text,.slice a nd.kids.length c]∧eI w av nd.attrs∧aT w a 0 nd.kids∧nd.kids.length≤140737488355328:=by
 cases nd with
 | mk kd sp nm at' tx ks =>
  unfold aL at h;obtain⟨av,a,c,e,hl,hA,hK⟩:=h;exact⟨av,a,c,e,hA,hK,hl⟩
theorem iZ:∀(ks:List Nd),(∀k∈ks,k.sz≤aD ks)∧ks.length≤aD ks:=by
 intro ks;induction ks with
 | nil=>exact⟨fun k hk=>by simp at hk,Nat.zero_le _⟩
 | cons n ks ih =>
  have h1:aD (n :: ks)=n.sz+aD ks:=by conv=>lhs;unfold aD
  have h2:=eG n;refine⟨fun k hk=>?_,?_⟩
  ·rcases List.mem_cons.1 hk with h|h
   ·rw[h];omega
   ·have:=ih.1 k h;omega
  ·rw[h1,List.length_cons];have:=ih.2;omega
theorem eE (n:Nd):n.sz=1+aD n.kids:=by cases n;rfl
theorem aL.cells {w:World}{n:Nd}{c0 c1 c2 c3 c4 c5:Value}(h:aL w n (.agg #[c0,c1,c2,c3,c4,c5])) :
  ∃a b a' b',c0=.int .i64 n.kind∧c1=.int .i64 n.space∧c2=.string n.name∧c3=.slice a n.attrs.length b∧c4=.string n.text∧c5=.slice a' n.kids.length b':=by
 cases n with
 | mk kd sp nm at' tx ks =>
  unfold aL at h;obtain⟨av,a',b',e,_,⟨a,b,rfl,_⟩,_⟩:=h;simp only[Value.agg.injEq,Array.mk.injEq,List.cons.injEq,and_true]at e;obtain⟨rfl,rfl,rfl,rfl,rfl,rfl⟩:=e;exact⟨a,b,a',b',rfl,rfl,rfl,rfl,rfl,rfl⟩
mutual
def fM:Nat→Nd→Int→Int
 | 0,_,_=>-1
 | d+1,.mk _ _ _ _ _ ks,left=>jB d ks (left-1)
def jB:Nat→List Nd→Int→Int
 | _,[],left=>left
 | d,k :: ks,left=>if left<0 then left else jB d ks (fM d k left)
end
theorem aIn:∀(m:Nat),(∀(n:Nd) (d:Nat) (l:Int),n.sz≤m→0≤l→l≤1000→-1≤fM d n l∧fM d n l≤1000)∧(∀(ks:List Nd) (d:Nat) (l:Int),aD ks≤m→-1≤l→l≤1000→-1≤jB d ks l∧jB d ks l≤1000):=by
 intro m;induction m with
 | zero =>
  refine⟨fun n _ _ hn=>absurd (eG n) (by omega),fun ks=>?_⟩;cases ks with
  | nil=>intro d l _ h1 h2;unfold jB;exact⟨h1,h2⟩
  | cons k ks=>intro d l hs;unfold aD at hs;exact absurd (eG k) (by omega)
 | succ m ih =>
  have hN:∀(n:Nd) (d:Nat) (l:Int),n.sz≤m+1→0≤l→l≤1000→-1≤fM d n l∧fM d n l≤1000:=by
   intro n d l hs h0 h1;cases n with
   | mk kd sp nm at' tx ks =>
    unfold Nd.sz at hs;cases d with
    | zero=>unfold fM;omega
    | succ d=>unfold fM;exact ih.2 ks d (l-1) (by omega) (by omega) (by omega)
  refine⟨hN,fun ks=>?_⟩;induction ks with
  | nil=>intro d l _ h1 h2;unfold jB;exact⟨h1,h2⟩
  | cons k ks ihk =>
   intro d l hs h1 h2;unfold aD at hs;unfold jB;split
   ·omega
   ·have:=hN k d l (by omega) (by omega) h2;exact ihk d _ (by omega) this.1 this.2
def aD4 (ks:List Nd)(d k:Nat)(left r:Int)(w wx:World):Prop :=
 k≤ks.length∧-1≤left∧left≤1000∧jB d (ks.drop k) left=r∧Below w.heap.size w wx
theorem aLZ:∀(m:Nat) (n:Nd),n.sz≤m→∀(v:Value) (d:Nat) (D:Int) (left r:Int) (w:World),Hid (D=(d:Nat))→d≤1000→0≤left→left≤1000→Hid (aL w n v)→Hid (fM d n left=r) →
  Calls Tryz.prog 89 #[v,.int .i64 left,.int .i64 D] w fun e w'=>e=.returned (.int .i64 r)∧Below w.heap.size w w':=by
 intro m;induction m with
 | zero=>intro n hn;exact absurd (eG n) (by omega)
 | succ m ih =>
  intro n hn v d D left r w hD hd h0 h1 hV hr;have hv:=hV.out;cases n with
  | mk kd sp nm at' tx ks =>
  unfold aL at hv;obtain⟨av,a,c,rfl,hlen,hA,hK⟩:=hv;have HK:=hid hK;have HIH:=hid ih;have HN:=hid hn;clear hA hK ih hn hV;cases d with
  | zero =>
   have hr2:-1=r:=by have:=hr.out;unfold fM at this;exact this
   have HR:=hid hr2;clear hr2 hr;obtain rfl:D=0:=hD.out;go_enter Tryz.func89,Tryz.ntmps89
   go_wp2
   go_ret;refine⟨?_,(Below.refl _ w).alloc kB _⟩;rw[←HR.out];rfl
  | succ d =>
   have hr2:jB d ks (left-1)=r:=by have:=hr.out;unfold fM at this;exact this
   have HR:Hid (aD4 ks d 0 (left-1) r w (w.alloc (.cells #[.int .i64 kd,.int .i64 sp,.string nm,av,.string tx,.slice a ks.length c] 45))):=⟨Nat.zero_le _,by omega,by omega,hr2,(Below.refl _ w).alloc kB _⟩
   clear hr2 hr;have hDb:D=(d:Int)+1:=by rw[hD.out];omega
   have hq0:(D==0)=false:=by rw[beq_eq_false_iff_ne];omega
   have hD1:1≤D:=by omega
   have hD2:D≤1001:=by omega
   have HDD:Hid (D-1=(d:Nat)):=by show _=_;omega
   clear hDb;go_enter Tryz.func89,Tryz.ntmps89
   go_wp2
   go_loopw [1,16] (fun l i wx=>∃(k:Nat) (L:Int),i=.int .i64 k∧l=.int .i64 L∧Hid (aD4 ks d k L r w wx)) (fun _ i _=>ks.length-(intOf i).toNat)
   case atStart=>exact⟨0,left-1,rfl,rfl,HR⟩
   case round =>
    obtain⟨k,L,rfl,rfl,hR⟩:=hrel;have hk:=hR.out.1;have hL0:=hR.out.2.1;have hL1:=hR.out.2.2.1;rcases Nat.lt_or_ge k ks.length with hlt|hge
    ·obtain⟨g,off,c0,c1,c2,c3,c4,c5,rfl,h6,hn⟩:=HK.out.get ks 0 k hlt;rw[Nat.zero_add]at h6
     have h6':=h6.below hR.out.2.2.2.2 kB;obtain⟨x0,x1,x2,x3,x4,x5⟩:=h6';have hst:jB d (ks.drop k) L=if L<0 then L else jB d (ks.drop (k+1)) (fM d ks[k] L):=by
      rw[List.drop_eq_getElem_cons hlt];conv=>lhs;unfold jB
     have HST:=hid hst;obtain⟨a1,b1,a2,b2,rfl,rfl,rfl,rfl,rfl,rfl⟩:=hn.cells;have HND:=hid (hn.below hR.out.2.2.2.2 kB);clear hst hn h6;have HSZ:=hid (aHt ks k hlt);have HNN:=HN.out;unfold Nd.sz at HNN;have hm:(ks[k]).sz≤m:=by have:=HSZ.out;omega
     have HM:=hid hm;clear hm HNN;generalize ks[k]=q at *
     rcases Int.lt_or_le L 0 with hneg|hpos
     ·have hrL:L=r:=by
       have:=hR.out.2.2.2.1;rw[HST.out,if_pos hneg]at this
       exact this
      have HRL:=hid hrL;clear hrL;go_wp2
      go_ret;refine⟨?_,hR.out.2.2.2.2.trans (((Below.refl _ wr).alloc kB _).mono hR.out.2.2.2.2.size)⟩;rw[HRL.out];rfl
     ·have hB2:Below w.heap.size w (wr.alloc (.cells #[.int .i64 q.kind,.int .i64 q.space,.string q.name,.slice a1 q.attrs.length b1,.string q.text,.slice a2 q.kids.length b2] 45)):=hR.out.2.2.2.2.trans (((Below.refl _ wr).alloc kB _).mono hR.out.2.2.2.2.size);have HB2:=hid hB2;have HND2:=hid (HND.out.below ((Below.refl wr.heap.size wr).alloc kB (.cells #[.int .i64 q.kind,.int .i64 q.space,.string q.name,.slice a1 q.attrs.length b1,.string q.text,.slice a2 q.kids.length b2] 45)) kB);clear hB2;go_wp2_with fail
      refine(HIH.out q HM.out _ d (D-1) L (fM d q L) _ HDD (by omega) hpos hL1 HND2 (hid rfl)).mono ?_;rintro e W2 ⟨rfl,B2⟩;have HN2:Hid (aD4 ks d (k+1) (fM d q L) r w W2):=by
       have hrg:=(aIn q.sz).1 q d L kB hpos hL1;refine⟨hlt,hrg.1,hrg.2,?_,HB2.out.trans (B2.mono HB2.out.size)⟩;have:=hR.out.2.2.2.1;rw[HST.out,if_neg (by omega)]at this
       exact this
      clear B2;go_wp2
      go_roundw
      case rel=>exact⟨k+1,fM d q L,by go_num,rfl,HN2⟩
      case measure=>simp[intOf];omega
    ·have hrL:L=r:=by
      have:=hR.out.2.2.2.1;rw[List.drop_eq_nil_of_le (by omega)]at this
      unfold jB at this;exact this
     have HRL:=hid hrL;clear hrL;go_wp2
     go_ret;refine⟨?_,hR.out.2.2.2.2⟩;rw[HRL.out];rfl
open Go.RowKit
def jE (w:World)(v:Value)(n:Nat)(xs:List Value):Prop :=
 ∃a c,v=.slice a n c∧∀j u,xs[j]?=some u→∃g off,a=some ⟨g,off,none⟩∧w.cell? ⟨g,off+j,none⟩=some u
theorem jE.below {w w':World}{B n:Nat}{v:Value}{xs:List Value}(h:jE w v n xs)(hb:Below B w w')(hB:w.heap.size≤B):jE w' v n xs:=by
 obtain⟨a,c,e,h⟩:=h;refine⟨a,c,e,fun j u hj=>?_⟩;obtain⟨g,off,ha,hc⟩:=h j u hj;have hg:g<B:=Nat.lt_of_lt_of_le (World.block_lt_of_cell? w _ hc) hB;exact⟨g,off,ha,by rw[hb.cell (p:=⟨g,_,none⟩) hg];exact hc⟩
theorem jE.get {w:World}{v:Value}{n:Nat}{xs:List Value}(h:jE w v n xs)(j:Nat)(hj:j<xs.length):∃g off c,v=.slice (some ⟨g,off,none⟩) n c∧w.cell? ⟨g,off+j,none⟩=some xs[j]:=by
 obtain⟨a,c,e,h⟩:=h;obtain⟨g,off,ha,hc⟩:=h j _ (List.getElem?_eq_getElem hj);exact⟨g,off,c,by rw[e,ha],hc⟩
structure bC (B:Nat) (e:TypeId) (size:Nat) (v:Value) (n:Nat) (xs:List Value) (W0 w:World):Prop where
 own:w.ownsRow B e size v n xs
 bel:Below B W0 w
 base:B≤w.heap.size
theorem bC.nil (W:World)(e:TypeId)(size:Nat):bC W.heap.size e size (.slice none 0 0) 0 [] W W:=⟨World.ownsRow_nil _ _ _ _,Below.refl _ _,Nat.le_refl _⟩
theorem bC.of {B:Nat}{W0 w:World}(e:TypeId)(size:Nat)(hb:Below B W0 w)(hB:B≤w.heap.size):bC B e size (.slice none 0 0) 0 [] W0 w:=⟨World.ownsRow_nil _ _ _ _,hb,hB⟩
theorem bC.cast {B:Nat}{e:TypeId}{size:Nat}{v:Value}{n n':Nat}{xs xs':List Value}{W0 w:World}(h:bC B e size v n xs W0 w)(hn:n=n')(hx:xs=xs'):bC B e size v n' xs' W0 w:=by
 subst hn;subst hx;exact h
theorem bC.keep {B:Nat}{e:TypeId}{size:Nat}{v:Value}{n:Nat}{xs:List Value}{W0 w w':World}(h:bC B e size v n xs W0 w)(hb:Below w.heap.size w w'):bC B e size v n xs W0 w':=by
 refine⟨⟨h.own.1,?_⟩,h.bel.trans (hb.mono h.base),Nat.le_trans h.base hb.size⟩;rcases h.own.2 with hn|⟨g,cap,cur,hv,hB,hg,rest⟩
 ·exact .inl hn
 ·have hlt:g<w.heap.size:=(Array.getElem?_eq_some_iff.1 hg).1;exact .inr ⟨g,cap,cur,hv,hB,by rw[hb.block g hlt];exact hg,rest⟩
theorem bC.alloc {B:Nat}{e:TypeId}{size:Nat}{v:Value}{n:Nat}{xs:List Value}{W0 w:World}(h:bC B e size v n xs W0 w)(o:Obj):bC B e size v n xs W0 (w.alloc o) :=
 h.keep ((Below.refl _ w).alloc kB o)
theorem bC.drew {B:Nat}{e:TypeId}{size:Nat}{v:Value}{n:Nat}{xs:List Value}{W0 w:World}(h:bC B e size v n xs W0 w):bC B e size v n xs W0 w.drew:=h.keep (Below.refl _ w).drew
theorem bC.vec {B:Nat}{e:TypeId}{size:Nat}{v:Value}{n:Nat}{xs:List Value}{W0 w:World}(h:bC B e size v n xs W0 w):jE w v n xs:=by
 rcases h.own.2 with⟨hv,h0⟩|⟨g,cap,cur,hv,hB,hg,hnc,hcm,hcs,htake⟩
 ·have hx:xs=[]:=List.eq_nil_of_length_eq_zero (by rw[h.own.1,h0,Nat.zero_mul]);exact⟨none,0,by rw[hv,h0],fun j u hj=>by rw[hx]at hj;simp at hj⟩
 ·refine⟨_,_,hv,fun j u hj=>⟨g,0,rfl,?_⟩⟩;rw[Nat.zero_add,cell_of_row w g j cur e (0,0) hg];rw[←htake,List.getElem?_take]at hj
  split at hj
  ·simpa using hj
  ·cases hj
theorem bC.slice {B:Nat}{e:TypeId}{size:Nat}{v:Value}{n:Nat}{xs:List Value}{W0 w:World}(h:bC B e size v n xs W0 w):∃a c,v=.slice a n c∧n≤c∧∀y,a=some y→B≤y.block∧y.block<w.heap.size:=by
 rcases h.own.2 with⟨hv,h0⟩|⟨g,cap,cur,hv,hB,hg,hnc,hcm,hcs,htake⟩
 ·exact⟨none,0,by rw[hv,h0],by omega,fun y hy=>by cases hy⟩
 ·refine⟨_,_,hv,hnc,fun y hy=>?_⟩;cases hy;exact⟨hB,(Array.getElem?_eq_some_iff.1 hg).1⟩
theorem bC.isB {B:Nat}{v:Value}{n:Nat}{a:Option Addr}{c:Nat}{bs:List UInt8}{W0 w:World}(h:bC B 5 1 v n (bs.map fI) W0 w)(hv:v=.slice a n c):IsB w a bs:=by
 intro j b hb;obtain⟨a',c',e,h⟩:=h.vec;rw[hv]at e
 simp only[Value.slice.injEq]at e;obtain⟨rfl,_,_⟩:=e;obtain⟨g,off,ha,hc⟩:=h j (fI b) (by rw[List.getElem?_map,hb];rfl);refine⟨_,ha,?_⟩;have hadd:(⟨g,off,none⟩:Addr).add j=⟨g,off+j,none⟩:=by unfold Addr.add;split<;>simp_all
 rw[hadd];exact hc
structure kA (w w':World) (v v':Value):Prop where
 gr:w.grownBy w' v.ownBlock
 loc:v'.ownBlock=v.ownBlock∨∃k,v'.ownBlock=some k∧w.heap.size≤k
def nK (v u:Value):Prop:=v.ownBlock=none∨u.ownBlock=none∨v.ownBlock≠u.ownBlock
theorem nK.nil (v:Value):nK (.slice none 0 0) v:=.inl rfl
theorem nK.symm {v u:Value}(h:nK v u):nK u v:=by
 rcases h with h|h|h
 ·exact .inr (.inl h)
 ·exact .inl h
 ·exact .inr (.inr (Ne.symm h))
theorem kA.other {B:Nat}{e:TypeId}{size:Nat}{u v v':Value}{n:Nat}{xs:List Value}{W0 w w':World}(h:kA w w' v v')(hO:bC B e size u n xs W0 w)(ha:nK v u)(hv:∀k,v.ownBlock=some k→B≤k):bC B e size u n xs W0 w':=by
 refine⟨⟨hO.own.1,?_⟩,hO.bel.grown h.gr hO.base hv,Nat.le_trans hO.base h.gr.size⟩;rcases hO.own.2 with hn|⟨g,cap,cur,rfl,hB,hg,rest⟩
 ·exact .inl hn
 ·have hlt:g<w.heap.size:=(Array.getElem?_eq_some_iff.1 hg).1;refine .inr ⟨g,cap,cur,rfl,hB,?_,rest⟩;rw[h.gr.block g hlt (fun e=>?_)]
  ·exact hg
  ·rcases ha with h1|h1|h1
   ·rw[h1]at e;cases e
   ·cases h1
   ·exact h1 e.symm
theorem kA.apart {B:Nat}{e:TypeId}{size:Nat}{u v v':Value}{n:Nat}{xs:List Value}{W0 w w':World}(h:kA w w' v v')(hO:bC B e size u n xs W0 w)(ha:nK v u):nK v' u:=by
 rcases h.loc with h1|⟨k,hk,hle⟩
 ·unfold nK;rw[h1];exact ha
 ·rcases hO.own.2 with⟨rfl,_⟩|⟨g,cap,cur,rfl,hB,hg,rest⟩
  ·exact .inr (.inl rfl)
  ·have hlt:g<w.heap.size:=(Array.getElem?_eq_some_iff.1 hg).1;refine .inr (.inr ?_);rw[hk];intro e;simp[Value.ownBlock]at e
   omega
theorem bC.hi {B:Nat}{e:TypeId}{size:Nat}{v:Value}{n:Nat}{xs:List Value}{W0 w:World}(hO:bC B e size v n xs W0 w):∀k,v.ownBlock=some k→k<w.heap.size:=by
 intro k hk;rcases hO.own.2 with⟨rfl,_⟩|⟨g,cap,cur,rfl,hbg,hg,_⟩
 ·simp[Value.ownBlock]at hk
 ·simp[Value.ownBlock]at hk
  subst hk;exact(Array.getElem?_eq_some_iff.1 hg).1
theorem kA.cell {w w':World}{v v' u:Value}{p:Addr}(h:kA w w' v v')(hc:w.cell? p=some u)(hne:v.ownBlock=some p.block→False):w'.cell? p=some u :=
 (World.cell?_of_block (h.gr.block p.block (World.block_lt_of_cell? w p hc) (fun e=>hne e.symm))).trans hc
theorem mV {w:World}{p:Addr}{u:Value}{o:Obj}(hc:w.cell? p=some u):(w.alloc o).cell? p=some u:=by
 rw[((Below.refl w.heap.size w).alloc kB o).cell (World.block_lt_of_cell? w p hc)];exact hc
theorem bC.lo {B:Nat}{e:TypeId}{size:Nat}{v:Value}{n:Nat}{xs:List Value}{W0 w:World}(hO:bC B e size v n xs W0 w):∀k,v.ownBlock=some k→B≤k:=by
 intro k hk;rcases hO.own.2 with⟨rfl,_⟩|⟨g,cap,cur,rfl,hbg,_⟩
 ·simp[Value.ownBlock]at hk
 ·simp[Value.ownBlock]at hk
  subst hk;exact hbg
section
variable {P:Program} {w:World} {ops:Array Oper} {rest:List Oper} {o:Oper} {a:Act} {Q:Exit→Act→World→Prop}
theorem pO (hgd:o.guard=none)(s x:Operand)(t:TypeId)
  (ho:o.op=.call { callee:=.builtin .append,args:=#[s,x],argTypes:=#[t,t] })
  (e:TypeId) (i:TypeInfo) (z:Value) (size bytes:Nat) (ht:P.underlying t=some (.slice e)) (hi:P.info? e=some i) (hz:i.zero=some z)
  (hsize:i.size=size) (hby:i.bytes=bytes) (hzs:z.cells.size=size) (hsz:0<size)
  {B:Nat} {W0:World} (v:Value) (n:Nat) (xs:List Value) (hs:a.eval s=v) (hO:bC B e size v n xs W0 w)
  (ad:Addr) (m c:Nat) (news:List Value) (hx:a.eval x=.slice (some ad) m c) (hl:news.length=m*size) (hnews:∀j u,news[j]?=some u→w.cell? (ad.add j)=some u) (h1:news.all (fun u=>u.oneCell')=true)
  (hb:(n+m)*bytes≤140737488355328) (hn:n+m≤140737488355328)
  (h:∀v' w',Hid (bC B e size v' (n+m) (xs++news) W0 w')→Hid (kA w w' v v')→wpList P ops Q rest (a.put o.dst v') w'):wpList P ops Q (o :: rest) a w:=by
 refine wpList_append_own_at w hgd s x t ho B e i z size bytes ht hi hz hsize hby hzs hsz v n xs hs hO.own ad m c news hx hl hnews (fun u hu=>List.all_eq_true.1 h1 u hu) (by unfold maxLen;omega) hb hO.base ?_;intro v' w' ho' hg _ hat;refine h v' w' ⟨ho',hO.bel.grown hg hO.base hO.lo,Nat.le_trans hO.base hg.size⟩ ⟨hg,?_⟩;rcases hat with hat|hat
 ·exact .inl hat
 ·exact .inr ⟨_,hat,Nat.le_refl _⟩
theorem fT (hgd:o.guard=none)(s x:Operand)(t:TypeId)
  (ho:o.op=.call { callee:=.builtin .append,args:=#[s,x],argTypes:=#[t,t] })
  (e:TypeId) (i:TypeInfo) (z:Value) (size bytes:Nat) (ht:P.underlying t=some (.slice e)) (hi:P.info? e=some i) (hz:i.zero=some z)
  (hsize:i.size=size) (hby:i.bytes=bytes) (hzs:z.cells.size=size) (hsz:0<size)
  {B:Nat} {W0 w0:World} (v:Value) (n:Nat) (xs:List Value) (hs:a.eval s=v) (hO:bC B e size v n xs W0 w0)
  (cs:Array Value) (hw:w=w0.alloc (.cells cs e)) (hx:a.eval x=.slice (some ⟨w0.heap.size,0,none⟩) 1 1) (hcs:cs.size=size) (h1:cs.toList.all (fun u=>u.oneCell')=true)
  (hb:(n+1)*bytes≤140737488355328) (hn:n+1≤140737488355328)
  (h:∀v' w',Hid (bC B e size v' (n+1) (xs++cs.toList) W0 w')→Hid (kA (w0.alloc (.cells cs e)) w' v v')→wpList P ops Q rest (a.put o.dst v') w'):wpList P ops Q (o :: rest) a w:=by
 subst hw;refine pO hgd s x t ho e i z size bytes ht hi hz hsize hby hzs hsz v n xs hs (hO.alloc _) ⟨w0.heap.size,0,none⟩ 1 1 cs.toList hx (by simpa using hcs) ?_ h1 hb hn h;intro j u hj;have hadd:(⟨w0.heap.size,0,none⟩:Addr).add j=⟨w0.heap.size,j,none⟩:=by unfold Addr.add;split<;>simp_all
 rw[hadd,cell_of_row _ _ j cs e (0,0) (heap_alloc_new w0 _)];simpa using hj
end
open Go.RowKit
def kK (s:Dec.Dc):List Value:=s.D.map fI++[.int .i64 s.nd,.int .i64 s.dp,.bool s.neg,.bool s.trunc]
structure aE (w:World) (B:Nat) (s:Dec.Dc):Prop where
 h:w.heap[B]?=some (.cells (kK s).toArray 234 (0,0))
 len:s.D.length=800
section
variable {w:World} {B:Nat} {s:Dec.Dc}
theorem aE.byte (h:aE w B s)(i:Nat)(hi:i<s.D.length):w.cell? ⟨B,i,none⟩=some (.int .u8 (s.D[i].toNat:Nat)):=by
 rw[cell_of_row w B i _ _ _ h.h];unfold kK;rw[List.getElem?_toArray,List.getElem?_append,if_pos (by rw[List.length_map];exact hi),List.getElem?_map,List.getElem?_eq_getElem hi];rfl
theorem aE.tail (h:aE w B s)(j:Nat):w.cell? ⟨B,800+j,none⟩=[Value.int .i64 s.nd,.int .i64 s.dp,.bool s.neg,.bool s.trunc][j]?:=by
 rw[cell_of_row w B _ _ _ _ h.h];unfold kK;rw[List.getElem?_toArray,List.getElem?_append,if_neg (by rw[List.length_map,h.len];omega),List.length_map,h.len,show 800+j-800=j by omega]
theorem aE.nd (h:aE w B s):w.cell? ⟨B,800,none⟩=some (.int .i64 s.nd):=h.tail 0
theorem aE.dp (h:aE w B s):w.cell? ⟨B,801,none⟩=some (.int .i64 s.dp):=h.tail 1
theorem aE.neg (h:aE w B s):w.cell? ⟨B,802,none⟩=some (.bool s.neg):=h.tail 2
theorem aE.trunc (h:aE w B s):w.cell? ⟨B,803,none⟩=some (.bool s.trunc):=h.tail 3
theorem aE.fz (h:aE w B s)(j:Nat):w.frozen? ⟨B,j,none⟩=false:=frozen_of_row w B j _ _ h.h
theorem aE.lt (h:aE w B s):B<w.heap.size:=(Array.getElem?_eq_some_iff.1 h.h).1
theorem aE.same {w':World}(h:aE w B s)(e:w'.heap=w.heap):aE w' B s:=⟨by rw[e];exact h.h,h.len⟩
theorem aE.drewN (h:aE w B s)(n:Nat):aE (w.drewN n) B s:=h.same rfl
theorem aE.kept {w':World}{S:Nat→Prop}(h:aE w B s)(k:aG S w w')(hs:¬S B):aE w' B s:=⟨k.heap h.h hs,h.len⟩
theorem aE.setByte (h:aE w B s)(i:Nat)(hi:i<800)(c:UInt8)(v:Int)(hv:v=(c.toNat:Nat)):aE (w.setCell ⟨B,i,none⟩ (.int .u8 v)) B { s with D:=s.D.set i c }:=by
 subst hv;refine⟨?_,by rw[List.length_set];exact h.len⟩;rw[heap_setCell_same _ _ _ _ _ _ h.h];congr 2;apply Array.toList_inj.1;unfold kK;rw[Array.toList_setIfInBounds,List.set_append,if_pos (by rw[List.length_map,h.len];exact hi)];simp only[List.map_set];rfl
theorem kN (s s':Dec.Dc)(hl:s.D.length=800)(hD:s'.D=s.D)(j:Nat)(v:Value)
  (h:[Value.int .i64 s.nd,.int .i64 s.dp,.bool s.neg,.bool s.trunc].set j v=[Value.int .i64 s'.nd,.int .i64 s'.dp,.bool s'.neg,.bool s'.trunc]) :
  (kK s).toArray.setIfInBounds (800+j) v=(kK s').toArray:=by
 apply Array.toList_inj.1;unfold kK;rw[Array.toList_setIfInBounds,List.set_append,if_neg (by rw[List.length_map,hl];omega),List.length_map,hl,show 800+j-800=j by omega,h,hD]
theorem aE.setNd (h:aE w B s)(n:Nat):aE (w.setCell ⟨B,800,none⟩ (.int .i64 n)) B { s with nd:=n } :=
 ⟨by rw[heap_setCell_same _ _ _ _ _ _ h.h,kN s { s with nd:=n } h.len rfl 0 _ rfl],h.len⟩
theorem aE.setNdV (h:aE w B s)(n:Nat)(v:Int)(hv:v=(n:Nat)):aE (w.setCell ⟨B,800,none⟩ (.int .i64 v)) B { s with nd:=n }:=by
 subst hv;exact h.setNd n
theorem aE.setDpV (h:aE w B s)(n v:Int)(hv:v=n):aE (w.setCell ⟨B,801,none⟩ (.int .i64 v)) B { s with dp:=n }:=by
 subst hv;exact⟨by rw[heap_setCell_same _ _ _ _ _ _ h.h,kN s { s with dp:=v } h.len rfl 1 _ rfl],h.len⟩
theorem aE.setDp (h:aE w B s)(n:Int):aE (w.setCell ⟨B,801,none⟩ (.int .i64 n)) B { s with dp:=n } :=
 ⟨by rw[heap_setCell_same _ _ _ _ _ _ h.h,kN s { s with dp:=n } h.len rfl 1 _ rfl],h.len⟩
theorem aE.setNeg (h:aE w B s)(b:Bool):aE (w.setCell ⟨B,802,none⟩ (.bool b)) B { s with neg:=b } :=
 ⟨by rw[heap_setCell_same _ _ _ _ _ _ h.h,kN s { s with neg:=b } h.len rfl 2 _ rfl],h.len⟩
theorem aE.setTr (h:aE w B s)(b:Bool):aE (w.setCell ⟨B,803,none⟩ (.bool b)) B { s with trunc:=b } :=
 ⟨by rw[heap_setCell_same _ _ _ _ _ _ h.h,kN s { s with trunc:=b } h.len rfl 3 _ rfl],h.len⟩
end
def aJp (B:Nat)(s:Dec.Dc)(w:World)(e:Ending)(w':World):Prop:=e=.returned (.tuple #[])∧aE w' B (Dec.trimD s)∧aG (· = B) w w'
theorem zY (B:Nat)(s:Dec.Dc)(w:World)(h:aE w B s)(hn:s.nd≤800) :
  Calls Tryz.prog 287 #[.pointer (some ⟨B,0,none⟩)] w (aJp B s w):=by
 have H:=hid h;have L:=hid h.len;clear h;go_enter Tryz.func287,Tryz.ntmps287
 go_wp2_with fail
 go_loopg [] s.nd (fun g wr=>∃k:Nat,g=k∧k≤s.nd∧aE wr B { s with nd:=k }∧Dec.trimL (s.D.take k)=Dec.trimL (s.D.take s.nd)∧aG (· = B) w wr)
 case atStart=>exact⟨s.nd,rfl,Nat.le_refl _,H.out,rfl,aG.refl _ _⟩
 case round =>
  obtain⟨k,hgk,hk,hd,ht,hK⟩:=hrel;have HGK:=hid hgk;clear hgk;have f0:=hd.fz 800;have f1:=hd.fz 801;have c801:wr.cell? ⟨B,801,none⟩=some (.int .i64 s.dp):=hd.dp;have HD:=hid hd;have HT:=hid ht;have HK:=hid hK;by_cases h0:k=0
  ·subst h0;have c8:wr.cell? ⟨B,800,none⟩=some (.int .i64 0):=hd.nd;clear hd ht hK hk;go_wp2_with fail
   go_quiet (fail)
   go_wp2
   go_end0
   have t0:Dec.trimL (s.D.take s.nd)=0:=HT.out.symm;have e:Dec.trimD s={ ({ s with nd:=0 }:Dec.Dc)with dp:=0 }:=by unfold Dec.trimD;rw[t0,if_pos rfl]
   refine⟨rfl,?_,(HK.out.drewN _).setCell _ _ (fun _=>rfl)⟩;rw[e];exact(HD.out.drewN _).setDp 0
  ·obtain⟨i,rfl⟩:∃i,k=i+1:=⟨k-1,by omega⟩
   have hi:i<s.D.length:=by rw[L.out];omega
   have c8:wr.cell? ⟨B,800,none⟩=some (.int .i64 ((i:Int)+1)):=by have:=hd.nd;simpa using this
   have ci:wr.cell? ⟨B,i,none⟩=some (.int .u8 (s.D[i].toNat:Nat)):=hd.byte i hi;obtain⟨c,hc⟩:∃c,s.D[i]=c:=⟨_,rfl⟩
   rw[hc]at ci
   have hg:s.D[i]?=some c:=by rw[List.getElem?_eq_getElem hi,hc]
   have HG:=hid hg;have i800:i<800:=by omega
   clear hd ht hK hc hg hi h0;by_cases h48:c=48
   ·have e1:((c.toNat:Int)==48)=true:=by rw[h48];rfl
    have H48:=hid h48;clear h48;have w1:IntKind.i64.wrap ((i:Int)+1-1)=i:=by rw[IntWalk.i64_in _ (by omega)];omega
    go_wp2_with fail
    go_quiet (fail)
    go_wp2
    go_roundg i
    case measure=>have:=HGK.out;omega
    case rel=>exact⟨i,rfl,by omega,(HD.out.drewN _).setNd i,(Dec.trimL_take s.D i c HG.out H48.out).symm.trans HT.out,(HK.out.drewN _).setCell _ _ (fun _=>rfl)⟩
   ·have e1:((c.toNat:Int)==48)=false:=beq_eq_false_iff_ne.2 (by intro e;exact h48 (UInt8.toNat_inj.1 (by show _=48;omega)));have H48:=hid h48;clear h48;have w1:IntKind.i64.wrap ((i:Int)+1-1)=i:=by rw[IntWalk.i64_in _ (by omega)];omega
    go_wp2_with fail
    go_quiet (fail)
    go_wp2
    go_end0
    have t0:Dec.trimL (s.D.take s.nd)=i+1:=HT.out.symm.trans (Dec.trimL_stop s.D i c HG.out H48.out);have e:Dec.trimD s={ s with nd:=i+1 }:=by unfold Dec.trimD;rw[t0,if_neg (by omega)]
    refine⟨rfl,?_,HK.out.drewN _⟩;rw[e];exact HD.out.drewN _
open Go.RowKit
def lN (l:List UInt8):List Nat:=l.map UInt8.toNat
theorem wU (l:List UInt8)(k:Nat)(c:UInt8)(h:l[k]?=some c):(lN l).drop k=c.toNat :: (lN l).drop (k+1):=by
 obtain⟨hk,e⟩:=List.getElem?_eq_some_iff.1 h;unfold lN;rw[←List.map_drop,←List.map_drop,List.drop_eq_getElem_cons hk,e];rfl
theorem aDi (l:List UInt8)(k:Nat)(h:l.length≤k):(lN l).drop k=[]:=List.drop_eq_nil_of_le (by unfold lN;rw[List.length_map];exact h)
theorem tK {a b:Bool}(h:a=b):Ending.returned (.bool a)=.returned (.bool b):=by rw[h]
theorem aG3 (B n c:Nat)(d:Dec.Dc)(s:ByteArray)(w:World)(h:aE w B d)(hn:n≤800)(_hs:s.size≤1000) :
  Calls Tryz.prog 296 #[.slice (some ⟨B,0,none⟩) n c,.string s] w fun e w'=>e=.returned (.bool (Dec.less (lN (d.D.take n)) (lN s.data.toList)))∧∃m,w'=w.drewN m:=by
 have H:=hid h;have L:=hid h.len;obtain⟨r,hr⟩:∃r,Dec.less (lN (d.D.take n)) (lN s.data.toList)=r:=⟨_,rfl⟩
 have HR:=hid hr;rw[hr];clear h hr;go_enter Tryz.func296,Tryz.ntmps296
 go_wp2_with fail
 go_loopw [5] (fun i wr=>∃k m:Nat,k≤s.size∧i=.int .i64 k∧Dec.less ((lN (d.D.take n)).drop k) ((lN s.data.toList).drop k)=r∧wr=w.drewN m) (fun i _=>s.size-(intOf i).toNat)
 case atStart=>exact⟨0,0,Nat.zero_le _,rfl,HR.out,rfl⟩
 case round =>
  obtain⟨k,m,hk,rfl,hl,hw⟩:=hrel;have HD:Hid (aE wr B d):=by rw[hw];exact H.out.drewN m
  have HW:=hid hw;have HL:=hid hl;clear hw hl;by_cases hlt:k<s.size
  ·by_cases hkn:k<n
   ·have hkD:k<d.D.length:=by rw[L.out];omega
    have ci:wr.cell? ⟨B,k,none⟩=some (.int .u8 (d.D[k].toNat:Nat)):=HD.out.byte k hkD;obtain⟨b,hb⟩:∃b,d.D[k]=b:=⟨_,rfl⟩
    rw[hb]at ci
    have g1:(d.D.take n)[k]?=some b:=by rw[List.getElem?_take,if_pos hkn,List.getElem?_eq_getElem hkD,hb]
    have g2:s.data.toList[k]?=some s[k]:=by rw[List.getElem?_eq_getElem (by simpa using hlt)];rfl
    have G1:=hid (wU _ _ _ g1);have G2:=hid (wU _ _ _ g2);clear g1 g2 hb hkD;by_cases he:b.toNat=s[k].toNat
    ·have e1:((b.toNat:Int) !=(s[k].toNat:Int))=false:=bne_eq_false_iff_eq.2 (by omega);have HE:=hid he;clear he;go_wp2_with fail
     go_quiet (fail)
     go_wp2
     go_roundw
     case measure=>simp[intOf];omega
     case rel =>
      refine⟨k+1,m+nq,by omega,by go_num,?_,?_⟩
      ·rw[←HL.out,G1.out,G2.out];show _=(if b.toNat=s[k].toNat then _ else _)
       rw[if_pos HE.out]
      ·rw[HW.out,World.drewN_drewN]
    ·have e1:((b.toNat:Int) !=(s[k].toNat:Int))=true:=bne_iff_ne.2 (by omega);have HE:=hid he;clear he;go_wp2_with fail
     go_quiet (fail)
     go_wp2_with fail
     go_quiet (fail)
     go_wp2
     go_ret;refine⟨tK ?_,_,by rw[HW.out,World.drewN_drewN,World.drewN_drewN]⟩;rw[←HL.out,G1.out,G2.out];show _=(if b.toNat=s[k].toNat then _ else _)
     rw[if_neg HE.out]
   ·have hl0:(d.D.take n).length≤k:=by rw[List.length_take];omega
    have G1:=hid (aDi _ _ hl0);have g2:s.data.toList[k]?=some s[k]:=by rw[List.getElem?_eq_getElem (by simpa using hlt)];rfl
    have G2:=hid (wU _ _ _ g2);clear g2 hl0;go_wp2
    go_ret;refine⟨tK ?_,m,HW.out⟩;rw[←HL.out,G1.out,G2.out];rfl
  ·have G2:=hid (aDi s.data.toList k (by show s.size≤k;omega));go_wp2
   go_ret;refine⟨tK ?_,m,HW.out⟩;rw[←HL.out,G2.out];cases (lN (d.D.take n)).drop k<;>rfl
theorem aFL (x y:List Nat):Dec.less (x.map (· + 48)) (y.map (· + 48))=Dec.less x y:=by
 induction x generalizing y with
 | nil=>cases y<;>rfl
 | cons a x ih =>
  cases y with
  | nil=>rfl
  | cons b y =>
   show(if a+48=b+48 then _ else _)=(if a=b then _ else _)
   by_cases h:a=b
   ·rw[if_pos (by omega),if_pos h];exact ih y
   ·rw[if_neg (by omega),if_neg h];by_cases g:a<b
    ·rw[decide_eq_true g,decide_eq_true (show a+48<b+48 by omega)]
    ·rw[decide_eq_false g,decide_eq_false (show ¬a+48<b+48 by omega)]
theorem aKk (s:Dec.Dc)(h:Dec.Fine s):lN (s.D.take s.nd)=(Dec.dgs s.D s.nd).map (· + 48):=by
 unfold lN Dec.dgs;rw[List.map_map];refine List.map_congr_left fun c hc=>?_
 have:=h.dig c hc;show c.toNat=Dec.un c+48;unfold Dec.un;omega
theorem aGV:∀k<61,k≠0→(Pinned.cheatRows.getD k (0,[])).1=Dec.more k∧lN (Pinned.cheatRows.getD k (0,[])).2=(Dec.cut k).map (· + 48)∧(Pinned.cheatRows.getD k (0,[])).2.length≤60:=by decide +kernel
open Go.RowKit
def iQ (w:World)(xs:List Value)(ks:List Nd):Prop :=
 xs.length=ks.length*6∧∀j (h:j<ks.length),∃c0 c1 c2 c3 c4 c5,xs[j*6]?=some c0∧xs[j*6+1]?=some c1∧xs[j*6+2]?=some c2∧xs[j*6+3]?=some c3∧xs[j*6+4]?=some c4∧xs[j*6+5]?=some c5∧aL w ks[j] (.agg #[c0,c1,c2,c3,c4,c5])
theorem iQ.below {w w':World}{B:Nat}{xs:List Value}{ks:List Nd}(h:iQ w xs ks)(hb:Below B w w')(hB:w.heap.size≤B):iQ w' xs ks:=by
 refine⟨h.1,fun j hj=>?_⟩;obtain⟨c0,c1,c2,c3,c4,c5,h0,h1,h2,h3,h4,h5,hn⟩:=h.2 j hj;exact⟨c0,c1,c2,c3,c4,c5,h0,h1,h2,h3,h4,h5,hn.below hb hB⟩
theorem uX {w:World}{a:Option Addr}{ks:List Nd}(h:aT w a 0 ks):∃xs,iQ w xs ks∧∀j u,xs[j]?=some u→∃g off,a=some ⟨g,off,none⟩∧w.cell? ⟨g,off+j,none⟩=some u:=by
 have key:∀(m:Nat),m≤ks.length→∃xs,iQ w xs (ks.take m)∧∀j u,xs[j]?=some u→∃g off,a=some ⟨g,off,none⟩∧w.cell? ⟨g,off+j,none⟩=some u:=by
  intro m;induction m with
  | zero=>intro _;exact⟨[],⟨by simp,fun j hj=>by simp at hj⟩,fun j u hj=>by simp at hj⟩
  | succ m ih =>
   intro hm;obtain⟨xs,⟨hl,hx⟩,hc⟩:=ih (by omega);obtain⟨g,off,c0,c1,c2,c3,c4,c5,ha,h6,hn⟩:=h.get ks 0 m (by omega);rw[Nat.zero_add]at h6
   rw[List.length_take,Nat.min_eq_left (by omega)]at hl
   have at6:∀t,(xs++[c0,c1,c2,c3,c4,c5])[m*6+t]?=[c0,c1,c2,c3,c4,c5][t]?:=fun t=>by rw[List.getElem?_append_right (by omega),show m*6+t-xs.length=t by omega]
   refine⟨xs++[c0,c1,c2,c3,c4,c5],⟨?_,fun j hj=>?_⟩,fun j u hj=>?_⟩
   ·rw[List.length_append,List.length_take,Nat.min_eq_left hm,hl];simp;omega
   ·rw[List.length_take,Nat.min_eq_left hm]at hj
    by_cases hjm:j<m
    ·obtain⟨d0,d1,d2,d3,d4,d5,k0,k1,k2,k3,k4,k5,kn⟩:=hx j (by rw[List.length_take];omega);have up:∀i v,xs[i]?=some v→(xs++[c0,c1,c2,c3,c4,c5])[i]?=some v:=fun i v hi=>by rw[List.getElem?_append_left (List.getElem?_eq_some_iff.1 hi).1];exact hi
     refine⟨d0,d1,d2,d3,d4,d5,up _ _ k0,up _ _ k1,up _ _ k2,up _ _ k3,up _ _ k4,up _ _ k5,?_⟩;rw[List.getElem_take]at kn ⊢
     exact kn
    ·obtain rfl:j=m:=by omega
     refine⟨c0,c1,c2,c3,c4,c5,at6 0,at6 1,at6 2,at6 3,at6 4,at6 5,?_⟩;rw[List.getElem_take];exact hn
   ·by_cases hjl:j<xs.length
    ·rw[List.getElem?_append_left hjl]at hj
     exact hc j u hj
    ·obtain⟨t,rfl⟩:∃t,j=m*6+t:=⟨j-m*6,by omega⟩
     rw[at6]at hj
     refine⟨g,off,ha,?_⟩;rw[show off+(m*6+t)=off+m*6+t by omega];match t,hj with
     | 0,hj=>simp at hj;subst hj;exact h6.x0
     | 1,hj=>simp at hj;subst hj;exact h6.x1
     | 2,hj=>simp at hj;subst hj;exact h6.x2
     | 3,hj=>simp at hj;subst hj;exact h6.x3
     | 4,hj=>simp at hj;subst hj;exact h6.x4
     | 5,hj=>simp at hj;subst hj;exact h6.x5
     | t+6,hj=>simp at hj
 obtain⟨xs,h1,h2⟩:=key ks.length kB;rw[List.take_length]at h1
 exact⟨xs,h1,h2⟩
theorem iQ.snoc {w:World}{xs:List Value}{ks:List Nd}{x:Nd}{c0 c1 c2 c3 c4 c5:Value}(h:iQ w xs ks)(hx:aL w x (.agg #[c0,c1,c2,c3,c4,c5])):iQ w (xs++[c0,c1,c2,c3,c4,c5]) (ks++[x]):=by
 obtain⟨hl,h⟩:=h;have at6:∀t,(xs++[c0,c1,c2,c3,c4,c5])[ks.length*6+t]?=[c0,c1,c2,c3,c4,c5][t]?:=fun t=>by rw[List.getElem?_append_right (by omega),show ks.length*6+t-xs.length=t by omega]
 refine⟨by simp;omega,fun j hj=>?_⟩;have up:∀i v,xs[i]?=some v→(xs++[c0,c1,c2,c3,c4,c5])[i]?=some v:=fun i v hi=>by rw[List.getElem?_append_left (List.getElem?_eq_some_iff.1 hi).1];exact hi
 by_cases hjm:j<ks.length
 ·obtain⟨d0,d1,d2,d3,d4,d5,k0,k1,k2,k3,k4,k5,kn⟩:=h j hjm;refine⟨d0,d1,d2,d3,d4,d5,up _ _ k0,up _ _ k1,up _ _ k2,up _ _ k3,up _ _ k4,up _ _ k5,?_⟩;rw[List.getElem_append_left hjm];exact kn
 ·have hje:j=ks.length:=by simp at hj;omega
  subst hje;refine⟨c0,c1,c2,c3,c4,c5,at6 0,at6 1,at6 2,at6 3,at6 4,at6 5,?_⟩;rw[List.getElem_append_right kB];simpa using hx
open Go.RowKit
theorem bC.empty {B:Nat}{W0 w:World}(e:TypeId)(size:Nat)(hb:Below B W0 w)(hB:B≤w.heap.size):bC B e size (.slice (some ⟨w.heap.size,0,none⟩) 0 0) 0 [] W0 (w.alloc (.cells #[] e)):=by
 refine⟨⟨by simp,.inr ⟨w.heap.size,0,#[],rfl,hB,heap_alloc_new w _,Nat.le_refl _,Nat.zero_le _,by simp,by simp⟩⟩,hb.alloc hB _,by simp;omega⟩
theorem kA.refl (w:World)(v:Value):kA w w v v:=⟨⟨rfl,rfl,rfl,Nat.le_refl _,fun _ _ _=>rfl⟩,.inl rfl⟩
section
variable {P:Program} {w:World} {ops:Array Oper} {rest:List Oper} {o:Oper} {a:Act} {Q:Exit→Act→World→Prop}
theorem pP (hgd:o.guard=none)(s x:Operand)(t:TypeId)
  (ho:o.op=.call { callee:=.builtin .append,args:=#[s,x],argTypes:=#[t,t] })
  (e:TypeId) (i:TypeInfo) (z:Value) (size bytes:Nat) (ht:P.underlying t=some (.slice e)) (hi:P.info? e=some i) (hz:i.zero=some z)
  (hsize:i.size=size) (hby:i.bytes=bytes) (hzs:z.cells.size=size) (hsz:0<size)
  {B:Nat} {W0:World} (v:Value) (n:Nat) (xs:List Value) (hs:a.eval s=v) (hO:bC B e size v n xs W0 w)
  (xo:Option Addr) (m c:Nat) (news:List Value) (hx:a.eval x=.slice xo m c) (hl:news.length=m*size) (hnews:∀j u,news[j]?=some u→∃g off,xo=some ⟨g,off,none⟩∧w.cell? ⟨g,off+j,none⟩=some u) (h1:news.all (fun u=>u.oneCell')=true)
  (hb:(n+m)*bytes≤140737488355328) (hn:n+m≤140737488355328)
  (h:∀v' w',Hid (bC B e size v' (n+m) (xs++news) W0 w')→Hid (kA w w' v v')→wpList P ops Q rest (a.put o.dst v') w'):wpList P ops Q (o :: rest) a w:=by
 cases xo with
 | some ad =>
  refine pO hgd s x t ho e i z size bytes ht hi hz hsize hby hzs hsz v n xs hs hO ad m c news hx hl (fun j u hj=>?_) h1 hb hn h;obtain⟨g,off,e1,e2⟩:=hnews j u hj;cases e1;have hadd:(⟨g,off,none⟩:Addr).add j=⟨g,off+j,none⟩:=by unfold Addr.add;split<;>simp_all
  rw[hadd];exact e2
 | none =>
  have hnil:news=[]:=by
   cases news with
   | nil=>rfl
   | cons u r =>
    obtain⟨g,off,e1,_⟩:=hnews 0 u rfl;cases e1
  subst hnil;have hm:m=0:=by
   rcases Nat.eq_zero_or_pos m with h0|h0
   ·exact h0
   ·have:=Nat.mul_pos h0 hsz;simp at hl;omega
  subst hm;have hr:(Builtin.append_ #[t,t] o.type #[v,.slice none 0 c]).run P w=.ok v w:=by
   rcases hO.own.2 with⟨rfl,rfl⟩|⟨g,cap,cur,rfl,hbg,hg,hnc,_⟩
   ·simp[Builtin.append_,run_underlying ht,sizeOf,typeInfo,hi,Builtin.lenOf,Builtin.firstCells]
   ·simp[Builtin.append_,run_underlying ht,sizeOf,typeInfo,hi,Builtin.lenOf,Builtin.firstCells,hnc,storeCells]
  refine wpList_plain hgd fun K hK=>?_
  unfold Oper.wp execOp;simp only[ho,resolve,invoke,builtin,Sem.run_bind,Sem.run_pure,Result.andThen_ok,List.map_toArray,List.map_cons,List.map_nil,hs,hx,hr];exact hK _ _ (h v w (by rw[List.append_nil];exact hid hO) (hid (kA.refl w v)))
end
open Go.RowKit
theorem iQ.one {w:World}{xs:List Value}{ks:List Nd}(h:iQ w xs ks):xs.all (fun u=>u.oneCell')=true:=by
 rw[List.all_eq_true];intro u hu;obtain⟨i,hi,rfl⟩:=List.mem_iff_getElem.1 hu;have hl:=h.1;have hj:i / 6<ks.length:=by omega
 obtain⟨c0,c1,c2,c3,c4,c5,h0,h1,h2,h3,h4,h5,hn⟩:=h.2 (i / 6) hj;obtain⟨a1,b1,a2,b2,rfl,rfl,rfl,rfl,rfl,rfl⟩:=hn.cells;have at6:∀t,i=i / 6*6+t→xs[i / 6*6+t]?=some xs[i]:=fun t e=>by rw[←e];exact List.getElem?_eq_getElem hi
 have ht:i%6=0∨i%6=1∨i%6=2∨i%6=3∨i%6=4∨i%6=5:=by omega
 rcases ht with ht|ht|ht|ht|ht|ht
 ·have e:=at6 0 (by omega);rw[Nat.add_zero,h0]at e
  rw[←Option.some.inj e];rfl
 ·have e:=at6 1 (by omega);rw[h1]at e
  rw[←Option.some.inj e];rfl
 ·have e:=at6 2 (by omega);rw[h2]at e
  rw[←Option.some.inj e];rfl
 ·have e:=at6 3 (by omega);rw[h3]at e
  rw[←Option.some.inj e];rfl
 ·have e:=at6 4 (by omega);rw[h4]at e
  rw[←Option.some.inj e];rfl
 ·have e:=at6 5 (by omega);rw[h5]at e
  rw[←Option.some.inj e];rfl
end Go.Proofs.YtcfgbdhpcboikaaGreatDoor
