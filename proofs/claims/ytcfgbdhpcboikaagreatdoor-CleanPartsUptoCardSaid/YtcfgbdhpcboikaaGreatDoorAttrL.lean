/-
  policy.Attrs as a plain function: which attributes come out, in which order. No program in sight.
  A slice of the call's own, of elements of any type: append of one element and of some, and reading it.
  Attributes in memory, a slice of the call's own; Contains of a slice of strings.
  Kids as cells in a row.
  The document's SameAttrs at a list and itself.
-/
import Derived.Lib.Bytealg
import Derived.Lib.SlicesS
import Derived.Sort.Statements
import Derived.Shelf.SlSortCmp.Insertion
import Derived.Test.YtcfgbdhpcboikaaGreatDoorTextLaw
import Derived.Test.YtcfgbdhpcboikaaGreatDoorBase
import Derived.Lib.Hide
import Derived.Maps.AppendAt
import Derived.Test.YtcfgbdhpcboikaaGreatDoorShelf
import Derived.StillTailTactics
import Derived.BigQuiet
namespace Go.Proofs.YtcfgbdhpcboikaaGreatDoor
open Go.Sort Go.Lib
theorem cb_cons (a b:UInt8)(x y:List UInt8):compareBytes (a :: x) (b :: y)=if a.toNat<b.toNat then -1 else if b.toNat<a.toNat then 1 else compareBytes x y:=by
 conv=>lhs;unfold compareBytes
 simp only[UInt8.lt_iff_toNat_lt]
theorem cb_refl:∀ a:List UInt8,compareBytes a a=0:=by
 intro a
 induction a with
 | nil=>rfl
 | cons c a ih=>rw[cb_cons,if_neg (by omega),if_neg (by omega),ih]
theorem cb_anti:∀ a b:List UInt8,compareBytes b a=- compareBytes a b:=by
 intro a
 induction a with
 | nil=>intro b;cases b<;>rfl
 | cons c a ih =>
  intro b
  cases b with
  | nil=>rfl
  | cons d b =>
   rw[cb_cons,cb_cons]
   by_cases h1:c.toNat<d.toNat
   ·rw[if_pos h1,if_neg (by omega),if_pos h1];rfl
   ·by_cases h2:d.toNat<c.toNat
    ·rw[if_pos h2,if_neg h1,if_pos h2]
    ·rw[if_neg h2,if_neg h1,if_neg h1,if_neg h2,ih]
theorem cb_eq:∀ a b:List UInt8,compareBytes a b=0→a=b:=by
 intro a
 induction a with
 | nil=>intro b h;cases b with
  | nil=>rfl
  | cons d b=>simp[compareBytes] at h
 | cons c a ih =>
  intro b h
  cases b with
  | nil=>simp[compareBytes] at h
  | cons d b =>
   rw[cb_cons] at h
   split at h
   ·omega
   ·split at h
    ·omega
    ·rw[ih b h,UInt8.toNat_inj.1 (by omega:c.toNat=d.toNat)]
theorem cb_trans:∀ a b c:List UInt8,compareBytes a b<0→compareBytes b c<0→compareBytes a c<0:=by
 intro a
 induction a with
 | nil =>
  intro b c h1 h2
  cases c with
  | nil =>
   rw[cb_anti [] b] at h2
   omega
  | cons d c=>simp[compareBytes]
 | cons x a ih =>
  intro b c h1 h2
  cases b with
  | nil=>simp[compareBytes] at h1
  | cons y b =>
   cases c with
   | nil=>simp[compareBytes] at h2
   | cons z c =>
    rw[cb_cons] at h1 h2 ⊢
    by_cases p1:x.toNat<y.toNat
    ·by_cases p2:z.toNat<y.toNat
     ·rw[if_neg (by omega),if_pos p2] at h2;omega
     ·rw[if_pos (by omega)];omega
    ·rw[if_neg p1] at h1
     by_cases p3:y.toNat<x.toNat
     ·rw[if_pos p3] at h1;omega
     ·rw[if_neg p3] at h1
      by_cases p4:y.toNat<z.toNat
      ·rw[if_pos (by omega)];omega
      ·rw[if_neg p4] at h2
       by_cases p5:z.toNat<y.toNat
       ·rw[if_pos p5] at h2;omega
       ·rw[if_neg p5] at h2
        rw[if_neg (by omega),if_neg (by omega)]
        exact ih b c h1 h2
abbrev AT:=ByteArray × ByteArray
def cmpA (x y:AT):Int:=compareBytes x.1.data.toList y.1.data.toList
theorem cmpA_swo:SWO (ltOf cmpA) where
 irrefl x:=by unfold ltOf cmpA;rw[cb_refl];rfl
 trans x y z h1 h2:=by
  unfold ltOf cmpA at *
  simp only[decide_eq_true_eq] at *
  exact cb_trans _ _ _ h1 h2
 ntrans x y z h1 h2:=by
  unfold ltOf cmpA at *
  simp only[decide_eq_false_iff_not,Int.not_lt] at *
  rcases Int.lt_or_eq_of_le h1 with h1|h1
  ·rcases Int.lt_or_eq_of_le h2 with h2|h2
   ·have:=cb_trans z.1.data.toList y.1.data.toList x.1.data.toList (by rw[cb_anti];omega) (by rw[cb_anti];omega)
    rw[cb_anti] at this
    omega
   ·rw[← cb_eq _ _ h2.symm];omega
  ·rw[cb_eq _ _ h1.symm];exact h2
def attrsGo (V:ByteArray→ByteArray→Option ByteArray):List ByteArray→List AT→List AT
 | _,[]=>[]
 | sn,x :: l=>if containsS sn x.1=true then attrsGo V sn l else (match V x.1 x.2 with|some t=>[(x.1,t)]|none=>[])++attrsGo V (sn++[x.1]) l
def Rising (r:List AT):Prop:=r.Pairwise fun x y=>cmpA x y<0
def AttrsR (V:ByteArray→ByteArray→Option ByteArray)(l r:List AT):Prop:=r.Perm (attrsGo V [] l)∧Rising r
theorem rising_unique:∀ (a b:List AT),Rising a→Rising b→a.Perm b→a=b:=by
 intro a
 induction a with
 | nil=>intro b _ _ h;exact(List.Perm.nil_eq h)
 | cons x a ih =>
  intro b ha hb h
  cases b with
  | nil=>exact absurd h.length_eq (by simp)
  | cons y b =>
   have ha':=List.pairwise_cons.1 ha
   have hb':=List.pairwise_cons.1 hb
   have e:x=y:=by
    have hx:x∈y :: b:=h.mem_iff.1 (by simp)
    have hy:y∈x :: a:=h.mem_iff.2 (by simp)
    rcases List.mem_cons.1 hx with hx|hx
    ·exact hx
    ·rcases List.mem_cons.1 hy with hy|hy
     ·exact hy.symm
     ·have h1:=hb'.1 x hx
      have h2:=ha'.1 y hy
      unfold cmpA at h1 h2
      rw[cb_anti] at h1
      omega
   subst e
   rw[ih b ha'.2 hb'.2 (List.perm_cons x |>.1 h)]
theorem attrs_unique {V:ByteArray→ByteArray→Option ByteArray}{l a b:List AT}(h1:AttrsR V l a)(h2:AttrsR V l b):a=b :=
 rising_unique a b h1.2 h2.2 (h1.1.trans h2.1.symm)
theorem attrs_not (V:ByteArray→ByteArray→Option ByteArray):∀ (l:List AT) (sn:List ByteArray),∀ x∈attrsGo V sn l,x.1∉sn:=by
 intro l
 induction l with
 | nil=>intro sn x h;simp[attrsGo] at h
 | cons y l ih =>
  intro sn x h
  unfold attrsGo at h
  split at h
  ·exact ih sn x h
  ·rename_i hn
   rcases List.mem_append.1 h with h|h
   ·cases hv:V y.1 y.2 with
    | none=>rw[hv] at h;simp at h
    | some t =>
     rw[hv] at h
     simp only[List.mem_singleton] at h
     subst h
     exact fun hm=>hn ((containsS_iff _ _).2 hm)
   ·exact fun hm=>ih _ x h (by simp[hm])
theorem attrs_nodup (V:ByteArray→ByteArray→Option ByteArray):∀ (l:List AT) (sn:List ByteArray),(attrsGo V sn l).Pairwise fun x y=>x.1≠y.1:=by
 intro l
 induction l with
 | nil=>intro sn;exact List.Pairwise.nil
 | cons y l ih =>
  intro sn
  unfold attrsGo
  split
  ·exact ih sn
  ·cases hv:V y.1 y.2 with
   | none=>exact ih _
   | some t =>
    refine List.pairwise_cons.2 ⟨fun x hx=>?_,ih _⟩
    have:=attrs_not V l _ x hx
    simp only[List.mem_append,List.mem_singleton,not_or] at this
    exact fun e=>this.2 e.symm
theorem attrs_len (V:ByteArray→ByteArray→Option ByteArray):∀ (l:List AT) (sn:List ByteArray),(attrsGo V sn l).length≤l.length:=by
 intro l
 induction l with
 | nil=>intro sn;exact Nat.le_refl _
 | cons y l ih =>
  intro sn
  unfold attrsGo
  split
  ·have:=ih sn;simp;omega
  ·have:=ih (sn++[y.1])
   cases V y.1 y.2<;>simp<;>omega
theorem attrs_from (V:ByteArray→ByteArray→Option ByteArray):∀ (l:List AT) (sn:List ByteArray),∀ x∈attrsGo V sn l,∃ v,(x.1,v)∈l∧V x.1 v=some x.2:=by
 intro l
 induction l with
 | nil=>intro sn x h;simp[attrsGo] at h
 | cons y l ih =>
  intro sn x h
  unfold attrsGo at h
  split at h
  ·obtain⟨v,h1,h2⟩:=ih sn x h
   exact⟨v,by simp[h1],h2⟩
  ·rcases List.mem_append.1 h with h|h
   ·cases hv:V y.1 y.2 with
    | none=>rw[hv] at h;simp at h
    | some t =>
     rw[hv] at h
     simp only[List.mem_singleton] at h
     subst h
     exact⟨y.2,by simp,hv⟩
   ·obtain⟨v,h1,h2⟩:=ih _ x h
    exact⟨v,by simp[h1],h2⟩
theorem rising_of {d:Array AT}(hs:SortedIn (ltOf cmpA) 0 d.size d)(hn:d.toList.Pairwise fun x y=>x.1≠y.1):Rising d.toList:=by
 unfold Rising
 rw[List.pairwise_iff_getElem] at hn ⊢
 intro i j hi hj hij
 have h1:=hn i j hi hj hij
 have hi':i<d.size:=by simpa using hi
 have hj':j<d.size:=by simpa using hj
 have h2:=hs i j (Nat.zero_le _) hij hj'
 unfold ltOf at h2
 simp only[decide_eq_false_iff_not,Int.not_lt] at h2
 rw[getElem!_pos d j hj',getElem!_pos d i hi'] at h2
 have e1:d.toList[i]=d[i]:=by simp
 have e2:d.toList[j]=d[j]:=by simp
 rw[e1,e2] at h1 ⊢
 unfold cmpA at h2 ⊢
 rw[cb_anti] at h2
 rcases Int.lt_or_eq_of_le (by omega:compareBytes (d[i]).1.data.toList (d[j]).1.data.toList≤0) with h|h
 ·exact h
 ·exfalso
  apply h1
  have:=cb_eq _ _ h
  cases hx:(d[i]).1;cases hy:(d[j]).1
  rw[hx,hy] at this
  simpa using this
open Go.RowKit
def VecAt (w:World)(v:Value)(n:Nat)(xs:List Value):Prop :=
 ∃ a c,v=.slice a n c∧∀ j u,xs[j]?=some u→∃ g off,a=some ⟨g,off,none⟩∧w.cell? ⟨g,off+j,none⟩=some u
theorem VecAt.below {w w':World}{B n:Nat}{v:Value}{xs:List Value}(h:VecAt w v n xs)(hb:Below B w w')(hB:w.heap.size≤B):VecAt w' v n xs:=by
 obtain⟨a,c,e,h⟩:=h
 refine⟨a,c,e,fun j u hj=>?_⟩
 obtain⟨g,off,ha,hc⟩:=h j u hj
 have hg:g<B:=Nat.lt_of_lt_of_le (World.block_lt_of_cell? w _ hc) hB
 exact⟨g,off,ha,by rw[hb.cell (p:=⟨g,_,none⟩) hg];exact hc⟩
theorem VecAt.get {w:World}{v:Value}{n:Nat}{xs:List Value}(h:VecAt w v n xs)(j:Nat)(hj:j<xs.length):∃ g off c,v=.slice (some ⟨g,off,none⟩) n c∧w.cell? ⟨g,off+j,none⟩=some xs[j]:=by
 obtain⟨a,c,e,h⟩:=h
 obtain⟨g,off,ha,hc⟩:=h j _ (List.getElem?_eq_getElem hj)
 exact⟨g,off,c,by rw[e,ha],hc⟩
structure OwnV (B:Nat) (e:TypeId) (size:Nat) (v:Value) (n:Nat) (xs:List Value) (W0 w:World):Prop where
 own:w.ownsRow B e size v n xs
 bel:Below B W0 w
 base:B≤w.heap.size
theorem OwnV.nil (W:World)(e:TypeId)(size:Nat):OwnV W.heap.size e size (.slice none 0 0) 0 [] W W:=⟨World.ownsRow_nil _ _ _ _,Below.refl _ _,Nat.le_refl _⟩
theorem OwnV.of {B:Nat}{W0 w:World}(e:TypeId)(size:Nat)(hb:Below B W0 w)(hB:B≤w.heap.size):OwnV B e size (.slice none 0 0) 0 [] W0 w:=⟨World.ownsRow_nil _ _ _ _,hb,hB⟩
theorem OwnV.cast {B:Nat}{e:TypeId}{size:Nat}{v:Value}{n n':Nat}{xs xs':List Value}{W0 w:World}(h:OwnV B e size v n xs W0 w)(hn:n=n')(hx:xs=xs'):OwnV B e size v n' xs' W0 w:=by
 subst hn;subst hx;exact h
theorem OwnV.keep {B:Nat}{e:TypeId}{size:Nat}{v:Value}{n:Nat}{xs:List Value}{W0 w w':World}(h:OwnV B e size v n xs W0 w)(hb:Below w.heap.size w w'):OwnV B e size v n xs W0 w':=by
 refine⟨⟨h.own.1,?_⟩,h.bel.trans (hb.mono h.base),Nat.le_trans h.base hb.size⟩
 rcases h.own.2 with hn|⟨g,cap,cur,hv,hB,hg,rest⟩
 ·exact .inl hn
 ·have hlt:g<w.heap.size:=(Array.getElem?_eq_some_iff.1 hg).1
  exact .inr ⟨g,cap,cur,hv,hB,by rw[hb.block g hlt];exact hg,rest⟩
theorem OwnV.alloc {B:Nat}{e:TypeId}{size:Nat}{v:Value}{n:Nat}{xs:List Value}{W0 w:World}(h:OwnV B e size v n xs W0 w)(o:Obj):OwnV B e size v n xs W0 (w.alloc o) :=
 h.keep ((Below.refl _ w).alloc (Nat.le_refl _) o)
theorem OwnV.drew {B:Nat}{e:TypeId}{size:Nat}{v:Value}{n:Nat}{xs:List Value}{W0 w:World}(h:OwnV B e size v n xs W0 w):OwnV B e size v n xs W0 w.drew:=h.keep (Below.refl _ w).drew
theorem OwnV.vec {B:Nat}{e:TypeId}{size:Nat}{v:Value}{n:Nat}{xs:List Value}{W0 w:World}(h:OwnV B e size v n xs W0 w):VecAt w v n xs:=by
 rcases h.own.2 with⟨hv,h0⟩|⟨g,cap,cur,hv,hB,hg,hnc,hcm,hcs,htake⟩
 ·have hx:xs=[]:=List.eq_nil_of_length_eq_zero (by rw[h.own.1,h0,Nat.zero_mul])
  exact⟨none,0,by rw[hv,h0],fun j u hj=>by rw[hx] at hj;simp at hj⟩
 ·refine⟨_,_,hv,fun j u hj=>⟨g,0,rfl,?_⟩⟩
  rw[Nat.zero_add,cell_of_row w g j cur e (0,0) hg]
  rw[← htake,List.getElem?_take] at hj
  split at hj
  ·simpa using hj
  ·cases hj
theorem OwnV.slice {B:Nat}{e:TypeId}{size:Nat}{v:Value}{n:Nat}{xs:List Value}{W0 w:World}(h:OwnV B e size v n xs W0 w):∃ a c,v=.slice a n c∧n≤c∧∀ y,a=some y→B≤y.block∧y.block<w.heap.size:=by
 rcases h.own.2 with⟨hv,h0⟩|⟨g,cap,cur,hv,hB,hg,hnc,hcm,hcs,htake⟩
 ·exact⟨none,0,by rw[hv,h0],by omega,fun y hy=>by cases hy⟩
 ·refine⟨_,_,hv,hnc,fun y hy=>?_⟩
  cases hy
  exact⟨hB,(Array.getElem?_eq_some_iff.1 hg).1⟩
theorem OwnV.isB {B:Nat}{v:Value}{n:Nat}{a:Option Addr}{c:Nat}{bs:List UInt8}{W0 w:World}(h:OwnV B 5 1 v n (bs.map byteV) W0 w)(hv:v=.slice a n c):IsB w a bs:=by
 intro j b hb
 obtain⟨a',c',e,h⟩:=h.vec
 rw[hv] at e
 simp only[Value.slice.injEq] at e
 obtain⟨rfl,_,_⟩:=e
 obtain⟨g,off,ha,hc⟩:=h j (byteV b) (by rw[List.getElem?_map,hb];rfl)
 refine⟨_,ha,?_⟩
 have hadd:(⟨g,off,none⟩:Addr).add j=⟨g,off+j,none⟩:=by unfold Addr.add;split<;>simp_all
 rw[hadd]
 exact hc
structure Grown (w w':World) (v v':Value):Prop where
 gr:w.grownBy w' v.ownBlock
 loc:v'.ownBlock=v.ownBlock∨∃ k,v'.ownBlock=some k∧w.heap.size≤k
def Apart (v u:Value):Prop:=v.ownBlock=none∨u.ownBlock=none∨v.ownBlock≠u.ownBlock
theorem Apart.nil (v:Value):Apart (.slice none 0 0) v:=.inl rfl
theorem Apart.symm {v u:Value}(h:Apart v u):Apart u v:=by
 rcases h with h|h|h
 ·exact .inr (.inl h)
 ·exact .inl h
 ·exact .inr (.inr (Ne.symm h))
theorem Grown.other {B:Nat}{e:TypeId}{size:Nat}{u v v':Value}{n:Nat}{xs:List Value}{W0 w w':World}(h:Grown w w' v v')(hO:OwnV B e size u n xs W0 w)(ha:Apart v u)(hv:∀ k,v.ownBlock=some k→B≤k):OwnV B e size u n xs W0 w':=by
 refine⟨⟨hO.own.1,?_⟩,hO.bel.grown h.gr hO.base hv,Nat.le_trans hO.base h.gr.size⟩
 rcases hO.own.2 with hn|⟨g,cap,cur,rfl,hB,hg,rest⟩
 ·exact .inl hn
 ·have hlt:g<w.heap.size:=(Array.getElem?_eq_some_iff.1 hg).1
  refine .inr ⟨g,cap,cur,rfl,hB,?_,rest⟩
  rw[h.gr.block g hlt (fun e=>?_)]
  ·exact hg
  ·rcases ha with h1|h1|h1
   ·rw[h1] at e;cases e
   ·cases h1
   ·exact h1 e.symm
theorem Grown.apart {B:Nat}{e:TypeId}{size:Nat}{u v v':Value}{n:Nat}{xs:List Value}{W0 w w':World}(h:Grown w w' v v')(hO:OwnV B e size u n xs W0 w)(ha:Apart v u):Apart v' u:=by
 rcases h.loc with h1|⟨k,hk,hle⟩
 ·unfold Apart;rw[h1];exact ha
 ·rcases hO.own.2 with⟨rfl,_⟩|⟨g,cap,cur,rfl,hB,hg,rest⟩
  ·exact .inr (.inl rfl)
  ·have hlt:g<w.heap.size:=(Array.getElem?_eq_some_iff.1 hg).1
   refine .inr (.inr ?_)
   rw[hk]
   intro e
   simp[Value.ownBlock] at e
   omega
theorem OwnV.hi {B:Nat}{e:TypeId}{size:Nat}{v:Value}{n:Nat}{xs:List Value}{W0 w:World}(hO:OwnV B e size v n xs W0 w):∀ k,v.ownBlock=some k→k<w.heap.size:=by
 intro k hk
 rcases hO.own.2 with⟨rfl,_⟩|⟨g,cap,cur,rfl,hbg,hg,_⟩
 ·simp[Value.ownBlock] at hk
 ·simp[Value.ownBlock] at hk
  subst hk
  exact(Array.getElem?_eq_some_iff.1 hg).1
theorem Grown.cell {w w':World}{v v' u:Value}{p:Addr}(h:Grown w w' v v')(hc:w.cell? p=some u)(hne:v.ownBlock=some p.block→False):w'.cell? p=some u :=
 (World.cell?_of_block (h.gr.block p.block (World.block_lt_of_cell? w p hc) (fun e=>hne e.symm))).trans hc
theorem alloc_cell {w:World}{p:Addr}{u:Value}{o:Obj}(hc:w.cell? p=some u):(w.alloc o).cell? p=some u:=by
 rw[((Below.refl w.heap.size w).alloc (Nat.le_refl _) o).cell (World.block_lt_of_cell? w p hc)]
 exact hc
theorem OwnV.lo {B:Nat}{e:TypeId}{size:Nat}{v:Value}{n:Nat}{xs:List Value}{W0 w:World}(hO:OwnV B e size v n xs W0 w):∀ k,v.ownBlock=some k→B≤k:=by
 intro k hk
 rcases hO.own.2 with⟨rfl,_⟩|⟨g,cap,cur,rfl,hbg,_⟩
 ·simp[Value.ownBlock] at hk
 ·simp[Value.ownBlock] at hk
  subst hk
  exact hbg
section
variable {P:Program} {w:World} {ops:Array Oper} {rest:List Oper} {o:Oper} {a:Act} {Q:Exit→Act→World→Prop}
theorem wpList_append_vec (hgd:o.guard=none)(s x:Operand)(t:TypeId)
  (ho:o.op=.call { callee:=.builtin .append,args:=#[s,x],argTypes:=#[t,t] })
  (e:TypeId) (i:TypeInfo) (z:Value) (size bytes:Nat) (ht:P.underlying t=some (.slice e)) (hi:P.info? e=some i) (hz:i.zero=some z)
  (hsize:i.size=size) (hby:i.bytes=bytes) (hzs:z.cells.size=size) (hsz:0<size)
  {B:Nat} {W0:World} (v:Value) (n:Nat) (xs:List Value) (hs:a.eval s=v) (hO:OwnV B e size v n xs W0 w)
  (ad:Addr) (m c:Nat) (news:List Value) (hx:a.eval x=.slice (some ad) m c) (hl:news.length=m*size) (hnews:∀ j u,news[j]?=some u→w.cell? (ad.add j)=some u) (h1:news.all (fun u=>u.oneCell')=true)
  (hb:(n+m)*bytes≤140737488355328) (hn:n+m≤140737488355328)
  (h:∀ v' w',Hid (OwnV B e size v' (n+m) (xs++news) W0 w')→Hid (Grown w w' v v')→wpList P ops Q rest (a.put o.dst v') w'):wpList P ops Q (o :: rest) a w:=by
 refine wpList_append_own_at w hgd s x t ho B e i z size bytes ht hi hz hsize hby hzs hsz v n xs hs hO.own ad m c news hx hl hnews (fun u hu=>List.all_eq_true.1 h1 u hu) (by unfold maxLen;omega) hb hO.base ?_
 intro v' w' ho' hg _ hat
 refine h v' w' ⟨ho',hO.bel.grown hg hO.base hO.lo,Nat.le_trans hO.base hg.size⟩ ⟨hg,?_⟩
 rcases hat with hat|hat
 ·exact .inl hat
 ·exact .inr ⟨_,hat,Nat.le_refl _⟩
theorem wpList_append_one (hgd:o.guard=none)(s x:Operand)(t:TypeId)
  (ho:o.op=.call { callee:=.builtin .append,args:=#[s,x],argTypes:=#[t,t] })
  (e:TypeId) (i:TypeInfo) (z:Value) (size bytes:Nat) (ht:P.underlying t=some (.slice e)) (hi:P.info? e=some i) (hz:i.zero=some z)
  (hsize:i.size=size) (hby:i.bytes=bytes) (hzs:z.cells.size=size) (hsz:0<size)
  {B:Nat} {W0 w0:World} (v:Value) (n:Nat) (xs:List Value) (hs:a.eval s=v) (hO:OwnV B e size v n xs W0 w0)
  (cs:Array Value) (hw:w=w0.alloc (.cells cs e)) (hx:a.eval x=.slice (some ⟨w0.heap.size,0,none⟩) 1 1) (hcs:cs.size=size) (h1:cs.toList.all (fun u=>u.oneCell')=true)
  (hb:(n+1)*bytes≤140737488355328) (hn:n+1≤140737488355328)
  (h:∀ v' w',Hid (OwnV B e size v' (n+1) (xs++cs.toList) W0 w')→Hid (Grown (w0.alloc (.cells cs e)) w' v v')→wpList P ops Q rest (a.put o.dst v') w'):wpList P ops Q (o :: rest) a w:=by
 subst hw
 refine wpList_append_vec hgd s x t ho e i z size bytes ht hi hz hsize hby hzs hsz v n xs hs (hO.alloc _) ⟨w0.heap.size,0,none⟩ 1 1 cs.toList hx (by simpa using hcs) ?_ h1 hb hn h
 intro j u hj
 have hadd:(⟨w0.heap.size,0,none⟩:Addr).add j=⟨w0.heap.size,j,none⟩:=by unfold Addr.add;split<;>simp_all
 rw[hadd,cell_of_row _ _ j cs e (0,0) (heap_alloc_new w0 _)]
 simpa using hj
end
open Go.RowKit
def encA (x:AT):List Value:=[.string x.1,.string x.2]
def flatA (l:List AT):List Value:=l.flatMap encA
theorem flatA_len (l:List AT):(flatA l).length=l.length*2:=by
 induction l with
 | nil=>rfl
 | cons x l ih=>unfold flatA at *;rw[List.flatMap_cons,List.length_append,ih];simp[encA];omega
theorem flatA_at:∀ (l:List AT) (j:Nat) (h:j<l.length),(flatA l)[j*2]?=some (.string (l[j]).1)∧(flatA l)[j*2+1]?=some (.string (l[j]).2):=by
 intro l
 induction l with
 | nil=>intro j h;simp at h
 | cons x l ih =>
  intro j h
  cases j with
  | zero=>exact⟨rfl,rfl⟩
  | succ j =>
   have:=ih j (by simpa using h)
   rw[show(j+1)*2=j*2+2 by omega,show j*2+2+1=(j*2+1)+2 by omega]
   unfold flatA at *
   rw[List.flatMap_cons]
   exact this
theorem flatA_app (a b:List AT):flatA (a++b)=flatA a++flatA b:=by unfold flatA;rw[List.flatMap_append]
theorem OwnV.attrs {B:Nat}{v:Value}{l:List AT}{W0 w:World}(h:OwnV B 39 2 v l.length (flatA l) W0 w):AttrsV w v l:=by
 obtain⟨a,c,e,hc⟩:=h.vec
 refine⟨a,c,e,fun j hj=>?_⟩
 obtain⟨h1,h2⟩:=flatA_at l j hj
 obtain⟨g,off,ha,k1⟩:=hc _ _ h1
 obtain⟨g',off',ha',k2⟩:=hc _ _ h2
 rw[ha] at ha'
 cases ha'
 exact⟨g,off,ha,k1,by rw[Nat.add_assoc];exact k2⟩
theorem AttrsV.get {w:World}{v:Value}{l:List AT}(h:AttrsV w v l)(j:Nat)(hj:j<l.length):∃ g off c,v=.slice (some ⟨g,off,none⟩) l.length c∧w.cell? ⟨g,off+j*2,none⟩=some (.string (l[j]).1)∧w.cell? ⟨g,off+j*2+1,none⟩=some (.string (l[j]).2):=by
 obtain⟨a,c,e,hc⟩:=h
 obtain⟨g,off,ha,h1,h2⟩:=hc j hj
 exact⟨g,off,c,by rw[e,ha],h1,h2⟩
def strV (s:ByteArray):Value:=.string s
theorem contains_vec (v:Value)(zs:List ByteArray)(x:ByteArray)(w:World)(hn:zs.length≤1000000000)(hV:VecAt w v zs.length (zs.map strV))(b:Bool)(hb:Lib.containsS zs x=b) :
  Calls Tryz.prog 85 #[v,.string x] w fun e w'=>e=.returned (.bool b)∧w=w':=by
 obtain⟨a,c,rfl,hc⟩:=hV
 cases zs with
 | nil =>
  refine(Tryz.slices_Contains_string_empty a c x w).mono ?_
  rintro e w' ⟨rfl,rfl⟩
  exact⟨by rw[← hb];rfl,rfl⟩
 | cons z zs =>
  obtain⟨g,off,rfl,_⟩:=hc 0 (strV z) (by simp)
  refine(Tryz.slices_Contains_string g off (z :: zs).length c (z :: zs) x w (Nat.le_refl _) (by omega) ?_).mono ?_
  ·intro j hj
   obtain⟨g',off',hg,hcell⟩:=hc j (strV ((z :: zs)[j])) (by rw[List.getElem?_map,List.getElem?_eq_getElem hj];rfl)
   cases hg
   rw[hcell]
   simp[strV,List.getD_eq_getElem?_getD,List.getElem?_eq_getElem hj]
  ·rintro e w' ⟨rfl,rfl⟩
   exact⟨by rw[List.take_length,← hb],rfl⟩
theorem Tryz.info39:(Tryz.prog.info? 39).map (fun i=>(i.zero,i.size,i.bytes))=some (some (.agg #[.string ⟨#[]⟩,.string ⟨#[]⟩]),2,32):=by kernel_rfl
open Go.RowKit
def CellsOf (w:World)(xs:List Value)(ks:List Nd):Prop :=
 xs.length=ks.length*6∧∀ j (h:j<ks.length),∃ c0 c1 c2 c3 c4 c5,xs[j*6]?=some c0∧xs[j*6+1]?=some c1∧xs[j*6+2]?=some c2∧xs[j*6+3]?=some c3∧xs[j*6+4]?=some c4∧xs[j*6+5]?=some c5∧NodeV w ks[j] (.agg #[c0,c1,c2,c3,c4,c5])
theorem CellsOf.below {w w':World}{B:Nat}{xs:List Value}{ks:List Nd}(h:CellsOf w xs ks)(hb:Below B w w')(hB:w.heap.size≤B):CellsOf w' xs ks:=by
 refine⟨h.1,fun j hj=>?_⟩
 obtain⟨c0,c1,c2,c3,c4,c5,h0,h1,h2,h3,h4,h5,hn⟩:=h.2 j hj
 exact⟨c0,c1,c2,c3,c4,c5,h0,h1,h2,h3,h4,h5,hn.below hb hB⟩
theorem cells_of_kids {w:World}{a:Option Addr}{ks:List Nd}(h:KidsV w a 0 ks):∃ xs,CellsOf w xs ks∧∀ j u,xs[j]?=some u→∃ g off,a=some ⟨g,off,none⟩∧w.cell? ⟨g,off+j,none⟩=some u:=by
 have key:∀ (m:Nat),m≤ks.length→∃ xs,CellsOf w xs (ks.take m)∧∀ j u,xs[j]?=some u→∃ g off,a=some ⟨g,off,none⟩∧w.cell? ⟨g,off+j,none⟩=some u:=by
  intro m
  induction m with
  | zero=>intro _;exact⟨[],⟨by simp,fun j hj=>by simp at hj⟩,fun j u hj=>by simp at hj⟩
  | succ m ih =>
   intro hm
   obtain⟨xs,⟨hl,hx⟩,hc⟩:=ih (by omega)
   obtain⟨g,off,c0,c1,c2,c3,c4,c5,ha,h6,hn⟩:=h.get ks 0 m (by omega)
   rw[Nat.zero_add] at h6
   rw[List.length_take,Nat.min_eq_left (by omega)] at hl
   have at6:∀ t,(xs++[c0,c1,c2,c3,c4,c5])[m*6+t]?=[c0,c1,c2,c3,c4,c5][t]?:=fun t=>by rw[List.getElem?_append_right (by omega),show m*6+t-xs.length=t by omega]
   refine⟨xs++[c0,c1,c2,c3,c4,c5],⟨?_,fun j hj=>?_⟩,fun j u hj=>?_⟩
   ·rw[List.length_append,List.length_take,Nat.min_eq_left hm,hl];simp;omega
   ·rw[List.length_take,Nat.min_eq_left hm] at hj
    by_cases hjm:j<m
    ·obtain⟨d0,d1,d2,d3,d4,d5,k0,k1,k2,k3,k4,k5,kn⟩:=hx j (by rw[List.length_take];omega)
     have up:∀ i v,xs[i]?=some v→(xs++[c0,c1,c2,c3,c4,c5])[i]?=some v:=fun i v hi=>by rw[List.getElem?_append_left (List.getElem?_eq_some_iff.1 hi).1];exact hi
     refine⟨d0,d1,d2,d3,d4,d5,up _ _ k0,up _ _ k1,up _ _ k2,up _ _ k3,up _ _ k4,up _ _ k5,?_⟩
     rw[List.getElem_take] at kn ⊢
     exact kn
    ·obtain rfl:j=m:=by omega
     refine⟨c0,c1,c2,c3,c4,c5,at6 0,at6 1,at6 2,at6 3,at6 4,at6 5,?_⟩
     rw[List.getElem_take]
     exact hn
   ·by_cases hjl:j<xs.length
    ·rw[List.getElem?_append_left hjl] at hj
     exact hc j u hj
    ·obtain⟨t,rfl⟩:∃ t,j=m*6+t:=⟨j-m*6,by omega⟩
     rw[at6] at hj
     refine⟨g,off,ha,?_⟩
     rw[show off+(m*6+t)=off+m*6+t by omega]
     match t,hj with
     | 0,hj=>simp at hj;subst hj;exact h6.x0
     | 1,hj=>simp at hj;subst hj;exact h6.x1
     | 2,hj=>simp at hj;subst hj;exact h6.x2
     | 3,hj=>simp at hj;subst hj;exact h6.x3
     | 4,hj=>simp at hj;subst hj;exact h6.x4
     | 5,hj=>simp at hj;subst hj;exact h6.x5
     | t+6,hj=>simp at hj
 obtain⟨xs,h1,h2⟩:=key ks.length (Nat.le_refl _)
 rw[List.take_length] at h1
 exact⟨xs,h1,h2⟩
theorem CellsOf.snoc {w:World}{xs:List Value}{ks:List Nd}{x:Nd}{c0 c1 c2 c3 c4 c5:Value}(h:CellsOf w xs ks)(hx:NodeV w x (.agg #[c0,c1,c2,c3,c4,c5])):CellsOf w (xs++[c0,c1,c2,c3,c4,c5]) (ks++[x]):=by
 obtain⟨hl,h⟩:=h
 have at6:∀ t,(xs++[c0,c1,c2,c3,c4,c5])[ks.length*6+t]?=[c0,c1,c2,c3,c4,c5][t]?:=fun t=>by rw[List.getElem?_append_right (by omega),show ks.length*6+t-xs.length=t by omega]
 refine⟨by simp;omega,fun j hj=>?_⟩
 have up:∀ i v,xs[i]?=some v→(xs++[c0,c1,c2,c3,c4,c5])[i]?=some v:=fun i v hi=>by rw[List.getElem?_append_left (List.getElem?_eq_some_iff.1 hi).1];exact hi
 by_cases hjm:j<ks.length
 ·obtain⟨d0,d1,d2,d3,d4,d5,k0,k1,k2,k3,k4,k5,kn⟩:=h j hjm
  refine⟨d0,d1,d2,d3,d4,d5,up _ _ k0,up _ _ k1,up _ _ k2,up _ _ k3,up _ _ k4,up _ _ k5,?_⟩
  rw[List.getElem_append_left hjm]
  exact kn
 ·have hje:j=ks.length:=by simp at hj;omega
  subst hje
  refine⟨c0,c1,c2,c3,c4,c5,at6 0,at6 1,at6 2,at6 3,at6 4,at6 5,?_⟩
  rw[List.getElem_append_right (Nat.le_refl _)]
  simpa using hx
open Go.RowKit
end Go.Proofs.YtcfgbdhpcboikaaGreatDoor
