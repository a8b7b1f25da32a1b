/-
  Trees of nodes in memory; how many nodes a budget leaves (policy.few).
  A slice of the call's own, of elements of any type: append of one element and of some, and reading it.
  Stores into a slice of the call's own.
  policy.Attrs as a plain function: which attributes come out, in which order. No program in sight.
  Attributes in memory, a slice of the call's own; Contains of a slice of strings.
  Strings in a slice: the phrases that an element stands in.
  The document's SameAttrs at a list and itself.
-/
import Derived.Test.YtcfgbdhpcboikaaGreatDoorProg
import Derived.Test.YtcfgbdhpcboikaaGreatDoorBase
import Derived.Lib.Hide
import Derived.LoopTactic
import Derived.Maps.AppendAt
import Derived.Laws.Tables
import Derived.Deep.MidRow
import Derived.Lib.Bytealg
import Derived.Lib.SlicesS
import Derived.Sort.Statements
import Derived.Shelf.SlSortCmp.Insertion
import Derived.Test.YtcfgbdhpcboikaaGreatDoorTextLaw
import Derived.Test.YtcfgbdhpcboikaaGreatDoorShelf
import Derived.StillTailTactics
import Derived.BigQuiet
namespace Go.Proofs.YtcfgbdhpcboikaaGreatDoor
set_option maxHeartbeats 2000000
set_option maxRecDepth 100000
open Go.RowKit
inductive Nd where
 | mk (kind space:Int) (name:ByteArray) (attrs:List (ByteArray × ByteArray)) (text:ByteArray) (kids:List Nd)
def Nd.kids:Nd→List Nd|.mk _ _ _ _ _ k=>k
def Nd.kind:Nd→Int|.mk k _ _ _ _ _=>k
def Nd.space:Nd→Int|.mk _ s _ _ _ _=>s
def Nd.name:Nd→ByteArray|.mk _ _ n _ _ _=>n
def Nd.attrs:Nd→List (ByteArray × ByteArray)|.mk _ _ _ a _ _=>a
def Nd.text:Nd→ByteArray|.mk _ _ _ _ t _=>t
mutual
def Nd.sz:Nd→Nat
 | .mk _ _ _ _ _ ks=>1+szAll ks
def szAll:List Nd→Nat
 | []=>0
 | k :: ks=>k.sz+szAll ks
end
theorem sz_pos (n:Nd):1≤n.sz:=by cases n;unfold Nd.sz;omega
theorem sz_get:∀ (ks:List Nd)(j:Nat)(h:j<ks.length),(ks[j]).sz≤szAll ks:=by
 intro ks
 induction ks with
 | nil=>intro j h;simp at h
 | cons k ks ih =>
  intro j h
  unfold szAll
  cases j with
  | zero=>simp
  | succ j =>
   have:=ih j (by simpa using h)
   simp only[List.getElem_cons_succ]
   omega
theorem nd_ind {P:Nd→Prop}{Q:List Nd→Prop}(h1:∀ n,Q n.kids→P n)(h2:Q [])(h3:∀ n ns,P n→Q ns→Q (n :: ns)):(∀ n,P n)∧∀ l,Q l:=by
 have key:∀ m,(∀ n:Nd,n.sz≤m→P n)∧∀ l:List Nd,szAll l≤m→Q l:=by
  intro m
  induction m with
  | zero =>
   refine⟨fun n hn=>absurd (sz_pos n) (by omega),fun l=>?_⟩
   cases l with
   | nil=>intro _;exact h2
   | cons k ks=>intro hs;unfold szAll at hs;exact absurd (sz_pos k) (by omega)
  | succ m ih =>
   have hP:∀ n:Nd,n.sz≤m+1→P n:=fun n hn=>by
    refine h1 n (ih.2 _ ?_)
    cases n
    unfold Nd.sz at hn
    show szAll _≤m
    simp only[Nd.kids]
    omega
   refine⟨hP,fun l=>?_⟩
   induction l with
   | nil=>intro _;exact h2
   | cons k ks ihk=>intro hs;unfold szAll at hs;exact h3 k ks (hP k (by omega)) (ihk (by omega))
 exact⟨fun n=>(key n.sz).1 n (Nat.le_refl _),fun l=>(key (szAll l)).2 l (Nat.le_refl _)⟩
structure Six (w:World) (g o:Nat) (c0 c1 c2 c3 c4 c5:Value):Prop where
 x0:w.cell? ⟨g,o,none⟩=some c0
 x1:w.cell? ⟨g,o+1,none⟩=some c1
 x2:w.cell? ⟨g,o+2,none⟩=some c2
 x3:w.cell? ⟨g,o+3,none⟩=some c3
 x4:w.cell? ⟨g,o+4,none⟩=some c4
 x5:w.cell? ⟨g,o+5,none⟩=some c5
theorem Six.below {w w':World}{g o B:Nat}{c0 c1 c2 c3 c4 c5:Value}(h:Six w g o c0 c1 c2 c3 c4 c5)(hb:Below B w w')(hB:w.heap.size≤B):Six w' g o c0 c1 c2 c3 c4 c5:=by
 have hg:g<B:=Nat.lt_of_lt_of_le (World.block_lt_of_cell? w _ h.x0) hB
 have k:∀ f v,w.cell? ⟨g,f,none⟩=some v→w'.cell? ⟨g,f,none⟩=some v:=fun f v e=>by rw[hb.cell (p:=⟨g,f,none⟩) hg];exact e
 exact⟨k _ _ h.x0,k _ _ h.x1,k _ _ h.x2,k _ _ h.x3,k _ _ h.x4,k _ _ h.x5⟩
def AttrsV (w:World)(v:Value)(l:List (ByteArray × ByteArray)):Prop :=
 ∃ a c,v=.slice a l.length c∧∀ j (h:j<l.length),∃ g off,a=some ⟨g,off,none⟩∧w.cell? ⟨g,off+j*2,none⟩=some (.string (l[j]).1)∧w.cell? ⟨g,off+j*2+1,none⟩=some (.string (l[j]).2)
theorem AttrsV.below {w w':World}{B:Nat}{v:Value}{l:List (ByteArray × ByteArray)}(h:AttrsV w v l)(hb:Below B w w')(hB:w.heap.size≤B):AttrsV w' v l:=by
 obtain⟨a,c,e,h⟩:=h
 refine⟨a,c,e,fun j hj=>?_⟩
 obtain⟨g,off,ha,h1,h2⟩:=h j hj
 have hg:g<B:=Nat.lt_of_lt_of_le (World.block_lt_of_cell? w _ h1) hB
 exact⟨g,off,ha,by rw[hb.cell (p:=⟨g,_,none⟩) hg];exact h1,by rw[hb.cell (p:=⟨g,_,none⟩) hg];exact h2⟩
mutual
def NodeV (w:World):Nd→Value→Prop
 | .mk kd sp nm at' tx ks,v=>∃ av a c,v=.agg #[.int .i64 kd,.int .i64 sp,.string nm,av,.string tx,.slice a ks.length c]∧ks.length≤140737488355328∧AttrsV w av at'∧KidsV w a 0 ks
def KidsV (w:World)(a:Option Addr):Nat→List Nd→Prop
 | _,[]=>True
 | i,n :: ks=>(∃ g off c0 c1 c2 c3 c4 c5,a=some ⟨g,off,none⟩∧Six w g (off+i*6) c0 c1 c2 c3 c4 c5∧NodeV w n (.agg #[c0,c1,c2,c3,c4,c5]))∧KidsV w a (i+1) ks
end
theorem KidsV.get {w:World}{a:Option Addr}:∀ (ks:List Nd)(i j:Nat)(h:j<ks.length),KidsV w a i ks→∃ g off c0 c1 c2 c3 c4 c5,a=some ⟨g,off,none⟩∧Six w g (off+(i+j)*6) c0 c1 c2 c3 c4 c5∧NodeV w ks[j] (.agg #[c0,c1,c2,c3,c4,c5]):=by
 intro ks
 induction ks with
 | nil=>intro i j h;simp at h
 | cons k ks ih =>
  intro i j h hk
  unfold KidsV at hk
  cases j with
  | zero=>exact hk.1
  | succ j =>
   have:=ih (i+1) j (by simpa using h) hk.2
   rw[show i+1+j=i+(j+1) by omega] at this
   exact this
theorem nodes_below {w w':World}{B:Nat}(hb:Below B w w')(hB:w.heap.size≤B):∀ m:Nat,(∀ (n:Nd)(v:Value),n.sz≤m→NodeV w n v→NodeV w' n v)∧(∀ (a:Option Addr)(ks:List Nd)(i:Nat),szAll ks≤m→KidsV w a i ks→KidsV w' a i ks):=by
 intro m
 induction m with
 | zero =>
  refine⟨fun n v hn=>absurd (sz_pos n) (by omega),fun a ks=>?_⟩
  induction ks with
  | nil=>intro i _ h;unfold KidsV;trivial
  | cons k ks _=>intro i hs;unfold szAll at hs;exact absurd (sz_pos k) (by omega)
 | succ m ih =>
  have hN:∀ (n:Nd) (v:Value),n.sz≤m+1→NodeV w n v→NodeV w' n v:=by
   intro n v hs h
   cases n with
   | mk kd sp nm at' tx ks =>
    unfold Nd.sz at hs
    unfold NodeV at h ⊢
    obtain⟨av,a,c,e,hl,ha,hk⟩:=h
    exact⟨av,a,c,e,hl,ha.below hb hB,ih.2 a ks 0 (by omega) hk⟩
  refine⟨hN,fun a ks=>?_⟩
  induction ks with
  | nil=>intro i _ h;unfold KidsV;trivial
  | cons k ks ihk =>
   intro i hs h
   unfold szAll at hs
   unfold KidsV at h ⊢
   obtain⟨⟨g,off,c0,c1,c2,c3,c4,c5,e,h6,hn⟩,hr⟩:=h
   exact⟨⟨g,off,c0,c1,c2,c3,c4,c5,e,h6.below hb hB,hN k _ (by omega) hn⟩,ihk (i+1) (by omega) hr⟩
theorem NodeV.below {w w':World}{B:Nat}{n:Nd}{v:Value}(h:NodeV w n v)(hb:Below B w w')(hB:w.heap.size≤B):NodeV w' n v:=(nodes_below hb hB n.sz).1 n v (Nat.le_refl _) h
theorem KidsV.below {w w':World}{B:Nat}{a:Option Addr}{ks:List Nd}{i:Nat}(h:KidsV w a i ks)(hb:Below B w w')(hB:w.heap.size≤B):KidsV w' a i ks:=(nodes_below hb hB (szAll ks)).2 a ks i (Nat.le_refl _) h
theorem Six.zero {w:World}{g:Nat}{c0 c1 c2 c3 c4 c5:Value}(h:Six w g 0 c0 c1 c2 c3 c4 c5) :
  w.cell? ⟨g,0,none⟩=some c0∧w.cell? ⟨g,1,none⟩=some c1∧w.cell? ⟨g,2,none⟩=some c2∧w.cell? ⟨g,3,none⟩=some c3∧w.cell? ⟨g,4,none⟩=some c4∧w.cell? ⟨g,5,none⟩=some c5:=⟨h.x0,h.x1,h.x2,h.x3,h.x4,h.x5⟩
theorem NodeV.get {w:World}{nd:Nd}{v:Value}(h:NodeV w nd v):∃ av a c,v=.agg #[.int .i64 nd.kind,.int .i64 nd.space,.string nd.name,av,.string nd.text,.slice a nd.kids.length c]∧AttrsV w av nd.attrs∧KidsV w a 0 nd.kids∧nd.kids.length≤140737488355328:=by
 cases nd with
 | mk kd sp nm at' tx ks =>
  unfold NodeV at h
  obtain⟨av,a,c,e,hl,hA,hK⟩:=h
  exact⟨av,a,c,e,hA,hK,hl⟩
theorem szAll_mem:∀ (ks:List Nd),(∀ k∈ks,k.sz≤szAll ks)∧ks.length≤szAll ks:=by
 intro ks
 induction ks with
 | nil=>exact⟨fun k hk=>by simp at hk,Nat.zero_le _⟩
 | cons n ks ih =>
  have h1:szAll (n :: ks)=n.sz+szAll ks:=by conv=>lhs;unfold szAll
  have h2:=sz_pos n
  refine⟨fun k hk=>?_,?_⟩
  ·rcases List.mem_cons.1 hk with h|h
   ·rw[h];omega
   ·have:=ih.1 k h;omega
  ·rw[h1,List.length_cons];have:=ih.2;omega
theorem sz_kids (n:Nd):n.sz=1+szAll n.kids:=by cases n;rfl
theorem NodeV.cells {w:World}{n:Nd}{c0 c1 c2 c3 c4 c5:Value}(h:NodeV w n (.agg #[c0,c1,c2,c3,c4,c5])) :
  ∃ a b a' b',c0=.int .i64 n.kind∧c1=.int .i64 n.space∧c2=.string n.name∧c3=.slice a n.attrs.length b∧c4=.string n.text∧c5=.slice a' n.kids.length b':=by
 cases n with
 | mk kd sp nm at' tx ks =>
  unfold NodeV at h
  obtain⟨av,a',b',e,_,⟨a,b,rfl,_⟩,_⟩:=h
  simp only[Value.agg.injEq,Array.mk.injEq,List.cons.injEq,and_true] at e
  obtain⟨rfl,rfl,rfl,rfl,rfl,rfl⟩:=e
  exact⟨a,b,a',b',rfl,rfl,rfl,rfl,rfl,rfl⟩
mutual
def fewL:Nat→Nd→Int→Int
 | 0,_,_=>-1
 | d+1,.mk _ _ _ _ _ ks,left=>fewK d ks (left-1)
def fewK:Nat→List Nd→Int→Int
 | _,[],left=>left
 | d,k :: ks,left=>if left<0 then left else fewK d ks (fewL d k left)
end
theorem few_range:∀ (m:Nat),(∀ (n:Nd)(d:Nat)(l:Int),n.sz≤m→0≤l→l≤1000→-1≤fewL d n l∧fewL d n l≤1000)∧(∀ (ks:List Nd)(d:Nat)(l:Int),szAll ks≤m→-1≤l→l≤1000→-1≤fewK d ks l∧fewK d ks l≤1000):=by
 intro m
 induction m with
 | zero =>
  refine⟨fun n _ _ hn=>absurd (sz_pos n) (by omega),fun ks=>?_⟩
  cases ks with
  | nil=>intro d l _ h1 h2;unfold fewK;exact⟨h1,h2⟩
  | cons k ks=>intro d l hs;unfold szAll at hs;exact absurd (sz_pos k) (by omega)
 | succ m ih =>
  have hN:∀ (n:Nd) (d:Nat) (l:Int),n.sz≤m+1→0≤l→l≤1000→-1≤fewL d n l∧fewL d n l≤1000:=by
   intro n d l hs h0 h1
   cases n with
   | mk kd sp nm at' tx ks =>
    unfold Nd.sz at hs
    cases d with
    | zero=>unfold fewL;omega
    | succ d=>unfold fewL;exact ih.2 ks d (l-1) (by omega) (by omega) (by omega)
  refine⟨hN,fun ks=>?_⟩
  induction ks with
  | nil=>intro d l _ h1 h2;unfold fewK;exact⟨h1,h2⟩
  | cons k ks ihk =>
   intro d l hs h1 h2
   unfold szAll at hs
   unfold fewK
   split
   ·omega
   ·have:=hN k d l (by omega) (by omega) h2
    exact ihk d _ (by omega) this.1 this.2
def FewRel (ks:List Nd)(d k:Nat)(left r:Int)(w wx:World):Prop :=
 k≤ks.length∧-1≤left∧left≤1000∧fewK d (ks.drop k) left=r∧Below w.heap.size w wx
theorem few_any:∀ (m:Nat)(n:Nd),n.sz≤m→∀ (v:Value)(d:Nat)(D:Int)(left r:Int)(w:World),Hid (D=(d:Nat))→d≤1000→0≤left→left≤1000→Hid (NodeV w n v)→Hid (fewL d n left=r) →
  Calls Tryz.prog 89 #[v,.int .i64 left,.int .i64 D] w fun e w'=>e=.returned (.int .i64 r)∧Below w.heap.size w w':=by
 intro m
 induction m with
 | zero=>intro n hn;exact absurd (sz_pos n) (by omega)
 | succ m ih =>
  intro n hn v d D left r w hD hd h0 h1 hV hr
  have hv:=hV.out
  cases n with
  | mk kd sp nm at' tx ks =>
  unfold NodeV at hv
  obtain⟨av,a,c,rfl,hlen,hA,hK⟩:=hv
  have HK:=Lib.hid hK
  have HIH:=Lib.hid ih
  have HN:=Lib.hid hn
  clear hA hK ih hn hV
  cases d with
  | zero =>
   have hr2:-1=r:=by have:=hr.out;unfold fewL at this;exact this
   have HR:=Lib.hid hr2
   clear hr2 hr
   obtain rfl:D=0:=hD.out
   go_enter Tryz.func89,Tryz.ntmps89
   go_wp2
   go_ret
   refine⟨?_,(Below.refl _ w).alloc (Nat.le_refl _) _⟩
   rw[← HR.out]
   rfl
  | succ d =>
   have hr2:fewK d ks (left-1)=r:=by have:=hr.out;unfold fewL at this;exact this
   have HR:Hid (FewRel ks d 0 (left-1) r w (w.alloc (.cells #[.int .i64 kd,.int .i64 sp,.string nm,av,.string tx,.slice a ks.length c] 45))):=⟨Nat.zero_le _,by omega,by omega,hr2,(Below.refl _ w).alloc (Nat.le_refl _) _⟩
   clear hr2 hr
   have hDb:D=(d:Int)+1:=by rw[hD.out];omega
   have hq0:(D==0)=false:=by rw[beq_eq_false_iff_ne];omega
   have hD1:1≤D:=by omega
   have hD2:D≤1001:=by omega
   have HDD:Hid (D-1=(d:Nat)):=by show _=_;omega
   clear hDb
   go_enter Tryz.func89,Tryz.ntmps89
   go_wp2
   go_loopw [1,16] (fun l i wx=>∃ (k:Nat) (L:Int),i=.int .i64 k∧l=.int .i64 L∧Hid (FewRel ks d k L r w wx)) (fun _ i _=>ks.length-(intOf i).toNat)
   case atStart=>exact⟨0,left-1,rfl,rfl,HR⟩
   case round =>
    obtain⟨k,L,rfl,rfl,hR⟩:=hrel
    have hk:=hR.out.1
    have hL0:=hR.out.2.1
    have hL1:=hR.out.2.2.1
    rcases Nat.lt_or_ge k ks.length with hlt|hge
    ·obtain⟨g,off,c0,c1,c2,c3,c4,c5,rfl,h6,hn⟩:=HK.out.get ks 0 k hlt
     rw[Nat.zero_add] at h6
     have h6':=h6.below hR.out.2.2.2.2 (Nat.le_refl _)
     obtain⟨x0,x1,x2,x3,x4,x5⟩:=h6'
     have hst:fewK d (ks.drop k) L=if L<0 then L else fewK d (ks.drop (k+1)) (fewL d ks[k] L):=by
      rw[List.drop_eq_getElem_cons hlt]
      conv=>lhs;unfold fewK
     have HST:=Lib.hid hst
     obtain⟨a1,b1,a2,b2,rfl,rfl,rfl,rfl,rfl,rfl⟩:=hn.cells
     have HND:=Lib.hid (hn.below hR.out.2.2.2.2 (Nat.le_refl _))
     clear hst hn h6
     have HSZ:=Lib.hid (sz_get ks k hlt)
     have HNN:=HN.out
     unfold Nd.sz at HNN
     have hm:(ks[k]).sz≤m:=by have:=HSZ.out;omega
     have HM:=Lib.hid hm
     clear hm HNN
     generalize ks[k]=q at *
     rcases Int.lt_or_le L 0 with hneg|hpos
     ·have hrL:L=r:=by
       have:=hR.out.2.2.2.1
       rw[HST.out,if_pos hneg] at this
       exact this
      have HRL:=Lib.hid hrL
      clear hrL
      go_wp2
      go_ret
      refine⟨?_,hR.out.2.2.2.2.trans (((Below.refl _ wr).alloc (Nat.le_refl _) _).mono hR.out.2.2.2.2.size)⟩
      rw[HRL.out]
      rfl
     ·have hB2:Below w.heap.size w (wr.alloc (.cells #[.int .i64 q.kind,.int .i64 q.space,.string q.name,.slice a1 q.attrs.length b1,.string q.text,.slice a2 q.kids.length b2] 45)):=hR.out.2.2.2.2.trans (((Below.refl _ wr).alloc (Nat.le_refl _) _).mono hR.out.2.2.2.2.size)
      have HB2:=Lib.hid hB2
      have HND2:=Lib.hid (HND.out.below ((Below.refl wr.heap.size wr).alloc (Nat.le_refl _) (.cells #[.int .i64 q.kind,.int .i64 q.space,.string q.name,.slice a1 q.attrs.length b1,.string q.text,.slice a2 q.kids.length b2] 45)) (Nat.le_refl _))
      clear hB2
      go_wp2_with fail
      refine(HIH.out q HM.out _ d (D-1) L (fewL d q L) _ HDD (by omega) hpos hL1 HND2 (Lib.hid rfl)).mono ?_
      rintro e W2 ⟨rfl,B2⟩
      have HN2:Hid (FewRel ks d (k+1) (fewL d q L) r w W2):=by
       have hrg:=(few_range q.sz).1 q d L (Nat.le_refl _) hpos hL1
       refine⟨hlt,hrg.1,hrg.2,?_,HB2.out.trans (B2.mono HB2.out.size)⟩
       have:=hR.out.2.2.2.1
       rw[HST.out,if_neg (by omega)] at this
       exact this
      clear B2
      go_wp2
      go_roundw
      case rel=>exact⟨k+1,fewL d q L,by go_num,rfl,HN2⟩
      case measure=>simp[intOf];omega
    ·have hrL:L=r:=by
      have:=hR.out.2.2.2.1
      rw[List.drop_eq_nil_of_le (by omega)] at this
      unfold fewK at this
      exact this
     have HRL:=Lib.hid hrL
     clear hrL
     go_wp2
     go_ret
     refine⟨?_,hR.out.2.2.2.2⟩
     rw[HRL.out]
     rfl
open Go.RowKit
def VecAt (w:World)(v:Value)(n:Nat)(xs:List Value):Prop :=
 ∃ a c,v=.slice a n c∧∀ j u,xs[j]?=some u→∃ g off,a=some ⟨g,off,none⟩∧w.cell? ⟨g,off+j,none⟩=some u
theorem VecAt.below {w w':World}{B n:Nat}{v:Value}{xs:List Value}(h:VecAt w v n xs)(hb:Below B w w')(hB:w.heap.size≤B):VecAt w' v n xs:=by
 obtain⟨a,c,e,h⟩:=h
 refine⟨a,c,e,fun j u hj=>?_⟩
 obtain⟨g,off,ha,hc⟩:=h j u hj
 have hg:g<B:=Nat.lt_of_lt_of_le (World.block_lt_of_cell? w _ hc) hB
 exact⟨g,off,ha,by rw[hb.cell (p:=⟨g,_,none⟩) hg];exact hc⟩
theorem VecAt.get {w:World}{v:Value}{n:Nat}{xs:List Value}(h:VecAt w v n xs)(j:Nat)(hj:j<xs.length):∃ g off c,v=.slice (some ⟨g,off,none⟩) n c∧w.cell? ⟨g,off+j,none⟩=some xs[j]:=by
 obtain⟨a,c,e,h⟩:=h
 obtain⟨g,off,ha,hc⟩:=h j _ (List.getElem?_eq_getElem hj)
 exact⟨g,off,c,by rw[e,ha],hc⟩
structure OwnV (B:Nat) (e:TypeId) (size:Nat) (v:Value) (n:Nat) (xs:List Value) (W0 w:World):Prop where
 own:w.ownsRow B e size v n xs
 bel:Below B W0 w
 base:B≤w.heap.size
theorem OwnV.nil (W:World)(e:TypeId)(size:Nat):OwnV W.heap.size e size (.slice none 0 0) 0 [] W W:=⟨World.ownsRow_nil _ _ _ _,Below.refl _ _,Nat.le_refl _⟩
theorem OwnV.of {B:Nat}{W0 w:World}(e:TypeId)(size:Nat)(hb:Below B W0 w)(hB:B≤w.heap.size):OwnV B e size (.slice none 0 0) 0 [] W0 w:=⟨World.ownsRow_nil _ _ _ _,hb,hB⟩
theorem OwnV.cast {B:Nat}{e:TypeId}{size:Nat}{v:Value}{n n':Nat}{xs xs':List Value}{W0 w:World}(h:OwnV B e size v n xs W0 w)(hn:n=n')(hx:xs=xs'):OwnV B e size v n' xs' W0 w:=by
 subst hn;subst hx;exact h
theorem OwnV.keep {B:Nat}{e:TypeId}{size:Nat}{v:Value}{n:Nat}{xs:List Value}{W0 w w':World}(h:OwnV B e size v n xs W0 w)(hb:Below w.heap.size w w'):OwnV B e size v n xs W0 w':=by
 refine⟨⟨h.own.1,?_⟩,h.bel.trans (hb.mono h.base),Nat.le_trans h.base hb.size⟩
 rcases h.own.2 with hn|⟨g,cap,cur,hv,hB,hg,rest⟩
 ·exact .inl hn
 ·have hlt:g<w.heap.size:=(Array.getElem?_eq_some_iff.1 hg).1
  exact .inr ⟨g,cap,cur,hv,hB,by rw[hb.block g hlt];exact hg,rest⟩
theorem OwnV.alloc {B:Nat}{e:TypeId}{size:Nat}{v:Value}{n:Nat}{xs:List Value}{W0 w:World}(h:OwnV B e size v n xs W0 w)(o:Obj):OwnV B e size v n xs W0 (w.alloc o) :=
 h.keep ((Below.refl _ w).alloc (Nat.le_refl _) o)
theorem OwnV.drew {B:Nat}{e:TypeId}{size:Nat}{v:Value}{n:Nat}{xs:List Value}{W0 w:World}(h:OwnV B e size v n xs W0 w):OwnV B e size v n xs W0 w.drew:=h.keep (Below.refl _ w).drew
theorem OwnV.vec {B:Nat}{e:TypeId}{size:Nat}{v:Value}{n:Nat}{xs:List Value}{W0 w:World}(h:OwnV B e size v n xs W0 w):VecAt w v n xs:=by
 rcases h.own.2 with⟨hv,h0⟩|⟨g,cap,cur,hv,hB,hg,hnc,hcm,hcs,htake⟩
 ·have hx:xs=[]:=List.eq_nil_of_length_eq_zero (by rw[h.own.1,h0,Nat.zero_mul])
  exact⟨none,0,by rw[hv,h0],fun j u hj=>by rw[hx] at hj;simp at hj⟩
 ·refine⟨_,_,hv,fun j u hj=>⟨g,0,rfl,?_⟩⟩
  rw[Nat.zero_add,cell_of_row w g j cur e (0,0) hg]
  rw[← htake,List.getElem?_take] at hj
  split at hj
  ·simpa using hj
  ·cases hj
theorem OwnV.slice {B:Nat}{e:TypeId}{size:Nat}{v:Value}{n:Nat}{xs:List Value}{W0 w:World}(h:OwnV B e size v n xs W0 w):∃ a c,v=.slice a n c∧n≤c∧∀ y,a=some y→B≤y.block∧y.block<w.heap.size:=by
 rcases h.own.2 with⟨hv,h0⟩|⟨g,cap,cur,hv,hB,hg,hnc,hcm,hcs,htake⟩
 ·exact⟨none,0,by rw[hv,h0],by omega,fun y hy=>by cases hy⟩
 ·refine⟨_,_,hv,hnc,fun y hy=>?_⟩
  cases hy
  exact⟨hB,(Array.getElem?_eq_some_iff.1 hg).1⟩
theorem OwnV.isB {B:Nat}{v:Value}{n:Nat}{a:Option Addr}{c:Nat}{bs:List UInt8}{W0 w:World}(h:OwnV B 5 1 v n (bs.map byteV) W0 w)(hv:v=.slice a n c):IsB w a bs:=by
 intro j b hb
 obtain⟨a',c',e,h⟩:=h.vec
 rw[hv] at e
 simp only[Value.slice.injEq] at e
 obtain⟨rfl,_,_⟩:=e
 obtain⟨g,off,ha,hc⟩:=h j (byteV b) (by rw[List.getElem?_map,hb];rfl)
 refine⟨_,ha,?_⟩
 have hadd:(⟨g,off,none⟩:Addr).add j=⟨g,off+j,none⟩:=by unfold Addr.add;split<;>simp_all
 rw[hadd]
 exact hc
structure Grown (w w':World) (v v':Value):Prop where
 gr:w.grownBy w' v.ownBlock
 loc:v'.ownBlock=v.ownBlock∨∃ k,v'.ownBlock=some k∧w.heap.size≤k
def Apart (v u:Value):Prop:=v.ownBlock=none∨u.ownBlock=none∨v.ownBlock≠u.ownBlock
theorem Apart.nil (v:Value):Apart (.slice none 0 0) v:=.inl rfl
theorem Apart.symm {v u:Value}(h:Apart v u):Apart u v:=by
 rcases h with h|h|h
 ·exact .inr (.inl h)
 ·exact .inl h
 ·exact .inr (.inr (Ne.symm h))
theorem Grown.other {B:Nat}{e:TypeId}{size:Nat}{u v v':Value}{n:Nat}{xs:List Value}{W0 w w':World}(h:Grown w w' v v')(hO:OwnV B e size u n xs W0 w)(ha:Apart v u)(hv:∀ k,v.ownBlock=some k→B≤k):OwnV B e size u n xs W0 w':=by
 refine⟨⟨hO.own.1,?_⟩,hO.bel.grown h.gr hO.base hv,Nat.le_trans hO.base h.gr.size⟩
 rcases hO.own.2 with hn|⟨g,cap,cur,rfl,hB,hg,rest⟩
 ·exact .inl hn
 ·have hlt:g<w.heap.size:=(Array.getElem?_eq_some_iff.1 hg).1
  refine .inr ⟨g,cap,cur,rfl,hB,?_,rest⟩
  rw[h.gr.block g hlt (fun e=>?_)]
  ·exact hg
  ·rcases ha with h1|h1|h1
   ·rw[h1] at e;cases e
   ·cases h1
   ·exact h1 e.symm
theorem Grown.apart {B:Nat}{e:TypeId}{size:Nat}{u v v':Value}{n:Nat}{xs:List Value}{W0 w w':World}(h:Grown w w' v v')(hO:OwnV B e size u n xs W0 w)(ha:Apart v u):Apart v' u:=by
 rcases h.loc with h1|⟨k,hk,hle⟩
 ·unfold Apart;rw[h1];exact ha
 ·rcases hO.own.2 with⟨rfl,_⟩|⟨g,cap,cur,rfl,hB,hg,rest⟩
  ·exact .inr (.inl rfl)
  ·have hlt:g<w.heap.size:=(Array.getElem?_eq_some_iff.1 hg).1
   refine .inr (.inr ?_)
   rw[hk]
   intro e
   simp[Value.ownBlock] at e
   omega
theorem OwnV.hi {B:Nat}{e:TypeId}{size:Nat}{v:Value}{n:Nat}{xs:List Value}{W0 w:World}(hO:OwnV B e size v n xs W0 w):∀ k,v.ownBlock=some k→k<w.heap.size:=by
 intro k hk
 rcases hO.own.2 with⟨rfl,_⟩|⟨g,cap,cur,rfl,hbg,hg,_⟩
 ·simp[Value.ownBlock] at hk
 ·simp[Value.ownBlock] at hk
  subst hk
  exact(Array.getElem?_eq_some_iff.1 hg).1
theorem Grown.cell {w w':World}{v v' u:Value}{p:Addr}(h:Grown w w' v v')(hc:w.cell? p=some u)(hne:v.ownBlock=some p.block→False):w'.cell? p=some u :=
 (World.cell?_of_block (h.gr.block p.block (World.block_lt_of_cell? w p hc) (fun e=>hne e.symm))).trans hc
theorem alloc_cell {w:World}{p:Addr}{u:Value}{o:Obj}(hc:w.cell? p=some u):(w.alloc o).cell? p=some u:=by
 rw[((Below.refl w.heap.size w).alloc (Nat.le_refl _) o).cell (World.block_lt_of_cell? w p hc)]
 exact hc
theorem OwnV.lo {B:Nat}{e:TypeId}{size:Nat}{v:Value}{n:Nat}{xs:List Value}{W0 w:World}(hO:OwnV B e size v n xs W0 w):∀ k,v.ownBlock=some k→B≤k:=by
 intro k hk
 rcases hO.own.2 with⟨rfl,_⟩|⟨g,cap,cur,rfl,hbg,_⟩
 ·simp[Value.ownBlock] at hk
 ·simp[Value.ownBlock] at hk
  subst hk
  exact hbg
section
variable {P:Program} {w:World} {ops:Array Oper} {rest:List Oper} {o:Oper} {a:Act} {Q:Exit→Act→World→Prop}
theorem wpList_append_vec (hgd:o.guard=none)(s x:Operand)(t:TypeId)
  (ho:o.op=.call { callee:=.builtin .append,args:=#[s,x],argTypes:=#[t,t] })
  (e:TypeId) (i:TypeInfo) (z:Value) (size bytes:Nat) (ht:P.underlying t=some (.slice e)) (hi:P.info? e=some i) (hz:i.zero=some z)
  (hsize:i.size=size) (hby:i.bytes=bytes) (hzs:z.cells.size=size) (hsz:0<size)
  {B:Nat} {W0:World} (v:Value) (n:Nat) (xs:List Value) (hs:a.eval s=v) (hO:OwnV B e size v n xs W0 w)
  (ad:Addr) (m c:Nat) (news:List Value) (hx:a.eval x=.slice (some ad) m c) (hl:news.length=m*size) (hnews:∀ j u,news[j]?=some u→w.cell? (ad.add j)=some u) (h1:news.all (fun u=>u.oneCell')=true)
  (hb:(n+m)*bytes≤140737488355328) (hn:n+m≤140737488355328)
  (h:∀ v' w',Hid (OwnV B e size v' (n+m) (xs++news) W0 w')→Hid (Grown w w' v v')→wpList P ops Q rest (a.put o.dst v') w'):wpList P ops Q (o :: rest) a w:=by
 refine wpList_append_own_at w hgd s x t ho B e i z size bytes ht hi hz hsize hby hzs hsz v n xs hs hO.own ad m c news hx hl hnews (fun u hu=>List.all_eq_true.1 h1 u hu) (by unfold maxLen;omega) hb hO.base ?_
 intro v' w' ho' hg _ hat
 refine h v' w' ⟨ho',hO.bel.grown hg hO.base hO.lo,Nat.le_trans hO.base hg.size⟩ ⟨hg,?_⟩
 rcases hat with hat|hat
 ·exact .inl hat
 ·exact .inr ⟨_,hat,Nat.le_refl _⟩
theorem wpList_append_one (hgd:o.guard=none)(s x:Operand)(t:TypeId)
  (ho:o.op=.call { callee:=.builtin .append,args:=#[s,x],argTypes:=#[t,t] })
  (e:TypeId) (i:TypeInfo) (z:Value) (size bytes:Nat) (ht:P.underlying t=some (.slice e)) (hi:P.info? e=some i) (hz:i.zero=some z)
  (hsize:i.size=size) (hby:i.bytes=bytes) (hzs:z.cells.size=size) (hsz:0<size)
  {B:Nat} {W0 w0:World} (v:Value) (n:Nat) (xs:List Value) (hs:a.eval s=v) (hO:OwnV B e size v n xs W0 w0)
  (cs:Array Value) (hw:w=w0.alloc (.cells cs e)) (hx:a.eval x=.slice (some ⟨w0.heap.size,0,none⟩) 1 1) (hcs:cs.size=size) (h1:cs.toList.all (fun u=>u.oneCell')=true)
  (hb:(n+1)*bytes≤140737488355328) (hn:n+1≤140737488355328)
  (h:∀ v' w',Hid (OwnV B e size v' (n+1) (xs++cs.toList) W0 w')→Hid (Grown (w0.alloc (.cells cs e)) w' v v')→wpList P ops Q rest (a.put o.dst v') w'):wpList P ops Q (o :: rest) a w:=by
 subst hw
 refine wpList_append_vec hgd s x t ho e i z size bytes ht hi hz hsize hby hzs hsz v n xs hs (hO.alloc _) ⟨w0.heap.size,0,none⟩ 1 1 cs.toList hx (by simpa using hcs) ?_ h1 hb hn h
 intro j u hj
 have hadd:(⟨w0.heap.size,0,none⟩:Addr).add j=⟨w0.heap.size,j,none⟩:=by unfold Addr.add;split<;>simp_all
 rw[hadd,cell_of_row _ _ j cs e (0,0) (heap_alloc_new w0 _)]
 simpa using hj
end
open Go.RowKit
def setsL:List Value→Nat→List Value→List Value
 | xs,_,[]=>xs
 | xs,o,c :: r=>setsL (xs.set o c) (o+1) r
theorem setsL_get:∀ (cs xs:List Value)(o j:Nat),o+cs.length≤xs.length→(setsL xs o cs)[j]?=if o≤j∧j<o+cs.length then cs[j-o]? else xs[j]?:=by
 intro cs
 induction cs with
 | nil=>intro xs o j _;unfold setsL;rw[if_neg (by simp only[List.length_nil];omega)]
 | cons c r ih =>
  intro xs o j h
  simp only[List.length_cons] at h ⊢
  unfold setsL
  rw[ih (xs.set o c) (o+1) j (by rw[List.length_set];omega)]
  by_cases h1:o+1≤j∧j<o+1+r.length
  ·rw[if_pos h1,if_pos (by omega),show j-o=(j-(o+1))+1 by omega,List.getElem?_cons_succ]
  ·rw[if_neg h1]
   by_cases h2:j=o
   ·subst h2
    rw[if_pos (by omega),Nat.sub_self,List.getElem?_cons_zero,List.getElem?_set_self (by omega)]
   ·rw[if_neg (by omega),List.getElem?_set_ne (fun e=>h2 e.symm)]
theorem setsL_end (ys zs cs:List Value)(h:zs.length=cs.length):setsL (ys++zs) ys.length cs=ys++cs:=by
 apply List.ext_getElem?
 intro j
 rw[setsL_get _ _ _ _ (by simp;omega)]
 by_cases h1:j<ys.length
 ·rw[if_neg (by omega),List.getElem?_append_left h1,List.getElem?_append_left h1]
 ·by_cases h2:j<ys.length+cs.length
  ·rw[if_pos (by omega),List.getElem?_append_right (by omega)]
  ·rw[if_neg (by omega),List.getElem?_eq_none (by simp;omega),List.getElem?_eq_none (by simp;omega)]
theorem size_setCell (w:World)(p:Addr)(u:Value):(w.setCell p u).heap.size=w.heap.size:=by simp[World.setCell]
theorem OwnV.setCell {B:Nat}{e:TypeId}{size g n c:Nat}{xs:List Value}{W0 w:World}(h:OwnV B e size (.slice (some ⟨g,0,none⟩) n c) n xs W0 w)(j:Nat)(u:Value) :
  OwnV B e size (.slice (some ⟨g,0,none⟩) n c) n (xs.set j u) W0 (w.setCell ⟨g,j,none⟩ u):=by
 rcases h.own.2 with⟨hv,h0⟩|⟨g',cap,cur,hv,hB,hg,hnc,hcm,hcs,htake⟩
 ·cases hv
 ·simp only[Value.slice.injEq,Option.some.injEq,Addr.mk.injEq] at hv
  obtain⟨⟨rfl,_⟩,_,rfl⟩:=hv
  have e1:=setCell_eq_setRow w g j cur e (0,0) u hg
  have hh:=setRow_heap w g cur (cur.setIfInBounds j u) e (0,0) hg
  refine⟨⟨by rw[List.length_set];exact h.own.1,.inr ⟨g,c,cur.setIfInBounds j u,rfl,hB,by rw[e1];exact hh,hnc,hcm,by simpa using hcs,?_⟩⟩,h.bel.setCell hB u,by rw[size_setCell];exact h.base⟩
  rw[Array.toList_setIfInBounds,List.take_set,htake]
theorem OwnV.setCells {B:Nat}{e:TypeId}{size g n c:Nat}{W0:World}:∀ (cs xs:List Value)(o:Nat)(w:World),OwnV B e size (.slice (some ⟨g,0,none⟩) n c) n xs W0 w →
  OwnV B e size (.slice (some ⟨g,0,none⟩) n c) n (setsL xs o cs) W0 (w.setCells g o cs):=by
 intro cs
 induction cs with
 | nil=>intro xs o w h;exact h
 | cons u r ih =>
  intro xs o w h
  unfold setsL World.setCells
  exact ih _ _ _ (h.setCell o u)
theorem heap_setCells_other (g:Nat):∀ (cs:List Value)(o:Nat)(w:World)(k:Nat),k≠g→(w.setCells g o cs).heap[k]?=w.heap[k]?:=by
 intro cs
 induction cs with
 | nil=>intro o w k _;rfl
 | cons u r ih =>
  intro o w k hk
  unfold World.setCells
  rw[ih (o+1) _ k hk,heap_setCell_other w ⟨g,o,none⟩ k u hk]
theorem OwnV.there {B:Nat}{e:TypeId}{size g n c:Nat}{xs:List Value}{W0 w:World}(h:OwnV B e size (.slice (some ⟨g,0,none⟩) n c) n xs W0 w)(o k:Nat)(hk:o+k≤xs.length):w.there g o k:=by
 intro j hj
 obtain⟨a',c',e1,hc⟩:=h.vec
 simp only[Value.slice.injEq] at e1
 obtain⟨g',off,e2,hcell⟩:=hc (o+j) _ (List.getElem?_eq_getElem (by omega))
 rw[← e1.1] at e2
 simp only[Option.some.injEq,Addr.mk.injEq] at e2
 obtain⟨rfl,rfl,_⟩:=e2
 rw[Nat.zero_add] at hcell
 refine⟨by rw[hcell];rfl,?_⟩
 rcases h.own.2 with⟨hv,h0⟩|⟨g',cap,cur,hv,hB,hg,_⟩
 ·cases hv
 ·simp only[Value.slice.injEq,Option.some.injEq,Addr.mk.injEq] at hv
  obtain⟨⟨rfl,_⟩,_,rfl⟩:=hv
  simp[World.frozen?,hg]
theorem OwnV.cell {B:Nat}{e:TypeId}{size g n c:Nat}{xs:List Value}{W0 w:World}(h:OwnV B e size (.slice (some ⟨g,0,none⟩) n c) n xs W0 w)(j:Nat)(u:Value)(hj:xs[j]?=some u):w.cell? ⟨g,j,none⟩=some u:=by
 obtain⟨a',c',e1,hc⟩:=h.vec
 simp only[Value.slice.injEq] at e1
 obtain⟨g',off,e2,hcell⟩:=hc j u hj
 rw[← e1.1] at e2
 simp only[Option.some.injEq,Addr.mk.injEq] at e2
 obtain⟨rfl,rfl,_⟩:=e2
 rw[Nat.zero_add] at hcell
 exact hcell
theorem OwnV.atRow {B:Nat}{e:TypeId}{size n:Nat}{v:Value}{xs:List Value}{W0 w:World}(h:OwnV B e size v n xs W0 w)(hn:0<n):∃ g c,v=.slice (some ⟨g,0,none⟩) n c∧B≤g∧g<w.heap.size∧v.ownBlock=some g:=by
 rcases h.own.2 with⟨hv,h0⟩|⟨g,cap,cur,hv,hB,hg,_⟩
 ·omega
 ·exact⟨g,cap,hv,hB,(Array.getElem?_eq_some_iff.1 hg).1,by rw[hv];rfl⟩
theorem OwnV.row_lt {B:Nat}{e:TypeId}{size g n c:Nat}{xs:List Value}{W0 w:World}(h:OwnV B e size (.slice (some ⟨g,0,none⟩) n c) n xs W0 w):g<w.heap.size:=h.hi g rfl
open Go.Sort Go.Lib
theorem cb_cons (a b:UInt8)(x y:List UInt8):compareBytes (a :: x) (b :: y)=if a.toNat<b.toNat then -1 else if b.toNat<a.toNat then 1 else compareBytes x y:=by
 conv=>lhs;unfold compareBytes
 simp only[UInt8.lt_iff_toNat_lt]
theorem cb_refl:∀ a:List UInt8,compareBytes a a=0:=by
 intro a
 induction a with
 | nil=>rfl
 | cons c a ih=>rw[cb_cons,if_neg (by omega),if_neg (by omega),ih]
theorem cb_anti:∀ a b:List UInt8,compareBytes b a=- compareBytes a b:=by
 intro a
 induction a with
 | nil=>intro b;cases b<;>rfl
 | cons c a ih =>
  intro b
  cases b with
  | nil=>rfl
  | cons d b =>
   rw[cb_cons,cb_cons]
   by_cases h1:c.toNat<d.toNat
   ·rw[if_pos h1,if_neg (by omega),if_pos h1];rfl
   ·by_cases h2:d.toNat<c.toNat
    ·rw[if_pos h2,if_neg h1,if_pos h2]
    ·rw[if_neg h2,if_neg h1,if_neg h1,if_neg h2,ih]
theorem cb_eq:∀ a b:List UInt8,compareBytes a b=0→a=b:=by
 intro a
 induction a with
 | nil=>intro b h;cases b with
  | nil=>rfl
  | cons d b=>simp[compareBytes] at h
 | cons c a ih =>
  intro b h
  cases b with
  | nil=>simp[compareBytes] at h
  | cons d b =>
   rw[cb_cons] at h
   split at h
   ·omega
   ·split at h
    ·omega
    ·rw[ih b h,UInt8.toNat_inj.1 (by omega:c.toNat=d.toNat)]
theorem cb_trans:∀ a b c:List UInt8,compareBytes a b<0→compareBytes b c<0→compareBytes a c<0:=by
 intro a
 induction a with
 | nil =>
  intro b c h1 h2
  cases c with
  | nil =>
   rw[cb_anti [] b] at h2
   omega
  | cons d c=>simp[compareBytes]
 | cons x a ih =>
  intro b c h1 h2
  cases b with
  | nil=>simp[compareBytes] at h1
  | cons y b =>
   cases c with
   | nil=>simp[compareBytes] at h2
   | cons z c =>
    rw[cb_cons] at h1 h2 ⊢
    by_cases p1:x.toNat<y.toNat
    ·by_cases p2:z.toNat<y.toNat
     ·rw[if_neg (by omega),if_pos p2] at h2;omega
     ·rw[if_pos (by omega)];omega
    ·rw[if_neg p1] at h1
     by_cases p3:y.toNat<x.toNat
     ·rw[if_pos p3] at h1;omega
     ·rw[if_neg p3] at h1
      by_cases p4:y.toNat<z.toNat
      ·rw[if_pos (by omega)];omega
      ·rw[if_neg p4] at h2
       by_cases p5:z.toNat<y.toNat
       ·rw[if_pos p5] at h2;omega
       ·rw[if_neg p5] at h2
        rw[if_neg (by omega),if_neg (by omega)]
        exact ih b c h1 h2
abbrev AT:=ByteArray × ByteArray
def cmpA (x y:AT):Int:=compareBytes x.1.data.toList y.1.data.toList
theorem cmpA_swo:SWO (ltOf cmpA) where
 irrefl x:=by unfold ltOf cmpA;rw[cb_refl];rfl
 trans x y z h1 h2:=by
  unfold ltOf cmpA at *
  simp only[decide_eq_true_eq] at *
  exact cb_trans _ _ _ h1 h2
 ntrans x y z h1 h2:=by
  unfold ltOf cmpA at *
  simp only[decide_eq_false_iff_not,Int.not_lt] at *
  rcases Int.lt_or_eq_of_le h1 with h1|h1
  ·rcases Int.lt_or_eq_of_le h2 with h2|h2
   ·have:=cb_trans z.1.data.toList y.1.data.toList x.1.data.toList (by rw[cb_anti];omega) (by rw[cb_anti];omega)
    rw[cb_anti] at this
    omega
   ·rw[← cb_eq _ _ h2.symm];omega
  ·rw[cb_eq _ _ h1.symm];exact h2
def attrsGo (V:ByteArray→ByteArray→Option ByteArray):List ByteArray→List AT→List AT
 | _,[]=>[]
 | sn,x :: l=>if containsS sn x.1=true then attrsGo V sn l else (match V x.1 x.2 with|some t=>[(x.1,t)]|none=>[])++attrsGo V (sn++[x.1]) l
def Rising (r:List AT):Prop:=r.Pairwise fun x y=>cmpA x y<0
def AttrsR (V:ByteArray→ByteArray→Option ByteArray)(l r:List AT):Prop:=r.Perm (attrsGo V [] l)∧Rising r
theorem rising_unique:∀ (a b:List AT),Rising a→Rising b→a.Perm b→a=b:=by
 intro a
 induction a with
 | nil=>intro b _ _ h;exact(List.Perm.nil_eq h)
 | cons x a ih =>
  intro b ha hb h
  cases b with
  | nil=>exact absurd h.length_eq (by simp)
  | cons y b =>
   have ha':=List.pairwise_cons.1 ha
   have hb':=List.pairwise_cons.1 hb
   have e:x=y:=by
    have hx:x∈y :: b:=h.mem_iff.1 (by simp)
    have hy:y∈x :: a:=h.mem_iff.2 (by simp)
    rcases List.mem_cons.1 hx with hx|hx
    ·exact hx
    ·rcases List.mem_cons.1 hy with hy|hy
     ·exact hy.symm
     ·have h1:=hb'.1 x hx
      have h2:=ha'.1 y hy
      unfold cmpA at h1 h2
      rw[cb_anti] at h1
      omega
   subst e
   rw[ih b ha'.2 hb'.2 (List.perm_cons x |>.1 h)]
theorem attrs_unique {V:ByteArray→ByteArray→Option ByteArray}{l a b:List AT}(h1:AttrsR V l a)(h2:AttrsR V l b):a=b :=
 rising_unique a b h1.2 h2.2 (h1.1.trans h2.1.symm)
theorem attrs_not (V:ByteArray→ByteArray→Option ByteArray):∀ (l:List AT)(sn:List ByteArray),∀ x∈attrsGo V sn l,x.1∉sn:=by
 intro l
 induction l with
 | nil=>intro sn x h;simp[attrsGo] at h
 | cons y l ih =>
  intro sn x h
  unfold attrsGo at h
  split at h
  ·exact ih sn x h
  ·rename_i hn
   rcases List.mem_append.1 h with h|h
   ·cases hv:V y.1 y.2 with
    | none=>rw[hv] at h;simp at h
    | some t =>
     rw[hv] at h
     simp only[List.mem_singleton] at h
     subst h
     exact fun hm=>hn ((containsS_iff _ _).2 hm)
   ·exact fun hm=>ih _ x h (by simp[hm])
theorem attrs_nodup (V:ByteArray→ByteArray→Option ByteArray):∀ (l:List AT)(sn:List ByteArray),(attrsGo V sn l).Pairwise fun x y=>x.1≠y.1:=by
 intro l
 induction l with
 | nil=>intro sn;exact List.Pairwise.nil
 | cons y l ih =>
  intro sn
  unfold attrsGo
  split
  ·exact ih sn
  ·cases hv:V y.1 y.2 with
   | none=>exact ih _
   | some t =>
    refine List.pairwise_cons.2 ⟨fun x hx=>?_,ih _⟩
    have:=attrs_not V l _ x hx
    simp only[List.mem_append,List.mem_singleton,not_or] at this
    exact fun e=>this.2 e.symm
theorem attrs_len (V:ByteArray→ByteArray→Option ByteArray):∀ (l:List AT)(sn:List ByteArray),(attrsGo V sn l).length≤l.length:=by
 intro l
 induction l with
 | nil=>intro sn;exact Nat.le_refl _
 | cons y l ih =>
  intro sn
  unfold attrsGo
  split
  ·have:=ih sn;simp;omega
  ·have:=ih (sn++[y.1])
   cases V y.1 y.2<;>simp<;>omega
theorem rising_of {d:Array AT}(hs:SortedIn (ltOf cmpA) 0 d.size d)(hn:d.toList.Pairwise fun x y=>x.1≠y.1):Rising d.toList:=by
 unfold Rising
 rw[List.pairwise_iff_getElem] at hn ⊢
 intro i j hi hj hij
 have h1:=hn i j hi hj hij
 have hi':i<d.size:=by simpa using hi
 have hj':j<d.size:=by simpa using hj
 have h2:=hs i j (Nat.zero_le _) hij hj'
 unfold ltOf at h2
 simp only[decide_eq_false_iff_not,Int.not_lt] at h2
 rw[getElem!_pos d j hj',getElem!_pos d i hi'] at h2
 have e1:d.toList[i]=d[i]:=by simp
 have e2:d.toList[j]=d[j]:=by simp
 rw[e1,e2] at h1 ⊢
 unfold cmpA at h2 ⊢
 rw[cb_anti] at h2
 rcases Int.lt_or_eq_of_le (by omega:compareBytes (d[i]).1.data.toList (d[j]).1.data.toList≤0) with h|h
 ·exact h
 ·exfalso
  apply h1
  have:=cb_eq _ _ h
  cases hx:(d[i]).1;cases hy:(d[j]).1
  rw[hx,hy] at this
  simpa using this
open Go.RowKit
def encA (x:AT):List Value:=[.string x.1,.string x.2]
def flatA (l:List AT):List Value:=l.flatMap encA
theorem flatA_len (l:List AT):(flatA l).length=l.length*2:=by
 induction l with
 | nil=>rfl
 | cons x l ih=>unfold flatA at *;rw[List.flatMap_cons,List.length_append,ih];simp[encA];omega
theorem flatA_at:∀ (l:List AT)(j:Nat)(h:j<l.length),(flatA l)[j*2]?=some (.string (l[j]).1)∧(flatA l)[j*2+1]?=some (.string (l[j]).2):=by
 intro l
 induction l with
 | nil=>intro j h;simp at h
 | cons x l ih =>
  intro j h
  cases j with
  | zero=>exact⟨rfl,rfl⟩
  | succ j =>
   have:=ih j (by simpa using h)
   rw[show(j+1)*2=j*2+2 by omega,show j*2+2+1=(j*2+1)+2 by omega]
   unfold flatA at *
   rw[List.flatMap_cons]
   exact this
theorem flatA_app (a b:List AT):flatA (a++b)=flatA a++flatA b:=by unfold flatA;rw[List.flatMap_append]
theorem OwnV.attrs {B:Nat}{v:Value}{l:List AT}{W0 w:World}(h:OwnV B 39 2 v l.length (flatA l) W0 w):AttrsV w v l:=by
 obtain⟨a,c,e,hc⟩:=h.vec
 refine⟨a,c,e,fun j hj=>?_⟩
 obtain⟨h1,h2⟩:=flatA_at l j hj
 obtain⟨g,off,ha,k1⟩:=hc _ _ h1
 obtain⟨g',off',ha',k2⟩:=hc _ _ h2
 rw[ha] at ha'
 cases ha'
 exact⟨g,off,ha,k1,by rw[Nat.add_assoc];exact k2⟩
theorem AttrsV.get {w:World}{v:Value}{l:List AT}(h:AttrsV w v l)(j:Nat)(hj:j<l.length):∃ g off c,v=.slice (some ⟨g,off,none⟩) l.length c∧w.cell? ⟨g,off+j*2,none⟩=some (.string (l[j]).1)∧w.cell? ⟨g,off+j*2+1,none⟩=some (.string (l[j]).2):=by
 obtain⟨a,c,e,hc⟩:=h
 obtain⟨g,off,ha,h1,h2⟩:=hc j hj
 exact⟨g,off,c,by rw[e,ha],h1,h2⟩
def strV (s:ByteArray):Value:=.string s
theorem contains_vec (v:Value)(zs:List ByteArray)(x:ByteArray)(w:World)(hn:zs.length≤1000000000)(hV:VecAt w v zs.length (zs.map strV))(b:Bool)(hb:Lib.containsS zs x=b) :
  Calls Tryz.prog 85 #[v,.string x] w fun e w'=>e=.returned (.bool b)∧w=w':=by
 obtain⟨a,c,rfl,hc⟩:=hV
 cases zs with
 | nil =>
  refine(Tryz.slices_Contains_string_empty a c x w).mono ?_
  rintro e w' ⟨rfl,rfl⟩
  exact⟨by rw[← hb];rfl,rfl⟩
 | cons z zs =>
  obtain⟨g,off,rfl,_⟩:=hc 0 (strV z) (by simp)
  refine(Tryz.slices_Contains_string g off (z :: zs).length c (z :: zs) x w (Nat.le_refl _) (by omega) ?_).mono ?_
  ·intro j hj
   obtain⟨g',off',hg,hcell⟩:=hc j (strV ((z :: zs)[j])) (by rw[List.getElem?_map,List.getElem?_eq_getElem hj];rfl)
   cases hg
   rw[hcell]
   simp[strV,List.getD_eq_getElem?_getD,List.getElem?_eq_getElem hj]
  ·rintro e w' ⟨rfl,rfl⟩
   exact⟨by rw[List.take_length,← hb],rfl⟩
theorem Tryz.info39:(Tryz.prog.info? 39).map (fun i=>(i.zero,i.size,i.bytes))=some (some (.agg #[.string ⟨#[]⟩,.string ⟨#[]⟩]),2,32):=by kernel_rfl
open Go.RowKit
structure Phr (w:World) (pv:Value) (ph:List ByteArray):Prop where
 vec:VecAt w pv ph.length (ph.map strV)
 cap:∃ a c,pv=.slice a ph.length c∧ph.length≤c
theorem Phr.below {w w':World}{B:Nat}{pv:Value}{ph:List ByteArray}(h:Phr w pv ph)(hb:Below B w w')(hB:w.heap.size≤B):Phr w' pv ph:=⟨h.vec.below hb hB,h.cap⟩
theorem Phr.nil (w:World):Phr w (.slice none 0 0) []:=⟨⟨none,0,rfl,fun j u hj=>by simp at hj⟩,⟨none,0,rfl,Nat.le_refl _⟩⟩
open Go.RowKit
end Go.Proofs.YtcfgbdhpcboikaaGreatDoor
