/-
Trees of nodes in memory; how many nodes a budget leaves (policy.few).
-/
import Derived.Test.YtcfgbdhpcboikaaGreatDoorBase
namespace Go.Proofs.YtcfgbdhpcboikaaGreatDoor
open Go.Lib (hid)
set_option maxHeartbeats 2000000
set_option maxRecDepth 100000
open Go.RowKit
theorem fG {n:Nat}:n≤n:=Nat.le_refl n
inductive Nd where
 | mk (kind space:Int) (name:ByteArray) (attrs:List (ByteArray × ByteArray)) (text:ByteArray) (kids:List Nd)
def Nd.kids:Nd→List Nd|.mk _ _ _ _ _ k=>k
def Nd.kind:Nd→Int|.mk k _ _ _ _ _=>k
def Nd.space:Nd→Int|.mk _ s _ _ _ _=>s
def Nd.name:Nd→ByteArray|.mk _ _ n _ _ _=>n
def Nd.attrs:Nd→List (ByteArray × ByteArray)|.mk _ _ _ a _ _=>a
def Nd.text:Nd→ByteArray|.mk _ _ _ _ t _=>t
mutual
def Nd.sz:Nd→Nat
 | .mk _ _ _ _ _ ks=>1+aG ks
def aG:List Nd→Nat
 | []=>0
 | k :: ks=>k.sz+aG ks
end
theorem eY (n:Nd):1≤n.sz:=by cases n;unfold Nd.sz;omega
theorem aQd:∀(ks:List Nd) (j:Nat) (h:j<ks.length),(ks[j]).sz≤aG ks:=by
 intro ks;induction ks with
 | nil=>intro j h;simp at h
 | cons k ks ih =>
  intro j h;unfold aG;cases j with
  | zero=>simp
  | succ j =>
   have:=ih j (by simpa using h);simp only[List.getElem_cons_succ];omega
theorem aEA {P:Nd→Prop}{Q:List Nd→Prop}(h1:∀n,Q n.kids→P n)(h2:Q [])(h3:∀n ns,P n→Q ns→Q (n :: ns)):(∀n,P n)∧∀l,Q l:=by
 have key:∀m,(∀n:Nd,n.sz≤m→P n)∧∀l:List Nd,aG l≤m→Q l:=by
  intro m;induction m with
  | zero =>
   refine⟨fun n hn=>absurd (eY n) (by omega),fun l=>?_⟩;cases l with
   | nil=>intro _;exact h2
   | cons k ks=>intro hs;unfold aG at hs;exact absurd (eY k) (by omega)
  | succ m ih =>
   have hP:∀n:Nd,n.sz≤m+1→P n:=fun n hn=>by
    refine h1 n (ih.2 _ ?_);cases n;unfold Nd.sz at hn;show aG _≤m;simp only[Nd.kids];omega
   refine⟨hP,fun l=>?_⟩;induction l with
   | nil=>intro _;exact h2
   | cons k ks ihk=>intro hs;unfold aG at hs;exact h3 k ks (hP k (by omega)) (ihk (by omega))
 exact⟨fun n=>(key n.sz).1 n fG,fun l=>(key (aG l)).2 l fG⟩
structure Six (w:World) (g o:Nat) (c0 c1 c2 c3 c4 c5:Value):Prop where
 x0:w.cell? ⟨g,o,none⟩=some c0
 x1:w.cell? ⟨g,o+1,none⟩=some c1
 x2:w.cell? ⟨g,o+2,none⟩=some c2
 x3:w.cell? ⟨g,o+3,none⟩=some c3
 x4:w.cell? ⟨g,o+4,none⟩=some c4
 x5:w.cell? ⟨g,o+5,none⟩=some c5
theorem Six.below {w w':World}{g o B:Nat}{c0 c1 c2 c3 c4 c5:Value}(h:Six w g o c0 c1 c2 c3 c4 c5)(hb:Below B w w')(hB:w.heap.size≤B):Six w' g o c0 c1 c2 c3 c4 c5:=by
 have hg:g<B:=Nat.lt_of_lt_of_le (World.block_lt_of_cell? w _ h.x0) hB;have k:∀f v,w.cell? ⟨g,f,none⟩=some v→w'.cell? ⟨g,f,none⟩=some v:=fun f v e=>by rw[hb.cell (p:=⟨g,f,none⟩) hg];exact e
 exact⟨k _ _ h.x0,k _ _ h.x1,k _ _ h.x2,k _ _ h.x3,k _ _ h.x4,k _ _ h.x5⟩
def eI (w:World)(v:Value)(l:List (ByteArray × ByteArray)):Prop :=
 ∃a c,v=.slice a l.length c∧∀j (h:j<l.length),∃g off,a=some ⟨g,off,none⟩∧w.cell? ⟨g,off+j*2,none⟩=some (.string (l[j]).1)∧w.cell? ⟨g,off+j*2+1,none⟩=some (.string (l[j]).2)
theorem eI.below {w w':World}{B:Nat}{v:Value}{l:List (ByteArray × ByteArray)}(h:eI w v l)(hb:Below B w w')(hB:w.heap.size≤B):eI w' v l:=by
 obtain⟨a,c,e,h⟩:=h;refine⟨a,c,e,fun j hj=>?_⟩;obtain⟨g,off,ha,h1,h2⟩:=h j hj;have hg:g<B:=Nat.lt_of_lt_of_le (World.block_lt_of_cell? w _ h1) hB;exact⟨g,off,ha,by rw[hb.cell (p:=⟨g,_,none⟩) hg];exact h1,by rw[hb.cell (p:=⟨g,_,none⟩) hg];exact h2⟩
mutual
def aQ (w:World):Nd→Value→Prop
 | .mk kd sp nm at' tx ks,v=>∃av a c,v=.agg #[.int .i64 kd,.int .i64 sp,.string nm,av,.string tx,.slice a ks.length c]∧ks.length≤140737488355328∧eI w av at'∧bD w a 0 ks
def bD (w:World)(a:Option Addr):Nat→List Nd→Prop
 | _,[]=>True
 | i,n :: ks=>(∃g off c0 c1 c2 c3 c4 c5,a=some ⟨g,off,none⟩∧Six w g (off+i*6) c0 c1 c2 c3 c4 c5∧aQ w n (.agg #[c0,c1,c2,c3,c4,c5]))∧bD w a (i+1) ks
end
theorem bD.get {w:World}{a:Option Addr}:∀(ks:List Nd) (i j:Nat) (h:j<ks.length),bD w a i ks→∃g off c0 c1 c2 c3 c4 c5,a=some ⟨g,off,none⟩∧Six w g (off+(i+j)*6) c0 c1 c2 c3 c4 c5∧aQ w ks[j] (.agg #[c0,c1,c2,c3,c4,c5]):=by
 intro ks;induction ks with
 | nil=>intro i j h;simp at h
 | cons k ks ih =>
  intro i j h hk;unfold bD at hk;cases j with
  | zero=>exact hk.1
  | succ j =>
   have:=ih (i+1) j (by simpa using h) hk.2;rw[show i+1+j=i+(j+1) by omega]at this
   exact this
theorem aAd {w w':World}{B:Nat}(hb:Below B w w')(hB:w.heap.size≤B):∀m:Nat,(∀(n:Nd) (v:Value),n.sz≤m→aQ w n v→aQ w' n v)∧(∀(a:Option Addr) (ks:List Nd) (i:Nat),aG ks≤m→bD w a i ks→bD w' a i ks):=by
 intro m;induction m with
 | zero =>
  refine⟨fun n v hn=>absurd (eY n) (by omega),fun a ks=>?_⟩;induction ks with
  | nil=>intro i _ h;unfold bD;trivial
  | cons k ks _=>intro i hs;unfold aG at hs;exact absurd (eY k) (by omega)
 | succ m ih =>
  have hN:∀(n:Nd) (v:Value),n.sz≤m+1→aQ w n v→aQ w' n v:=by
   intro n v hs h;cases n with
   | mk kd sp nm at' tx ks =>
    unfold Nd.sz at hs;unfold aQ at h ⊢;obtain⟨av,a,c,e,hl,ha,hk⟩:=h;exact⟨av,a,c,e,hl,ha.below hb hB,ih.2 a ks 0 (by omega) hk⟩
  refine⟨hN,fun a ks=>?_⟩;induction ks with
  | nil=>intro i _ h;unfold bD;trivial
  | cons k ks ihk =>
   intro i hs h;unfold aG at hs;unfold bD at h ⊢;obtain⟨⟨g,off,c0,c1,c2,c3,c4,c5,e,h6,hn⟩,hr⟩:=h;exact⟨⟨g,off,c0,c1,c2,c3,c4,c5,e,h6.below hb hB,hN k _ (by omega) hn⟩,ihk (i+1) (by omega) hr⟩
theorem aQ.below {w w':World}{B:Nat}{n:Nd}{v:Value}(h:aQ w n v)(hb:Below B w w')(hB:w.heap.size≤B):aQ w' n v:=(aAd hb hB n.sz).1 n v fG h
theorem bD.below {w w':World}{B:Nat}{a:Option Addr}{ks:List Nd}{i:Nat}(h:bD w a i ks)(hb:Below B w w')(hB:w.heap.size≤B):bD w' a i ks:=(aAd hb hB (aG ks)).2 a ks i fG h
theorem Six.zero {w:World}{g:Nat}{c0 c1 c2 c3 c4 c5:Value}(h:Six w g 0 c0 c1 c2 c3 c4 c5) :
  w.cell? ⟨g,0,none⟩=some c0∧w.cell? ⟨g,1,none⟩=some c1∧w.cell? ⟨g,2,none⟩=some c2∧w.cell? ⟨g,3,none⟩=some c3∧w.cell? ⟨g,4,none⟩=some c4∧w.cell? ⟨g,5,none⟩=some c5:=⟨h.x0,h.x1,h.x2,h.x3,h.x4,h.x5⟩
theorem aQ.get {w:World}{nd:Nd}{v:Value}(h:aQ w nd v):∃av a c,v=.agg #[.int .i64 nd.kind,.int .i64 nd.space,.string nd.name,av,.string nd.text,.slice a nd.kids.length c]∧eI w av nd.attrs∧bD w a 0 nd.kids∧nd.kids.length≤140737488355328:=by
 cases nd with
 | mk kd sp nm at' tx ks =>
  unfold aQ at h;obtain⟨av,a,c,e,hl,hA,hK⟩:=h;exact⟨av,a,c,e,hA,hK,hl⟩
theorem nL:∀(ks:List Nd),(∀k∈ks,k.sz≤aG ks)∧ks.length≤aG ks:=by
 intro ks;induction ks with
 | nil=>exact⟨fun k hk=>by simp at hk,Nat.zero_le _⟩
 | cons n ks ih =>
  have h1:aG (n :: ks)=n.sz+aG ks:=by conv=>lhs;unfold aG
  have h2:=eY n;refine⟨fun k hk=>?_,?_⟩
  ·rcases List.mem_cons.1 hk with h|h
   ·rw[h];omega
   ·have:=ih.1 k h;omega
  ·rw[h1,List.length_cons];have:=ih.2;omega
theorem gJ (n:Nd):n.sz=1+aG n.kids:=by cases n;rfl
theorem aQ.cells {w:World}{n:Nd}{c0 c1 c2 c3 c4 c5:Value}(h:aQ w n (.agg #[c0,c1,c2,c3,c4,c5])) :
  ∃a b a' b',c0=.int .i64 n.kind∧c1=.int .i64 n.space∧c2=.string n.name∧c3=.slice a n.attrs.length b∧c4=.string n.text∧c5=.slice a' n.kids.length b':=by
 cases n with
 | mk kd sp nm at' tx ks =>
  unfold aQ at h;obtain⟨av,a',b',e,_,⟨a,b,rfl,_⟩,_⟩:=h;simp only[Value.agg.injEq,Array.mk.injEq,List.cons.injEq,and_true]at e;obtain⟨rfl,rfl,rfl,rfl,rfl,rfl⟩:=e;exact⟨a,b,a',b',rfl,rfl,rfl,rfl,rfl,rfl⟩
mutual
def eG:Nat→Nd→Int→Int
 | 0,_,_=>-1
 | d+1,.mk _ _ _ _ _ ks,left=>jQ d ks (left-1)
def jQ:Nat→List Nd→Int→Int
 | _,[],left=>left
 | d,k :: ks,left=>if left<0 then left else jQ d ks (eG d k left)
end
theorem aIY:∀(m:Nat),(∀(n:Nd) (d:Nat) (l:Int),n.sz≤m→0≤l→l≤1000→-1≤eG d n l∧eG d n l≤1000)∧(∀(ks:List Nd) (d:Nat) (l:Int),aG ks≤m→-1≤l→l≤1000→-1≤jQ d ks l∧jQ d ks l≤1000):=by
 intro m;induction m with
 | zero =>
  refine⟨fun n _ _ hn=>absurd (eY n) (by omega),fun ks=>?_⟩;cases ks with
  | nil=>intro d l _ h1 h2;unfold jQ;exact⟨h1,h2⟩
  | cons k ks=>intro d l hs;unfold aG at hs;exact absurd (eY k) (by omega)
 | succ m ih =>
  have hN:∀(n:Nd) (d:Nat) (l:Int),n.sz≤m+1→0≤l→l≤1000→-1≤eG d n l∧eG d n l≤1000:=by
   intro n d l hs h0 h1;cases n with
   | mk kd sp nm at' tx ks =>
    unfold Nd.sz at hs;cases d with
    | zero=>unfold eG;omega
    | succ d=>unfold eG;exact ih.2 ks d (l-1) (by omega) (by omega) (by omega)
  refine⟨hN,fun ks=>?_⟩;induction ks with
  | nil=>intro d l _ h1 h2;unfold jQ;exact⟨h1,h2⟩
  | cons k ks ihk =>
   intro d l hs h1 h2;unfold aG at hs;unfold jQ;split
   ·omega
   ·have:=hN k d l (by omega) (by omega) h2;exact ihk d _ (by omega) this.1 this.2
def aDO (ks:List Nd)(d k:Nat)(left r:Int)(w wx:World):Prop :=
 k≤ks.length∧-1≤left∧left≤1000∧jQ d (ks.drop k) left=r∧Below w.heap.size w wx
theorem aGq:∀(m:Nat) (n:Nd),n.sz≤m→∀(v:Value) (d:Nat) (D:Int) (left r:Int) (w:World),Hid (D=(d:Nat))→d≤1000→0≤left→left≤1000→Hid (aQ w n v)→Hid (eG d n left=r) →
  Calls Tryz.prog 89 #[v,.int .i64 left,.int .i64 D] w fun e w'=>e=.returned (.int .i64 r)∧Below w.heap.size w w':=by
 intro m;induction m with
 | zero=>intro n hn;exact absurd (eY n) (by omega)
 | succ m ih =>
  intro n hn v d D left r w hD hd h0 h1 hV hr;have hv:=hV.out;cases n with
  | mk kd sp nm at' tx ks =>
  unfold aQ at hv;obtain⟨av,a,c,rfl,hlen,hA,hK⟩:=hv;have HK:=hid hK;have HIH:=hid ih;have HN:=hid hn;clear hA hK ih hn hV;cases d with
  | zero =>
   have hr2:-1=r:=by have:=hr.out;unfold eG at this;exact this
   have HR:=hid hr2;clear hr2 hr;obtain rfl:D=0:=hD.out;go_enter Tryz.func89,Tryz.ntmps89
   go_wp2
   go_ret;refine⟨?_,(Below.refl _ w).alloc fG _⟩;rw[←HR.out];rfl
  | succ d =>
   have hr2:jQ d ks (left-1)=r:=by have:=hr.out;unfold eG at this;exact this
   have HR:Hid (aDO ks d 0 (left-1) r w (w.alloc (.cells #[.int .i64 kd,.int .i64 sp,.string nm,av,.string tx,.slice a ks.length c] 45))):=⟨Nat.zero_le _,by omega,by omega,hr2,(Below.refl _ w).alloc fG _⟩
   clear hr2 hr;have hDb:D=(d:Int)+1:=by rw[hD.out];omega
   have hq0:(D==0)=false:=by rw[beq_eq_false_iff_ne];omega
   have hD1:1≤D:=by omega
   have hD2:D≤1001:=by omega
   have HDD:Hid (D-1=(d:Nat)):=by show _=_;omega
   clear hDb;go_enter Tryz.func89,Tryz.ntmps89
   go_wp2
   go_loopw [1,16] (fun l i wx=>∃(k:Nat) (L:Int),i=.int .i64 k∧l=.int .i64 L∧Hid (aDO ks d k L r w wx)) (fun _ i _=>ks.length-(intOf i).toNat)
   case atStart=>exact⟨0,left-1,rfl,rfl,HR⟩
   case round =>
    obtain⟨k,L,rfl,rfl,hR⟩:=hrel;have hk:=hR.out.1;have hL0:=hR.out.2.1;have hL1:=hR.out.2.2.1;rcases Nat.lt_or_ge k ks.length with hlt|hge
    ·obtain⟨g,off,c0,c1,c2,c3,c4,c5,rfl,h6,hn⟩:=HK.out.get ks 0 k hlt;rw[Nat.zero_add]at h6
     have h6':=h6.below hR.out.2.2.2.2 fG;obtain⟨x0,x1,x2,x3,x4,x5⟩:=h6';have hst:jQ d (ks.drop k) L=if L<0 then L else jQ d (ks.drop (k+1)) (eG d ks[k] L):=by
      rw[List.drop_eq_getElem_cons hlt];conv=>lhs;unfold jQ
     have HST:=hid hst;obtain⟨a1,b1,a2,b2,rfl,rfl,rfl,rfl,rfl,rfl⟩:=hn.cells;have HND:=hid (hn.below hR.out.2.2.2.2 fG);clear hst hn h6;have HSZ:=hid (aQd ks k hlt);have HNN:=HN.out;unfold Nd.sz at HNN;have hm:(ks[k]).sz≤m:=by have:=HSZ.out;omega
     have HM:=hid hm;clear hm HNN;generalize ks[k]=q at *
     rcases Int.lt_or_le L 0 with hneg|hpos
     ·have hrL:L=r:=by
       have:=hR.out.2.2.2.1;rw[HST.out,if_pos hneg]at this
       exact this
      have HRL:=hid hrL;clear hrL;go_wp2
      go_ret;refine⟨?_,hR.out.2.2.2.2.trans (((Below.refl _ wr).alloc fG _).mono hR.out.2.2.2.2.size)⟩;rw[HRL.out];rfl
     ·have hB2:Below w.heap.size w (wr.alloc (.cells #[.int .i64 q.kind,.int .i64 q.space,.string q.name,.slice a1 q.attrs.length b1,.string q.text,.slice a2 q.kids.length b2] 45)):=hR.out.2.2.2.2.trans (((Below.refl _ wr).alloc fG _).mono hR.out.2.2.2.2.size);have HB2:=hid hB2;have HND2:=hid (HND.out.below ((Below.refl wr.heap.size wr).alloc fG (.cells #[.int .i64 q.kind,.int .i64 q.space,.string q.name,.slice a1 q.attrs.length b1,.string q.text,.slice a2 q.kids.length b2] 45)) fG);clear hB2;go_wp2_with fail
      refine(HIH.out q HM.out _ d (D-1) L (eG d q L) _ HDD (by omega) hpos hL1 HND2 (hid rfl)).mono ?_;rintro e W2 ⟨rfl,B2⟩;have HN2:Hid (aDO ks d (k+1) (eG d q L) r w W2):=by
       have hrg:=(aIY q.sz).1 q d L fG hpos hL1;refine⟨hlt,hrg.1,hrg.2,?_,HB2.out.trans (B2.mono HB2.out.size)⟩;have:=hR.out.2.2.2.1;rw[HST.out,if_neg (by omega)]at this
       exact this
      clear B2;go_wp2
      go_roundw
      case rel=>exact⟨k+1,eG d q L,by go_num,rfl,HN2⟩
      case measure=>simp[intOf];omega
    ·have hrL:L=r:=by
      have:=hR.out.2.2.2.1;rw[List.drop_eq_nil_of_le (by omega)]at this
      unfold jQ at this;exact this
     have HRL:=hid hrL;clear hrL;go_wp2
     go_ret;refine⟨?_,hR.out.2.2.2.2⟩;rw[HRL.out];rfl
open Go.RowKit
def jN (w:World)(v:Value)(n:Nat)(xs:List Value):Prop :=
 ∃a c,v=.slice a n c∧∀j u,xs[j]?=some u→∃g off,a=some ⟨g,off,none⟩∧w.cell? ⟨g,off+j,none⟩=some u
theorem jN.below {w w':World}{B n:Nat}{v:Value}{xs:List Value}(h:jN w v n xs)(hb:Below B w w')(hB:w.heap.size≤B):jN w' v n xs:=by
 obtain⟨a,c,e,h⟩:=h;refine⟨a,c,e,fun j u hj=>?_⟩;obtain⟨g,off,ha,hc⟩:=h j u hj;have hg:g<B:=Nat.lt_of_lt_of_le (World.block_lt_of_cell? w _ hc) hB;exact⟨g,off,ha,by rw[hb.cell (p:=⟨g,_,none⟩) hg];exact hc⟩
theorem jN.get {w:World}{v:Value}{n:Nat}{xs:List Value}(h:jN w v n xs)(j:Nat)(hj:j<xs.length):∃g off c,v=.slice (some ⟨g,off,none⟩) n c∧w.cell? ⟨g,off+j,none⟩=some xs[j]:=by
 obtain⟨a,c,e,h⟩:=h;obtain⟨g,off,ha,hc⟩:=h j _ (List.getElem?_eq_getElem hj);exact⟨g,off,c,by rw[e,ha],hc⟩
structure aT (B:Nat) (e:TypeId) (size:Nat) (v:Value) (n:Nat) (xs:List Value) (W0 w:World):Prop where
 own:w.ownsRow B e size v n xs
 bel:Below B W0 w
 base:B≤w.heap.size
theorem aT.nil (W:World)(e:TypeId)(size:Nat):aT W.heap.size e size (.slice none 0 0) 0 [] W W:=⟨World.ownsRow_nil _ _ _ _,Below.refl _ _,Nat.le_refl _⟩
theorem aT.of {B:Nat}{W0 w:World}(e:TypeId)(size:Nat)(hb:Below B W0 w)(hB:B≤w.heap.size):aT B e size (.slice none 0 0) 0 [] W0 w:=⟨World.ownsRow_nil _ _ _ _,hb,hB⟩
theorem aT.cast {B:Nat}{e:TypeId}{size:Nat}{v:Value}{n n':Nat}{xs xs':List Value}{W0 w:World}(h:aT B e size v n xs W0 w)(hn:n=n')(hx:xs=xs'):aT B e size v n' xs' W0 w:=by
 subst hn;subst hx;exact h
theorem aT.keep {B:Nat}{e:TypeId}{size:Nat}{v:Value}{n:Nat}{xs:List Value}{W0 w w':World}(h:aT B e size v n xs W0 w)(hb:Below w.heap.size w w'):aT B e size v n xs W0 w':=by
 refine⟨⟨h.own.1,?_⟩,h.bel.trans (hb.mono h.base),Nat.le_trans h.base hb.size⟩;rcases h.own.2 with hn|⟨g,cap,cur,hv,hB,hg,rest⟩
 ·exact .inl hn
 ·have hlt:g<w.heap.size:=(Array.getElem?_eq_some_iff.1 hg).1;exact .inr ⟨g,cap,cur,hv,hB,by rw[hb.block g hlt];exact hg,rest⟩
theorem aT.alloc {B:Nat}{e:TypeId}{size:Nat}{v:Value}{n:Nat}{xs:List Value}{W0 w:World}(h:aT B e size v n xs W0 w)(o:Obj):aT B e size v n xs W0 (w.alloc o) :=
 h.keep ((Below.refl _ w).alloc fG o)
theorem aT.drew {B:Nat}{e:TypeId}{size:Nat}{v:Value}{n:Nat}{xs:List Value}{W0 w:World}(h:aT B e size v n xs W0 w):aT B e size v n xs W0 w.drew:=h.keep (Below.refl _ w).drew
theorem aT.vec {B:Nat}{e:TypeId}{size:Nat}{v:Value}{n:Nat}{xs:List Value}{W0 w:World}(h:aT B e size v n xs W0 w):jN w v n xs:=by
 rcases h.own.2 with⟨hv,h0⟩|⟨g,cap,cur,hv,hB,hg,hnc,hcm,hcs,htake⟩
 ·have hx:xs=[]:=List.eq_nil_of_length_eq_zero (by rw[h.own.1,h0,Nat.zero_mul]);exact⟨none,0,by rw[hv,h0],fun j u hj=>by rw[hx]at hj;simp at hj⟩
 ·refine⟨_,_,hv,fun j u hj=>⟨g,0,rfl,?_⟩⟩;rw[Nat.zero_add,cell_of_row w g j cur e (0,0) hg];rw[←htake,List.getElem?_take]at hj
  split at hj
  ·simpa using hj
  ·cases hj
theorem aT.slice {B:Nat}{e:TypeId}{size:Nat}{v:Value}{n:Nat}{xs:List Value}{W0 w:World}(h:aT B e size v n xs W0 w):∃a c,v=.slice a n c∧n≤c∧∀y,a=some y→B≤y.block∧y.block<w.heap.size:=by
 rcases h.own.2 with⟨hv,h0⟩|⟨g,cap,cur,hv,hB,hg,hnc,hcm,hcs,htake⟩
 ·exact⟨none,0,by rw[hv,h0],by omega,fun y hy=>by cases hy⟩
 ·refine⟨_,_,hv,hnc,fun y hy=>?_⟩;cases hy;exact⟨hB,(Array.getElem?_eq_some_iff.1 hg).1⟩
theorem aT.isB {B:Nat}{v:Value}{n:Nat}{a:Option Addr}{c:Nat}{bs:List UInt8}{W0 w:World}(h:aT B 5 1 v n (bs.map cX) W0 w)(hv:v=.slice a n c):IsB w a bs:=by
 intro j b hb;obtain⟨a',c',e,h⟩:=h.vec;rw[hv]at e
 simp only[Value.slice.injEq]at e;obtain⟨rfl,_,_⟩:=e;obtain⟨g,off,ha,hc⟩:=h j (cX b) (by rw[List.getElem?_map,hb];rfl);refine⟨_,ha,?_⟩;have hadd:(⟨g,off,none⟩:Addr).add j=⟨g,off+j,none⟩:=by unfold Addr.add;split<;>simp_all
 rw[hadd];exact hc
structure oX (w w':World) (v v':Value):Prop where
 gr:w.grownBy w' v.ownBlock
 loc:v'.ownBlock=v.ownBlock∨∃k,v'.ownBlock=some k∧w.heap.size≤k
def nO (v u:Value):Prop:=v.ownBlock=none∨u.ownBlock=none∨v.ownBlock≠u.ownBlock
theorem nO.nil (v:Value):nO (.slice none 0 0) v:=.inl rfl
theorem nO.symm {v u:Value}(h:nO v u):nO u v:=by
 rcases h with h|h|h
 ·exact .inr (.inl h)
 ·exact .inl h
 ·exact .inr (.inr (Ne.symm h))
theorem oX.other {B:Nat}{e:TypeId}{size:Nat}{u v v':Value}{n:Nat}{xs:List Value}{W0 w w':World}(h:oX w w' v v')(hO:aT B e size u n xs W0 w)(ha:nO v u)(hv:∀k,v.ownBlock=some k→B≤k):aT B e size u n xs W0 w':=by
 refine⟨⟨hO.own.1,?_⟩,hO.bel.grown h.gr hO.base hv,Nat.le_trans hO.base h.gr.size⟩;rcases hO.own.2 with hn|⟨g,cap,cur,rfl,hB,hg,rest⟩
 ·exact .inl hn
 ·have hlt:g<w.heap.size:=(Array.getElem?_eq_some_iff.1 hg).1;refine .inr ⟨g,cap,cur,rfl,hB,?_,rest⟩;rw[h.gr.block g hlt (fun e=>?_)]
  ·exact hg
  ·rcases ha with h1|h1|h1
   ·rw[h1]at e;cases e
   ·cases h1
   ·exact h1 e.symm
theorem oX.apart {B:Nat}{e:TypeId}{size:Nat}{u v v':Value}{n:Nat}{xs:List Value}{W0 w w':World}(h:oX w w' v v')(hO:aT B e size u n xs W0 w)(ha:nO v u):nO v' u:=by
 rcases h.loc with h1|⟨k,hk,hle⟩
 ·unfold nO;rw[h1];exact ha
 ·rcases hO.own.2 with⟨rfl,_⟩|⟨g,cap,cur,rfl,hB,hg,rest⟩
  ·exact .inr (.inl rfl)
  ·have hlt:g<w.heap.size:=(Array.getElem?_eq_some_iff.1 hg).1;refine .inr (.inr ?_);rw[hk];intro e;simp[Value.ownBlock]at e
   omega
theorem aT.hi {B:Nat}{e:TypeId}{size:Nat}{v:Value}{n:Nat}{xs:List Value}{W0 w:World}(hO:aT B e size v n xs W0 w):∀k,v.ownBlock=some k→k<w.heap.size:=by
 intro k hk;rcases hO.own.2 with⟨rfl,_⟩|⟨g,cap,cur,rfl,hbg,hg,_⟩
 ·simp[Value.ownBlock]at hk
 ·simp[Value.ownBlock]at hk
  subst hk;exact(Array.getElem?_eq_some_iff.1 hg).1
theorem oX.cell {w w':World}{v v' u:Value}{p:Addr}(h:oX w w' v v')(hc:w.cell? p=some u)(hne:v.ownBlock=some p.block→False):w'.cell? p=some u :=
 (World.cell?_of_block (h.gr.block p.block (World.block_lt_of_cell? w p hc) (fun e=>hne e.symm))).trans hc
theorem aA3 {w:World}{p:Addr}{u:Value}{o:Obj}(hc:w.cell? p=some u):(w.alloc o).cell? p=some u:=by
 rw[((Below.refl w.heap.size w).alloc fG o).cell (World.block_lt_of_cell? w p hc)];exact hc
theorem aT.lo {B:Nat}{e:TypeId}{size:Nat}{v:Value}{n:Nat}{xs:List Value}{W0 w:World}(hO:aT B e size v n xs W0 w):∀k,v.ownBlock=some k→B≤k:=by
 intro k hk;rcases hO.own.2 with⟨rfl,_⟩|⟨g,cap,cur,rfl,hbg,_⟩
 ·simp[Value.ownBlock]at hk
 ·simp[Value.ownBlock]at hk
  subst hk;exact hbg
section
variable {P:Program} {w:World} {ops:Array Oper} {rest:List Oper} {o:Oper} {a:Act} {Q:Exit→Act→World→Prop}
theorem qD (hgd:o.guard=none)(s x:Operand)(t:TypeId)
  (ho:o.op=.call { callee:=.builtin .append,args:=#[s,x],argTypes:=#[t,t] })
  (e:TypeId) (i:TypeInfo) (z:Value) (size bytes:Nat) (ht:P.underlying t=some (.slice e)) (hi:P.info? e=some i) (hz:i.zero=some z)
  (hsize:i.size=size) (hby:i.bytes=bytes) (hzs:z.cells.size=size) (hsz:0<size)
  {B:Nat} {W0:World} (v:Value) (n:Nat) (xs:List Value) (hs:a.eval s=v) (hO:aT B e size v n xs W0 w)
  (ad:Addr) (m c:Nat) (news:List Value) (hx:a.eval x=.slice (some ad) m c) (hl:news.length=m*size) (hnews:∀j u,news[j]?=some u→w.cell? (ad.add j)=some u) (h1:news.all (fun u=>u.oneCell')=true)
  (hb:(n+m)*bytes≤140737488355328) (hn:n+m≤140737488355328)
  (h:∀v' w',Hid (aT B e size v' (n+m) (xs++news) W0 w')→Hid (oX w w' v v')→wpList P ops Q rest (a.put o.dst v') w'):wpList P ops Q (o :: rest) a w:=by
 refine wpList_append_own_at w hgd s x t ho B e i z size bytes ht hi hz hsize hby hzs hsz v n xs hs hO.own ad m c news hx hl hnews (fun u hu=>List.all_eq_true.1 h1 u hu) (by unfold maxLen;omega) hb hO.base ?_;intro v' w' ho' hg _ hat;refine h v' w' ⟨ho',hO.bel.grown hg hO.base hO.lo,Nat.le_trans hO.base hg.size⟩ ⟨hg,?_⟩;rcases hat with hat|hat
 ·exact .inl hat
 ·exact .inr ⟨_,hat,Nat.le_refl _⟩
theorem bY (hgd:o.guard=none)(s x:Operand)(t:TypeId)
  (ho:o.op=.call { callee:=.builtin .append,args:=#[s,x],argTypes:=#[t,t] })
  (e:TypeId) (i:TypeInfo) (z:Value) (size bytes:Nat) (ht:P.underlying t=some (.slice e)) (hi:P.info? e=some i) (hz:i.zero=some z)
  (hsize:i.size=size) (hby:i.bytes=bytes) (hzs:z.cells.size=size) (hsz:0<size)
  {B:Nat} {W0 w0:World} (v:Value) (n:Nat) (xs:List Value) (hs:a.eval s=v) (hO:aT B e size v n xs W0 w0)
  (cs:Array Value) (hw:w=w0.alloc (.cells cs e)) (hx:a.eval x=.slice (some ⟨w0.heap.size,0,none⟩) 1 1) (hcs:cs.size=size) (h1:cs.toList.all (fun u=>u.oneCell')=true)
  (hb:(n+1)*bytes≤140737488355328) (hn:n+1≤140737488355328)
  (h:∀v' w',Hid (aT B e size v' (n+1) (xs++cs.toList) W0 w')→Hid (oX (w0.alloc (.cells cs e)) w' v v')→wpList P ops Q rest (a.put o.dst v') w'):wpList P ops Q (o :: rest) a w:=by
 subst hw;refine qD hgd s x t ho e i z size bytes ht hi hz hsize hby hzs hsz v n xs hs (hO.alloc _) ⟨w0.heap.size,0,none⟩ 1 1 cs.toList hx (by simpa using hcs) ?_ h1 hb hn h;intro j u hj;have hadd:(⟨w0.heap.size,0,none⟩:Addr).add j=⟨w0.heap.size,j,none⟩:=by unfold Addr.add;split<;>simp_all
 rw[hadd,cell_of_row _ _ j cs e (0,0) (heap_alloc_new w0 _)];simpa using hj
end
open Go.RowKit
def nB (w:World)(xs:List Value)(ks:List Nd):Prop :=
 xs.length=ks.length*6∧∀j (h:j<ks.length),∃c0 c1 c2 c3 c4 c5,xs[j*6]?=some c0∧xs[j*6+1]?=some c1∧xs[j*6+2]?=some c2∧xs[j*6+3]?=some c3∧xs[j*6+4]?=some c4∧xs[j*6+5]?=some c5∧aQ w ks[j] (.agg #[c0,c1,c2,c3,c4,c5])
theorem nB.below {w w':World}{B:Nat}{xs:List Value}{ks:List Nd}(h:nB w xs ks)(hb:Below B w w')(hB:w.heap.size≤B):nB w' xs ks:=by
 refine⟨h.1,fun j hj=>?_⟩;obtain⟨c0,c1,c2,c3,c4,c5,h0,h1,h2,h3,h4,h5,hn⟩:=h.2 j hj;exact⟨c0,c1,c2,c3,c4,c5,h0,h1,h2,h3,h4,h5,hn.below hb hB⟩
theorem nB.snoc {w:World}{xs:List Value}{ks:List Nd}{x:Nd}{c0 c1 c2 c3 c4 c5:Value}(h:nB w xs ks)(hx:aQ w x (.agg #[c0,c1,c2,c3,c4,c5])):nB w (xs++[c0,c1,c2,c3,c4,c5]) (ks++[x]):=by
 obtain⟨hl,h⟩:=h;have at6:∀t,(xs++[c0,c1,c2,c3,c4,c5])[ks.length*6+t]?=[c0,c1,c2,c3,c4,c5][t]?:=fun t=>by rw[List.getElem?_append_right (by omega),show ks.length*6+t-xs.length=t by omega]
 refine⟨by simp;omega,fun j hj=>?_⟩;have up:∀i v,xs[i]?=some v→(xs++[c0,c1,c2,c3,c4,c5])[i]?=some v:=fun i v hi=>by rw[List.getElem?_append_left (List.getElem?_eq_some_iff.1 hi).1];exact hi
 by_cases hjm:j<ks.length
 ·obtain⟨d0,d1,d2,d3,d4,d5,k0,k1,k2,k3,k4,k5,kn⟩:=h j hjm;refine⟨d0,d1,d2,d3,d4,d5,up _ _ k0,up _ _ k1,up _ _ k2,up _ _ k3,up _ _ k4,up _ _ k5,?_⟩;rw[List.getElem_append_left hjm];exact kn
 ·have hje:j=ks.length:=by simp at hj;omega
  subst hje;refine⟨c0,c1,c2,c3,c4,c5,at6 0,at6 1,at6 2,at6 3,at6 4,at6 5,?_⟩;rw[List.getElem_append_right fG];simpa using hx
open Go.RowKit
def rF (D:Nat→Prop)(w:World)(a:Option Addr)(l:List (ByteArray × ByteArray)):Prop :=
 ∀j (h:j<l.length),∃g off,a=some ⟨g,off,none⟩∧D g∧w.cell? ⟨g,off+j*2,none⟩=some (.string (l[j]).1)∧w.cell? ⟨g,off+j*2+1,none⟩=some (.string (l[j]).2)
mutual
def cR (D:Nat→Prop)(w:World):Nd→Value→Prop
 | .mk kd sp nm at' tx ks,v=>∃aa ca a c,v=.agg #[.int .i64 kd,.int .i64 sp,.string nm,.slice aa at'.length ca,.string tx,.slice a ks.length c]∧ks.length≤140737488355328∧rF D w aa at'∧gU D w a 0 ks
def gU (D:Nat→Prop)(w:World)(a:Option Addr):Nat→List Nd→Prop
 | _,[]=>True
 | i,n :: ks=>(∃g off c0 c1 c2 c3 c4 c5,a=some ⟨g,off,none⟩∧D g∧Six w g (off+i*6) c0 c1 c2 c3 c4 c5∧cR D w n (.agg #[c0,c1,c2,c3,c4,c5]))∧gU D w a (i+1) ks
end
theorem jH {w w':World}{g o:Nat}{v:Value}(h:w'.heap[g]?=w.heap[g]?)(hc:w.cell? ⟨g,o,none⟩=some v):w'.cell? ⟨g,o,none⟩=some v :=
 (World.cell?_of_block h).trans hc
theorem Six.same {w w':World}{g o:Nat}{c0 c1 c2 c3 c4 c5:Value}(h:Six w g o c0 c1 c2 c3 c4 c5)(e:w'.heap[g]?=w.heap[g]?):Six w' g o c0 c1 c2 c3 c4 c5 :=
 ⟨jH e h.x0,jH e h.x1,jH e h.x2,jH e h.x3,jH e h.x4,jH e h.x5⟩
theorem Six.lt {w:World}{g o:Nat}{c0 c1 c2 c3 c4 c5:Value}(h:Six w g o c0 c1 c2 c3 c4 c5):g<w.heap.size:=World.block_lt_of_cell? w _ h.x0
theorem rF.keep {D D':Nat→Prop}{w w':World}(hk:∀g,g<w.heap.size→D g→w'.heap[g]?=w.heap[g]?∧D' g){a:Option Addr}{l:List (ByteArray × ByteArray)}(h:rF D w a l):rF D' w' a l:=by
 intro j hj;obtain⟨g,off,ha,hd,h1,h2⟩:=h j hj;obtain⟨e,hd'⟩:=hk g (World.block_lt_of_cell? w _ h1) hd;exact⟨g,off,ha,hd',jH e h1,jH e h2⟩
theorem aAc {D D':Nat→Prop}{w w':World}(hk:∀g,g<w.heap.size→D g→w'.heap[g]?=w.heap[g]?∧D' g):∀m:Nat,(∀(n:Nd) (v:Value),n.sz≤m→cR D w n v→cR D' w' n v)∧(∀(a:Option Addr) (ks:List Nd) (i:Nat),aG ks≤m→gU D w a i ks→gU D' w' a i ks):=by
 intro m;induction m with
 | zero =>
  refine⟨fun n v hn=>absurd (eY n) (by omega),fun a ks=>?_⟩;cases ks with
  | nil=>intro i _ h;unfold gU;trivial
  | cons k ks=>intro i hs;unfold aG at hs;exact absurd (eY k) (by omega)
 | succ m ih =>
  have hN:∀(n:Nd) (v:Value),n.sz≤m+1→cR D w n v→cR D' w' n v:=by
   intro n v hs h;cases n with
   | mk kd sp nm at' tx ks =>
    unfold Nd.sz at hs;unfold cR at h ⊢;obtain⟨aa,ca,a,c,e,hl,ha,hkk⟩:=h;exact⟨aa,ca,a,c,e,hl,ha.keep hk,ih.2 a ks 0 (by omega) hkk⟩
  refine⟨hN,fun a ks=>?_⟩;induction ks with
  | nil=>intro i _ h;unfold gU;trivial
  | cons k ks ihk =>
   intro i hs h;unfold aG at hs;unfold gU at h ⊢;obtain⟨⟨g,off,c0,c1,c2,c3,c4,c5,e,hd,h6,hn⟩,hr⟩:=h;obtain⟨eg,hd'⟩:=hk g h6.lt hd;exact⟨⟨g,off,c0,c1,c2,c3,c4,c5,e,hd',h6.same eg,hN k _ (by omega) hn⟩,ihk (i+1) (by omega) hr⟩
theorem cR.keep {D D':Nat→Prop}{w w':World}{n:Nd}{v:Value}(h:cR D w n v)(hk:∀g,g<w.heap.size→D g→w'.heap[g]?=w.heap[g]?∧D' g):cR D' w' n v:=(aAc hk n.sz).1 n v fG h
theorem gU.keep {D D':Nat→Prop}{w w':World}{a:Option Addr}{ks:List Nd}{i:Nat}(h:gU D w a i ks)(hk:∀g,g<w.heap.size→D g→w'.heap[g]?=w.heap[g]?∧D' g):gU D' w' a i ks:=(aAc hk (aG ks)).2 a ks i fG h
theorem rF.attrs {D:Nat→Prop}{w:World}{a:Option Addr}{l:List (ByteArray × ByteArray)}(h:rF D w a l)(c:Nat):eI w (.slice a l.length c) l :=
 ⟨a,c,rfl,fun j hj=>by obtain⟨g,off,ha,_,h1,h2⟩:=h j hj;exact⟨g,off,ha,h1,h2⟩⟩
theorem xU {D:Nat→Prop}{w:World}:∀m:Nat,(∀(n:Nd) (v:Value),n.sz≤m→cR D w n v→aQ w n v)∧(∀(a:Option Addr) (ks:List Nd) (i:Nat),aG ks≤m→gU D w a i ks→bD w a i ks):=by
 intro m;induction m with
 | zero =>
  refine⟨fun n v hn=>absurd (eY n) (by omega),fun a ks=>?_⟩;cases ks with
  | nil=>intro i _ h;unfold bD;trivial
  | cons k ks=>intro i hs;unfold aG at hs;exact absurd (eY k) (by omega)
 | succ m ih =>
  have hN:∀(n:Nd) (v:Value),n.sz≤m+1→cR D w n v→aQ w n v:=by
   intro n v hs h;cases n with
   | mk kd sp nm at' tx ks =>
    unfold Nd.sz at hs;unfold cR at h;unfold aQ;obtain⟨aa,ca,a,c,e,hl,ha,hkk⟩:=h;exact⟨_,a,c,e,hl,ha.attrs ca,ih.2 a ks 0 (by omega) hkk⟩
  refine⟨hN,fun a ks=>?_⟩;induction ks with
  | nil=>intro i _ h;unfold bD;trivial
  | cons k ks ihk =>
   intro i hs h;unfold aG at hs;unfold gU at h;unfold bD;obtain⟨⟨g,off,c0,c1,c2,c3,c4,c5,e,_,h6,hn⟩,hr⟩:=h;exact⟨⟨g,off,c0,c1,c2,c3,c4,c5,e,h6,hN k _ (by omega) hn⟩,ihk (i+1) (by omega) hr⟩
theorem cR.node {D:Nat→Prop}{w:World}{n:Nd}{v:Value}(h:cR D w n v):aQ w n v:=(xU n.sz).1 n v fG h
theorem gU.kids {D:Nat→Prop}{w:World}{a:Option Addr}{ks:List Nd}{i:Nat}(h:gU D w a i ks):bD w a i ks:=(xU (aG ks)).2 a ks i fG h
def fT (D:Nat→Prop)(w:World)(xs:List Value)(ks:List Nd):Prop :=
 xs.length=ks.length*6∧∀j (h:j<ks.length),∃c0 c1 c2 c3 c4 c5,xs[j*6]?=some c0∧xs[j*6+1]?=some c1∧xs[j*6+2]?=some c2∧xs[j*6+3]?=some c3∧xs[j*6+4]?=some c4∧xs[j*6+5]?=some c5∧cR D w ks[j] (.agg #[c0,c1,c2,c3,c4,c5])
theorem fT.nil (D:Nat→Prop)(w:World):fT D w [] []:=⟨rfl,fun j h=>absurd h (by simp)⟩
theorem fT.keep {D D':Nat→Prop}{w w':World}{xs:List Value}{ks:List Nd}(h:fT D w xs ks)(hk:∀g,g<w.heap.size→D g→w'.heap[g]?=w.heap[g]?∧D' g):fT D' w' xs ks:=by
 refine⟨h.1,fun j hj=>?_⟩;obtain⟨c0,c1,c2,c3,c4,c5,h0,h1,h2,h3,h4,h5,hn⟩:=h.2 j hj;exact⟨c0,c1,c2,c3,c4,c5,h0,h1,h2,h3,h4,h5,hn.keep hk⟩
theorem fT.snoc {D:Nat→Prop}{w:World}{xs:List Value}{ks:List Nd}{x:Nd}{c0 c1 c2 c3 c4 c5:Value}(h:fT D w xs ks)(hx:cR D w x (.agg #[c0,c1,c2,c3,c4,c5])):fT D w (xs++[c0,c1,c2,c3,c4,c5]) (ks++[x]):=by
 obtain⟨hl,h⟩:=h;have at6:∀t,(xs++[c0,c1,c2,c3,c4,c5])[ks.length*6+t]?=[c0,c1,c2,c3,c4,c5][t]?:=fun t=>by rw[List.getElem?_append_right (by omega),show ks.length*6+t-xs.length=t by omega]
 refine⟨by simp;omega,fun j hj=>?_⟩;have up:∀i v,xs[i]?=some v→(xs++[c0,c1,c2,c3,c4,c5])[i]?=some v:=fun i v hi=>by rw[List.getElem?_append_left (List.getElem?_eq_some_iff.1 hi).1];exact hi
 by_cases hjm:j<ks.length
 ·obtain⟨d0,d1,d2,d3,d4,d5,k0,k1,k2,k3,k4,k5,kn⟩:=h j hjm;refine⟨d0,d1,d2,d3,d4,d5,up _ _ k0,up _ _ k1,up _ _ k2,up _ _ k3,up _ _ k4,up _ _ k5,?_⟩;rw[List.getElem_append_left hjm];exact kn
 ·have hje:j=ks.length:=by simp at hj;omega
  subst hje;refine⟨c0,c1,c2,c3,c4,c5,at6 0,at6 1,at6 2,at6 3,at6 4,at6 5,?_⟩;rw[List.getElem_append_right fG];simpa using hx
theorem cR.parts {D:Nat→Prop}{w:World}{n:Nd}{aa:Option Addr}{al ca:Nat}{c0 c1 c2 c4:Value}{a:Option Addr}{kl c:Nat}(h:cR D w n (.agg #[c0,c1,c2,.slice aa al ca,c4,.slice a kl c])):rF D w aa n.attrs∧gU D w a 0 n.kids:=by
 cases n with
 | mk kd sp nm at' tx ks =>
  unfold cR at h;obtain⟨aa',ca',a',c',e,_,hA,hK⟩:=h;simp only[Value.agg.injEq,Array.mk.injEq,List.cons.injEq,and_true,Value.slice.injEq]at e;obtain⟨_,_,_,⟨rfl,_,_⟩,_,⟨rfl,_,_⟩⟩:=e;exact⟨hA,hK⟩
theorem gU.get {D:Nat→Prop}{w:World}{a:Option Addr}:∀(ks:List Nd) (i j:Nat) (h:j<ks.length),gU D w a i ks→∃g off c0 c1 c2 c3 c4 c5,a=some ⟨g,off,none⟩∧D g∧Six w g (off+(i+j)*6) c0 c1 c2 c3 c4 c5∧cR D w ks[j] (.agg #[c0,c1,c2,c3,c4,c5]):=by
 intro ks;induction ks with
 | nil=>intro i j h;simp at h
 | cons k ks ih =>
  intro i j h hk;unfold gU at hk;cases j with
  | zero=>exact hk.1
  | succ j =>
   have:=ih (i+1) j (by simpa using h) hk.2;rw[show i+1+j=i+(j+1) by omega]at this
   exact this
open Go.RowKit
theorem aT.empty {B:Nat}{W0 w:World}(e:TypeId)(size:Nat)(hb:Below B W0 w)(hB:B≤w.heap.size):aT B e size (.slice (some ⟨w.heap.size,0,none⟩) 0 0) 0 [] W0 (w.alloc (.cells #[] e)):=by
 refine⟨⟨by simp,.inr ⟨w.heap.size,0,#[],rfl,hB,heap_alloc_new w _,Nat.le_refl _,Nat.zero_le _,by simp,by simp⟩⟩,hb.alloc hB _,by simp;omega⟩
theorem oX.refl (w:World)(v:Value):oX w w v v:=⟨⟨rfl,rfl,rfl,Nat.le_refl _,fun _ _ _=>rfl⟩,.inl rfl⟩
section
variable {P:Program} {w:World} {ops:Array Oper} {rest:List Oper} {o:Oper} {a:Act} {Q:Exit→Act→World→Prop}
end
open Go.RowKit
theorem nB.one {w:World}{xs:List Value}{ks:List Nd}(h:nB w xs ks):xs.all (fun u=>u.oneCell')=true:=by
 rw[List.all_eq_true];intro u hu;obtain⟨i,hi,rfl⟩:=List.mem_iff_getElem.1 hu;have hl:=h.1;have hj:i / 6<ks.length:=by omega
 obtain⟨c0,c1,c2,c3,c4,c5,h0,h1,h2,h3,h4,h5,hn⟩:=h.2 (i / 6) hj;obtain⟨a1,b1,a2,b2,rfl,rfl,rfl,rfl,rfl,rfl⟩:=hn.cells;have at6:∀t,i=i / 6*6+t→xs[i / 6*6+t]?=some xs[i]:=fun t e=>by rw[←e];exact List.getElem?_eq_getElem hi
 have ht:i%6=0∨i%6=1∨i%6=2∨i%6=3∨i%6=4∨i%6=5:=by omega
 rcases ht with ht|ht|ht|ht|ht|ht
 ·have e:=at6 0 (by omega);rw[Nat.add_zero,h0]at e
  rw[←Option.some.inj e];rfl
 ·have e:=at6 1 (by omega);rw[h1]at e
  rw[←Option.some.inj e];rfl
 ·have e:=at6 2 (by omega);rw[h2]at e
  rw[←Option.some.inj e];rfl
 ·have e:=at6 3 (by omega);rw[h3]at e
  rw[←Option.some.inj e];rfl
 ·have e:=at6 4 (by omega);rw[h4]at e
  rw[←Option.some.inj e];rfl
 ·have e:=at6 5 (by omega);rw[h5]at e
  rw[←Option.some.inj e];rfl
end Go.Proofs.YtcfgbdhpcboikaaGreatDoor
