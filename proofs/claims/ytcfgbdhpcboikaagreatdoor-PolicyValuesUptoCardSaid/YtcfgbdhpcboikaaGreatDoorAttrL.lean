/-
policy.Attrs as a plain function: which attributes come out, in which order. No program in sight.
-/
import Derived.Shelf.SlSortCmp.Insertion
import Derived.Test.YtcfgbdhpcboikaaGreatDoorOwnV
namespace Go.Proofs.YtcfgbdhpcboikaaGreatDoor
open Go.Lib (hid)
set_option maxHeartbeats 2000000
set_option maxRecDepth 100000
open Go.Sort Go.Lib
theorem mA {n:Nat}:n≤n:=Nat.le_refl n
theorem oP (a b:UInt8)(x y:List UInt8):compareBytes (a :: x) (b :: y)=if a.toNat<b.toNat then -1 else if b.toNat<a.toNat then 1 else compareBytes x y:=by
 conv=>lhs;unfold compareBytes
 simp only[UInt8.lt_iff_toNat_lt]
theorem aEU:∀a:List UInt8,compareBytes a a=0:=by
 intro a;induction a with
 | nil=>rfl
 | cons c a ih=>rw[oP,if_neg (by omega),if_neg (by omega),ih]
theorem lF:∀a b:List UInt8,compareBytes b a=- compareBytes a b:=by
 intro a;induction a with
 | nil=>intro b;cases b<;>rfl
 | cons c a ih =>
  intro b;cases b with
  | nil=>rfl
  | cons d b =>
   rw[oP,oP];by_cases h1:c.toNat<d.toNat
   ·rw[if_pos h1,if_neg (by omega),if_pos h1];rfl
   ·by_cases h2:d.toNat<c.toNat
    ·rw[if_pos h2,if_neg h1,if_pos h2]
    ·rw[if_neg h2,if_neg h1,if_neg h1,if_neg h2,ih]
theorem zJ:∀a b:List UInt8,compareBytes a b=0→a=b:=by
 intro a;induction a with
 | nil=>intro b h;cases b with
  | nil=>rfl
  | cons d b=>simp[compareBytes]at h
 | cons c a ih =>
  intro b h;cases b with
  | nil=>simp[compareBytes]at h
  | cons d b =>
   rw[oP]at h
   split at h
   ·omega
   ·split at h
    ·omega
    ·rw[ih b h,UInt8.toNat_inj.1 (by omega:c.toNat=d.toNat)]
theorem wW:∀a b c:List UInt8,compareBytes a b<0→compareBytes b c<0→compareBytes a c<0:=by
 intro a;induction a with
 | nil =>
  intro b c h1 h2;cases c with
  | nil =>
   rw[lF [] b]at h2
   omega
  | cons d c=>simp[compareBytes]
 | cons x a ih =>
  intro b c h1 h2;cases b with
  | nil=>simp[compareBytes]at h1
  | cons y b =>
   cases c with
   | nil=>simp[compareBytes]at h2
   | cons z c =>
    rw[oP]at h1 h2 ⊢
    by_cases p1:x.toNat<y.toNat
    ·by_cases p2:z.toNat<y.toNat
     ·rw[if_neg (by omega),if_pos p2]at h2;omega
     ·rw[if_pos (by omega)];omega
    ·rw[if_neg p1]at h1
     by_cases p3:y.toNat<x.toNat
     ·rw[if_pos p3]at h1;omega
     ·rw[if_neg p3]at h1
      by_cases p4:y.toNat<z.toNat
      ·rw[if_pos (by omega)];omega
      ·rw[if_neg p4]at h2
       by_cases p5:z.toNat<y.toNat
       ·rw[if_pos p5]at h2;omega
       ·rw[if_neg p5]at h2
        rw[if_neg (by omega),if_neg (by omega)];exact ih b c h1 h2
abbrev AT:=ByteArray × ByteArray
def lW (x y:AT):Int:=compareBytes x.1.data.toList y.1.data.toList
theorem aJi:SWO (ltOf lW) where
 irrefl x:=by unfold ltOf lW;rw[aEU];rfl
 trans x y z h1 h2:=by
  unfold ltOf lW at *
  simp only[decide_eq_true_eq]at *
  exact wW _ _ _ h1 h2
 ntrans x y z h1 h2:=by
  unfold ltOf lW at *
  simp only[decide_eq_false_iff_not,Int.not_lt]at *
  rcases Int.lt_or_eq_of_le h1 with h1|h1
  ·rcases Int.lt_or_eq_of_le h2 with h2|h2
   ·have:=wW z.1.data.toList y.1.data.toList x.1.data.toList (by rw[lF];omega) (by rw[lF];omega);rw[lF]at this
    omega
   ·rw[←zJ _ _ h2.symm];omega
  ·rw[zJ _ _ h1.symm];exact h2
def aS (V:ByteArray→ByteArray→Option ByteArray):List ByteArray→List AT→List AT
 | _,[]=>[]
 | sn,x :: l=>if containsS sn x.1=true then aS V sn l else (match V x.1 x.2 with|some t=>[(x.1,t)]|none=>[])++aS V (sn++[x.1]) l
def rE (r:List AT):Prop:=r.Pairwise fun x y=>lW x y<0
def rA (V:ByteArray→ByteArray→Option ByteArray)(l r:List AT):Prop:=r.Perm (aS V [] l)∧rE r
theorem aCe:∀(a b:List AT),rE a→rE b→a.Perm b→a=b:=by
 intro a;induction a with
 | nil=>intro b _ _ h;exact(List.Perm.nil_eq h)
 | cons x a ih =>
  intro b ha hb h;cases b with
  | nil=>exact absurd h.length_eq (by simp)
  | cons y b =>
   have ha':=List.pairwise_cons.1 ha;have hb':=List.pairwise_cons.1 hb;have e:x=y:=by
    have hx:x∈y :: b:=h.mem_iff.1 (by simp);have hy:y∈x :: a:=h.mem_iff.2 (by simp);rcases List.mem_cons.1 hx with hx|hx
    ·exact hx
    ·rcases List.mem_cons.1 hy with hy|hy
     ·exact hy.symm
     ·have h1:=hb'.1 x hx;have h2:=ha'.1 y hy;unfold lW at h1 h2;rw[lF]at h1
      omega
   subst e;rw[ih b ha'.2 hb'.2 (List.perm_cons x |>.1 h)]
theorem aCA {V:ByteArray→ByteArray→Option ByteArray}{l a b:List AT}(h1:rA V l a)(h2:rA V l b):a=b :=
 aCe a b h1.2 h2.2 (h1.1.trans h2.1.symm)
theorem aGX (V:ByteArray→ByteArray→Option ByteArray):∀(l:List AT) (sn:List ByteArray),∀x∈aS V sn l,x.1∉sn:=by
 intro l;induction l with
 | nil=>intro sn x h;simp[aS]at h
 | cons y l ih =>
  intro sn x h;unfold aS at h;split at h
  ·exact ih sn x h
  ·rename_i hn;rcases List.mem_append.1 h with h|h
   ·cases hv:V y.1 y.2 with
    | none=>rw[hv]at h;simp at h
    | some t =>
     rw[hv]at h
     simp only[List.mem_singleton]at h;subst h;exact fun hm=>hn ((containsS_iff _ _).2 hm)
   ·exact fun hm=>ih _ x h (by simp[hm])
theorem aD3 (V:ByteArray→ByteArray→Option ByteArray):∀(l:List AT) (sn:List ByteArray),(aS V sn l).Pairwise fun x y=>x.1≠y.1:=by
 intro l;induction l with
 | nil=>intro sn;exact List.Pairwise.nil
 | cons y l ih =>
  intro sn;unfold aS;split
  ·exact ih sn
  ·cases hv:V y.1 y.2 with
   | none=>exact ih _
   | some t =>
    refine List.pairwise_cons.2 ⟨fun x hx=>?_,ih _⟩;have:=aGX V l _ x hx;simp only[List.mem_append,List.mem_singleton,not_or]at this;exact fun e=>this.2 e.symm
theorem aGV (V:ByteArray→ByteArray→Option ByteArray):∀(l:List AT) (sn:List ByteArray),(aS V sn l).length≤l.length:=by
 intro l;induction l with
 | nil=>intro sn;exact Nat.le_refl _
 | cons y l ih =>
  intro sn;unfold aS;split
  ·have:=ih sn;simp;omega
  ·have:=ih (sn++[y.1]);cases V y.1 y.2<;>simp<;>omega
theorem aFv (V:ByteArray→ByteArray→Option ByteArray):∀(l:List AT) (sn:List ByteArray),∀x∈aS V sn l,∃v,(x.1,v)∈l∧V x.1 v=some x.2:=by
 intro l;induction l with
 | nil=>intro sn x h;simp[aS]at h
 | cons y l ih =>
  intro sn x h;unfold aS at h;split at h
  ·obtain⟨v,h1,h2⟩:=ih sn x h;exact⟨v,by simp[h1],h2⟩
  ·rcases List.mem_append.1 h with h|h
   ·cases hv:V y.1 y.2 with
    | none=>rw[hv]at h;simp at h
    | some t =>
     rw[hv]at h
     simp only[List.mem_singleton]at h;subst h;exact⟨y.2,by simp,hv⟩
   ·obtain⟨v,h1,h2⟩:=ih _ x h;exact⟨v,by simp[h1],h2⟩
theorem aIj {d:Array AT}(hs:SortedIn (ltOf lW) 0 d.size d)(hn:d.toList.Pairwise fun x y=>x.1≠y.1):rE d.toList:=by
 unfold rE;rw[List.pairwise_iff_getElem]at hn ⊢
 intro i j hi hj hij;have h1:=hn i j hi hj hij;have hi':i<d.size:=by simpa using hi
 have hj':j<d.size:=by simpa using hj
 have h2:=hs i j (Nat.zero_le _) hij hj';unfold ltOf at h2;simp only[decide_eq_false_iff_not,Int.not_lt]at h2;rw[getElem!_pos d j hj',getElem!_pos d i hi']at h2
 have e1:d.toList[i]=d[i]:=by simp
 have e2:d.toList[j]=d[j]:=by simp
 rw[e1,e2]at h1 ⊢
 unfold lW at h2 ⊢;rw[lF]at h2
 rcases Int.lt_or_eq_of_le (by omega:compareBytes (d[i]).1.data.toList (d[j]).1.data.toList≤0)with h|h
 ·exact h
 ·exfalso;apply h1;have:=zJ _ _ h;cases hx:(d[i]).1;cases hy:(d[j]).1;rw[hx,hy]at this
  simpa using this
open Go.Lib
theorem aD2 (V:ByteArray→ByteArray→Option ByteArray)(x:AT):∀(l:List AT) (sn:List ByteArray),(x.1∈sn∨∃y∈l,y.1=x.1)→aS V sn (l++[x])=aS V sn l:=by
 intro l;induction l with
 | nil =>
  intro sn h;rcases h with h|⟨y,hy,_⟩
  ·show aS V sn [x]=aS V sn [];conv=>lhs;unfold aS
   rw[if_pos ((containsS_iff _ _).2 h)]
  ·simp at hy
 | cons y l ih =>
  intro sn h;show aS V sn (y :: (l++[x]))=_;by_cases hy:y.1∈sn
  ·conv=>lhs;unfold aS
   conv=>rhs;unfold aS
   rw[if_pos ((containsS_iff _ _).2 hy),if_pos ((containsS_iff _ _).2 hy)];refine ih sn ?_;rcases h with h|⟨z,hz,e⟩
   ·exact .inl h
   ·rcases List.mem_cons.1 hz with rfl|hz
    ·exact .inl (e▸hy)
    ·exact .inr ⟨z,hz,e⟩
  ·conv=>lhs;unfold aS
   conv=>rhs;unfold aS
   rw[if_neg (fun h=>hy ((containsS_iff _ _).1 h)),if_neg (fun h=>hy ((containsS_iff _ _).1 h))];rw[ih (sn++[y.1]) ?_];rcases h with h|⟨z,hz,e⟩
   ·exact .inl (List.mem_append_left _ h)
   ·rcases List.mem_cons.1 hz with rfl|hz
    ·exact .inl (by rw[←e];simp)
    ·exact .inr ⟨z,hz,e⟩
theorem wE (V:ByteArray→ByteArray→Option ByteArray)(x:AT):∀(l:List AT) (sn:List ByteArray),x.1∉sn→(∀y∈l,y.1≠x.1)→aS V sn (l++[x])=aS V sn l++(match V x.1 x.2 with|some t=>[(x.1,t)]|none=>[]):=by
 intro l;induction l with
 | nil =>
  intro sn h _;show aS V sn [x]=aS V sn []++_;conv=>lhs;unfold aS
  rw[if_neg (fun hh=>h ((containsS_iff _ _).1 hh))];cases V x.1 x.2<;>simp[aS]
 | cons y l ih =>
  intro sn h h2;show aS V sn (y :: (l++[x]))=_;have h3:∀z∈l,z.1≠x.1:=fun z hz=>h2 z (List.mem_cons_of_mem _ hz)
  by_cases hy:y.1∈sn
  ·conv=>lhs;unfold aS
   conv=>rhs;lhs;unfold aS
   rw[if_pos ((containsS_iff _ _).2 hy),if_pos ((containsS_iff _ _).2 hy)];exact ih sn h h3
  ·conv=>lhs;unfold aS
   conv=>rhs;lhs;unfold aS
   rw[if_neg (fun h=>hy ((containsS_iff _ _).1 h)),if_neg (fun h=>hy ((containsS_iff _ _).1 h))];rw[ih (sn++[y.1]) (by
    simp only[List.mem_append,List.mem_singleton,not_or];exact⟨h,fun e=>h2 y List.mem_cons_self e.symm⟩) h3,List.append_assoc]
structure iB (V:ByteArray→ByteArray→Option ByteArray) (l:List AT) (k:Nat) (done:List AT):Prop where
 le:k≤l.length
 dl:done.length≤k
 out:rA V (l.take k) done
theorem iB.start (V:ByteArray→ByteArray→Option ByteArray)(l:List AT):iB V l 0 []:=⟨Nat.zero_le _,Nat.le_refl _,by
 refine⟨?_,List.Pairwise.nil⟩;rw[List.take_zero];exact List.Perm.nil⟩
theorem iB.done {V:ByteArray→ByteArray→Option ByteArray}{l:List AT}{k:Nat}{done:List AT}(h:iB V l k done)(hk:l.length≤k):rA V l done:=by
 have:=h.out;rwa[List.take_of_length_le hk]at this
theorem iB.old {V:ByteArray→ByteArray→Option ByteArray}{l:List AT}{k:Nat}{done:List AT}(h:iB V l k done)(hk:k<l.length)(ho:∃j,∃hj:j<k,(l[j]).1=(l[k]).1):iB V l (k+1) done:=by
 have:=h.dl;refine⟨hk,by omega,?_,h.out.2⟩;obtain⟨j,hj,e⟩:=ho;rw[List.take_succ_eq_append_getElem hk,aD2 V l[k] (l.take k) [] (.inr ⟨l[j],List.mem_take_iff_getElem.2 ⟨j,by omega,rfl⟩,e⟩)];exact h.out.1
theorem iB.no {V:ByteArray→ByteArray→Option ByteArray}{l:List AT}{k:Nat}{done:List AT}(h:iB V l k done)(hk:k<l.length)(hv:V (l[k]).1 (l[k]).2=none):iB V l (k+1) done:=by
 have:=h.dl;by_cases ho:∃j,∃hj:j<k,(l[j]).1=(l[k]).1
 ·exact h.old hk ho
 refine⟨hk,by omega,?_,h.out.2⟩;rw[List.take_succ_eq_append_getElem hk,wE V l[k] (l.take k) [] (by simp) (fun y hy e=>?_),hv]
 ·rw[List.append_nil];exact h.out.1
 ·obtain⟨j,hj,rfl⟩:=List.mem_take_iff_getElem.1 hy;exact ho ⟨j,by omega,e⟩
theorem iB.yes {V:ByteArray→ByteArray→Option ByteArray}{l:List AT}{k:Nat}{done:List AT}{t:ByteArray}(h:iB V l k done)(hk:k<l.length)(ho:∀j,∀hj:j<k,(l[j]).1≠(l[k]).1)(hv:V (l[k]).1 (l[k]).2=some t)
  (p:Nat) (hp:p≤done.length) (h1:∀j,∀hj:j<done.length,p≤j→compareBytes (l[k]).1.data.toList (done[j]).1.data.toList<0) (h2:∀h0:0<p,¬compareBytes (l[k]).1.data.toList (done[p-1]).1.data.toList<0) :
  iB V l (k+1) (done.take p++((l[k]).1,t) :: done.drop p):=by
 have hdl:=h.dl;have hne:∀d∈done,d.1≠(l[k]).1:=by
  intro d hd e;obtain⟨v,hm,_⟩:=aFv V (l.take k) [] d (h.out.1.mem_iff.1 hd);obtain⟨j,hj,e2⟩:=List.mem_take_iff_getElem.1 hm;exact ho j (by omega) (by rw[e2];exact e)
 refine⟨hk,by simp;omega,?_,?_⟩
 ·rw[List.take_succ_eq_append_getElem hk,wE V l[k] (l.take k) [] (by simp) (fun y hy e=>?_),hv]
  ·refine List.Perm.trans ?_ (h.out.1.append_right _);refine List.perm_middle.trans ?_;rw[List.take_append_drop];exact List.perm_append_comm (l₁ := [((l[k]).1,t)])
  ·obtain⟨j,hj,rfl⟩:=List.mem_take_iff_getElem.1 hy;exact ho j (by omega) e
 ·have hr:=h.out.2;unfold rE at hr ⊢;have hlow:∀d∈done.take p,compareBytes d.1.data.toList (l[k]).1.data.toList<0:=by
   intro d hd;obtain⟨j,hj,rfl⟩:=List.mem_take_iff_getElem.1 hd;have hjp:j<p:=by omega
   have a:=h2 (by omega);rw[lF (done[p-1]).1.data.toList]at a
   have b:compareBytes (done[p-1]).1.data.toList (l[k]).1.data.toList≠0:=fun e=>hne (done[p-1]'(by omega)) (List.getElem_mem _) (by
    have:=zJ _ _ e;cases hx:(done[p-1]).1;cases hy:(l[k]).1;rw[hx,hy]at this
    simpa using this)
   by_cases hjj:j=p-1
   ·subst hjj;omega
   ·rw[List.pairwise_iff_getElem]at hr
    have c:=hr j (p-1) (by omega) (by omega) (by omega);unfold lW at c;exact wW _ _ _ c (by omega)
  rw[List.pairwise_append];refine⟨hr.sublist (List.take_sublist _ _),?_,?_⟩
  ·rw[List.pairwise_cons];refine⟨fun d hd=>?_,hr.sublist (List.drop_sublist _ _)⟩;obtain⟨j,hj,rfl⟩:=List.mem_drop_iff_getElem.1 hd;exact h1 (p+j) (by omega) (by omega)
  ·intro a ha b hb;rcases List.mem_cons.1 hb with rfl|hb
   ·exact hlow a ha
   ·obtain⟨i,hi,rfl⟩:=List.mem_take_iff_getElem.1 ha;obtain⟨j,hj,rfl⟩:=List.mem_drop_iff_getElem.1 hb;rw[List.pairwise_iff_getElem]at hr
    exact hr i (p+j) (by omega) (by omega) (by omega)
theorem less_iff:∀a b:List UInt8,Op.bytesLess a b=decide (compareBytes a b<0):=by
 intro a;induction a with
 | nil =>
  intro b;cases b with
  | nil=>rfl
  | cons d b=>simp[compareBytes,Op.bytesLess]
 | cons c a ih =>
  intro b;cases b with
  | nil=>simp[compareBytes,Op.bytesLess]
  | cons d b =>
   rw[oP];unfold Op.bytesLess;by_cases h1:c.toNat<d.toNat
   ·have:decide (c<d)=true:=by simp[UInt8.lt_iff_toNat_lt];omega
    rw[this,if_pos h1];rfl
   ·have h1':decide (c<d)=false:=by simp[UInt8.lt_iff_toNat_lt];omega
    rw[if_neg h1,h1',Bool.false_or];by_cases h2:d.toNat<c.toNat
    ·rw[if_pos h2];have:(c==d)=false:=by rw[beq_eq_false_iff_ne];intro e;rw[e]at h2;omega
     rw[this];rfl
    ·rw[if_neg h2];have e:c=d:=UInt8.toNat_inj.1 (by omega);rw[ih b,e];simp
open Go.RowKit
inductive Nd where
 | mk (kind space:Int) (name:ByteArray) (attrs:List (ByteArray × ByteArray)) (text:ByteArray) (kids:List Nd)
def Nd.kids:Nd→List Nd|.mk _ _ _ _ _ k=>k
def Nd.kind:Nd→Int|.mk k _ _ _ _ _=>k
def Nd.space:Nd→Int|.mk _ s _ _ _ _=>s
def Nd.name:Nd→ByteArray|.mk _ _ n _ _ _=>n
def Nd.attrs:Nd→List (ByteArray × ByteArray)|.mk _ _ _ a _ _=>a
def Nd.text:Nd→ByteArray|.mk _ _ _ _ t _=>t
mutual
def Nd.sz:Nd→Nat
 | .mk _ _ _ _ _ ks=>1+mK ks
def mK:List Nd→Nat
 | []=>0
 | k :: ks=>k.sz+mK ks
end
theorem vA (n:Nd):1≤n.sz:=by cases n;unfold Nd.sz;omega
theorem aNK:∀(ks:List Nd) (j:Nat) (h:j<ks.length),(ks[j]).sz≤mK ks:=by
 intro ks;induction ks with
 | nil=>intro j h;simp at h
 | cons k ks ih =>
  intro j h;unfold mK;cases j with
  | zero=>simp
  | succ j =>
   have:=ih j (by simpa using h);simp only[List.getElem_cons_succ];omega
structure Six (w:World) (g o:Nat) (c0 c1 c2 c3 c4 c5:Value):Prop where
 x0:w.cell? ⟨g,o,none⟩=some c0
 x1:w.cell? ⟨g,o+1,none⟩=some c1
 x2:w.cell? ⟨g,o+2,none⟩=some c2
 x3:w.cell? ⟨g,o+3,none⟩=some c3
 x4:w.cell? ⟨g,o+4,none⟩=some c4
 x5:w.cell? ⟨g,o+5,none⟩=some c5
theorem Six.below {w w':World}{g o B:Nat}{c0 c1 c2 c3 c4 c5:Value}(h:Six w g o c0 c1 c2 c3 c4 c5)(hb:Below B w w')(hB:w.heap.size≤B):Six w' g o c0 c1 c2 c3 c4 c5:=by
 have hg:g<B:=Nat.lt_of_lt_of_le (World.block_lt_of_cell? w _ h.x0) hB;have k:∀f v,w.cell? ⟨g,f,none⟩=some v→w'.cell? ⟨g,f,none⟩=some v:=fun f v e=>by rw[hb.cell (p:=⟨g,f,none⟩) hg];exact e
 exact⟨k _ _ h.x0,k _ _ h.x1,k _ _ h.x2,k _ _ h.x3,k _ _ h.x4,k _ _ h.x5⟩
def dL (w:World)(v:Value)(l:List (ByteArray × ByteArray)):Prop :=
 ∃a c,v=.slice a l.length c∧∀j (h:j<l.length),∃g off,a=some ⟨g,off,none⟩∧w.cell? ⟨g,off+j*2,none⟩=some (.string (l[j]).1)∧w.cell? ⟨g,off+j*2+1,none⟩=some (.string (l[j]).2)
theorem dL.below {w w':World}{B:Nat}{v:Value}{l:List (ByteArray × ByteArray)}(h:dL w v l)(hb:Below B w w')(hB:w.heap.size≤B):dL w' v l:=by
 obtain⟨a,c,e,h⟩:=h;refine⟨a,c,e,fun j hj=>?_⟩;obtain⟨g,off,ha,h1,h2⟩:=h j hj;have hg:g<B:=Nat.lt_of_lt_of_le (World.block_lt_of_cell? w _ h1) hB;exact⟨g,off,ha,by rw[hb.cell (p:=⟨g,_,none⟩) hg];exact h1,by rw[hb.cell (p:=⟨g,_,none⟩) hg];exact h2⟩
mutual
def cN (w:World):Nd→Value→Prop
 | .mk kd sp nm at' tx ks,v=>∃av a c,v=.agg #[.int .i64 kd,.int .i64 sp,.string nm,av,.string tx,.slice a ks.length c]∧ks.length≤140737488355328∧dL w av at'∧dJ w a 0 ks
def dJ (w:World)(a:Option Addr):Nat→List Nd→Prop
 | _,[]=>True
 | i,n :: ks=>(∃g off c0 c1 c2 c3 c4 c5,a=some ⟨g,off,none⟩∧Six w g (off+i*6) c0 c1 c2 c3 c4 c5∧cN w n (.agg #[c0,c1,c2,c3,c4,c5]))∧dJ w a (i+1) ks
end
theorem dJ.get {w:World}{a:Option Addr}:∀(ks:List Nd) (i j:Nat) (h:j<ks.length),dJ w a i ks→∃g off c0 c1 c2 c3 c4 c5,a=some ⟨g,off,none⟩∧Six w g (off+(i+j)*6) c0 c1 c2 c3 c4 c5∧cN w ks[j] (.agg #[c0,c1,c2,c3,c4,c5]):=by
 intro ks;induction ks with
 | nil=>intro i j h;simp at h
 | cons k ks ih =>
  intro i j h hk;unfold dJ at hk;cases j with
  | zero=>exact hk.1
  | succ j =>
   have:=ih (i+1) j (by simpa using h) hk.2;rw[show i+1+j=i+(j+1) by omega]at this
   exact this
theorem wL {w w':World}{B:Nat}(hb:Below B w w')(hB:w.heap.size≤B):∀m:Nat,(∀(n:Nd) (v:Value),n.sz≤m→cN w n v→cN w' n v)∧(∀(a:Option Addr) (ks:List Nd) (i:Nat),mK ks≤m→dJ w a i ks→dJ w' a i ks):=by
 intro m;induction m with
 | zero =>
  refine⟨fun n v hn=>absurd (vA n) (by omega),fun a ks=>?_⟩;induction ks with
  | nil=>intro i _ h;unfold dJ;trivial
  | cons k ks _=>intro i hs;unfold mK at hs;exact absurd (vA k) (by omega)
 | succ m ih =>
  have hN:∀(n:Nd) (v:Value),n.sz≤m+1→cN w n v→cN w' n v:=by
   intro n v hs h;cases n with
   | mk kd sp nm at' tx ks =>
    unfold Nd.sz at hs;unfold cN at h ⊢;obtain⟨av,a,c,e,hl,ha,hk⟩:=h;exact⟨av,a,c,e,hl,ha.below hb hB,ih.2 a ks 0 (by omega) hk⟩
  refine⟨hN,fun a ks=>?_⟩;induction ks with
  | nil=>intro i _ h;unfold dJ;trivial
  | cons k ks ihk =>
   intro i hs h;unfold mK at hs;unfold dJ at h ⊢;obtain⟨⟨g,off,c0,c1,c2,c3,c4,c5,e,h6,hn⟩,hr⟩:=h;exact⟨⟨g,off,c0,c1,c2,c3,c4,c5,e,h6.below hb hB,hN k _ (by omega) hn⟩,ihk (i+1) (by omega) hr⟩
theorem cN.below {w w':World}{B:Nat}{n:Nd}{v:Value}(h:cN w n v)(hb:Below B w w')(hB:w.heap.size≤B):cN w' n v:=(wL hb hB n.sz).1 n v mA h
theorem dJ.below {w w':World}{B:Nat}{a:Option Addr}{ks:List Nd}{i:Nat}(h:dJ w a i ks)(hb:Below B w w')(hB:w.heap.size≤B):dJ w' a i ks:=(wL hb hB (mK ks)).2 a ks i mA h
theorem Six.zero {w:World}{g:Nat}{c0 c1 c2 c3 c4 c5:Value}(h:Six w g 0 c0 c1 c2 c3 c4 c5) :
  w.cell? ⟨g,0,none⟩=some c0∧w.cell? ⟨g,1,none⟩=some c1∧w.cell? ⟨g,2,none⟩=some c2∧w.cell? ⟨g,3,none⟩=some c3∧w.cell? ⟨g,4,none⟩=some c4∧w.cell? ⟨g,5,none⟩=some c5:=⟨h.x0,h.x1,h.x2,h.x3,h.x4,h.x5⟩
theorem cN.get {w:World}{nd:Nd}{v:Value}(h:cN w nd v):∃av a c,v=.agg #[.int .i64 nd.kind,.int .i64 nd.space,.string nd.name,av,.string nd.text,.slice a nd.kids.length c]∧dL w av nd.attrs∧dJ w a 0 nd.kids∧nd.kids.length≤140737488355328:=by
 cases nd with
 | mk kd sp nm at' tx ks =>
  unfold cN at h;obtain⟨av,a,c,e,hl,hA,hK⟩:=h;exact⟨av,a,c,e,hA,hK,hl⟩
theorem cN.cells {w:World}{n:Nd}{c0 c1 c2 c3 c4 c5:Value}(h:cN w n (.agg #[c0,c1,c2,c3,c4,c5])) :
  ∃a b a' b',c0=.int .i64 n.kind∧c1=.int .i64 n.space∧c2=.string n.name∧c3=.slice a n.attrs.length b∧c4=.string n.text∧c5=.slice a' n.kids.length b':=by
 cases n with
 | mk kd sp nm at' tx ks =>
  unfold cN at h;obtain⟨av,a',b',e,_,⟨a,b,rfl,_⟩,_⟩:=h;simp only[Value.agg.injEq,Array.mk.injEq,List.cons.injEq,and_true]at e;obtain⟨rfl,rfl,rfl,rfl,rfl,rfl⟩:=e;exact⟨a,b,a',b',rfl,rfl,rfl,rfl,rfl,rfl⟩
mutual
def iZ:Nat→Nd→Int→Int
 | 0,_,_=>-1
 | d+1,.mk _ _ _ _ _ ks,left=>mP d ks (left-1)
def mP:Nat→List Nd→Int→Int
 | _,[],left=>left
 | d,k :: ks,left=>if left<0 then left else mP d ks (iZ d k left)
end
theorem aHm:∀(m:Nat),(∀(n:Nd) (d:Nat) (l:Int),n.sz≤m→0≤l→l≤1000→-1≤iZ d n l∧iZ d n l≤1000)∧(∀(ks:List Nd) (d:Nat) (l:Int),mK ks≤m→-1≤l→l≤1000→-1≤mP d ks l∧mP d ks l≤1000):=by
 intro m;induction m with
 | zero =>
  refine⟨fun n _ _ hn=>absurd (vA n) (by omega),fun ks=>?_⟩;cases ks with
  | nil=>intro d l _ h1 h2;unfold mP;exact⟨h1,h2⟩
  | cons k ks=>intro d l hs;unfold mK at hs;exact absurd (vA k) (by omega)
 | succ m ih =>
  have hN:∀(n:Nd) (d:Nat) (l:Int),n.sz≤m+1→0≤l→l≤1000→-1≤iZ d n l∧iZ d n l≤1000:=by
   intro n d l hs h0 h1;cases n with
   | mk kd sp nm at' tx ks =>
    unfold Nd.sz at hs;cases d with
    | zero=>unfold iZ;omega
    | succ d=>unfold iZ;exact ih.2 ks d (l-1) (by omega) (by omega) (by omega)
  refine⟨hN,fun ks=>?_⟩;induction ks with
  | nil=>intro d l _ h1 h2;unfold mP;exact⟨h1,h2⟩
  | cons k ks ihk =>
   intro d l hs h1 h2;unfold mK at hs;unfold mP;split
   ·omega
   ·have:=hN k d l (by omega) (by omega) h2;exact ihk d _ (by omega) this.1 this.2
def aCu (ks:List Nd)(d k:Nat)(left r:Int)(w wx:World):Prop :=
 k≤ks.length∧-1≤left∧left≤1000∧mP d (ks.drop k) left=r∧Below w.heap.size w wx
theorem aLs:∀(m:Nat) (n:Nd),n.sz≤m→∀(v:Value) (d:Nat) (D:Int) (left r:Int) (w:World),Hid (D=(d:Nat))→d≤1000→0≤left→left≤1000→Hid (cN w n v)→Hid (iZ d n left=r) →
  Calls Tryz.prog 89 #[v,.int .i64 left,.int .i64 D] w fun e w'=>e=.returned (.int .i64 r)∧Below w.heap.size w w':=by
 intro m;induction m with
 | zero=>intro n hn;exact absurd (vA n) (by omega)
 | succ m ih =>
  intro n hn v d D left r w hD hd h0 h1 hV hr;have hv:=hV.out;cases n with
  | mk kd sp nm at' tx ks =>
  unfold cN at hv;obtain⟨av,a,c,rfl,hlen,hA,hK⟩:=hv;have HK:=hid hK;have HIH:=hid ih;have HN:=hid hn;clear hA hK ih hn hV;cases d with
  | zero =>
   have hr2:-1=r:=by have:=hr.out;unfold iZ at this;exact this
   have HR:=hid hr2;clear hr2 hr;obtain rfl:D=0:=hD.out;go_enter Tryz.func89,Tryz.ntmps89
   go_wp2
   go_ret;refine⟨?_,(Below.refl _ w).alloc mA _⟩;rw[←HR.out];rfl
  | succ d =>
   have hr2:mP d ks (left-1)=r:=by have:=hr.out;unfold iZ at this;exact this
   have HR:Hid (aCu ks d 0 (left-1) r w (w.alloc (.cells #[.int .i64 kd,.int .i64 sp,.string nm,av,.string tx,.slice a ks.length c] 45))):=⟨Nat.zero_le _,by omega,by omega,hr2,(Below.refl _ w).alloc mA _⟩
   clear hr2 hr;have hDb:D=(d:Int)+1:=by rw[hD.out];omega
   have hq0:(D==0)=false:=by rw[beq_eq_false_iff_ne];omega
   have hD1:1≤D:=by omega
   have hD2:D≤1001:=by omega
   have HDD:Hid (D-1=(d:Nat)):=by show _=_;omega
   clear hDb;go_enter Tryz.func89,Tryz.ntmps89
   go_wp2
   go_loopw [1,16] (fun l i wx=>∃(k:Nat) (L:Int),i=.int .i64 k∧l=.int .i64 L∧Hid (aCu ks d k L r w wx)) (fun _ i _=>ks.length-(intOf i).toNat)
   case atStart=>exact⟨0,left-1,rfl,rfl,HR⟩
   case round =>
    obtain⟨k,L,rfl,rfl,hR⟩:=hrel;have hk:=hR.out.1;have hL0:=hR.out.2.1;have hL1:=hR.out.2.2.1;rcases Nat.lt_or_ge k ks.length with hlt|hge
    ·obtain⟨g,off,c0,c1,c2,c3,c4,c5,rfl,h6,hn⟩:=HK.out.get ks 0 k hlt;rw[Nat.zero_add]at h6
     have h6':=h6.below hR.out.2.2.2.2 mA;obtain⟨x0,x1,x2,x3,x4,x5⟩:=h6';have hst:mP d (ks.drop k) L=if L<0 then L else mP d (ks.drop (k+1)) (iZ d ks[k] L):=by
      rw[List.drop_eq_getElem_cons hlt];conv=>lhs;unfold mP
     have HST:=hid hst;obtain⟨a1,b1,a2,b2,rfl,rfl,rfl,rfl,rfl,rfl⟩:=hn.cells;have HND:=hid (hn.below hR.out.2.2.2.2 mA);clear hst hn h6;have HSZ:=hid (aNK ks k hlt);have HNN:=HN.out;unfold Nd.sz at HNN;have hm:(ks[k]).sz≤m:=by have:=HSZ.out;omega
     have HM:=hid hm;clear hm HNN;generalize ks[k]=q at *
     rcases Int.lt_or_le L 0 with hneg|hpos
     ·have hrL:L=r:=by
       have:=hR.out.2.2.2.1;rw[HST.out,if_pos hneg]at this
       exact this
      have HRL:=hid hrL;clear hrL;go_wp2
      go_ret;refine⟨?_,hR.out.2.2.2.2.trans (((Below.refl _ wr).alloc mA _).mono hR.out.2.2.2.2.size)⟩;rw[HRL.out];rfl
     ·have hB2:Below w.heap.size w (wr.alloc (.cells #[.int .i64 q.kind,.int .i64 q.space,.string q.name,.slice a1 q.attrs.length b1,.string q.text,.slice a2 q.kids.length b2] 45)):=hR.out.2.2.2.2.trans (((Below.refl _ wr).alloc mA _).mono hR.out.2.2.2.2.size);have HB2:=hid hB2;have HND2:=hid (HND.out.below ((Below.refl wr.heap.size wr).alloc mA (.cells #[.int .i64 q.kind,.int .i64 q.space,.string q.name,.slice a1 q.attrs.length b1,.string q.text,.slice a2 q.kids.length b2] 45)) mA);clear hB2;go_wp2_with fail
      refine(HIH.out q HM.out _ d (D-1) L (iZ d q L) _ HDD (by omega) hpos hL1 HND2 (hid rfl)).mono ?_;rintro e W2 ⟨rfl,B2⟩;have HN2:Hid (aCu ks d (k+1) (iZ d q L) r w W2):=by
       have hrg:=(aHm q.sz).1 q d L mA hpos hL1;refine⟨hlt,hrg.1,hrg.2,?_,HB2.out.trans (B2.mono HB2.out.size)⟩;have:=hR.out.2.2.2.1;rw[HST.out,if_neg (by omega)]at this
       exact this
      clear B2;go_wp2
      go_roundw
      case rel=>exact⟨k+1,iZ d q L,by go_num,rfl,HN2⟩
      case measure=>simp[intOf];omega
    ·have hrL:L=r:=by
      have:=hR.out.2.2.2.1;rw[List.drop_eq_nil_of_le (by omega)]at this
      unfold mP at this;exact this
     have HRL:=hid hrL;clear hrL;go_wp2
     go_ret;refine⟨?_,hR.out.2.2.2.2⟩;rw[HRL.out];rfl
open Go.RowKit
def iE (x:AT):List Value:=[.string x.1,.string x.2]
def bD (l:List AT):List Value:=l.flatMap iE
theorem cS (l:List AT):(bD l).length=l.length*2:=by
 induction l with
 | nil=>rfl
 | cons x l ih=>unfold bD at *;rw[List.flatMap_cons,List.length_append,ih];simp[iE];omega
theorem pD:∀(l:List AT) (j:Nat) (h:j<l.length),(bD l)[j*2]?=some (.string (l[j]).1)∧(bD l)[j*2+1]?=some (.string (l[j]).2):=by
 intro l;induction l with
 | nil=>intro j h;simp at h
 | cons x l ih =>
  intro j h;cases j with
  | zero=>exact⟨rfl,rfl⟩
  | succ j =>
   have:=ih j (by simpa using h);rw[show(j+1)*2=j*2+2 by omega,show j*2+2+1=(j*2+1)+2 by omega];unfold bD at *
   rw[List.flatMap_cons];exact this
theorem pX (a b:List AT):bD (a++b)=bD a++bD b:=by unfold bD;rw[List.flatMap_append]
theorem aM.attrs {B:Nat}{v:Value}{l:List AT}{W0 w:World}(h:aM B 39 2 v l.length (bD l) W0 w):dL w v l:=by
 obtain⟨a,c,e,hc⟩:=h.vec;refine⟨a,c,e,fun j hj=>?_⟩;obtain⟨h1,h2⟩:=pD l j hj;obtain⟨g,off,ha,k1⟩:=hc _ _ h1;obtain⟨g',off',ha',k2⟩:=hc _ _ h2;rw[ha]at ha'
 cases ha';exact⟨g,off,ha,k1,by rw[Nat.add_assoc];exact k2⟩
theorem dL.get {w:World}{v:Value}{l:List AT}(h:dL w v l)(j:Nat)(hj:j<l.length):∃g off c,v=.slice (some ⟨g,off,none⟩) l.length c∧w.cell? ⟨g,off+j*2,none⟩=some (.string (l[j]).1)∧w.cell? ⟨g,off+j*2+1,none⟩=some (.string (l[j]).2):=by
 obtain⟨a,c,e,hc⟩:=h;obtain⟨g,off,ha,h1,h2⟩:=hc j hj;exact⟨g,off,c,by rw[e,ha],h1,h2⟩
def yL (s:ByteArray):Value:=.string s
theorem uA (v:Value)(zs:List ByteArray)(x:ByteArray)(w:World)(hn:zs.length≤1000000000)(hV:pQ w v zs.length (zs.map yL))(b:Bool)(hb:Lib.containsS zs x=b) :
  Calls Tryz.prog 85 #[v,.string x] w fun e w'=>e=.returned (.bool b)∧w=w':=by
 obtain⟨a,c,rfl,hc⟩:=hV;cases zs with
 | nil =>
  refine(Tryz.slices_Contains_string_empty a c x w).mono ?_;rintro e w' ⟨rfl,rfl⟩;exact⟨by rw[←hb];rfl,rfl⟩
 | cons z zs =>
  obtain⟨g,off,rfl,_⟩:=hc 0 (yL z) (by simp);refine(Tryz.slices_Contains_string g off (z :: zs).length c (z :: zs) x w mA (by omega) ?_).mono ?_
  ·intro j hj;obtain⟨g',off',hg,hcell⟩:=hc j (yL ((z :: zs)[j])) (by rw[List.getElem?_map,List.getElem?_eq_getElem hj];rfl);cases hg;rw[hcell];simp[yL,List.getD_eq_getElem?_getD,List.getElem?_eq_getElem hj]
  ·rintro e w' ⟨rfl,rfl⟩;exact⟨by rw[List.take_length,←hb],rfl⟩
theorem Tryz.info39:(Tryz.prog.info? 39).map (fun i=>(i.zero,i.size,i.bytes))=some (some (.agg #[.string ⟨#[]⟩,.string ⟨#[]⟩]),2,32):=by kernel_rfl
open Go.RowKit
theorem aAB (a b:Value)(l:List AT)(hl:l.length≤1000000000)(w:World)(hA:Hid (dL w a l))(hB:Hid (dL w b l)) :
  Calls Tryz.prog 39 #[a,b] w fun e w'=>e=.returned (.bool true)∧Below w.heap.size w w':=by
 obtain⟨aa,ca,rfl,_⟩:=hA.out;obtain⟨ab,cb,rfl,_⟩:=hB.out;go_enter Tryz.func39,Tryz.ntmps39
 go_wp2
 go_loopw [4,5] (fun r i wx=>r=.bool false∧∃k:Nat,i=.int .i64 k∧Hid (k≤l.length∧Below w.heap.size w wx)) (fun _ i _=>l.length-(intOf i).toNat)
 case atStart=>exact⟨rfl,0,rfl,hid ⟨Nat.zero_le _,Below.refl _ _⟩⟩
 case round =>
  obtain⟨rfl,k,rfl,hK⟩:=hrel;have hk:=hK.out.1;rcases Nat.lt_or_ge k l.length with hlt|hge
  ·obtain⟨g1,o1,c1,hv1,a1,a2⟩:=(hA.out.below hK.out.2 mA).get k hlt;obtain⟨g2,o2,c2,hv2,b1,b2⟩:=(hB.out.below hK.out.2 mA).get k hlt;simp only[Value.slice.injEq,true_and]at hv1 hv2;obtain⟨rfl,rfl⟩:=hv1;obtain⟨rfl,rfl⟩:=hv2;generalize l[k]=q at *
   obtain⟨qn,qv⟩:=q;simp only at a1 a2 b1 b2;have e1:(qn.toList==qn.toList)=true:=by simp
   have e2:(qv.toList==qv.toList)=true:=by simp
   go_wp2_with fail
   go_quiet (fail)
   go_wp2
   refine⟨⟨rfl,k+1,by congr 1,hid ⟨hlt,⟨hK.out.2.os,hK.out.2.tape,hK.out.2.output,hK.out.2.size,hK.out.2.block⟩⟩⟩,?_⟩;simp[intOf];omega
  ·go_wp2
   go_ret;exact⟨rfl,hK.out.2⟩
end Go.Proofs.YtcfgbdhpcboikaaGreatDoor
