/-
What is let through is of a size that the walks bear.
-/
import Derived.Test.YtcfgbdhpcboikaaGreatDoorSieveM
import Derived.Test.YtcfgbdhpcboikaaGreatDoorSieveD
namespace Go.Proofs.YtcfgbdhpcboikaaGreatDoor
open Go.Lib (hid)
set_option maxHeartbeats 4000000
set_option maxRecDepth 100000
open Go.RowKit
theorem cS {n:Nat}:n≤n:=Nat.le_refl n
theorem qU {a w v:World}(h:Go.RowKit.Hid (Go.RowKit.Below a.heap.size a w))(b:Go.RowKit.Below w.heap.size w v):Go.RowKit.Hid (Go.RowKit.Below a.heap.size a v):=hid (h.out.trans (b.mono h.out.size))
theorem aEH:∀a b:List Nd,SmK (a++b)↔SmK a∧SmK b:=by
  intro a;induction a with
  | nil=>intro b;rw[List.nil_append];exact⟨fun h=>⟨lD,h⟩,fun h=>h.2⟩
  | cons x a ih=>intro b;rw[List.cons_append,iD,iD,ih];exact and_assoc.symm
theorem aMF {t:ByteArray}(h:t.size≤100000000):SmN (aL t) :=
  (xH _).2 ⟨by show(⟨#[]⟩:ByteArray).size≤_;decide,h,by simp[aL,Nd.attrs],fun x hx=>by simp[aL,Nd.attrs]at hx,lD⟩
theorem aFv (A:eF)(pn:ByteArray)(ph:List ByteArray){l:List Nd}(hb:4*bI l≤100000000):(bM A pn ph l).length≤100000000:=by
  unfold bM;split
  · simp
  · have h1:=(zO A).2 l pn (uB pn ph) []
    have h2:=(tB (cB A pn (uB pn ph) [] l)).1;simp only[wtK]at h1;omega
theorem iA:aC []=0:=by unfold aC;rfl
theorem dX (n:Nd)(l:List Nd):aC (n :: l)=n.sz+aC l:=by conv=>lhs;unfold aC
theorem wE:∀a b:List Nd,aC (a++b)=aC a+aC b:=by
  intro a;induction a with
  | nil=>intro b;rw[List.nil_append,iA];omega
  | cons x a ih=>intro b;rw[List.cons_append,dX,dX,ih];omega
theorem aF0 (out:List Nd)(t:ByteArray):aC (fI out t)≤aC out+1:=by
  have hsA:=wE;have hone:∀x:Nd,aC [x]=x.sz:=fun x=>by
    conv=>lhs;unfold aC
    unfold aC;omega
  have htx:(aL t).sz=1:=by rw[cJ];show 1+aC []=1;unfold aC;rfl
  by_cases ho:out=[]
  · subst ho
    unfold fI;show aC ([]++[aL t])≤_;rw[hsA,hone,htx];exact Nat.le_refl _
  · obtain⟨ys,x,rfl⟩:=xI ho
    rw[qF];split
    · rw[hsA,hsA,hone,hone]
      have:(x.more t).sz=x.sz:=by rw[cJ,cJ];rfl
      omega
    · rw[hsA,hone,htx]
      exact Nat.le_refl _
theorem aJG (A:eF) :
    (∀(n:Nd) (pn:ByteArray) (ph:List ByteArray) (out:List Nd),aC (hJ A pn ph out n)≤aC out+n.sz) ∧
    (∀(l:List Nd) (pn:ByteArray) (ph:List ByteArray) (out:List Nd),aC (cB A pn ph out l)≤aC out+aC l):=by
  have hsA:=wE;have hone:∀x:Nd,aC [x]=x.sz:=fun x=>by
    conv=>lhs;unfold aC
    unfold aC;omega
  have hnil:aC []=0:=by unfold aC;rfl
  have hcons:∀(x:Nd) l,aC (x :: l)=x.sz+aC l:=fun x l=>by conv=>lhs;unfold aC
  refine oN (P:=fun n=>∀(pn:ByteArray) (ph:List ByteArray) (out:List Nd),aC (hJ A pn ph out n)≤aC out+n.sz)
    (Q:=fun l=>∀(pn:ByteArray) (ph:List ByteArray) (out:List Nd),aC (cB A pn ph out l)≤aC out+aC l) ?_ ?_ ?_
  · intro n ih pn ph out
    have hn:=cJ n;rw[rF];split
    · unfold pW
      split
      · omega
      · have:=aF0 out (cL n.text);omega
    · split
      · omega
      · split
        · rw[hsA,hone]
          have e:(Nd.mk 1 0 n.name (A n.name n.attrs) ⟨#[]⟩ (bM A n.name ph n.kids)).sz=1+aC (bM A n.name ph n.kids):=cJ _;have hf:aC (bM A n.name ph n.kids)≤aC n.kids:=by
            unfold bM;split
            · rw[hnil];exact Nat.zero_le _
            · have:=ih n.name (uB n.name ph) []
              omega
          omega
        · have:=ih pn ph out
          omega
  · intro pn ph out
    rw[lC];omega
  · intro n ns h1 h2 pn ph out
    rw[jM,hcons];have a1:=h1 pn ph out;have a2:=h2 pn ph (hJ A pn ph out n);omega
theorem aGU (A:eF)(pn:ByteArray)(ph:List ByteArray)(l:List Nd):aC (bM A pn ph l)≤aC l:=by
  unfold bM;split
  · have:aC []=0:=by unfold aC;rfl
    omega
  · have:=(aJG A).2 l pn (uB pn ph) []
    have h0:aC []=0:=by unfold aC;rfl
    omega
theorem aIe:∀a b:List Nd,bI (a++b)=bI a+bI b:=by
  intro a;induction a with
  | nil => intro b; have : bI [] = 0 := by unfold bI; rfl
           rw [List.nil_append]; omega
  | cons n a ih=>intro b;rw[List.cons_append,cP,cP,ih];omega
theorem rJ (n:Nd):bI [n]=n.tk:=by
  rw[cP];have:bI []=0:=by unfold bI;rfl
  omega
theorem aMI (t:ByteArray):(aL t).tk=1+t.size:=by
  rw[fY];show 1+t.size+bI []=_;have:bI []=0:=by unfold bI;rfl
  omega
open Go.RowKit
theorem aAU:∀(l:List Nd) (k:Nat) (h:k<l.length),aC (l.take (k+1))=aC (l.take k)+l[k].sz:=by
  intro l;induction l with
  | nil=>intro k h;simp at h
  | cons n l ih =>
    intro k h;cases k with
    | zero=>rw[List.take_zero,iA,List.take_succ_cons,List.take_zero,dX,iA];simp
    | succ k =>
      have:=ih k (by simpa using h);rw[List.take_succ_cons,List.take_succ_cons,dX,dX,this,List.getElem_cons_succ];omega
theorem uI (l:List Nd)(k:Nat):aC (l.take k)≤aC l:=by
  have:=wE (l.take k) (l.drop k);rw[List.take_append_drop]at this
  omega
theorem tK:gG []=0:=by unfold gG;rfl
theorem qW (n:Nd)(l:List Nd):gG (n :: l)=max (gQ n) (gG l):=by conv=>lhs;unfold gG
theorem aET (n:Nd):gQ n=gG n.kids+1:=by
  cases n;conv=>lhs;unfold gQ
  rfl
theorem aGH:∀(l:List Nd) (k:Nat) (h:k<l.length),gG (l.take (k+1))=max (gG (l.take k)) (gQ l[k]):=by
  intro l;induction l with
  | nil=>intro k h;simp at h
  | cons n l ih =>
    intro k h;cases k with
    | zero=>rw[List.take_zero,tK,List.take_succ_cons,List.take_zero,qW,tK];simp
    | succ k =>
      have:=ih k (by simpa using h);rw[List.take_succ_cons,List.take_succ_cons,qW,qW,this,List.getElem_cons_succ];omega
theorem aDg:(∀n:Nd,gQ n≤n.sz)∧∀l:List Nd,gG l≤aC l:=by
  refine oN (P:=fun n=>gQ n≤n.sz) (Q:=fun l=>gG l≤aC l) ?_ ?_ ?_
  · intro n ih
    rw[aET,cJ];omega
  · rw[tK];exact Nat.zero_le _
  · intro n ns h1 h2
    rw[qW,dX];omega
theorem aGE:∀(m:Nat) (n:Nd),n.sz≤m→∀(v:Value) (w:World),n.sz≤1000000000→Hid (aG w n v) →
    Calls Tryz.prog 104 #[v] w fun e w'=>e=.returned (.int .i64 (n.sz:Nat))∧Below w.heap.size w w':=by
  intro m;induction m with
  | zero=>intro n hn;exact absurd (eD n) (by omega)
  | succ m ih =>
    intro n hn v w hb hV;obtain⟨av,a,c,rfl,hA,hK,hlen⟩:=hV.out.get;have HK:=hid hK;have HIH:=hid ih;have HSZ:=hid (cJ n);have HN:=hid hn;clear hA hK ih hn hV;generalize n.kids=ks at *
    generalize n.sz=nz at *
    have hz1:aC ks≤1000000000:=by have:=HSZ.out;omega
    have HZM:Hid (aC ks≤m):=by show _≤_;have:=HSZ.out;have:=HN.out;omega
    clear HN;go_enter Tryz.func104,Tryz.ntmps104
    go_wp2
    go_loopw [3,9] (fun s i wx=>∃k:Nat,i=.int .i64 k∧s=.int .i64 ((1+aC (ks.take k):Nat):Int)∧Hid (k≤ks.length∧Below w.heap.size w wx)) (fun _ i _=>ks.length-(intOf i).toNat)
    case atStart=>exact⟨0,rfl,by rw[List.take_zero,iA];rfl,hid ⟨Nat.zero_le _,(Below.refl _ w).alloc cS _⟩⟩
    case round =>
      obtain⟨k,rfl,rfl,hR⟩:=hrel;have hk:=hR.out.1;rcases Nat.lt_or_ge k ks.length with hlt|hge
      · obtain⟨g,off,c0,c1,c2,c3,c4,c5,rfl,h6,hn⟩:=HK.out.get ks 0 k hlt
        rw[Nat.zero_add]at h6
        obtain⟨x0,x1,x2,x3,x4,x5⟩:=h6.below hR.out.2 cS;obtain⟨a1,b1,a2,b2,rfl,rfl,rfl,rfl,rfl,rfl⟩:=hn.cells;have HND:=hid (hn.below hR.out.2 cS);have HST:=hid (aAU ks k hlt);have hpl:=uI ks (k+1);rw[HST.out]at hpl
        have hqm:ks[k].sz≤m:=by have:=HZM.out;omega
        clear hn h6;generalize ks[k]=q at *
        generalize hs0:aC (ks.take k)=s0 at *
        have hB2:Below wr.heap.size wr (wr.alloc (.cells #[.int .i64 q.kind,.int .i64 q.space,.string q.name,.slice a1 q.attrs.length b1,.string q.text,.slice a2 q.kids.length b2] 45)):=(Below.refl _ wr).alloc cS _;have HB2:=hid (hR.out.2.trans (hB2.mono hR.out.2.size));have HND2:=hid (HND.out.below hB2 cS);have HC:=hid (fun(v:Value) (W:World) (h:Hid (aG W q v))=>HIH.out q hqm v W (by omega) h);clear hB2 hqm;go_wp2_with fail
        refine(HC.out _ _ HND2).mono ?_;rintro e W2 ⟨rfl,B2⟩;have HB3:=qU HB2 B2;clear B2;go_wp2
        go_roundw
        case rel=>exact⟨k+1,by go_num,by rw[HST.out];go_num,hid ⟨hlt,HB3.out⟩⟩
        case measure=>simp[intOf];omega
      · have HT:=hid (show aC (ks.take k)=aC ks by rw[List.take_of_length_le hge])
        go_wp2
        go_ret;refine⟨?_,hR.out.2⟩;rw[HSZ.out,HT.out];rfl
theorem aGI:∀(m:Nat) (n:Nd),n.sz≤m→∀(v:Value) (w:World),n.sz≤1000000000→Hid (aG w n v) →
    Calls Tryz.prog 105 #[v] w fun e w'=>e=.returned (.int .i64 (gQ n:Nat))∧Below w.heap.size w w':=by
  intro m;induction m with
  | zero=>intro n hn;exact absurd (eD n) (by omega)
  | succ m ih =>
    intro n hn v w hb hV;obtain⟨av,a,c,rfl,hA,hK,hlen⟩:=hV.out.get;have HK:=hid hK;have HIH:=hid ih;have HSZ:=hid (cJ n);have HDP:=hid (aET n);have HN:=hid hn;clear hA hK ih hn hV;generalize n.kids=ks at *
    generalize n.sz=nz at *
    generalize gQ n=dz at *
    have hz1:aC ks≤1000000000:=by have:=HSZ.out;omega
    have HZM:Hid (aC ks≤m):=by show _≤_;have:=HSZ.out;have:=HN.out;omega
    clear HN;go_enter Tryz.func105,Tryz.ntmps105
    go_wp2
    go_loopw [3,9] (fun s i wx=>∃k:Nat,i=.int .i64 k∧s=.int .i64 ((gG (ks.take k):Nat):Int)∧Hid (k≤ks.length∧Below w.heap.size w wx)) (fun _ i _=>ks.length-(intOf i).toNat)
    case atStart=>exact⟨0,rfl,by rw[List.take_zero,tK];rfl,hid ⟨Nat.zero_le _,(Below.refl _ w).alloc cS _⟩⟩
    case round =>
      obtain⟨k,rfl,rfl,hR⟩:=hrel;have hk:=hR.out.1;rcases Nat.lt_or_ge k ks.length with hlt|hge
      · obtain⟨g,off,c0,c1,c2,c3,c4,c5,rfl,h6,hn⟩:=HK.out.get ks 0 k hlt
        rw[Nat.zero_add]at h6
        obtain⟨x0,x1,x2,x3,x4,x5⟩:=h6.below hR.out.2 cS;obtain⟨a1,b1,a2,b2,rfl,rfl,rfl,rfl,rfl,rfl⟩:=hn.cells;have HND:=hid (hn.below hR.out.2 cS);have HST:=hid (aGH ks k hlt);have hpl:=uI ks (k+1);rw[aAU ks k hlt]at hpl
        have hd1:gG (ks.take k)≤1000000000:=by have h1:=aDg.2 (ks.take k);have h2:=uI ks k;omega
        have hd2:gQ ks[k]≤1000000000:=by have h1:=aDg.1 ks[k];omega
        have hqm:ks[k].sz≤m:=by have:=HZM.out;omega
        clear hn h6;generalize ks[k]=q at *
        generalize hs0:gG (ks.take k)=s0 at *
        have hqz:q.sz≤1000000000:=by omega
        clear hpl;have hB2:Below wr.heap.size wr (wr.alloc (.cells #[.int .i64 q.kind,.int .i64 q.space,.string q.name,.slice a1 q.attrs.length b1,.string q.text,.slice a2 q.kids.length b2] 45)):=(Below.refl _ wr).alloc cS _;have HB2:=hid (hR.out.2.trans (hB2.mono hR.out.2.size));have HND2:=hid (HND.out.below hB2 cS);have HC:=hid (fun(v:Value) (W:World) (h:Hid (aG W q v))=>HIH.out q hqm v W hqz h);clear hB2 hqm hqz;generalize gQ q=dq at *
        go_wp2_with fail
        refine(HC.out _ _ HND2).mono ?_;rintro e W2 ⟨rfl,B2⟩;have HB3:=qU HB2 B2;clear B2;go_wp2
        go_roundw
        case rel=>exact⟨k+1,by go_num,by rw[HST.out];(first|go_num|simp[Int.max_def];omega),hid ⟨hlt,HB3.out⟩⟩
        case measure=>simp[intOf];omega
      · have HT:=hid (show gG (ks.take k)=gG ks by rw[List.take_of_length_le hge])
        have hd1:gG ks≤1000000000:=by have h1:=aDg.2 ks;omega
        rw[HT.out];go_wp2
        go_ret;refine⟨?_,hR.out.2⟩;rw[HDP.out];rfl
open Go.RowKit Go.Lib
theorem aIK (V:ByteArray→ByteArray→Option ByteArray)(l:List AT):∃r,jW V l r:=by
  have htot:∀a b:AT,(decide (gE a b≤0)||decide (gE b a≤0))=true:=fun a b=>by
    unfold gE;rw[nE a.1.data.toList b.1.data.toList];simp only[Bool.or_eq_true,decide_eq_true_eq];omega
  have htr:∀a b c:AT,decide (gE a b≤0)=true→decide (gE b c≤0)=true→decide (gE a c≤0)=true:=fun a b c h1 h2=>by
    simp only[decide_eq_true_eq]at *
    unfold gE at *
    rcases Int.lt_or_eq_of_le h1 with h1|h1
    · rcases Int.lt_or_eq_of_le h2 with h2|h2
      · have:=yM _ _ _ h1 h2;omega
      · rw[←wT _ _ h2];omega
    · rw[wT _ _ h1];exact h2
  have hp:=List.mergeSort_perm (dS V [] l) (fun a b=>decide (gE a b≤0));have hs:=List.pairwise_mergeSort (le:=fun a b=>decide (gE a b≤0)) htr htot (dS V [] l);refine⟨_,hp,?_⟩;have hn:=(hp.pairwise_iff (fun {x y} hxy e=>hxy e.symm)).2 (xO V l []);unfold rY;refine(hs.and hn).imp (fun {a b} h=>?_);have h1:gE a b≤0:=of_decide_eq_true h.1;rcases Int.lt_or_eq_of_le h1 with h2|h2
  · exact h2
  · exact absurd (gU (wT _ _ h2)) h.2
theorem aGt (w0:World)(T0:aB w0):∃(VV:fP) (A:eF),aIz VV∧AOk VV A∧mA A∧∀e n v t,VV e n v=some t→VV e n t=some t:=by
  have h:∀e:ByteArray,∃V:ByteArray→ByteArray→Option ByteArray,(e.size≤1000000000→aJ4 e V)∧∀n v t,V n v=some t→V n t=some t:=by
    intro e;by_cases he:e.size≤1000000000
    · obtain⟨V,hV⟩:=aNg w0 T0 e he
      exact⟨V,fun _=>hV,hV.again⟩
    · exact⟨fun _ _=>none,fun h=>absurd h he,fun n v t h=>by cases h⟩
  obtain⟨VV,hVV⟩:=Classical.axiomOfChoice h;have h2:∀x:ByteArray × List AT,∃r,jW (VV x.1) x.2 r:=fun x=>aIK _ _
  obtain⟨A,hA⟩:=Classical.axiomOfChoice h2;refine⟨VV,fun nm l=>A (nm,l),fun e n v he hn hv=>((hVV e).1 (by omega)).val n v hn hv,fun nm l=>hA (nm,l),fun nm at' v W hnm hal hat hT hv=>?_,fun e=>(hVV e).2⟩;have hp:=aAE nm (by omega) (VV nm) (hid (((hVV nm).1 (by omega)).val)) at' hal (hid hat) v W hT (hid hv);refine hp.mono ?_;rintro e W' ⟨u,r,rfl,hr,hO⟩;have hr2:r=A (nm,at'):=qG hr (hA (nm,at'));subst hr2;exact⟨u,rfl,hO⟩
open Go.RowKit
theorem aKr {VV:fP}{A:eF}(hA:AOk VV A)(e:ByteArray):A e []=[]:=by
  obtain⟨hp,_⟩:=hA e [];exact List.Perm.eq_nil (show(A e []).Perm []from hp)
theorem aAa {nm:ByteArray}{ks:List Nd}(hn:nm.size≤1048576)(h:SmK ks):SmN (elN nm ks) :=
  (xH _).2 ⟨hn,by show(⟨#[]⟩:ByteArray).size≤_;decide,by simp[elN,Nd.attrs],fun x hx=>by simp[elN,Nd.attrs]at hx,h⟩
theorem aAb (nm:ByteArray)(ks:List Nd):(elN nm ks).tk=1+bI ks:=by
  rw[fY];show 1+(⟨#[]⟩:ByteArray).size+bI ks=_;simp[ByteArray.size]
open Go.RowKit
def PSE (E:Nat→Prop)(W0 W:World)(v:Value)(n:Nat)(ks:List Nd):Prop:=∃xs,bC W0.heap.size 45 6 v n xs W0 W∧bU (fun g=>bN v g∧¬E g) W xs ks∧∀g,E g→bN v g
theorem PSE.one {W0 W:World}{n:Nd}{c0 c1 c2 c3 c4 c5:Value}(E:Nat→Prop)(hE:¬E W.heap.size)(hb:Below W0.heap.size W0 W)(hn:aY (fun g=>g<W.heap.size∧¬E g) W n (.agg #[c0,c1,c2,c3,c4,c5])) :
    PSE E W0 (W.alloc (.cells #[c0,c1,c2,c3,c4,c5] 45)) (.slice (some ⟨W.heap.size,0,none⟩) 1 1) 1 [n]:=by
  refine⟨[c0,c1,c2,c3,c4,c5],⟨⟨by simp,.inr ⟨W.heap.size,1,_,rfl,hb.size,heap_alloc_new W _,Nat.le_refl _,by decide,by simp,by simp⟩⟩,hb.alloc hb.size _,Nat.le_trans hb.size (by simp)⟩,?_,fun g hg e=>by
    have h:W.heap.size=g:=Option.some.inj e;exact hE (h▸hg)⟩
  have hB:=(Below.refl W.heap.size W).alloc cS (.cells #[c0,c1,c2,c3,c4,c5] 45);have h:=(bU.nil (fun g=>bN (.slice (some ⟨W.heap.size,0,none⟩) 1 1) g∧¬E g) (W.alloc (.cells #[c0,c1,c2,c3,c4,c5] 45))).snoc (x:=n) (c0:=c0) (c1:=c1) (c2:=c2) (c3:=c3) (c4:=c4) (c5:=c5)
    (aY.keep hn (fun g hg hd=>⟨hB.block g hg,fun e=>by have:W.heap.size=g:=Option.some.inj e;omega,hd.2⟩))
  exact h
theorem PSE.keep {E:Nat→Prop}{W0 W W':World}{v:Value}{n:Nat}{ks:List Nd}(h:PSE E W0 W v n ks)(hb:Below W.heap.size W W'):PSE E W0 W' v n ks:=by
  obtain⟨xs,hO,hc,hE⟩:=h;exact⟨xs,hO.keep hb,hc.keep (fun g hg hd=>⟨hb.block g hg,hd⟩),hE⟩
theorem PSE.bel {E:Nat→Prop}{W0 W:World}{v:Value}{n:Nat}{ks:List Nd}(h:PSE E W0 W v n ks):Below W0.heap.size W0 W:=by
  obtain⟨xs,hO,_⟩:=h;exact hO.bel
theorem PSE.slice {E:Nat→Prop}{W0 W:World}{v:Value}{n:Nat}{ks:List Nd}(h:PSE E W0 W v n ks)(hn:0<n):∃a c,v=.slice a n c∧aD (fun g=>¬E g) W a 0 ks:=by
  obtain⟨xs,hO,hc,hE⟩:=h;obtain⟨g,c,rfl,_,_,_⟩:=hO.atRow hn;exact⟨_,c,rfl,nG hO.vec hc (fun g hg=>hg.2) (fun y hy=>by
    cases hy;intro e;exact hE g e rfl)⟩
theorem PSE.kidsD {E:Nat→Prop}{W0 W:World}{a:Option Addr}{n c:Nat}{ks:List Nd}(h:PSE E W0 W (.slice a n c) n ks)(hn:0<n):aD (fun g=>¬E g) W a 0 ks:=by
  obtain⟨a',c',e,hk⟩:=h.slice hn;simp only[Value.slice.injEq]at e;rw[e.1];exact hk
section
variable {w:World} {ops:Array Oper} {rest:List Oper} {o:Oper} {a:Act} {Q:Exit→Act→World→Prop}
theorem nC (hgd:o.guard=none)(s x:Operand)
    (ho:o.op=.call { callee:=.builtin .append,args:=#[s,x],argTypes:=#[43,43] })
    {E:Nat→Prop} (hEw:∀g,E g→g<w.heap.size) {W0:World} (v:Value) (n:Nat) (ks:List Nd) (hs:a.eval s=v) (hP:Hid (PSE E W0 w v n ks))
    (xo:Option Addr) (m c:Nat) (js:List Nd) (hx:a.eval x=.slice xo m c) (hm:Hid (js.length=m)) (hS:Hid (aD (fun g=>bN v g∧¬E g) w xo 0 js)) (hb:n+m≤1000000000)
    (h:∀v' w',Hid (PSE E W0 w' v' (n+m) (ks++js))→Hid (∀g,E g→w'.heap[g]?=w.heap[g]?)→wpList Tryz.prog ops Q rest (a.put o.dst v') w'):wpList Tryz.prog ops Q (o :: rest) a w:=by
  obtain⟨i45,hi45,hz45,hs45,hb45⟩:=info_parts Tryz.info45;obtain⟨xs,hO,hc,hE⟩:=hP.out;obtain⟨ys,hys,hyc⟩:=oW hS.out.kids;have hcd:=vC hys hyc hS.out;have hml:=hm.out;refine lJ hgd s x 43 ho 45 i45 _ 6 96 Tryz.underlying43 hi45 hz45 hs45 hb45 rfl (by decide) v n xs hs hO xo m c ys hx (by rw[hys.1,hml]) hyc hys.one (by omega) (by omega) (fun v' w' hO' hG=>?_);have hloc:∀g,g<w.heap.size→bN v g→bN v' g:=fun g hg hd e=>by
    rcases hG.out.loc with h1|⟨k,hk,hle⟩
    · exact hd (by rw[←h1];exact e)
    · rw[hk]at e
      have:k=g:=Option.some.inj e;omega
  refine h v' w' ⟨xs++ys,hO'.out,?_,fun g hg=>hloc g (hEw g hg) (hE g hg)⟩ (fun g hg=>hG.out.gr.block g (hEw g hg) (fun e=>hE g hg e.symm));exact(hc.append hcd).keep (fun g hg hd=>⟨hG.out.gr.block g hg (fun e=>hd.1 e.symm),hloc g hg hd.1,hd.2⟩)
end
theorem kJ {D:Nat→Prop}{W:World}{g ch cr:Nat}{ah ar:Option Addr}{hd R:List Nd}(hg:D g)(hl1:hd.length≤140737488355328)(hl2:R.length≤140737488355328)
    (h:Six W g 0 (.int .i64 1) (.int .i64 0) (.string ⟨#[104,101,97,100]⟩) (.slice none 0 0) (.string ⟨#[]⟩) (.slice ah hd.length ch))
    (h':Six W g 6 (.int .i64 1) (.int .i64 0) (.string ⟨#[98,111,100,121]⟩) (.slice none 0 0) (.string ⟨#[]⟩) (.slice ar R.length cr))
    (hh:aD D W ah 0 hd) (hr:aD D W ar 0 R):aD D W (some ⟨g,0,none⟩) 0 [elN dD hd,elN bT R]:=by
  unfold aD;refine⟨⟨g,0,_,_,_,_,_,_,rfl,hg,h,?_⟩,?_⟩
  · unfold elN aY
    exact⟨none,0,ah,ch,rfl,hl1,fun j hj=>absurd hj (by simp),hh⟩
  · unfold aD
    refine⟨⟨g,0,_,_,_,_,_,_,rfl,hg,h',?_⟩,by unfold aD;trivial⟩;unfold elN aY;exact⟨none,0,ar,cr,rfl,hl2,fun j hj=>absurd hj (by simp),hr⟩
theorem aAW {B:Nat}{W:World}{g g':Nat}{t:ByteArray}(hg:B≤g)(hg':B≤g')
    (h:Six W g 0 (.int .i64 1) (.int .i64 0) (.string ⟨#[116,105,116,108,101]⟩) (.slice none 0 0) (.string ⟨#[]⟩) (.slice (some ⟨g',0,none⟩) 1 1))
    (h':Six W g' 0 (.int .i64 2) (.int .i64 0) (.string ⟨#[]⟩) (.slice none 0 0) (.string t) (.slice none 0 0)):aD (fun k=>B≤k) W (some ⟨g,0,none⟩) 0 [elN aX [aL t]]:=by
  unfold aD;refine⟨⟨g,0,_,_,_,_,_,_,rfl,hg,h,?_⟩,by unfold aD;trivial⟩;unfold elN aY;refine⟨none,0,some ⟨g',0,none⟩,1,rfl,by simp,fun j hj=>absurd hj (by simp),?_⟩;unfold aD;refine⟨⟨g',0,_,_,_,_,_,_,rfl,hg',h',?_⟩,by unfold aD;trivial⟩;unfold aL aY;exact⟨none,0,none,0,rfl,by simp,fun j hj=>absurd hj (by simp),by unfold aD;trivial⟩
theorem pD (n:Nd)(l:List Nd):cF (n :: l)=(if oM bT n then n.kids else [])++cF l:=by conv=>lhs;unfold cF
theorem aBG:∀a b:List Nd,cF (a++b)=cF a++cF b:=by
  intro a;induction a with
  | nil=>intro b;rfl
  | cons n a ih=>intro b;rw[List.cons_append,pD,pD,ih,List.append_assoc]
theorem aFl (l:List Nd)(k:Nat)(h:k<l.length):cF (l.take (k+1))=cF (l.take k)++(if oM bT l[k]then l[k].kids else []):=by
  rw[List.take_succ_eq_append_getElem h,aBG];congr 1;unfold cF cF;rw[List.append_nil]
theorem aKt:∀l:List Nd,SmK l→SmK (cF l)∧bI (cF l)≤bI l:=by
  intro l;induction l with
  | nil=>intro _;exact⟨lD,Nat.le_refl _⟩
  | cons n l ih =>
    intro h;rw[iD]at h
    obtain⟨h1,h2⟩:=ih h.2;have hn:=(xH n).1 h.1;have ht:=fY n;rw[pD,aEH,aIe,cP];split
    · exact⟨⟨hn.2.2.2.2,h1⟩,by omega⟩
    · have h0:bI []=0:=by unfold bI;rfl
      exact⟨⟨lD,h1⟩,by omega⟩
theorem aC9 (l:List Nd)(k:Nat):(cF (l.take k)).length≤bI l:=by
  have hle:∀l:List Nd,(cF l).length≤bI l:=by
    intro l;induction l with
    | nil=>exact Nat.zero_le _
    | cons n l ih =>
      have ht:=fY n;have h3:=(iV n.kids).2;have h4:=aCX.2 n.kids;rw[pD,cP,List.length_append];split
      · omega
      · simp only[List.length_nil];omega
  have h:=aBG (l.take k) (l.drop k);rw[List.take_append_drop]at h
  have h2:=hle l;rw[h,List.length_append]at h2
  omega
theorem aDp (W:World)(E:Nat→Prop)(h1:¬E (W.heap.size+1))(h2:¬E (W.heap.size+1+1)):PSE E W (((W.alloc (.cells #[.int .i64 1,.int .i64 0,.string ⟨#[109,101,116,97]⟩,.slice (some ⟨W.heap.size+1,0,none⟩) 1 1,.string ⟨#[]⟩,.slice none 0 0] 45)).alloc (.cells #[.string ⟨#[99,104,97,114,115,101,116]⟩,.string ⟨#[117,116,102,45,56]⟩] 39)).alloc (.cells #[.int .i64 1,.int .i64 0,.string ⟨#[109,101,116,97]⟩,.slice (some ⟨W.heap.size+1,0,none⟩) 1 1,.string ⟨#[]⟩,.slice none 0 0] 45)) (.slice (some ⟨W.heap.size+1+1,0,none⟩) 1 1) 1 [eC]:=by
  obtain⟨Wa,hWa⟩:∃Wa,Wa=W.alloc (.cells #[.int .i64 1,.int .i64 0,.string ⟨#[109,101,116,97]⟩,.slice (some ⟨W.heap.size+1,0,none⟩) 1 1,.string ⟨#[]⟩,.slice none 0 0] 45):=⟨_,rfl⟩
  have hsa:Wa.heap.size=W.heap.size+1:=by rw[hWa];simp
  obtain⟨W2,hW2⟩:∃W2,W2=Wa.alloc (.cells #[.string ⟨#[99,104,97,114,115,101,116]⟩,.string ⟨#[117,116,102,45,56]⟩] 39):=⟨_,rfl⟩
  have hb:Below W.heap.size W W2:=by rw[hW2,hWa];exact((Below.refl _ W).alloc cS _).alloc (by simp) _
  have hs:W2.heap.size=W.heap.size+1+1:=by rw[hW2,hWa];simp
  have hr:W2.heap[W.heap.size+1]?=some (.cells #[.string ⟨#[99,104,97,114,115,101,116]⟩,.string ⟨#[117,116,102,45,56]⟩] 39 (0,0)):=by rw[hW2,←hsa];exact heap_alloc_new Wa _
  have hn:aY (fun g=>g<W2.heap.size∧¬E g) W2 eC (.agg #[.int .i64 1,.int .i64 0,.string ⟨#[109,101,116,97]⟩,.slice (some ⟨W.heap.size+1,0,none⟩) 1 1,.string ⟨#[]⟩,.slice none 0 0]):=by
    unfold eC aY;refine⟨some ⟨W.heap.size+1,0,none⟩,1,none,0,rfl,by simp,?_,by unfold aD;trivial⟩;intro j hj;have:j=0:=by simp[gX]at hj;omega
    subst this;exact⟨W.heap.size+1,0,rfl,⟨by omega,h1⟩,cell_of_row _ _ 0 _ 39 (0,0) hr,cell_of_row _ _ 1 _ 39 (0,0) hr⟩
  have h:=PSE.one E (by rw[hs];exact h2) hb hn;rw[hs]at h
  rw[←hWa,←hW2];exact h
def aCY (w:World)(p:Nd)(e:Ending)(w':World):Prop :=
  ((1000<p.sz∧∃v,v=.agg #[.int .i64 0,.int .i64 0,.string ⟨#[]⟩,.slice none 0 0,.string ⟨#[]⟩,.slice none 0 0]∧e=.returned (.tuple #[v,.int .i64 43])) ∨
    (p.sz≤1000∧32<gQ p∧∃v,v=.agg #[.int .i64 0,.int .i64 0,.string ⟨#[]⟩,.slice none 0 0,.string ⟨#[]⟩,.slice none 0 0]∧e=.returned (.tuple #[v,.int .i64 44])) ∨
    (p.sz≤1000∧gQ p≤32∧∃v,e=.returned (.tuple #[v,.int .i64 0])∧aG w' p v))∧Below w.heap.size w w'
theorem wY (t:ByteArray)(h:t.size≤100000000):SmK (bG t).kids∧bI (bG t).kids≤3+t.size∧(bG t).kids.length≤2:=by
  have hm:SmN eC∧eC.tk=1:=⟨wS.1 _ (by decide +kernel),by decide +kernel⟩
  have h0:bI []=0:=by unfold bI;rfl
  unfold bG;split
  · refine⟨(iD _ _).2 ⟨hm.1,lD⟩,?_,by show 1≤2;omega⟩
    show bI [eC]≤_;rw[rJ,hm.2];omega
  · refine⟨(iD _ _).2 ⟨hm.1,(iD _ _).2 ⟨aAa (by decide) ((iD _ _).2 ⟨aMF h,lD⟩),lD⟩⟩,?_,by show 2≤2;omega⟩
    show bI [eC,elN aX [aL t]]≤_;rw[cP,rJ,hm.2,aAb,rJ,aMI];omega
open Go.RowKit
theorem dR (w:World):dZ w (.slice none 0 0) []:=⟨none,0,rfl,fun j h=>absurd h (by simp)⟩
theorem Tryz.struct45:(match Tryz.prog.underlying 45 with|some (.struct _)=>true|_=>false)=true:=by kernel_rfl
theorem vB {fn:Func}{p:Tmp}(h:fn.results=#[.cell p 45])(tmps:Array Value)(w:World)(g:Nat)(c0 c1 c2 c3 c4 c5:Value)
    (hp:tmps.getD p undef=.pointer (some ⟨g,0,none⟩)) (hg:w.heap[g]?=some (.cells #[c0,c1,c2,c3,c4,c5] 45 (0,0))) :
    (results fn tmps).run Tryz.prog w=.ok (.agg #[c0,c1,c2,c3,c4,c5]) w:=by
  have hs:=Tryz.struct45;obtain⟨i0,hi,hz0,hz1,hz2⟩:=info_parts Tryz.info45;split at hs
  · rename_i fs hu
    exact results_cell_row h tmps w g 45 _ (0,0) _ hp hg hu rfl (by rw[hi];simp[hz1])
  · exact absurd hs (by simp)
theorem pV (s:ByteArray)(w:World):Calls Tryz.prog 61 #[.string s] w fun e w' =>
    (∃v,e=.returned v∧v=.agg #[.int .i64 2,.int .i64 0,.string ⟨#[]⟩,.slice none 0 0,.string s,.slice none 0 0]∧aG w' (aL s) v)∧Below w.heap.size w w':=by
  go_enter Tryz.func61,Tryz.ntmps61
  go_wp2
  refine bodyPost_ret (vB rfl _ _ w.heap.size _ _ _ _ _ _ rfl (heap_alloc_new w _)) rfl ?_;refine⟨⟨_,rfl,rfl,?_⟩,(Below.refl _ w).alloc cS _⟩;unfold aL aG;exact⟨_,none,0,rfl,by simp,dR _,by unfold aI;trivial⟩
theorem gM (nm:ByteArray)(ks:List Nd)(a:Option Addr)(c:Nat)(w:World)(hl:ks.length≤1000000000)(HK:Hid (aI w a 0 ks)):Calls Tryz.prog 51 #[.string nm,.slice a ks.length c] w fun e w' =>
    (∃v,e=.returned v∧v=.agg #[.int .i64 1,.int .i64 0,.string nm,.slice none 0 0,.string ⟨#[]⟩,.slice a ks.length c]∧aG w' (elN nm ks) v)∧Below w.heap.size w w':=by
  go_enter Tryz.func51,Tryz.ntmps51
  go_wp2
  refine bodyPost_ret (vB rfl _ _ w.heap.size _ _ _ _ _ _ rfl (heap_alloc_new w _)) rfl ?_;have hb:=(Below.refl w.heap.size w).alloc cS (.cells #[.int .i64 1,.int .i64 0,.string nm,.slice none 0 0,.string ⟨#[]⟩,.slice a ks.length c] 45);refine⟨⟨_,rfl,rfl,?_⟩,hb⟩;unfold elN aG;exact⟨_,a,c,rfl,by omega,dR _,HK.out.below hb cS⟩
open Go.RowKit
theorem mS {fn:Func}{p q:Tmp}(h:fn.results=#[.cell p 45,.tmp q])(tmps:Array Value)(w:World)(g:Nat)(c0 c1 c2 c3 c4 c5 u:Value)
    (hp:tmps.getD p undef=.pointer (some ⟨g,0,none⟩)) (hq:tmps.getD q undef=u) (hg:w.heap[g]?=some (.cells #[c0,c1,c2,c3,c4,c5] 45 (0,0))) :
    (results fn tmps).run Tryz.prog w=.ok (.tuple #[.agg #[c0,c1,c2,c3,c4,c5],u]) w:=by
  have hs:=Tryz.struct45;obtain⟨i0,hi,hz0,hz1,hz2⟩:=info_parts Tryz.info45;have hp':tmps[p]?.getD undef=.pointer (some ⟨g,0,none⟩):=by simpa using hp
  have hq':tmps[q]?.getD undef=u:=by simpa using hq
  split at hs
  · rename_i fs hu
    simp[results,h,hp',hq',asAddr,run_loadVar_row w g 45 45 _ (0,0) _ hg hu rfl (by rw[hi];simp[hz1])]
  · exact absurd hs (by simp)
theorem gH (nm:ByteArray)(ks:List Nd)(a:Option Addr)(c:Nat)(w:World)(hl:ks.length≤1000000000)(HK:Hid (aI w a 0 ks)):Calls Tryz.prog 103 #[.string nm,.slice a ks.length c] w fun e w' =>
    (∃v,e=.returned v∧v=.agg #[.int .i64 1,.int .i64 0,.string nm,.slice none 0 0,.string ⟨#[]⟩,.slice a ks.length c]∧aG w' (elN nm ks) v)∧Below w.heap.size w w':=by
  go_enter Tryz.func103,Tryz.ntmps103
  go_wp2
  refine bodyPost_ret (vB rfl _ _ w.heap.size _ _ _ _ _ _ rfl (heap_alloc_new w _)) rfl ?_;have hb:=(Below.refl w.heap.size w).alloc cS (.cells #[.int .i64 1,.int .i64 0,.string nm,.slice none 0 0,.string ⟨#[]⟩,.slice a ks.length c] 45);refine⟨⟨_,rfl,rfl,?_⟩,hb⟩;unfold elN aG;exact⟨_,a,c,rfl,by omega,dR _,HK.out.below hb cS⟩
theorem aIt (w:World):aG w jB (.agg #[.int .i64 0,.int .i64 0,.string ⟨#[]⟩,.slice none 0 0,.string ⟨#[]⟩,.slice none 0 0]):=by
  unfold jB aG;exact⟨_,none,0,rfl,by simp,dR w,by unfold aI;trivial⟩
theorem aFw (nm:ByteArray)(l:List Nd)(k:Nat)(h:k<l.length):aW nm (l.drop k)=if oM nm l[k]then l[k]else aW nm (l.drop (k+1)):=by
  rw[List.drop_eq_getElem_cons h];conv=>lhs;unfold aW
theorem aBS (l:List Nd)(nm:ByteArray)(a:Option Addr)(c:Nat)(w:World)(hl:l.length≤140737488355328)(HK:Hid (aI w a 0 l)) :
    Calls Tryz.prog 109 #[.slice a l.length c,.string nm] w fun e w'=>(∃v b,e=.returned (.tuple #[v,.bool b])∧aG w' (aW nm l) v)∧Below w.heap.size w w':=by
  obtain⟨i45,hi45,hz45,hs45,hb45⟩:=info_parts Tryz.info45;go_enter Tryz.func109,Tryz.ntmps109
  go_wp2
  obtain⟨W1,hW1⟩:∃W1,W1=w.alloc (.cells #[.int .i64 0,.int .i64 0,.string ⟨#[]⟩,.slice none 0 0,.string ⟨#[]⟩,.slice none 0 0] 45):=⟨_,rfl⟩
  have HROW:=hid (show W1.heap[w.heap.size]?=some (.cells #[.int .i64 0,.int .i64 0,.string ⟨#[]⟩,.slice none 0 0,.string ⟨#[]⟩,.slice none 0 0] 45 (0,0)) by rw[hW1];exact heap_alloc_new w _);have HB1:=hid (show Below w.heap.size w W1 by rw[hW1];exact(Below.refl _ w).alloc cS _);have HLT:=hid (show w.heap.size<W1.heap.size by rw[hW1];simp);rw[←hW1];clear hW1;go_loopw [10] (fun i wx=>∃k:Nat,i=.int .i64 k∧Hid (k≤l.length∧aW nm (l.drop k)=aW nm l∧Below W1.heap.size W1 wx)) (fun i _=>l.length-(intOf i).toNat)
  case atStart=>exact⟨0,rfl,hid ⟨Nat.zero_le _,rfl,Below.refl _ _⟩⟩
  case round =>
    obtain⟨k,rfl,hR⟩:=hrel;have hk:=hR.out.1;have HBR:=hid (HB1.out.trans (hR.out.2.2.mono HB1.out.size));rcases Nat.lt_or_ge k l.length with hlt|hge
    · obtain⟨g,off,c0,c1,c2,c3,c4,c5,rfl,h6,hn⟩:=HK.out.get l 0 k hlt
      rw[Nat.zero_add]at h6
      obtain⟨x0,x1,x2,x3,x4,x5⟩:=h6.below HBR.out cS;obtain⟨a1,b1,a2,b2,rfl,rfl,rfl,rfl,rfl,rfl⟩:=hn.cells;have HN0:=hid hn;have HST:=hid (aFw nm l k hlt);clear hn h6;generalize l[k]=q at *
      obtain⟨V,hV⟩:∃V,V=wr.alloc (.cells #[.int .i64 q.kind,.int .i64 q.space,.string q.name,.slice a1 q.attrs.length b1,.string q.text,.slice a2 q.kids.length b2] 45):=⟨_,rfl⟩
      have hbV:Below wr.heap.size wr V:=by rw[hV];exact(Below.refl _ wr).alloc cS _
      have hQ:=aP wr (.int .i64 q.kind) (.int .i64 q.space) (.string q.name) (.slice a1 q.attrs.length b1) (.string q.text) (.slice a2 q.kids.length b2);rw[←hV]at hQ
      have HV:=hid hV;have HBV:=hid (hR.out.2.2.trans (hbV.mono hR.out.2.2.size));have HBW:=qU HBR hbV;have HRV:=hid ((HBV.out.block w.heap.size HLT.out).trans HROW.out);clear hbV hV;go_upto_region 4 with fail
      rw[←HV.out];clear x0 x1 x2 x3 x4 x5;obtain⟨x0,x1,x2,x3,x4,x5⟩:=hQ.zero;clear hQ HV;by_cases h1:q.kind=1
      · have e1:(q.kind==1)=true:=by rw[h1];rfl
        by_cases h2:q.space=0
        · have e2:(q.space==0)=true:=by rw[h2];rfl
          by_cases h3:q.name=nm
          · have e3:(q.name.toList==nm.toList)=true:=by rw[h3];simp
            have HF:=hid (show aW nm l=q by rw[←hR.out.2.1,HST.out,if_pos ⟨h1,h2,h3⟩]);clear h1 h2 h3;go_wp2_with (refine wpList_store_row (by rfl) 45 (.tmp 4) (.tmp 28) rfl w.heap.size #[.int .i64 q.kind,.int .i64 q.space,.string q.name,.slice a1 q.attrs.length b1,.string q.text,.slice a2 q.kids.length b2] rfl rfl 45 _ HRV.out (by rw[hi45];simp[hs45]) rfl (by simp[Value.oneCell']) ?_)
            refine bodyPost_ret (mS rfl _ _ w.heap.size _ _ _ _ _ _ (.bool true) rfl rfl (setRow_heap V w.heap.size _ _ 45 (0,0) HRV.out)) rfl ?_;rw[HF.out];exact⟨⟨_,_,rfl,HN0.out.below (cD HBW.out w.heap.size cS _) cS⟩,cD HBW.out w.heap.size cS _⟩
          · have e3:(q.name.toList==nm.toList)=false:=by rw[beq_eq_false_iff_ne];exact qI h3
            have HF:=hid (show aW nm (l.drop (k+1))=aW nm l by rw[←hR.out.2.1,HST.out,if_neg (fun h=>h3 h.2.2)]);clear h3;go_wp2
            go_roundw
            case rel=>exact⟨k+1,by go_num,hid ⟨hlt,HF.out,HBV.out⟩⟩
            case measure=>simp[intOf];omega
        · have e2:(q.space==0)=false:=by rw[beq_eq_false_iff_ne];exact h2
          have HF:=hid (show aW nm (l.drop (k+1))=aW nm l by rw[←hR.out.2.1,HST.out,if_neg (fun h=>h2 h.2.1)]);clear h2;go_wp2
          go_roundw
          case rel=>exact⟨k+1,by go_num,hid ⟨hlt,HF.out,HBV.out⟩⟩
          case measure=>simp[intOf];omega
      · have e1:(q.kind==1)=false:=by rw[beq_eq_false_iff_ne];exact h1
        have HF:=hid (show aW nm (l.drop (k+1))=aW nm l by rw[←hR.out.2.1,HST.out,if_neg (fun h=>h1 h.1)]);clear h1;go_wp2
        go_roundw
        case rel=>exact⟨k+1,by go_num,hid ⟨hlt,HF.out,HBV.out⟩⟩
        case measure=>simp[intOf];omega
    · have HF:=hid (show aW nm l=jB by rw[←hR.out.2.1,List.drop_eq_nil_of_le hge];unfold aW;rfl)
      have HRV:=hid ((hR.out.2.2.block w.heap.size HLT.out).trans HROW.out);go_wp2_with (refine wpList_store_row (by rfl) 45 (.tmp 4) (.tmp 30) rfl w.heap.size #[.int .i64 0,.int .i64 0,.string ⟨#[]⟩,.slice none 0 0,.string ⟨#[]⟩,.slice none 0 0] rfl rfl 45 _ HRV.out (by rw[hi45];simp[hs45]) rfl (by simp[Value.oneCell']) ?_)
      refine bodyPost_ret (mS rfl _ _ w.heap.size _ _ _ _ _ _ (.bool false) rfl rfl (setRow_heap wr w.heap.size _ _ 45 (0,0) HRV.out)) rfl ?_;rw[HF.out];exact⟨⟨_,_,rfl,aIt _⟩,cD HBR.out w.heap.size cS _⟩
theorem tN (nm:ByteArray)(l:List Nd):(aW nm l).tk≤1+bI l:=by
  induction l with
  | nil=>unfold aW;decide
  | cons n l ih =>
    unfold aW;rw[cP];split
    · omega
    · omega
theorem aBo (l:List Nd):(dV l).length≤bI l:=by
  induction l with
  | nil=>exact Nat.zero_le _
  | cons n l ih =>
    unfold dV;rw[cP,fY,List.length_append];split
    · have e:n.text.data.toList.length=n.text.size:=rfl
      omega
    · simp only[List.length_nil]
      omega
theorem aAt (n:Nd)(l:List Nd):dV (n :: l)=(if n.kind=2 then n.text.data.toList else [])++dV l:=by conv=>lhs;unfold dV
theorem aG6 (l:List Nd)(k:Nat)(h:k<l.length):dV (l.take (k+1))=dV (l.take k)++(if l[k].kind=2 then l[k].text.data.toList else []):=by
  have happ:∀a b:List Nd,dV (a++b)=dV a++dV b:=by
    intro a;induction a with
    | nil=>intro b;rfl
    | cons n a ih=>intro b;rw[List.cons_append,aAt,aAt,ih,List.append_assoc]
  rw[List.take_succ_eq_append_getElem h,happ];congr 1;unfold dV dV;rw[List.append_nil]
structure aFi (l:List Nd) (B k:Nat) (w wx:World) (o:List UInt8):Prop where
  le:k≤l.length
  bld:Lib.IsBuilderF 112 5 B B (Lib.byteCells o) wx
  bel:Below B w wx
  out:o=dV (l.take k)
theorem aIc (n:Nd)(v:Value)(w:World)(hb:n.tk≤300000000)(HT:Hid (aB w))(HN:Hid (aG w n v)) :
    Calls Tryz.prog 58 #[v] w fun e w'=>e=.returned (.string (oS n))∧Below w.heap.size w w':=by
  obtain⟨av,a,c,rfl,hA,hK,hlen⟩:=HN.out.get;have HK:=hid hK;have HF1:=hid (fun(W:World) (h:Hid (aI W a 0 n.kids))=>aBS n.kids dD a c W hlen h);have HTN:Hid (oS n=cL ⟨(dV (aW aX (aW dD n.kids).kids).kids).toArray⟩):=rfl;have htk:bI (aW aX (aW dD n.kids).kids).kids≤300000000:=by
    have h0:=fY n;have h1:=tN dD n.kids;have h2:=fY (aW dD n.kids);have h3:=tN aX (aW dD n.kids).kids;have h4:=fY (aW aX (aW dD n.kids).kids);omega
  clear hA hK HN hb;generalize oS n=tit at *
  generalize n.kids=ks at *
  generalize n.kind=kd at *
  generalize n.space=sp at *
  generalize n.name=nm at *
  generalize n.text=tx at *
  unfold dD at HF1;go_enter Tryz.func58,Tryz.ntmps58
  go_wp2_with fail
  obtain⟨W0,hW0⟩:∃W0,W0=w.alloc (.cells #[.int .i64 kd,.int .i64 sp,.string nm,av,.string tx,.slice a ks.length c] 45):=⟨_,rfl⟩
  have hB0:Below w.heap.size w W0:=by rw[hW0];exact(Below.refl _ w).alloc cS _
  rw[←hW0];have HB0:=hid hB0;clear hW0 hB0;refine(HF1.out W0 (hid (HK.out.below HB0.out cS))).mono ?_;rintro e W1 ⟨⟨v1,b1,rfl,hv1⟩,B1⟩;obtain⟨av1,a1,c1,rfl,⟨aa1,ca1,rfl,_⟩,hK1,hlen1⟩:=hv1.get;have HB1:=qU HB0 B1;have HK1:=hid hK1;have HF2:=hid (fun(W:World) (h:Hid (aI W a1 0 (aW ⟨#[104,101,97,100]⟩ ks).kids))=>aBS (aW ⟨#[104,101,97,100]⟩ ks).kids aX a1 c1 W hlen1 h);unfold dD at HTN htk;unfold aX at HTN htk HF2;clear B1 hv1 hK1 hlen1 HF1 HK;generalize aW ⟨#[104,101,97,100]⟩ ks=hd at *
  go_wp2_with fail
  obtain⟨W2,hW2⟩:∃W2,W2=W1.alloc (.cells #[.int .i64 hd.kind,.int .i64 hd.space,.string hd.name,.slice aa1 hd.attrs.length ca1,.string hd.text,.slice a1 hd.kids.length c1] 45):=⟨_,rfl⟩
  have hB2:Below W1.heap.size W1 W2:=by rw[hW2];exact(Below.refl _ W1).alloc cS _
  rw[←hW2];have HC2:=hid hB2;have HB2:=qU HB1 hB2;clear hW2 hB2;refine(HF2.out W2 (hid (HK1.out.below HC2.out cS))).mono ?_;rintro e W3 ⟨⟨v3,b3,rfl,hv3⟩,B3⟩;obtain⟨av3,a3,c3,rfl,⟨aa3,ca3,rfl,_⟩,hK3,hlen3⟩:=hv3.get;have HB3:=qU HB2 B3;have HK3:=hid hK3;clear B3 hv3 hK3 HF2 HK1;generalize aW ⟨#[116,105,116,108,101]⟩ hd.kids=tn at *
  generalize tn.kids=l at *
  have HJ:=hid (aBo l);go_wp2_with fail
  obtain⟨W4,hW4⟩:∃W4,W4=W3.alloc (.cells #[.int .i64 tn.kind,.int .i64 tn.space,.string tn.name,.slice aa3 tn.attrs.length ca3,.string tn.text,.slice a3 l.length c3] 45):=⟨_,rfl⟩
  have hB4:Below W3.heap.size W3 W4:=by rw[hW4];exact(Below.refl _ W3).alloc cS _
  have hs4:W3.heap.size+1=W4.heap.size:=by rw[hW4];simp
  rw[←hW4,hs4];clear hs4;have HK4:=hid (HK3.out.below hB4 cS);have HB4:=qU HB3 hB4;clear hW4 hB4 HK3;go_loopw [25] (fun i wx=>∃k:Nat,i=.int .i64 k∧∃o,Hid (aFi l W4.heap.size k W4 wx o)) (fun i _=>l.length-(intOf i).toNat)
  case atStart =>
    refine⟨0,rfl,[],hid ⟨Nat.zero_le _,?_,(Below.refl _ W4).alloc cS _,rfl⟩⟩;exact .inl ⟨Nat.le_refl _,.slice none 0 0,heap_alloc_new W4 _,World.ownsRowF_nil _ _ _ _,by simp[Value.ownBlock]⟩
  case round =>
    obtain⟨k,rfl,o,hD⟩:=hrel;have hk:=hD.out.le;rcases Nat.lt_or_ge k l.length with hlt|hge
    · obtain⟨g,off,c0,c1,c2,c3,c4,c5,rfl,h6,hn⟩:=HK4.out.get l 0 k hlt
      rw[Nat.zero_add]at h6
      obtain⟨x0,x1,x2,x3,x4,x5⟩:=h6.below hD.out.bel cS;obtain⟨p1,q1,p2,q2,rfl,rfl,rfl,rfl,rfl,rfl⟩:=hn.cells;have HST:=hid (aG6 l k hlt);have hol:o.length+l[k].text.size≤300000000+300000000:=by
        have h1:=aBo (l.take k);have h2:bI (l.take k)≤bI l:=aF5 l k;have h3:=aIf l k hlt;have h4:=fY l[k];rw[hD.out.out];omega
      clear hn h6;generalize l[k]=q at *
      obtain⟨V,hV⟩:∃V,V=wr.alloc (.cells #[.int .i64 q.kind,.int .i64 q.space,.string q.name,.slice p1 q.attrs.length q1,.string q.text,.slice p2 q.kids.length q2] 45):=⟨_,rfl⟩
      have hbV:Below wr.heap.size wr V:=by rw[hV];exact(Below.refl _ wr).alloc cS _
      have hQ:=aP wr (.int .i64 q.kind) (.int .i64 q.space) (.string q.name) (.slice p1 q.attrs.length q1) (.string q.text) (.slice p2 q.kids.length q2);rw[←hV]at hQ
      have HBL:=hid (show Lib.IsBuilderF 112 5 W4.heap.size W4.heap.size (Lib.byteCells o) V by rw[hV];exact hD.out.bld.alloc _);have HV:=hid hV;have HBV:=hid (hD.out.bel.trans (hbV.mono hD.out.bel.size));clear hbV hV;go_upto_region 7 with fail
      rw[←HV.out];clear x0 x1 x2 x3 x4 x5;obtain⟨x0,x1,x2,x3,x4,x5⟩:=hQ.zero;clear hQ HV;by_cases h1:q.kind=2
      · have e1:(q.kind==2)=true:=by rw[h1];rfl
        have HST2:=hid (show o++q.text.data.toList=dV (l.take (k+1)) by rw[HST.out,if_pos h1,hD.out.out]);have HWS:=hid (Tryz.Builder_WriteString_k W4.heap.size W4.heap.size (Lib.byteCells o) q.text V HBL.out (by rw[jE];omega) HBV.out.size);clear h1;go_wp2_with fail
        refine HWS.out.mono ?_;rintro e W5 ⟨rfl,d1,d2,d3⟩;have HN5:=hid (show aFi l W4.heap.size (k+1) W4 W5 (o++q.text.data.toList)from⟨hlt,.inr (by rw[←lW];exact d1),HBV.out.trans d2,HST2.out⟩);clear d1 d2 d3;go_wp2
        go_roundw
        case rel=>exact⟨k+1,by go_num,_,HN5⟩
        case measure=>simp[intOf];omega
      · have e1:(q.kind==2)=false:=by rw[beq_eq_false_iff_ne];exact h1
        have HN5:=hid (show aFi l W4.heap.size (k+1) W4 V o from⟨hlt,HBL.out,HBV.out,by rw[HST.out,if_neg h1,List.append_nil];exact hD.out.out⟩);clear h1;go_wp2
        go_roundw
        case rel=>exact⟨k+1,by go_num,_,HN5⟩
        case measure=>simp[intOf];omega
    · have HO:=hid (show o=dV l by rw[hD.out.out,List.take_of_length_le hge])
      go_wp2_with fail
      refine(Tryz.Builder_String_any_k W4.heap.size W4.heap.size o _ hD.out.bld hD.out.bel.size).mono ?_;rintro e W5 ⟨rfl,d1,d2,d3⟩;have HB5:=hid (HB4.out.trans ((hD.out.bel.trans d2).mono HB4.out.size));clear d1 d2 d3;go_wp2_with fail
      refine(nR ⟨o.toArray⟩ (by have:=HJ.out;rw[HO.out];simp[ByteArray.size];omega) W5 (HT.out.below HB5.out cS)).mono ?_;rintro e W6 ⟨rfl,B6⟩;have HB6:=qU HB5 B6;clear B6;go_wp2
      go_ret;refine⟨?_,HB6.out⟩;rw[HTN.out,←HO.out];rfl
