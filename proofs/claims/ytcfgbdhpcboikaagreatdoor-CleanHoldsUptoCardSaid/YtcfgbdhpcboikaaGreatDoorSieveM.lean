/-
What is let through holds, and what holds is let through as it is: plain laws.
-/
import Derived.Test.YtcfgbdhpcboikaaGreatDoorSieveD
namespace Go.Proofs.YtcfgbdhpcboikaaGreatDoor
open Go.Lib (hid)
set_option maxHeartbeats 2000000
set_option maxRecDepth 100000
open Go.RowKit
theorem nJ {n:Nat}:n≤n:=Nat.le_refl n
def AOk (VV:dQ)(A:cX):Prop:=∀nm l,gV (VV nm) l (A nm l)
theorem lD (VV:dQ)(pn:ByteArray)(ph:List ByteArray)(prev:Option Nd):bX VV pn ph prev []:=by unfold bX;trivial
theorem lU (VV:dQ)(pn:ByteArray)(ph:List ByteArray)(prev:Option Nd)(k:Nd)(ks:List Nd):bX VV pn ph prev (k :: ks)↔(oQ VV pn ph prev k∧(dB k=false→eF VV ph k))∧bX VV pn ph (some k) ks:=by
  conv=>lhs;unfold bX
def qY (prev:Option Nd)(a:List Nd):Option Nd:=match a.getLast? with|some x=>some x|none=>prev
theorem aGd (prev:Option Nd):qY prev []=prev:=rfl
theorem aEK (prev:Option Nd)(k:Nd)(a:List Nd):qY prev (k :: a)=qY (some k) a:=by
  unfold qY;cases a with
  | nil=>rfl
  | cons y ys =>
    rw[List.getLast?_cons_cons];cases h:(y :: ys).getLast? with
    | none=>simp at h
    | some z=>rfl
theorem aCI (VV:dQ)(pn:ByteArray)(ph:List ByteArray):∀(a b:List Nd) (prev:Option Nd),bX VV pn ph prev (a++b)↔bX VV pn ph prev a∧bX VV pn ph (qY prev a) b:=by
  intro a;induction a with
  | nil=>intro b prev;rw[List.nil_append,aGd];exact⟨fun h=>⟨lD _ _ _ _,h⟩,fun h=>h.2⟩
  | cons k a ih =>
    intro b prev;rw[List.cons_append,lU,lU,ih,aEK];exact and_assoc.symm
theorem rY (VV:dQ)(pn:ByteArray)(ph:List ByteArray)(a:List Nd)(x:Nd):bX VV pn ph none (a++[x])↔bX VV pn ph none a∧oQ VV pn ph a.getLast? x∧(dB x=false→eF VV ph x):=by
  rw[aCI,lU];have:qY none a=a.getLast?:=by unfold qY;cases a.getLast?<;>rfl
  rw[this];exact⟨fun h=>⟨h.1,h.2.1⟩,fun h=>⟨h.1,h.2,lD _ _ _ _⟩⟩
theorem vG {n:Nd}(h:dB n=true):n=aV n.text∧n.text≠⟨#[]⟩∧bT n.text=n.text:=by
  cases n with
  | mk kd sp nm at' tx ks =>
    unfold dB vD at h;simp only[Nd.kind,Nd.space,Nd.name,Nd.text,Nd.attrs,Nd.kids,Bool.and_eq_true,Bool.not_eq_true']at h;obtain⟨h1,h2,h3,h4,h5,h6,h7⟩:=h;have e3:nm=⟨#[]⟩:=fL (by simpa using h3);have e4:at'=[]:=List.eq_nil_of_length_eq_zero (of_decide_eq_true h4);have e5:ks=[]:=List.eq_nil_of_length_eq_zero (of_decide_eq_true h5);have e1:=of_decide_eq_true h1;have e2:=of_decide_eq_true h2;subst e1;subst e2;subst e3;subst e4;subst e5;refine⟨rfl,?_,of_decide_eq_true h7⟩;intro e;have e':tx=⟨#[]⟩:=e;rw[e']at h6
    simp at h6
theorem wJ {t:ByteArray}(h1:t≠⟨#[]⟩)(h2:bT t=t):dB (aV t)=true:=by
  unfold dB vD;have h3:t.data.toList.isEmpty=false:=by
    cases h:t.data.toList with
    | nil=>exact absurd (fL (by rw[h])) h1
    | cons a b=>rfl
  simp only[aV,Nd.kind,Nd.space,Nd.name,Nd.text,Nd.attrs,Nd.kids,h3,h2];rfl
theorem tL {n:Nd}(h:mZ n=true):n=.mk 1 0 n.name n.attrs ⟨#[]⟩ n.kids:=by
  cases n with
  | mk kd sp nm at' tx ks =>
    unfold mZ pX at h;simp only[Nd.kind,Nd.space,Nd.text,Bool.and_eq_true]at h;obtain⟨h1,h2,h3⟩:=h;have e3:tx=⟨#[]⟩:=fL (by simpa using h3);have e1:=of_decide_eq_true h1;have e2:=of_decide_eq_true h2;subst e1;subst e2;subst e3;rfl
theorem aA9 (nm:ByteArray)(at':List AT)(ks:List Nd):dB (.mk 1 0 nm at' ⟨#[]⟩ ks)=false:=rfl
theorem aMx (nm:ByteArray)(at':List AT)(ks:List Nd):mZ (.mk 1 0 nm at' ⟨#[]⟩ ks)=true:=rfl
theorem aJ0:∀p<15,∀k<15,∀b:Bool,iV p k b=true→2≤k∧k≠14:=by decide +kernel
theorem aIO {p k:List UInt8}(h:rW p k=true):2≤bO k∧bO k≠14:=aJ0 _ (by have:=nP p;omega) _ (by have:=nP k;omega) _ h
theorem aFV:∀q∈gR,q.2=10→q.1=iA.data.toList:=by decide +kernel
theorem aJX {n:List UInt8}(h:bO n≠0):(n,bO n)∈gR:=by
  by_cases hm:n∈gR.map (·.1)
  · obtain⟨p,hp,rfl⟩:=List.mem_map.1 hm
    rw[(yW p hp).2];exact hp
  · exact absurd (uL n hm) h
theorem aFD {nm:ByteArray}(h:bO nm.data.toList=10):nm=iA :=
  fL (aFV _ (by have:=aJX (n:=nm.data.toList) (by omega);exact this) h)
theorem aDx:bO iA.data.toList=10:=by decide +kernel
theorem aHE:∀p,p=5∨p=6→aGX p=false∧∀k b,iV p k b=false:=by
  rintro p (rfl|rfl)
  · exact⟨rfl,fun k b=>rfl⟩
  · exact⟨rfl,fun k b=>rfl⟩
theorem aHa {VV:dQ}{pn:ByteArray}(hv:sG pn){ph:List ByteArray}{ks:List Nd}(h:bX VV pn ph none ks):ks=[]:=by
  cases ks with
  | nil=>rfl
  | cons k ks =>
    have hk:=((lU _ _ _ _ _ _).1 h).1.1;obtain⟨h1,h2⟩:=aHE _ hv;rcases hk with hk|hk
    · have h3:=hk.2.1
      unfold jI at h3;rw[h1]at h3
      cases h3
    · have h3:=hk.2.2.1
      unfold rW at h3;rw[h2]at h3
      cases h3
theorem aDd {l:List ByteArray}{x:ByteArray}(h:x∈l):Lib.containsS l x=true:=(Lib.containsS_iff _ _).2 h
theorem aEG {l:List ByteArray}{x:ByteArray}(h:x∉l):Lib.containsS l x=false:=by
  cases hc:Lib.containsS l x with
  | false=>rfl
  | true=>exact absurd ((Lib.containsS_iff _ _).1 hc) h
theorem yP {out:List Nd}{t:ByteArray}(h:lR out.getLast?=false):dR out t=out++[aV t]:=by
  unfold dR;cases ho:out.getLast? with
  | none=>rfl
  | some x =>
    rw[ho]at h
    unfold lR at h;show(if x.kind=2 then _ else _)=_;rw[if_neg (by simpa using h)]
theorem uZ (out:List Nd):out.getLast?.isSome=true↔out≠[]:=by
  cases out with
  | nil=>simp
  | cons a l=>simp
theorem aHC (VV:dQ)(A:cX)(hA:AOk VV A) :
    (∀(n:Nd) (ph:List ByteArray),eF VV ph n→aP A n.name ph n.kids=n.kids) ∧
    (∀(l:List Nd) (pn:ByteArray) (ph:List ByteArray) (out:List Nd),bX VV pn ph out.getLast? l→bN A pn ph out l=out++l):=by
  have H:=lT (P:=fun n=>∀(ph:List ByteArray),eF VV ph n→aP A n.name ph n.kids=n.kids)
    (Q:=fun l=>(∀(pn:ByteArray) (ph:List ByteArray) (out:List Nd),bX VV pn ph out.getLast? l→bN A pn ph out l=out++l)) ?_ ?_ ?_
  · exact H
  · intro n ih ph h
    rw[rO]at h
    unfold aP;by_cases hv:sG n.name
    · rw[if_pos hv,aHa hv h]
    · rw[if_neg hv]
      exact ih n.name (mW n.name ph) [] h
  · intro pn ph out _
    rw[fY,List.append_nil]
  · intro k ks h1 h2 pn ph out h
    rw[lU]at h
    obtain⟨⟨hk,hn⟩,hr⟩:=h;have step:eN A pn ph out k=out++[k]:=by
      rw[kO];rcases hk with⟨hw,ht,hp⟩|⟨hw,he,hm,hph,hcap,hat⟩
      · obtain⟨e,h3,h4⟩:=vG hw
        have hkd:k.kind=2:=by rw[e];rfl
        rw[if_pos hkd];unfold lY;rw[if_neg (by rw[h4,ht];rintro(x|x);exact h3 x;cases x),h4,yP hp,←e]
      · have e:=tL he
        have hkd:k.kind=1:=by rw[e];rfl
        have hsp:k.space=0:=by rw[e];rfl
        have hkk:=aIO hm;rw[if_neg (by rw[hkd];decide),if_neg (by rintro(x|x|x);exact x hkd;exact x hsp;omega)];have hmay:qR pn ph out k.name=true:=by
          unfold qR;rw[hm,Bool.true_and];split
          · rw[aEG hph];rfl
          · split
            · rename_i h10
              refine decide_eq_true ?_;by_cases ho:out=[]
              · exact ho
              · exact absurd ⟨aFD h10,(uZ out).2 ho⟩ hcap
            · rfl
        rw[if_pos hmay,h1 ph (hn hw),rB (hA k.name k.attrs) hat,←e]
    rw[fH,step,h2 pn ph (out++[k]) (by rw[List.getLast?_concat];exact hr),List.append_assoc];rfl
theorem aBB {a b:List UInt8}(ha:gF a)(hb:gF b):gF (a++b):=by
  obtain⟨x,rfl,hx⟩:=ha;obtain⟨y,rfl,hy⟩:=hb;refine⟨x++y,by simp,fun r hr=>?_⟩;rcases List.mem_append.1 hr with h|h
  · exact hx r h
  · exact hy r h
theorem aGM {t:ByteArray}:bT t=t↔gF t.data.toList:=by
  constructor
  · intro h
    have:=qX t.data.toList;rw[←qI,h]at this
    exact this
  · intro h
    exact fL (by rw[qI];exact nE h)
theorem aFG {a b:ByteArray}(ha:bT a=a)(hb:bT b=b):bT (a++b)=a++b:=by
  rw[aGM]at *
  rw[show(a++b).data.toList=a.data.toList++b.data.toList by simp];exact aBB ha hb
theorem aG0 {a b:ByteArray}(h:a≠⟨#[]⟩):a++b≠⟨#[]⟩:=by
  intro e;apply h;have:=congrArg (fun x:ByteArray=>x.data.toList) e;simp at this;exact fL (by rw[this.1])
theorem aI4 {VV:dQ}{pn:ByteArray}{ph:List ByteArray}{out:List Nd}(h:bX VV pn ph none out){t:ByteArray}(h1:t≠⟨#[]⟩)(h2:bT t=t)(ht:jI pn.data.toList=true):bX VV pn ph none (dR out t):=by
  have hnew:lR out.getLast?=false→bX VV pn ph none (out++[aV t]):=fun hp=>by
    rw[rY];have hw:=wJ h1 h2;exact⟨h,.inl ⟨hw,ht,hp⟩,fun e=>by rw[hw]at e;cases e⟩
  cases hp:lR out.getLast? with
  | false=>rw[yP hp];exact hnew hp
  | true =>
    cases ho:out.getLast? with
    | none=>rw[ho]at hp;cases hp
    | some x =>
      obtain⟨ys,rfl⟩:∃ys,out=ys++[x]:=List.getLast?_eq_some_iff.1 ho;rw[ho]at hp
      have hk:x.kind=2:=by unfold lR at hp;simpa using hp
      rw[iO,if_pos hk];rw[rY]at h ⊢
      obtain⟨hy,hx,hn⟩:=h;rcases hx with⟨hw,_,hpp⟩|⟨hw,he,_⟩
      · obtain⟨e,h3,h4⟩:=vG hw
        have hm:x.more t=aV (x.text++t):=by
          conv=>lhs;rw[e]
          rfl
        have hw2:=wJ (t:=x.text++t) (aG0 h3) (aFG h4 h2);rw[hm];exact⟨hy,.inl ⟨hw2,ht,hpp⟩,fun e=>by rw[hw2]at e;cases e⟩
      · have:=tL he
        rw[this]at hk
        exact absurd hk (by show ¬(1:Int)=2;decide)
def lQ (ph:List ByteArray):Prop:=∀p∈ph,bO p.data.toList=4
theorem lQ.nil:lQ []:=fun p hp=>by simp at hp
theorem lQ.of {ph:List ByteArray}(h:lQ ph)(nm:ByteArray):lQ (mW nm ph):=by
  unfold mW;split
  · intro p hp
    rcases List.mem_append.1 hp with hp|hp
    · exact h p hp
    · rw[List.mem_singleton.1 hp];assumption
  · exact h
theorem aEC (VV:dQ)(A:cX)(hA:AOk VV A)(hV:∀e n v t,VV e n v=some t→VV e n t=some t) :
    (∀(n:Nd) (pn:ByteArray) (ph:List ByteArray) (out:List Nd),lQ ph→bX VV pn ph none out→bX VV pn ph none (eN A pn ph out n)) ∧
    (∀(l:List Nd) (pn:ByteArray) (ph:List ByteArray) (out:List Nd),lQ ph→bX VV pn ph none out→bX VV pn ph none (bN A pn ph out l)):=by
  refine lT (P:=fun n=>∀(pn:ByteArray) (ph:List ByteArray) (out:List Nd),lQ ph→bX VV pn ph none out→bX VV pn ph none (eN A pn ph out n))
    (Q:=fun l=>∀(pn:ByteArray) (ph:List ByteArray) (out:List Nd),lQ ph→bX VV pn ph none out→bX VV pn ph none (bN A pn ph out l)) ?_ ?_ ?_
  · intro n ih pn ph out hph h
    rw[kO];split
    · unfold lY
      split
      · exact h
      · rename_i hne
        refine aI4 h (fun e=>hne (.inl e)) (tQ _) ?_;cases ht:jI pn.data.toList with
        | true=>rfl
        | false=>exact absurd (Or.inr ht) hne
    · split
      · exact h
      · split
        · rename_i hm
          rw[rY];unfold qR at hm;rw[Bool.and_eq_true]at hm
          obtain⟨hm,hm2⟩:=hm;refine⟨h,.inr ⟨aA9 _ _ _,aMx _ _ _,hm,?_,?_,?_⟩,fun _=>?_⟩
          · show n.name∉ph
            intro hin;have h4:=hph _ hin;rw[if_pos h4,aDd hin]at hm2
            cases hm2
          · show ¬(n.name=iA∧out.getLast?.isSome=true)
            rintro⟨e,hs⟩;rw[uZ]at hs
            have h10:bO n.name.data.toList=10:=by rw[e];exact aDx
            rw[if_neg (by omega),if_pos h10,decide_eq_true_eq]at hm2
            exact hs hm2
          · show gV (VV n.name) (A n.name n.attrs) (A n.name n.attrs)
            exact aEH (hV n.name) (hA n.name n.attrs)
          · rw[rO]
            show bX VV n.name (mW n.name ph) none (aP A n.name ph n.kids);unfold aP;split
            · exact lD _ _ _ _
            · exact ih n.name (mW n.name ph) [] (hph.of _) (lD _ _ _ _)
        · exact ih pn ph out hph h
  · intro pn ph out _ h
    rw[fY];exact h
  · intro n ns h1 h2 pn ph out hph h
    rw[fH];exact h2 pn ph _ hph (h1 pn ph out hph h)
mutual
def fR:Nd→Nat
  | .mk _ _ _ _ _ ks=>gH ks+1
def gH:List Nd→Nat
  | []=>0
  | n :: ns=>max (fR n) (gH ns)
end
theorem aMy:∀m:Nat,(∀(n:Nd) (d:Nat) (l:Int),n.sz≤m→((fR n≤d∧(n.sz:Int)≤l)→fM d n l=l-n.sz)∧(0≤fM d n l→0≤l→fR n≤d∧(n.sz:Int)≤l∧fM d n l=l-n.sz)) ∧
    (∀(ks:List Nd) (d:Nat) (l:Int),aD ks≤m→((gH ks≤d∧(aD ks:Int)≤l)→jB d ks l=l-aD ks)∧(0≤jB d ks l→gH ks≤d∧(aD ks:Int)≤l∧jB d ks l=l-aD ks)):=by
  intro m;induction m with
  | zero =>
    refine⟨fun n _ _ hn=>absurd (eG n) (by omega),fun ks=>?_⟩;cases ks with
    | nil =>
      intro d l _;unfold jB aD gH;exact⟨fun _=>by simp,fun h=>⟨Nat.zero_le _,by simpa using h,by simp⟩⟩
    | cons k ks=>intro d l hs;unfold aD at hs;exact absurd (eG k) (by omega)
  | succ m ih =>
    have hN:∀(n:Nd) (d:Nat) (l:Int),n.sz≤m+1→((fR n≤d∧(n.sz:Int)≤l)→fM d n l=l-n.sz)∧(0≤fM d n l→0≤l→fR n≤d∧(n.sz:Int)≤l∧fM d n l=l-n.sz):=by
      intro n d l hs;cases n with
      | mk kd sp nm at' tx ks =>
        unfold Nd.sz at hs ⊢;unfold fR;cases d with
        | zero =>
          unfold fM;exact⟨fun h=>absurd h.1 (by omega),fun h=>absurd h (by omega)⟩
        | succ d =>
          unfold fM;obtain⟨h1,h2⟩:=ih.2 ks d (l-1) (by omega);constructor
          · rintro⟨h3,h4⟩
            rw[h1 ⟨by omega,by omega⟩];omega
          · intro h3 _
            obtain⟨h4,h5,h6⟩:=h2 h3;exact⟨by omega,by omega,by omega⟩
    refine⟨hN,fun ks=>?_⟩;induction ks with
    | nil =>
      intro d l _;unfold jB aD gH;exact⟨fun _=>by simp,fun h=>⟨Nat.zero_le _,by simpa using h,by simp⟩⟩
    | cons k ks ihk =>
      intro d l hs;unfold aD at hs ⊢;unfold jB gH;obtain⟨h1,h2⟩:=hN k d l (by omega);obtain⟨h3,h4⟩:=ihk d (fM d k l) (by omega);have hp:=eG k;constructor
      · rintro⟨h5,h6⟩
        have e:=h1 ⟨by omega,by omega⟩;rw[if_neg (by omega),h3 ⟨by omega,by omega⟩,e];omega
      · intro h5
        by_cases hl:l<0
        · rw[if_pos hl]at h5;omega
        · rw[if_neg hl]at h5 ⊢
          obtain⟨h6,h7,h8⟩:=h4 h5;obtain⟨h9,h10,h11⟩:=h2 (by omega) (by omega);exact⟨by omega,by omega,by omega⟩
theorem aFb (n:Nd):0≤fM 32 n 1000↔fR n≤32∧n.sz≤1000:=by
  obtain⟨h1,h2⟩:=(aMy n.sz).1 n 32 1000 nJ;constructor
  · intro h
    obtain⟨a,b,_⟩:=h2 h (by omega);exact⟨a,by omega⟩
  · rintro⟨a,b⟩
    rw[h1 ⟨a,by omega⟩];omega
open Go.RowKit
theorem iB:∀a b:List Nd,SmK (a++b)↔SmK a∧SmK b:=by
  intro a;induction a with
  | nil=>intro b;rw[List.nil_append];exact⟨fun h=>⟨eC,h⟩,fun h=>h.2⟩
  | cons x a ih=>intro b;rw[List.cons_append,dX,dX,ih];exact and_assoc.symm
theorem aD6 {t:ByteArray}(h:t.size≤100000000):SmN (aV t) :=
  (lB _).2 ⟨by show(⟨#[]⟩:ByteArray).size≤_;decide,h,by simp[aV,Nd.attrs],fun x hx=>by simp[aV,Nd.attrs]at hx,eC⟩
theorem aN8 {out:List Nd}{t:ByteArray}(h:SmK out)(hw:wtK out+t.size≤100000000):SmK (dR out t):=by
  by_cases ho:out=[]
  · subst ho
    unfold dR;show SmK ([]++[aV t]);rw[iB];exact⟨eC,(dX _ _).2 ⟨aD6 (by omega),eC⟩⟩
  · obtain⟨ys,x,rfl⟩:=qO ho
    rw[iO];rw[iB,dX]at h
    obtain⟨h1,h2,_⟩:=h;split
    · rw[iB,dX]
      refine⟨h1,?_,eC⟩;obtain⟨a1,_,a3,a4,a5⟩:=(lB x).1 h2;refine(lB _).2 ⟨a1,?_,a3,a4,a5⟩;show(x.text++t).size≤_;have:=(qN (ys++[x])).2 x (by simp);rw[ByteArray.size_append];omega
    · rw[iB,iB,dX,dX]
      exact⟨⟨h1,h2,eC⟩,aD6 (by omega),eC⟩
theorem aKz {VV:dQ}{A:cX}(hA:AOk VV A)(hV:zJ VV){nm:ByteArray}(hnm:nm.size≤1048576){l:List AT}(hl:l.length≤1048576)(h:∀x∈l,x.1.size≤1048576∧x.2.size≤1048576) :
    (A nm l).length≤1048576∧∀x∈A nm l,x.1.size≤1048576∧x.2.size≤1048576:=by
  obtain⟨hp,_⟩:=hA nm l;refine⟨?_,fun x hx=>?_⟩
  · rw[hp.length_eq]
    exact Nat.le_trans (aB3 _ _ _) hl
  · obtain⟨v,hv,e⟩:=aAt _ _ _ x (hp.mem_iff.1 hx)
    obtain⟨b1,b2⟩:=h _ hv;have hr:=hV nm x.1 v hnm b1 b2;rw[e]at hr
    have:=aAp hr;exact⟨b1,by omega⟩
theorem aJK (VV:dQ)(A:cX)(hA:AOk VV A)(hV:zJ VV) :
    (∀(n:Nd) (pn:ByteArray) (ph:List ByteArray) (out:List Nd),SmN n→wtK out+4*n.tk≤100000000→SmK out→SmK (eN A pn ph out n)) ∧
    (∀(l:List Nd) (pn:ByteArray) (ph:List ByteArray) (out:List Nd),SmK l→wtK out+4*aH l≤100000000→SmK out→SmK (bN A pn ph out l)):=by
  refine lT (P:=fun n=>∀(pn:ByteArray) (ph:List ByteArray) (out:List Nd),SmN n→wtK out+4*n.tk≤100000000→SmK out→SmK (eN A pn ph out n))
    (Q:=fun l=>∀(pn:ByteArray) (ph:List ByteArray) (out:List Nd),SmK l→wtK out+4*aH l≤100000000→SmK out→SmK (bN A pn ph out l)) ?_ ?_ ?_
  · intro n ih pn ph out hn hw ho
    have hb:=dT n;obtain⟨a1,a2,a3,a4,a5⟩:=(lB n).1 hn;rw[kO];split
    · unfold lY
      split
      · exact ho
      · have h2:=qT n.text
        exact aN8 ho (by omega)
    · split
      · exact ho
      · split
        · rw[iB,dX]
          refine⟨ho,?_,eC⟩;obtain⟨c1,c2⟩:=aKz hA hV a1 a3 a4;refine(lB _).2 ⟨a1,by show(⟨#[]⟩:ByteArray).size≤_;decide,c1,c2,?_⟩;show SmK (aP A n.name ph n.kids);unfold aP;split
          · exact eC
          · exact ih n.name _ [] a5 (by simp only[wtK];omega) eC
        · exact ih pn ph out a5 (by omega) ho
  · intro pn ph out _ _ ho
    rw[fY];exact ho
  · intro n ns h1 h2 pn ph out hn hw ho
    rw[dX]at hn
    rw[cF]at hw
    rw[fH];have a1:=(uC A).1 n pn ph out;exact h2 pn ph _ hn.2 (by omega) (h1 pn ph out hn.1 (by omega) ho)
theorem aHG {VV:dQ}{A:cX}(hA:AOk VV A)(hV:zJ VV)(pn:ByteArray)(ph:List ByteArray){l:List Nd}(hl:SmK l)(hb:4*aH l≤100000000):SmK (aP A pn ph l):=by
  unfold aP;split
  · exact eC
  · exact(aJK VV A hA hV).2 l pn _ [] hl (by simp only[wtK];omega) eC
theorem aF2 (A:cX)(pn:ByteArray)(ph:List ByteArray){l:List Nd}(hb:4*aH l≤100000000):(aP A pn ph l).length≤100000000:=by
  unfold aP;split
  · simp
  · have h1:=(uC A).2 l pn (mW pn ph) []
    have h2:=(qN (bN A pn (mW pn ph) [] l)).1;simp only[wtK]at h1;omega
theorem pF:aD []=0:=by unfold aD;rfl
theorem gY (n:Nd)(l:List Nd):aD (n :: l)=n.sz+aD l:=by conv=>lhs;unfold aD
theorem vE:∀a b:List Nd,aD (a++b)=aD a+aD b:=by
  intro a;induction a with
  | nil=>intro b;rw[List.nil_append,pF];omega
  | cons x a ih=>intro b;rw[List.cons_append,gY,gY,ih];omega
theorem aGa (out:List Nd)(t:ByteArray):aD (dR out t)≤aD out+1:=by
  have hsA:=vE;have hone:∀x:Nd,aD [x]=x.sz:=fun x=>by
    conv=>lhs;unfold aD
    unfold aD;omega
  have htx:(aV t).sz=1:=by rw[eE];show 1+aD []=1;unfold aD;rfl
  by_cases ho:out=[]
  · subst ho
    unfold dR;show aD ([]++[aV t])≤_;rw[hsA,hone,htx];exact Nat.le_refl _
  · obtain⟨ys,x,rfl⟩:=qO ho
    rw[iO];split
    · rw[hsA,hsA,hone,hone]
      have:(x.more t).sz=x.sz:=by rw[eE,eE];rfl
      omega
    · rw[hsA,hone,htx]
      exact Nat.le_refl _
theorem aI6 (A:cX) :
    (∀(n:Nd) (pn:ByteArray) (ph:List ByteArray) (out:List Nd),aD (eN A pn ph out n)≤aD out+n.sz) ∧
    (∀(l:List Nd) (pn:ByteArray) (ph:List ByteArray) (out:List Nd),aD (bN A pn ph out l)≤aD out+aD l):=by
  have hsA:=vE;have hone:∀x:Nd,aD [x]=x.sz:=fun x=>by
    conv=>lhs;unfold aD
    unfold aD;omega
  have hnil:aD []=0:=by unfold aD;rfl
  have hcons:∀(x:Nd) l,aD (x :: l)=x.sz+aD l:=fun x l=>by conv=>lhs;unfold aD
  refine lT (P:=fun n=>∀(pn:ByteArray) (ph:List ByteArray) (out:List Nd),aD (eN A pn ph out n)≤aD out+n.sz)
    (Q:=fun l=>∀(pn:ByteArray) (ph:List ByteArray) (out:List Nd),aD (bN A pn ph out l)≤aD out+aD l) ?_ ?_ ?_
  · intro n ih pn ph out
    have hn:=eE n;rw[kO];split
    · unfold lY
      split
      · omega
      · have:=aGa out (bT n.text);omega
    · split
      · omega
      · split
        · rw[hsA,hone]
          have e:(Nd.mk 1 0 n.name (A n.name n.attrs) ⟨#[]⟩ (aP A n.name ph n.kids)).sz=1+aD (aP A n.name ph n.kids):=eE _;have hf:aD (aP A n.name ph n.kids)≤aD n.kids:=by
            unfold aP;split
            · rw[hnil];exact Nat.zero_le _
            · have:=ih n.name (mW n.name ph) []
              omega
          omega
        · have:=ih pn ph out
          omega
  · intro pn ph out
    rw[fY];omega
  · intro n ns h1 h2 pn ph out
    rw[fH,hcons];have a1:=h1 pn ph out;have a2:=h2 pn ph (eN A pn ph out n);omega
theorem aHv (A:cX)(pn:ByteArray)(ph:List ByteArray)(l:List Nd):aD (aP A pn ph l)≤aD l:=by
  unfold aP;split
  · have:aD []=0:=by unfold aD;rfl
    omega
  · have:=(aI6 A).2 l pn (mW pn ph) []
    have h0:aD []=0:=by unfold aD;rfl
    omega
theorem mU:∀a b:List Nd,aH (a++b)=aH a+aH b:=by
  intro a;induction a with
  | nil => intro b; have : aH [] = 0 := by unfold aH; rfl
           rw [List.nil_append]; omega
  | cons n a ih=>intro b;rw[List.cons_append,cF,cF,ih];omega
theorem gT (n:Nd):aH [n]=n.tk:=by
  rw[cF];have:aH []=0:=by unfold aH;rfl
  omega
theorem aDX (t:ByteArray):(aV t).tk=1+t.size:=by
  rw[dT];show 1+t.size+aH []=_;have:aH []=0:=by unfold aH;rfl
  omega
theorem aFB (out:List Nd)(t:ByteArray):aH (dR out t)≤aH out+1+t.size:=by
  by_cases ho:out=[]
  · subst ho
    unfold dR;show aH ([]++[aV t])≤_;rw[mU,gT,aDX];omega
  · obtain⟨ys,x,rfl⟩:=qO ho
    rw[iO];split
    · rw[mU,mU,gT,gT]
      have:(x.more t).tk=x.tk+t.size:=by
        rw[dT,dT];show 1+(x.text++t).size+aH x.kids=_;rw[ByteArray.size_append];omega
      omega
    · rw[mU,gT,aDX]
      omega
theorem aJA (A:cX) :
    (∀(n:Nd) (pn:ByteArray) (ph:List ByteArray) (out:List Nd),aH (eN A pn ph out n)≤aH out+3*n.tk) ∧
    (∀(l:List Nd) (pn:ByteArray) (ph:List ByteArray) (out:List Nd),aH (bN A pn ph out l)≤aH out+3*aH l):=by
  have hnil:aH []=0:=by unfold aH;rfl
  refine lT (P:=fun n=>∀(pn:ByteArray) (ph:List ByteArray) (out:List Nd),aH (eN A pn ph out n)≤aH out+3*n.tk)
    (Q:=fun l=>∀(pn:ByteArray) (ph:List ByteArray) (out:List Nd),aH (bN A pn ph out l)≤aH out+3*aH l) ?_ ?_ ?_
  · intro n ih pn ph out
    have hn:=dT n;rw[kO];split
    · unfold lY
      split
      · omega
      · have h1:=aFB out (bT n.text)
        have h2:=qT n.text;omega
    · split
      · omega
      · split
        · rw[mU,gT]
          have e:(Nd.mk 1 0 n.name (A n.name n.attrs) ⟨#[]⟩ (aP A n.name ph n.kids)).tk=1+aH (aP A n.name ph n.kids):=by
            rw[dT];show 1+(⟨#[]⟩:ByteArray).size+aH (aP A n.name ph n.kids)=_;simp[ByteArray.size]
          have hf:aH (aP A n.name ph n.kids)≤3*aH n.kids:=by
            unfold aP;split
            · omega
            · have:=ih n.name (mW n.name ph) []
              omega
          omega
        · have:=ih pn ph out
          omega
  · intro pn ph out
    rw[fY];omega
  · intro n ns h1 h2 pn ph out
    rw[fH,cF];have a1:=h1 pn ph out;have a2:=h2 pn ph (eN A pn ph out n);omega
theorem aHN (A:cX)(pn:ByteArray)(ph:List ByteArray)(l:List Nd):aH (aP A pn ph l)≤3*aH l:=by
  have h0:aH []=0:=by unfold aH;rfl
  unfold aP;split
  · omega
  · have:=(aJA A).2 l pn (mW pn ph) []
    omega
open Go.RowKit
theorem aAg:∀(l:List Nd) (k:Nat) (h:k<l.length),aD (l.take (k+1))=aD (l.take k)+l[k].sz:=by
  intro l;induction l with
  | nil=>intro k h;simp at h
  | cons n l ih =>
    intro k h;cases k with
    | zero=>rw[List.take_zero,pF,List.take_succ_cons,List.take_zero,gY,pF];simp
    | succ k =>
      have:=ih k (by simpa using h);rw[List.take_succ_cons,List.take_succ_cons,gY,gY,this,List.getElem_cons_succ];omega
theorem uG (l:List Nd)(k:Nat):aD (l.take k)≤aD l:=by
  have:=vE (l.take k) (l.drop k);rw[List.take_append_drop]at this
  omega
theorem tM:gH []=0:=by unfold gH;rfl
theorem rF (n:Nd)(l:List Nd):gH (n :: l)=max (fR n) (gH l):=by conv=>lhs;unfold gH
theorem aFs (n:Nd):fR n=gH n.kids+1:=by
  cases n;conv=>lhs;unfold fR
  rfl
theorem aGL:∀(l:List Nd) (k:Nat) (h:k<l.length),gH (l.take (k+1))=max (gH (l.take k)) (fR l[k]):=by
  intro l;induction l with
  | nil=>intro k h;simp at h
  | cons n l ih =>
    intro k h;cases k with
    | zero=>rw[List.take_zero,tM,List.take_succ_cons,List.take_zero,rF,tM];simp
    | succ k =>
      have:=ih k (by simpa using h);rw[List.take_succ_cons,List.take_succ_cons,rF,rF,this,List.getElem_cons_succ];omega
theorem aDF:(∀n:Nd,fR n≤n.sz)∧∀l:List Nd,gH l≤aD l:=by
  refine lT (P:=fun n=>fR n≤n.sz) (Q:=fun l=>gH l≤aD l) ?_ ?_ ?_
  · intro n ih
    rw[aFs,eE];omega
  · rw[tM];exact Nat.zero_le _
  · intro n ns h1 h2
    rw[rF,gY];omega
theorem aGE:∀(m:Nat) (n:Nd),n.sz≤m→∀(v:Value) (w:World),n.sz≤1000000000→Hid (aL w n v) →
    Calls Tryz.prog 104 #[v] w fun e w'=>e=.returned (.int .i64 (n.sz:Nat))∧Below w.heap.size w w':=by
  intro m;induction m with
  | zero=>intro n hn;exact absurd (eG n) (by omega)
  | succ m ih =>
    intro n hn v w hb hV;obtain⟨av,a,c,rfl,hA,hK,hlen⟩:=hV.out.get;have HK:=hid hK;have HIH:=hid ih;have HSZ:=hid (eE n);have HN:=hid hn;clear hA hK ih hn hV;generalize n.kids=ks at *
    generalize n.sz=nz at *
    have hz1:aD ks≤1000000000:=by have:=HSZ.out;omega
    have HZM:Hid (aD ks≤m):=by show _≤_;have:=HSZ.out;have:=HN.out;omega
    clear HN;go_enter Tryz.func104,Tryz.ntmps104
    go_wp2
    go_loopw [3,9] (fun s i wx=>∃k:Nat,i=.int .i64 k∧s=.int .i64 ((1+aD (ks.take k):Nat):Int)∧Hid (k≤ks.length∧Below w.heap.size w wx)) (fun _ i _=>ks.length-(intOf i).toNat)
    case atStart=>exact⟨0,rfl,by rw[List.take_zero,pF];rfl,hid ⟨Nat.zero_le _,(Below.refl _ w).alloc nJ _⟩⟩
    case round =>
      obtain⟨k,rfl,rfl,hR⟩:=hrel;have hk:=hR.out.1;rcases Nat.lt_or_ge k ks.length with hlt|hge
      · obtain⟨g,off,c0,c1,c2,c3,c4,c5,rfl,h6,hn⟩:=HK.out.get ks 0 k hlt
        rw[Nat.zero_add]at h6
        obtain⟨x0,x1,x2,x3,x4,x5⟩:=h6.below hR.out.2 nJ;obtain⟨a1,b1,a2,b2,rfl,rfl,rfl,rfl,rfl,rfl⟩:=hn.cells;have HND:=hid (hn.below hR.out.2 nJ);have HST:=hid (aAg ks k hlt);have hpl:=uG ks (k+1);rw[HST.out]at hpl
        have hqm:ks[k].sz≤m:=by have:=HZM.out;omega
        clear hn h6;generalize ks[k]=q at *
        generalize hs0:aD (ks.take k)=s0 at *
        have hB2:Below wr.heap.size wr (wr.alloc (.cells #[.int .i64 q.kind,.int .i64 q.space,.string q.name,.slice a1 q.attrs.length b1,.string q.text,.slice a2 q.kids.length b2] 45)):=(Below.refl _ wr).alloc nJ _;have HB2:=hid (hR.out.2.trans (hB2.mono hR.out.2.size));have HND2:=hid (HND.out.below hB2 nJ);have HC:=hid (fun(v:Value) (W:World) (h:Hid (aL W q v))=>HIH.out q hqm v W (by omega) h);clear hB2 hqm;go_wp2_with fail
        refine(HC.out _ _ HND2).mono ?_;rintro e W2 ⟨rfl,B2⟩;have HB3:=hid (HB2.out.trans (B2.mono HB2.out.size));clear B2;go_wp2
        go_roundw
        case rel=>exact⟨k+1,by go_num,by rw[HST.out];go_num,hid ⟨hlt,HB3.out⟩⟩
        case measure=>simp[intOf];omega
      · have HT:=hid (show aD (ks.take k)=aD ks by rw[List.take_of_length_le hge])
        go_wp2
        go_ret;refine⟨?_,hR.out.2⟩;rw[HSZ.out,HT.out];rfl
theorem aHO:∀(m:Nat) (n:Nd),n.sz≤m→∀(v:Value) (w:World),n.sz≤1000000000→Hid (aL w n v) →
    Calls Tryz.prog 105 #[v] w fun e w'=>e=.returned (.int .i64 (fR n:Nat))∧Below w.heap.size w w':=by
  intro m;induction m with
  | zero=>intro n hn;exact absurd (eG n) (by omega)
  | succ m ih =>
    intro n hn v w hb hV;obtain⟨av,a,c,rfl,hA,hK,hlen⟩:=hV.out.get;have HK:=hid hK;have HIH:=hid ih;have HSZ:=hid (eE n);have HDP:=hid (aFs n);have HN:=hid hn;clear hA hK ih hn hV;generalize n.kids=ks at *
    generalize n.sz=nz at *
    generalize fR n=dz at *
    have hz1:aD ks≤1000000000:=by have:=HSZ.out;omega
    have HZM:Hid (aD ks≤m):=by show _≤_;have:=HSZ.out;have:=HN.out;omega
    clear HN;go_enter Tryz.func105,Tryz.ntmps105
    go_wp2
    go_loopw [3,9] (fun s i wx=>∃k:Nat,i=.int .i64 k∧s=.int .i64 ((gH (ks.take k):Nat):Int)∧Hid (k≤ks.length∧Below w.heap.size w wx)) (fun _ i _=>ks.length-(intOf i).toNat)
    case atStart=>exact⟨0,rfl,by rw[List.take_zero,tM];rfl,hid ⟨Nat.zero_le _,(Below.refl _ w).alloc nJ _⟩⟩
    case round =>
      obtain⟨k,rfl,rfl,hR⟩:=hrel;have hk:=hR.out.1;rcases Nat.lt_or_ge k ks.length with hlt|hge
      · obtain⟨g,off,c0,c1,c2,c3,c4,c5,rfl,h6,hn⟩:=HK.out.get ks 0 k hlt
        rw[Nat.zero_add]at h6
        obtain⟨x0,x1,x2,x3,x4,x5⟩:=h6.below hR.out.2 nJ;obtain⟨a1,b1,a2,b2,rfl,rfl,rfl,rfl,rfl,rfl⟩:=hn.cells;have HND:=hid (hn.below hR.out.2 nJ);have HST:=hid (aGL ks k hlt);have hpl:=uG ks (k+1);rw[aAg ks k hlt]at hpl
        have hd1:gH (ks.take k)≤1000000000:=by have h1:=aDF.2 (ks.take k);have h2:=uG ks k;omega
        have hd2:fR ks[k]≤1000000000:=by have h1:=aDF.1 ks[k];omega
        have hqm:ks[k].sz≤m:=by have:=HZM.out;omega
        clear hn h6;generalize ks[k]=q at *
        generalize hs0:gH (ks.take k)=s0 at *
        have hqz:q.sz≤1000000000:=by omega
        clear hpl;have hB2:Below wr.heap.size wr (wr.alloc (.cells #[.int .i64 q.kind,.int .i64 q.space,.string q.name,.slice a1 q.attrs.length b1,.string q.text,.slice a2 q.kids.length b2] 45)):=(Below.refl _ wr).alloc nJ _;have HB2:=hid (hR.out.2.trans (hB2.mono hR.out.2.size));have HND2:=hid (HND.out.below hB2 nJ);have HC:=hid (fun(v:Value) (W:World) (h:Hid (aL W q v))=>HIH.out q hqm v W hqz h);clear hB2 hqm hqz;generalize fR q=dq at *
        go_wp2_with fail
        refine(HC.out _ _ HND2).mono ?_;rintro e W2 ⟨rfl,B2⟩;have HB3:=hid (HB2.out.trans (B2.mono HB2.out.size));clear B2;go_wp2
        go_roundw
        case rel=>exact⟨k+1,by go_num,by rw[HST.out];(first|go_num|simp[Int.max_def];omega),hid ⟨hlt,HB3.out⟩⟩
        case measure=>simp[intOf];omega
      · have HT:=hid (show gH (ks.take k)=gH ks by rw[List.take_of_length_le hge])
        have hd1:gH ks≤1000000000:=by have h1:=aDF.2 ks;omega
        rw[HT.out];go_wp2
        go_ret;refine⟨?_,hR.out.2⟩;rw[HDP.out];rfl
open Go.RowKit Go.Lib
theorem aJY (V:ByteArray→ByteArray→Option ByteArray)(l:List AT):∃r,gV V l r:=by
  have htot:∀a b:AT,(decide (fX a b≤0)||decide (fX b a≤0))=true:=fun a b=>by
    unfold fX;rw[nS a.1.data.toList b.1.data.toList];simp only[Bool.or_eq_true,decide_eq_true_eq];omega
  have htr:∀a b c:AT,decide (fX a b≤0)=true→decide (fX b c≤0)=true→decide (fX a c≤0)=true:=fun a b c h1 h2=>by
    simp only[decide_eq_true_eq]at *
    unfold fX at *
    rcases Int.lt_or_eq_of_le h1 with h1|h1
    · rcases Int.lt_or_eq_of_le h2 with h2|h2
      · have:=zU _ _ _ h1 h2;omega
      · rw[←xP _ _ h2];omega
    · rw[xP _ _ h1];exact h2
  have hp:=List.mergeSort_perm (cW V [] l) (fun a b=>decide (fX a b≤0));have hs:=List.pairwise_mergeSort (le:=fun a b=>decide (fX a b≤0)) htr htot (cW V [] l);refine⟨_,hp,?_⟩;have hn:=(hp.pairwise_iff (fun {x y} hxy e=>hxy e.symm)).2 (yN V l []);unfold qZ;refine(hs.and hn).imp (fun {a b} h=>?_);have h1:fX a b≤0:=of_decide_eq_true h.1;rcases Int.lt_or_eq_of_le h1 with h2|h2
  · exact h2
  · exact absurd (fL (xP _ _ h2)) h.2
theorem aHs (w0:World)(T0:aC w0):∃(VV:dQ) (A:cX),zJ VV∧AOk VV A∧mN A∧∀e n v t,VV e n v=some t→VV e n t=some t:=by
  have h:∀e:ByteArray,∃V:ByteArray→ByteArray→Option ByteArray,(e.size≤1000000000→aLm e V)∧∀n v t,V n v=some t→V n t=some t:=by
    intro e;by_cases he:e.size≤1000000000
    · obtain⟨V,hV⟩:=aOK w0 T0 e he
      exact⟨V,fun _=>hV,hV.again⟩
    · exact⟨fun _ _=>none,fun h=>absurd h he,fun n v t h=>by cases h⟩
  obtain⟨VV,hVV⟩:=Classical.axiomOfChoice h;have h2:∀x:ByteArray × List AT,∃r,gV (VV x.1) x.2 r:=fun x=>aJY _ _
  obtain⟨A,hA⟩:=Classical.axiomOfChoice h2;refine⟨VV,fun nm l=>A (nm,l),fun e n v he hn hv=>((hVV e).1 (by omega)).val n v hn hv,fun nm l=>hA (nm,l),fun nm at' v W hnm hal hat hT hv=>?_,fun e=>(hVV e).2⟩;have hp:=aAY nm (by omega) (VV nm) (hid (((hVV nm).1 (by omega)).val)) at' hal (hid hat) v W hT (hid hv);refine hp.mono ?_;rintro e W' ⟨u,r,rfl,hr,hO⟩;have hr2:r=A (nm,at'):=rB hr (hA (nm,at'));subst hr2;exact⟨u,rfl,hO⟩
open Go.RowKit
theorem aMI {VV:dQ}{A:cX}(hA:AOk VV A)(e:ByteArray):A e []=[]:=by
  obtain⟨hp,_⟩:=hA e [];exact List.Perm.eq_nil (show(A e []).Perm []from hp)
theorem aAV {nm:ByteArray}{ks:List Nd}(hn:nm.size≤1048576)(h:SmK ks):SmN (elN nm ks) :=
  (lB _).2 ⟨hn,by show(⟨#[]⟩:ByteArray).size≤_;decide,by simp[elN,Nd.attrs],fun x hx=>by simp[elN,Nd.attrs]at hx,h⟩
theorem aAL (nm:ByteArray)(ks:List Nd):(elN nm ks).tk=1+aH ks:=by
  rw[dT];show 1+(⟨#[]⟩:ByteArray).size+aH ks=_;simp[ByteArray.size]
end Go.Proofs.YtcfgbdhpcboikaaGreatDoor
