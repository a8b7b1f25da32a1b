/-
What is let through holds, and what holds is let through as it is: plain laws.
-/
import Derived.Test.YtcfgbdhpcboikaaGreatDoorHeldD
namespace Go.Proofs.YtcfgbdhpcboikaaGreatDoor
open Go.Lib (hid)
set_option maxHeartbeats 8000000
set_option maxRecDepth 100000
open Go.RowKit
theorem dH {n:Nat}:n≤n:=Nat.le_refl n
theorem pC {a w v:World}(h:Go.RowKit.Hid (Go.RowKit.Below a.heap.size a w))(b:Go.RowKit.Below w.heap.size w v):Go.RowKit.Hid (Go.RowKit.Below a.heap.size a v):=hid (h.out.trans (b.mono h.out.size))
def AOk (VV:fP)(A:eF):Prop:=∀nm l,jW (VV nm) l (A nm l)
theorem xY (VV:fP)(pn:ByteArray)(ph:List ByteArray)(prev:Option Nd)(k:Nd)(ks:List Nd):HoldsK VV pn ph prev (k :: ks)↔(pM VV pn ph prev k∧(eE k=false→eJ VV ph k))∧HoldsK VV pn ph (some k) ks:=by
  conv=>lhs;unfold HoldsK
theorem aCn {n:Nd}(h:eE n=true):n=aL n.text∧n.text≠⟨#[]⟩∧cL n.text=n.text:=by
  cases n with
  | mk kd sp nm at' tx ks =>
    unfold eE aAX at h;simp only[Nd.kind,Nd.space,Nd.name,Nd.text,Nd.attrs,Nd.kids,Bool.and_eq_true,Bool.not_eq_true']at h;obtain⟨h1,h2,h3,h4,h5,h6,h7⟩:=h;have e3:nm=⟨#[]⟩:=gU (by simpa using h3);have e4:at'=[]:=List.eq_nil_of_length_eq_zero (of_decide_eq_true h4);have e5:ks=[]:=List.eq_nil_of_length_eq_zero (of_decide_eq_true h5);have e1:=of_decide_eq_true h1;have e2:=of_decide_eq_true h2;subst e1;subst e2;subst e3;subst e4;subst e5;refine⟨rfl,?_,of_decide_eq_true h7⟩;intro e;have e':tx=⟨#[]⟩:=e;rw[e']at h6
    simp at h6
theorem yS {n:Nd}(h:nV n=true):n=.mk 1 0 n.name n.attrs ⟨#[]⟩ n.kids:=by
  cases n with
  | mk kd sp nm at' tx ks =>
    unfold nV pI at h;simp only[Nd.kind,Nd.space,Nd.text,Bool.and_eq_true]at h;obtain⟨h1,h2,h3⟩:=h;have e3:tx=⟨#[]⟩:=gU (by simpa using h3);have e1:=of_decide_eq_true h1;have e2:=of_decide_eq_true h2;subst e1;subst e2;subst e3;rfl
theorem aJq:∀p<15,∀k<15,∀b:Bool,iL p k b=true→2≤k∧k≠14:=by decide +kernel
theorem aHg {p k:List UInt8}(h:rP p k=true):2≤bR k∧bR k≠14:=aJq _ (by have:=nH p;omega) _ (by have:=nH k;omega) _ h
theorem aFA:∀q∈gB,q.2=10→q.1=kN.data.toList:=by decide +kernel
theorem aJi {n:List UInt8}(h:bR n≠0):(n,bR n)∈gB:=by
  by_cases hm:n∈gB.map (·.1)
  · obtain⟨p,hp,rfl⟩:=List.mem_map.1 hm
    rw[(zB p hp).2];exact hp
  · exact absurd (tT n hm) h
theorem aFm {nm:ByteArray}(h:bR nm.data.toList=10):nm=kN :=
  gU (aFA _ (by have:=aJi (n:=nm.data.toList) (by omega);exact this) h)
theorem aIr:∀p,p=5∨p=6→aH5 p=false∧∀k b,iL p k b=false:=by
  rintro p (rfl|rfl)
  · exact⟨rfl,fun k b=>rfl⟩
  · exact⟨rfl,fun k b=>rfl⟩
theorem aIq {VV:fP}{pn:ByteArray}(hv:sG pn){ph:List ByteArray}{ks:List Nd}(h:HoldsK VV pn ph none ks):ks=[]:=by
  cases ks with
  | nil=>rfl
  | cons k ks =>
    have hk:=((xY _ _ _ _ _ _).1 h).1.1;obtain⟨h1,h2⟩:=aIr _ hv;rcases hk with hk|hk
    · have h3:=hk.2.1
      unfold lO at h3;rw[h1]at h3
      cases h3
    · have h3:=hk.2.2.1
      unfold rP at h3;rw[h2]at h3
      cases h3
theorem aEm {l:List ByteArray}{x:ByteArray}(h:x∉l):Lib.containsS l x=false:=by
  cases hc:Lib.containsS l x with
  | false=>rfl
  | true=>exact absurd ((Lib.containsS_iff _ _).1 hc) h
theorem aEh {out:List Nd}{t:ByteArray}(h:qL out.getLast?=false):fI out t=out++[aL t]:=by
  unfold fI;cases ho:out.getLast? with
  | none=>rfl
  | some x =>
    rw[ho]at h
    unfold qL at h;show(if x.kind=2 then _ else _)=_;rw[if_neg (by simpa using h)]
theorem aCB (out:List Nd):out.getLast?.isSome=true↔out≠[]:=by
  cases out with
  | nil=>simp
  | cons a l=>simp
theorem aG2 (VV:fP)(A:eF)(hA:AOk VV A) :
    (∀(n:Nd) (ph:List ByteArray),eJ VV ph n→bM A n.name ph n.kids=n.kids) ∧
    (∀(l:List Nd) (pn:ByteArray) (ph:List ByteArray) (out:List Nd),HoldsK VV pn ph out.getLast? l→cB A pn ph out l=out++l):=by
  have H:=oN (P:=fun n=>∀(ph:List ByteArray),eJ VV ph n→bM A n.name ph n.kids=n.kids)
    (Q:=fun l=>(∀(pn:ByteArray) (ph:List ByteArray) (out:List Nd),HoldsK VV pn ph out.getLast? l→cB A pn ph out l=out++l)) ?_ ?_ ?_
  · exact H
  · intro n ih ph h
    rw[aBV]at h
    unfold bM;by_cases hv:sG n.name
    · rw[if_pos hv,aIq hv h]
    · rw[if_neg hv]
      exact ih n.name (uB n.name ph) [] h
  · intro pn ph out _
    rw[lC,List.append_nil]
  · intro k ks h1 h2 pn ph out h
    rw[xY]at h
    obtain⟨⟨hk,hn⟩,hr⟩:=h;have step:hJ A pn ph out k=out++[k]:=by
      rw[rF];rcases hk with⟨hw,ht,hp⟩|⟨hw,he,hm,hph,hcap,hat⟩
      · obtain⟨e,h3,h4⟩:=aCn hw
        have hkd:k.kind=2:=by rw[e];rfl
        rw[if_pos hkd];unfold pW;rw[if_neg (by rw[h4,ht];rintro(x|x);exact h3 x;cases x),h4,aEh hp,←e]
      · have e:=yS he
        have hkd:k.kind=1:=by rw[e];rfl
        have hsp:k.space=0:=by rw[e];rfl
        have hkk:=aHg hm;rw[if_neg (by rw[hkd];decide),if_neg (by rintro(x|x|x);exact x hkd;exact x hsp;omega)];have hmay:rQ pn ph out k.name=true:=by
          unfold rQ;rw[hm,Bool.true_and];split
          · rw[aEm hph];rfl
          · split
            · rename_i h10
              refine decide_eq_true ?_;by_cases ho:out=[]
              · exact ho
              · exact absurd ⟨aFm h10,(aCB out).2 ho⟩ hcap
            · rfl
        rw[if_pos hmay,h1 ph (hn hw),qG (hA k.name k.attrs) hat,←e]
    rw[jM,step,h2 pn ph (out++[k]) (by rw[List.getLast?_concat];exact hr),List.append_assoc];rfl
def uV (ph:List ByteArray):Prop:=∀p∈ph,bR p.data.toList=4
theorem uV.nil:uV []:=fun p hp=>by simp at hp
theorem uV.of {ph:List ByteArray}(h:uV ph)(nm:ByteArray):uV (uB nm ph):=by
  unfold uB;split
  · intro p hp
    rcases List.mem_append.1 hp with hp|hp
    · exact h p hp
    · rw[List.mem_singleton.1 hp];assumption
  · exact h
mutual
def gQ:Nd→Nat
  | .mk _ _ _ _ _ ks=>gG ks+1
def gG:List Nd→Nat
  | []=>0
  | n :: ns=>max (gQ n) (gG ns)
end
theorem aKS:∀m:Nat,(∀(n:Nd) (d:Nat) (l:Int),n.sz≤m→((gQ n≤d∧(n.sz:Int)≤l)→fL d n l=l-n.sz)∧(0≤fL d n l→0≤l→gQ n≤d∧(n.sz:Int)≤l∧fL d n l=l-n.sz)) ∧
    (∀(ks:List Nd) (d:Nat) (l:Int),aC ks≤m→((gG ks≤d∧(aC ks:Int)≤l)→iY d ks l=l-aC ks)∧(0≤iY d ks l→gG ks≤d∧(aC ks:Int)≤l∧iY d ks l=l-aC ks)):=by
  intro m;induction m with
  | zero =>
    refine⟨fun n _ _ hn=>absurd (eD n) (by omega),fun ks=>?_⟩;cases ks with
    | nil =>
      intro d l _;unfold iY aC gG;exact⟨fun _=>by simp,fun h=>⟨Nat.zero_le _,by simpa using h,by simp⟩⟩
    | cons k ks=>intro d l hs;unfold aC at hs;exact absurd (eD k) (by omega)
  | succ m ih =>
    have hN:∀(n:Nd) (d:Nat) (l:Int),n.sz≤m+1→((gQ n≤d∧(n.sz:Int)≤l)→fL d n l=l-n.sz)∧(0≤fL d n l→0≤l→gQ n≤d∧(n.sz:Int)≤l∧fL d n l=l-n.sz):=by
      intro n d l hs;cases n with
      | mk kd sp nm at' tx ks =>
        unfold Nd.sz at hs ⊢;unfold gQ;cases d with
        | zero =>
          unfold fL;exact⟨fun h=>absurd h.1 (by omega),fun h=>absurd h (by omega)⟩
        | succ d =>
          unfold fL;obtain⟨h1,h2⟩:=ih.2 ks d (l-1) (by omega);constructor
          · rintro⟨h3,h4⟩
            rw[h1 ⟨by omega,by omega⟩];omega
          · intro h3 _
            obtain⟨h4,h5,h6⟩:=h2 h3;exact⟨by omega,by omega,by omega⟩
    refine⟨hN,fun ks=>?_⟩;induction ks with
    | nil =>
      intro d l _;unfold iY aC gG;exact⟨fun _=>by simp,fun h=>⟨Nat.zero_le _,by simpa using h,by simp⟩⟩
    | cons k ks ihk =>
      intro d l hs;unfold aC at hs ⊢;unfold iY gG;obtain⟨h1,h2⟩:=hN k d l (by omega);obtain⟨h3,h4⟩:=ihk d (fL d k l) (by omega);have hp:=eD k;constructor
      · rintro⟨h5,h6⟩
        have e:=h1 ⟨by omega,by omega⟩;rw[if_neg (by omega),h3 ⟨by omega,by omega⟩,e];omega
      · intro h5
        by_cases hl:l<0
        · rw[if_pos hl]at h5;omega
        · rw[if_neg hl]at h5 ⊢
          obtain⟨h6,h7,h8⟩:=h4 h5;obtain⟨h9,h10,h11⟩:=h2 (by omega) (by omega);exact⟨by omega,by omega,by omega⟩
theorem aKR (n:Nd):0≤fL 32 n 1000↔gQ n≤32∧n.sz≤1000:=by
  obtain⟨h1,h2⟩:=(aKS n.sz).1 n 32 1000 dH;constructor
  · intro h
    obtain⟨a,b,_⟩:=h2 h (by omega);exact⟨a,by omega⟩
  · rintro⟨a,b⟩
    rw[h1 ⟨a,by omega⟩];omega
open Go.RowKit
theorem aG.kidsV {w:World}{n:Nd}{c0 c1 c2 c3 c4:Value}{a:Option Addr}{m b:Nat}(h:aG w n (.agg #[c0,c1,c2,c3,c4,.slice a m b])):aI w a 0 n.kids:=by
  obtain⟨av,a',c',e,_,hK,_⟩:=h.get;simp only[Value.agg.injEq]at e;have e5:=congrArg (fun x:Array Value=>x[5]?) e;simp at e5;rw[e5.1];exact hK
def mX (m:Nd):Bool:=nV m&&(decide (m.name=aFQ)&&(decide (m.kids.length=0)&&decide (m.attrs=gX)))
def eR (t:Nd)(name:ByteArray):Bool:=aAF t.kind t.space t.name t.text t.attrs.length name
def qQ (t:Nd):Bool:=eR t aX&&(match t.kids with|[x]=>eE x|_=>false)
theorem wG (t:Nd):qQ t=(eR t aX&&(match t.kids with|[x]=>eE x|_=>false)):=rfl
def mV:List Nd→Bool
  | []=>false
  | m :: []=>mX m
  | m :: [t]=>mX m&&qQ t
  | _ :: _ :: _ :: _=>false
theorem aEq (m:Nd)(ks:List Nd)(h:ks.length≤1):mV (m :: ks)=(mX m&&(match ks with|[t]=>qQ t|_=>true)):=by
  match ks,h with
  | [],_=>unfold mV;simp
  | [t],_=>rfl
theorem aG0 (ks:List Nd)(a:Option Addr)(c:Nat)(hl:ks.length≤2000000)(w:World)(HT:Hid (aB w))(HS:Hid (SmK ks))(HK:Hid (aI w a 0 ks))(b:Bool)(hb:Hid (mV ks=b)) :
    Calls Tryz.prog 91 #[.slice a ks.length c] w (bA b w):=by
  match ks with
  | [] =>
    have HF:Hid (b=false):=by show _=_;rw[←hb.out];rfl
    go_enter Tryz.func91,Tryz.ntmps91
    go_wp2
    go_ret;exact⟨by rw[HF.out];rfl,Below.refl _ _⟩
  | m :: ks =>
    by_cases h2:2≤ks.length
    · have HF:Hid (b=false):=by
        show _=_;rw[←hb.out];match ks,h2 with
        | _ :: _ :: _,_=>rfl
      have hlen:((m :: ks).length:Int)=(ks.length:Int)+1:=by simp
      have h3:3≤(m :: ks).length:=by simp;omega
      clear hlen;generalize (m :: ks).length=n at *
      go_enter Tryz.func91,Tryz.ntmps91
      go_wp2
      go_ret;exact⟨by rw[HF.out];rfl,Below.refl _ _⟩
    · obtain⟨g,off,c0,c1,c2,c3,c4,c5,rfl,h6,hn⟩:=HK.out.get (m :: ks) 0 0 (by simp)
      simp only[List.getElem_cons_zero,Nat.zero_mul,Nat.add_zero]at h6 hn;obtain⟨a1,b1,a2,b2,rfl,rfl,rfl,rfl,rfl,rfl⟩:=hn.cells;have hbb:=hb.out;rw[aEq m ks (by omega)]at hbb
      have HB:=hid hbb;have hn1:1≤(m :: ks).length:=by simp
      have hn2:(m :: ks).length≤2:=by simp;omega
      obtain⟨n,hn'⟩:∃n,n=(m :: ks).length:=⟨_,rfl⟩
      rw[←hn']at hn1 hn2 ⊢
      have HN:=hid hn';have HA:=hid hn.attrs;generalize hkl:m.kids.length=kl at *
      have HKL:=hid hkl;have HSM:=hid (show SmN m∧SmK ks by have:=HS.out;unfold SmK at this;exact this);obtain⟨x0,x1,x2,x3,x4,x5⟩:=h6;have HE:=hid (fun W=>yR m.kind m.space m.name m.text (.slice a1 m.attrs.length b1) (.slice a2 kl b2) W (nV m) (hid rfl));clear hbb hn hn' hb hl hkl;rcases(show n=1∨n=2 by omega)with rfl|rfl
      all_goals (
        go_enter Tryz.func91,Tryz.ntmps91
        go_wp2_with fail
        have hP:=aP w (.int .i64 m.kind) (.int .i64 m.space) (.string m.name) (.slice a1 m.attrs.length b1) (.string m.text) (.slice a2 kl b2);have hB:=(Below.refl w.heap.size w).alloc dH (.cells #[.int .i64 m.kind,.int .i64 m.space,.string m.name,.slice a1 m.attrs.length b1,.string m.text,.slice a2 kl b2] 45);have HP:=hid hP;have HBa:=hid hB;refine(HE.out _).mono ?_;unfold bA;rintro e W1 ⟨rfl,B1⟩;obtain⟨y0,y1,y2,y3,y4,y5⟩:=(HP.out.below B1 dH).zero;have HBw:=hid (HBa.out.trans (B1.mono (by simp)));clear hP hB HP HBa HE B1 x0 x1 x2 x3 x4 x5;cases he:nV m with
        | false =>
          have HF:Hid (b=false):=by show _=_;rw[←HB.out];unfold mX;rw[he];rfl
          clear he;go_wp2
          go_ret;exact⟨by rw[HF.out];rfl,HBw.out⟩
        | true =>
          by_cases hm:m.name=aFQ
          · have e1:(m.name.toList==[109,101,116,97])=true:=by rw[hm];decide +kernel
            by_cases hk:kl=0
            · subst hk
              have HMM:Hid (mX m=decide (m.attrs=gX)):=by show _=_;unfold mX;rw[he,decide_eq_true hm,decide_eq_true HKL.out];rfl
              clear he hm;go_wp2_with fail
              obtain⟨W2,hW2⟩:∃W2,W2=W1.alloc (.cells #[.string ⟨#[99,104,97,114,115,101,116]⟩,.string ⟨#[117,116,102,45,56]⟩] 39):=⟨_,rfl⟩
              have hB2:Below W1.heap.size W1 W2:=by rw[hW2];exact(Below.refl _ W1).alloc dH _
              have hV2:dZ W2 (.slice (some ⟨W1.heap.size,0,none⟩) 1 1) gX:=by
                refine⟨_,1,rfl,fun j hj=>?_⟩;have hj0:j=0:=by simp[gX]at hj;omega
                subst hj0;refine⟨W1.heap.size,0,rfl,?_,?_⟩
                · rw[hW2,cell_of_row _ W1.heap.size _ _ 39 (0,0) (heap_alloc_new W1 _)];rfl
                · rw[hW2,cell_of_row _ W1.heap.size _ _ 39 (0,0) (heap_alloc_new W1 _)];rfl
              rw[←hW2];obtain⟨be,hbe⟩:∃be,decide (m.attrs=gX)=be:=⟨_,rfl⟩
              rw[hbe]at HMM
              have hBw2:=HBw.out.trans (hB2.mono HBw.out.size);refine(aBN _ _ m.attrs gX (by have:=HSM.out.1.get.2.2.1;omega) (by simp[gX]) W2 (hid (HA.out.below hBw2 dH)) (hid hV2) be (hid hbe)).mono ?_;unfold bA;rintro e W3 ⟨rfl,B3⟩;have HBw3:=hid (hBw2.trans (B3.mono hBw2.size));clear hB2 hV2 hW2 hBw2 B3 hbe y0 y1 y2 y3 y4 y5 HBw e1;cases be with
              | false =>
                have HF:Hid (b=false):=by show _=_;rw[←HB.out,HMM.out];rfl
                go_wp2
                go_ret;exact⟨by rw[HF.out];rfl,HBw3.out⟩
              | true =>
                cases ks with
                | nil =>
                  first
                  | (have h:=HN.out;simp only[List.length_cons,List.length_nil]at h;omega)
                  | (have HF : Hid (b = true) := by show _ = _; rw [←HB.out, HMM.out]; rfl
                     go_wp2
                     go_ret;exact ⟨by rw [HF.out]; rfl, HBw3.out⟩)
                | cons t ks =>
                  first
                  | (have h:=HN.out;simp only[List.length_cons]at h;omega)
                  | (have ht0 : ks = [] := List.eq_nil_of_length_eq_zero (by have := HN.out; simp only [List.length_cons]at this; omega)
                     subst ht0;have HT2:Hid (qQ t=b):=by show _=_;rw[←HB.out,HMM.out];rfl
                     obtain⟨g',off',d0,d1,d2,d3,d4,d5,e,h6',hn'⟩:=HK.out.get [m,t] 0 1 (by simp);cases e;obtain⟨l1,l2,l3,l4,rfl,rfl,rfl,rfl,rfl,rfl⟩:=hn'.cells;have h7:=h6'.below HBw3.out dH;have HSX:=hid (HSM.out.2);simp only[List.getElem_cons_succ,List.getElem_cons_zero,Nat.zero_add,Nat.one_mul]at h7 hn' h6';have HKT:=hid hn'.kidsV;have HST:=hid (show SmN t by have:=HSX.out;unfold SmK at this;exact this.1);obtain⟨x0,x1,x2,x3,x4,x5⟩:=h7;generalize hal:t.attrs.length=al at *
                     generalize htl:t.kids.length=tl at *
                     have HPL:=hid (fun W=>rC t.kind t.space t.name t.text l1 al l2 (.slice l3 tl l4) aX W (eR t aX) (hid (by unfold eR;rw[hal])));have HTL:=hid htl;clear hal htl h6' hn';go_wp2_with fail
                     refine(HPL.out _).mono ?_;unfold bA;rintro e W4 ⟨rfl,B4⟩;have HBw4:=pC HBw3 B4;have h8:=(Six.mk x0 x1 x2 x3 x4 x5).below B4 dH;clear HPL B4 x0 x1 x2 x3 x4 x5;obtain⟨x0,x1,x2,x3,x4,x5⟩:=h8;cases hp:eR t aX with
                     | false =>
                       have HF:Hid (b=false):=by show _=_;rw[←HT2.out,wG,hp];rfl
                       clear hp;go_wp2
                       go_ret;exact⟨by rw[HF.out];rfl,HBw4.out⟩
                     | true =>
                       by_cases ht1:tl=1
                       · subst ht1
                         obtain⟨x,hx⟩:∃x,t.kids=[x]:=List.length_eq_one_iff.1 HTL.out;have HTX:Hid (eE x=b):=by show _=_;rw[←HT2.out,wG,hp,hx];rfl
                         have hkx:=HKT.out;have hsx:=HST.out.get.2.2.2.2;rw[hx]at hkx hsx
                         obtain⟨g',off',d0,d1,d2,d3,d4,d5,e,h9,hn9⟩:=hkx.get [x] 0 0 (by simp);obtain rfl:=e;obtain⟨k1,k2,k3,k4,rfl,rfl,rfl,rfl,rfl,rfl⟩:=hn9.cells;simp only[List.getElem_cons_zero,Nat.zero_mul,Nat.add_zero]at h9;have HSXX:=hid (show SmN x by unfold SmK at hsx;exact hsx.1);obtain⟨z0,z1,z2,z3,z4,z5⟩:=h9.below HBw4.out dH;clear hkx hsx hn9 h9 hp hx;go_wp2_with fail
                         refine(aB2 x.kind x.space x.name x.text (by have:=HSXX.out.get.2.1;omega) k1 x.attrs.length k2 k3 x.kids.length k4 W4 (HT.out.below HBw4.out dH) b HTX).mono ?_;unfold bA;rintro e W5 ⟨rfl,B5⟩;have HBw5:=pC HBw4 B5;clear B5;go_wp2
                         go_ret;exact⟨rfl,HBw5.out⟩
                       · have HF:Hid (b=false):=by
                           show _=_;rw[←HT2.out,wG];have h1:=HTL.out;match hk:t.kids with
                           | []=>simp
                           | [x]=>rw[hk]at h1;simp at h1;omega
                           | _ :: _ :: _=>simp
                         have e2:((tl:Int)==1)=false:=by rw[beq_eq_false_iff_ne];omega
                         clear hp;go_wp2
                         go_ret;exact⟨by rw[HF.out];rfl,HBw4.out⟩)
            · have HF:Hid (b=false):=by show _=_;rw[←HB.out];unfold mX;rw[HKL.out,decide_eq_false hk];simp
              have e2:((kl:Int) !=0)=true:=by rw[bne_iff_ne];omega
              clear he hm;go_wp2
              go_ret;exact⟨by rw[HF.out];rfl,HBw.out⟩
          · have HF:Hid (b=false):=by show _=_;rw[←HB.out];unfold mX;rw[decide_eq_false hm];simp
            have e1:(m.name.toList==[109,101,116,97])=false:=by
              rw[beq_eq_false_iff_ne];intro h;exact hm (gU (by rw[←toList_data,h];rfl))
            clear he hm;go_wp2
            go_ret;exact⟨by rw[HF.out];rfl,HBw.out⟩)
open Go.RowKit
def rB (VV:fP)(n:Nd):Prop :=
  0≤fL 32 n 1000∧eR n jU=true∧∃h b,n.kids=[h,b]∧eR h dD=true∧mV h.kids=true∧eR b bT=true∧eJ VV [] b
theorem mK (w:World)(c0 c1 c2 c3 c4 c5 d0 d1 d2 d3 d4 d5:Value) :
    Six (((w.alloc (.cells #[c0,c1,c2,c3,c4,c5] 45)).alloc (.cells #[d0,d1,d2,d3,d4,d5] 45)).drew) w.heap.size 0 c0 c1 c2 c3 c4 c5 ∧
    Six (((w.alloc (.cells #[c0,c1,c2,c3,c4,c5] 45)).alloc (.cells #[d0,d1,d2,d3,d4,d5] 45)).drew) (w.heap.size+1) 0 d0 d1 d2 d3 d4 d5 ∧
    Below w.heap.size w (((w.alloc (.cells #[c0,c1,c2,c3,c4,c5] 45)).alloc (.cells #[d0,d1,d2,d3,d4,d5] 45)).drew):=by
  refine⟨?_,?_,(((Below.refl _ w).alloc dH _).alloc (by simp) _).drew⟩
  · exact(aP w c0 c1 c2 c3 c4 c5).below ((Below.refl _ (w.alloc _)).alloc dH _).drew dH
  · have h:=(aP (w.alloc (.cells #[c0,c1,c2,c3,c4,c5] 45)) d0 d1 d2 d3 d4 d5).below (Below.refl _ _).drew dH
    rw[show(w.alloc (.cells #[c0,c1,c2,c3,c4,c5] 45)).heap.size=w.heap.size+1 by simp]at h
    exact h
theorem aG3 (VV:fP)(hV:Hid (aIz VV))(n:Nd)(hz:n.sz≤1000000)(v:Value)(r:Bool)(w:World)(HT:Hid (aB w))(HS:Hid (SmN n))(hN:Hid (aG w n v))(hr:Hid (r=true↔rB VV n)) :
    Calls Tryz.prog 41 #[v] w (bA r w):=by
  obtain⟨av,a,c,rfl,hA,hK,hlen⟩:=hN.out.get;obtain⟨aa,ca,rfl,hAA⟩:=hA;have HK:=hid hK;have HSZ:=hid (show n.sz=1+aC n.kids from cJ n);have HSN:=hid HS.out.get;have HZ:=hid hz;have NO:=fun(h:¬rB VV n)=>(show r=false by cases hrr:r with|false=>rfl|true=>exact absurd (hr.out.1 hrr) h)
  have HNO:=hid NO;clear hK hAA hz NO;obtain⟨L,hL⟩:∃L,fL 32 n 1000=L:=⟨_,rfl⟩
  have HL:=hid hL;have HF:=hid (fun W hW=>aKQ n.sz n dH (.agg #[.int .i64 n.kind,.int .i64 n.space,.string n.name,.slice aa n.attrs.length ca,.string n.text,.slice a n.kids.length c]) 32 32 1000 L W (hid rfl) (by omega) (by omega) (by omega) hW HL);have HP:=hid (fun W=>rC n.kind n.space n.name n.text aa n.attrs.length ca (.slice a n.kids.length c) jU W (eR n jU) (hid rfl));clear hL;generalize hkl:n.kids.length=kl at *
  generalize hal:n.attrs.length=al at *
  have HKL:=hid hkl;clear hkl hal;obtain⟨W0,hW0⟩:∃W0,W0=w.alloc (.cells #[.int .i64 n.kind,.int .i64 n.space,.string n.name,.slice aa al ca,.string n.text,.slice a kl c] 45):=⟨_,rfl⟩
  have hB0:Below w.heap.size w W0:=by rw[hW0];exact(Below.refl _ w).alloc dH _
  have hQ:=aP w (.int .i64 n.kind) (.int .i64 n.space) (.string n.name) (.slice aa al ca) (.string n.text) (.slice a kl c);rw[←hW0]at hQ
  have HQ:=hid hQ;have HB0:=hid hB0;have HW0:=hid hW0;clear hQ hB0 hW0;go_enter Tryz.func41,Tryz.ntmps41
  go_wp2_with fail
  rw[←HW0.out];refine(HF.out W0 (hid (hN.out.below HB0.out dH))).mono ?_;rintro e W1 ⟨rfl,B1⟩;obtain⟨q0,q1,q2,q3,q4,q5⟩:=(HQ.out.below B1 dH).zero;have HQ1:=hid (HQ.out.below B1 dH);have HB1:=pC HB0 B1;clear B1 HF HQ HB0 HW0;rcases Int.lt_or_le L 0 with hneg|hpos
  · have HR:=hid (HNO.out (fun h=>absurd h.1 (by rw[HL.out];omega)))
    have e0:decide (L<0)=true:=decide_eq_true hneg;go_wp2
    go_ret;exact⟨by rw[HR.out];rfl,HB1.out⟩
  · have e0:decide (L<0)=false:=decide_eq_false (by omega)
    have HPOS:=hid hpos;clear hpos;go_wp2_with fail
    refine(HP.out _).mono ?_;unfold bA;rintro e W2 ⟨rfl,B2⟩;have HQ2:=hid (HQ1.out.below B2 dH);have HB2:=pC HB1 B2;clear B2 HP HQ1 HB1 e0 q0 q1 q2 q3 q4 q5;obtain⟨q0,q1,q2,q3,q4,q5⟩:=HQ2.out.zero;cases hp:eR n jU with
    | false =>
      have HR:=hid (HNO.out (fun h=>by have h1:=h.2.1;rw[hp]at h1;cases h1));clear hp;go_wp2
      go_ret;exact⟨by rw[HR.out];rfl,HB2.out⟩
    | true =>
      have HPP:=hid hp;clear hp;by_cases h2:kl=2
      · subst h2
        obtain⟨kh,kb,hk2⟩:∃h b,n.kids=[h,b]:=by
          have h:=HKL.out;match hkk:n.kids with
          | []=>rw[hkk]at h;simp at h
          | [_]=>rw[hkk]at h;simp at h
          | [x,y]=>exact⟨x,y,rfl⟩
          | _ :: _ :: _ :: _=>rw[hkk]at h;simp at h
        have hkk:=HK.out;have hss:=HSN.out.2.2.2.2;have hzz:=HSZ.out;have hnn:∀x,x∈n.kids→x.sz≤aC n.kids:=(iV n.kids).1;rw[hk2]at hkk hss hzz hnn
        obtain⟨g,off,c0,c1,c2,c3,c4,c5,rfl,h6,hn6⟩:=hkk.get [kh,kb] 0 0 (by simp);obtain⟨g',off',d0,d1,d2,d3,d4,d5,e,h7,hn7⟩:=hkk.get [kh,kb] 0 1 (by simp);cases e;simp only[List.getElem_cons_succ,List.getElem_cons_zero,Nat.zero_add,Nat.zero_mul,Nat.one_mul,Nat.add_zero]at h6 h7 hn6 hn7;obtain⟨a1,b1,a2,b2,rfl,rfl,rfl,rfl,rfl,rfl⟩:=hn6.cells;obtain⟨l1,l2,l3,l4,rfl,rfl,rfl,rfl,rfl,rfl⟩:=hn7.cells;have HN6:=hid hn6;have HN7:=hid hn7;have HSH:=hid (show SmN kh by unfold SmK at hss;exact hss.1);have HSB:=hid (show SmN kb by unfold SmK at hss;obtain⟨_,h⟩:=hss;unfold SmK at h;exact h.1);have HZB:=hid (show kb.sz≤1000000 by have h1:=hnn kb (by simp);have h2:=HZ.out;omega);have hzh:kh.kids.length≤2000000:=by
          have h1:=hnn kh (by simp);have h2:=HZ.out;have h3:=cJ kh;have h4:=(iV kh.kids).2;omega
        have HK2:=hid hk2;obtain⟨x0,x1,x2,x3,x4,x5⟩:=h6.below HB2.out dH;obtain⟨z0,z1,z2,z3,z4,z5⟩:=h7.below HB2.out dH;have hg1:g<W2.heap.size:=World.block_lt_of_cell? W2 _ x0;have hg2:w.heap.size<W2.heap.size:=World.block_lt_of_cell? W2 _ q5;have hg3:¬g=W2.heap.size:=by omega
        have hg4:¬w.heap.size=W2.heap.size:=by omega
        have hg5:¬g=W2.heap.size+1:=by omega
        have hg6:¬w.heap.size=W2.heap.size+1:=by omega
        have hg7:¬W2.heap.size=g:=by omega
        have hg8:¬W2.heap.size=w.heap.size:=by omega
        have HZH:=hid hzh;clear hkk hss hzz hnn hk2 hn6 hn7 h6 h7 hzh;go_upto_region 3 with fail
        go_cut [3,4] (fun p3 p4 wx=>∃gh gb,p3=.pointer (some ⟨gh,0,none⟩)∧p4=.pointer (some ⟨gb,0,none⟩)∧Hid (Six wx gh 0 (.int .i64 kh.kind) (.int .i64 kh.space) (.string kh.name) (.slice a1 kh.attrs.length b1) (.string kh.text) (.slice a2 kh.kids.length b2))∧Hid (Six wx gb 0 (.int .i64 kb.kind) (.int .i64 kb.space) (.string kb.name) (.slice l1 kb.attrs.length l2) (.string kb.text) (.slice l3 kb.kids.length l4))∧Hid (Below W2.heap.size W2 wx))
        case first =>
          go_region
          all_goals (
            clear x0 x1 x2 x3 x4 x5 z0 z1 z2 z3 z4 z5 q0 q1 q2 q3 q4 q5 hg1 hg2 hg3 hg4 hg5 hg6 hg7 hg8;go_wp2_with fail
            go_meet)
          all_goals first
            | exact⟨_,_,rfl,rfl,hid (mK W2 _ _ _ _ _ _ _ _ _ _ _ _).1,hid (mK W2 _ _ _ _ _ _ _ _ _ _ _ _).2.1,hid (mK W2 _ _ _ _ _ _ _ _ _ _ _ _).2.2⟩
            | exact⟨_,_,rfl,rfl,hid (mK W2 _ _ _ _ _ _ _ _ _ _ _ _).2.1,hid (mK W2 _ _ _ _ _ _ _ _ _ _ _ _).1,hid (mK W2 _ _ _ _ _ _ _ _ _ _ _ _).2.2⟩
        case rest =>
          obtain⟨gh,gb,rfl,rfl,SH,SB,hBc⟩:=hcut;clear x0 x1 x2 x3 x4 x5 z0 z1 z2 z3 z4 z5 q0 q1 q2 q3 q4 q5 hg1 hg2 hg3 hg4 hg5 hg6 hg7 hg8;have HBc:=pC HB2 hBc.out;have HPH:=hid (fun W=>rC kh.kind kh.space kh.name kh.text a1 kh.attrs.length b1 (.slice a2 kh.kids.length b2) dD W (eR kh dD) (hid rfl));have HPB:=hid (fun W=>rC kb.kind kb.space kb.name kb.text l1 kb.attrs.length l2 (.slice l3 kb.kids.length l4) bT W (eR kb bT) (hid rfl));have HHD:=hid (fun W hT hK=>aG0 kh.kids a2 b2 HZH.out W hT (hid HSH.out.get.2.2.2.2) hK (mV kh.kids) (hid rfl));have HKH:=hid HN6.out.kidsV;obtain⟨br,hbr⟩:∃br:Bool,br=true↔eJ VV [] kb:=by
            by_cases h:eJ VV [] kb
            · exact⟨true,fun _=>h,fun _=>rfl⟩
            · exact⟨false,⟨fun e=>(by cases e),fun e=>absurd e h⟩⟩
          have HBR:=hid hbr;have NO:=fun(h:¬(eR kh dD=true∧mV kh.kids=true∧eR kb bT=true∧br=true))=>HNO.out (fun hp=>by
            obtain⟨_,_,x,y,hk,p1,p2,p3,p4⟩:=hp;rw[HK2.out]at hk
            simp only[List.cons.injEq,and_true]at hk;obtain⟨rfl,rfl⟩:=hk;exact h ⟨p1,p2,p3,HBR.out.2 p4⟩)
          have HNO2:=hid NO;have YES:=fun(h1:eR kh dD=true) (h2:mV kh.kids=true) (h3:eR kb bT=true) (h4:br=true)=>hr.out.2 ⟨by rw[HL.out];exact HPOS.out,HPP.out,kh,kb,HK2.out,h1,h2,h3,HBR.out.1 h4⟩
          have HYES:=hid YES;clear hbr NO YES;obtain⟨x0,x1,x2,x3,x4,x5⟩:=SH.out.zero;go_wp2_with fail
          refine(HPH.out _).mono ?_;unfold bA;rintro e W5 ⟨rfl,B5⟩;have SH5:=hid (SH.out.below B5 dH);have SB5:=hid (SB.out.below B5 dH);have HB5:=pC HBc B5;clear B5 SH SB HPH x0 x1 x2 x3 x4 x5;obtain⟨x0,x1,x2,x3,x4,x5⟩:=SH5.out.zero;cases c1:eR kh dD with
          | false =>
            have HR:=hid (HNO2.out (fun h=>by have h1:=h.1;rw[c1]at h1;cases h1));clear c1;go_wp2
            go_ret;exact⟨by rw[HR.out];rfl,HB5.out⟩
          | true =>
            have C1:=hid c1;clear c1;go_wp2_with fail
            refine(HHD.out W5 (hid (HT.out.below HB5.out dH)) (hid (HKH.out.below HB5.out dH))).mono ?_;unfold bA;rintro e W6 ⟨rfl,B6⟩;have SB6:=hid (SB5.out.below B6 dH);have HB6:=pC HB5 B6;clear B6 SH5 SB5 HHD x0 x1 x2 x3 x4 x5;obtain⟨x0,x1,x2,x3,x4,x5⟩:=SB6.out.zero;cases c2:mV kh.kids with
            | false =>
              have HR:=hid (HNO2.out (fun h=>by have h1:=h.2.1;rw[c2]at h1;cases h1));clear c2;go_wp2
              go_ret;exact⟨by rw[HR.out];rfl,HB6.out⟩
            | true =>
              have C2:=hid c2;clear c2;go_wp2_with fail
              refine(HPB.out _).mono ?_;unfold bA;rintro e W7 ⟨rfl,B7⟩;have SB7:=hid (SB6.out.below B7 dH);have HB7:=pC HB6 B7;clear B7 SB6 HPB x0 x1 x2 x3 x4 x5;obtain⟨x0,x1,x2,x3,x4,x5⟩:=SB7.out.zero;cases c3:eR kb bT with
              | false =>
                have HR:=hid (HNO2.out (fun h=>by have h1:=h.2.2.1;rw[c3]at h1;cases h1));clear c3;go_wp2
                go_ret;exact⟨by rw[HR.out];rfl,HB7.out⟩
              | true =>
                have C3:=hid c3;clear c3;go_wp2_with fail
                refine(aG4 VV hV kb.sz kb dH _ (.slice none 0 0) [] br W7 (hid (HT.out.below HB7.out dH)) HSB (hid (by have:=HZB.out;simp;omega)) (hid (HN7.out.below HB7.out dH)) (hid (Phr.nil W7)) HBR).mono ?_;unfold bA;rintro e W8 ⟨rfl,B8⟩;have HB8:=pC HB7 B8;clear B8 x0 x1 x2 x3 x4 x5;cases br with
                | false =>
                  have HR:=hid (HNO2.out (fun h=>by cases h.2.2.2));go_wp2
                  go_ret;exact⟨by rw[HR.out];rfl,HB8.out⟩
                | true =>
                  have HR:=hid (HYES.out C1.out C2.out C3.out rfl);go_wp2
                  go_ret;exact⟨by rw[HR.out];rfl,HB8.out⟩
      · have HR:=hid (HNO.out (fun h=>by
          obtain⟨_,_,x,y,hk,_⟩:=h;have:=HKL.out;rw[hk]at this
          exact h2 this.symm))
        have e2:((kl:Int) !=2)=true:=by rw[bne_iff_ne];omega
        go_wp2
        go_ret;exact⟨by rw[HR.out];rfl,HB2.out⟩
open Go.RowKit
def jB:Nd:=.mk 0 0 ⟨#[]⟩ [] ⟨#[]⟩ []
def oM (nm:ByteArray)(n:Nd):Prop:=n.kind=1∧n.space=0∧n.name=nm
instance (nm:ByteArray) (n:Nd):Decidable (oM nm n):=by unfold oM;exact inferInstance
def aW (nm:ByteArray):List Nd→Nd
  | []=>jB
  | n :: ns=>if oM nm n then n else aW nm ns
def dV:List Nd→List UInt8
  | []=>[]
  | n :: ns=>(if n.kind=2 then n.text.data.toList else [])++dV ns
def oS (n:Nd):ByteArray:=cL ⟨(dV (aW aX (aW dD n.kids).kids).kids).toArray⟩
def cF:List Nd→List Nd
  | []=>[]
  | k :: ks=>(if oM bT k then k.kids else [])++cF ks
def bG (t:ByteArray):Nd:=elN dD (if t=⟨#[]⟩then [eC]else [eC,elN aX [aL t]])
def vD (A:eF)(n:Nd):Nd:=elN jU [bG (oS n),elN bT (bM A bT [] (cF n.kids))]
theorem aH8:cL ⟨#[]⟩=⟨#[]⟩:=by decide +kernel
theorem rD {n:Nd}{nm:ByteArray}(h:eR n nm=true):n=elN nm n.kids:=by
  cases n with
  | mk kd sp nm' at' tx ks =>
    unfold eR aAF at h;simp only[Nd.kind,Nd.space,Nd.name,Nd.text,Nd.attrs,Bool.and_eq_true]at h;obtain⟨h1,h2,h3⟩:=h;have e:=yS (n:=.mk kd sp nm' at' tx ks) h1;rw[e];show Nd.mk 1 0 nm' at' ⟨#[]⟩ ks=_;rw[of_decide_eq_true h2,List.eq_nil_of_length_eq_zero (of_decide_eq_true h3)];rfl
theorem aDx {n:Nd}(h:mX n=true):n=eC:=by
  unfold mX at h;simp only[Bool.and_eq_true,decide_eq_true_eq]at h;obtain⟨h1,h2,h3,h4⟩:=h;have e:=yS h1;rw[e,h2,h4,List.eq_nil_of_length_eq_zero h3];rfl
theorem aId {n:Nd}(h:qQ n=true):∃t:ByteArray,n=elN aX [aL t]∧t≠⟨#[]⟩∧cL t=t:=by
  unfold qQ at h;rw[Bool.and_eq_true]at h
  obtain⟨h1,h2⟩:=h;have e:=rD h1;split at h2
  · rename_i x hx
    obtain⟨ex,h3,h4⟩:=aCn h2;rw[hx,ex]at e
    exact⟨_,e,h3,h4⟩
  · cases h2
theorem aG1 {l:List Nd}(h:mV l=true):∃t:ByteArray,cL t=t∧l=(bG t).kids:=by
  match l,h with
  | [m],h =>
    refine⟨⟨#[]⟩,aH8,?_⟩;rw[aDx (n:=m) h];rfl
  | [m,t],h =>
    have h':(mX m&&qQ t)=true:=h;rw[Bool.and_eq_true]at h'
    obtain⟨t',e,h3,h4⟩:=aId h'.2;refine⟨t',h4,?_⟩;rw[aDx h'.1,e];unfold bG;rw[if_neg h3];rfl
theorem aJW (t:ByteArray)(h:cL t=t):cL ⟨(dV (aW aX (bG t).kids).kids).toArray⟩=t:=by
  unfold bG;split
  · rename_i h0
    rw[h0];decide +kernel
  · show cL ⟨(dV (aW aX [eC,elN aX [aL t]]).kids).toArray⟩=t
    have e:aW aX [eC,elN aX [aL t]]=elN aX [aL t]:=by
      unfold aW;rw[if_neg (by decide +kernel)];unfold aW;rw[if_pos (by show(1:Int)=1∧(0:Int)=0∧aX=aX;exact⟨rfl,rfl,rfl⟩)]
    rw[e];have ej:dV (elN aX [aL t]).kids=t.data.toList:=by
      show dV [aL t]=_;unfold dV dV;rw[if_pos (show(aL t).kind=2 from rfl),List.append_nil];rfl
    rw[ej];have:(⟨t.data.toList.toArray⟩:ByteArray)=t:=rfl;rw[this,h]
theorem aFo (VV:fP)(A:eF)(hA:AOk VV A)(n:Nd)(h:rB VV n):vD A n=n∧gQ n≤32∧n.sz≤1000:=by
  obtain⟨hf,hp,x,b,hk,hx,hh,hb,hold⟩:=h;refine⟨?_,(aKR n).1 hf⟩;obtain⟨t,ht,hkids⟩:=aG1 hh;have en:=rD hp;have ex:x=bG t:=by
    have:=rD hx;rw[hkids]at this
    rw[this];rfl
  have eb:=rD hb;have hbn:b.name=bT:=by rw[eb];rfl
  have htn:oS n=t:=by
    unfold oS;have e1:aW dD n.kids=bG t:=by
      rw[hk,ex];unfold aW;rw[if_pos (by unfold bG;exact⟨rfl,rfl,rfl⟩)]
    rw[e1];exact aJW t ht
  have hbk:cF n.kids=b.kids:=by
    rw[hk,ex];unfold cF;rw[if_neg (by unfold bG;rintro⟨_,_,e⟩;revert e;show dD=bT→False;decide +kernel)];unfold cF;rw[if_pos (by rw[eb];exact⟨rfl,rfl,rfl⟩)];unfold cF;simp
  have hs:=(aG2 VV A hA).1 b [] hold;rw[hbn]at hs
  unfold vD;rw[htn,hbk,hs,←eb,←ex,←hk,←en]
