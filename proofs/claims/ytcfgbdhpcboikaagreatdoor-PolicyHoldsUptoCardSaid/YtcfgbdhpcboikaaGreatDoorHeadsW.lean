/-
policy.heads of every list of nodes.
-/
import Derived.Test.YtcfgbdhpcboikaaGreatDoorHeldA
namespace Go.Proofs.YtcfgbdhpcboikaaGreatDoor
open Go.Lib (hid)
set_option maxHeartbeats 8000000
set_option maxRecDepth 100000
open Go.RowKit
theorem aU {n:Nat}:n≤n:=Nat.le_refl n
theorem jO {a w v:World}(h:Go.RowKit.Hid (Go.RowKit.Below a.heap.size a w))(b:Go.RowKit.Below w.heap.size w v):Go.RowKit.Hid (Go.RowKit.Below a.heap.size a v):=hid (h.out.trans (b.mono h.out.size))
theorem aQ.kidsV {w:World}{n:Nd}{c0 c1 c2 c3 c4:Value}{a:Option Addr}{m b:Nat}(h:aQ w n (.agg #[c0,c1,c2,c3,c4,.slice a m b])):bD w a 0 n.kids:=by
  obtain⟨av,a',c',e,_,hK,_⟩:=h.get;simp only[Value.agg.injEq]at e;have e5:=congrArg (fun x:Array Value=>x[5]?) e;simp at e5;rw[e5.1];exact hK
def kI (m:Nd):Bool:=fF m&&(decide (m.name=mP)&&(decide (m.kids.length=0)&&decide (m.attrs=dX)))
def bT (t:Nd)(name:ByteArray):Bool:=mF t.kind t.space t.name t.text t.attrs.length name
def oJ (t:Nd):Bool:=bT t dY&&(match t.kids with|[x]=>cN x|_=>false)
theorem tC (t:Nd):oJ t=(bT t dY&&(match t.kids with|[x]=>cN x|_=>false)):=rfl
def dW:List Nd→Bool
  | []=>false
  | m :: []=>kI m
  | m :: [t]=>kI m&&oJ t
  | _ :: _ :: _ :: _=>false
theorem aFI (m:Nd)(ks:List Nd)(h:ks.length≤1):dW (m :: ks)=(kI m&&(match ks with|[t]=>oJ t|_=>true)):=by
  match ks,h with
  | [],_=>unfold dW;simp
  | [t],_=>rfl
theorem aJd (ks:List Nd)(a:Option Addr)(c:Nat)(hl:ks.length≤2000000)(w:World)(HT:Hid (aA w))(HS:Hid (SmK ks))(HK:Hid (bD w a 0 ks))(b:Bool)(hb:Hid (dW ks=b)) :
    Calls Tryz.prog 91 #[.slice a ks.length c] w (aB b w):=by
  match ks with
  | [] =>
    have HF:Hid (b=false):=by show _=_;rw[←hb.out];rfl
    go_enter Tryz.func91,Tryz.ntmps91
    go_wp2
    go_ret;exact⟨by rw[HF.out];rfl,Below.refl _ _⟩
  | m :: ks =>
    by_cases h2:2≤ks.length
    · have HF:Hid (b=false):=by
        show _=_;rw[←hb.out];match ks,h2 with
        | _ :: _ :: _,_=>rfl
      have hlen:((m :: ks).length:Int)=(ks.length:Int)+1:=by simp
      have h3:3≤(m :: ks).length:=by simp;omega
      clear hlen;generalize (m :: ks).length=n at *
      go_enter Tryz.func91,Tryz.ntmps91
      go_wp2
      go_ret;exact⟨by rw[HF.out];rfl,Below.refl _ _⟩
    · obtain⟨g,off,c0,c1,c2,c3,c4,c5,rfl,h6,hn⟩:=HK.out.get (m :: ks) 0 0 (by simp)
      simp only[List.getElem_cons_zero,Nat.zero_mul,Nat.add_zero]at h6 hn;obtain⟨a1,b1,a2,b2,rfl,rfl,rfl,rfl,rfl,rfl⟩:=hn.cells;have hbb:=hb.out;rw[aFI m ks (by omega)]at hbb
      have HB:=hid hbb;have hn1:1≤(m :: ks).length:=by simp
      have hn2:(m :: ks).length≤2:=by simp;omega
      obtain⟨n,hn'⟩:∃n,n=(m :: ks).length:=⟨_,rfl⟩
      rw[←hn']at hn1 hn2 ⊢
      have HN:=hid hn';have HA:=hid hn.attrs;generalize hkl:m.kids.length=kl at *
      have HKL:=hid hkl;have HSM:=hid (show SmN m∧SmK ks by have:=HS.out;unfold SmK at this;exact this);obtain⟨x0,x1,x2,x3,x4,x5⟩:=h6;have HE:=hid (fun W=>aAt m.kind m.space m.name m.text (.slice a1 m.attrs.length b1) (.slice a2 kl b2) W (fF m) (hid rfl));clear hbb hn hn' hb hl hkl;rcases(show n=1∨n=2 by omega)with rfl|rfl
      all_goals (
        go_enter Tryz.func91,Tryz.ntmps91
        go_wp2_with fail
        have hP:=bC w (.int .i64 m.kind) (.int .i64 m.space) (.string m.name) (.slice a1 m.attrs.length b1) (.string m.text) (.slice a2 kl b2);have hB:=(Below.refl w.heap.size w).alloc aU (.cells #[.int .i64 m.kind,.int .i64 m.space,.string m.name,.slice a1 m.attrs.length b1,.string m.text,.slice a2 kl b2] 45);have HP:=hid hP;have HBa:=hid hB;refine(HE.out _).mono ?_;unfold aB;rintro e W1 ⟨rfl,B1⟩;obtain⟨y0,y1,y2,y3,y4,y5⟩:=(HP.out.below B1 aU).zero;have HBw:=hid (HBa.out.trans (B1.mono (by simp)));clear hP hB HP HBa HE B1 x0 x1 x2 x3 x4 x5;cases he:fF m with
        | false =>
          have HF:Hid (b=false):=by show _=_;rw[←HB.out];unfold kI;rw[he];rfl
          clear he;go_wp2
          go_ret;exact⟨by rw[HF.out];rfl,HBw.out⟩
        | true =>
          by_cases hm:m.name=mP
          · have e1:(m.name.toList==[109,101,116,97])=true:=by rw[hm];decide +kernel
            by_cases hk:kl=0
            · subst hk
              have HMM:Hid (kI m=decide (m.attrs=dX)):=by show _=_;unfold kI;rw[he,decide_eq_true hm,decide_eq_true HKL.out];rfl
              clear he hm;go_wp2_with fail
              obtain⟨W2,hW2⟩:∃W2,W2=W1.alloc (.cells #[.string ⟨#[99,104,97,114,115,101,116]⟩,.string ⟨#[117,116,102,45,56]⟩] 39):=⟨_,rfl⟩
              have hB2:Below W1.heap.size W1 W2:=by rw[hW2];exact(Below.refl _ W1).alloc aU _
              have hV2:eI W2 (.slice (some ⟨W1.heap.size,0,none⟩) 1 1) dX:=by
                refine⟨_,1,rfl,fun j hj=>?_⟩;have hj0:j=0:=by simp[dX]at hj;omega
                subst hj0;refine⟨W1.heap.size,0,rfl,?_,?_⟩
                · rw[hW2,cell_of_row _ W1.heap.size _ _ 39 (0,0) (heap_alloc_new W1 _)];rfl
                · rw[hW2,cell_of_row _ W1.heap.size _ _ 39 (0,0) (heap_alloc_new W1 _)];rfl
              rw[←hW2];obtain⟨be,hbe⟩:∃be,decide (m.attrs=dX)=be:=⟨_,rfl⟩
              rw[hbe]at HMM
              have hBw2:=HBw.out.trans (hB2.mono HBw.out.size);refine(aCN _ _ m.attrs dX (by have:=HSM.out.1.get.2.2.1;omega) (by simp[dX]) W2 (hid (HA.out.below hBw2 aU)) (hid hV2) be (hid hbe)).mono ?_;unfold aB;rintro e W3 ⟨rfl,B3⟩;have HBw3:=hid (hBw2.trans (B3.mono hBw2.size));clear hB2 hV2 hW2 hBw2 B3 hbe y0 y1 y2 y3 y4 y5 HBw e1;cases be with
              | false =>
                have HF:Hid (b=false):=by show _=_;rw[←HB.out,HMM.out];rfl
                go_wp2
                go_ret;exact⟨by rw[HF.out];rfl,HBw3.out⟩
              | true =>
                cases ks with
                | nil =>
                  first
                  | (have h:=HN.out;simp only[List.length_cons,List.length_nil]at h;omega)
                  | (have HF : Hid (b = true) := by show _ = _; rw [←HB.out, HMM.out]; rfl
                     go_wp2
                     go_ret;exact ⟨by rw [HF.out]; rfl, HBw3.out⟩)
                | cons t ks =>
                  first
                  | (have h:=HN.out;simp only[List.length_cons]at h;omega)
                  | (have ht0 : ks = [] := List.eq_nil_of_length_eq_zero (by have := HN.out; simp only [List.length_cons]at this; omega)
                     subst ht0;have HT2:Hid (oJ t=b):=by show _=_;rw[←HB.out,HMM.out];rfl
                     obtain⟨g',off',d0,d1,d2,d3,d4,d5,e,h6',hn'⟩:=HK.out.get [m,t] 0 1 (by simp);cases e;obtain⟨l1,l2,l3,l4,rfl,rfl,rfl,rfl,rfl,rfl⟩:=hn'.cells;have h7:=h6'.below HBw3.out aU;have HSX:=hid (HSM.out.2);simp only[List.getElem_cons_succ,List.getElem_cons_zero,Nat.zero_add,Nat.one_mul]at h7 hn' h6';have HKT:=hid hn'.kidsV;have HST:=hid (show SmN t by have:=HSX.out;unfold SmK at this;exact this.1);obtain⟨x0,x1,x2,x3,x4,x5⟩:=h7;generalize hal:t.attrs.length=al at *
                     generalize htl:t.kids.length=tl at *
                     have HPL:=hid (fun W=>sS t.kind t.space t.name t.text l1 al l2 (.slice l3 tl l4) dY W (bT t dY) (hid (by unfold bT;rw[hal])));have HTL:=hid htl;clear hal htl h6' hn';go_wp2_with fail
                     refine(HPL.out _).mono ?_;unfold aB;rintro e W4 ⟨rfl,B4⟩;have HBw4:=jO HBw3 B4;have h8:=(Six.mk x0 x1 x2 x3 x4 x5).below B4 aU;clear HPL B4 x0 x1 x2 x3 x4 x5;obtain⟨x0,x1,x2,x3,x4,x5⟩:=h8;cases hp:bT t dY with
                     | false =>
                       have HF:Hid (b=false):=by show _=_;rw[←HT2.out,tC,hp];rfl
                       clear hp;go_wp2
                       go_ret;exact⟨by rw[HF.out];rfl,HBw4.out⟩
                     | true =>
                       by_cases ht1:tl=1
                       · subst ht1
                         obtain⟨x,hx⟩:∃x,t.kids=[x]:=List.length_eq_one_iff.1 HTL.out;have HTX:Hid (cN x=b):=by show _=_;rw[←HT2.out,tC,hp,hx];rfl
                         have hkx:=HKT.out;have hsx:=HST.out.get.2.2.2.2;rw[hx]at hkx hsx
                         obtain⟨g',off',d0,d1,d2,d3,d4,d5,e,h9,hn9⟩:=hkx.get [x] 0 0 (by simp);obtain rfl:=e;obtain⟨k1,k2,k3,k4,rfl,rfl,rfl,rfl,rfl,rfl⟩:=hn9.cells;simp only[List.getElem_cons_zero,Nat.zero_mul,Nat.add_zero]at h9;have HSXX:=hid (show SmN x by unfold SmK at hsx;exact hsx.1);obtain⟨z0,z1,z2,z3,z4,z5⟩:=h9.below HBw4.out aU;clear hkx hsx hn9 h9 hp hx;go_wp2_with fail
                         refine(aC4 x.kind x.space x.name x.text (by have:=HSXX.out.get.2.1;omega) k1 x.attrs.length k2 k3 x.kids.length k4 W4 (HT.out.below HBw4.out aU) b HTX).mono ?_;unfold aB;rintro e W5 ⟨rfl,B5⟩;have HBw5:=jO HBw4 B5;clear B5;go_wp2
                         go_ret;exact⟨rfl,HBw5.out⟩
                       · have HF:Hid (b=false):=by
                           show _=_;rw[←HT2.out,tC];have h1:=HTL.out;match hk:t.kids with
                           | []=>simp
                           | [x]=>rw[hk]at h1;simp at h1;omega
                           | _ :: _ :: _=>simp
                         have e2:((tl:Int)==1)=false:=by rw[beq_eq_false_iff_ne];omega
                         clear hp;go_wp2
                         go_ret;exact⟨by rw[HF.out];rfl,HBw4.out⟩)
            · have HF:Hid (b=false):=by show _=_;rw[←HB.out];unfold kI;rw[HKL.out,decide_eq_false hk];simp
              have e2:((kl:Int) !=0)=true:=by rw[bne_iff_ne];omega
              clear he hm;go_wp2
              go_ret;exact⟨by rw[HF.out];rfl,HBw.out⟩
          · have HF:Hid (b=false):=by show _=_;rw[←HB.out];unfold kI;rw[decide_eq_false hm];simp
            have e1:(m.name.toList==[109,101,116,97])=false:=by
              rw[beq_eq_false_iff_ne];intro h;exact hm (fI (by rw[←toList_data,h];rfl))
            clear he hm;go_wp2
            go_ret;exact⟨by rw[HF.out];rfl,HBw.out⟩)
open Go.RowKit
theorem aJe (VV:fY)(hV:Hid (aG0 VV)):∀(m:Nat) (n:Nd),n.sz≤m→∀(v pv:Value) (ph:List ByteArray) (r:Bool) (w:World),Hid (aA w)→Hid (SmN n)→Hid (ph.length+n.sz≤2000000)→Hid (aQ w n v)→Hid (Phr w pv ph)→Hid (r=true↔cQ VV ph n) →
    Calls Tryz.prog 92 #[v,pv] w (aB r w):=by
  intro m;induction m with
  | zero=>intro n hn;exact absurd (eY n) (by omega)
  | succ m ih =>
    intro n hn v pv ph r w HT HS HL hN hP hr;obtain⟨i9,hi9,hz9,hs9,hb9⟩:=info_parts Tryz.info9;obtain⟨av,a,c,rfl,hA,hK,hlen⟩:=hN.out.get;obtain⟨pa,pc,rfl,hpc⟩:=hP.out.cap;have HK:=hid hK;have HIH:=hid ih;have hsz:=gJ n;have hm:=nL n.kids;have HN:=hid (show ∀k∈n.kids,k.sz≤m∧ph.length+1+k.sz≤2000000 by intro k hk;have h1:=hm.1 k hk;have h2:=HL.out;omega);have hkl:n.kids.length≤2000000:=by have h2:=HL.out;omega
    have hpl:ph.length≤2000000:=by have h2:=HL.out;omega
    have HSN:=hid HS.out.get;have hr2:=hr.out;rw[sM]at hr2
    have HR:=hid hr2;clear hA hK ih hn hN hr hr2 hsz hm HL HS;generalize n.kids=ks at *
    generalize n.name=nm at *
    generalize n.kind=kd at *
    generalize n.space=sp at *
    generalize n.text=tx at *
    generalize n.attrs=at' at *
    have HKA:=hid (fun W=>kS nm W);generalize aW nm.data.toList=K at *
    obtain⟨W0,hW0⟩:∃W0,W0=w.alloc (.cells #[.int .i64 kd,.int .i64 sp,.string nm,av,.string tx,.slice a ks.length c] 45):=⟨_,rfl⟩
    have hB0:Below w.heap.size w W0:=by rw[hW0];exact(Below.refl _ w).alloc aU _
    have hz:W0.heap.size=w.heap.size+1:=by rw[hW0];simp
    have hP0:=(bC w (.int .i64 kd) (.int .i64 sp) (.string nm) av (.string tx) (.slice a ks.length c))
    rw[←hW0]at hP0
    obtain⟨y0,y1,y2,y3,y4,y5⟩:=hP0.zero;have HP0:=hid hP0;have HB0:=hid hB0;have HZ:=hid hz;have HW0:=hid hW0;have HPH:=hid (hP.out.below hB0 aU);clear hP0 hB0 hz hW0 hP;go_enter Tryz.func92,Tryz.ntmps92
    go_wp2_with fail
    rw[←HW0.out];refine(HKA.out _).mono ?_;rintro e w' ⟨rfl,rfl⟩;go_upto_if 10 with fail
    go_cut [1] (fun p wx=>Hid (Phr wx p (if K=4 then ph++[nm]else ph))∧Hid (Below W0.heap.size W0 wx))
    case first =>
      by_cases hk:K=4
      · have e1:((K:Int)==4)=true:=by rw[beq_iff_eq];omega
        have HKK:=hid hk;clear hk;go_wp2_with fail
        obtain⟨S,hS⟩:∃S:World→Prop,∀u,S u↔Below W0.heap.size W0 u:=⟨_,fun _=>Iff.rfl⟩
        have f1:∀s:WIn S,s.w.cell? ⟨w.heap.size,2,none⟩=some (.string nm):=fun s=>(HP0.out.below ((hS _).1 s.h) aU).x2
        haveI:Nonempty (WIn S):=⟨⟨W0,(hS _).2 (Below.refl _ _)⟩⟩
        have HSS:=hid hS;clear hS y0 y1 y2 y3 y4 y5;refine dI 10 [([0,1,2,3,4,5,6,7],8),([],9)] [] S (by kernel_rfl) (by kernel_rfl) ((HSS.out _).2 (below_drewNm W0 1)) ?_;refine bE (fun K' hK'=>?_);simp only[pick,pickZ,pickS,pickG];repeat (go_big_quiet_step (first|rw[aE2 55 9 Tryz.underlying55 i9 hi9]|fail))
        refine wpQuiet_nil (hK' _ (fun Q1 hQ1=>?_));clear hK' K';simp only[pick,pickZ,pickS,pickG];go_wp2
        have hB1:Below W0.heap.size W0 ((W0.drewN 1).alloc (.cells #[.string nm] 9)):=(below_drewNm W0 1).alloc aU _;have HB1:=hid hB1;have hnew:((W0.drewN 1).alloc (.cells #[.string nm] 9)).cell? ⟨W0.heap.size,0,none⟩=some (.string nm):=by rw[cell_of_row _ W0.heap.size 0 _ 9 (0,0) (heap_alloc_new (W0.drewN 1) _)];rfl
        refine hQ1 _ _ ((HSS.out _).2 hB1) (bE (fun K' hK'=>wpQuiet_nil (hK' _ (fun Q2 hQ2=>?_))));clear hK' K' hQ1 Q1 hB1;simp only[pick,pickZ,pickS,pickG];have HPH1:=hid (HPH.out.below HB1.out aU);have hvec:jN ((W0.drewN 1).alloc (.cells #[.string nm] 9)) (.slice pa ph.length ph.length) ph.length (ph.map tR):=by
          obtain⟨a',c',e',h'⟩:=HPH1.out.vec;simp only[Value.slice.injEq]at e';exact⟨a',_,by rw[e'.1],h'⟩
        have HVEC:=hid hvec;have HNEW:=hid hnew;clear hvec hnew;go_wp2_with (at_builtin;refine yX rfl _ _ 55 rfl 9 i9 (.string ⟨#[]⟩) 16 Tryz.underlying55 hi9 hz9 hs9 hb9 _ ph.length (ph.map tR) rfl ⟨_,rfl⟩ HVEC.out (List.length_map ..) _ _ _ rfl HNEW.out (by omega) (by omega) ?_)
        intro v' w' hv' hc' hb';have hB2:Below W0.heap.size W0 w':=HB1.out.trans (hb'.out.mono (by omega));have HB2:=hid hB2;clear hB2;go_wp2_with fail
        refine hQ2 _ _ ((HSS.out _).2 HB2.out) (dP (fun K' hK'=>wpQuiet_nil (hK' _ (fun Q4 hQ4=>?_))));clear hQ2 Q2 hK' K' f1;simp only[List.drop_succ_cons,List.drop_zero];go_wp2_with fail
        go_meet
        case rel =>
          refine⟨?_,HB2⟩;rw[if_pos HKK.out];obtain⟨y',c',e1,e2⟩:=hc'.out;exact hid ⟨by rw[List.length_append,List.map_append];exact hv'.out,⟨y',c',by rw[List.length_append];exact e1,by rw[List.length_append];exact e2⟩⟩
      · have e1:((K:Int)==4)=false:=by rw[beq_eq_false_iff_ne];omega
        have HKK:=hid hk;clear hk;go_wp2_with fail
        go_meet
        case rel=>exact⟨by rw[if_neg HKK.out];exact HPH,hid (Below.refl _ _)⟩
    case rest =>
      obtain⟨hPh,hBc⟩:=hcut;obtain⟨ph2,hph2⟩:∃ph2,ph2=if K=4 then ph++[nm]else ph:=⟨_,rfl⟩
      rw[←hph2]at hPh HR
      have hpl2:ph2.length≤2000001:=by
        rw[hph2];split
        · rw[List.length_append,List.length_singleton];omega
        · omega
      have HN2:=hid (show ∀k∈ks,k.sz≤m∧ph2.length+k.sz≤2000000 by
        intro k hk;have h1:=HN.out k hk;refine⟨h1.1,?_⟩;rw[hph2];split
        · rw[List.length_append,List.length_singleton];omega
        · omega)
      clear hph2 HN HPH y0 y1 y2 y3 y4 y5;have hBw:Below w.heap.size w wc:=HB0.out.trans (hBc.out.mono HB0.out.size);have HBw:=hid hBw;obtain⟨y0,y1,y2,y3,y4,y5⟩:=(HP0.out.below hBc.out aU).zero;have HHA:=hid (iH.start HR.out);clear hBw;go_wp2_with fail
      go_loopw [4,24] (fun _ i wx=>∃k:Nat,i=.int .i64 k∧Hid (iH VV ks nm ph2 r k)∧Hid (Below wc.heap.size wc wx)) (fun _ i _=>ks.length-(intOf i).toNat)
      case atStart=>exact⟨0,rfl,HHA,hid (Below.refl _ _)⟩
      case round =>
        obtain⟨k,rfl,hHA,hB⟩:=hrel;have hk:=hHA.out.le;rcases Nat.lt_or_ge k ks.length with hlt|hge
        · have hst:=HHA
          obtain⟨g,off,c0,c1,c2,c3,c4,c5,rfl,h6,hn⟩:=HK.out.get ks 0 k hlt;rw[Nat.zero_add]at h6
          have HPV:=hid (show 0<k→∃hj:k-1<ks.length,wr.cell? ⟨g,off+(k-1)*6,none⟩=some (.int .i64 (ks[k-1]'hj).kind) by
            intro h0;have hj:k-1<ks.length:=by omega
            obtain⟨g',off',d0,d1,d2,d3,d4,d5,e',h6',hn'⟩:=HK.out.get ks 0 (k-1) hj;rw[Nat.zero_add]at h6'
            cases e';obtain⟨_,_,_,_,rfl,_⟩:=hn'.cells;exact⟨hj,(h6'.below (HBw.out.trans (hB.out.mono HBw.out.size)) aU).x0⟩)
          have hBr:Below w.heap.size w wr:=HBw.out.trans (hB.out.mono HBw.out.size);obtain⟨x0,x1,x2,x3,x4,x5⟩:=h6.below hBr aU;obtain⟨a1,b1,a2,b2,rfl,rfl,rfl,rfl,rfl,rfl⟩:=hn.cells;have HND:=hid (hn.below hBr aU);have HSQ:=hid (SmK.get ks k hlt HSN.out.2.2.2.2);have HIQ:=hid (HIH.out ks[k] (HN2.out _ (List.getElem_mem hlt)).1);have HLQ:=hid (HN2.out _ (List.getElem_mem hlt)).2;have HNO:=hid (hHA.out.no hlt);have HYES:=hid (hHA.out.yes hlt);have HBr:=hid hBr;clear hst hn h6 hBr;generalize ks[k]=q at *
          obtain⟨W1,hW1⟩:∃W1,W1=wr.alloc (.cells #[.int .i64 q.kind,.int .i64 q.space,.string q.name,.slice a1 q.attrs.length b1,.string q.text,.slice a2 q.kids.length b2] 45):=⟨_,rfl⟩
          have hB1:Below wr.heap.size wr W1:=by rw[hW1];exact(Below.refl _ wr).alloc aU _
          have hP1:=bC wr (.int .i64 q.kind) (.int .i64 q.space) (.string q.name) (.slice a1 q.attrs.length b1) (.string q.text) (.slice a2 q.kids.length b2);rw[←hW1]at hP1
          have HP1:=hid hP1;have HB1:=hid hB1;have HW1:=hid hW1;have HND1:=hid (HND.out.below hB1 aU);clear hB1 hP1 hW1 HND;go_wp2_with fail
          rw[←HW1.out];have hBw1:Below w.heap.size w W1:=HBr.out.trans (HB1.out.mono HBr.out.size);refine(aC4 q.kind q.space q.name q.text (by have:=HSQ.out.get.2.1;omega) a1 q.attrs.length b1 a2 q.kids.length b2 W1 (HT.out.below hBw1 aU) (cN q) (hid rfl)).mono ?_;unfold aB;rintro e W2 ⟨rfl,B2⟩;have HP2:=hid (HP1.out.below B2 aU);have HND2:=hid (HND1.out.below B2 aU);have hB12:Below wr.heap.size wr W2:=HB1.out.trans (B2.mono HB1.out.size);have HB2:=hid hB12;have HBw2:=jO HBr hB12;have HBc2:=jO hB hB12;clear HP1 HND1 HB1 hBw1 B2 hB12;obtain⟨y0,y1,y2,y3,y4,y5⟩:=((HP0.out.below hBc.out aU).below HBc2.out aU).zero;cases hw:cN q with
          | true =>
            have HWQ:=hid hw;clear hw;go_wp2_with fail
            refine(aKs nm W2).mono ?_;rintro e w' ⟨rfl,rfl⟩;cases ht:mI nm.data.toList with
            | false =>
              have HF:=hid (HNO.out (oA HWQ.out (.inl ht)));clear ht;go_wp2
              go_ret;exact⟨by rw[HF.out];rfl,HBw2.out⟩
            | true =>
              rcases Nat.eq_zero_or_pos k with h0|h0
              · subst h0
                have HF:=hid (HYES.out (sO HWQ.out ht rfl));clear ht;go_wp2
                go_roundw
                case rel=>exact⟨1,rfl,HF,HBc2⟩
                case measure=>simp[intOf];omega
              · obtain⟨hj,hc⟩:=HPV.out h0
                have hpt:=aC3 ks (k-1) hj;rw[show k-1+1=k by omega]at hpt
                have hc2:W2.cell? ⟨g,off+(k-1)*6,none⟩=some (.int .i64 (ks[k-1]).kind):=by
                  rw[HB2.out.cell (p:=⟨g,off+(k-1)*6,none⟩) (World.block_lt_of_cell? _ _ hc)];exact hc
                have HPT:=hid hpt;have HTT:=hid ht;clear hc hpt ht;generalize ks[k-1].kind=pk at *
                by_cases hp2:pk=2
                · have e1:(pk==2)=true:=by rw[beq_iff_eq];exact hp2
                  have HF:=hid (HNO.out (oA HWQ.out (.inr (HPT.out.trans (decide_eq_true hp2)))));clear hp2;go_wp2
                  go_ret;exact⟨by rw[HF.out];rfl,HBw2.out⟩
                · have e1:(pk==2)=false:=by rw[beq_eq_false_iff_ne];exact hp2
                  have HF:=hid (HYES.out (sO HWQ.out HTT.out (HPT.out.trans (decide_eq_false hp2))));clear hp2;go_wp2
                  go_roundw
                  case rel=>exact⟨k+1,by go_num,HF,HBc2⟩
                  case measure=>simp[intOf];omega
          | false =>
            have HWQ:=hid hw;clear hw;obtain⟨z0,z1,z2,z3,z4,z5⟩:=HP2.out.zero;go_wp2_with fail
            refine(aAt q.kind q.space q.name q.text (.slice a1 q.attrs.length b1) (.slice a2 q.kids.length b2) W2 (fF q) (hid rfl)).mono ?_;unfold aB;rintro e W3 ⟨rfl,B3⟩;have HP3:=hid (HP2.out.below B3 aU);have HND3:=hid (HND2.out.below B3 aU);have hB13:Below wr.heap.size wr W3:=HB2.out.trans (B3.mono HB2.out.size);have HB3:=hid hB13;have HBw3:=jO HBr hB13;have HBc3:=jO hB hB13;clear y0 y1 y2 y3 y4 y5 z0 z1 z2 z3 z4 z5 HP2 HND2 HB2 HBw2 HBc2 B3 hB13;obtain⟨y0,y1,y2,y3,y4,y5⟩:=((HP0.out.below hBc.out aU).below HBc3.out aU).zero;obtain⟨z0,z1,z2,z3,z4,z5⟩:=HP3.out.zero;cases he:fF q with
            | false =>
              have HF:=hid (HNO.out (dH HWQ.out (.inl he)));clear he;go_wp2
              go_ret;exact⟨by rw[HF.out];rfl,HBw3.out⟩
            | true =>
              have HE:=hid he;clear he;go_wp2_with fail
              refine(uE nm q.name W3).mono ?_;rintro e w' ⟨rfl,rfl⟩;cases hm:mY nm.data.toList q.name.data.toList with
              | false =>
                have HF:=hid (HNO.out (dH HWQ.out (.inr (.inl hm))));clear hm;go_wp2
                go_ret;exact⟨by rw[HF.out];rfl,HBw3.out⟩
              | true =>
                have HM:=hid hm;clear hm;have hPh3:=hPh.out.below HBc3.out aU;have C:=rJ u1 ph2 q.name W3 (by omega) hPh3.vec _ rfl;have HC:=hid C;have HPh3:=hid hPh3;clear C hPh3;go_wp2_with fail
                refine HC.out.mono ?_;rintro e w' ⟨rfl,rfl⟩;clear HC;cases hct:Lib.containsS ph2 q.name with
                | true =>
                  have HF:=hid (HNO.out (dH HWQ.out (.inr (.inr (.inl ((Lib.containsS_iff _ _).1 hct))))));clear hct;go_wp2
                  go_ret;exact⟨by rw[HF.out];rfl,HBw3.out⟩
                | false =>
                  have HCT:=hid (show q.name∉ph2 from fun h=>by rw[(Lib.containsS_iff _ _).2 h]at hct;cases hct);clear hct;have HPS:=hid (aC2 ks k hk);obtain⟨c1,hc1⟩:∃c1:Bool,(q.name.toList==[99,97,112,116,105,111,110])=c1:=⟨_,rfl⟩
                  have hcap:q.name=lB→c1=true:=fun h=>by rw[←hc1,h];decide +kernel
                  have hcap2:c1=true→q.name=lB:=fun h=>by
                    rw[h]at hc1
                    exact fI (by rw[←toList_data,eq_of_beq hc1];rfl)
                  have hways:(c1=true∧0<k)∨(c1=true∧¬ 0<k)∨c1=false:=by
                    cases c1
                    · exact .inr (.inr rfl)
                    · by_cases h:0<k
                      · exact .inl ⟨rfl,h⟩
                      · exact .inr (.inl ⟨rfl,h⟩)
                  rcases hways with⟨rfl,hpos⟩|hways
                  · have HF:=hid (HNO.out (dH HWQ.out (.inr (.inr (.inr (.inl ⟨hcap2 rfl,HPS.out.trans (decide_eq_true hpos)⟩))))))
                    clear hcap hcap2;go_wp2
                    go_ret;exact⟨by rw[HF.out];rfl,HBw3.out⟩
                  have HCAP:Hid (¬(q.name=lB∧(jE ks k).isSome=true)):=by
                    rintro⟨h1,h2⟩;have h3:=hcap h1;rw[HPS.out]at h2
                    have h4:=of_decide_eq_true h2;rcases hways with⟨_,h5⟩|h5
                    · exact h5 h4
                    · rw[h5]at h3;cases h3
                  clear hcap hcap2;rcases hways with hways|hways
                  all_goals (first|obtain⟨rfl,_⟩:=hways|obtain rfl:=hways)
                  all_goals go_upto_region 11 with fail
                  all_goals (
                    clear hc1;obtain⟨S,hS⟩:∃S:World→Prop,∀u,S u↔Below W3.heap.size W3 u:=⟨_,fun _=>Iff.rfl⟩
                    have g0:∀s:WIn S,s.w.cell? ⟨wr.heap.size,0,none⟩=some (.int .i64 q.kind):=fun s=>(HP3.out.below ((hS _).1 s.h) aU).x0
                    have g1:∀s:WIn S,s.w.cell? ⟨wr.heap.size,1,none⟩=some (.int .i64 q.space):=fun s=>(HP3.out.below ((hS _).1 s.h) aU).x1
                    have g2:∀s:WIn S,s.w.cell? ⟨wr.heap.size,2,none⟩=some (.string q.name):=fun s=>(HP3.out.below ((hS _).1 s.h) aU).x2
                    have g3:∀s:WIn S,s.w.cell? ⟨wr.heap.size,3,none⟩=some (.slice a1 q.attrs.length b1):=fun s=>(HP3.out.below ((hS _).1 s.h) aU).x3
                    have g4:∀s:WIn S,s.w.cell? ⟨wr.heap.size,4,none⟩=some (.string q.text):=fun s=>(HP3.out.below ((hS _).1 s.h) aU).x4
                    have g5:∀s:WIn S,s.w.cell? ⟨wr.heap.size,5,none⟩=some (.slice a2 q.kids.length b2):=fun s=>(HP3.out.below ((hS _).1 s.h) aU).x5
                    haveI:Nonempty (WIn S):=⟨⟨W3,(hS _).2 (Below.refl _ _)⟩⟩
                    have HSS:=hid hS;clear hS y0 y1 y2 y3 y4 y5 z0 z1 z2 z3 z4 z5;refine dI 14 [([0,1,2,3,5,6],4),([],7),([8,9,10,11],12)] [13] S (by kernel_rfl) (by kernel_rfl) ((HSS.out _).2 (below_drewNm W3 1)) ?_;refine bE (fun K' hK'=>?_);simp only[pick,pickZ,pickS,pickG];repeat (go_big_quiet_step (fail))
                    refine wpQuiet_nil (hK' _ (fun Q1 hQ1=>?_));clear hK' K';simp only[pick,pickZ,pickS,pickG];go_wp2_with fail
                    have hB3d:Below W3.heap.size W3 (W3.drewN 1):=below_drewNm W3 1;have hA3:=HND3.out.attrs;have HA3:=hid hA3;have hBd:Below w.heap.size w (W3.drewN 1):=HBw3.out.trans (hB3d.mono HBw3.out.size);refine(aHA q.name (by have:=HSQ.out.get.1;omega) (VV q.name) (hid (fun n v h1 h2=>hV.out q.name n v HSQ.out.get.1 h1 h2)) q.attrs HSQ.out.get.2.2.1 (hid HSQ.out.get.2.2.2.1) (.slice a1 q.attrs.length b1) (W3.drewN 1) (HT.out.below hBd aU) (hid (HA3.out.below hB3d aU))).mono ?_;unfold pI;rintro e W4 ⟨v4,r4,rfl,hr4,hO4⟩;have hB34:Below W3.heap.size W3 W4:=hB3d.trans (hO4.bel.mono hB3d.size);have HB34:=hid hB34;have HR4:=hid hr4;have HV4:=hid hO4.attrs;have HA4:=hid (HA3.out.below hB34 aU);have HL4:=hid (show r4.length≤1000000000 by
                      have h1:=hr4.1.length_eq;have h2:=aCF (VV q.name) q.attrs [];have h3:=HSQ.out.get.2.2.1;omega)
                    clear hB34 hr4 hO4 hA3 hB3d hBd;go_wp2_with fail
                    refine hQ1 _ _ ((HSS.out _).2 HB34.out) (bE (fun K' hK'=>wpQuiet_nil (hK' _ (fun Q2 hQ2=>?_))));clear hK' K' hQ1 Q1;simp only[pick,pickZ,pickS,pickG];go_wp2_with fail
                    obtain⟨be,hbe⟩:∃be:Bool,decide (r4=q.attrs)=be:=⟨_,rfl⟩
                    refine(aCN v4 (.slice a1 q.attrs.length b1) r4 q.attrs HL4.out (by have:=HSQ.out.get.2.2.1;omega) W4 HV4 HA4 be (hid hbe)).mono ?_;unfold aB;rintro e W5 ⟨rfl,B5⟩;have hB35:Below W3.heap.size W3 W5:=HB34.out.trans (B5.mono HB34.out.size);have HB35:=hid hB35;have hBw5:Below w.heap.size w W5:=HBw3.out.trans (hB35.mono HBw3.out.size);have HBw5:=hid hBw5;clear hB35 hBw5 B5;cases be with
                    | false =>
                      have HF:=hid (HNO.out (dH HWQ.out (.inr (.inr (.inr (.inr (.inl (fun h=>of_decide_eq_false hbe (wT HR4.out h)))))))));clear hbe;go_wp2_with fail
                      refine hQ2 _ _ ((HSS.out _).2 HB35.out) (bE (fun K' hK'=>?_));clear hQ2 Q2;simp only[pick,pickZ,pickS,pickG];repeat (go_big_quiet_step (fail))
                      refine wpQuiet_nil (hK' _ (fun Q3 hQ3=>?_));clear hK' K';simp only[pick,pickZ,pickS,pickG];go_wp2_with fail
                      refine hQ3 _ _ ((HSS.out _).2 HB35.out) (dP (fun K' hK'=>?_));clear hQ3 Q3;simp only[pick,pickZ,pickS,pickG];repeat (go_big_quiet_step (fail))
                      refine wpQuiet_nil (hK' _ (fun Q4 hQ4=>?_));clear hK' K';simp only[List.drop_succ_cons,List.drop_zero];clear g0 g1 g2 g3 g4 g5;go_wp2
                      go_ret;exact⟨by rw[HF.out];rfl,HBw5.out⟩
                    | true =>
                      have HEQ:=hid (show kM (VV q.name) q.attrs q.attrs by
                        have h1:=HR4.out;rw[of_decide_eq_true hbe]at h1
                        exact h1)
                      clear hbe;obtain⟨b5,hb5⟩:∃b5:Bool,b5=true↔cQ VV ph2 q:=by
                        by_cases h:cQ VV ph2 q
                        · exact⟨true,fun _=>h,fun _=>rfl⟩
                        · exact⟨false,⟨fun e=>(by cases e),fun e=>absurd e h⟩⟩
                      have HB5:=hid hb5;clear hb5;go_wp2_with fail
                      refine hQ2 _ _ ((HSS.out _).2 HB35.out) (bE (fun K' hK'=>?_));clear hQ2 Q2;simp only[pick,pickZ,pickS,pickG];repeat (go_big_quiet_step (fail))
                      refine wpQuiet_nil (hK' _ (fun Q3 hQ3=>?_));clear hK' K';simp only[pick,pickZ,pickS,pickG];go_wp2_with fail
                      refine(HIQ.out _ u1 ph2 b5 W5 (hid (HT.out.below HBw5.out aU)) HSQ HLQ (hid (HND3.out.below HB35.out aU)) (hid (HPh3.out.below HB35.out aU)) HB5).mono ?_;unfold aB;rintro e W6 ⟨rfl,B6⟩;have hB36:Below W3.heap.size W3 W6:=HB35.out.trans (B6.mono HB35.out.size);have HB36:=hid hB36;have HBw6:=jO HBw3 hB36;have HBc6:=jO HBc3 hB36;clear hB36 B6;go_wp2_with fail
                      refine hQ3 _ _ ((HSS.out _).2 HB36.out) (dP (fun K' hK'=>?_));clear hQ3 Q3;simp only[pick,pickZ,pickS,pickG];repeat (go_big_quiet_step (fail))
                      refine wpQuiet_nil (hK' _ (fun Q4 hQ4=>?_));clear hK' K';simp only[List.drop_succ_cons,List.drop_zero];clear g0 g1 g2 g3 g4 g5;cases b5 with
                      | false =>
                        have HF:=hid (HNO.out (dH HWQ.out (.inr (.inr (.inr (.inr (.inr (fun h=>by have:=HB5.out.2 h;cases this))))))));go_wp2
                        go_ret;exact⟨by rw[HF.out];rfl,HBw6.out⟩
                      | true =>
                        have HF:=hid (HYES.out (aEr HWQ.out HE.out HM.out HCT.out HCAP.out HEQ.out (HB5.out.1 rfl)));go_wp2
                        go_roundw
                        case rel=>exact⟨k+1,by go_num,HF,HBc6⟩
                        case measure=>simp[intOf];omega)
        · have HRR:=hid (hHA.out.done hge)
          go_wp2
          go_ret;exact⟨by rw[HRR.out];rfl,HBw.out.trans (hB.out.mono HBw.out.size)⟩
open Go.RowKit
def nG (VV:fY)(n:Nd):Prop :=
  0≤eG 32 n 1000∧bT n eV=true∧∃h b,n.kids=[h,b]∧bT h kJ=true∧dW h.kids=true∧bT b gV=true∧cQ VV [] b
theorem nM (w:World)(c0 c1 c2 c3 c4 c5 d0 d1 d2 d3 d4 d5:Value) :
    Six (((w.alloc (.cells #[c0,c1,c2,c3,c4,c5] 45)).alloc (.cells #[d0,d1,d2,d3,d4,d5] 45)).drew) w.heap.size 0 c0 c1 c2 c3 c4 c5 ∧
    Six (((w.alloc (.cells #[c0,c1,c2,c3,c4,c5] 45)).alloc (.cells #[d0,d1,d2,d3,d4,d5] 45)).drew) (w.heap.size+1) 0 d0 d1 d2 d3 d4 d5 ∧
    Below w.heap.size w (((w.alloc (.cells #[c0,c1,c2,c3,c4,c5] 45)).alloc (.cells #[d0,d1,d2,d3,d4,d5] 45)).drew):=by
  refine⟨?_,?_,(((Below.refl _ w).alloc aU _).alloc (by simp) _).drew⟩
  · exact(bC w c0 c1 c2 c3 c4 c5).below ((Below.refl _ (w.alloc _)).alloc aU _).drew aU
  · have h:=(bC (w.alloc (.cells #[c0,c1,c2,c3,c4,c5] 45)) d0 d1 d2 d3 d4 d5).below (Below.refl _ _).drew aU
    rw[show(w.alloc (.cells #[c0,c1,c2,c3,c4,c5] 45)).heap.size=w.heap.size+1 by simp]at h
    exact h
theorem aCS (VV:fY)(hV:Hid (aG0 VV))(n:Nd)(hz:n.sz≤1000000)(v:Value)(r:Bool)(w:World)(HT:Hid (aA w))(HS:Hid (SmN n))(hN:Hid (aQ w n v))(hr:Hid (r=true↔nG VV n)) :
    Calls Tryz.prog 41 #[v] w (aB r w):=by
  obtain⟨av,a,c,rfl,hA,hK,hlen⟩:=hN.out.get;obtain⟨aa,ca,rfl,hAA⟩:=hA;have HK:=hid hK;have HSZ:=hid (show n.sz=1+aG n.kids from gJ n);have HSN:=hid HS.out.get;have HZ:=hid hz;have NO:=fun(h:¬nG VV n)=>(show r=false by cases hrr:r with|false=>rfl|true=>exact absurd (hr.out.1 hrr) h)
  have HNO:=hid NO;clear hK hAA hz NO;obtain⟨L,hL⟩:∃L,eG 32 n 1000=L:=⟨_,rfl⟩
  have HL:=hid hL;have HF:=hid (fun W hW=>aGq n.sz n aU (.agg #[.int .i64 n.kind,.int .i64 n.space,.string n.name,.slice aa n.attrs.length ca,.string n.text,.slice a n.kids.length c]) 32 32 1000 L W (hid rfl) (by omega) (by omega) (by omega) hW HL);have HP:=hid (fun W=>sS n.kind n.space n.name n.text aa n.attrs.length ca (.slice a n.kids.length c) eV W (bT n eV) (hid rfl));clear hL;generalize hkl:n.kids.length=kl at *
  generalize hal:n.attrs.length=al at *
  have HKL:=hid hkl;clear hkl hal;obtain⟨W0,hW0⟩:∃W0,W0=w.alloc (.cells #[.int .i64 n.kind,.int .i64 n.space,.string n.name,.slice aa al ca,.string n.text,.slice a kl c] 45):=⟨_,rfl⟩
  have hB0:Below w.heap.size w W0:=by rw[hW0];exact(Below.refl _ w).alloc aU _
  have hQ:=bC w (.int .i64 n.kind) (.int .i64 n.space) (.string n.name) (.slice aa al ca) (.string n.text) (.slice a kl c);rw[←hW0]at hQ
  have HQ:=hid hQ;have HB0:=hid hB0;have HW0:=hid hW0;clear hQ hB0 hW0;go_enter Tryz.func41,Tryz.ntmps41
  go_wp2_with fail
  rw[←HW0.out];refine(HF.out W0 (hid (hN.out.below HB0.out aU))).mono ?_;rintro e W1 ⟨rfl,B1⟩;obtain⟨q0,q1,q2,q3,q4,q5⟩:=(HQ.out.below B1 aU).zero;have HQ1:=hid (HQ.out.below B1 aU);have HB1:=jO HB0 B1;clear B1 HF HQ HB0 HW0;rcases Int.lt_or_le L 0 with hneg|hpos
  · have HR:=hid (HNO.out (fun h=>absurd h.1 (by rw[HL.out];omega)))
    have e0:decide (L<0)=true:=decide_eq_true hneg;go_wp2
    go_ret;exact⟨by rw[HR.out];rfl,HB1.out⟩
  · have e0:decide (L<0)=false:=decide_eq_false (by omega)
    have HPOS:=hid hpos;clear hpos;go_wp2_with fail
    refine(HP.out _).mono ?_;unfold aB;rintro e W2 ⟨rfl,B2⟩;have HQ2:=hid (HQ1.out.below B2 aU);have HB2:=jO HB1 B2;clear B2 HP HQ1 HB1 e0 q0 q1 q2 q3 q4 q5;obtain⟨q0,q1,q2,q3,q4,q5⟩:=HQ2.out.zero;cases hp:bT n eV with
    | false =>
      have HR:=hid (HNO.out (fun h=>by have h1:=h.2.1;rw[hp]at h1;cases h1));clear hp;go_wp2
      go_ret;exact⟨by rw[HR.out];rfl,HB2.out⟩
    | true =>
      have HPP:=hid hp;clear hp;by_cases h2:kl=2
      · subst h2
        obtain⟨kh,kb,hk2⟩:∃h b,n.kids=[h,b]:=by
          have h:=HKL.out;match hkk:n.kids with
          | []=>rw[hkk]at h;simp at h
          | [_]=>rw[hkk]at h;simp at h
          | [x,y]=>exact⟨x,y,rfl⟩
          | _ :: _ :: _ :: _=>rw[hkk]at h;simp at h
        have hkk:=HK.out;have hss:=HSN.out.2.2.2.2;have hzz:=HSZ.out;have hnn:∀x,x∈n.kids→x.sz≤aG n.kids:=(nL n.kids).1;rw[hk2]at hkk hss hzz hnn
        obtain⟨g,off,c0,c1,c2,c3,c4,c5,rfl,h6,hn6⟩:=hkk.get [kh,kb] 0 0 (by simp);obtain⟨g',off',d0,d1,d2,d3,d4,d5,e,h7,hn7⟩:=hkk.get [kh,kb] 0 1 (by simp);cases e;simp only[List.getElem_cons_succ,List.getElem_cons_zero,Nat.zero_add,Nat.zero_mul,Nat.one_mul,Nat.add_zero]at h6 h7 hn6 hn7;obtain⟨a1,b1,a2,b2,rfl,rfl,rfl,rfl,rfl,rfl⟩:=hn6.cells;obtain⟨l1,l2,l3,l4,rfl,rfl,rfl,rfl,rfl,rfl⟩:=hn7.cells;have HN6:=hid hn6;have HN7:=hid hn7;have HSH:=hid (show SmN kh by unfold SmK at hss;exact hss.1);have HSB:=hid (show SmN kb by unfold SmK at hss;obtain⟨_,h⟩:=hss;unfold SmK at h;exact h.1);have HZB:=hid (show kb.sz≤1000000 by have h1:=hnn kb (by simp);have h2:=HZ.out;omega);have hzh:kh.kids.length≤2000000:=by
          have h1:=hnn kh (by simp);have h2:=HZ.out;have h3:=gJ kh;have h4:=(nL kh.kids).2;omega
        have HK2:=hid hk2;obtain⟨x0,x1,x2,x3,x4,x5⟩:=h6.below HB2.out aU;obtain⟨z0,z1,z2,z3,z4,z5⟩:=h7.below HB2.out aU;have hg1:g<W2.heap.size:=World.block_lt_of_cell? W2 _ x0;have hg2:w.heap.size<W2.heap.size:=World.block_lt_of_cell? W2 _ q5;have hg3:¬g=W2.heap.size:=by omega
        have hg4:¬w.heap.size=W2.heap.size:=by omega
        have hg5:¬g=W2.heap.size+1:=by omega
        have hg6:¬w.heap.size=W2.heap.size+1:=by omega
        have hg7:¬W2.heap.size=g:=by omega
        have hg8:¬W2.heap.size=w.heap.size:=by omega
        have HZH:=hid hzh;clear hkk hss hzz hnn hk2 hn6 hn7 h6 h7 hzh;go_upto_region 3 with fail
        go_cut [3,4] (fun p3 p4 wx=>∃gh gb,p3=.pointer (some ⟨gh,0,none⟩)∧p4=.pointer (some ⟨gb,0,none⟩)∧Hid (Six wx gh 0 (.int .i64 kh.kind) (.int .i64 kh.space) (.string kh.name) (.slice a1 kh.attrs.length b1) (.string kh.text) (.slice a2 kh.kids.length b2))∧Hid (Six wx gb 0 (.int .i64 kb.kind) (.int .i64 kb.space) (.string kb.name) (.slice l1 kb.attrs.length l2) (.string kb.text) (.slice l3 kb.kids.length l4))∧Hid (Below W2.heap.size W2 wx))
        case first =>
          go_region
          all_goals (
            clear x0 x1 x2 x3 x4 x5 z0 z1 z2 z3 z4 z5 q0 q1 q2 q3 q4 q5 hg1 hg2 hg3 hg4 hg5 hg6 hg7 hg8;go_wp2_with fail
            go_meet)
          all_goals first
            | exact⟨_,_,rfl,rfl,hid (nM W2 _ _ _ _ _ _ _ _ _ _ _ _).1,hid (nM W2 _ _ _ _ _ _ _ _ _ _ _ _).2.1,hid (nM W2 _ _ _ _ _ _ _ _ _ _ _ _).2.2⟩
            | exact⟨_,_,rfl,rfl,hid (nM W2 _ _ _ _ _ _ _ _ _ _ _ _).2.1,hid (nM W2 _ _ _ _ _ _ _ _ _ _ _ _).1,hid (nM W2 _ _ _ _ _ _ _ _ _ _ _ _).2.2⟩
        case rest =>
          obtain⟨gh,gb,rfl,rfl,SH,SB,hBc⟩:=hcut;clear x0 x1 x2 x3 x4 x5 z0 z1 z2 z3 z4 z5 q0 q1 q2 q3 q4 q5 hg1 hg2 hg3 hg4 hg5 hg6 hg7 hg8;have HBc:=jO HB2 hBc.out;have HPH:=hid (fun W=>sS kh.kind kh.space kh.name kh.text a1 kh.attrs.length b1 (.slice a2 kh.kids.length b2) kJ W (bT kh kJ) (hid rfl));have HPB:=hid (fun W=>sS kb.kind kb.space kb.name kb.text l1 kb.attrs.length l2 (.slice l3 kb.kids.length l4) gV W (bT kb gV) (hid rfl));have HHD:=hid (fun W hT hK=>aJd kh.kids a2 b2 HZH.out W hT (hid HSH.out.get.2.2.2.2) hK (dW kh.kids) (hid rfl));have HKH:=hid HN6.out.kidsV;obtain⟨br,hbr⟩:∃br:Bool,br=true↔cQ VV [] kb:=by
            by_cases h:cQ VV [] kb
            · exact⟨true,fun _=>h,fun _=>rfl⟩
            · exact⟨false,⟨fun e=>(by cases e),fun e=>absurd e h⟩⟩
          have HBR:=hid hbr;have NO:=fun(h:¬(bT kh kJ=true∧dW kh.kids=true∧bT kb gV=true∧br=true))=>HNO.out (fun hp=>by
            obtain⟨_,_,x,y,hk,p1,p2,p3,p4⟩:=hp;rw[HK2.out]at hk
            simp only[List.cons.injEq,and_true]at hk;obtain⟨rfl,rfl⟩:=hk;exact h ⟨p1,p2,p3,HBR.out.2 p4⟩)
          have HNO2:=hid NO;have YES:=fun(h1:bT kh kJ=true) (h2:dW kh.kids=true) (h3:bT kb gV=true) (h4:br=true)=>hr.out.2 ⟨by rw[HL.out];exact HPOS.out,HPP.out,kh,kb,HK2.out,h1,h2,h3,HBR.out.1 h4⟩
          have HYES:=hid YES;clear hbr NO YES;obtain⟨x0,x1,x2,x3,x4,x5⟩:=SH.out.zero;go_wp2_with fail
          refine(HPH.out _).mono ?_;unfold aB;rintro e W5 ⟨rfl,B5⟩;have SH5:=hid (SH.out.below B5 aU);have SB5:=hid (SB.out.below B5 aU);have HB5:=jO HBc B5;clear B5 SH SB HPH x0 x1 x2 x3 x4 x5;obtain⟨x0,x1,x2,x3,x4,x5⟩:=SH5.out.zero;cases c1:bT kh kJ with
          | false =>
            have HR:=hid (HNO2.out (fun h=>by have h1:=h.1;rw[c1]at h1;cases h1));clear c1;go_wp2
            go_ret;exact⟨by rw[HR.out];rfl,HB5.out⟩
          | true =>
            have C1:=hid c1;clear c1;go_wp2_with fail
            refine(HHD.out W5 (hid (HT.out.below HB5.out aU)) (hid (HKH.out.below HB5.out aU))).mono ?_;unfold aB;rintro e W6 ⟨rfl,B6⟩;have SB6:=hid (SB5.out.below B6 aU);have HB6:=jO HB5 B6;clear B6 SH5 SB5 HHD x0 x1 x2 x3 x4 x5;obtain⟨x0,x1,x2,x3,x4,x5⟩:=SB6.out.zero;cases c2:dW kh.kids with
            | false =>
              have HR:=hid (HNO2.out (fun h=>by have h1:=h.2.1;rw[c2]at h1;cases h1));clear c2;go_wp2
              go_ret;exact⟨by rw[HR.out];rfl,HB6.out⟩
            | true =>
              have C2:=hid c2;clear c2;go_wp2_with fail
              refine(HPB.out _).mono ?_;unfold aB;rintro e W7 ⟨rfl,B7⟩;have SB7:=hid (SB6.out.below B7 aU);have HB7:=jO HB6 B7;clear B7 SB6 HPB x0 x1 x2 x3 x4 x5;obtain⟨x0,x1,x2,x3,x4,x5⟩:=SB7.out.zero;cases c3:bT kb gV with
              | false =>
                have HR:=hid (HNO2.out (fun h=>by have h1:=h.2.2.1;rw[c3]at h1;cases h1));clear c3;go_wp2
                go_ret;exact⟨by rw[HR.out];rfl,HB7.out⟩
              | true =>
                have C3:=hid c3;clear c3;go_wp2_with fail
                refine(aJe VV hV kb.sz kb aU _ (.slice none 0 0) [] br W7 (hid (HT.out.below HB7.out aU)) HSB (hid (by have:=HZB.out;simp;omega)) (hid (HN7.out.below HB7.out aU)) (hid (Phr.nil W7)) HBR).mono ?_;unfold aB;rintro e W8 ⟨rfl,B8⟩;have HB8:=jO HB7 B8;clear B8 x0 x1 x2 x3 x4 x5;cases br with
                | false =>
                  have HR:=hid (HNO2.out (fun h=>by cases h.2.2.2));go_wp2
                  go_ret;exact⟨by rw[HR.out];rfl,HB8.out⟩
                | true =>
                  have HR:=hid (HYES.out C1.out C2.out C3.out rfl);go_wp2
                  go_ret;exact⟨by rw[HR.out];rfl,HB8.out⟩
      · have HR:=hid (HNO.out (fun h=>by
          obtain⟨_,_,x,y,hk,_⟩:=h;have:=HKL.out;rw[hk]at this
          exact h2 this.symm))
        have e2:((kl:Int) !=2)=true:=by rw[bne_iff_ne];omega
        go_wp2
        go_ret;exact⟨by rw[HR.out];rfl,HB2.out⟩
end Go.Proofs.YtcfgbdhpcboikaaGreatDoor
