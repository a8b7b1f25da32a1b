/-
policy.heads of every list of nodes.
-/
import Derived.Test.YtcfgbdhpcboikaaGreatDoorSieveM
namespace Go.Proofs.YtcfgbdhpcboikaaGreatDoor
open Go.Lib (hid)
set_option maxHeartbeats 8000000
set_option maxRecDepth 100000
open Go.RowKit
theorem bI {n:Nat}:n≤n:=Nat.le_refl n
theorem jH {a w v:World}(h:Hid (Below a.heap.size a w))(b:Below w.heap.size w v):Hid (Below a.heap.size a v):=hid (h.out.trans (b.mono h.out.size))
theorem aL.kidsV {w:World}{n:Nd}{c0 c1 c2 c3 c4:Value}{a:Option Addr}{m b:Nat}(h:aL w n (.agg #[c0,c1,c2,c3,c4,.slice a m b])):aT w a 0 n.kids:=by
  obtain⟨av,a',c',e,_,hK,_⟩:=h.get;simp only[Value.agg.injEq]at e;have e5:=congrArg (fun x:Array Value=>x[5]?) e;simp at e5;rw[e5.1];exact hK
def kZ (m:Nd):Bool:=mZ m&&(decide (m.name=aGD)&&(decide (m.kids.length=0)&&decide (m.attrs=gU)))
def eJ (t:Nd)(name:ByteArray):Bool:=aAG t.kind t.space t.name t.text t.attrs.length name
def oX (t:Nd):Bool:=eJ t bB&&(match t.kids with|[x]=>dB x|_=>false)
theorem vU (t:Nd):oX t=(eJ t bB&&(match t.kids with|[x]=>dB x|_=>false)):=rfl
def kH:List Nd→Bool
  | []=>false
  | m :: []=>kZ m
  | m :: [t]=>kZ m&&oX t
  | _ :: _ :: _ :: _=>false
theorem aEr (m:Nd)(ks:List Nd)(h:ks.length≤1):kH (m :: ks)=(kZ m&&(match ks with|[t]=>oX t|_=>true)):=by
  match ks,h with
  | [],_=>unfold kH;simp
  | [t],_=>rfl
theorem aHQ (ks:List Nd)(a:Option Addr)(c:Nat)(hl:ks.length≤2000000)(w:World)(HT:Hid (aC w))(HS:Hid (SmK ks))(HK:Hid (aT w a 0 ks))(b:Bool)(hb:Hid (kH ks=b)) :
    Calls Tryz.prog 91 #[.slice a ks.length c] w (bA b w):=by
  match ks with
  | [] =>
    have HF:Hid (b=false):=by show _=_;rw[←hb.out];rfl
    go_enter Tryz.func91,Tryz.ntmps91
    go_wp2
    go_ret;exact⟨by rw[HF.out];rfl,Below.refl _ _⟩
  | m :: ks =>
    by_cases h2:2≤ks.length
    · have HF:Hid (b=false):=by
        show _=_;rw[←hb.out];match ks,h2 with
        | _ :: _ :: _,_=>rfl
      have hlen:((m :: ks).length:Int)=(ks.length:Int)+1:=by simp
      have h3:3≤(m :: ks).length:=by simp;omega
      clear hlen;generalize (m :: ks).length=n at *
      go_enter Tryz.func91,Tryz.ntmps91
      go_wp2
      go_ret;exact⟨by rw[HF.out];rfl,Below.refl _ _⟩
    · obtain⟨g,off,c0,c1,c2,c3,c4,c5,rfl,h6,hn⟩:=HK.out.get (m :: ks) 0 0 (by simp)
      simp only[List.getElem_cons_zero,Nat.zero_mul,Nat.add_zero]at h6 hn;obtain⟨a1,b1,a2,b2,rfl,rfl,rfl,rfl,rfl,rfl⟩:=hn.cells;have hbb:=hb.out;rw[aEr m ks (by omega)]at hbb
      have HB:=hid hbb;have hn1:1≤(m :: ks).length:=by simp
      have hn2:(m :: ks).length≤2:=by simp;omega
      obtain⟨n,hn'⟩:∃n,n=(m :: ks).length:=⟨_,rfl⟩
      rw[←hn']at hn1 hn2 ⊢
      have HN:=hid hn';have HA:=hid hn.attrs;generalize hkl:m.kids.length=kl at *
      have HKL:=hid hkl;have HSM:=hid (show SmN m∧SmK ks by have:=HS.out;unfold SmK at this;exact this);obtain⟨x0,x1,x2,x3,x4,x5⟩:=h6;have HE:=hid (fun W=>zA m.kind m.space m.name m.text (.slice a1 m.attrs.length b1) (.slice a2 kl b2) W (mZ m) (hid rfl));clear hbb hn hn' hb hl hkl;rcases(show n=1∨n=2 by omega)with rfl|rfl
      all_goals (
        go_enter Tryz.func91,Tryz.ntmps91
        go_wp2_with fail
        have hP:=bG w (.int .i64 m.kind) (.int .i64 m.space) (.string m.name) (.slice a1 m.attrs.length b1) (.string m.text) (.slice a2 kl b2);have hB:=(Below.refl w.heap.size w).alloc bI (.cells #[.int .i64 m.kind,.int .i64 m.space,.string m.name,.slice a1 m.attrs.length b1,.string m.text,.slice a2 kl b2] 45);have HP:=hid hP;have HBa:=hid hB;refine(HE.out _).mono ?_;unfold bA;rintro e W1 ⟨rfl,B1⟩;obtain⟨y0,y1,y2,y3,y4,y5⟩:=(HP.out.below B1 bI).zero;have HBw:=hid (HBa.out.trans (B1.mono (by simp)));clear hP hB HP HBa HE B1 x0 x1 x2 x3 x4 x5;cases he:mZ m with
        | false =>
          have HF:Hid (b=false):=by show _=_;rw[←HB.out];unfold kZ;rw[he];rfl
          clear he;go_wp2
          go_ret;exact⟨by rw[HF.out];rfl,HBw.out⟩
        | true =>
          by_cases hm:m.name=aGD
          · have e1:(m.name.toList==[109,101,116,97])=true:=by rw[hm];decide +kernel
            by_cases hk:kl=0
            · subst hk
              have HMM:Hid (kZ m=decide (m.attrs=gU)):=by show _=_;unfold kZ;rw[he,decide_eq_true hm,decide_eq_true HKL.out];rfl
              clear he hm;go_wp2_with fail
              obtain⟨W2,hW2⟩:∃W2,W2=W1.alloc (.cells #[.string ⟨#[99,104,97,114,115,101,116]⟩,.string ⟨#[117,116,102,45,56]⟩] 39):=⟨_,rfl⟩
              have hB2:Below W1.heap.size W1 W2:=by rw[hW2];exact(Below.refl _ W1).alloc bI _
              have hV2:eI W2 (.slice (some ⟨W1.heap.size,0,none⟩) 1 1) gU:=by
                refine⟨_,1,rfl,fun j hj=>?_⟩;have hj0:j=0:=by simp[gU]at hj;omega
                subst hj0;refine⟨W1.heap.size,0,rfl,?_,?_⟩
                · rw[hW2,cell_of_row _ W1.heap.size _ _ 39 (0,0) (heap_alloc_new W1 _)];rfl
                · rw[hW2,cell_of_row _ W1.heap.size _ _ 39 (0,0) (heap_alloc_new W1 _)];rfl
              rw[←hW2];obtain⟨be,hbe⟩:∃be,decide (m.attrs=gU)=be:=⟨_,rfl⟩
              rw[hbe]at HMM
              have hBw2:=HBw.out.trans (hB2.mono HBw.out.size);refine(aCe _ _ m.attrs gU (by have:=HSM.out.1.get.2.2.1;omega) (by simp[gU]) W2 (hid (HA.out.below hBw2 bI)) (hid hV2) be (hid hbe)).mono ?_;unfold bA;rintro e W3 ⟨rfl,B3⟩;have HBw3:=hid (hBw2.trans (B3.mono hBw2.size));clear hB2 hV2 hW2 hBw2 B3 hbe y0 y1 y2 y3 y4 y5 HBw e1;cases be with
              | false =>
                have HF:Hid (b=false):=by show _=_;rw[←HB.out,HMM.out];rfl
                go_wp2
                go_ret;exact⟨by rw[HF.out];rfl,HBw3.out⟩
              | true =>
                cases ks with
                | nil =>
                  first
                  | (have h:=HN.out;simp only[List.length_cons,List.length_nil]at h;omega)
                  | (have HF : Hid (b = true) := by show _ = _; rw [←HB.out, HMM.out]; rfl
                     go_wp2
                     go_ret;exact ⟨by rw [HF.out]; rfl, HBw3.out⟩)
                | cons t ks =>
                  first
                  | (have h:=HN.out;simp only[List.length_cons]at h;omega)
                  | (have ht0 : ks = [] := List.eq_nil_of_length_eq_zero (by have := HN.out; simp only [List.length_cons]at this; omega)
                     subst ht0;have HT2:Hid (oX t=b):=by show _=_;rw[←HB.out,HMM.out];rfl
                     obtain⟨g',off',d0,d1,d2,d3,d4,d5,e,h6',hn'⟩:=HK.out.get [m,t] 0 1 (by simp);cases e;obtain⟨l1,l2,l3,l4,rfl,rfl,rfl,rfl,rfl,rfl⟩:=hn'.cells;have h7:=h6'.below HBw3.out bI;have HSX:=hid (HSM.out.2);simp only[List.getElem_cons_succ,List.getElem_cons_zero,Nat.zero_add,Nat.one_mul]at h7 hn' h6';have HKT:=hid hn'.kidsV;have HST:=hid (show SmN t by have:=HSX.out;unfold SmK at this;exact this.1);obtain⟨x0,x1,x2,x3,x4,x5⟩:=h7;generalize hal:t.attrs.length=al at *
                     generalize htl:t.kids.length=tl at *
                     have HPL:=hid (fun W=>rQ t.kind t.space t.name t.text l1 al l2 (.slice l3 tl l4) bB W (eJ t bB) (hid (by unfold eJ;rw[hal])));have HTL:=hid htl;clear hal htl h6' hn';go_wp2_with fail
                     refine(HPL.out _).mono ?_;unfold bA;rintro e W4 ⟨rfl,B4⟩;have HBw4:=jH HBw3 B4;have h8:=(Six.mk x0 x1 x2 x3 x4 x5).below B4 bI;clear HPL B4 x0 x1 x2 x3 x4 x5;obtain⟨x0,x1,x2,x3,x4,x5⟩:=h8;cases hp:eJ t bB with
                     | false =>
                       have HF:Hid (b=false):=by show _=_;rw[←HT2.out,vU,hp];rfl
                       clear hp;go_wp2
                       go_ret;exact⟨by rw[HF.out];rfl,HBw4.out⟩
                     | true =>
                       by_cases ht1:tl=1
                       · subst ht1
                         obtain⟨x,hx⟩:∃x,t.kids=[x]:=List.length_eq_one_iff.1 HTL.out;have HTX:Hid (dB x=b):=by show _=_;rw[←HT2.out,vU,hp,hx];rfl
                         have hkx:=HKT.out;have hsx:=HST.out.get.2.2.2.2;rw[hx]at hkx hsx
                         obtain⟨g',off',d0,d1,d2,d3,d4,d5,e,h9,hn9⟩:=hkx.get [x] 0 0 (by simp);obtain rfl:=e;obtain⟨k1,k2,k3,k4,rfl,rfl,rfl,rfl,rfl,rfl⟩:=hn9.cells;simp only[List.getElem_cons_zero,Nat.zero_mul,Nat.add_zero]at h9;have HSXX:=hid (show SmN x by unfold SmK at hsx;exact hsx.1);obtain⟨z0,z1,z2,z3,z4,z5⟩:=h9.below HBw4.out bI;clear hkx hsx hn9 h9 hp hx;go_wp2_with fail
                         refine(aBU x.kind x.space x.name x.text (by have:=HSXX.out.get.2.1;omega) k1 x.attrs.length k2 k3 x.kids.length k4 W4 (HT.out.below HBw4.out bI) b HTX).mono ?_;unfold bA;rintro e W5 ⟨rfl,B5⟩;have HBw5:=jH HBw4 B5;clear B5;go_wp2
                         go_ret;exact⟨rfl,HBw5.out⟩
                       · have HF:Hid (b=false):=by
                           show _=_;rw[←HT2.out,vU];have h1:=HTL.out;match hk:t.kids with
                           | []=>simp
                           | [x]=>rw[hk]at h1;simp at h1;omega
                           | _ :: _ :: _=>simp
                         have e2:((tl:Int)==1)=false:=by rw[beq_eq_false_iff_ne];omega
                         clear hp;go_wp2
                         go_ret;exact⟨by rw[HF.out];rfl,HBw4.out⟩)
            · have HF:Hid (b=false):=by show _=_;rw[←HB.out];unfold kZ;rw[HKL.out,decide_eq_false hk];simp
              have e2:((kl:Int) !=0)=true:=by rw[bne_iff_ne];omega
              clear he hm;go_wp2
              go_ret;exact⟨by rw[HF.out];rfl,HBw.out⟩
          · have HF:Hid (b=false):=by show _=_;rw[←HB.out];unfold kZ;rw[decide_eq_false hm];simp
            have e1:(m.name.toList==[109,101,116,97])=false:=by
              rw[beq_eq_false_iff_ne];intro h;exact hm (fL (by rw[←toList_data,h];rfl))
            clear he hm;go_wp2
            go_ret;exact⟨by rw[HF.out];rfl,HBw.out⟩)
open Go.RowKit
def rJ (VV:dQ)(n:Nd):Prop :=
  0≤fM 32 n 1000∧eJ n rR=true∧∃h b,n.kids=[h,b]∧eJ h cH=true∧kH h.kids=true∧eJ b cB=true∧eF VV [] b
theorem mO (w:World)(c0 c1 c2 c3 c4 c5 d0 d1 d2 d3 d4 d5:Value) :
    Six (((w.alloc (.cells #[c0,c1,c2,c3,c4,c5] 45)).alloc (.cells #[d0,d1,d2,d3,d4,d5] 45)).drew) w.heap.size 0 c0 c1 c2 c3 c4 c5 ∧
    Six (((w.alloc (.cells #[c0,c1,c2,c3,c4,c5] 45)).alloc (.cells #[d0,d1,d2,d3,d4,d5] 45)).drew) (w.heap.size+1) 0 d0 d1 d2 d3 d4 d5 ∧
    Below w.heap.size w (((w.alloc (.cells #[c0,c1,c2,c3,c4,c5] 45)).alloc (.cells #[d0,d1,d2,d3,d4,d5] 45)).drew):=by
  refine⟨?_,?_,(((Below.refl _ w).alloc bI _).alloc (by simp) _).drew⟩
  · exact(bG w c0 c1 c2 c3 c4 c5).below ((Below.refl _ (w.alloc _)).alloc bI _).drew bI
  · have h:=(bG (w.alloc (.cells #[c0,c1,c2,c3,c4,c5] 45)) d0 d1 d2 d3 d4 d5).below (Below.refl _ _).drew bI
    rw[show(w.alloc (.cells #[c0,c1,c2,c3,c4,c5] 45)).heap.size=w.heap.size+1 by simp]at h
    exact h
theorem aIx (VV:dQ)(hV:Hid (zJ VV))(n:Nd)(hz:n.sz≤1000000)(v:Value)(r:Bool)(w:World)(HT:Hid (aC w))(HS:Hid (SmN n))(hN:Hid (aL w n v))(hr:Hid (r=true↔rJ VV n)) :
    Calls Tryz.prog 41 #[v] w (bA r w):=by
  obtain⟨av,a,c,rfl,hA,hK,hlen⟩:=hN.out.get;obtain⟨aa,ca,rfl,hAA⟩:=hA;have HK:=hid hK;have HSZ:=hid (show n.sz=1+aD n.kids from eE n);have HSN:=hid HS.out.get;have HZ:=hid hz;have NO:=fun(h:¬rJ VV n)=>(show r=false by cases hrr:r with|false=>rfl|true=>exact absurd (hr.out.1 hrr) h)
  have HNO:=hid NO;clear hK hAA hz NO;obtain⟨L,hL⟩:∃L,fM 32 n 1000=L:=⟨_,rfl⟩
  have HL:=hid hL;have HF:=hid (fun W hW=>aLZ n.sz n bI (.agg #[.int .i64 n.kind,.int .i64 n.space,.string n.name,.slice aa n.attrs.length ca,.string n.text,.slice a n.kids.length c]) 32 32 1000 L W (hid rfl) (by omega) (by omega) (by omega) hW HL);have HP:=hid (fun W=>rQ n.kind n.space n.name n.text aa n.attrs.length ca (.slice a n.kids.length c) rR W (eJ n rR) (hid rfl));clear hL;generalize hkl:n.kids.length=kl at *
  generalize hal:n.attrs.length=al at *
  have HKL:=hid hkl;clear hkl hal;obtain⟨W0,hW0⟩:∃W0,W0=w.alloc (.cells #[.int .i64 n.kind,.int .i64 n.space,.string n.name,.slice aa al ca,.string n.text,.slice a kl c] 45):=⟨_,rfl⟩
  have hB0:Below w.heap.size w W0:=by rw[hW0];exact(Below.refl _ w).alloc bI _
  have hQ:=bG w (.int .i64 n.kind) (.int .i64 n.space) (.string n.name) (.slice aa al ca) (.string n.text) (.slice a kl c);rw[←hW0]at hQ
  have HQ:=hid hQ;have HB0:=hid hB0;have HW0:=hid hW0;clear hQ hB0 hW0;go_enter Tryz.func41,Tryz.ntmps41
  go_wp2_with fail
  rw[←HW0.out];refine(HF.out W0 (hid (hN.out.below HB0.out bI))).mono ?_;rintro e W1 ⟨rfl,B1⟩;obtain⟨q0,q1,q2,q3,q4,q5⟩:=(HQ.out.below B1 bI).zero;have HQ1:=hid (HQ.out.below B1 bI);have HB1:=jH HB0 B1;clear B1 HF HQ HB0 HW0;rcases Int.lt_or_le L 0 with hneg|hpos
  · have HR:=hid (HNO.out (fun h=>absurd h.1 (by rw[HL.out];omega)))
    have e0:decide (L<0)=true:=decide_eq_true hneg;go_wp2
    go_ret;exact⟨by rw[HR.out];rfl,HB1.out⟩
  · have e0:decide (L<0)=false:=decide_eq_false (by omega)
    have HPOS:=hid hpos;clear hpos;go_wp2_with fail
    refine(HP.out _).mono ?_;unfold bA;rintro e W2 ⟨rfl,B2⟩;have HQ2:=hid (HQ1.out.below B2 bI);have HB2:=jH HB1 B2;clear B2 HP HQ1 HB1 e0 q0 q1 q2 q3 q4 q5;obtain⟨q0,q1,q2,q3,q4,q5⟩:=HQ2.out.zero;cases hp:eJ n rR with
    | false =>
      have HR:=hid (HNO.out (fun h=>by have h1:=h.2.1;rw[hp]at h1;cases h1));clear hp;go_wp2
      go_ret;exact⟨by rw[HR.out];rfl,HB2.out⟩
    | true =>
      have HPP:=hid hp;clear hp;by_cases h2:kl=2
      · subst h2
        obtain⟨kh,kb,hk2⟩:∃h b,n.kids=[h,b]:=by
          have h:=HKL.out;match hkk:n.kids with
          | []=>rw[hkk]at h;simp at h
          | [_]=>rw[hkk]at h;simp at h
          | [x,y]=>exact⟨x,y,rfl⟩
          | _ :: _ :: _ :: _=>rw[hkk]at h;simp at h
        have hkk:=HK.out;have hss:=HSN.out.2.2.2.2;have hzz:=HSZ.out;have hnn:∀x,x∈n.kids→x.sz≤aD n.kids:=(iZ n.kids).1;rw[hk2]at hkk hss hzz hnn
        obtain⟨g,off,c0,c1,c2,c3,c4,c5,rfl,h6,hn6⟩:=hkk.get [kh,kb] 0 0 (by simp);obtain⟨g',off',d0,d1,d2,d3,d4,d5,e,h7,hn7⟩:=hkk.get [kh,kb] 0 1 (by simp);cases e;simp only[List.getElem_cons_succ,List.getElem_cons_zero,Nat.zero_add,Nat.zero_mul,Nat.one_mul,Nat.add_zero]at h6 h7 hn6 hn7;obtain⟨a1,b1,a2,b2,rfl,rfl,rfl,rfl,rfl,rfl⟩:=hn6.cells;obtain⟨l1,l2,l3,l4,rfl,rfl,rfl,rfl,rfl,rfl⟩:=hn7.cells;have HN6:=hid hn6;have HN7:=hid hn7;have HSH:=hid (show SmN kh by unfold SmK at hss;exact hss.1);have HSB:=hid (show SmN kb by unfold SmK at hss;obtain⟨_,h⟩:=hss;unfold SmK at h;exact h.1);have HZB:=hid (show kb.sz≤1000000 by have h1:=hnn kb (by simp);have h2:=HZ.out;omega);have hzh:kh.kids.length≤2000000:=by
          have h1:=hnn kh (by simp);have h2:=HZ.out;have h3:=eE kh;have h4:=(iZ kh.kids).2;omega
        have HK2:=hid hk2;obtain⟨x0,x1,x2,x3,x4,x5⟩:=h6.below HB2.out bI;obtain⟨z0,z1,z2,z3,z4,z5⟩:=h7.below HB2.out bI;have hg1:g<W2.heap.size:=World.block_lt_of_cell? W2 _ x0;have hg2:w.heap.size<W2.heap.size:=World.block_lt_of_cell? W2 _ q5;have hg3:¬g=W2.heap.size:=by omega
        have hg4:¬w.heap.size=W2.heap.size:=by omega
        have hg5:¬g=W2.heap.size+1:=by omega
        have hg6:¬w.heap.size=W2.heap.size+1:=by omega
        have hg7:¬W2.heap.size=g:=by omega
        have hg8:¬W2.heap.size=w.heap.size:=by omega
        have HZH:=hid hzh;clear hkk hss hzz hnn hk2 hn6 hn7 h6 h7 hzh;go_upto_region 3 with fail
        go_cut [3,4] (fun p3 p4 wx=>∃gh gb,p3=.pointer (some ⟨gh,0,none⟩)∧p4=.pointer (some ⟨gb,0,none⟩)∧Hid (Six wx gh 0 (.int .i64 kh.kind) (.int .i64 kh.space) (.string kh.name) (.slice a1 kh.attrs.length b1) (.string kh.text) (.slice a2 kh.kids.length b2))∧Hid (Six wx gb 0 (.int .i64 kb.kind) (.int .i64 kb.space) (.string kb.name) (.slice l1 kb.attrs.length l2) (.string kb.text) (.slice l3 kb.kids.length l4))∧Hid (Below W2.heap.size W2 wx))
        case first =>
          go_region
          all_goals (
            clear x0 x1 x2 x3 x4 x5 z0 z1 z2 z3 z4 z5 q0 q1 q2 q3 q4 q5 hg1 hg2 hg3 hg4 hg5 hg6 hg7 hg8;go_wp2_with fail
            go_meet)
          all_goals first
            | exact⟨_,_,rfl,rfl,hid (mO W2 _ _ _ _ _ _ _ _ _ _ _ _).1,hid (mO W2 _ _ _ _ _ _ _ _ _ _ _ _).2.1,hid (mO W2 _ _ _ _ _ _ _ _ _ _ _ _).2.2⟩
            | exact⟨_,_,rfl,rfl,hid (mO W2 _ _ _ _ _ _ _ _ _ _ _ _).2.1,hid (mO W2 _ _ _ _ _ _ _ _ _ _ _ _).1,hid (mO W2 _ _ _ _ _ _ _ _ _ _ _ _).2.2⟩
        case rest =>
          obtain⟨gh,gb,rfl,rfl,SH,SB,hBc⟩:=hcut;clear x0 x1 x2 x3 x4 x5 z0 z1 z2 z3 z4 z5 q0 q1 q2 q3 q4 q5 hg1 hg2 hg3 hg4 hg5 hg6 hg7 hg8;have HBc:=jH HB2 hBc.out;have HPH:=hid (fun W=>rQ kh.kind kh.space kh.name kh.text a1 kh.attrs.length b1 (.slice a2 kh.kids.length b2) cH W (eJ kh cH) (hid rfl));have HPB:=hid (fun W=>rQ kb.kind kb.space kb.name kb.text l1 kb.attrs.length l2 (.slice l3 kb.kids.length l4) cB W (eJ kb cB) (hid rfl));have HHD:=hid (fun W hT hK=>aHQ kh.kids a2 b2 HZH.out W hT (hid HSH.out.get.2.2.2.2) hK (kH kh.kids) (hid rfl));have HKH:=hid HN6.out.kidsV;obtain⟨br,hbr⟩:∃br:Bool,br=true↔eF VV [] kb:=by
            by_cases h:eF VV [] kb
            · exact⟨true,fun _=>h,fun _=>rfl⟩
            · exact⟨false,⟨fun e=>(by cases e),fun e=>absurd e h⟩⟩
          have HBR:=hid hbr;have NO:=fun(h:¬(eJ kh cH=true∧kH kh.kids=true∧eJ kb cB=true∧br=true))=>HNO.out (fun hp=>by
            obtain⟨_,_,x,y,hk,p1,p2,p3,p4⟩:=hp;rw[HK2.out]at hk
            simp only[List.cons.injEq,and_true]at hk;obtain⟨rfl,rfl⟩:=hk;exact h ⟨p1,p2,p3,HBR.out.2 p4⟩)
          have HNO2:=hid NO;have YES:=fun(h1:eJ kh cH=true) (h2:kH kh.kids=true) (h3:eJ kb cB=true) (h4:br=true)=>hr.out.2 ⟨by rw[HL.out];exact HPOS.out,HPP.out,kh,kb,HK2.out,h1,h2,h3,HBR.out.1 h4⟩
          have HYES:=hid YES;clear hbr NO YES;obtain⟨x0,x1,x2,x3,x4,x5⟩:=SH.out.zero;go_wp2_with fail
          refine(HPH.out _).mono ?_;unfold bA;rintro e W5 ⟨rfl,B5⟩;have SH5:=hid (SH.out.below B5 bI);have SB5:=hid (SB.out.below B5 bI);have HB5:=jH HBc B5;clear B5 SH SB HPH x0 x1 x2 x3 x4 x5;obtain⟨x0,x1,x2,x3,x4,x5⟩:=SH5.out.zero;cases c1:eJ kh cH with
          | false =>
            have HR:=hid (HNO2.out (fun h=>by have h1:=h.1;rw[c1]at h1;cases h1));clear c1;go_wp2
            go_ret;exact⟨by rw[HR.out];rfl,HB5.out⟩
          | true =>
            have C1:=hid c1;clear c1;go_wp2_with fail
            refine(HHD.out W5 (hid (HT.out.below HB5.out bI)) (hid (HKH.out.below HB5.out bI))).mono ?_;unfold bA;rintro e W6 ⟨rfl,B6⟩;have SB6:=hid (SB5.out.below B6 bI);have HB6:=jH HB5 B6;clear B6 SH5 SB5 HHD x0 x1 x2 x3 x4 x5;obtain⟨x0,x1,x2,x3,x4,x5⟩:=SB6.out.zero;cases c2:kH kh.kids with
            | false =>
              have HR:=hid (HNO2.out (fun h=>by have h1:=h.2.1;rw[c2]at h1;cases h1));clear c2;go_wp2
              go_ret;exact⟨by rw[HR.out];rfl,HB6.out⟩
            | true =>
              have C2:=hid c2;clear c2;go_wp2_with fail
              refine(HPB.out _).mono ?_;unfold bA;rintro e W7 ⟨rfl,B7⟩;have SB7:=hid (SB6.out.below B7 bI);have HB7:=jH HB6 B7;clear B7 SB6 HPB x0 x1 x2 x3 x4 x5;obtain⟨x0,x1,x2,x3,x4,x5⟩:=SB7.out.zero;cases c3:eJ kb cB with
              | false =>
                have HR:=hid (HNO2.out (fun h=>by have h1:=h.2.2.1;rw[c3]at h1;cases h1));clear c3;go_wp2
                go_ret;exact⟨by rw[HR.out];rfl,HB7.out⟩
              | true =>
                have C3:=hid c3;clear c3;go_wp2_with fail
                refine(aHu VV hV kb.sz kb bI _ (.slice none 0 0) [] br W7 (hid (HT.out.below HB7.out bI)) HSB (hid (by have:=HZB.out;simp;omega)) (hid (HN7.out.below HB7.out bI)) (hid (Phr.nil W7)) HBR).mono ?_;unfold bA;rintro e W8 ⟨rfl,B8⟩;have HB8:=jH HB7 B8;clear B8 x0 x1 x2 x3 x4 x5;cases br with
                | false =>
                  have HR:=hid (HNO2.out (fun h=>by cases h.2.2.2));go_wp2
                  go_ret;exact⟨by rw[HR.out];rfl,HB8.out⟩
                | true =>
                  have HR:=hid (HYES.out C1.out C2.out C3.out rfl);go_wp2
                  go_ret;exact⟨by rw[HR.out];rfl,HB8.out⟩
      · have HR:=hid (HNO.out (fun h=>by
          obtain⟨_,_,x,y,hk,_⟩:=h;have:=HKL.out;rw[hk]at this
          exact h2 this.symm))
        have e2:((kl:Int) !=2)=true:=by rw[bne_iff_ne];omega
        go_wp2
        go_ret;exact⟨by rw[HR.out];rfl,HB2.out⟩
open Go.RowKit
def aC3:Nd:=.mk 0 0 ⟨#[]⟩ [] ⟨#[]⟩ []
def oY (nm:ByteArray)(n:Nd):Prop:=n.kind=1∧n.space=0∧n.name=nm
instance (nm:ByteArray) (n:Nd):Decidable (oY nm n):=by unfold oY;exact inferInstance
def aM (nm:ByteArray):List Nd→Nd
  | []=>aC3
  | n :: ns=>if oY nm n then n else aM nm ns
def dJ:List Nd→List UInt8
  | []=>[]
  | n :: ns=>(if n.kind=2 then n.text.data.toList else [])++dJ ns
def fV (n:Nd):ByteArray:=bT ⟨(dJ (aM bB (aM cH n.kids).kids).kids).toArray⟩
def bZ:List Nd→List Nd
  | []=>[]
  | k :: ks=>(if oY cB k then k.kids else [])++bZ ks
def bP (t:ByteArray):Nd:=elN cH (if t=⟨#[]⟩then [fF]else [fF,elN bB [aV t]])
def fC (A:cX)(n:Nd):Nd:=elN rR [bP (fV n),elN cB (aP A cB [] (bZ n.kids))]
theorem aG7:bT ⟨#[]⟩=⟨#[]⟩:=by decide +kernel
theorem aM2 (t:ByteArray)(h:bT t=t):eJ (bP t) cH=true∧kH (bP t).kids=true:=by
  refine⟨rfl,?_⟩;unfold bP elN;show kH (if t=⟨#[]⟩then [fF]else [fF,.mk 1 0 bB [] ⟨#[]⟩ [aV t]])=true;split
  · decide +kernel
  · rename_i hne
    show(kZ fF&&oX (.mk 1 0 bB [] ⟨#[]⟩ [aV t]))=true;rw[show kZ fF=true by decide +kernel,Bool.true_and];show(eJ (.mk 1 0 bB [] ⟨#[]⟩ [aV t]) bB&&dB (aV t))=true;rw[wJ hne h,Bool.and_true];rfl
theorem xW (VV:dQ)(A:cX)(hA:AOk VV A)(hV:∀e n v t,VV e n v=some t→VV e n t=some t)(n:Nd)(hd:fR (fC A n)≤32)(hs:(fC A n).sz≤1000):rJ VV (fC A n):=by
  obtain⟨h1,h2⟩:=aM2 (fV n) (tQ _);refine⟨(aFb _).2 ⟨hd,hs⟩,rfl,_,_,rfl,h1,h2,rfl,?_⟩;rw[rO];show bX VV cB (mW cB []) none (aP A cB [] (bZ n.kids));unfold aP;split
  · exact lD _ _ _ _
  · exact(aEC VV A hA hV).2 _ cB _ [] (lQ.nil.of _) (lD _ _ _ _)
theorem rI {n:Nd}{nm:ByteArray}(h:eJ n nm=true):n=elN nm n.kids:=by
  cases n with
  | mk kd sp nm' at' tx ks =>
    unfold eJ aAG at h;simp only[Nd.kind,Nd.space,Nd.name,Nd.text,Nd.attrs,Bool.and_eq_true]at h;obtain⟨h1,h2,h3⟩:=h;have e:=tL (n:=.mk kd sp nm' at' tx ks) h1;rw[e];show Nd.mk 1 0 nm' at' ⟨#[]⟩ ks=_;rw[of_decide_eq_true h2,List.eq_nil_of_length_eq_zero (of_decide_eq_true h3)];rfl
theorem aD5 {n:Nd}(h:kZ n=true):n=fF:=by
  unfold kZ at h;simp only[Bool.and_eq_true,decide_eq_true_eq]at h;obtain⟨h1,h2,h3,h4⟩:=h;have e:=tL h1;rw[e,h2,h4,List.eq_nil_of_length_eq_zero h3];rfl
theorem aH3 {n:Nd}(h:oX n=true):∃t:ByteArray,n=elN bB [aV t]∧t≠⟨#[]⟩∧bT t=t:=by
  unfold oX at h;rw[Bool.and_eq_true]at h
  obtain⟨h1,h2⟩:=h;have e:=rI h1;split at h2
  · rename_i x hx
    obtain⟨ex,h3,h4⟩:=vG h2;rw[hx,ex]at e
    exact⟨_,e,h3,h4⟩
  · cases h2
theorem aHV {l:List Nd}(h:kH l=true):∃t:ByteArray,bT t=t∧l=(bP t).kids:=by
  match l,h with
  | [m],h =>
    refine⟨⟨#[]⟩,aG7,?_⟩;rw[aD5 (n:=m) h];rfl
  | [m,t],h =>
    have h':(kZ m&&oX t)=true:=h;rw[Bool.and_eq_true]at h'
    obtain⟨t',e,h3,h4⟩:=aH3 h'.2;refine⟨t',h4,?_⟩;rw[aD5 h'.1,e];unfold bP;rw[if_neg h3];rfl
theorem aKN (t:ByteArray)(h:bT t=t):bT ⟨(dJ (aM bB (bP t).kids).kids).toArray⟩=t:=by
  unfold bP;split
  · rename_i h0
    rw[h0];decide +kernel
  · show bT ⟨(dJ (aM bB [fF,elN bB [aV t]]).kids).toArray⟩=t
    have e:aM bB [fF,elN bB [aV t]]=elN bB [aV t]:=by
      unfold aM;rw[if_neg (by decide +kernel)];unfold aM;rw[if_pos (by show(1:Int)=1∧(0:Int)=0∧bB=bB;exact⟨rfl,rfl,rfl⟩)]
    rw[e];have ej:dJ (elN bB [aV t]).kids=t.data.toList:=by
      show dJ [aV t]=_;unfold dJ dJ;rw[if_pos (show(aV t).kind=2 from rfl),List.append_nil];rfl
    rw[ej];have:(⟨t.data.toList.toArray⟩:ByteArray)=t:=rfl;rw[this,h]
theorem aFC (VV:dQ)(A:cX)(hA:AOk VV A)(n:Nd)(h:rJ VV n):fC A n=n∧fR n≤32∧n.sz≤1000:=by
  obtain⟨hf,hp,x,b,hk,hx,hh,hb,hold⟩:=h;refine⟨?_,(aFb n).1 hf⟩;obtain⟨t,ht,hkids⟩:=aHV hh;have en:=rI hp;have ex:x=bP t:=by
    have:=rI hx;rw[hkids]at this
    rw[this];rfl
  have eb:=rI hb;have hbn:b.name=cB:=by rw[eb];rfl
  have htn:fV n=t:=by
    unfold fV;have e1:aM cH n.kids=bP t:=by
      rw[hk,ex];unfold aM;rw[if_pos (by unfold bP;exact⟨rfl,rfl,rfl⟩)]
    rw[e1];exact aKN t ht
  have hbk:bZ n.kids=b.kids:=by
    rw[hk,ex];unfold bZ;rw[if_neg (by unfold bP;rintro⟨_,_,e⟩;revert e;show cH=cB→False;decide +kernel)];unfold bZ;rw[if_pos (by rw[eb];exact⟨rfl,rfl,rfl⟩)];unfold bZ;simp
  have hs:=(aHC VV A hA).1 b [] hold;rw[hbn]at hs
  unfold fC;rw[htn,hbk,hs,←eb,←ex,←hk,←en]
theorem aEF (VV:dQ)(A:cX)(hA:AOk VV A)(hV:∀e n v t,VV e n v=some t→VV e n t=some t)(n:Nd)(hd:fR (fC A n)≤32)(hs:(fC A n).sz≤1000):fC A (fC A n)=fC A n :=
  (aFC VV A hA _ (xW VV A hA hV n hd hs)).1
open Go.RowKit
def PSE (E:Nat→Prop)(W0 W:World)(v:Value)(n:Nat)(ks:List Nd):Prop:=∃xs,bC W0.heap.size 45 6 v n xs W0 W∧cG (fun g=>lS v g∧¬E g) W xs ks∧∀g,E g→lS v g
theorem PSE.one {W0 W:World}{n:Nd}{c0 c1 c2 c3 c4 c5:Value}(E:Nat→Prop)(hE:¬E W.heap.size)(hb:Below W0.heap.size W0 W)(hn:bU (fun g=>g<W.heap.size∧¬E g) W n (.agg #[c0,c1,c2,c3,c4,c5])) :
    PSE E W0 (W.alloc (.cells #[c0,c1,c2,c3,c4,c5] 45)) (.slice (some ⟨W.heap.size,0,none⟩) 1 1) 1 [n]:=by
  refine⟨[c0,c1,c2,c3,c4,c5],⟨⟨by simp,.inr ⟨W.heap.size,1,_,rfl,hb.size,heap_alloc_new W _,Nat.le_refl _,by decide,by simp,by simp⟩⟩,hb.alloc hb.size _,Nat.le_trans hb.size (by simp)⟩,?_,fun g hg e=>by
    have h:W.heap.size=g:=Option.some.inj e;exact hE (h▸hg)⟩
  have hB:=(Below.refl W.heap.size W).alloc bI (.cells #[c0,c1,c2,c3,c4,c5] 45);have h:=(cG.nil (fun g=>lS (.slice (some ⟨W.heap.size,0,none⟩) 1 1) g∧¬E g) (W.alloc (.cells #[c0,c1,c2,c3,c4,c5] 45))).snoc (x:=n) (c0:=c0) (c1:=c1) (c2:=c2) (c3:=c3) (c4:=c4) (c5:=c5)
    (bU.keep hn (fun g hg hd=>⟨hB.block g hg,fun e=>by have:W.heap.size=g:=Option.some.inj e;omega,hd.2⟩))
  exact h
theorem PSE.keep {E:Nat→Prop}{W0 W W':World}{v:Value}{n:Nat}{ks:List Nd}(h:PSE E W0 W v n ks)(hb:Below W.heap.size W W'):PSE E W0 W' v n ks:=by
  obtain⟨xs,hO,hc,hE⟩:=h;exact⟨xs,hO.keep hb,hc.keep (fun g hg hd=>⟨hb.block g hg,hd⟩),hE⟩
theorem PSE.bel {E:Nat→Prop}{W0 W:World}{v:Value}{n:Nat}{ks:List Nd}(h:PSE E W0 W v n ks):Below W0.heap.size W0 W:=by
  obtain⟨xs,hO,_⟩:=h;exact hO.bel
theorem PSE.slice {E:Nat→Prop}{W0 W:World}{v:Value}{n:Nat}{ks:List Nd}(h:PSE E W0 W v n ks)(hn:0<n):∃a c,v=.slice a n c∧aF (fun g=>¬E g) W a 0 ks:=by
  obtain⟨xs,hO,hc,hE⟩:=h;obtain⟨g,c,rfl,_,_,_⟩:=hO.atRow hn;exact⟨_,c,rfl,oD hO.vec hc (fun g hg=>hg.2) (fun y hy=>by
    cases hy;intro e;exact hE g e rfl)⟩
theorem PSE.kidsD {E:Nat→Prop}{W0 W:World}{a:Option Addr}{n c:Nat}{ks:List Nd}(h:PSE E W0 W (.slice a n c) n ks)(hn:0<n):aF (fun g=>¬E g) W a 0 ks:=by
  obtain⟨a',c',e,hk⟩:=h.slice hn;simp only[Value.slice.injEq]at e;rw[e.1];exact hk
section
variable {w:World} {ops:Array Oper} {rest:List Oper} {o:Oper} {a:Act} {Q:Exit→Act→World→Prop}
theorem vB (hgd:o.guard=none)(s x:Operand)
    (ho:o.op=.call { callee:=.builtin .append,args:=#[s,x],argTypes:=#[43,43] })
    {E:Nat→Prop} (hEw:∀g,E g→g<w.heap.size) {W0:World} (v:Value) (n:Nat) (ks:List Nd) (hs:a.eval s=v) (hP:Hid (PSE E W0 w v n ks))
    (xo:Option Addr) (m c:Nat) (js:List Nd) (hx:a.eval x=.slice xo m c) (hm:Hid (js.length=m)) (hS:Hid (aF (fun g=>lS v g∧¬E g) w xo 0 js)) (hb:n+m≤1000000000)
    (h:∀v' w',Hid (PSE E W0 w' v' (n+m) (ks++js))→Hid (∀g,E g→w'.heap[g]?=w.heap[g]?)→wpList Tryz.prog ops Q rest (a.put o.dst v') w'):wpList Tryz.prog ops Q (o :: rest) a w:=by
  obtain⟨i45,hi45,hz45,hs45,hb45⟩:=info_parts Tryz.info45;obtain⟨xs,hO,hc,hE⟩:=hP.out;obtain⟨ys,hys,hyc⟩:=uX hS.out.kids;have hcd:=aB4 hys hyc hS.out;have hml:=hm.out;refine pP hgd s x 43 ho 45 i45 _ 6 96 Tryz.underlying43 hi45 hz45 hs45 hb45 rfl (by decide) v n xs hs hO xo m c ys hx (by rw[hys.1,hml]) hyc hys.one (by omega) (by omega) (fun v' w' hO' hG=>?_);have hloc:∀g,g<w.heap.size→lS v g→lS v' g:=fun g hg hd e=>by
    rcases hG.out.loc with h1|⟨k,hk,hle⟩
    · exact hd (by rw[←h1];exact e)
    · rw[hk]at e
      have:k=g:=Option.some.inj e;omega
  refine h v' w' ⟨xs++ys,hO'.out,?_,fun g hg=>hloc g (hEw g hg) (hE g hg)⟩ (fun g hg=>hG.out.gr.block g (hEw g hg) (fun e=>hE g hg e.symm));exact(hc.append hcd).keep (fun g hg hd=>⟨hG.out.gr.block g hg (fun e=>hd.1 e.symm),hloc g hg hd.1,hd.2⟩)
end
theorem rK {D:Nat→Prop}{W:World}{g ch cr:Nat}{ah ar:Option Addr}{hd R:List Nd}(hg:D g)(hl1:hd.length≤140737488355328)(hl2:R.length≤140737488355328)
    (h:Six W g 0 (.int .i64 1) (.int .i64 0) (.string ⟨#[104,101,97,100]⟩) (.slice none 0 0) (.string ⟨#[]⟩) (.slice ah hd.length ch))
    (h':Six W g 6 (.int .i64 1) (.int .i64 0) (.string ⟨#[98,111,100,121]⟩) (.slice none 0 0) (.string ⟨#[]⟩) (.slice ar R.length cr))
    (hh:aF D W ah 0 hd) (hr:aF D W ar 0 R):aF D W (some ⟨g,0,none⟩) 0 [elN cH hd,elN cB R]:=by
  unfold aF;refine⟨⟨g,0,_,_,_,_,_,_,rfl,hg,h,?_⟩,?_⟩
  · unfold elN bU
    exact⟨none,0,ah,ch,rfl,hl1,fun j hj=>absurd hj (by simp),hh⟩
  · unfold aF
    refine⟨⟨g,0,_,_,_,_,_,_,rfl,hg,h',?_⟩,by unfold aF;trivial⟩;unfold elN bU;exact⟨none,0,ar,cr,rfl,hl2,fun j hj=>absurd hj (by simp),hr⟩
theorem aFx {B:Nat}{W:World}{g g':Nat}{t:ByteArray}(hg:B≤g)(hg':B≤g')
    (h:Six W g 0 (.int .i64 1) (.int .i64 0) (.string ⟨#[116,105,116,108,101]⟩) (.slice none 0 0) (.string ⟨#[]⟩) (.slice (some ⟨g',0,none⟩) 1 1))
    (h':Six W g' 0 (.int .i64 2) (.int .i64 0) (.string ⟨#[]⟩) (.slice none 0 0) (.string t) (.slice none 0 0)):aF (fun k=>B≤k) W (some ⟨g,0,none⟩) 0 [elN bB [aV t]]:=by
  unfold aF;refine⟨⟨g,0,_,_,_,_,_,_,rfl,hg,h,?_⟩,by unfold aF;trivial⟩;unfold elN bU;refine⟨none,0,some ⟨g',0,none⟩,1,rfl,by simp,fun j hj=>absurd hj (by simp),?_⟩;unfold aF;refine⟨⟨g',0,_,_,_,_,_,_,rfl,hg',h',?_⟩,by unfold aF;trivial⟩;unfold aV bU;exact⟨none,0,none,0,rfl,by simp,fun j hj=>absurd hj (by simp),by unfold aF;trivial⟩
theorem pY (n:Nd)(l:List Nd):bZ (n :: l)=(if oY cB n then n.kids else [])++bZ l:=by conv=>lhs;unfold bZ
theorem aCp:∀a b:List Nd,bZ (a++b)=bZ a++bZ b:=by
  intro a;induction a with
  | nil=>intro b;rfl
  | cons n a ih=>intro b;rw[List.cons_append,pY,pY,ih,List.append_assoc]
theorem aFU (l:List Nd)(k:Nat)(h:k<l.length):bZ (l.take (k+1))=bZ (l.take k)++(if oY cB l[k]then l[k].kids else []):=by
  rw[List.take_succ_eq_append_getElem h,aCp];congr 1;unfold bZ bZ;rw[List.append_nil]
theorem aFa:∀l:List Nd,SmK l→SmK (bZ l)∧aH (bZ l)≤aH l:=by
  intro l;induction l with
  | nil=>intro _;exact⟨eC,Nat.le_refl _⟩
  | cons n l ih =>
    intro h;rw[dX]at h
    obtain⟨h1,h2⟩:=ih h.2;have hn:=(lB n).1 h.1;have ht:=dT n;rw[pY,iB,mU,cF];split
    · exact⟨⟨hn.2.2.2.2,h1⟩,by omega⟩
    · have h0:aH []=0:=by unfold aH;rfl
      exact⟨⟨eC,h1⟩,by omega⟩
theorem aDG (l:List Nd)(k:Nat):(bZ (l.take k)).length≤aH l:=by
  have hle:∀l:List Nd,(bZ l).length≤aH l:=by
    intro l;induction l with
    | nil=>exact Nat.zero_le _
    | cons n l ih =>
      have ht:=dT n;have h3:=(iZ n.kids).2;have h4:=aC2.2 n.kids;rw[pY,cF,List.length_append];split
      · omega
      · simp only[List.length_nil];omega
  have h:=aCp (l.take k) (l.drop k);rw[List.take_append_drop]at h
  have h2:=hle l;rw[h,List.length_append]at h2
  omega
theorem aK6 (W:World)(E:Nat→Prop)(h1:¬E (W.heap.size+1))(h2:¬E (W.heap.size+1+1)):PSE E W (((W.alloc (.cells #[.int .i64 1,.int .i64 0,.string ⟨#[109,101,116,97]⟩,.slice (some ⟨W.heap.size+1,0,none⟩) 1 1,.string ⟨#[]⟩,.slice none 0 0] 45)).alloc (.cells #[.string ⟨#[99,104,97,114,115,101,116]⟩,.string ⟨#[117,116,102,45,56]⟩] 39)).alloc (.cells #[.int .i64 1,.int .i64 0,.string ⟨#[109,101,116,97]⟩,.slice (some ⟨W.heap.size+1,0,none⟩) 1 1,.string ⟨#[]⟩,.slice none 0 0] 45)) (.slice (some ⟨W.heap.size+1+1,0,none⟩) 1 1) 1 [fF]:=by
  obtain⟨Wa,hWa⟩:∃Wa,Wa=W.alloc (.cells #[.int .i64 1,.int .i64 0,.string ⟨#[109,101,116,97]⟩,.slice (some ⟨W.heap.size+1,0,none⟩) 1 1,.string ⟨#[]⟩,.slice none 0 0] 45):=⟨_,rfl⟩
  have hsa:Wa.heap.size=W.heap.size+1:=by rw[hWa];simp
  obtain⟨W2,hW2⟩:∃W2,W2=Wa.alloc (.cells #[.string ⟨#[99,104,97,114,115,101,116]⟩,.string ⟨#[117,116,102,45,56]⟩] 39):=⟨_,rfl⟩
  have hb:Below W.heap.size W W2:=by rw[hW2,hWa];exact((Below.refl _ W).alloc bI _).alloc (by simp) _
  have hs:W2.heap.size=W.heap.size+1+1:=by rw[hW2,hWa];simp
  have hr:W2.heap[W.heap.size+1]?=some (.cells #[.string ⟨#[99,104,97,114,115,101,116]⟩,.string ⟨#[117,116,102,45,56]⟩] 39 (0,0)):=by rw[hW2,←hsa];exact heap_alloc_new Wa _
  have hn:bU (fun g=>g<W2.heap.size∧¬E g) W2 fF (.agg #[.int .i64 1,.int .i64 0,.string ⟨#[109,101,116,97]⟩,.slice (some ⟨W.heap.size+1,0,none⟩) 1 1,.string ⟨#[]⟩,.slice none 0 0]):=by
    unfold fF bU;refine⟨some ⟨W.heap.size+1,0,none⟩,1,none,0,rfl,by simp,?_,by unfold aF;trivial⟩;intro j hj;have:j=0:=by simp[gU]at hj;omega
    subst this;exact⟨W.heap.size+1,0,rfl,⟨by omega,h1⟩,cell_of_row _ _ 0 _ 39 (0,0) hr,cell_of_row _ _ 1 _ 39 (0,0) hr⟩
  have h:=PSE.one E (by rw[hs];exact h2) hb hn;rw[hs]at h
  rw[←hWa,←hW2];exact h
def zW (w:World)(p:Nd)(e:Ending)(w':World):Prop :=
  ((1000<p.sz∧∃v,v=.agg #[.int .i64 0,.int .i64 0,.string ⟨#[]⟩,.slice none 0 0,.string ⟨#[]⟩,.slice none 0 0]∧e=.returned (.tuple #[v,.int .i64 43])) ∨
    (p.sz≤1000∧32<fR p∧∃v,v=.agg #[.int .i64 0,.int .i64 0,.string ⟨#[]⟩,.slice none 0 0,.string ⟨#[]⟩,.slice none 0 0]∧e=.returned (.tuple #[v,.int .i64 44])) ∨
    (p.sz≤1000∧fR p≤32∧∃v,e=.returned (.tuple #[v,.int .i64 0])∧aL w' p v))∧Below w.heap.size w w'
theorem aBi (t:ByteArray)(h:t.size≤100000000):SmK (bP t).kids∧aH (bP t).kids≤3+t.size∧(bP t).kids.length≤2:=by
  have hm:SmN fF∧fF.tk=1:=⟨aAB.1 _ (by decide +kernel),by decide +kernel⟩
  have h0:aH []=0:=by unfold aH;rfl
  unfold bP;split
  · refine⟨(dX _ _).2 ⟨hm.1,eC⟩,?_,by show 1≤2;omega⟩
    show aH [fF]≤_;rw[gT,hm.2];omega
  · refine⟨(dX _ _).2 ⟨hm.1,(dX _ _).2 ⟨aAV (by decide) ((dX _ _).2 ⟨aD6 h,eC⟩),eC⟩⟩,?_,by show 2≤2;omega⟩
    show aH [fF,elN bB [aV t]]≤_;rw[cF,gT,hm.2,aAL,gT,aDX];omega
open Go.RowKit
theorem iC (w:World):eI w (.slice none 0 0) []:=⟨none,0,rfl,fun j h=>absurd h (by simp)⟩
theorem Tryz.struct45:(match Tryz.prog.underlying 45 with|some (.struct _)=>true|_=>false)=true:=by kernel_rfl
theorem wO {fn:Func}{p:Tmp}(h:fn.results=#[.cell p 45])(tmps:Array Value)(w:World)(g:Nat)(c0 c1 c2 c3 c4 c5:Value)
    (hp:tmps.getD p undef=.pointer (some ⟨g,0,none⟩)) (hg:w.heap[g]?=some (.cells #[c0,c1,c2,c3,c4,c5] 45 (0,0))) :
    (results fn tmps).run Tryz.prog w=.ok (.agg #[c0,c1,c2,c3,c4,c5]) w:=by
  have hs:=Tryz.struct45;obtain⟨i0,hi,hz0,hz1,hz2⟩:=info_parts Tryz.info45;split at hs
  · rename_i fs hu
    exact results_cell_row h tmps w g 45 _ (0,0) _ hp hg hu rfl (by rw[hi];simp[hz1])
  · exact absurd hs (by simp)
theorem xA (s:ByteArray)(w:World):Calls Tryz.prog 61 #[.string s] w fun e w' =>
    (∃v,e=.returned v∧v=.agg #[.int .i64 2,.int .i64 0,.string ⟨#[]⟩,.slice none 0 0,.string s,.slice none 0 0]∧aL w' (aV s) v)∧Below w.heap.size w w':=by
  go_enter Tryz.func61,Tryz.ntmps61
  go_wp2
  refine bodyPost_ret (wO rfl _ _ w.heap.size _ _ _ _ _ _ rfl (heap_alloc_new w _)) rfl ?_;refine⟨⟨_,rfl,rfl,?_⟩,(Below.refl _ w).alloc bI _⟩;unfold aV aL;exact⟨_,none,0,rfl,by simp,iC _,by unfold aT;trivial⟩
theorem pZ (nm:ByteArray)(ks:List Nd)(a:Option Addr)(c:Nat)(w:World)(hl:ks.length≤1000000000)(HK:Hid (aT w a 0 ks)):Calls Tryz.prog 51 #[.string nm,.slice a ks.length c] w fun e w' =>
    (∃v,e=.returned v∧v=.agg #[.int .i64 1,.int .i64 0,.string nm,.slice none 0 0,.string ⟨#[]⟩,.slice a ks.length c]∧aL w' (elN nm ks) v)∧Below w.heap.size w w':=by
  go_enter Tryz.func51,Tryz.ntmps51
  go_wp2
  refine bodyPost_ret (wO rfl _ _ w.heap.size _ _ _ _ _ _ rfl (heap_alloc_new w _)) rfl ?_;have hb:=(Below.refl w.heap.size w).alloc bI (.cells #[.int .i64 1,.int .i64 0,.string nm,.slice none 0 0,.string ⟨#[]⟩,.slice a ks.length c] 45);refine⟨⟨_,rfl,rfl,?_⟩,hb⟩;unfold elN aL;exact⟨_,a,c,rfl,by omega,iC _,HK.out.below hb bI⟩
open Go.RowKit
theorem nL {fn:Func}{p q:Tmp}(h:fn.results=#[.cell p 45,.tmp q])(tmps:Array Value)(w:World)(g:Nat)(c0 c1 c2 c3 c4 c5 u:Value)
    (hp:tmps.getD p undef=.pointer (some ⟨g,0,none⟩)) (hq:tmps.getD q undef=u) (hg:w.heap[g]?=some (.cells #[c0,c1,c2,c3,c4,c5] 45 (0,0))) :
    (results fn tmps).run Tryz.prog w=.ok (.tuple #[.agg #[c0,c1,c2,c3,c4,c5],u]) w:=by
  have hs:=Tryz.struct45;obtain⟨i0,hi,hz0,hz1,hz2⟩:=info_parts Tryz.info45;have hp':tmps[p]?.getD undef=.pointer (some ⟨g,0,none⟩):=by simpa using hp
  have hq':tmps[q]?.getD undef=u:=by simpa using hq
  split at hs
  · rename_i fs hu
    simp[results,h,hp',hq',asAddr,run_loadVar_row w g 45 45 _ (0,0) _ hg hu rfl (by rw[hi];simp[hz1])]
  · exact absurd hs (by simp)
theorem gM (nm:ByteArray)(ks:List Nd)(a:Option Addr)(c:Nat)(w:World)(hl:ks.length≤1000000000)(HK:Hid (aT w a 0 ks)):Calls Tryz.prog 103 #[.string nm,.slice a ks.length c] w fun e w' =>
    (∃v,e=.returned v∧v=.agg #[.int .i64 1,.int .i64 0,.string nm,.slice none 0 0,.string ⟨#[]⟩,.slice a ks.length c]∧aL w' (elN nm ks) v)∧Below w.heap.size w w':=by
  go_enter Tryz.func103,Tryz.ntmps103
  go_wp2
  refine bodyPost_ret (wO rfl _ _ w.heap.size _ _ _ _ _ _ rfl (heap_alloc_new w _)) rfl ?_;have hb:=(Below.refl w.heap.size w).alloc bI (.cells #[.int .i64 1,.int .i64 0,.string nm,.slice none 0 0,.string ⟨#[]⟩,.slice a ks.length c] 45);refine⟨⟨_,rfl,rfl,?_⟩,hb⟩;unfold elN aL;exact⟨_,a,c,rfl,by omega,iC _,HK.out.below hb bI⟩
theorem aHM (w:World):aL w aC3 (.agg #[.int .i64 0,.int .i64 0,.string ⟨#[]⟩,.slice none 0 0,.string ⟨#[]⟩,.slice none 0 0]):=by
  unfold aC3 aL;exact⟨_,none,0,rfl,by simp,iC w,by unfold aT;trivial⟩
theorem aGb (nm:ByteArray)(l:List Nd)(k:Nat)(h:k<l.length):aM nm (l.drop k)=if oY nm l[k]then l[k]else aM nm (l.drop (k+1)):=by
  rw[List.drop_eq_getElem_cons h];conv=>lhs;unfold aM
theorem aCc (l:List Nd)(nm:ByteArray)(a:Option Addr)(c:Nat)(w:World)(hl:l.length≤140737488355328)(HK:Hid (aT w a 0 l)) :
    Calls Tryz.prog 109 #[.slice a l.length c,.string nm] w fun e w'=>(∃v b,e=.returned (.tuple #[v,.bool b])∧aL w' (aM nm l) v)∧Below w.heap.size w w':=by
  obtain⟨i45,hi45,hz45,hs45,hb45⟩:=info_parts Tryz.info45;go_enter Tryz.func109,Tryz.ntmps109
  go_wp2
  obtain⟨W1,hW1⟩:∃W1,W1=w.alloc (.cells #[.int .i64 0,.int .i64 0,.string ⟨#[]⟩,.slice none 0 0,.string ⟨#[]⟩,.slice none 0 0] 45):=⟨_,rfl⟩
  have HROW:=hid (show W1.heap[w.heap.size]?=some (.cells #[.int .i64 0,.int .i64 0,.string ⟨#[]⟩,.slice none 0 0,.string ⟨#[]⟩,.slice none 0 0] 45 (0,0)) by rw[hW1];exact heap_alloc_new w _);have HB1:=hid (show Below w.heap.size w W1 by rw[hW1];exact(Below.refl _ w).alloc bI _);have HLT:=hid (show w.heap.size<W1.heap.size by rw[hW1];simp);rw[←hW1];clear hW1;go_loopw [10] (fun i wx=>∃k:Nat,i=.int .i64 k∧Hid (k≤l.length∧aM nm (l.drop k)=aM nm l∧Below W1.heap.size W1 wx)) (fun i _=>l.length-(intOf i).toNat)
  case atStart=>exact⟨0,rfl,hid ⟨Nat.zero_le _,rfl,Below.refl _ _⟩⟩
  case round =>
    obtain⟨k,rfl,hR⟩:=hrel;have hk:=hR.out.1;have HBR:=hid (HB1.out.trans (hR.out.2.2.mono HB1.out.size));rcases Nat.lt_or_ge k l.length with hlt|hge
    · obtain⟨g,off,c0,c1,c2,c3,c4,c5,rfl,h6,hn⟩:=HK.out.get l 0 k hlt
      rw[Nat.zero_add]at h6
      obtain⟨x0,x1,x2,x3,x4,x5⟩:=h6.below HBR.out bI;obtain⟨a1,b1,a2,b2,rfl,rfl,rfl,rfl,rfl,rfl⟩:=hn.cells;have HN0:=hid hn;have HST:=hid (aGb nm l k hlt);clear hn h6;generalize l[k]=q at *
      obtain⟨V,hV⟩:∃V,V=wr.alloc (.cells #[.int .i64 q.kind,.int .i64 q.space,.string q.name,.slice a1 q.attrs.length b1,.string q.text,.slice a2 q.kids.length b2] 45):=⟨_,rfl⟩
      have hbV:Below wr.heap.size wr V:=by rw[hV];exact(Below.refl _ wr).alloc bI _
      have hQ:=bG wr (.int .i64 q.kind) (.int .i64 q.space) (.string q.name) (.slice a1 q.attrs.length b1) (.string q.text) (.slice a2 q.kids.length b2);rw[←hV]at hQ
      have HV:=hid hV;have HBV:=hid (hR.out.2.2.trans (hbV.mono hR.out.2.2.size));have HBW:=jH HBR hbV;have HRV:=hid ((HBV.out.block w.heap.size HLT.out).trans HROW.out);clear hbV hV;go_upto_region 4 with fail
      rw[←HV.out];clear x0 x1 x2 x3 x4 x5;obtain⟨x0,x1,x2,x3,x4,x5⟩:=hQ.zero;clear hQ HV;by_cases h1:q.kind=1
      · have e1:(q.kind==1)=true:=by rw[h1];rfl
        by_cases h2:q.space=0
        · have e2:(q.space==0)=true:=by rw[h2];rfl
          by_cases h3:q.name=nm
          · have e3:(q.name.toList==nm.toList)=true:=by rw[h3];simp
            have HF:=hid (show aM nm l=q by rw[←hR.out.2.1,HST.out,if_pos ⟨h1,h2,h3⟩]);clear h1 h2 h3;go_wp2_with (refine wpList_store_row (by rfl) 45 (.tmp 4) (.tmp 28) rfl w.heap.size #[.int .i64 q.kind,.int .i64 q.space,.string q.name,.slice a1 q.attrs.length b1,.string q.text,.slice a2 q.kids.length b2] rfl rfl 45 _ HRV.out (by rw[hi45];simp[hs45]) rfl (by simp[Value.oneCell']) ?_)
            refine bodyPost_ret (nL rfl _ _ w.heap.size _ _ _ _ _ _ (.bool true) rfl rfl (setRow_heap V w.heap.size _ _ 45 (0,0) HRV.out)) rfl ?_;rw[HF.out];exact⟨⟨_,_,rfl,HN0.out.below (cJ HBW.out w.heap.size bI _) bI⟩,cJ HBW.out w.heap.size bI _⟩
          · have e3:(q.name.toList==nm.toList)=false:=by rw[beq_eq_false_iff_ne];exact sO h3
            have HF:=hid (show aM nm (l.drop (k+1))=aM nm l by rw[←hR.out.2.1,HST.out,if_neg (fun h=>h3 h.2.2)]);clear h3;go_wp2
            go_roundw
            case rel=>exact⟨k+1,by go_num,hid ⟨hlt,HF.out,HBV.out⟩⟩
            case measure=>simp[intOf];omega
        · have e2:(q.space==0)=false:=by rw[beq_eq_false_iff_ne];exact h2
          have HF:=hid (show aM nm (l.drop (k+1))=aM nm l by rw[←hR.out.2.1,HST.out,if_neg (fun h=>h2 h.2.1)]);clear h2;go_wp2
          go_roundw
          case rel=>exact⟨k+1,by go_num,hid ⟨hlt,HF.out,HBV.out⟩⟩
          case measure=>simp[intOf];omega
      · have e1:(q.kind==1)=false:=by rw[beq_eq_false_iff_ne];exact h1
        have HF:=hid (show aM nm (l.drop (k+1))=aM nm l by rw[←hR.out.2.1,HST.out,if_neg (fun h=>h1 h.1)]);clear h1;go_wp2
        go_roundw
        case rel=>exact⟨k+1,by go_num,hid ⟨hlt,HF.out,HBV.out⟩⟩
        case measure=>simp[intOf];omega
    · have HF:=hid (show aM nm l=aC3 by rw[←hR.out.2.1,List.drop_eq_nil_of_le hge];unfold aM;rfl)
      have HRV:=hid ((hR.out.2.2.block w.heap.size HLT.out).trans HROW.out);go_wp2_with (refine wpList_store_row (by rfl) 45 (.tmp 4) (.tmp 30) rfl w.heap.size #[.int .i64 0,.int .i64 0,.string ⟨#[]⟩,.slice none 0 0,.string ⟨#[]⟩,.slice none 0 0] rfl rfl 45 _ HRV.out (by rw[hi45];simp[hs45]) rfl (by simp[Value.oneCell']) ?_)
      refine bodyPost_ret (nL rfl _ _ w.heap.size _ _ _ _ _ _ (.bool false) rfl rfl (setRow_heap wr w.heap.size _ _ 45 (0,0) HRV.out)) rfl ?_;rw[HF.out];exact⟨⟨_,_,rfl,aHM _⟩,cJ HBR.out w.heap.size bI _⟩
theorem nV (nm:ByteArray)(l:List Nd):(aM nm l).tk≤1+aH l:=by
  induction l with
  | nil=>unfold aM;decide
  | cons n l ih =>
    unfold aM;rw[cF];split
    · omega
    · omega
theorem xQ (l:List Nd):(dJ l).length≤aH l:=by
  induction l with
  | nil=>exact Nat.zero_le _
  | cons n l ih =>
    unfold dJ;rw[cF,dT,List.length_append];split
    · have e:n.text.data.toList.length=n.text.size:=rfl
      omega
    · simp only[List.length_nil]
      omega
theorem aAC (n:Nd)(l:List Nd):dJ (n :: l)=(if n.kind=2 then n.text.data.toList else [])++dJ l:=by conv=>lhs;unfold dJ
theorem aGO (l:List Nd)(k:Nat)(h:k<l.length):dJ (l.take (k+1))=dJ (l.take k)++(if l[k].kind=2 then l[k].text.data.toList else []):=by
  have happ:∀a b:List Nd,dJ (a++b)=dJ a++dJ b:=by
    intro a;induction a with
    | nil=>intro b;rfl
    | cons n a ih=>intro b;rw[List.cons_append,aAC,aAC,ih,List.append_assoc]
  rw[List.take_succ_eq_append_getElem h,happ];congr 1;unfold dJ dJ;rw[List.append_nil]
structure aFF (l:List Nd) (B k:Nat) (w wx:World) (o:List UInt8):Prop where
  le:k≤l.length
  bld:Lib.IsBuilderF 112 5 B B (Lib.byteCells o) wx
  bel:Below B w wx
  out:o=dJ (l.take k)
theorem aIr (n:Nd)(v:Value)(w:World)(hb:n.tk≤300000000)(HT:Hid (aC w))(HN:Hid (aL w n v)) :
    Calls Tryz.prog 58 #[v] w fun e w'=>e=.returned (.string (fV n))∧Below w.heap.size w w':=by
  obtain⟨av,a,c,rfl,hA,hK,hlen⟩:=HN.out.get;have HK:=hid hK;have HF1:=hid (fun(W:World) (h:Hid (aT W a 0 n.kids))=>aCc n.kids cH a c W hlen h);have HTN:Hid (fV n=bT ⟨(dJ (aM bB (aM cH n.kids).kids).kids).toArray⟩):=rfl;have htk:aH (aM bB (aM cH n.kids).kids).kids≤300000000:=by
    have h0:=dT n;have h1:=nV cH n.kids;have h2:=dT (aM cH n.kids);have h3:=nV bB (aM cH n.kids).kids;have h4:=dT (aM bB (aM cH n.kids).kids);omega
  clear hA hK HN hb;generalize fV n=tit at *
  generalize n.kids=ks at *
  generalize n.kind=kd at *
  generalize n.space=sp at *
  generalize n.name=nm at *
  generalize n.text=tx at *
  unfold cH at HF1;go_enter Tryz.func58,Tryz.ntmps58
  go_wp2_with fail
  obtain⟨W0,hW0⟩:∃W0,W0=w.alloc (.cells #[.int .i64 kd,.int .i64 sp,.string nm,av,.string tx,.slice a ks.length c] 45):=⟨_,rfl⟩
  have hB0:Below w.heap.size w W0:=by rw[hW0];exact(Below.refl _ w).alloc bI _
  rw[←hW0];have HB0:=hid hB0;clear hW0 hB0;refine(HF1.out W0 (hid (HK.out.below HB0.out bI))).mono ?_;rintro e W1 ⟨⟨v1,b1,rfl,hv1⟩,B1⟩;obtain⟨av1,a1,c1,rfl,⟨aa1,ca1,rfl,_⟩,hK1,hlen1⟩:=hv1.get;have HB1:=jH HB0 B1;have HK1:=hid hK1;have HF2:=hid (fun(W:World) (h:Hid (aT W a1 0 (aM ⟨#[104,101,97,100]⟩ ks).kids))=>aCc (aM ⟨#[104,101,97,100]⟩ ks).kids bB a1 c1 W hlen1 h);unfold cH at HTN htk;unfold bB at HTN htk HF2;clear B1 hv1 hK1 hlen1 HF1 HK;generalize aM ⟨#[104,101,97,100]⟩ ks=hd at *
  go_wp2_with fail
  obtain⟨W2,hW2⟩:∃W2,W2=W1.alloc (.cells #[.int .i64 hd.kind,.int .i64 hd.space,.string hd.name,.slice aa1 hd.attrs.length ca1,.string hd.text,.slice a1 hd.kids.length c1] 45):=⟨_,rfl⟩
  have hB2:Below W1.heap.size W1 W2:=by rw[hW2];exact(Below.refl _ W1).alloc bI _
  rw[←hW2];have HC2:=hid hB2;have HB2:=jH HB1 hB2;clear hW2 hB2;refine(HF2.out W2 (hid (HK1.out.below HC2.out bI))).mono ?_;rintro e W3 ⟨⟨v3,b3,rfl,hv3⟩,B3⟩;obtain⟨av3,a3,c3,rfl,⟨aa3,ca3,rfl,_⟩,hK3,hlen3⟩:=hv3.get;have HB3:=jH HB2 B3;have HK3:=hid hK3;clear B3 hv3 hK3 HF2 HK1;generalize aM ⟨#[116,105,116,108,101]⟩ hd.kids=tn at *
  generalize tn.kids=l at *
  have HJ:=hid (xQ l);go_wp2_with fail
  obtain⟨W4,hW4⟩:∃W4,W4=W3.alloc (.cells #[.int .i64 tn.kind,.int .i64 tn.space,.string tn.name,.slice aa3 tn.attrs.length ca3,.string tn.text,.slice a3 l.length c3] 45):=⟨_,rfl⟩
  have hB4:Below W3.heap.size W3 W4:=by rw[hW4];exact(Below.refl _ W3).alloc bI _
  have hs4:W3.heap.size+1=W4.heap.size:=by rw[hW4];simp
  rw[←hW4,hs4];clear hs4;have HK4:=hid (HK3.out.below hB4 bI);have HB4:=jH HB3 hB4;clear hW4 hB4 HK3;go_loopw [25] (fun i wx=>∃k:Nat,i=.int .i64 k∧∃o,Hid (aFF l W4.heap.size k W4 wx o)) (fun i _=>l.length-(intOf i).toNat)
  case atStart =>
    refine⟨0,rfl,[],hid ⟨Nat.zero_le _,?_,(Below.refl _ W4).alloc bI _,rfl⟩⟩;exact .inl ⟨Nat.le_refl _,.slice none 0 0,heap_alloc_new W4 _,World.ownsRowF_nil _ _ _ _,by simp[Value.ownBlock]⟩
  case round =>
    obtain⟨k,rfl,o,hD⟩:=hrel;have hk:=hD.out.le;rcases Nat.lt_or_ge k l.length with hlt|hge
    · obtain⟨g,off,c0,c1,c2,c3,c4,c5,rfl,h6,hn⟩:=HK4.out.get l 0 k hlt
      rw[Nat.zero_add]at h6
      obtain⟨x0,x1,x2,x3,x4,x5⟩:=h6.below hD.out.bel bI;obtain⟨p1,q1,p2,q2,rfl,rfl,rfl,rfl,rfl,rfl⟩:=hn.cells;have HST:=hid (aGO l k hlt);have hol:o.length+l[k].text.size≤300000000+300000000:=by
        have h1:=xQ (l.take k);have h2:aH (l.take k)≤aH l:=aF7 l k;have h3:=aGH l k hlt;have h4:=dT l[k];rw[hD.out.out];omega
      clear hn h6;generalize l[k]=q at *
      obtain⟨V,hV⟩:∃V,V=wr.alloc (.cells #[.int .i64 q.kind,.int .i64 q.space,.string q.name,.slice p1 q.attrs.length q1,.string q.text,.slice p2 q.kids.length q2] 45):=⟨_,rfl⟩
      have hbV:Below wr.heap.size wr V:=by rw[hV];exact(Below.refl _ wr).alloc bI _
      have hQ:=bG wr (.int .i64 q.kind) (.int .i64 q.space) (.string q.name) (.slice p1 q.attrs.length q1) (.string q.text) (.slice p2 q.kids.length q2);rw[←hV]at hQ
      have HBL:=hid (show Lib.IsBuilderF 112 5 W4.heap.size W4.heap.size (Lib.byteCells o) V by rw[hV];exact hD.out.bld.alloc _);have HV:=hid hV;have HBV:=hid (hD.out.bel.trans (hbV.mono hD.out.bel.size));clear hbV hV;go_upto_region 7 with fail
      rw[←HV.out];clear x0 x1 x2 x3 x4 x5;obtain⟨x0,x1,x2,x3,x4,x5⟩:=hQ.zero;clear hQ HV;by_cases h1:q.kind=2
      · have e1:(q.kind==2)=true:=by rw[h1];rfl
        have HST2:=hid (show o++q.text.data.toList=dJ (l.take (k+1)) by rw[HST.out,if_pos h1,hD.out.out]);have HWS:=hid (Tryz.Builder_WriteString_k W4.heap.size W4.heap.size (Lib.byteCells o) q.text V HBL.out (by rw[jK];omega) HBV.out.size);clear h1;go_wp2_with fail
        refine HWS.out.mono ?_;rintro e W5 ⟨rfl,d1,d2,d3⟩;have HN5:=hid (show aFF l W4.heap.size (k+1) W4 W5 (o++q.text.data.toList)from⟨hlt,.inr (by rw[←mG];exact d1),HBV.out.trans d2,HST2.out⟩);clear d1 d2 d3;go_wp2
        go_roundw
        case rel=>exact⟨k+1,by go_num,_,HN5⟩
        case measure=>simp[intOf];omega
      · have e1:(q.kind==2)=false:=by rw[beq_eq_false_iff_ne];exact h1
        have HN5:=hid (show aFF l W4.heap.size (k+1) W4 V o from⟨hlt,HBL.out,HBV.out,by rw[HST.out,if_neg h1,List.append_nil];exact hD.out.out⟩);clear h1;go_wp2
        go_roundw
        case rel=>exact⟨k+1,by go_num,_,HN5⟩
        case measure=>simp[intOf];omega
    · have HO:=hid (show o=dJ l by rw[hD.out.out,List.take_of_length_le hge])
      go_wp2_with fail
      refine(Tryz.Builder_String_any_k W4.heap.size W4.heap.size o _ hD.out.bld hD.out.bel.size).mono ?_;rintro e W5 ⟨rfl,d1,d2,d3⟩;have HB5:=hid (HB4.out.trans ((hD.out.bel.trans d2).mono HB4.out.size));clear d1 d2 d3;go_wp2_with fail
      refine(nZ ⟨o.toArray⟩ (by have:=HJ.out;rw[HO.out];simp[ByteArray.size];omega) W5 (HT.out.below HB5.out bI)).mono ?_;rintro e W6 ⟨rfl,B6⟩;have HB6:=jH HB5 B6;clear B6;go_wp2
      go_ret;refine⟨?_,HB6.out⟩;rw[HTN.out,←HO.out];rfl
end Go.Proofs.YtcfgbdhpcboikaaGreatDoor
