/-
The document's Holds: what it answers.
-/
import Derived.Test.YtcfgbdhpcboikaaGreatDoorRefHB
namespace Go.Proofs.YtcfgbdhpcboikaaGreatDoor
open Go.Lib (hid)
set_option maxHeartbeats 16000000
set_option maxRecDepth 100000
open Go.RowKit
theorem dO {n:Nat}:n<=n:=Nat.le_refl n
theorem oZ {a w v:World}(h:Go.RowKit.Hid (Go.RowKit.Below a.heap.size a w))(b:Go.RowKit.Below w.heap.size w v):Go.RowKit.Hid (Go.RowKit.Below a.heap.size a v):=hid (h.out.trans (b.mono h.out.size))
theorem nZ (ks:List Nd):dW ks=true↔(1<=ks.length/\ks.length<=2)/\(∀h:0<ks.length,kI ks[0]=true)/\∀h:1<ks.length,oJ ks[1]=true:=by
 match ks with
 | []=>simp[dW]
 | [m]=>simp[dW]
 | [m,t]=>simp[dW]
 | _ :: _ :: _ :: _=>simp[dW]
theorem qT (t:Nd):oJ t=true↔bT t dY=true/\t.kids.length=1/\∀h:0<t.kids.length,cN t.kids[0]=true:=by
 rw[tC,Bool.and_eq_true];generalize t.kids=ks;match ks with
 | []=>simp
 | [x]=>simp
 | _ :: _ :: _=>simp
def iP:ByteArray:=⟨#[99,104,97,114,115,101,116]⟩
def qR:ByteArray:=⟨#[117,116,102,45,56]⟩
theorem pS (m:Nd):kI m=true↔(fF m=true/\m.name=mP)/\m.kids.length=0/\m.attrs.length=1/\∀h:0<m.attrs.length,m.attrs[0]=(iP,qR):=by
 unfold kI;simp only[Bool.and_eq_true,decide_eq_true_eq];have:m.attrs=dX↔m.attrs.length=1/\∀h:0<m.attrs.length,m.attrs[0]=(iP,qR):=by
  generalize m.attrs=l;match l with
  | []=>simp[dX]
  | [x]=>simp[dX,iP,qR]
  | _ :: _ :: _=>simp[dX]
 rw[this];exact⟨fun⟨a,b,c,d⟩=>⟨⟨a,b⟩,c,d⟩,fun⟨⟨a,b⟩,c,d⟩=>⟨a,b,c,d⟩⟩
theorem aHD (m:Nd):mF m.kind m.space m.name m.text 0 mP=true↔fF m=true/\m.name=mP:=by
 unfold mF fF;simp
theorem aBI (VV:fY)(HRA:Hid (aAl VV))(n:Nd)(hz:n.sz<=1000000)(v:Value)(r:Bool)(w:World)(HT:Hid (aA w))(HS:Hid (SmN n))(hN:Hid (aQ w n v))(hr:Hid (r=true↔nG VV n)) :
  Calls Tryz.prog 46 #[v] w (aB r w):=by
 obtain⟨av,a,c,rfl,hA,hK,hlen⟩:=hN.out.get;obtain⟨aa,ca,rfl,hAA⟩:=hA;have HK:=hid hK;have HSN:=hid HS.out.get;have HZ:=hid hz;have NO:=fun(h:¬nG VV n)=>(show r=false by cases hrr:r with|false=>rfl|true=>exact absurd (hr.out.1 hrr) h);have HNO:=hid NO;have HFEW:=hid (aNA n);have HSZ:=hid (show n.sz=1+aG n.kids from gJ n);have hdz:jB n<=n.sz:=aD5.1 n;have HTR:=hid (fun W hW=>aKa n.sz n dO (.agg #[.int .i64 n.kind,.int .i64 n.space,.string n.name,.slice aa n.attrs.length ca,.string n.text,.slice a n.kids.length c]) W (by omega) hW);have HP:=hid (fun W=>nH n.kind n.space n.name n.text aa n.attrs.length ca (.slice a n.kids.length c) eV W (bT n eV) rfl);clear hK hAA NO;obtain⟨nz,hnz⟩:∃nz,n.sz=nz:=⟨_,rfl⟩;obtain⟨nd,hnd⟩:∃nd,jB n=nd:=⟨_,rfl⟩;rw[hnz,hnd]at HTR;rw[hnz]at hz;rw[hnd,hnz]at hdz;have HNZ:=hid hnz;have HND:=hid hnd;clear hnz hnd;generalize hkl:n.kids.length=kl at *;generalize hal:n.attrs.length=al at *;have HKL:=hid hkl;clear hkl hal;obtain⟨W0,hW0⟩:∃W0,W0=w.alloc (.cells #[.int .i64 n.kind,.int .i64 n.space,.string n.name,.slice aa al ca,.string n.text,.slice a kl c] 45):=⟨_,rfl⟩;have hB0:Below w.heap.size w W0:=by{rw[hW0];exact(Below.refl _ w).alloc dO _};have hQ:=bC w (.int .i64 n.kind) (.int .i64 n.space) (.string n.name) (.slice aa al ca) (.string n.text) (.slice a kl c);rw[<-hW0]at hQ;have HQ:=hid hQ;have HB0:=hid hB0;have HW0:=hid hW0;clear hQ hB0 hW0;go_enter Tryz.func46,Tryz.ntmps46;go_wp2_with fail;rw[<-HW0.out];refine(HTR.out W0 (hid (hN.out.below HB0.out dO))).mono ?_;rintro e W1 ⟨rfl,B1⟩;have HQ1:=hid (HQ.out.below B1 dO);have HB1:=oZ HB0 B1;obtain⟨q0,q1,q2,q3,q4,q5⟩:=HQ1.out.zero;clear B1 HTR HQ HB0 HW0;rcases Nat.lt_or_ge 1000 nz with hbig|hbig;{have HR:=hid (HNO.out (fun h=>by have h2:=(HFEW.out.1 h.1).2;have:=HNZ.out;omega));have e0:decide ((1000:Int)<(nz:Int))=true:=decide_eq_true (by omega);go_wp2;go_ret;exact⟨by rw[HR.out];rfl,HB1.out⟩};have e0:decide ((1000:Int)<(nz:Int))=false:=decide_eq_false (by omega);rcases Nat.lt_or_ge 32 nd with hdeep|hdeep;{have HR:=hid (HNO.out (fun h=>by have h2:=(HFEW.out.1 h.1).1;have:=HND.out;omega));have e1:decide ((32:Int)<(nd:Int))=true:=decide_eq_true (by omega);go_wp2;go_ret;exact⟨by rw[HR.out];rfl,HB1.out⟩};have e1:decide ((32:Int)<(nd:Int))=false:=decide_eq_false (by omega);have HPOS:Hid (0<=eG 32 n 1000):=HFEW.out.2 ⟨by rw[HND.out];exact hdeep,by rw[HNZ.out];exact hbig⟩;go_wp2_with fail
 refine(HP.out _).mono ?_;unfold aB;rintro e W2 ⟨rfl,B2⟩;have HQ2:=hid (HQ1.out.below B2 dO);have HB2:=oZ HB1 B2;clear B2 HP HQ1 HB1 q0 q1 q2 q3 q4 q5;obtain⟨q0,q1,q2,q3,q4,q5⟩:=HQ2.out.zero;cases hp:bT n eV with
 | false =>
  have HR:=hid (HNO.out (fun h=>by have h1:=h.2.1;rw[hp]at h1;cases h1));clear hp;go_wp2
  go_ret;exact⟨by rw[HR.out];rfl,HB2.out⟩
 | true =>
  have HPP:=hid hp;clear hp;by_cases h2:kl=2
  ·subst h2;obtain⟨kh,kb,hk2⟩:∃h b,n.kids=[h,b]:=by
    have h:=HKL.out;match hkk:n.kids with
    | []=>rw[hkk]at h;simp at h
    | [_]=>rw[hkk]at h;simp at h
    | [x,y]=>exact⟨x,y,rfl⟩
    | _ :: _ :: _ :: _=>rw[hkk]at h;simp at h
   have hkk:=HK.out;have hss:=HSN.out.2.2.2.2;have hnn:∀x,x∈n.kids->x.sz<=aG n.kids:=(nL n.kids).1;rw[hk2]at hkk hss hnn
   obtain⟨g,off,c0,c1,c2,c3,c4,c5,rfl,h6,hn6⟩:=hkk.get [kh,kb] 0 0 (by simp);obtain⟨g',off',d0,d1,d2,d3,d4,d5,e,h7,hn7⟩:=hkk.get [kh,kb] 0 1 (by simp);cases e;simp only[List.getElem_cons_succ,List.getElem_cons_zero,Nat.zero_add,Nat.zero_mul,Nat.one_mul,Nat.add_zero]at h6 h7 hn6 hn7;obtain⟨a1,b1,a2,b2,rfl,rfl,rfl,rfl,rfl,rfl⟩:=hn6.cells;obtain⟨l1,l2,l3,l4,rfl,rfl,rfl,rfl,rfl,rfl⟩:=hn7.cells;have HN6:=hid hn6;have HN7:=hid hn7;have HH6:=hid h6;have HH7:=hid h7;have HSH:=hid (show SmN kh by unfold SmK at hss;exact hss.1);have HSB:=hid (show SmN kb by unfold SmK at hss;obtain⟨_,h⟩:=hss;unfold SmK at h;exact h.1);have HZB:=hid (show kb.sz<=1000000 by have h1:=hnn kb (by simp);have h2:=HZ.out;have h3:=HSZ.out;rw[hk2]at h3;omega);have hzh:kh.kids.length<=2000000:=by
    have h1:=hnn kh (by simp);have h2:=HZ.out;have h5:=HSZ.out;rw[hk2]at h5
    have h3:=gJ kh;have h4:=(nL kh.kids).2;omega
   have HK2:=hid hk2;have HKH:=hid hn6.kidsV;obtain⟨x0,x1,x2,x3,x4,x5⟩:=h6.below HB2.out dO;have HPH:=hid (fun W=>nH kh.kind kh.space kh.name kh.text a1 kh.attrs.length b1 (.slice a2 kh.kids.length b2) kJ W (bT kh kJ) rfl);have HPB:=hid (fun W=>nH kb.kind kb.space kb.name kb.text l1 kb.attrs.length l2 (.slice l3 kb.kids.length l4) gV W (bT kb gV) rfl);have HNO2:Hid (¬(bT kh kJ=true/\dW kh.kids=true/\bT kb gV=true/\cQ VV [] kb)->r=false):=fun h=>HNO.out (fun hp=>by
    obtain⟨_,_,x,y,hk,p1,p2,p3,p4⟩:=hp;rw[HK2.out]at hk
    simp only[List.cons.injEq,and_true]at hk;obtain⟨rfl,rfl⟩:=hk;exact h ⟨p1,p2,p3,p4⟩)
   have HYES:Hid (bT kh kJ=true->dW kh.kids=true->bT kb gV=true->cQ VV [] kb->r=true):=fun h1 h2 h3 h4=>hr.out.2 ⟨HPOS.out,HPP.out,kh,kb,HK2.out,h1,h2,h3,h4⟩
   clear hkk hss hnn hk2 hn6 hn7 h6 h7 HNO;go_wp2_with fail
   refine(HPH.out _).mono ?_;unfold aB;rintro e W3 ⟨rfl,B3⟩;have HQ3:=hid (HQ2.out.below B3 dO);have HB3:=oZ HB2 B3;clear B3 HPH HQ2 HB2 q0 q1 q2 q3 q4 q5 x0 x1 x2 x3 x4 x5;obtain⟨q0,q1,q2,q3,q4,q5⟩:=HQ3.out.zero;obtain⟨z0,z1,z2,z3,z4,z5⟩:=HH7.out.below HB3.out dO;cases c1:bT kh kJ with
   | false =>
    have HR:=hid (HNO2.out (fun h=>by have h1:=h.1;rw[c1]at h1;cases h1));clear c1;go_wp2
    go_ret;exact⟨by rw[HR.out];rfl,HB3.out⟩
   | true =>
    have C1:=hid c1;clear c1;go_wp2_with fail
    refine(HPB.out _).mono ?_;unfold aB;rintro e W4 ⟨rfl,B4⟩;have HQ4:=hid (HQ3.out.below B4 dO);have HB4:=oZ HB3 B4;clear B4 HPB HQ3 HB3 q0 q1 q2 q3 q4 q5 z0 z1 z2 z3 z4 z5;obtain⟨q0,q1,q2,q3,q4,q5⟩:=HQ4.out.zero;obtain⟨x0,x1,x2,x3,x4,x5⟩:=HH6.out.below HB4.out dO;cases c3:bT kb gV with
    | false =>
     have HR:=hid (HNO2.out (fun h=>by have h1:=h.2.2.1;rw[c3]at h1;cases h1));clear c3;go_wp2
     go_ret;exact⟨by rw[HR.out];rfl,HB4.out⟩
    | true =>
     have C3:=hid c3;have HNH:Hid (dW kh.kids≠true->r=false):=fun h=>HNO2.out (fun hp=>h hp.2.1)
     clear c3;generalize hhl:kh.kids.length=hl at *
     have HHL:=hid hhl;clear hhl;rcases Nat.lt_or_ge hl 1 with hl1|hl1
     ·have HR:=hid (HNH.out (fun h=>by have:=((nZ _).1 h).1.1;have:=HHL.out;omega));have e3:decide ((hl:Int)<1)=true:=decide_eq_true (by omega);go_wp2
      go_ret;exact⟨by rw[HR.out];rfl,HB4.out⟩
     have e3:decide ((hl:Int)<1)=false:=decide_eq_false (by omega);rcases Nat.lt_or_ge 2 hl with hl2|hl2
     ·have HR:=hid (HNH.out (fun h=>by have:=((nZ _).1 h).1.2;have:=HHL.out;omega));have e4:decide ((2:Int)<(hl:Int))=true:=decide_eq_true (by omega);go_wp2
      go_ret;exact⟨by rw[HR.out];rfl,HB4.out⟩
     have e4:decide ((2:Int)<(hl:Int))=false:=decide_eq_false (by omega);obtain⟨gm,om,m0,m1,m2,m3,m4,m5,rfl,hm6,hmn⟩:=HKH.out.get kh.kids 0 0 (by have:=HHL.out;omega);simp only[Nat.zero_mul,Nat.add_zero]at hm6;obtain⟨s1,s2,s3,s4,rfl,rfl,rfl,rfl,rfl,rfl⟩:=hmn.cells;have HMB:Hid (kI (kh.kids[0]'(by have:=HHL.out;omega))≠true->r=false):=fun h=>HNH.out (fun hh=>h (((nZ _).1 hh).2.1 (by have:=HHL.out;omega)))
     have HHB:Hid (kI (kh.kids[0]'(by have:=HHL.out;omega))=true->(∀h:1<kh.kids.length,oJ kh.kids[1]=true)->dW kh.kids=true):=fun h1 h2=>(nZ _).2 ⟨⟨by have:=HHL.out;omega,by have:=HHL.out;omega⟩,fun _=>h1,h2⟩
     have HMN:=hid hmn;have HMS:=hid hm6;clear hmn hm6;generalize hmd:kh.kids[0]'(by have:=HHL.out;omega)=md at *
     clear hmd;obtain⟨u0,u1,u2,u3,u4,u5⟩:=HMS.out.below HB4.out dO;by_cases hma:md.attrs.length=1
     ·obtain⟨ga,oa,ca2,hva,t1,t2⟩:=(HMN.out.attrs.below HB4.out dO).get 0 (by omega);simp only[Value.slice.injEq,true_and]at hva;obtain⟨rfl,rfl⟩:=hva;simp only[Nat.zero_mul,Nat.add_zero]at t1 t2;have HAT:Hid (md.attrs[0]'(by omega)≠(iP,qR)->r=false):=fun h=>HMB.out (fun hh=>h (((pS _).1 hh).2.2.2 (by omega)))
      have HMI:Hid (md.attrs[0]'(by omega)=(iP,qR)->md.kids.length=0->(fF md=true/\md.name=mP)->kI md=true):=fun h1 h2 h3=>(pS _).2 ⟨h3,h2,hma,fun _=>h1⟩
      have e5:((md.attrs.length:Int) !=1)=false:=by simp;omega
      generalize hpq:md.attrs[0]'(by omega)=pq at *
      clear hpq;obtain⟨pn,pv⟩:=pq;simp only at t1 t2;generalize hal2:md.attrs.length=al2 at *
      have HMA:=hid hma;have h01:0<al2:=by omega
      have HTAIL:Hid (∀W,Below w.heap.size w W->dW kh.kids=true->Calls Tryz.prog 100 #[.agg #[.int .i64 kb.kind,.int .i64 kb.space,.string kb.name,.slice l1 kb.attrs.length l2,.string kb.text,.slice l3 kb.kids.length l4],.string ⟨#[32]⟩] W (aB r W)):=fun W hBW hh =>
       aIz VV HRA kb.sz kb dO _ ⟨#[32]⟩ [] r W (hid (HT.out.below hBW dO)) HSB (hid (by have:=HZB.out;simp;omega)) (hid (HN7.out.below hBW dO)) (hid jW.none) (hid (Iff.intro (fun h=>(by
        by_cases h':cQ VV [] kb
        ·exact h'
        ·have:=HNO2.out (fun hp=>h' hp.2.2.2);rw[this]at h
         cases h)) (fun h=>HYES.out C1.out hh C3.out h)))
      clear hma HYES HNO2;by_cases hpn:pn=iP
      ·by_cases hpv:pv=qR
       ·have HPQ:=hid (show(pn,pv)=(iP,qR) by rw[hpn,hpv]);have e6:(pn.toList==[99,104,97,114,115,101,116])=true:=(fU (c:=iP) _ rfl).trans (decide_eq_true hpn);have e7:(pv.toList==[117,116,102,45,56])=true:=(fU (c:=qR) _ rfl).trans (decide_eq_true hpv);clear hpn hpv HAT;generalize hmk:md.kids.length=mk at *
        have HMK:=hid hmk;clear hmk;by_cases hmk0:mk=0
        ·subst hmk0;obtain⟨pm,hpm⟩:∃pm,mF md.kind md.space md.name md.text 0 mP=pm:=⟨_,rfl⟩
         have HPM:Hid (pm=true↔fF md=true/\md.name=mP):=by show _↔_;rw[<-hpm];exact aHD md
         have HCM:=hid (fun W=>nH md.kind md.space md.name md.text none 0 0 (.slice s3 0 s4) mP W pm hpm);obtain⟨W5,hW5⟩:∃W5,W5=W4.alloc (.cells #[.int .i64 md.kind,.int .i64 md.space,.string md.name,.slice none 0 0,.string md.text,.slice s3 0 s4] 45):=⟨_,rfl⟩
         have hB5:Below W4.heap.size W4 W5:=by rw[hW5];exact(Below.refl _ W4).alloc dO _
         have HB5:=oZ HB4 hB5;have HQ5:=hid (HQ4.out.below hB5 dO);have HW5:=hid hW5;clear hW5 hB5 hpm;go_wp2_with fail
         rw[<-HW5.out];refine(HCM.out W5).mono ?_;unfold aB;rintro e W6 ⟨rfl,B6⟩;have HB6:=oZ HB5 B6;have HQ6:=hid (HQ5.out.below B6 dO);clear B6 q0 q1 q2 q3 q4 q5 x0 x1 x2 x3 x4 x5 u0 u1 u2 u3 u4 u5 t1 t2;obtain⟨q0,q1,q2,q3,q4,q5⟩:=HQ6.out.zero;obtain⟨z0,z1,z2,z3,z4,z5⟩:=HH7.out.below HB6.out dO;cases pm with
         | false =>
          have HR:=hid (HMB.out (fun h=>by have:=HPM.out.2 ((pS _).1 h).1;cases this));go_wp2
          go_ret;exact⟨by rw[HR.out];rfl,HB6.out⟩
         | true =>
          have HMT:=hid (HMI.out HPQ.out (by trivial) (HPM.out.1 rfl));by_cases hl2':hl=2
          ·have e9:((hl:Int)==2)=true:=by rw[beq_iff_eq];omega
           obtain⟨g9,o9,k0,k1,k2,k3,k4,k5,e,hk6,hkn⟩:=HKH.out.get kh.kids 0 1 (by have:=HHL.out;omega);cases e;simp only[Nat.zero_add,Nat.one_mul]at hk6;obtain⟨v1,v2,v3,v4,rfl,rfl,rfl,rfl,rfl,rfl⟩:=hkn.cells;have h12:1<hl:=by omega
           have HTI:Hid (oJ (kh.kids[1]'(by have:=HHL.out;omega))≠true->r=false):=fun h=>HNH.out (fun hh=>h (((nZ _).1 hh).2.2 (by have:=HHL.out;omega)))
           have HTY:Hid (oJ (kh.kids[1]'(by have:=HHL.out;omega))=true->dW kh.kids=true):=fun h=>HHB.out HMT.out (fun _=>h)
           have HKN:=hid hkn;have HK6:=hid hk6;have HSK:=hid (SmK.get kh.kids 1 (by have:=HHL.out;omega) HSH.out.get.2.2.2.2);clear hkn hk6;generalize hkt:kh.kids[1]'(by have:=HHL.out;omega)=kt at *
           clear hkt;have HCT:=hid (fun W=>nH kt.kind kt.space kt.name kt.text v1 kt.attrs.length v2 (.slice v3 kt.kids.length v4) dY W (bT kt dY) rfl);obtain⟨x0,x1,x2,x3,x4,x5⟩:=HK6.out.below HB6.out dO;go_wp2_with fail
           refine(HCT.out _).mono ?_;unfold aB;rintro e W7 ⟨rfl,B7⟩;have HB7:=oZ HB6 B7;have HQ7:=hid (HQ6.out.below B7 dO);clear B7 q0 q1 q2 q3 q4 q5 x0 x1 x2 x3 x4 x5 z0 z1 z2 z3 z4 z5;obtain⟨q0,q1,q2,q3,q4,q5⟩:=HQ7.out.zero;obtain⟨z0,z1,z2,z3,z4,z5⟩:=HH7.out.below HB7.out dO;obtain⟨x0,x1,x2,x3,x4,x5⟩:=HK6.out.below HB7.out dO;cases ct:bT kt dY with
           | false =>
            have HR:=hid (HTI.out (fun h=>by have h1:=((qT _).1 h).1;rw[ct]at h1;cases h1));clear ct;go_wp2
            go_ret;exact⟨by rw[HR.out];rfl,HB7.out⟩
           | true =>
            have CT:=hid ct;clear ct;by_cases hkl1:kt.kids.length=1
            ·obtain⟨g8,o8,j0,j1,j2,j3,j4,j5,hv8,hj6,hjn⟩:=HKN.out.kidsV.get kt.kids 0 0 (by omega);subst hv8;simp only[Nat.zero_mul,Nat.add_zero]at hj6;obtain⟨w1,w2,w3,w4,rfl,rfl,rfl,rfl,rfl,rfl⟩:=hjn.cells;have HWX:Hid (cN (kt.kids[0]'(by omega))≠true->r=false):=fun h=>HTI.out (fun hh=>h (((qT _).1 hh).2.2 (by omega)))
             have HWY:Hid (cN (kt.kids[0]'(by omega))=true->dW kh.kids=true):=fun h=>HTY.out ((qT _).2 ⟨CT.out,hkl1,fun _=>h⟩)
             have HSX:=hid (SmK.get kt.kids 0 (by omega) HSK.out.get.2.2.2.2);have HJ6:=hid hj6;clear hjn hj6;generalize hkx:kt.kids[0]'(by omega)=kx at *
             clear hkx;generalize kt.kids.length=tl at *
             have e10:((tl:Int) !=1)=false:=by simp;omega
             have h02:0<tl:=by omega
             obtain⟨f0,f1,f2,f3,f4,f5⟩:=HJ6.out.below HB7.out dO;go_wp2_with fail
             refine(aBO kx.kind kx.space kx.name kx.text (by have:=HSX.out.get.2.1;omega) w1 kx.attrs.length w2 w3 kx.kids.length w4 W7 (cN kx) (hid rfl)).mono ?_;unfold aB;rintro e W8 ⟨rfl,B8⟩;have HB8:=oZ HB7 B8;have HQ8:=hid (HQ7.out.below B8 dO);clear B8 q0 q1 q2 q3 q4 q5 x0 x1 x2 x3 x4 x5 z0 z1 z2 z3 z4 z5 f0 f1 f2 f3 f4 f5;obtain⟨q0,q1,q2,q3,q4,q5⟩:=HQ8.out.zero;obtain⟨z0,z1,z2,z3,z4,z5⟩:=HH7.out.below HB8.out dO;cases cw:cN kx with
             | false =>
              have HR:=hid (HWX.out (by rw[cw];decide));clear cw;go_wp2
              go_ret;exact⟨by rw[HR.out];rfl,HB8.out⟩
             | true =>
              have HCC:=hid (HTAIL.out W8 HB8.out (HWY.out cw));clear cw;go_wp2_with fail
              refine HCC.out.mono ?_;unfold aB;rintro e W9 ⟨rfl,B9⟩;have HB9:=oZ HB8 B9;clear B9;go_wp2
              go_ret;exact⟨rfl,HB9.out⟩
            ·have HR:=hid (HTI.out (fun h=>hkl1 ((qT _).1 h).2.1));have e10:((kt.kids.length:Int) !=1)=true:=by rw[bne_iff_ne];omega
             go_wp2
             go_ret;exact⟨by rw[HR.out];rfl,HB7.out⟩
          ·have e9:((hl:Int)==2)=false:=by rw[beq_eq_false_iff_ne];omega
           have HCC:=hid (HTAIL.out W6 HB6.out (HHB.out HMT.out (fun h=>by have:=HHL.out;omega)));go_wp2_with fail
           refine HCC.out.mono ?_;unfold aB;rintro e W9 ⟨rfl,B9⟩;have HB9:=oZ HB6 B9;clear B9;go_wp2
           go_ret;exact⟨rfl,HB9.out⟩
        ·have HR:=hid (HMB.out (fun h=>by have h1:=((pS _).1 h).2.1;have:=HMK.out;omega));have e8:decide ((0:Int)<(mk:Int))=true:=decide_eq_true (by omega);have e8':0<mk:=by omega
         go_wp2
         go_ret;exact⟨by rw[HR.out];rfl,HB4.out⟩
       ·have HR:=hid (HAT.out (fun e=>hpv (by injection e)));have e6:(pn.toList==[99,104,97,114,115,101,116])=true:=(fU (c:=iP) _ rfl).trans (decide_eq_true hpn);have e7:(pv.toList==[117,116,102,45,56])=false:=(fU (c:=qR) _ rfl).trans (decide_eq_false hpv);clear hpn hpv;go_wp2
        go_ret;exact⟨by rw[HR.out];rfl,HB4.out⟩
      ·have HR:=hid (HAT.out (fun e=>hpn (by injection e)));have e6:(pn.toList==[99,104,97,114,115,101,116])=false:=(fU (c:=iP) _ rfl).trans (decide_eq_false hpn);clear hpn;go_wp2
       go_ret;exact⟨by rw[HR.out];rfl,HB4.out⟩
     ·have HR:=hid (HMB.out (fun h=>hma ((pS _).1 h).2.2.1));have e5:((md.attrs.length:Int) !=1)=true:=by rw[bne_iff_ne];omega
      go_wp2
      go_ret;exact⟨by rw[HR.out];rfl,HB4.out⟩
  ·have HR:=hid (HNO.out (fun h=>by
    obtain⟨_,_,x,y,hk,_⟩:=h;have:=HKL.out;rw[hk]at this
    exact h2 this.symm))
   have e2:((kl:Int) !=2)=true:=by rw[bne_iff_ne];omega
   go_wp2
   go_ret;exact⟨by rw[HR.out];rfl,HB2.out⟩
