/-
CleanSame, over its callees' contracts: a page that may be is let through as it is.
-/
import Derived.Test.YtcfgbdhpcboikaaGreatDoorCleanW
namespace Go.Proofs.YtcfgbdhpcboikaaGreatDoor
open Go.Lib (hid)
set_option maxHeartbeats 8000000
set_option maxRecDepth 100000
open Go.RowKit
theorem cC {n:Nat}:n≤n:=Nat.le_refl n
theorem dU {a w v:World}(h:Go.RowKit.Hid (Go.RowKit.Below a.heap.size a w))(b:Go.RowKit.Below w.heap.size w v):Go.RowKit.Hid (Go.RowKit.Below a.heap.size a v):=hid (h.out.trans (b.mono h.out.size))
theorem rN {D:Nat→Prop}{W:World}{g:Nat}(h:Six W g 0 (.int .i64 0) (.int .i64 0) (.string ⟨#[]⟩) (.slice none 0 0) (.string ⟨#[]⟩) (.slice none 0 0))(hg:D g):aD D W (some ⟨g,0,none⟩) 0 [jB]:=by
 unfold aD;refine⟨⟨g,0,_,_,_,_,_,_,rfl,hg,h,?_⟩,by unfold aD;trivial⟩;unfold jB aY;exact⟨none,0,none,0,rfl,by simp,fun j hj=>absurd hj (by simp),by unfold aD;trivial⟩
theorem rI {B:Nat}{W:World}{g':Nat}{t:ByteArray}(hg':B≤g')(h':Six W g' 0 (.int .i64 2) (.int .i64 0) (.string ⟨#[]⟩) (.slice none 0 0) (.string t) (.slice none 0 0)) :
  aY (fun k=>B≤k) W (elN aX [aL t]) (.agg #[.int .i64 1,.int .i64 0,.string ⟨#[116,105,116,108,101]⟩,.slice none 0 0,.string ⟨#[]⟩,.slice (some ⟨g',0,none⟩) 1 1]):=by
 unfold elN aY;refine⟨none,0,some ⟨g',0,none⟩,1,rfl,by simp,fun j hj=>absurd hj (by simp),?_⟩;unfold aD;refine⟨⟨g',0,_,_,_,_,_,_,rfl,hg',h',?_⟩,by unfold aD;trivial⟩;unfold aL aY;exact⟨none,0,none,0,rfl,by simp,fun j hj=>absurd hj (by simp),by unfold aD;trivial⟩
theorem PSE.keepE {E:Nat→Prop}{W0 W:World}{g n c:Nat}{ks:List Nd}{p:Addr}{u:Value}(h:PSE E W0 W (.slice (some ⟨g,0,none⟩) n c) n ks)(hk:∀k,¬E k→(W.setCell p u).heap[k]?=W.heap[k]?)(hg:¬E g)(hp:W0.heap.size≤p.block) :
  PSE E W0 (W.setCell p u) (.slice (some ⟨g,0,none⟩) n c) n ks:=by
 obtain⟨xs,hO,hc,hE⟩:=h;refine⟨xs,⟨?_,?_,by rw[qP];exact hO.base⟩,hc.keep (fun k hk' hd=>⟨hk k hd.2,hd⟩),hE⟩
 ·obtain⟨h1,h2⟩:=hO.own;refine⟨h1,?_⟩;rcases h2 with h2|⟨g',cap,cur,hv,hB,hg',hr⟩
  ·exact .inl h2
  ·have e:g=g':=by simp only[Value.slice.injEq,Option.some.injEq,Addr.mk.injEq]at hv;exact hv.1.1
   exact .inr ⟨g',cap,cur,hv,hB,by rw[hk g' (e▸hg)];exact hg',hr⟩
 ·exact hO.bel.setCell (p:=p) hp u
theorem bU.front2 {D:Nat→Prop}{w:World}{x0 x1 x2 x3 x4 x5:Value}{r:List Value}{a b:Nd}(h:bU D w (x0 :: x1 :: x2 :: x3 :: x4 :: x5 :: r) [a,b]):bU D w [x0,x1,x2,x3,x4,x5] [a]:=by
 refine⟨rfl,fun j hj=>?_⟩;have:j=0:=by simp at hj;omega
 subst this;obtain⟨c0,c1,c2,c3,c4,c5,h0,h1,h2,h3,h4,h5,hn⟩:=h.2 0 (by simp);exact⟨c0,c1,c2,c3,c4,c5,h0,h1,h2,h3,h4,h5,hn⟩
theorem PSE.last {E:Nat→Prop}{W0 W:World}{g c:Nat}{a b y:Nd}{c0 c1 c2 c3 c4 c5:Value}(h:PSE E W0 W (.slice (some ⟨g,0,none⟩) 2 c) 2 [a,b])(hy:aY (fun k=>bN (.slice (some ⟨g,0,none⟩) 2 c) k∧¬E k) W y (.agg #[c0,c1,c2,c3,c4,c5])) :
  PSE E W0 (W.setCells g 6 [c0,c1,c2,c3,c4,c5]) (.slice (some ⟨g,0,none⟩) 2 c) 2 [a,y]∧W.there g 6 6:=by
 obtain⟨xs,hO,hc,hE⟩:=h;have hl:=hc.1;match xs,hl with
 | [x0,x1,x2,x3,x4,x5,y0,y1,y2,y3,y4,y5],_ =>
  have hk:∀k,k<W.heap.size→(bN (.slice (some ⟨g,0,none⟩) 2 c) k∧¬E k)→(W.setCells g 6 [c0,c1,c2,c3,c4,c5]).heap[k]?=W.heap[k]?∧(bN (.slice (some ⟨g,0,none⟩) 2 c) k∧¬E k):=fun k _ hd=>⟨bX g _ 6 W k (fun e=>hd.1 (congrArg some e.symm)),hd⟩
  refine⟨⟨_,hO.setCells [c0,c1,c2,c3,c4,c5] _ 6 W,?_,hE⟩,hO.there 6 6 (by simp)⟩;exact(hc.front2.keep hk).snoc (x:=y) (c0:=c0) (c1:=c1) (c2:=c2) (c3:=c3) (c4:=c4) (c5:=c5) (hy.keep hk)
theorem PSE.row {E:Nat→Prop}{W0 W:World}{v:Value}{n:Nat}{ks:List Nd}(h:PSE E W0 W v n ks)(hn:0<n):∃g c,v=.slice (some ⟨g,0,none⟩) n c∧¬E g∧W0.heap.size≤g:=by
 obtain⟨xs,hO,hc,hE⟩:=h;obtain⟨g,c,rfl,hg,_,_⟩:=hO.atRow hn;exact⟨g,c,rfl,fun e=>hE g e rfl,hg⟩
section
variable {w:World} {ops:Array Oper} {rest:List Oper} {o:Oper} {a:Act} {Q:Exit→Act→World→Prop}
theorem gN (hgd:o.guard=none)(s x:Operand)
  (ho:o.op=.call { callee:=.builtin .append,args:=#[s,x],argTypes:=#[43,43] })
  {E:Nat→Prop} (hEw:∀g,E g→g<w.heap.size) {W0:World} (v:Value) (n:Nat) (ks:List Nd) (hs:a.eval s=v) (hP:Hid (PSE E W0 w v n ks))
  (xo:Option Addr) (m c:Nat) (js:List Nd) (hx:a.eval x=.slice xo m c) (hm:Hid (js.length=m)) (hS:Hid (aD (fun g=>bN v g∧¬E g) w xo 0 js)) (hb:n+m≤1000000000)
  (h:∀v' w',Hid (PSE E W0 w' v' (n+m) (ks++js)∧∀g,g<w.heap.size→bN v g→w'.heap[g]?=w.heap[g]?∧bN v' g)→wpList Tryz.prog ops Q rest (a.put o.dst v') w'):wpList Tryz.prog ops Q (o :: rest) a w:=by
 obtain⟨i45,hi45,hz45,hs45,hb45⟩:=info_parts Tryz.info45;obtain⟨xs,hO,hc,hE⟩:=hP.out;obtain⟨ys,hys,hyc⟩:=oW hS.out.kids;have hcd:=vC hys hyc hS.out;have hml:=hm.out;refine lJ hgd s x 43 ho 45 i45 _ 6 96 Tryz.underlying43 hi45 hz45 hs45 hb45 rfl (by decide) v n xs hs hO xo m c ys hx (by rw[hys.1,hml]) hyc hys.one (by omega) (by omega) (fun v' w' hO' hG=>?_);have hloc:∀g,g<w.heap.size→bN v g→bN v' g:=fun g hg hd e=>by
  rcases hG.out.loc with h1|⟨k,hk,hle⟩
  ·exact hd (by rw[←h1];exact e)
  ·rw[hk]at e
   have:k=g:=Option.some.inj e;omega
 refine h v' w' (hid ⟨⟨xs++ys,hO'.out,?_,fun g hg=>hloc g (hEw g hg) (hE g hg)⟩,fun g hg hd=>⟨hG.out.gr.block g hg (fun e=>hd e.symm),hloc g hg hd⟩⟩);exact(hc.append hcd).keep (fun g hg hd=>⟨hG.out.gr.block g hg (fun e=>hd.1 e.symm),hloc g hg hd.1,hd.2⟩)
end
theorem aFq (n:Nd)(nv:Value)(ks:List Nd)(ka:Option Addr)(kc:Nat)(t:ByteArray)(w:World)(hkl:ks.length≤1000000000)(B:Nd→Bool)
  (HN:Hid (aG w n nv)) (HKK:Hid (aI w ka 0 ks))
  (HHEAD:Hid (∀W,Below w.heap.size w W→Calls Tryz.prog 47 #[] W (bA true W)))
  (HHO:Hid (∀x,x=n∨x=elN jU [bG t,elN bT ks]→∀W u,Below w.heap.size w W→Hid (aG W x u)→Calls Tryz.prog 41 #[u] W (bA (B x) W)))
  (HCL:Hid (∀x,x=n∨x=elN jU [bG t,elN bT ks]→B x=true→x.sz≤1000∧gQ x≤32∧∀W u,Below w.heap.size w W→Hid (aG W x u)→Calls Tryz.prog 56 #[u] W (aCY W x)))
  (HSA:Hid (∀x,x=n∨x=elN jU [bG t,elN bT ks]→∀W u u',Hid (aG W x u)→Hid (aG W x u')→Calls Tryz.prog 60 #[u,u'] W (bA true W))) :
  Calls Tryz.prog 18 #[nv,.slice ka ks.length kc,.string t] w (bA true w):=by
 obtain⟨av,a,c,rfl,⟨aa,ca,rfl,hAA⟩,hK,hlen⟩:=HN.out.get;clear hAA hK hlen;have HEM:=hid (fun W=>(gM ⟨#[109,101,116,97]⟩ [] none 0 W (by simp) (hid (by unfold aI;trivial)):Calls Tryz.prog 51 #[.string ⟨#[109,101,116,97]⟩,.slice none 0 0] W _));obtain⟨W0,hW0⟩:∃W0,W0=w.alloc (.cells #[.int .i64 n.kind,.int .i64 n.space,.string n.name,.slice aa n.attrs.length ca,.string n.text,.slice a n.kids.length c] 45):=⟨_,rfl⟩
 have HB0:=hid (show Below w.heap.size w W0 by rw[hW0];exact(Below.refl _ w).alloc cC _);have HX0:=hid (show Six W0 w.heap.size 0 (.int .i64 n.kind) (.int .i64 n.space) (.string n.name) (.slice aa n.attrs.length ca) (.string n.text) (.slice a n.kids.length c) by
  rw[hW0];exact aP w _ _ _ _ _ _)
 have HS0:=hid (show w.heap.size+1=W0.heap.size by rw[hW0];simp);have HW0:=hid hW0;clear hW0;go_enter Tryz.func18,Tryz.ntmps18
 go_wp2_with fail
 rw[←HW0.out];refine(HHEAD.out W0 HB0.out).mono ?_;unfold bA;rintro e W1 ⟨rfl,B1⟩;have HB1:=hid B1;clear B1 HW0;go_wp2_with fail
 refine(HEM.out W1).mono ?_;rintro e W2 ⟨⟨v2,rfl,rfl,_⟩,B2⟩;have HB2:=dU HB1 B2;clear B2;go_wp2_with fail
 have hP3:=aDp W2;obtain⟨W3,hW3⟩:∃W3,W3=((W2.alloc (.cells #[.int .i64 1,.int .i64 0,.string ⟨#[109,101,116,97]⟩,.slice (some ⟨W2.heap.size+1,0,none⟩) 1 1,.string ⟨#[]⟩,.slice none 0 0] 45)).alloc (.cells #[.string ⟨#[99,104,97,114,115,101,116]⟩,.string ⟨#[117,116,102,45,56]⟩] 39)).alloc (.cells #[.int .i64 1,.int .i64 0,.string ⟨#[109,101,116,97]⟩,.slice (some ⟨W2.heap.size+1,0,none⟩) 1 1,.string ⟨#[]⟩,.slice none 0 0] 45):=⟨_,rfl⟩
 rw[←hW3]at hP3
 have hs3:W2.heap.size+1+1<W3.heap.size:=by rw[hW3];simp
 rw[←hW3];clear hW3;have HP3:=hid hP3;have HS3:=hid hs3;have HK3:=hid ((hP3 (fun _=>False) (fun h=>h) (fun h=>h)).kidsD (by omega)).kids;have HB3:=hid (HB2.out.trans ((hP3 (fun _=>False) (fun h=>h) (fun h=>h)).bel.mono HB2.out.size));have HM1:=hid (show w.heap.size+1≤W2.heap.size by have h1:=HS0.out;have h2:=HB2.out.size;omega);clear hP3 hs3;generalize hwm:W2.heap.size=m1 at *
 have HWM:=hid hwm;clear hwm;refine(gM ⟨#[104,101,97,100]⟩ [eC] (some ⟨m1+1+1,0,none⟩) 1 W3 (by simp) HK3).mono ?_;rintro e W4 ⟨⟨v4,rfl,rfl,_⟩,B4⟩;have HB4:=dU HB3 B4;have HC4:=hid B4;clear B4;go_wp2_with fail
 refine(gM ⟨#[98,111,100,121]⟩ ks ka kc W4 hkl (hid (HKK.out.below (HB0.out.trans (HB4.out.mono HB0.out.size)) cC))).mono ?_;rintro e W5 ⟨⟨v5,rfl,rfl,_⟩,B5⟩;have HB5:=dU HB4 B5;have HC5:=dU HC4 B5;clear B5 HB4 HC4;go_wp2_with fail
 obtain⟨s1,s2⟩:=fM W5 (.int .i64 1) (.int .i64 0) (.string ⟨#[104,101,97,100]⟩) (.slice none 0 0) (.string ⟨#[]⟩) (.slice (some ⟨m1+1+1,0,none⟩) 1 1) (.int .i64 1) (.int .i64 0) (.string ⟨#[98,111,100,121]⟩) (.slice none 0 0) (.string ⟨#[]⟩) (.slice ka ks.length kc);have hr6:=heap_alloc_new W5 (.cells #[.int .i64 1,.int .i64 0,.string ⟨#[104,101,97,100]⟩,.slice none 0 0,.string ⟨#[]⟩,.slice (some ⟨m1+1+1,0,none⟩) 1 1,.int .i64 1,.int .i64 0,.string ⟨#[98,111,100,121]⟩,.slice none 0 0,.string ⟨#[]⟩,.slice ka ks.length kc] 45);obtain⟨W6,hW6⟩:∃W6,W6=W5.alloc (.cells #[.int .i64 1,.int .i64 0,.string ⟨#[104,101,97,100]⟩,.slice none 0 0,.string ⟨#[]⟩,.slice (some ⟨m1+1+1,0,none⟩) 1 1,.int .i64 1,.int .i64 0,.string ⟨#[98,111,100,121]⟩,.slice none 0 0,.string ⟨#[]⟩,.slice ka ks.length kc] 45):=⟨_,rfl⟩
 have hb6:Below W5.heap.size W5 W6:=by rw[hW6];exact(Below.refl _ _).alloc cC _
 rw[←hW6]at s1 s2 hr6 ⊢
 have HB6:=dU HB5 hb6;have HC6:=dU HC5 hb6;have HR6:=hid hr6;have HL6:=hid (show W5.heap.size<W6.heap.size by rw[hW6];simp);have HPK:=hid (show aI W6 (some ⟨W5.heap.size,0,none⟩) 0 [elN dD [eC],elN bT ks]from
  (kJ (D:=fun _=>True) trivial (by simp) (by omega) s1 s2 (aD.keep HK3.out.deep (fun g hg _=>⟨HC6.out.block g hg,trivial⟩)) (aD.keep HKK.out.deep (fun g hg _=>⟨(HB0.out.trans (HB6.out.mono HB0.out.size)).block g hg,trivial⟩))).kids)
 have HG6:=hid (show m1+1+1<W5.heap.size∧W0.heap.size≤W5.heap.size from⟨Nat.lt_of_lt_of_le HS3.out HC5.out.size,HB5.out.size⟩);clear s1 s2 hr6 hW6 hb6 HB5 HC5 HK3 HS3;generalize W5.heap.size=gk at *
 refine(gM ⟨#[104,116,109,108]⟩ [elN dD [eC],elN bT ks] (some ⟨gk,0,none⟩) 2 W6 (by simp) HPK).mono ?_;rintro e W7 ⟨⟨v7,rfl,rfl,_⟩,B7⟩;have HB7:=dU HB6 B7;have HC7:=dU HC6 B7;have HR7:=hid ((B7.block gk HL6.out).trans HR6.out);have HL7:=hid (Nat.lt_of_lt_of_le HL6.out B7.size);have HPK7:=hid (HPK.out.below B7 cC);clear B7 HB6 HC6 HR6 HL6 HPK;obtain⟨W8,hW8⟩:∃W8,W8=W7.alloc (.cells #[.int .i64 1,.int .i64 0,.string ⟨#[104,116,109,108]⟩,.slice none 0 0,.string ⟨#[]⟩,.slice (some ⟨gk,0,none⟩) 2 2] 45):=⟨_,rfl⟩
 have hb8:Below W7.heap.size W7 W8:=by rw[hW8];exact(Below.refl _ _).alloc cC _
 have HRP:=hid (show W8.heap[W7.heap.size]?=some (.cells #[.int .i64 1,.int .i64 0,.string ⟨#[104,116,109,108]⟩,.slice none 0 0,.string ⟨#[]⟩,.slice (some ⟨gk,0,none⟩) 2 2] 45 (0,0)) by rw[hW8];exact heap_alloc_new W7 _);have HLP:=hid (show W7.heap.size<W8.heap.size by rw[hW8];simp);have HB8:=dU HB7 hb8;have HC8:=dU HC7 hb8;have HR8:=hid ((hb8.block gk HL7.out).trans HR7.out);have HPK8:=hid (HPK7.out.below hb8 cC);have HGP:=hid HL7.out;have HW8:=hid hW8;clear hW8 hb8 HB7 HC7 HR7 HL7 HPK7;go_upto_region 5 with fail
 rw[←HW8.out];clear HW8;generalize W7.heap.size=pb at *
 obtain⟨q,hq⟩:∃q,t.toList.isEmpty=q:=⟨_,rfl⟩
 have HTQ:=hid (show q=true↔t=⟨#[]⟩ by
  have h0:(⟨#[]⟩:ByteArray).toList=[]:=by decide +kernel
  rw[←hq,List.isEmpty_iff];constructor
  ·intro h;by_cases e:t=⟨#[]⟩
   ·exact e
   ·exact absurd (h.trans h0.symm) (qI e)
  ·intro h;rw[h];exact h0)
 go_upto_if 27 with fail
 clear hq;go_cut [7] (fun b wx=>b=.bool true∧Hid (wx.heap[pb]?=some (.cells #[.int .i64 1,.int .i64 0,.string ⟨#[104,116,109,108]⟩,.slice none 0 0,.string ⟨#[]⟩,.slice (some ⟨gk,0,none⟩) 2 2] 45 (0,0)))∧Hid (aI wx (some ⟨gk,0,none⟩) 0 [bG t,elN bT ks])∧Hid (Below W0.heap.size W0 wx))
 case first =>
  cases q with
  | true =>
   have HE:=hid (HTQ.out.1 rfl);go_wp2
   go_meet
   case rel=>exact⟨rfl,HRP,hid (by rw[HE.out];exact HPK8.out),HB8⟩
  | false =>
   have HE:=hid (show(bG t).kids=[eC,elN aX [aL t]] by
    unfold bG;rw[if_neg (fun h=>by have:=HTQ.out.2 h;cases this)];rfl)
   have HEX:=hid (show bG t=elN dD (bG t).kids from rfl);go_upto_region 6 with fail
   go_cut [29] (fun b wx=>∃q:Bool,b=.bool q∧Hid (Below W8.heap.size W8 wx))
   case first =>
    go_region
    all_goals (go_wp2_with fail;go_meet)
    all_goals exact⟨_,rfl,hid (((Below.refl _ W8).alloc cC _).drew)⟩
   case rest =>
    obtain⟨q,rfl,HBU⟩:=hcut;rename World=>U
    have HBU0:=dU HB8 HBU.out;have HUP:=hid ((HBU.out.block pb HLP.out).trans HRP.out);have HUG:=hid ((HBU.out.block gk (Nat.lt_trans HGP.out HLP.out)).trans HR8.out);have HPE:=hid ((HP3.out (fun g=>g=pb∨g=gk) (fun h=>by have h1:=HG6.out.1;have h2:=HGP.out;omega) (fun h=>by have h1:=HG6.out.1;have h2:=HGP.out;omega)).keep (HC8.out.trans (HBU.out.mono HC8.out.size)));have HLU:=hid (show pb<U.heap.size∧gk<U.heap.size from⟨Nat.lt_of_lt_of_le HLP.out HBU.out.size,Nat.lt_of_lt_of_le (Nat.lt_trans HGP.out HLP.out) HBU.out.size⟩);clear HBU HRP HR8 HC8 HB8 HPK8 HP3;cases q with
    | true =>
     obtain⟨S,hS⟩:∃S:World→Prop,∀u,S u↔(Below W0.heap.size W0 u∧u.heap[pb]?=some (.cells #[.int .i64 1,.int .i64 0,.string ⟨#[104,116,109,108]⟩,.slice none 0 0,.string ⟨#[]⟩,.slice (some ⟨gk,0,none⟩) 2 2] 45 (0,0))∧u.heap[gk]?=some (.cells #[.int .i64 1,.int .i64 0,.string ⟨#[104,101,97,100]⟩,.slice none 0 0,.string ⟨#[]⟩,.slice (some ⟨m1+1+1,0,none⟩) 1 1,.int .i64 1,.int .i64 0,.string ⟨#[98,111,100,121]⟩,.slice none 0 0,.string ⟨#[]⟩,.slice ka ks.length kc] 45 (0,0))):=⟨_,fun _=>Iff.rfl⟩
     have HSO:=hid (fun u (h:Below U.heap.size U u)=>(hS u).2 ⟨HBU0.out.trans (h.mono HBU0.out.size),(h.block pb HLU.out.1).trans HUP.out,(h.block gk HLU.out.2).trans HUG.out⟩);have f5:∀s:WIn S,s.w.cell? ⟨pb,5,none⟩=some (.slice (some ⟨gk,0,none⟩) 2 2):=fun s=>cell_of_row s.w pb 5 _ 45 (0,0) ((hS _).1 s.h).2.1
     have h5:∀s:WIn S,s.w.cell? ⟨gk,5,none⟩=some (.slice (some ⟨m1+1+1,0,none⟩) 1 1):=fun s=>cell_of_row s.w gk 5 _ 45 (0,0) ((hS _).1 s.h).2.2
     haveI:Nonempty (WIn S):=⟨⟨U,HSO.out U (Below.refl _ _)⟩⟩
     have HSS:=hid hS;clear hS;go_upto_region 7 with fail
     go_cut [38,39,41] (fun e l v wx=>∃(g1 g5 c5:Nat),e=.agg #[.int .i64 1,.int .i64 0,.string ⟨#[116,105,116,108,101]⟩,.slice none 0 0,.string ⟨#[]⟩,.slice (some ⟨g1,0,none⟩) 1 1]∧l=.int .i64 1∧v=.slice (some ⟨g5,0,none⟩) 2 c5∧Hid (PSE (fun g=>g=pb∨g=gk) W2 wx (.slice (some ⟨g5,0,none⟩) 2 c5) 2 [eC,jB])∧Hid (aY (fun k=>bN (.slice (some ⟨g5,0,none⟩) 2 c5) k∧¬(k=pb∨k=gk)) wx (elN aX [aL t]) (.agg #[.int .i64 1,.int .i64 0,.string ⟨#[116,105,116,108,101]⟩,.slice none 0 0,.string ⟨#[]⟩,.slice (some ⟨g1,0,none⟩) 1 1]))∧Hid (wx.heap[pb]?=some (.cells #[.int .i64 1,.int .i64 0,.string ⟨#[104,116,109,108]⟩,.slice none 0 0,.string ⟨#[]⟩,.slice (some ⟨gk,0,none⟩) 2 2] 45 (0,0)))∧Hid (wx.heap[gk]?=some (.cells #[.int .i64 1,.int .i64 0,.string ⟨#[104,101,97,100]⟩,.slice none 0 0,.string ⟨#[]⟩,.slice (some ⟨g5,0,none⟩) 2 c5,.int .i64 1,.int .i64 0,.string ⟨#[98,111,100,121]⟩,.slice none 0 0,.string ⟨#[]⟩,.slice ka ks.length kc] 45 (0,0)))∧Hid (Below W0.heap.size W0 wx))
     case first =>
      have HD0:=hid (below_drewNm U 1);refine qN 14 (.two [0,1,2,3,4,5,9] 6 (.two [] 7 (.two [] 8 (.one [] 10 (.one [] 11 (.fin [12,13]))) 10 (.one [] 8 (.one [] 11 (.fin [12,13])))) 10 (.one [] 7 (.one [] 8 (.one [] 11 (.fin [12,13]))))) 10 (.one [] 6 (.one [] 7 (.one [] 8 (.one [] 11 (.fin [12,13])))))) S (by kernel_rfl) (by kernel_rfl) (HSO.out _ HD0.out) ?_;generalize U.drewN 1=V0 at *
      refine fJ (fun K' hK'=>?_);simp only[pick,pickZ,pickS,pickG];repeat (go_big_quiet_step (fail))
      clear f5 h5;refine wpQuiet_nil (hK' _ ?_ ?_)
      ·clear hK' K';intro Q1 hQ1;simp only[pick,pickZ,pickS,pickG];go_wp2_with fail
       refine(pV t V0).mono ?_;rintro e V1 ⟨⟨_,rfl,rfl,_⟩,hB⟩;have HD1:=dU HD0 hB;clear hB;go_wp2_with fail
       refine hQ1 _ _ (HSO.out _ HD1.out) (fJ (fun K' hK'=>wpQuiet_nil (hK' _ ?_ ?_)))
       ·clear hK' K';intro Q2 hQ2;simp only[pick,pickZ,pickS,pickG];go_wp2_with fail
        have hx:=aP V1 (.int .i64 2) (.int .i64 0) (.string ⟨#[]⟩) (.slice none 0 0) (.string t) (.slice none 0 0);obtain⟨V2,hV⟩:∃V2,V2=V1.alloc (.cells #[.int .i64 2,.int .i64 0,.string ⟨#[]⟩,.slice none 0 0,.string t,.slice none 0 0] 45):=⟨_,rfl⟩
        have hB:Below V1.heap.size V1 V2:=by rw[hV];exact(Below.refl _ _).alloc cC _
        rw[←hV]at hx ⊢
        have HX2:=hid hx;have HU1:=hid HD1.out.size;have HD2:=dU HD1 hB;clear hV hB hx;refine hQ2 _ _ (HSO.out _ HD2.out) (fJ (fun K' hK'=>wpQuiet_nil (hK' _ ?_ ?_)))
        ·clear hK' K';intro Q3 hQ3;simp only[pick,pickZ,pickS,pickG];go_wp2_with fail
         refine(gM ⟨#[116,105,116,108,101]⟩ [aL t] (some ⟨V1.heap.size,0,none⟩) 1 V2 (by simp) (hid (eO HX2.out (by unfold aL aG;exact⟨_,none,0,rfl,by simp,dR _,by unfold aI;trivial⟩)))).mono ?_;rintro e V3 ⟨⟨_,rfl,rfl,_⟩,hB⟩;have HX3:=hid (HX2.out.below hB cC);have HD3:=dU HD2 hB;clear hB;go_wp2_with fail
         refine hQ3 _ _ (HSO.out _ HD3.out) (bB (fun K' hK'=>wpQuiet_nil (hK' _ ?_)));clear hK' K';intro Q4 hQ4;simp only[pick,pickZ,pickS,pickG];go_wp2_with fail
         have hx:=aP V3 (.int .i64 0) (.int .i64 0) (.string ⟨#[]⟩) (.slice none 0 0) (.string ⟨#[]⟩) (.slice none 0 0);obtain⟨V4,hV⟩:∃V4,V4=V3.alloc (.cells #[.int .i64 0,.int .i64 0,.string ⟨#[]⟩,.slice none 0 0,.string ⟨#[]⟩,.slice none 0 0] 45):=⟨_,rfl⟩
         have hB:Below V3.heap.size V3 V4:=by rw[hV];exact(Below.refl _ _).alloc cC _
         rw[←hV]at hx ⊢
         have HX4:=hid (HX3.out.below hB cC);have HZ4:=hid hx;have HU2:=hid HD3.out.size;have HD4:=dU HD3 hB;clear hV hB hx;refine hQ4 _ _ (HSO.out _ HD4.out) (bB (fun K' hK'=>wpQuiet_nil (hK' _ ?_)));clear hK' K';intro Q5 hQ5;simp only[pick,pickZ,pickS,pickG];have HPV:=hid (HPE.out.keep HD4.out);have HKZ:=hid (show aD (fun g=>bN (.slice (some ⟨m1+1+1,0,none⟩) 1 1) g∧¬(g=pb∨g=gk)) V4 (some ⟨V3.heap.size,0,none⟩) 0 [jB]from rN HZ4.out ⟨fun e=>by
          have h1:m1+1+1=V3.heap.size:=Option.some.inj e;have h2:=HG6.out.1;have h3:=HLU.out;have h4:=HU2.out;omega,by have h3:=HLU.out;have h4:=HU2.out;omega⟩)
         go_wp2_with (at_builtin;refine gN rfl _ _ rfl (fun g hg=>by have h1:=HD4.out.size;have h2:=HLU.out;omega) _ _ _ rfl HPV (some ⟨V3.heap.size,0,none⟩) 1 1 [jB] rfl (hid rfl) HKZ (by omega) ?_)
         intro v5 V5 hP5;obtain⟨g5,c5,rfl,hg5,hg6⟩:=hP5.out.1.row (by omega);have HP5:=hid hP5.out.1;have HQ5:=hid hP5.out.2;have HNE:=hid hg5;have hown:∀g,U.heap.size≤g→bN (.slice (some ⟨m1+1+1,0,none⟩) 1 1) g:=fun g hg e=>by
          have h1:m1+1+1=g:=Option.some.inj e;have h2:=HG6.out.1;have h3:=HLU.out;omega
         have hpg:bN (.slice (some ⟨m1+1+1,0,none⟩) 1 1) pb∧bN (.slice (some ⟨m1+1+1,0,none⟩) 1 1) gk:=⟨fun e=>by have h1:m1+1+1=pb:=Option.some.inj e;have h2:=HG6.out.1;have h3:=HGP.out;omega,fun e=>by have h1:m1+1+1=gk:=Option.some.inj e;have h2:=HG6.out.1;omega⟩
         have HR5:=hid ((HQ5.out pb (Nat.lt_of_lt_of_le HLU.out.1 HD4.out.size) hpg.1).1.trans ((HD4.out.block pb HLU.out.1).trans HUP.out));have HG5:=hid ((HQ5.out gk (Nat.lt_of_lt_of_le HLU.out.2 HD4.out.size) hpg.2).1.trans ((HD4.out.block gk HLU.out.2).trans HUG.out));have HB5:=hid (HB2.out.trans (HP5.out.bel.mono HB2.out.size));have HTD:=hid (show aY (fun k=>bN (.slice (some ⟨g5,0,none⟩) 2 c5) k∧¬(k=pb∨k=gk)) V5 (elN aX [aL t]) (.agg #[.int .i64 1,.int .i64 0,.string ⟨#[116,105,116,108,101]⟩,.slice none 0 0,.string ⟨#[]⟩,.slice (some ⟨V1.heap.size,0,none⟩) 1 1])from
          aY.keep (rI (B:=U.heap.size) HU1.out HX4.out) (fun g hg hd=>⟨(HQ5.out g hg (hown g hd)).1,(HQ5.out g hg (hown g hd)).2,by have h3:=HLU.out;omega⟩))
         clear hg5 hP5 hown hpg HPV HKZ HQ5;go_wp2_with fail
         refine hQ5 _ _ ((HSS.out _).2 ⟨HB5.out,HR5.out,HG5.out⟩) (cQ (fun K' hK'=>?_));clear hQ5 Q5;simp only[pick,pickZ,pickS,pickG];repeat (go_big_quiet_step (fail))
         refine wpQuiet_nil (hK' _ (fun Qz hQz=>?_));clear hK' K';simp only[List.drop_succ_cons,List.drop_zero];have z5:V5.cell? ⟨gk,5,none⟩=some (.slice (some ⟨m1+1+1,0,none⟩) 1 1):=cell_of_row V5 gk 5 _ 45 (0,0) HG5.out;have zf:V5.frozen? ⟨gk,5,none⟩=false:=Lib.frozen_of_heap HG5.out 5;go_wp2_with fail
         go_meet
         case rel=>exact⟨V1.heap.size,g5,c5,rfl,rfl,rfl,hid (PSE.keepE HP5.out (fun g hg=>heap_setCell_other _ _ g _ (fun e=>hg (.inr e))) HNE.out (by have h1:=HWM.out;have h2:=HG6.out.1;show _≤gk;omega)),hid (aY.keep HTD.out (fun g hg hd=>⟨heap_setCell_other _ _ g _ (fun e=>hd.2 (.inr e)),hd⟩)),hid ((heap_setCell_other _ _ pb _ (by have:=HGP.out;show pb≠gk;omega)).trans HR5.out),hid (heap_setCell_same V5 gk 5 _ 45 _ HG5.out),hid (HB5.out.setCell (p:=⟨gk,5,none⟩) HG6.out.2 _)⟩
        ·clear hK' K';intro Q3 hQ3;simp only[pick,pickZ,pickS,pickG];go_wp2_with fail
         have hx:=aP V2 (.int .i64 0) (.int .i64 0) (.string ⟨#[]⟩) (.slice none 0 0) (.string ⟨#[]⟩) (.slice none 0 0);obtain⟨V3,hV⟩:∃V3,V3=V2.alloc (.cells #[.int .i64 0,.int .i64 0,.string ⟨#[]⟩,.slice none 0 0,.string ⟨#[]⟩,.slice none 0 0] 45):=⟨_,rfl⟩
         have hB:Below V2.heap.size V2 V3:=by rw[hV];exact(Below.refl _ _).alloc cC _
         rw[←hV]at hx ⊢
         have HX3:=hid (HX2.out.below hB cC);have HZ3:=hid hx;have HU2:=hid HD2.out.size;have HD3:=dU HD2 hB;clear hV hB hx;refine hQ3 _ _ (HSO.out _ HD3.out) (bB (fun K' hK'=>wpQuiet_nil (hK' _ ?_)));clear hK' K';intro Q4 hQ4;simp only[pick,pickZ,pickS,pickG];go_wp2_with fail
         refine(gM ⟨#[116,105,116,108,101]⟩ [aL t] (some ⟨V1.heap.size,0,none⟩) 1 V3 (by simp) (hid (eO HX3.out (by unfold aL aG;exact⟨_,none,0,rfl,by simp,dR _,by unfold aI;trivial⟩)))).mono ?_;rintro e V4 ⟨⟨_,rfl,rfl,_⟩,hB⟩;have HX4:=hid (HX3.out.below hB cC);have HZ4:=hid (HZ3.out.below hB cC);have HD4:=dU HD3 hB;clear hB;go_wp2_with fail
         refine hQ4 _ _ (HSO.out _ HD4.out) (bB (fun K' hK'=>wpQuiet_nil (hK' _ ?_)));clear hK' K';intro Q5 hQ5;simp only[pick,pickZ,pickS,pickG];have HPV:=hid (HPE.out.keep HD4.out);have HKZ:=hid (show aD (fun g=>bN (.slice (some ⟨m1+1+1,0,none⟩) 1 1) g∧¬(g=pb∨g=gk)) V4 (some ⟨V2.heap.size,0,none⟩) 0 [jB]from rN HZ4.out ⟨fun e=>by
          have h1:m1+1+1=V2.heap.size:=Option.some.inj e;have h2:=HG6.out.1;have h3:=HLU.out;have h4:=HU2.out;omega,by have h3:=HLU.out;have h4:=HU2.out;omega⟩)
         go_wp2_with (at_builtin;refine gN rfl _ _ rfl (fun g hg=>by have h1:=HD4.out.size;have h2:=HLU.out;omega) _ _ _ rfl HPV (some ⟨V2.heap.size,0,none⟩) 1 1 [jB] rfl (hid rfl) HKZ (by omega) ?_)
         intro v5 V5 hP5;obtain⟨g5,c5,rfl,hg5,hg6⟩:=hP5.out.1.row (by omega);have HP5:=hid hP5.out.1;have HQ5:=hid hP5.out.2;have HNE:=hid hg5;have hown:∀g,U.heap.size≤g→bN (.slice (some ⟨m1+1+1,0,none⟩) 1 1) g:=fun g hg e=>by
          have h1:m1+1+1=g:=Option.some.inj e;have h2:=HG6.out.1;have h3:=HLU.out;omega
         have hpg:bN (.slice (some ⟨m1+1+1,0,none⟩) 1 1) pb∧bN (.slice (some ⟨m1+1+1,0,none⟩) 1 1) gk:=⟨fun e=>by have h1:m1+1+1=pb:=Option.some.inj e;have h2:=HG6.out.1;have h3:=HGP.out;omega,fun e=>by have h1:m1+1+1=gk:=Option.some.inj e;have h2:=HG6.out.1;omega⟩
         have HR5:=hid ((HQ5.out pb (Nat.lt_of_lt_of_le HLU.out.1 HD4.out.size) hpg.1).1.trans ((HD4.out.block pb HLU.out.1).trans HUP.out));have HG5:=hid ((HQ5.out gk (Nat.lt_of_lt_of_le HLU.out.2 HD4.out.size) hpg.2).1.trans ((HD4.out.block gk HLU.out.2).trans HUG.out));have HB5:=hid (HB2.out.trans (HP5.out.bel.mono HB2.out.size));have HTD:=hid (show aY (fun k=>bN (.slice (some ⟨g5,0,none⟩) 2 c5) k∧¬(k=pb∨k=gk)) V5 (elN aX [aL t]) (.agg #[.int .i64 1,.int .i64 0,.string ⟨#[116,105,116,108,101]⟩,.slice none 0 0,.string ⟨#[]⟩,.slice (some ⟨V1.heap.size,0,none⟩) 1 1])from
          aY.keep (rI (B:=U.heap.size) HU1.out HX4.out) (fun g hg hd=>⟨(HQ5.out g hg (hown g hd)).1,(HQ5.out g hg (hown g hd)).2,by have h3:=HLU.out;omega⟩))
         clear hg5 hP5 hown hpg HPV HKZ HQ5;go_wp2_with fail
         refine hQ5 _ _ ((HSS.out _).2 ⟨HB5.out,HR5.out,HG5.out⟩) (cQ (fun K' hK'=>?_));clear hQ5 Q5;simp only[pick,pickZ,pickS,pickG];repeat (go_big_quiet_step (fail))
         refine wpQuiet_nil (hK' _ (fun Qz hQz=>?_));clear hK' K';simp only[List.drop_succ_cons,List.drop_zero];have z5:V5.cell? ⟨gk,5,none⟩=some (.slice (some ⟨m1+1+1,0,none⟩) 1 1):=cell_of_row V5 gk 5 _ 45 (0,0) HG5.out;have zf:V5.frozen? ⟨gk,5,none⟩=false:=Lib.frozen_of_heap HG5.out 5;go_wp2_with fail
         go_meet
         case rel=>exact⟨V1.heap.size,g5,c5,rfl,rfl,rfl,hid (PSE.keepE HP5.out (fun g hg=>heap_setCell_other _ _ g _ (fun e=>hg (.inr e))) HNE.out (by have h1:=HWM.out;have h2:=HG6.out.1;show _≤gk;omega)),hid (aY.keep HTD.out (fun g hg hd=>⟨heap_setCell_other _ _ g _ (fun e=>hd.2 (.inr e)),hd⟩)),hid ((heap_setCell_other _ _ pb _ (by have:=HGP.out;show pb≠gk;omega)).trans HR5.out),hid (heap_setCell_same V5 gk 5 _ 45 _ HG5.out),hid (HB5.out.setCell (p:=⟨gk,5,none⟩) HG6.out.2 _)⟩
       ·clear hK' K';intro Q2 hQ2;simp only[pick,pickZ,pickS,pickG];go_wp2_with fail
        have hx:=aP V1 (.int .i64 0) (.int .i64 0) (.string ⟨#[]⟩) (.slice none 0 0) (.string ⟨#[]⟩) (.slice none 0 0);obtain⟨V2,hV⟩:∃V2,V2=V1.alloc (.cells #[.int .i64 0,.int .i64 0,.string ⟨#[]⟩,.slice none 0 0,.string ⟨#[]⟩,.slice none 0 0] 45):=⟨_,rfl⟩
        have hB:Below V1.heap.size V1 V2:=by rw[hV];exact(Below.refl _ _).alloc cC _
        rw[←hV]at hx ⊢
        have HZ2:=hid hx;have HU2:=hid HD1.out.size;have HD2:=dU HD1 hB;clear hV hB hx;refine hQ2 _ _ (HSO.out _ HD2.out) (bB (fun K' hK'=>wpQuiet_nil (hK' _ ?_)));clear hK' K';intro Q3 hQ3;simp only[pick,pickZ,pickS,pickG];go_wp2_with fail
        have hx:=aP V2 (.int .i64 2) (.int .i64 0) (.string ⟨#[]⟩) (.slice none 0 0) (.string t) (.slice none 0 0);obtain⟨V3,hV⟩:∃V3,V3=V2.alloc (.cells #[.int .i64 2,.int .i64 0,.string ⟨#[]⟩,.slice none 0 0,.string t,.slice none 0 0] 45):=⟨_,rfl⟩
        have hB:Below V2.heap.size V2 V3:=by rw[hV];exact(Below.refl _ _).alloc cC _
        rw[←hV]at hx ⊢
        have HZ3:=hid (HZ2.out.below hB cC);have HX3:=hid hx;have HU1:=hid HD2.out.size;have HD3:=dU HD2 hB;clear hV hB hx;refine hQ3 _ _ (HSO.out _ HD3.out) (bB (fun K' hK'=>wpQuiet_nil (hK' _ ?_)));clear hK' K';intro Q4 hQ4;simp only[pick,pickZ,pickS,pickG];go_wp2_with fail
        refine(gM ⟨#[116,105,116,108,101]⟩ [aL t] (some ⟨V2.heap.size,0,none⟩) 1 V3 (by simp) (hid (eO HX3.out (by unfold aL aG;exact⟨_,none,0,rfl,by simp,dR _,by unfold aI;trivial⟩)))).mono ?_;rintro e V4 ⟨⟨_,rfl,rfl,_⟩,hB⟩;have HX4:=hid (HX3.out.below hB cC);have HZ4:=hid (HZ3.out.below hB cC);have HD4:=dU HD3 hB;clear hB;go_wp2_with fail
        refine hQ4 _ _ (HSO.out _ HD4.out) (bB (fun K' hK'=>wpQuiet_nil (hK' _ ?_)));clear hK' K';intro Q5 hQ5;simp only[pick,pickZ,pickS,pickG];have HPV:=hid (HPE.out.keep HD4.out);have HKZ:=hid (show aD (fun g=>bN (.slice (some ⟨m1+1+1,0,none⟩) 1 1) g∧¬(g=pb∨g=gk)) V4 (some ⟨V1.heap.size,0,none⟩) 0 [jB]from rN HZ4.out ⟨fun e=>by
         have h1:m1+1+1=V1.heap.size:=Option.some.inj e;have h2:=HG6.out.1;have h3:=HLU.out;have h4:=HU2.out;omega,by have h3:=HLU.out;have h4:=HU2.out;omega⟩)
        go_wp2_with (at_builtin;refine gN rfl _ _ rfl (fun g hg=>by have h1:=HD4.out.size;have h2:=HLU.out;omega) _ _ _ rfl HPV (some ⟨V1.heap.size,0,none⟩) 1 1 [jB] rfl (hid rfl) HKZ (by omega) ?_)
        intro v5 V5 hP5;obtain⟨g5,c5,rfl,hg5,hg6⟩:=hP5.out.1.row (by omega);have HP5:=hid hP5.out.1;have HQ5:=hid hP5.out.2;have HNE:=hid hg5;have hown:∀g,U.heap.size≤g→bN (.slice (some ⟨m1+1+1,0,none⟩) 1 1) g:=fun g hg e=>by
         have h1:m1+1+1=g:=Option.some.inj e;have h2:=HG6.out.1;have h3:=HLU.out;omega
        have hpg:bN (.slice (some ⟨m1+1+1,0,none⟩) 1 1) pb∧bN (.slice (some ⟨m1+1+1,0,none⟩) 1 1) gk:=⟨fun e=>by have h1:m1+1+1=pb:=Option.some.inj e;have h2:=HG6.out.1;have h3:=HGP.out;omega,fun e=>by have h1:m1+1+1=gk:=Option.some.inj e;have h2:=HG6.out.1;omega⟩
        have HR5:=hid ((HQ5.out pb (Nat.lt_of_lt_of_le HLU.out.1 HD4.out.size) hpg.1).1.trans ((HD4.out.block pb HLU.out.1).trans HUP.out));have HG5:=hid ((HQ5.out gk (Nat.lt_of_lt_of_le HLU.out.2 HD4.out.size) hpg.2).1.trans ((HD4.out.block gk HLU.out.2).trans HUG.out));have HB5:=hid (HB2.out.trans (HP5.out.bel.mono HB2.out.size));have HTD:=hid (show aY (fun k=>bN (.slice (some ⟨g5,0,none⟩) 2 c5) k∧¬(k=pb∨k=gk)) V5 (elN aX [aL t]) (.agg #[.int .i64 1,.int .i64 0,.string ⟨#[116,105,116,108,101]⟩,.slice none 0 0,.string ⟨#[]⟩,.slice (some ⟨V2.heap.size,0,none⟩) 1 1])from
         aY.keep (rI (B:=U.heap.size) HU1.out HX4.out) (fun g hg hd=>⟨(HQ5.out g hg (hown g hd)).1,(HQ5.out g hg (hown g hd)).2,by have h3:=HLU.out;omega⟩))
        clear hg5 hP5 hown hpg HPV HKZ HQ5;go_wp2_with fail
        refine hQ5 _ _ ((HSS.out _).2 ⟨HB5.out,HR5.out,HG5.out⟩) (cQ (fun K' hK'=>?_));clear hQ5 Q5;simp only[pick,pickZ,pickS,pickG];repeat (go_big_quiet_step (fail))
        refine wpQuiet_nil (hK' _ (fun Qz hQz=>?_));clear hK' K';simp only[List.drop_succ_cons,List.drop_zero];have z5:V5.cell? ⟨gk,5,none⟩=some (.slice (some ⟨m1+1+1,0,none⟩) 1 1):=cell_of_row V5 gk 5 _ 45 (0,0) HG5.out;have zf:V5.frozen? ⟨gk,5,none⟩=false:=Lib.frozen_of_heap HG5.out 5;go_wp2_with fail
        go_meet
        case rel=>exact⟨V2.heap.size,g5,c5,rfl,rfl,rfl,hid (PSE.keepE HP5.out (fun g hg=>heap_setCell_other _ _ g _ (fun e=>hg (.inr e))) HNE.out (by have h1:=HWM.out;have h2:=HG6.out.1;show _≤gk;omega)),hid (aY.keep HTD.out (fun g hg hd=>⟨heap_setCell_other _ _ g _ (fun e=>hd.2 (.inr e)),hd⟩)),hid ((heap_setCell_other _ _ pb _ (by have:=HGP.out;show pb≠gk;omega)).trans HR5.out),hid (heap_setCell_same V5 gk 5 _ 45 _ HG5.out),hid (HB5.out.setCell (p:=⟨gk,5,none⟩) HG6.out.2 _)⟩
      ·clear hK' K';intro Q1 hQ1;simp only[pick,pickZ,pickS,pickG];go_wp2_with fail
       have hx:=aP V0 (.int .i64 0) (.int .i64 0) (.string ⟨#[]⟩) (.slice none 0 0) (.string ⟨#[]⟩) (.slice none 0 0);obtain⟨V1,hV⟩:∃V1,V1=V0.alloc (.cells #[.int .i64 0,.int .i64 0,.string ⟨#[]⟩,.slice none 0 0,.string ⟨#[]⟩,.slice none 0 0] 45):=⟨_,rfl⟩
       have hB:Below V0.heap.size V0 V1:=by rw[hV];exact(Below.refl _ _).alloc cC _
       rw[←hV]at hx ⊢
       have HZ1:=hid hx;have HU2:=hid HD0.out.size;have HD1:=dU HD0 hB;clear hV hB hx;refine hQ1 _ _ (HSO.out _ HD1.out) (bB (fun K' hK'=>wpQuiet_nil (hK' _ ?_)));clear hK' K';intro Q2 hQ2;simp only[pick,pickZ,pickS,pickG];go_wp2_with fail
       refine(pV t V1).mono ?_;rintro e V2 ⟨⟨_,rfl,rfl,_⟩,hB⟩;have HZ2:=hid (HZ1.out.below hB cC);have HD2:=dU HD1 hB;clear hB;go_wp2_with fail
       refine hQ2 _ _ (HSO.out _ HD2.out) (bB (fun K' hK'=>wpQuiet_nil (hK' _ ?_)));clear hK' K';intro Q3 hQ3;simp only[pick,pickZ,pickS,pickG];go_wp2_with fail
       have hx:=aP V2 (.int .i64 2) (.int .i64 0) (.string ⟨#[]⟩) (.slice none 0 0) (.string t) (.slice none 0 0);obtain⟨V3,hV⟩:∃V3,V3=V2.alloc (.cells #[.int .i64 2,.int .i64 0,.string ⟨#[]⟩,.slice none 0 0,.string t,.slice none 0 0] 45):=⟨_,rfl⟩
       have hB:Below V2.heap.size V2 V3:=by rw[hV];exact(Below.refl _ _).alloc cC _
       rw[←hV]at hx ⊢
       have HZ3:=hid (HZ2.out.below hB cC);have HX3:=hid hx;have HU1:=hid HD2.out.size;have HD3:=dU HD2 hB;clear hV hB hx;refine hQ3 _ _ (HSO.out _ HD3.out) (bB (fun K' hK'=>wpQuiet_nil (hK' _ ?_)));clear hK' K';intro Q4 hQ4;simp only[pick,pickZ,pickS,pickG];go_wp2_with fail
       refine(gM ⟨#[116,105,116,108,101]⟩ [aL t] (some ⟨V2.heap.size,0,none⟩) 1 V3 (by simp) (hid (eO HX3.out (by unfold aL aG;exact⟨_,none,0,rfl,by simp,dR _,by unfold aI;trivial⟩)))).mono ?_;rintro e V4 ⟨⟨_,rfl,rfl,_⟩,hB⟩;have HX4:=hid (HX3.out.below hB cC);have HZ4:=hid (HZ3.out.below hB cC);have HD4:=dU HD3 hB;clear hB;go_wp2_with fail
       refine hQ4 _ _ (HSO.out _ HD4.out) (bB (fun K' hK'=>wpQuiet_nil (hK' _ ?_)));clear hK' K';intro Q5 hQ5;simp only[pick,pickZ,pickS,pickG];have HPV:=hid (HPE.out.keep HD4.out);have HKZ:=hid (show aD (fun g=>bN (.slice (some ⟨m1+1+1,0,none⟩) 1 1) g∧¬(g=pb∨g=gk)) V4 (some ⟨V0.heap.size,0,none⟩) 0 [jB]from rN HZ4.out ⟨fun e=>by
        have h1:m1+1+1=V0.heap.size:=Option.some.inj e;have h2:=HG6.out.1;have h3:=HLU.out;have h4:=HU2.out;omega,by have h3:=HLU.out;have h4:=HU2.out;omega⟩)
       go_wp2_with (at_builtin;refine gN rfl _ _ rfl (fun g hg=>by have h1:=HD4.out.size;have h2:=HLU.out;omega) _ _ _ rfl HPV (some ⟨V0.heap.size,0,none⟩) 1 1 [jB] rfl (hid rfl) HKZ (by omega) ?_)
       intro v5 V5 hP5;obtain⟨g5,c5,rfl,hg5,hg6⟩:=hP5.out.1.row (by omega);have HP5:=hid hP5.out.1;have HQ5:=hid hP5.out.2;have HNE:=hid hg5;have hown:∀g,U.heap.size≤g→bN (.slice (some ⟨m1+1+1,0,none⟩) 1 1) g:=fun g hg e=>by
        have h1:m1+1+1=g:=Option.some.inj e;have h2:=HG6.out.1;have h3:=HLU.out;omega
       have hpg:bN (.slice (some ⟨m1+1+1,0,none⟩) 1 1) pb∧bN (.slice (some ⟨m1+1+1,0,none⟩) 1 1) gk:=⟨fun e=>by have h1:m1+1+1=pb:=Option.some.inj e;have h2:=HG6.out.1;have h3:=HGP.out;omega,fun e=>by have h1:m1+1+1=gk:=Option.some.inj e;have h2:=HG6.out.1;omega⟩
       have HR5:=hid ((HQ5.out pb (Nat.lt_of_lt_of_le HLU.out.1 HD4.out.size) hpg.1).1.trans ((HD4.out.block pb HLU.out.1).trans HUP.out));have HG5:=hid ((HQ5.out gk (Nat.lt_of_lt_of_le HLU.out.2 HD4.out.size) hpg.2).1.trans ((HD4.out.block gk HLU.out.2).trans HUG.out));have HB5:=hid (HB2.out.trans (HP5.out.bel.mono HB2.out.size));have HTD:=hid (show aY (fun k=>bN (.slice (some ⟨g5,0,none⟩) 2 c5) k∧¬(k=pb∨k=gk)) V5 (elN aX [aL t]) (.agg #[.int .i64 1,.int .i64 0,.string ⟨#[116,105,116,108,101]⟩,.slice none 0 0,.string ⟨#[]⟩,.slice (some ⟨V2.heap.size,0,none⟩) 1 1])from
        aY.keep (rI (B:=U.heap.size) HU1.out HX4.out) (fun g hg hd=>⟨(HQ5.out g hg (hown g hd)).1,(HQ5.out g hg (hown g hd)).2,by have h3:=HLU.out;omega⟩))
       clear hg5 hP5 hown hpg HPV HKZ HQ5;go_wp2_with fail
       refine hQ5 _ _ ((HSS.out _).2 ⟨HB5.out,HR5.out,HG5.out⟩) (cQ (fun K' hK'=>?_));clear hQ5 Q5;simp only[pick,pickZ,pickS,pickG];repeat (go_big_quiet_step (fail))
       refine wpQuiet_nil (hK' _ (fun Qz hQz=>?_));clear hK' K';simp only[List.drop_succ_cons,List.drop_zero];have z5:V5.cell? ⟨gk,5,none⟩=some (.slice (some ⟨m1+1+1,0,none⟩) 1 1):=cell_of_row V5 gk 5 _ 45 (0,0) HG5.out;have zf:V5.frozen? ⟨gk,5,none⟩=false:=Lib.frozen_of_heap HG5.out 5;go_wp2_with fail
       go_meet
       case rel=>exact⟨V2.heap.size,g5,c5,rfl,rfl,rfl,hid (PSE.keepE HP5.out (fun g hg=>heap_setCell_other _ _ g _ (fun e=>hg (.inr e))) HNE.out (by have h1:=HWM.out;have h2:=HG6.out.1;show _≤gk;omega)),hid (aY.keep HTD.out (fun g hg hd=>⟨heap_setCell_other _ _ g _ (fun e=>hd.2 (.inr e)),hd⟩)),hid ((heap_setCell_other _ _ pb _ (by have:=HGP.out;show pb≠gk;omega)).trans HR5.out),hid (heap_setCell_same V5 gk 5 _ 45 _ HG5.out),hid (HB5.out.setCell (p:=⟨gk,5,none⟩) HG6.out.2 _)⟩
     case rest =>
      obtain⟨g1,g5,c5,rfl,rfl,rfl,HPQ,HTD,HRP2,HRG2,HBQ⟩:=hcut;rename World=>Y
      obtain⟨hp8,hth⟩:=HPQ.out.last HTD.out;have HP8:=hid hp8;have HTH:=hid hth;have HNG:=hid (show ¬(g5=pb∨g5=gk)∧W0.heap.size≤g5 by
       obtain⟨g',c',e,h1,h2⟩:=HPQ.out.row (by omega);simp only[Value.slice.injEq,Option.some.injEq,Addr.mk.injEq]at e;obtain⟨⟨rfl,_⟩,_⟩:=e;exact⟨h1,Nat.le_trans HB2.out.size h2⟩)
      clear hp8 hth HPQ HTD;obtain⟨i45,hi45,hz45,hs45,hb45⟩:=info_parts Tryz.info45;go_wp2_with (refine wpList_store_mid (by rfl) 45 (.tmp 44) (.tmp 38) rfl g5 6 #[.int .i64 1,.int .i64 0,.string ⟨#[116,105,116,108,101]⟩,.slice none 0 0,.string ⟨#[]⟩,.slice (some ⟨g1,0,none⟩) 1 1] rfl rfl HTH.out (by rw[hi45];simp[hs45]) (by simp[Value.oneCell']) ?_)
      go_meet
      case rel =>
       have hB8:Below W0.heap.size W0 (Y.setCells g5 6 [.int .i64 1,.int .i64 0,.string ⟨#[116,105,116,108,101]⟩,.slice none 0 0,.string ⟨#[]⟩,.slice (some ⟨g1,0,none⟩) 1 1]):=HB2.out.trans (HP8.out.bel.mono HB2.out.size);have hrow:=(bX g5 [.int .i64 1,.int .i64 0,.string ⟨#[116,105,116,108,101]⟩,.slice none 0 0,.string ⟨#[]⟩,.slice (some ⟨g1,0,none⟩) 1 1] 6 Y gk (fun e=>HNG.out.1 (.inr e.symm))).trans HRG2.out;refine⟨rfl,hid ((bX g5 _ 6 Y pb (fun e=>HNG.out.1 (.inl e.symm))).trans HRP2.out),hid ?_,hid hB8⟩;rw[HEX.out,HE.out];obtain⟨a',c',e',hk'⟩:=HP8.out.slice (by omega);simp only[Value.slice.injEq]at e';obtain⟨rfl,_,rfl⟩:=e';exact(kJ (D:=fun _=>True) (ah:=some ⟨g5,0,none⟩) (ch:=c5) (hd:=[eC,elN aX [aL t]]) (R:=ks) (ar:=ka) (cr:=kc) trivial (by simp) (by omega)
        ⟨cell_of_row _ gk 0 _ 45 (0,0) hrow,cell_of_row _ gk 1 _ 45 (0,0) hrow,cell_of_row _ gk 2 _ 45 (0,0) hrow,cell_of_row _ gk 3 _ 45 (0,0) hrow,cell_of_row _ gk 4 _ 45 (0,0) hrow,cell_of_row _ gk 5 _ 45 (0,0) hrow⟩
        ⟨cell_of_row _ gk 6 _ 45 (0,0) hrow,cell_of_row _ gk 7 _ 45 (0,0) hrow,cell_of_row _ gk 8 _ 45 (0,0) hrow,cell_of_row _ gk 9 _ 45 (0,0) hrow,cell_of_row _ gk 10 _ 45 (0,0) hrow,cell_of_row _ gk 11 _ 45 (0,0) hrow⟩
        (aD.keep hk' (fun g hg hd=>⟨rfl,trivial⟩))
        (aD.keep HKK.out.deep (fun g hg _=>⟨(HB0.out.trans (hB8.mono HB0.out.size)).block g hg,trivial⟩))).kids
    | false =>
     obtain⟨S,hS⟩:∃S:World→Prop,∀u,S u↔(Below W0.heap.size W0 u∧u.heap[pb]?=some (.cells #[.int .i64 1,.int .i64 0,.string ⟨#[104,116,109,108]⟩,.slice none 0 0,.string ⟨#[]⟩,.slice (some ⟨gk,0,none⟩) 2 2] 45 (0,0))∧u.heap[gk]?=some (.cells #[.int .i64 1,.int .i64 0,.string ⟨#[104,101,97,100]⟩,.slice none 0 0,.string ⟨#[]⟩,.slice (some ⟨m1+1+1,0,none⟩) 1 1,.int .i64 1,.int .i64 0,.string ⟨#[98,111,100,121]⟩,.slice none 0 0,.string ⟨#[]⟩,.slice ka ks.length kc] 45 (0,0))):=⟨_,fun _=>Iff.rfl⟩
     have HSO:=hid (fun u (h:Below U.heap.size U u)=>(hS u).2 ⟨HBU0.out.trans (h.mono HBU0.out.size),(h.block pb HLU.out.1).trans HUP.out,(h.block gk HLU.out.2).trans HUG.out⟩);have f5:∀s:WIn S,s.w.cell? ⟨pb,5,none⟩=some (.slice (some ⟨gk,0,none⟩) 2 2):=fun s=>cell_of_row s.w pb 5 _ 45 (0,0) ((hS _).1 s.h).2.1
     have h5:∀s:WIn S,s.w.cell? ⟨gk,5,none⟩=some (.slice (some ⟨m1+1+1,0,none⟩) 1 1):=fun s=>cell_of_row s.w gk 5 _ 45 (0,0) ((hS _).1 s.h).2.2
     haveI:Nonempty (WIn S):=⟨⟨U,HSO.out U (Below.refl _ _)⟩⟩
     have HSS:=hid hS;clear hS;go_upto_region 9 with fail
     have HD0:=hid (below_drewNm U 1);refine eK 15 [([0,1,2,3,4,5,6,7],8),([],9),([],10),([],11),([],12)] [13,14] S (by kernel_rfl) (by kernel_rfl) (HSO.out _ HD0.out) ?_;generalize U.drewN 1=V0 at *
     refine aZ (fun K' hK'=>?_);simp only[pick,pickZ,pickS,pickG];repeat (go_big_quiet_step (fail))
     refine wpQuiet_nil (hK' _ (fun Q1 hQ1=>?_));clear hK' K' f5 h5;simp only[pick,pickZ,pickS,pickG];go_wp2_with fail
     refine(pV t V0).mono ?_;rintro e V1 ⟨⟨v1,rfl,rfl,n1⟩,B1⟩;have HD1:=dU HD0 B1;have HM1':=hid n1;clear B1 n1;go_wp2_with fail
     refine hQ1 _ _ (HSO.out _ HD1.out) (aZ (fun K' hK'=>wpQuiet_nil (hK' _ (fun Q2 hQ2=>?_))));clear hK' K' hQ1 Q1;simp only[pick,pickZ,pickS,pickG];go_wp2_with fail
     have hb2:Below V1.heap.size V1 (V1.alloc (.cells #[.int .i64 2,.int .i64 0,.string ⟨#[]⟩,.slice none 0 0,.string t,.slice none 0 0] 45)):=(Below.refl _ _).alloc cC _;have hx2:=aP V1 (.int .i64 2) (.int .i64 0) (.string ⟨#[]⟩) (.slice none 0 0) (.string t) (.slice none 0 0);obtain⟨V2,hV2⟩:∃V2,V2=V1.alloc (.cells #[.int .i64 2,.int .i64 0,.string ⟨#[]⟩,.slice none 0 0,.string t,.slice none 0 0] 45):=⟨_,rfl⟩
     rw[←hV2]at hb2 hx2 ⊢
     have HX2:=hid hx2;have HD2:=dU HD1 hb2;have HV1:=hid HD1.out.size;have HK2:=hid (show aI V2 (some ⟨V1.heap.size,0,none⟩) 0 [aL t]from eO hx2 (HM1'.out.below hb2 cC));clear hV2 hb2 hx2;generalize V1.heap.size=g1 at *
     refine hQ2 _ _ (HSO.out _ HD2.out) (aZ (fun K' hK'=>wpQuiet_nil (hK' _ (fun Q3 hQ3=>?_))));clear hK' K' hQ2 Q2;simp only[pick,pickZ,pickS,pickG];go_wp2_with fail
     refine(gM ⟨#[116,105,116,108,101]⟩ [aL t] (some ⟨g1,0,none⟩) 1 V2 (by simp) HK2).mono ?_;rintro e V3 ⟨⟨v3,rfl,rfl,_⟩,B3⟩;have HX3:=hid (HX2.out.below B3 cC);have HD3:=dU HD2 B3;clear B3 HX2 HK2;go_wp2_with fail
     refine hQ3 _ _ (HSO.out _ HD3.out) (aZ (fun K' hK'=>wpQuiet_nil (hK' _ (fun Q4 hQ4=>?_))));clear hK' K' hQ3 Q3;simp only[pick,pickZ,pickS,pickG];go_wp2_with fail
     have hb4:Below V3.heap.size V3 (V3.alloc (.cells #[.int .i64 1,.int .i64 0,.string ⟨#[116,105,116,108,101]⟩,.slice none 0 0,.string ⟨#[]⟩,.slice (some ⟨g1,0,none⟩) 1 1] 45)):=(Below.refl _ _).alloc cC _;have hx4:=aP V3 (.int .i64 1) (.int .i64 0) (.string ⟨#[116,105,116,108,101]⟩) (.slice none 0 0) (.string ⟨#[]⟩) (.slice (some ⟨g1,0,none⟩) 1 1);obtain⟨V4,hV4⟩:∃V4,V4=V3.alloc (.cells #[.int .i64 1,.int .i64 0,.string ⟨#[116,105,116,108,101]⟩,.slice none 0 0,.string ⟨#[]⟩,.slice (some ⟨g1,0,none⟩) 1 1] 45):=⟨_,rfl⟩
     rw[←hV4]at hb4 hx4 ⊢
     have HD4:=dU HD3 hb4;have HKD:=hid (aAW (B:=U.heap.size) HD3.out.size HV1.out hx4 (HX3.out.below hb4 cC));have HKE:=hid (aD.keep HKD.out (D':=fun g=>bN (.slice (some ⟨m1+1+1,0,none⟩) 1 1) g∧¬(g=pb∨g=gk)) (w':=V4) (fun g hg hd=>⟨rfl,fun e=>by
      have h1:m1+1+1=g:=Option.some.inj e;have h2:=HG6.out.1;have h3:=HLU.out;omega,by have h3:=HLU.out;omega⟩))
     have HP4:=hid (HPE.out.keep HD4.out);have HLV:=hid HD4.out.size;clear hV4 hb4 hx4 HX3 HKD;generalize V3.heap.size=g3 at *
     refine hQ4 _ _ (HSO.out _ HD4.out) (aZ (fun K' hK'=>wpQuiet_nil (hK' _ (fun Q5 hQ5=>?_))));clear hK' K' hQ4 Q4;simp only[pick,pickZ,pickS,pickG];go_wp2_with (at_builtin;refine nC rfl _ _ rfl (fun g hg=>by have h1:=HLV.out;have h2:=HLU.out;omega) _ _ _ rfl HP4 (some ⟨g3,0,none⟩) 1 1 [elN aX [aL t]] rfl (hid rfl) HKE (by omega) ?_)
     intro v5 V5 hP5 hH5;obtain⟨a5,c5,rfl,hk5⟩:=hP5.out.slice (by omega);have HK5:=hid hk5;have HR5:=hid (hH5.out.1.trans ((HD4.out.block pb HLU.out.1).trans HUP.out));have HG5:=hid (hH5.out.2.trans ((HD4.out.block gk HLU.out.2).trans HUG.out));have HB5:=hid (HB2.out.trans (hP5.out.bel.mono HB2.out.size));clear hk5 hP5 hH5 HP4 HKE HD4 HLV;go_wp2_with fail
     refine hQ5 _ _ ((HSS.out _).2 ⟨HB5.out,HR5.out,HG5.out⟩) (fE (fun K' hK'=>?_));clear hQ5 Q5;simp only[pick,pickZ,pickS,pickG];repeat (go_big_quiet_step (fail))
     refine wpQuiet_nil (hK' _ (fun Qz hQz=>?_));clear hK' K';simp only[List.drop_succ_cons,List.drop_zero];have z5:V5.cell? ⟨gk,5,none⟩=some (.slice (some ⟨m1+1+1,0,none⟩) 1 1):=cell_of_row V5 gk 5 _ 45 (0,0) HG5.out;have zf:V5.frozen? ⟨gk,5,none⟩=false:=Lib.frozen_of_heap HG5.out 5;go_wp2_with fail
     go_meet
     case rel =>
      have hrow:=heap_setCell_same V5 gk 5 _ 45 (.slice a5 2 c5) HG5.out;have hB:Below W0.heap.size W0 (V5.setCell ⟨gk,5,none⟩ (.slice a5 2 c5)):=HB5.out.setCell (p:=⟨gk,5,none⟩) HG6.out.2 _;refine⟨rfl,hid ((heap_setCell_other _ _ pb _ (by have:=HGP.out;show pb≠gk;omega)).trans HR5.out),hid ?_,hid hB⟩;rw[HEX.out,HE.out];exact(kJ (D:=fun _=>True) (ah:=a5) (ch:=c5) (hd:=[eC,elN aX [aL t]]) (R:=ks) (ar:=ka) (cr:=kc) trivial (by simp) (by omega)
       ⟨cell_of_row _ gk 0 _ 45 (0,0) hrow,cell_of_row _ gk 1 _ 45 (0,0) hrow,cell_of_row _ gk 2 _ 45 (0,0) hrow,cell_of_row _ gk 3 _ 45 (0,0) hrow,cell_of_row _ gk 4 _ 45 (0,0) hrow,cell_of_row _ gk 5 _ 45 (0,0) hrow⟩
       ⟨cell_of_row _ gk 6 _ 45 (0,0) hrow,cell_of_row _ gk 7 _ 45 (0,0) hrow,cell_of_row _ gk 8 _ 45 (0,0) hrow,cell_of_row _ gk 9 _ 45 (0,0) hrow,cell_of_row _ gk 10 _ 45 (0,0) hrow,cell_of_row _ gk 11 _ 45 (0,0) hrow⟩
       (aD.keep HK5.out (fun g hg hd=>⟨heap_setCell_other _ _ g _ (fun e=>hd (.inr e)),trivial⟩))
       (aD.keep HKK.out.deep (fun g hg _=>⟨(HB0.out.trans (hB.mono HB0.out.size)).block g hg,trivial⟩))).kids
 case rest =>
  obtain⟨rfl,HRX,HKX,HBX⟩:=hcut;rename World=>Wc
  obtain⟨P,hP⟩:∃P,P=elN jU [bG t,elN bT ks]:=⟨_,rfl⟩
  rw[←hP]at HHO HCL HSA
  have HBW:=dU HB0 HBX.out;have HX:=hid (HX0.out.below HBX.out cC);have HY:=hid (show Six Wc pb 0 (.int .i64 1) (.int .i64 0) (.string ⟨#[104,116,109,108]⟩) (.slice none 0 0) (.string ⟨#[]⟩) (.slice (some ⟨gk,0,none⟩) 2 2)from⟨cell_of_row Wc pb 0 _ 45 (0,0) HRX.out,cell_of_row Wc pb 1 _ 45 (0,0) HRX.out,cell_of_row Wc pb 2 _ 45 (0,0) HRX.out,cell_of_row Wc pb 3 _ 45 (0,0) HRX.out,cell_of_row Wc pb 4 _ 45 (0,0) HRX.out,cell_of_row Wc pb 5 _ 45 (0,0) HRX.out⟩);have HNN:=hid (HN.out.below HBW.out cC);have HNP:=hid (show aG Wc P (.agg #[.int .i64 1,.int .i64 0,.string ⟨#[104,116,109,108]⟩,.slice none 0 0,.string ⟨#[]⟩,.slice (some ⟨gk,0,none⟩) 2 2]) by
   rw[hP];unfold elN aG;exact⟨_,_,2,rfl,by simp,dR _,HKX.out⟩)
  clear hP HRP HLP HB8 HC8 HR8 HPK8 HGP HTQ HKX HRX HP3 HG6;obtain⟨x0,x1,x2,x3,x4,x5⟩:=HX.out.zero;obtain⟨y0,y1,y2,y3,y4,y5⟩:=HY.out.zero;go_wp2_with fail
  obtain⟨s1,s2⟩:=fM Wc (.int .i64 n.kind) (.int .i64 n.space) (.string n.name) (.slice aa n.attrs.length ca) (.string n.text) (.slice a n.kids.length c) (.int .i64 1) (.int .i64 0) (.string ⟨#[104,116,109,108]⟩) (.slice none 0 0) (.string ⟨#[]⟩) (.slice (some ⟨gk,0,none⟩) 2 2);obtain⟨W9,hW9⟩:∃W9,W9=Wc.alloc (.cells #[.int .i64 n.kind,.int .i64 n.space,.string n.name,.slice aa n.attrs.length ca,.string n.text,.slice a n.kids.length c,.int .i64 1,.int .i64 0,.string ⟨#[104,116,109,108]⟩,.slice none 0 0,.string ⟨#[]⟩,.slice (some ⟨gk,0,none⟩) 2 2] 45):=⟨_,rfl⟩
  have hb9:Below Wc.heap.size Wc W9:=by rw[hW9];exact(Below.refl _ _).alloc cC _
  rw[←hW9]at s1 s2 ⊢
  have HL:=hid (show aI W9 (some ⟨Wc.heap.size,0,none⟩) 0 [n,P]from zA s1 (HNN.out.below hb9 cC) s2 (HNP.out.below hb9 cC));have HB9:=dU HBW hb9;clear s1 s2 hW9 hb9 x0 x1 x2 x3 x4 x5 y0 y1 y2 y3 y4 y5 HX HY HNN HNP;generalize Wc.heap.size=lb at *
  go_loopw [64] (fun i wx=>∃k:Nat,i=.int .i64 k∧Hid (k≤2∧Below W9.heap.size W9 wx)) (fun i _=>2-(intOf i).toNat)
  case atStart=>exact⟨0,rfl,hid ⟨Nat.zero_le _,Below.refl _ _⟩⟩
  case round =>
   obtain⟨k,rfl,hR⟩:=hrel;have hk:=hR.out.1;have HBR:=hid (HB9.out.trans (hR.out.2.mono HB9.out.size));rcases Nat.lt_or_ge k 2 with hlt|hge
   ·have hlen:k<[n,P].length:=hlt;obtain⟨g,off,c0,c1,c2,c3,c4,c5,e0,h6,hn⟩:=HL.out.get [n,P] 0 k hlen;cases e0;simp only[Nat.zero_add]at h6;have hX:[n,P][k]=n∨[n,P][k]=P:=by
     match k,hlen with
     | 0,_=>exact .inl rfl
     | 1,_=>exact .inr rfl
    obtain⟨x0,x1,x2,x3,x4,x5⟩:=h6.below hR.out.2 cC;obtain⟨a1,b1,a2,b2,rfl,rfl,rfl,rfl,rfl,rfl⟩:=hn.cells;have HND:=hid (hn.below hR.out.2 cC);have HHX:=hid (HHO.out _ hX);have HCX:=hid (HCL.out _ hX);have HSX:=hid (HSA.out _ hX);clear hn h6 hX;generalize [n,P][k]=X at *
    clear hlen;obtain⟨V,hV⟩:∃V,V=wr.alloc (.cells #[.int .i64 X.kind,.int .i64 X.space,.string X.name,.slice a1 X.attrs.length b1,.string X.text,.slice a2 X.kids.length b2] 45):=⟨_,rfl⟩
    have hbV:Below wr.heap.size wr V:=by rw[hV];exact(Below.refl _ wr).alloc cC _
    have hQ:=aP wr (.int .i64 X.kind) (.int .i64 X.space) (.string X.name) (.slice a1 X.attrs.length b1) (.string X.text) (.slice a2 X.kids.length b2);rw[←hV]at hQ
    have HQ:=hid hQ;have HV:=hid hV;have HBV:=hid (hR.out.2.trans (hbV.mono hR.out.2.size));have HBVw:=dU HBR hbV;have HNV:=hid (HND.out.below hbV cC);clear hbV hV hQ;go_upto_region 13 with fail
    rw[←HV.out];clear x0 x1 x2 x3 x4 x5 HV;obtain⟨x0,x1,x2,x3,x4,x5⟩:=HQ.out.zero;generalize wr.heap.size=bn at *
    go_wp2_with fail
    refine(HHX.out V _ HBVw.out HNV).mono ?_;unfold bA;rintro e V1 ⟨rfl,B1⟩;have HB1v:=dU HBV B1;have HB1w:=dU HBVw B1;have HN1:=hid (HNV.out.below B1 cC);have HQ1:=hid (HQ.out.below B1 cC);clear B1 x0 x1 x2 x3 x4 x5 HHX;cases hb:B X with
    | false =>
     clear hb;go_wp2
     go_roundw
     case rel=>exact⟨k+1,by go_num,hid ⟨hlt,HB1v.out⟩⟩
     case measure=>simp[intOf];omega
    | true =>
     obtain⟨hz,hd,HCC⟩:=HCX.out hb;have HZ:=hid hz;have HD:=hid hd;have HCC:=hid HCC;clear hz hd hb HCX;obtain⟨x0,x1,x2,x3,x4,x5⟩:=HQ1.out.zero;go_wp2_with fail
     refine(HCC.out V1 _ HB1w.out HN1).mono ?_;clear x0 x1 x2 x3 x4 x5;rintro e V2 ⟨⟨h,_⟩|⟨_,h,_⟩|⟨_,_,v2,rfl,hn2⟩,B2⟩
     ·exact absurd h (by have:=HZ.out;omega)
     ·exact absurd h (by have:=HD.out;omega)
     obtain⟨av2,a3,c3,rfl,⟨aa2,ca2,rfl,_⟩,_,_⟩:=hn2.get;obtain⟨V3,hV3⟩:∃V3,V3=V2.alloc (.cells #[.int .i64 X.kind,.int .i64 X.space,.string X.name,.slice aa2 X.attrs.length ca2,.string X.text,.slice a3 X.kids.length c3] 45):=⟨_,rfl⟩
     have hb3:Below V2.heap.size V2 V3:=by rw[hV3];exact(Below.refl _ _).alloc cC _
     have hy3:=aP V2 (.int .i64 X.kind) (.int .i64 X.space) (.string X.name) (.slice aa2 X.attrs.length ca2) (.string X.text) (.slice a3 X.kids.length c3);rw[←hV3]at hy3
     have HY3:=hid hy3;have HM3:=hid (hn2.below hb3 cC);have HN3:=hid ((HN1.out.below B2 cC).below hb3 cC);have HQ3:=hid ((HQ1.out.below B2 cC).below hb3 cC);have HB3v:=hid (HB1v.out.trans ((B2.mono HB1v.out.size).trans (hb3.mono (Nat.le_trans HB1v.out.size B2.size))));have HV3:=hid hV3;clear hV3 hb3 hy3 hn2 B2;go_upto_region 15 with fail
     rw[←HV3.out];clear HV3;obtain⟨x0,x1,x2,x3,x4,x5⟩:=HQ3.out.zero;obtain⟨y0,y1,y2,y3,y4,y5⟩:=HY3.out.zero;generalize V2.heap.size=b12 at *
     go_wp2_with fail
     refine(HSX.out V3 _ _ HM3 HN3).mono ?_;unfold bA;rintro e V4 ⟨rfl,B4⟩;have HB4v:=dU HB3v B4;clear B4 x0 x1 x2 x3 x4 x5 y0 y1 y2 y3 y4 y5;go_wp2
     go_roundw
     case rel=>exact⟨k+1,by go_num,hid ⟨hlt,HB4v.out⟩⟩
     case measure=>simp[intOf];omega
   ·go_wp2
    go_ret;exact⟨rfl,HBR.out⟩
