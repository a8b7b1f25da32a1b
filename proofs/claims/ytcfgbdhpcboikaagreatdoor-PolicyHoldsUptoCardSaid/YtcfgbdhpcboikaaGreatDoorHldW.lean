/-
PolicyHolds: the walk.
-/
import Derived.Test.YtcfgbdhpcboikaaGreatDoorRefHC
namespace Go.Proofs.YtcfgbdhpcboikaaGreatDoor
open Go.Lib (hid)
set_option maxHeartbeats 8000000
set_option maxRecDepth 100000
open Go.RowKit
theorem dN {n:Nat}:n<=n:=Nat.le_refl n
theorem oY {a w v:World}(h:Go.RowKit.Hid (Go.RowKit.Below a.heap.size a w))(b:Go.RowKit.Below w.heap.size w v):Go.RowKit.Hid (Go.RowKit.Below a.heap.size a v):=hid (h.out.trans (b.mono h.out.size))
theorem aLD (n:Nd)(nv:Value)(ks:List Nd)(ka:Option Addr)(kc:Nat)(w:World)(hkl:ks.length<=1000000000)(r q:Bool)(HN:Hid (aQ w n nv))(HKK:Hid (bD w ka 0 ks))
  (HS:Hid (∀W,Below w.heap.size w W->Calls Tryz.prog 23 #[] W (aB true W)))
  (H1:Hid (∀W u,Below w.heap.size w W->aQ W n u->Calls Tryz.prog 41 #[u] W (aB r W)))
  (H2:Hid (∀W u,Below w.heap.size w W->aQ W n u->Calls Tryz.prog 46 #[u] W (aB r W)))
  (H3:Hid (∀W u,Below w.heap.size w W->aQ W (uJ ks) u->Calls Tryz.prog 41 #[u] W (aB q W)))
  (H4:Hid (∀W u,Below w.heap.size w W->aQ W (uJ ks) u->Calls Tryz.prog 46 #[u] W (aB q W))) :
  Calls Tryz.prog 11 #[nv,.slice ka ks.length kc] w (aB true w):=by
 obtain⟨av,a,c,rfl,⟨aa,ca,rfl,hAA⟩,hK,hlen⟩:=HN.out.get;clear hAA hK hlen;obtain⟨W0,hW0⟩:∃W0,W0=w.alloc (.cells #[.int .i64 n.kind,.int .i64 n.space,.string n.name,.slice aa n.attrs.length ca,.string n.text,.slice a n.kids.length c] 45):=⟨_,rfl⟩
 have HB0:=hid (show Below w.heap.size w W0 by rw[hW0];exact(Below.refl _ w).alloc dN _);have HX0:=hid (show Six W0 w.heap.size 0 (.int .i64 n.kind) (.int .i64 n.space) (.string n.name) (.slice aa n.attrs.length ca) (.string n.text) (.slice a n.kids.length c) by
  rw[hW0];exact bC w _ _ _ _ _ _)
 have HW0:=hid hW0;clear hW0;go_enter Tryz.func11,Tryz.ntmps11;go_wp2_with fail;rw[<-HW0.out];refine(HS.out W0 HB0.out).mono ?_;unfold aB;rintro e W1 ⟨rfl,B1⟩;have HB1:=oY HB0 B1;have HX1:=hid (HX0.out.below B1 dN);clear B1 HW0;go_wp2_with fail;refine(aL1 ka ks.length kc W1).mono ?_;rintro x W2 ⟨gh,gm,ga,rfl,hP,B2,_,_⟩;have HB2:=oY HB1 B2;have HX2:=hid (HX1.out.below B2 dN);have HPN:=hid (aHx hP (by omega) (HKK.out.below HB2.out dN));clear B2 hP;unfold elV eV at *;obtain⟨W3,hW3⟩:∃W3,W3=W2.alloc (.cells #[.int .i64 1,.int .i64 0,.string ⟨#[104,116,109,108]⟩,.slice none 0 0,.string ⟨#[]⟩,.slice (some ⟨gh,0,none⟩) 2 2] 45):=⟨_,rfl⟩;have hB3:Below W2.heap.size W2 W3:=by rw[hW3];exact(Below.refl _ W2).alloc dN _
 have HX3:=hid (HX2.out.below hB3 dN);have HPN3:=hid (HPN.out.below hB3 dN);have HPX:=hid (show Six W3 W2.heap.size 0 (.int .i64 1) (.int .i64 0) (.string ⟨#[104,116,109,108]⟩) (.slice none 0 0) (.string ⟨#[]⟩) (.slice (some ⟨gh,0,none⟩) 2 2) by
  rw[hW3];exact bC W2 _ _ _ _ _ _)
 have HB3:=oY HB2 hB3;have HW3:=hid hW3;obtain⟨gp,hgp⟩:∃gp,W2.heap.size=gp:=⟨_,rfl⟩;have HGP:=hid hgp;clear hW3 hB3 hgp;go_upto_region 3 with fail;rw[<-HW3.out];rw[HGP.out]at HPX ⊢;obtain⟨S,hS⟩:∃S:World->Prop,∀u,S u↔Below W3.heap.size W3 u:=⟨_,fun _=>Iff.rfl⟩;have f0:∀s:WIn S,s.w.cell? ⟨w.heap.size,0,none⟩=some (.int .i64 n.kind):=fun s=>(HX3.out.below ((hS _).1 s.h) dN).x0;have f1:∀s:WIn S,s.w.cell? ⟨w.heap.size,1,none⟩=some (.int .i64 n.space):=fun s=>(HX3.out.below ((hS _).1 s.h) dN).x1;have f2:∀s:WIn S,s.w.cell? ⟨w.heap.size,2,none⟩=some (.string n.name):=fun s=>(HX3.out.below ((hS _).1 s.h) dN).x2;have f3:∀s:WIn S,s.w.cell? ⟨w.heap.size,3,none⟩=some (.slice aa n.attrs.length ca):=fun s=>(HX3.out.below ((hS _).1 s.h) dN).x3;have f4:∀s:WIn S,s.w.cell? ⟨w.heap.size,4,none⟩=some (.string n.text):=fun s=>(HX3.out.below ((hS _).1 s.h) dN).x4;have f5:∀s:WIn S,s.w.cell? ⟨w.heap.size,5,none⟩=some (.slice a n.kids.length c):=fun s=>(HX3.out.below ((hS _).1 s.h) dN).x5;have g0:∀s:WIn S,s.w.cell? ⟨gp,0,none⟩=some (.int .i64 1):=fun s=>(HPX.out.below ((hS _).1 s.h) dN).x0;have g1:∀s:WIn S,s.w.cell? ⟨gp,1,none⟩=some (.int .i64 0):=fun s=>(HPX.out.below ((hS _).1 s.h) dN).x1;have g2:∀s:WIn S,s.w.cell? ⟨gp,2,none⟩=some (.string ⟨#[104,116,109,108]⟩):=fun s=>(HPX.out.below ((hS _).1 s.h) dN).x2;have g3:∀s:WIn S,s.w.cell? ⟨gp,3,none⟩=some (.slice none 0 0):=fun s=>(HPX.out.below ((hS _).1 s.h) dN).x3;have g4:∀s:WIn S,s.w.cell? ⟨gp,4,none⟩=some (.string ⟨#[]⟩):=fun s=>(HPX.out.below ((hS _).1 s.h) dN).x4;have g5:∀s:WIn S,s.w.cell? ⟨gp,5,none⟩=some (.slice (some ⟨gh,0,none⟩) 2 2):=fun s=>(HPX.out.below ((hS _).1 s.h) dN).x5;haveI:Nonempty (WIn S):=⟨⟨W3,(hS _).2 (Below.refl _ _)⟩⟩;have HSS:=hid hS;have er:(r==r)=true:=by{simp};have eq:(q==q)=true:=by{simp};clear hS;refine dI 15 [([0,1,2,4],3),([],5),([6,7,8,9,11],10),([],12)] [13,14] S (by kernel_rfl) (by kernel_rfl) ((HSS.out _).2 (below_drewNm W3 1)) ?_;refine bE (fun K' hK'=>?_);simp only[pick,pickZ,pickS,pickG];repeat (go_big_quiet_step (fail))
 refine wpQuiet_nil (hK' _ (fun Q1 hQ1=>?_));clear hK' K';simp only[pick,pickZ,pickS,pickG];go_wp2_with fail;have hD:Below W3.heap.size W3 (W3.drewN 1):=below_drewNm W3 1;have hBD:Below w.heap.size w (W3.drewN 1):=HB3.out.trans (hD.mono HB3.out.size);refine(H1.out _ _ hBD (HN.out.below hBD dN)).mono ?_;unfold aB;rintro e W4 ⟨rfl,B4⟩;have HD4:=hid (hD.trans (B4.mono hD.size));clear hD hBD B4;have HB4:=oY HB3 HD4.out;go_wp2_with fail;refine hQ1 _ _ ((HSS.out _).2 HD4.out) (bE (fun K' hK'=>wpQuiet_nil (hK' _ (fun Q2 hQ2=>?_))));clear hK' K' hQ1 Q1;simp only[pick,pickZ,pickS,pickG];go_wp2_with fail;refine(H2.out _ _ HB4.out (HN.out.below HB4.out dN)).mono ?_;unfold aB;rintro e W5 ⟨rfl,B5⟩;have HD5:=oY HD4 B5;clear B5;have HB5:=oY HB3 HD5.out;go_wp2_with fail;refine hQ2 _ _ ((HSS.out _).2 HD5.out) (bE (fun K' hK'=>?_));clear hQ2 Q2;simp only[pick,pickZ,pickS,pickG];repeat (go_big_quiet_step (fail))
 refine wpQuiet_nil (hK' _ (fun Q3 hQ3=>?_));clear hK' K';simp only[pick,pickZ,pickS,pickG];go_wp2_with fail;refine(H3.out _ _ HB5.out (HPN3.out.below HD5.out dN)).mono ?_;unfold aB;rintro e W6 ⟨rfl,B6⟩;have HD6:=oY HD5 B6;clear B6;have HB6:=oY HB3 HD6.out;go_wp2_with fail;refine hQ3 _ _ ((HSS.out _).2 HD6.out) (bE (fun K' hK'=>wpQuiet_nil (hK' _ (fun Q4 hQ4=>?_))));clear hK' K' hQ3 Q3;simp only[pick,pickZ,pickS,pickG];go_wp2_with fail;refine(H4.out _ _ HB6.out (HPN3.out.below HD6.out dN)).mono ?_;unfold aB;rintro e W7 ⟨rfl,B7⟩;have HD7:=oY HD6 B7;clear B7;have HB7:=oY HB3 HD7.out;go_wp2_with fail;refine hQ4 _ _ ((HSS.out _).2 HD7.out) (dP (fun K' hK'=>?_));clear hQ4 Q4;simp only[pick,pickZ,pickS,pickG];repeat (go_big_quiet_step (fail))
 refine wpQuiet_nil (hK' _ (fun Q5 hQ5=>?_));clear hK' K' f0 f1 f2 f3 f4 f5 g0 g1 g2 g3 g4 g5;simp only[List.drop_succ_cons,List.drop_zero];go_wp2;go_ret;exact⟨rfl,HB7.out⟩
open Go.RowKit
structure nP (l:List AT) (k q:Nat) (d:Bool):Prop where
 le:q<=k
 lt:k<l.length
 iff:d=true↔∃j,∃hj:j<q,(l[j]'(by omega)).1=l[k].1
theorem nP.start {l:List AT}{k:Nat}(h:k<l.length):nP l k 0 false:=⟨Nat.zero_le _,h,⟨fun x=>(by cases x),fun⟨j,hj,_⟩=>absurd hj (by omega)⟩⟩
theorem nP.yes {l:List AT}{k q:Nat}{d:Bool}(h:nP l k q d)(hq:q<k)(hd:d=true\/(l[q]'(by have:=h.lt;omega)).1=(l[k]'h.lt).1):nP l k (q+1) true:=by
 refine⟨hq,h.lt,⟨fun _=>?_,fun _=>rfl⟩⟩;rcases hd with hd|hd;{obtain⟨j,hj,e⟩:=h.iff.1 hd;exact⟨j,by omega,e⟩};{exact⟨q,by omega,hd⟩}
theorem nP.no {l:List AT}{k q:Nat}(h:nP l k q false)(hq:q<k)(hd:(l[q]'(by have:=h.lt;omega)).1≠(l[k]'h.lt).1):nP l k (q+1) false:=by
 refine⟨hq,h.lt,⟨fun x=>(by cases x),fun⟨j,hj,e⟩=>?_⟩⟩;rcases Nat.lt_or_ge j q with h1|h1;{exact h.iff.2 ⟨j,h1,e⟩};{obtain rfl:j=q:=by{omega};exact absurd e hd}
structure rY (done:List AT) (n:ByteArray) (p:Nat):Prop where
 le:p<=done.length
 hi:∀j,∀hj:j<done.length,p<=j->Lib.compareBytes n.data.toList (done[j]).1.data.toList<0
theorem rY.start (done:List AT)(n:ByteArray):rY done n done.length:=⟨Nat.le_refl _,fun j hj h=>absurd hj (by omega)⟩
theorem rY.next {done:List AT}{n:ByteArray}{q:Nat}(h:rY done n (q+1))(hq:q<done.length)(hc:Lib.compareBytes n.data.toList (done[q]).1.data.toList<0):rY done n q:=by
 refine⟨by omega,fun j hj hjq=>?_⟩;by_cases e:j=q;{subst e;exact hc};{exact h.hi j hj (by omega)}
def gR (done:List AT)(q:Nat)(x:AT):List AT:=done.take q++x :: done.drop q
theorem aF5 (done:List AT)(x:AT):gR done done.length x=done++[x]:=by unfold gR;rw[List.take_length,List.drop_length]
theorem yP (done:List AT)(q:Nat)(x:AT)(h:q<=done.length):(gR done q x).length=done.length+1:=by
 unfold gR;rw[List.length_append,List.length_cons,List.length_take,List.length_drop];omega
theorem aHl (a b:List AT)(x y:AT):sY (cL (a++x :: b)) (a.length*2) [.string y.1,.string y.2]=cL (a++y :: b):=by
 rw[sL,sL];have e1:cL (x :: b)=[.string x.1,.string x.2]++cL b:=rfl;have e2:cL (y :: b)=[.string y.1,.string y.2]++cL b:=rfl;rw[e1,e2,<-iJ];generalize cL a=A;generalize cL b=B;apply List.ext_getElem?;intro j;rw[aKi _ _ _ _ (by simp)];by_cases h1:j<A.length;{rw[if_neg (by omega),List.getElem?_append_left h1,List.getElem?_append_left h1]};{have hA:∀C:List Value,(A++C)[j]?=C[j-A.length]?:=fun C=>List.getElem?_append_right (by omega);by_cases h2:j-A.length<2;{rw[if_pos (by simp;omega),hA,List.getElem?_append_left (by simpa using h2)]};{rw[if_neg (by simp;omega),hA,hA,List.getElem?_append_right (by simp;omega),List.getElem?_append_right (by simp;omega)];rfl}}
theorem aBU (done:List AT)(q:Nat)(x y:AT)(h:q<=done.length):sY (cL (gR done q x)) (q*2) [.string y.1,.string y.2]=cL (gR done q y):=by
 unfold gR;have:=aHl (done.take q) (done.drop q) x y;rw[List.length_take,Nat.min_eq_left h]at this;exact this
theorem aHX (done:List AT)(q:Nat)(h:q<done.length):gR done (q+1) done[q]=gR done q done[q]:=by
 unfold gR;rw[List.take_succ_eq_append_getElem h,List.drop_eq_getElem_cons h,List.append_assoc];rfl
theorem aKj (done:List AT)(q:Nat)(x:AT)(h:q<done.length):(gR done (q+1) x)[q]?=some done[q]:=by
 unfold gR;rw[List.getElem?_append_left (by rw[List.length_take];omega),List.getElem?_take,if_pos (by omega),List.getElem?_eq_getElem h]
theorem aT.attr {B:Nat}{v:Value}{n:Nat}{r:List AT}{W0 w:World}(h:aT B 39 2 v n (cL r) W0 w)(j:Nat)(x:AT)(hx:r[j]?=some x) :
  ∃g c,v=.slice (some ⟨g,0,none⟩) n c/\w.cell? ⟨g,j*2,none⟩=some (.string x.1)/\w.cell? ⟨g,j*2+1,none⟩=some (.string x.2):=by
 obtain⟨hj,e⟩:=List.getElem?_eq_some_iff.1 hx;obtain⟨c1,c2⟩:=aAw r j hj;rw[e]at c1 c2;have hn:0<n:=by{have h1:=h.own.1;rw[iJ]at h1;omega};obtain⟨g,c,rfl,_⟩:=h.atRow hn;exact⟨g,c,rfl,h.cell _ _ c1,h.cell _ _ c2⟩
theorem aI9 (n d:ByteArray):(Lib.compareBytes n.data.toList d.data.toList<0/\Op.bytesLess d.toList n.toList=false/\(d.toList==n.toList)=false) \/
  (¬Lib.compareBytes n.data.toList d.data.toList<0/\Op.bytesLess d.toList n.toList=true/\(d.toList==n.toList)=false)\/(¬Lib.compareBytes n.data.toList d.data.toList<0/\Op.bytesLess d.toList n.toList=false/\(d.toList==n.toList)=true):=by
 rw[less_iff,toList_data,toList_data,nE n.data.toList d.data.toList];have he:(d.data.toList==n.data.toList)=true->Lib.compareBytes n.data.toList d.data.toList=0:=fun h=>by{rw[beq_iff_eq]at h;rw[h,aGm]};have hn:Lib.compareBytes n.data.toList d.data.toList=0->(d.data.toList==n.data.toList)=true:=fun h=>by{rw[beq_iff_eq];exact(aA8 _ _ h).symm};generalize Lib.compareBytes n.data.toList d.data.toList=c at *;generalize (d.data.toList==n.data.toList)=b at *;rcases Int.lt_trichotomy c 0 with h|h|h;{exact .inl ⟨h,decide_eq_false (by omega),by cases b;rfl;exact absurd (he rfl) (by omega)⟩};{exact .inr (.inr ⟨by omega,decide_eq_false (by omega),hn h⟩)};{exact .inr (.inl ⟨by omega,decide_eq_true (by omega),by cases b;rfl;exact absurd (he rfl) (by omega)⟩)}
theorem aHG (e:ByteArray)(V:ByteArray->ByteArray->Option ByteArray)(hV:Hid (∀n v,n.size<=1048576->v.size<=1048576->∀W,aA W->Calls Tryz.prog 44 #[.string e,.string n,.string v] W fun x w'=>x=.returned (kD (V n v))/\Below W.heap.size W w'))
  (l:List AT) (hl:l.length<=1048576) (hs:Hid (∀x∈l,x.1.size<=1048576/\x.2.size<=1048576)) (av:Value) (w:World) (T:aA w) (hA:Hid (eI w av l)):Calls Tryz.prog 45 #[.string e,av] w (pI V l w):=by
 have HT:=hid T;clear T;obtain⟨i39,hi39,hz39,hs39,hb39⟩:=info_parts Tryz.info39;obtain⟨a,c,rfl,_⟩:=hA.out;go_enter Tryz.func45,Tryz.ntmps45;go_wp2;go_loopw [5,6] (fun o i wx=>∃(k:Nat) (done:List AT),i=.int .i64 k/\Hid (jL V l k done)/\Hid (aT w.heap.size 39 2 o done.length (cL done) w wx)) (fun _ i _=>l.length-(intOf i).toNat);case atStart=>exact⟨0,[],rfl,hid (jL.start V l),hid (aT.nil w 39 2)⟩
 case round =>
  obtain⟨k,done,rfl,hK,hO⟩:=hrel;have hk:=hK.out.le;have hdl:=hK.out.dl;rcases Nat.lt_or_ge k l.length with hlt|hge
  ·obtain⟨g,off,c',hva,_,_⟩:=hA.out.get k hlt;simp only[Value.slice.injEq,true_and]at hva;obtain⟨rfl,rfl⟩:=hva;have HG:Hid (∀j (hj:j<l.length),w.cell? ⟨g,off+j*2,none⟩=some (.string (l[j]).1)/\w.cell? ⟨g,off+j*2+1,none⟩=some (.string (l[j]).2)):=fun j hj=>by{obtain⟨g',off',c'',hva',k1,k2⟩:=hA.out.get j hj;simp only[Value.slice.injEq,Option.some.injEq,Addr.mk.injEq,true_and,and_true]at hva';obtain⟨⟨rfl,rfl⟩,_⟩:=hva';exact⟨k1,k2⟩};have hgl:g<w.heap.size:=World.block_lt_of_cell? _ _ (HG.out k hlt).1;have HOLD:=hid (hK.out.old hlt);have HYES:=hid (fun t=>hK.out.yes (t:=t) hlt);have HNO:=hid (hK.out.no hlt);have HSZ:=hid (hs.out l[k] (List.getElem_mem hlt));have HS0:=hid (nP.start hlt);have HGK:=hid (HG.out k hlt);obtain⟨wo,hwo⟩:∃wo,wo=wr:=⟨_,rfl⟩;have HWO:=hid hwo;clear hwo;go_wp2_with fail;go_loopw [7,8] (fun b j wx=>∃(q:Nat) (d:Bool),b=.bool d/\j=.int .i64 q/\Hid (nP l k q d)/\Hid (Below wo.heap.size wo wx)) (fun _ j _=>k-(intOf j).toNat);case atStart=>exact⟨0,false,rfl,rfl,HS0,by rw[HWO.out];exact hid (Below.refl _ _)⟩
   case round =>
    obtain⟨q,d,rfl,rfl,hD,hB⟩:=hrel;have hqk:=hD.out.le;rcases Nat.lt_or_ge q k with hq|hq;{have HGQ:=hid (HG.out q (by omega));have HY:=hid (hD.out.yes hq);have hx:Hid (∀b,((l[q]'(by omega)).1.toList==(l[k]'hlt).1.toList)=b->nP l k (q+1) (d||b)):=fun b hb=>by{cases d with|true=>exact hD.out.yes hq (.inl rfl)|false=>{cases b with|true=>{exact hD.out.yes hq (.inr (fI (by rw[<-toList_data,<-toList_data];simpa using hb)))}|false=>{exact hD.out.no hq (fun e=>by rw[e]at hb;simp at hb)}}};have hB2:Below w.heap.size w wr:=hO.out.bel.trans ((HWO.out▸hB.out).mono hO.out.bel.size);have z1:wr.cell? ⟨g,off+q*2,none⟩=some (.string (l[q]'(by omega)).1):=by{rw[hB2.cell (p:=⟨g,off+q*2,none⟩) hgl];exact HGQ.out.1};have z2:wr.cell? ⟨g,off+k*2,none⟩=some (.string (l[k]'hlt).1):=by{rw[hB2.cell (p:=⟨g,off+k*2,none⟩) hgl];exact HGK.out.1};clear hB2;generalize hb:((l[q]'(by omega)).1.toList==(l[k]'hlt).1.toList)=b at *;have HF:=hid (hx.out b rfl);clear hx HY;generalize (l[q]'(by omega)).1=nq at *;generalize (l[k]'hlt).1=nk at *;cases d with|true=>{go_wp2_with fail;go_quiet (fail);go_wp2;go_roundw;(case rel=>exact⟨q+1,true,rfl,by go_num,HF,hid ⟨hB.out.os,hB.out.tape,hB.out.output,hB.out.size,hB.out.block⟩⟩);case measure=>simp[intOf];omega}|false=>{go_wp2_with fail;go_quiet (fail);go_wp2;go_roundw;(case rel=>exact⟨q+1,b,rfl,by go_num,HF,hid ⟨hB.out.os,hB.out.tape,hB.out.output,hB.out.size,hB.out.block⟩⟩);case measure=>simp[intOf];omega}}
    ·obtain rfl:q=k:=by{omega};have HO1:Hid (aT w.heap.size 39 2 u5 done.length (cL done) w wr):=hO.out.keep (HWO.out▸hB.out);have HIF:=hid hD.out.iff;have HT1:=hid (HT.out.below HO1.out.bel dN);clear hqk hq;obtain⟨S,hS⟩:∃S:World->Prop,∀u,S u↔Below wr.heap.size wr u:=⟨_,fun _=>Iff.rfl⟩;have hgw:g<wr.heap.size:=Nat.lt_of_lt_of_le hgl HO1.out.bel.size;have z1:wr.cell? ⟨g,off+q*2,none⟩=some (.string (l[q]'hlt).1):=by{rw[HO1.out.bel.cell (p:=⟨g,off+q*2,none⟩) hgl];exact HGK.out.1};have z2:wr.cell? ⟨g,off+q*2+1,none⟩=some (.string (l[q]'hlt).2):=by{rw[HO1.out.bel.cell (p:=⟨g,off+q*2+1,none⟩) hgl];exact HGK.out.2};have f1:∀s:WIn S,s.w.cell? ⟨g,off+q*2,none⟩=some (.string (l[q]'hlt).1):=fun s=>by{rw[((hS _).1 s.h).cell (p:=⟨g,off+q*2,none⟩) hgw];exact z1};have f2:∀s:WIn S,s.w.cell? ⟨g,off+q*2+1,none⟩=some (.string (l[q]'hlt).2):=fun s=>by{rw[((hS _).1 s.h).cell (p:=⟨g,off+q*2+1,none⟩) hgw];exact z2};haveI:Nonempty (WIn S):=⟨⟨wr,(hS _).2 (Below.refl _ _)⟩⟩;have HSS:=hid hS;have HC1:Hid (∀w',Below wr.heap.size wr w'->w'.cell? ⟨g,off+q*2,none⟩=some (.string (l[q]'hlt).1)):=fun w' hb=>by{rw[hb.cell (p:=⟨g,off+q*2,none⟩) hgw];exact z1};have HVV:=hid (hV.out _ _ HSZ.out.1 HSZ.out.2);obtain⟨nk,hnk⟩:∃nk,(l[q]'hlt).1=nk:=⟨_,rfl⟩;obtain⟨vk,hvk⟩:∃vk,(l[q]'hlt).2=vk:=⟨_,rfl⟩;have HNK:=hid hnk;have HVK:=hid hvk;rw[hnk]at f1 z1 HC1 HVV;rw[hvk]at f2 z2 HVV;clear hS z1 z2 hnk hvk hB;go_wp2_with fail;refine dI 16 [([0,1,2,3,4,5,6,7,8,9,10],11)] [12,13,14,15] S (by kernel_rfl) (by kernel_rfl) ((HSS.out _).2 (below_drewNm wr 1)) ?_;refine bE (fun K' hK'=>?_);simp only[pick,pickZ,pickS,pickG];(repeat (go_big_quiet_step (fail)));refine wpQuiet_nil (hK' _ (fun Q1 hQ1=>?_));clear hK' K';simp only[pick,pickZ,pickS,pickG];go_wp2_with fail
     have hBd:=below_drewNm wr 1;refine(HVV.out _ (HT1.out.below hBd dN)).mono ?_;rintro x W4 ⟨rfl,B4⟩;have hB4:Below wr.heap.size wr W4:=hBd.trans (B4.mono hBd.size);have HB4:=hid hB4;have HO4:=hid (HO1.out.keep hB4);have d1:W4.cell? ⟨g,off+q*2,none⟩=some (.string nk):=HC1.out _ hB4;clear hBd B4 hB4 f1 f2;cases hv:V nk vk with
     | none =>
      have HF:=hid (HNO.out (by rw[HNK.out,HVK.out];exact hv));unfold kD;clear hv;go_wp2_with fail
      refine hQ1 _ _ ((HSS.out _).2 HB4.out) (dP (fun K' hK'=>?_));simp only[pick,pickZ,pickS,pickG];repeat (go_big_quiet_step (fail))
      refine wpQuiet_nil (hK' _ (fun Q4 hQ4=>?_));clear hQ1 Q1 hK' K';simp only[List.drop_succ_cons,List.drop_zero];cases d;all_goals
       go_wp2
       go_roundw
       case rel=>exact⟨q+1,done,by go_num,HF,HO4⟩
       case measure=>simp[intOf];omega
     | some t =>
      unfold kD;go_wp2_with fail
      refine hQ1 _ _ ((HSS.out _).2 HB4.out) (dP (fun K' hK'=>?_));simp only[pick,pickZ,pickS,pickG];repeat (go_big_quiet_step (fail))
      refine wpQuiet_nil (hK' _ (fun Q4 hQ4=>?_));clear hQ1 Q1 hK' K';simp only[List.drop_succ_cons,List.drop_zero];have HVT:=hid hv;clear hv;cases d with
      | true =>
       have HF:=hid (HOLD.out (by
        obtain⟨j,hj,e⟩:=HIF.out.1 rfl;exact⟨j,hj,e⟩))
       go_wp2
       go_roundw
       case rel=>exact⟨q+1,done,by go_num,HF,HO4⟩
       case measure=>simp[intOf];omega
      | false =>
       have HY2:=hid (HYES.out t (fun j hj e=>by
        have:=HIF.out.2 ⟨j,hj,e⟩;cases this) (by rw[HNK.out,HVK.out];exact HVT.out))
       rw[HNK.out]at HY2
       clear HIF HYES HNO HOLD HS0;have hd0:done.length<=1048576:=by omega
       obtain⟨a5,c5,rfl,_⟩:=HO4.out.slice;go_upto_block 4 with fail
       go_cut [11] (fun x wx=>∃p:Nat,x=.int .i64 p/\Hid (rY done nk p)/\Hid (∀h0:0<p,∀h:p-1<done.length,¬Lib.compareBytes nk.data.toList (done[p-1]).1.data.toList<0)/\Hid (Below W4.heap.size W4 wx))
       case first =>
        go_wp2_with fail
        go_loopw [11] (fun x wx=>∃p:Nat,x=.int .i64 p/\Hid (rY done nk p)/\Hid (Below W4.heap.size W4 wx)) (fun x _=>(intOf x).toNat)
        case atStart=>exact⟨done.length,rfl,hid (rY.start done nk),hid (Below.refl _ _)⟩
        case round =>
         obtain⟨p,rfl,hP,hB5⟩:=hrel;have hpl:=hP.out.le;have d2:wr.cell? ⟨g,off+q*2,none⟩=some (.string nk):=by rw[hB5.out.cell (p:=⟨g,off+q*2,none⟩) (Nat.lt_of_lt_of_le hgl HO4.out.bel.size)];exact d1
         cases p with
         | zero =>
          go_wp2_with fail
          go_quiet (fail)
          go_wp2_with fail
          go_meet
          case rel=>exact⟨0,rfl,hP,hid (fun h0=>absurd h0 (by omega)),hid ⟨hB5.out.os,hB5.out.tape,hB5.out.output,hB5.out.size,hB5.out.block⟩⟩
         | succ m =>
          have hml:m<done.length:=by omega
          obtain⟨g1,c1,hv5,y1,_⟩:=(HO4.out.keep hB5.out).attr m _ (List.getElem?_eq_getElem hml);simp only[Value.slice.injEq,true_and]at hv5;obtain⟨rfl,rfl⟩:=hv5;have HPN:=hid (hP.out.next hml);have HLE:=hid (aI9 nk (done[m]).1);generalize hdn:(done[m]).1=dn at *
          have HDN:=hid hdn;have e0:decide ((0:Int)<((m:Nat):Int)+1)=true:=decide_eq_true (by omega);have hmb:m<=1048576:=by omega
          clear hdn hK hdl hd0;rcases HLE.out with⟨hc,f1,f2⟩|⟨hc,f1,f2⟩|⟨hc,f1,f2⟩
          ·have HF:=hid (HPN.out hc);clear hc;go_wp2_with fail
           go_quiet (fail)
           go_wp2
           go_roundw
           case rel=>exact⟨m,by go_num,HF,hid ⟨hB5.out.os,hB5.out.tape,hB5.out.output,hB5.out.size,hB5.out.block⟩⟩
           case measure=>simp[intOf]
          ·have HF:=hid hc;clear hc;go_wp2_with fail
           go_quiet (fail)
           go_wp2_with fail
           go_meet
           case rel=>exact⟨m+1,by go_num,hP,hid (fun _ h=>by
            have e:(done[m+1-1]'h)=done[m]'hml:=by simp
            rw[e,HDN.out];exact HF.out),hid ⟨hB5.out.os,hB5.out.tape,hB5.out.output,hB5.out.size,hB5.out.block⟩⟩
          ·have HF:=hid hc;clear hc;go_wp2_with fail
           go_quiet (fail)
           go_wp2_with fail
           go_meet
           case rel=>exact⟨m+1,by go_num,hP,hid (fun _ h=>by
            have e:(done[m+1-1]'h)=done[m]'hml:=by simp
            rw[e,HDN.out];exact HF.out),hid ⟨hB5.out.os,hB5.out.tape,hB5.out.output,hB5.out.size,hB5.out.block⟩⟩
       case rest =>
        obtain⟨p,rfl,hP,hPN,hB5⟩:=hcut;have HO5:=hid (HO4.out.keep hB5.out);have hpl:=hP.out.le;have HFIN:=hid (HY2.out p hpl (fun j hj h=>hP.out.hi j hj h) (fun h0=>by have:=hPN.out h0 (by omega);omega));clear d1;go_wp2_with (at_builtin;refine bY (by rfl) _ _ 33 (by rfl) 39 i39 (.agg #[.string ⟨#[]⟩,.string ⟨#[]⟩]) 2 32 Tryz.underlying33 hi39 hz39 hs39 hb39 rfl (by decide) _ _ _ rfl HO5.out #[.string ⟨#[]⟩,.string ⟨#[]⟩] rfl rfl rfl rfl (by omega) (by omega) ?_)
        intro v6 W6 hO6 hG6;have HO6:Hid (aT w.heap.size 39 2 v6 (done.length+1) (cL (gR done done.length (⟨#[]⟩,⟨#[]⟩))) w W6):=hO6.out.cast rfl (by rw[aF5,sL];rfl);clear hO6 hG6;obtain⟨g1,c1,rfl,_⟩:=HO6.out.atRow (by omega);go_wp2_with fail
        go_loopw [12] (fun x wx=>∃(m:Nat) (y:AT),x=.int .i64 m/\p<=m/\m<=done.length/\Hid (aT w.heap.size 39 2 (.slice (some ⟨g1,0,none⟩) (done.length+1) c1) (done.length+1) (cL (gR done m y)) w wx)) (fun x _=>(intOf x).toNat)
        case atStart=>exact⟨done.length,_,by go_num,hpl,Nat.le_refl _,HO6⟩
        case round =>
         obtain⟨m,y,rfl,hpm,hmd,hO7⟩:=hrel;rcases Nat.lt_or_ge p m with hlt2|hge2
         ·obtain⟨r,rfl⟩:∃r,m=r+1:=⟨m-1,by omega⟩
          have hr:r<done.length:=by omega
          obtain⟨g2,c2,hv7,y1,y2⟩:=hO7.out.attr r _ (aKj done r y hr);simp only[Value.slice.injEq,Option.some.injEq,Addr.mk.injEq,true_and,and_true]at hv7;obtain⟨rfl,rfl⟩:=hv7;have HTH:=hid (hO7.out.there ((r+1)*2) 2 (by rw[iJ,yP done _ _ hmd];omega));have hO8:=hO7.out.setCells [.string done[r].1,.string done[r].2] _ ((r+1)*2) _;rw[aBU done (r+1) y done[r] hmd,aHX done r hr]at hO8
          have HO8:=hid hO8;have HSH:=hid (show ∃z,z=done[r]from⟨_,rfl⟩);clear hO8 hO7;obtain⟨z,hz⟩:=HSH.out;rw[<-hz]at y1 y2 HO8
          clear hz HSH;go_wp2_with (refine wpList_store_mid (by rfl) 39 (.tmp 97) (.tmp 96) rfl g1 ((r+1)*2) #[.string z.1,.string z.2] rfl rfl HTH.out (by rw[hi39];simp[hs39]) (by simp[Value.oneCell']) ?_)
          go_roundw
          case rel=>exact⟨r,z,by go_num,by omega,by omega,HO8⟩
          case measure=>simp[intOf]
         ·obtain rfl:m=p:=by omega
          have y1:wr.cell? ⟨g,off+q*2,none⟩=some (.string nk):=by rw[hO7.out.bel.cell (p:=⟨g,off+q*2,none⟩) hgl,<-HNK.out];exact HGK.out.1
          have HTH:=hid (hO7.out.there (m*2) 2 (by rw[iJ,yP done _ _ hmd];omega));have hO8:=hO7.out.setCells [.string nk,.string t] _ (m*2) _;rw[aBU done m y (nk,t) hmd]at hO8
          have HO8:=hid (hO8.cast (yP done m (nk,t) hmd).symm rfl);clear hO8 hO7;go_wp2_with (refine wpList_store_mid (by rfl) 39 (.tmp 107) (.tmp 106) rfl g1 (m*2) #[.string nk,.string t] rfl rfl HTH.out (by rw[hi39];simp[hs39]) (by simp[Value.oneCell']) ?_)
          go_roundw
          case rel=>exact⟨q+1,gR done m (nk,t),by go_num,HFIN,HO8⟩
          case measure=>simp[intOf];omega
  {have HR:=hid (hK.out.done hge);go_wp2;go_ret;exact⟨_,done,rfl,HR.out,hO.out⟩}
open Go.RowKit
open Go.RowKit
open Go.RowKit
theorem aFi:∀a b:List Nd,aG (a++b)=aG a+aG b:=by
 intro a;induction a with|nil=>{intro b;have h:aG []=0:=by{unfold aG;rfl};rw[List.nil_append,h,Nat.zero_add]}|cons x a ih=>{intro b;have h:∀l,aG (x :: l)=x.sz+aG l:=fun l=>by{conv=>lhs;unfold aG};rw[List.cons_append,h,h,ih];omega}
theorem aDd (x:Nd):aG [x]=x.sz:=by
 have h:aG []=0:=by{unfold aG;rfl};have h1:aG [x]=x.sz+aG []:=by{conv=>lhs;unfold aG};omega
theorem aBj:pR.bk<=1000:=by decide +kernel
theorem aMW (nm:ByteArray)(at':List AT)(ks:List Nd)(h:nm.size<=1048576)(h1:at'.length<=1048576)(h2:∀x∈at',x.1.size<=1048576/\x.2.size<=1048576)(hk:SmK ks):SmN (.mk 1 0 nm at' ⟨#[]⟩ ks) :=
 (aGP _).2 ⟨h,by show(⟨#[]⟩:ByteArray).size<=_;decide,h1,h2,hk⟩
theorem aQh (x y:Nd)(hx:SmN x)(hy:SmN y)(hz:x.sz+y.sz<=900000):(xF [x,y]).sz<=1000000/\SmN (xF [x,y]):=by
 refine⟨?_,aMW _ _ _ (by decide) (by simp) (fun _ h=>by simp at h) ((aAN _ _).2 ⟨hx,(aAN _ _).2 ⟨hy,aGO⟩⟩)⟩;rw[gJ];show 1+aG ([x]++[y])<=_;rw[aFi,aDd,aDd];omega
theorem aRi (w0:World)(T0:aA w0):∃VV:fY,aG0 VV:=by
 have h:∀x:ByteArray × ByteArray × ByteArray,∃o:Option ByteArray,x.2.2.size<=1048576->mC x.1 x.2.1 x.2.2 o:=by{intro x;by_cases hx:x.2.2.size<=1048576;{obtain⟨o,ho⟩:=aKF w0 T0 x.1 x.2.1 x.2.2 hx;exact⟨o,fun _=>ho⟩};{exact⟨none,fun hy=>absurd hy hx⟩}};obtain⟨f,hf⟩:=Classical.axiomOfChoice h;exact⟨fun e n v=>f (e,n,v),fun e n v _ _ hv=>hf (e,n,v) hv⟩
open Go.RowKit
theorem aJX (w:World)(T:aA w)(VV:fY)(hV:aG0 VV):aAl VV:=fun nm at' h1 h2 h3 v W TW hv =>
 aHG nm (VV nm) (hid (fun n v hn hv W TW=>aHR w T nm n v (VV nm n v) hv hn h1 (hV nm n v h1 hn hv) W TW)) at' h2 (hid h3) v W TW (hid hv)
theorem aNM (n:Nd)(nv:Value)(ks:List Nd)(ka:Option Addr)(kc:Nat)(hb:n.bk+fM ks<=1048576)(W:World)(T:aA W)(hN:aQ W n nv)(hK:bD W ka 0 ks) :
  Calls Tryz.prog 11 #[nv,.slice ka ks.length kc] W (aB true W):=by
 obtain⟨VV,hV⟩:=aRi W T;have hRA:=aJX W T VV hV;have hz:aG ks<=524288:=by{have:=aG6.2 ks;omega};have hnz:n.sz<=1000000:=by{have:=aG6.1 n;omega};have hsn:=aG5.1 n (by omega);have hsk:=aG5.2 ks (by omega);have hhm:=aG5.1 pR (by have:=aBj;omega);have hhz:pR.sz<=500:=by{have:=aG6.1 pR;have:=aBj;omega};have hym:SmN (uC ks):=aMW _ _ _ (by decide) (by simp) (fun _ h=>by simp at h) hsk;have hyz:(uC ks).sz=1+aG ks:=gJ _;have hok:=aQh pR (uC ks) hhm hym (by omega);have hlen:=aCH ks;have pick:∀x:Nd,∃r:Bool,r=true↔nG VV x:=fun x=>by{by_cases h:nG VV x;{exact⟨true,fun _=>h,fun _=>rfl⟩};{exact⟨false,⟨fun e=>(by cases e),fun e=>absurd e h⟩⟩}};obtain⟨r,hr⟩:=pick n;obtain⟨q,hq⟩:=pick (uJ ks);have tab:∀V,Below W.heap.size W V->aA V:=fun V h=>T.below h dN
 exact aLD n nv ks ka kc W (by omega) r q (hid hN) (hid hK) (hid fun V h=>aOz V (tab V h))
  (hid fun V u h hu=>aCS VV (hid hV) n hnz u r V (hid (tab V h)) (hid hsn) (hid hu) (hid hr))
  (hid fun V u h hu=>aBI VV (hid hRA) n hnz u r V (hid (tab V h)) (hid hsn) (hid hu) (hid hr))
  (hid fun V u h hu=>aCS VV (hid hV) (uJ ks) hok.1 u q V (hid (tab V h)) (hid hok.2) (hid hu) (hid hq))
  (hid fun V u h hu=>aBI VV (hid hRA) (uJ ks) hok.1 u q V (hid (tab V h)) (hid hok.2) (hid hu) (hid hq))
