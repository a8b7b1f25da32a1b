/-
CleanSame at every argument that holds at most 1048576 values and letters.
-/
import Derived.Test.YtcfgbdhpcboikaaGreatDoorCSameW
namespace Go.Proofs.YtcfgbdhpcboikaaGreatDoor
open Go.Lib (hid)
open Go.RowKit
theorem aFp (ks:List Nd)(t:ByteArray)(hk:SmK ks)(hb:eN ks+t.size≤1048576):SmN (elN jU [bG t,elN bT ks])∧(elN jU [bG t,elN bT ks]).tk≤7000000:=by
 obtain⟨c1,c2,_⟩:=wY t (by omega);have h1:=aF6.2 ks;refine⟨aAa (by decide) ((iD _ _).2 ⟨aAa (by decide) c1,(iD _ _).2 ⟨aAa (by decide) hk,lD⟩⟩),?_⟩;have e1:(bG t).tk=1+bI (bG t).kids:=by
  show(elN dD (bG t).kids).tk=_;rw[aAb]
 rw[aAb,cP,rJ,aAb,e1];omega
theorem aGF (n:Nd)(nv:Value)(ks:List Nd)(ka:Option Addr)(kc:Nat)(t:ByteArray)(hb:n.bk+eN ks+t.size≤1048576)(W:World)(T:aB W)(hN:aG W n nv)(hK:aI W ka 0 ks) :
  Calls Tryz.prog 18 #[nv,.slice ka ks.length kc,.string t] W (bA true W):=by
 obtain⟨VV,A,hV,hA,hO,_⟩:=aGt W T;have hp:=aFp ks t (wS.2 ks (by omega)) (by omega);have hl:=aBF ks;have hs:∀x,x=n∨x=elN jU [bG t,elN bT ks]→SmN x∧x.tk≤7000000∧x.sz≤1000000:=by
  intro x hx;rcases hx with rfl|rfl
  ·exact⟨wS.1 _ (by omega),by have:=aF6.1 x;omega,by have:=aJ7.1 x;omega⟩
  ·refine⟨hp.1,hp.2,?_⟩;obtain⟨_,c2,c3⟩:=wY t (by omega);have h1:=aJ7.2 ks;have h2:aC (bG t).kids≤3:=by
    unfold bG;split
    ·decide +kernel
    ·show aC [eC,elN aX [aL t]]≤3;rw[dX,dX,iA,cJ,cJ];show 1+aC []+(1+aC [aL t]+0)≤3;rw[dX,iA,cJ];show 1+0+(1+(1+aC []+0)+0)≤3;rw[iA];omega
   rw[cJ];show 1+aC [bG t,elN bT ks]≤_;rw[dX,dX,iA,cJ,cJ];show 1+(1+aC (bG t).kids+(1+aC ks+0))≤_;omega
 exact aFq n nv ks ka kc t W (by omega) (fun x=>@decide (rB VV x) (Classical.propDecidable _)) (hid hN) (hid hK)
  (hid fun V h=>aLt A (hid hO) (aKr hA) V (hid (T.below h (Nat.le_refl _))))
  (hid fun x hx V u h hu=>aG3 VV (hid hV) x (hs x hx).2.2 u _ V (hid (T.below h (Nat.le_refl _))) (hid (hs x hx).1) hu (hid ⟨fun h=>@of_decide_eq_true _ (Classical.propDecidable _) h,fun h=>@decide_eq_true _ (Classical.propDecidable _) h⟩))
  (hid fun x hx hB=>by
   have hh:=@of_decide_eq_true _ (Classical.propDecidable _) hB;obtain⟨h1,h2,h3⟩:=aFo VV A hA x hh;refine⟨h3,h2,fun V u h hu=>?_⟩;have:=aGC A (hid hO) x u V (hs x hx).2.1 (hid (T.below h (Nat.le_refl _))) (hid (hs x hx).1) hu;rw[h1]at this
   exact this)
  (hid fun x hx V u u' h h'=>aME x.sz _ (Nat.le_refl _) u u' V (hid (hs x hx).1) h h')
