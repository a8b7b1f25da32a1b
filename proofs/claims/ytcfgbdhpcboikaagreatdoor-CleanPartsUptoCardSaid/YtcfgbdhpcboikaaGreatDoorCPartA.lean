/-
  CleanParts at every argument that holds at most 1048576 values and letters.
-/
import Derived.Test.YtcfgbdhpcboikaaGreatDoorSieveM
import Derived.Test.YtcfgbdhpcboikaaGreatDoorCPartW
import Derived.Test.YtcfgbdhpcboikaaGreatDoorTEW
namespace Go.Proofs.YtcfgbdhpcboikaaGreatDoor
open Go.RowKit
theorem br_sm:SmK [elN sBr []]:=(smK_cons _ _).2 ⟨elN_sm (by decide) smK_nil,smK_nil⟩
theorem br_tk:tkAll [elN sBr []]=1:=by
 rw[tkAll_one,elN_tk]
 have:tkAll []=0:=by unfold tkAll;rfl
 omega
theorem cpart_all (pn:ByteArray)(la lb:List Nd)(a b:Option Addr)(ca cb:Nat)(hb:bkAll la+bkAll lb≤1048576)(W:World)(T:Tabs W)(hKa:KidsV W a 0 la)(hKb:KidsV W b 0 lb) :
  Calls Tryz.prog 14 #[.string pn,.slice a la.length ca,.slice b lb.length cb] W (SomeBool true W):=by
 obtain⟨VV,A,hV,hA,hO,_⟩:=attrs_fam W T
 have hsa:=bk_sm.2 la (by omega)
 have hsb:=bk_sm.2 lb (by omega)
 have hla:=bkAll_len la
 have hlb:=bkAll_len lb
 have hta:=tk_bk.2 la
 have htb:=tk_bk.2 lb
 have hRa:=filter_sm hA hV pn [] hsa (by omega)
 have hRb:=filter_sm hA hV pn [] hsb (by omega)
 have hna:=filter_len A pn [] (l:=la) (by omega)
 have hnb:=filter_len A pn [] (l:=lb) (by omega)
 have hsl:SmK (la++[elN sBr []]++lb):=by rw[smK_append2,smK_append2];exact⟨⟨hsa,br_sm⟩,hsb⟩
 have hbl:tkAll (la++[elN sBr []]++lb)≤9000000:=by rw[tkAll_app,tkAll_app,br_tk];omega
 have hsr:SmK (filterN A pn [] la++[elN sBr []]++filterN A pn [] lb):=by rw[smK_append2,smK_append2];exact⟨⟨hRa,br_sm⟩,hRb⟩
 have hF:∀ (l:List Nd),SmK l→tkAll l≤9000000→∀ V a c,Below W.heap.size W V→Hid (KidsV V a 0 l)→Calls Tryz.prog 50 #[.string pn,.slice a l.length c] V (FilRet V (filterN A pn [] l)) :=
  fun l h1 h2 V a c h hk=>cfilter_gen A (Lib.hid hO) l pn V a c (Lib.hid (T.below h (Nat.le_refl _))) (Lib.hid h1) h2 hk
 exact cpart_walk pn la lb a b ca cb W (by omega) (by omega) (filterN A pn [] la) (filterN A pn [] lb) hna hnb _ (Lib.hid rfl) (Lib.hid hKa) (Lib.hid hKb)
  (Lib.hid fun V h=>shown19 A (Lib.hid hO) (aok_nil hA) V (Lib.hid (T.below h (Nat.le_refl _))))
  (Lib.hid (hF la hsa (by omega))) (Lib.hid (hF lb hsb (by omega)))
  (Lib.hid fun hm V a c h hk=>by have:=hF _ hsl hbl V a c h hk;rw[filter_parts A (aok_nil hA sBr) pn [] la lb hm] at this;exact this)
  (Lib.hid fun V a a' c c' h h'=>same_any _ a a' c c' V (by simp only[List.length_append,List.length_singleton];omega) (Lib.hid hsr) h h')
end Go.Proofs.YtcfgbdhpcboikaaGreatDoor
