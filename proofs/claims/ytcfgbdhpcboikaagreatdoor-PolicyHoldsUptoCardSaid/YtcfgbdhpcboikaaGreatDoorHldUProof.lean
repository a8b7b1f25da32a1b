/-
PolicyHolds, for every node and kids that hold at most 1048576 values and letters: a tree is a page that may be, or it is none.
Conditions: the arguments hold at most 1048576 values and letters; the listed tables of Go's library read as its text lays them (the card ties them).
-/
import Derived.Test.YtcfgbdhpcboikaaGreatDoorHldW
import Derived.Test.YtcfgbdhpcboikaaGreatDoorHldUJ
import Derived.Test.YtcfgbdhpcboikaaGreatDoorHldUK
namespace Go.Proofs.YtcfgbdhpcboikaaGreatDoor.policyHoldsUpto
set_option maxRecDepth 100000
open Go.ChangeMaps (open_string)
open Go.ChangeShapes Go.WideShapes Go.ChangeAt Go.RowKit
theorem lifted (os:Os)(started:os.Started)(H:Type)(enc:TypeId × Value->H)(F:Stop.Interp) :
  ReturnsInHanded {} Tryz.checked os 11 .any (fun w args=>((Rows.OpenSpec.upto Rows.policyHoldsSpec).pre enc Tryz.prog Tryz.f11 [] false w args/\laidMetH Tryz.prog mW w)/\sizedMet enc Tryz.prog Tryz.f11 (Rows.OpenSpec.upto Rows.policyHoldsSpec) false w args)
   (((Rows.OpenSpec.upto Rows.policyHoldsSpec).at F).post enc Tryz.prog Tryz.f11 false true false false):=by
 refine aJr (C:=Tryz.checked) (X:=fun w _=>laidMetH Tryz.prog mW w) (fun _ _ _ hh h=>h.of_heap hh) own started (by kernel_rfl) Tryz.func11
  (World.laidAll Tryz.prog os mW) #[.agg #[.int .i64 0,.int .i64 0,.string ByteArray.empty,.slice none 0 0,.string ByteArray.empty,.slice none 0 0],.slice none 0 0] 8 (World.laidAll_os _ _ _)
  (World.shaped_of_ZipB (by kernel_rfl) (by kernel_rfl)) (by kernel_rfl) (by kernel_rfl) (by kernel_rfl)
  (by rw[MakeChecks.laidMetH_plain _ _ _ (by kernel_rfl)];exact laidMet_laidAll _ (by kernel_rfl) (by kernel_rfl)) ?_ F
 intro W base args ds gs before hval0 hW hbulk hL hS;have hval:∀(j:Nat) t v,Tryz.f11.params[j]?=some t->args[j]?=some v->Value.okWide Tryz.prog W .any base t v:=hval0;have hW':=hW;obtain⟨p,q,hA0,hV,rfl,hfz,hnd⟩:=hW;have hA:DataW.TrodAll enc Tryz.prog W 0 (fun _=>true) true Tryz.f11.params.toList args.toList ds p:=hA0;rw[Tryz.params11]at hA hval;obtain⟨v0,vs0,d0,ds0,p0,q0,hargs,rfl,rfl,h0,r0⟩:=trodAll_cons hA;obtain⟨v1,vs1,d1,ds1,p1,q1,rfl,rfl,rfl,h1,r1⟩:=trodAll_cons r0;obtain⟨rfl,rfl,rfl⟩:=trodAll_nil r1;obtain rfl:args=#[v0,v1]:=by{cases args;simp_all};obtain⟨rfl,rfl⟩:=trodVars_none hV;have k0:=h0;have lt0:∀x∈p0,x.block<W.heap.size:=by{obtain⟨m,hm⟩:=k0;exact DataW.trod_lt m _ _ _ hm};have k1:=h1;have lt1:∀x∈p1,x.block<W.heap.size:=by{obtain⟨m,hm⟩:=k1;exact DataW.trod_lt m _ _ _ hm};have hbk:Rows.uptoBulk d0+Rows.uptoBulk d1<=1048576:=by{have h:Rows.uptoBulkAll _<=1048576:=hbulk;simp only[List.append_nil,Rows.uptoBulkAll]at h;omega};obtain⟨cs0,rfl,_⟩:=okWide_struct Tryz.underlying45 (hval 0 45 v0 rfl rfl);obtain⟨n0,ha0,b0⟩:=aLV h0 (by omega);obtain⟨a1,len1,cap1,rfl⟩:=okWide_slice Tryz.underlying43 (hval 1 43 v1 rfl rfl);obtain⟨l1,ha1,hl1,b1⟩:=aLJ h1 (by omega);subst hl1;clear hA0 hval0;simp only[List.append_nil]at hW';have walk:=aNM n0 (.agg cs0) l1 a1 cap1 (by omega) W (aOH hL hS) ha0 ha1;refine walk.mono fun e W' ⟨he,hb⟩=>?_;subst he;exact⟨_,rfl,_,_,_,[],_,[],hW',trodAll_mk1 (shut_bool Tryz.underlying4 _),(trodAll_cons_mk (Below.trod j1 (by kernel_rfl) (of_decide_eq_true (by kernel_rfl)) k0 hb lt0) (trodAll_cons_mk (Below.trod j1 (by kernel_rfl) (of_decide_eq_true (by kernel_rfl)) k1 hb lt1) trodAll_mk0)),rfl,hb.frame _,fun h=>by cases h⟩
theorem over:Rows.policyHoldsUptoRow.holds Tryz.pinned (Rows.OpenSpec.upto Rows.policyHoldsSpec) :=
 OpenClaim.holds_of_cond 11 Tryz.f11 rfl rfl rfl rfl rfl rfl rfl ⟨rfl,rfl,rfl,rfl,rfl⟩ rfl rfl rfl rfl rfl (by as_aux_lemma=>kernel_rfl) Tryz.func11 joined
  (of_decide_eq_true (by kernel_rfl)) (by unfold Func.isWrapper;first|(rw[if_pos (by decide +kernel)];kernel_rfl)|(rw[if_neg (by decide +kernel)];exact⟨rfl,rfl⟩))
  (fun os started H enc _ F=>lifted os started H enc F)
theorem proved:Rows.PolicyHoldsUptoCardSaid :=
 Claim7.holds_tied_plain_at .later [] [.data,.data,.widerDeep,.widerDeep,.data,.data,.data,.data,.data,.data,.sentinel,.sentinel,.pinned,.pinned,.pinned] true (true,"794cf9c63e193e357b2310650565b2ed9be5052e667bbc52b7b459b6647c08dc") true
  over (fun _ h=>by cases h) k1 (fun _ h=>by cases h) policyHoldsUpto_row_tie rfl ⟨rfl,rfl⟩ k2 rfl
  (fun f fn hf hfn=>by
   obtain rfl:f=11:=Option.some.inj (k5.symm.trans hf) |>.symm
   obtain rfl:fn=Tryz.f11:=(Option.some.inj (Tryz.func11.symm.trans hfn)).symm;exact⟨k3,fun j t ht=>by
    rw[Tryz.params11]at ht
    have hm:t∈[45,43]:=by simpa using Array.mem_of_getElem? ht
    exact(show Tryz.prog.wantsStandIn t=false by simpa using List.all_eq_true.1 k6 t hm)⟩)
  k4
#print axioms proved
end Go.Proofs.YtcfgbdhpcboikaaGreatDoor.policyHoldsUpto
