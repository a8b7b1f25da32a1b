/-
PolicyValues, for every element, name, value and attributes that hold at most 1048576 values and letters: an attribute may be, and has its one form, or it may not.
Conditions: the arguments hold at most 1048576 values and letters; the listed tables of Go's library read as its text lays them (the card ties them).
-/
import Derived.Test.YtcfgbdhpcboikaaGreatDoorValW
import Derived.Test.YtcfgbdhpcboikaaGreatDoorValUJ
import Derived.Test.YtcfgbdhpcboikaaGreatDoorValUK
namespace Go.Proofs.YtcfgbdhpcboikaaGreatDoor.policyValuesUpto
set_option maxRecDepth 100000
open Go.ChangeMaps (open_string)
open Go.ChangeShapes Go.WideShapes Go.ChangeAt Go.RowKit
theorem lifted (os:Os)(started:os.Started)(H:Type)(enc:TypeId × Value→H)(F:Stop.Interp) :
  ReturnsInHanded {} Tryz.checked os 10 .any (fun w args=>((Rows.OpenSpec.upto Rows.policyValuesSpec).pre enc Tryz.prog Tryz.f10 [] false w args∧laidMetH Tryz.prog kZ w)∧sizedMet enc Tryz.prog Tryz.f10 (Rows.OpenSpec.upto Rows.policyValuesSpec) false w args)
   (((Rows.OpenSpec.upto Rows.policyValuesSpec).at F).post enc Tryz.prog Tryz.f10 false true false false):=by
 refine aHK (C:=Tryz.checked) (X:=fun w _=>laidMetH Tryz.prog kZ w) (fun _ _ _ hh h=>h.of_heap hh) own started (by kernel_rfl) Tryz.func10
  (World.laidAll Tryz.prog os kZ) #[.string ByteArray.empty,.string ByteArray.empty,.string ByteArray.empty,.slice none 0 0] 8 (World.laidAll_os _ _ _)
  (World.shaped_of_ZipB (by kernel_rfl) (by kernel_rfl)) (by kernel_rfl) (by kernel_rfl) (by kernel_rfl)
  (by rw[MakeChecks.laidMetH_plain _ _ _ (by kernel_rfl)];exact laidMet_laidAll _ (by kernel_rfl) (by kernel_rfl)) ?_ F
 intro W base args ds gs before hval0 hW hbulk hL hS;have hval:∀(j:Nat) t v,Tryz.f10.params[j]?=some t→args[j]?=some v→Value.okWide Tryz.prog W .any base t v:=hval0;have hW':=hW;obtain⟨p,q,hA0,hV,rfl,hfz,hnd⟩:=hW;have hA:DataW.TrodAll enc Tryz.prog W 0 (fun _=>true) true Tryz.f10.params.toList args.toList ds p:=hA0;rw[Tryz.params10]at hA hval
 obtain⟨v0,vs0,d0,ds0,p0,q0,hargs,rfl,rfl,h0,r0⟩:=trodAll_cons hA;obtain⟨v1,vs1,d1,ds1,p1,q1,rfl,rfl,rfl,h1,r1⟩:=trodAll_cons r0;obtain⟨v2,vs2,d2,ds2,p2,q2,rfl,rfl,rfl,h2,r2⟩:=trodAll_cons r1;obtain⟨v3,vs3,d3,ds3,p3,q3,rfl,rfl,rfl,h3,r3⟩:=trodAll_cons r2;obtain⟨rfl,rfl,rfl⟩:=trodAll_nil r3;obtain rfl:args=#[v0,v1,v2,v3]:=by cases args;simp_all
 obtain⟨rfl,rfl⟩:=trodVars_none hV;have k0:=h0;have lt0:∀x∈p0,x.block<W.heap.size:=by obtain⟨m,hm⟩:=k0;exact DataW.trod_lt m _ _ _ hm
 have k1:=h1;have lt1:∀x∈p1,x.block<W.heap.size:=by obtain⟨m,hm⟩:=k1;exact DataW.trod_lt m _ _ _ hm
 have k2:=h2;have lt2:∀x∈p2,x.block<W.heap.size:=by obtain⟨m,hm⟩:=k2;exact DataW.trod_lt m _ _ _ hm
 have k3:=h3;have lt3:∀x∈p3,x.block<W.heap.size:=by obtain⟨m,hm⟩:=k3;exact DataW.trod_lt m _ _ _ hm
 have hbk:Rows.uptoBulk d0+Rows.uptoBulk d1+Rows.uptoBulk d2+Rows.uptoBulk d3≤1048576:=by
  have h:Rows.uptoBulkAll _≤1048576:=hbulk;simp only[List.append_nil,Rows.uptoBulkAll]at h;omega
 obtain⟨s0,rfl,hd0,_,m0⟩:=open_string Tryz.underlying9 (hval 0 9 v0 rfl rfl) h0;have b0:s0.size≤Rows.uptoBulk d0:=by rw[hd0];simp only[Rows.uptoBulk,qF];omega
 obtain⟨s1,rfl,hd1,_,m1⟩:=open_string Tryz.underlying9 (hval 1 9 v1 rfl rfl) h1;have b1:s1.size≤Rows.uptoBulk d1:=by rw[hd1];simp only[Rows.uptoBulk,qF];omega
 obtain⟨s2,rfl,hd2,_,m2⟩:=open_string Tryz.underlying9 (hval 2 9 v2 rfl rfl) h2;have b2:s2.size≤Rows.uptoBulk d2:=by rw[hd2];simp only[Rows.uptoBulk,qF];omega
 obtain⟨a3,len3,cap3,rfl⟩:=okWide_slice Tryz.underlying33 (hval 3 33 v3 rfl rfl);obtain⟨l3,ha3,hl3,b3⟩:=aGU h3;subst hl3;clear hA0 hval0;simp only[List.append_nil]at hW';have walk:=aGC s0 s1 s2 a3 cap3 l3 (by omega) (by omega) (by omega) (by omega) W (aMw hL hS) ha3;refine walk.mono fun e W' ⟨he,hb⟩=>?_
 subst he;exact⟨_,rfl,_,_,_,[],_,[],hW',trodAll_mk1 (shut_bool Tryz.underlying4 _),(trodAll_cons_mk (Below.trod j1 (by kernel_rfl) (of_decide_eq_true (by kernel_rfl)) k0 hb lt0) (trodAll_cons_mk (Below.trod j1 (by kernel_rfl) (of_decide_eq_true (by kernel_rfl)) k1 hb lt1) (trodAll_cons_mk (Below.trod j1 (by kernel_rfl) (of_decide_eq_true (by kernel_rfl)) k2 hb lt2) (trodAll_cons_mk (Below.trod j1 (by kernel_rfl) (of_decide_eq_true (by kernel_rfl)) k3 hb lt3) trodAll_mk0)))),rfl,hb.frame _,fun h=>by cases h⟩
theorem over:Rows.policyValuesUptoRow.holds Tryz.pinned (Rows.OpenSpec.upto Rows.policyValuesSpec) :=
 OpenClaim.holds_of_cond 10 Tryz.f10 rfl rfl rfl rfl rfl rfl rfl ⟨rfl,rfl,rfl,rfl,rfl⟩ rfl rfl rfl rfl rfl (by as_aux_lemma=>kernel_rfl) Tryz.func10 joined
  (of_decide_eq_true (by kernel_rfl)) (by unfold Func.isWrapper;first|(rw[if_pos (by decide +kernel)];kernel_rfl)|(rw[if_neg (by decide +kernel)];exact⟨rfl,rfl⟩))
  (fun os started H enc _ F=>lifted os started H enc F)
theorem proved:Rows.PolicyValuesUptoCardSaid :=
 Claim7.holds_tied_plain_at .later [] [.data,.data,.widerDeep,.widerDeep,.data,.data,.data,.data,.data,.data,.sentinel,.sentinel,.pinned,.pinned,.pinned] true (true,"794cf9c63e193e357b2310650565b2ed9be5052e667bbc52b7b459b6647c08dc") true
  over (fun _ h=>by cases h) k1 (fun _ h=>by cases h) policyValuesUpto_row_tie rfl ⟨rfl,rfl⟩ k2 rfl
  (fun f fn hf hfn=>by
   obtain rfl:f=10:=Option.some.inj (k5.symm.trans hf) |>.symm
   obtain rfl:fn=Tryz.f10:=(Option.some.inj (Tryz.func10.symm.trans hfn)).symm;exact⟨k3,fun j t ht=>by
    rw[Tryz.params10]at ht
    have hm:t∈[9,9,9,33]:=by simpa using Array.mem_of_getElem? ht
    exact(show Tryz.prog.wantsStandIn t=false by simpa using List.all_eq_true.1 k6 t hm)⟩)
  k4
#print axioms proved
end Go.Proofs.YtcfgbdhpcboikaaGreatDoor.policyValuesUpto
