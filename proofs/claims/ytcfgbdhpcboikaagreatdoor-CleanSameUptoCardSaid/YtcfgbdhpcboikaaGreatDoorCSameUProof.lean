/-
CleanSame, for every tree, kids and title that hold at most 1048576 values and letters: a page that may be is let through as it is.
Conditions: the arguments hold at most 1048576 values and letters; the listed tables of Go's library read as its text lays them (the card ties them).
-/
import Derived.Test.YtcfgbdhpcboikaaGreatDoorCSameA
import Derived.Test.YtcfgbdhpcboikaaGreatDoorCSameUJ
import Derived.Test.YtcfgbdhpcboikaaGreatDoorCSameUK
namespace Go.Proofs.YtcfgbdhpcboikaaGreatDoor.cleanSameUpto
set_option maxRecDepth 100000
open Go.ChangeMaps (open_string)
open Go.ChangeShapes Go.WideShapes Go.ChangeAt Go.RowKit
theorem lifted (os:Os)(started:os.Started)(H:Type)(enc:TypeId × Value→H)(F:Stop.Interp) :
  ReturnsInHanded {} Tryz.checked os 18 .any (fun w args=>((Rows.OpenSpec.upto Rows.cleanSameSpec).pre enc Tryz.prog Tryz.f18 [] false w args∧laidMetH Tryz.prog lY w)∧sizedMet enc Tryz.prog Tryz.f18 (Rows.OpenSpec.upto Rows.cleanSameSpec) false w args)
   (((Rows.OpenSpec.upto Rows.cleanSameSpec).at F).post enc Tryz.prog Tryz.f18 false true false false):=by
 refine aHb (C:=Tryz.checked) (X:=fun w _=>laidMetH Tryz.prog lY w) (fun _ _ _ hh h=>h.of_heap hh) own started (by kernel_rfl) Tryz.func18
  (World.laidAll Tryz.prog os lY) #[.agg #[.int .i64 0,.int .i64 0,.string ByteArray.empty,.slice none 0 0,.string ByteArray.empty,.slice none 0 0],.slice none 0 0,.string ByteArray.empty] 8 (World.laidAll_os _ _ _)
  (World.shaped_of_ZipB (by kernel_rfl) (by kernel_rfl)) (by kernel_rfl) (by kernel_rfl) (by kernel_rfl)
  (by rw[MakeChecks.laidMetH_plain _ _ _ (by kernel_rfl)];exact laidMet_laidAll _ (by kernel_rfl) (by kernel_rfl)) ?_ F
 intro W base args ds gs before hval0 hW hbulk hL hS;have hval:∀(j:Nat) t v,Tryz.f18.params[j]?=some t→args[j]?=some v→Value.okWide Tryz.prog W .any base t v:=hval0;have hW':=hW;obtain⟨p,q,hA0,hV,rfl,hfz,hnd⟩:=hW;have hA:DataW.TrodAll enc Tryz.prog W 0 (fun _=>true) true Tryz.f18.params.toList args.toList ds p:=hA0;rw[Tryz.params18]at hA hval
 obtain⟨v0,vs0,d0,ds0,p0,q0,hargs,rfl,rfl,h0,r0⟩:=trodAll_cons hA;obtain⟨v1,vs1,d1,ds1,p1,q1,rfl,rfl,rfl,h1,r1⟩:=trodAll_cons r0;obtain⟨v2,vs2,d2,ds2,p2,q2,rfl,rfl,rfl,h2,r2⟩:=trodAll_cons r1;obtain⟨rfl,rfl,rfl⟩:=trodAll_nil r2;obtain rfl:args=#[v0,v1,v2]:=by cases args;simp_all
 obtain⟨rfl,rfl⟩:=trodVars_none hV;have k0:=h0;have lt0:∀x∈p0,x.block<W.heap.size:=by obtain⟨m,hm⟩:=k0;exact DataW.trod_lt m _ _ _ hm
 have k1:=h1;have lt1:∀x∈p1,x.block<W.heap.size:=by obtain⟨m,hm⟩:=k1;exact DataW.trod_lt m _ _ _ hm
 have k2:=h2;have lt2:∀x∈p2,x.block<W.heap.size:=by obtain⟨m,hm⟩:=k2;exact DataW.trod_lt m _ _ _ hm
 have hbk:Rows.uptoBulk d0+Rows.uptoBulk d1+Rows.uptoBulk d2≤1048576:=by
  have h:Rows.uptoBulkAll _≤1048576:=hbulk;simp only[List.append_nil,Rows.uptoBulkAll]at h;omega
 obtain⟨cs0,rfl,_⟩:=okWide_struct Tryz.underlying45 (hval 0 45 v0 rfl rfl);obtain⟨n0,ha0,b0⟩:=aJt h0 (by omega);obtain⟨a1,len1,cap1,rfl⟩:=okWide_slice Tryz.underlying43 (hval 1 43 v1 rfl rfl);obtain⟨l1,ha1,hl1,b1⟩:=aJg h1 (by omega);subst hl1;obtain⟨s2,rfl,hd2,_,m2⟩:=open_string Tryz.underlying9 (hval 2 9 v2 rfl rfl) h2;have b2:s2.size≤Rows.uptoBulk d2:=by rw[hd2];simp only[Rows.uptoBulk,wD];omega
 clear hA0 hval0;simp only[List.append_nil]at hW';have walk:=aGF n0 (.agg cs0) l1 a1 cap1 s2 (by omega) W (aLu hL hS) ha0 ha1;refine walk.mono fun e W' ⟨he,hb⟩=>?_
 subst he;exact⟨_,rfl,_,_,_,[],_,[],hW',trodAll_mk1 (shut_bool Tryz.underlying4 _),(trodAll_cons_mk (Below.trod j1 (by kernel_rfl) (of_decide_eq_true (by kernel_rfl)) k0 hb lt0) (trodAll_cons_mk (Below.trod j1 (by kernel_rfl) (of_decide_eq_true (by kernel_rfl)) k1 hb lt1) (trodAll_cons_mk (Below.trod j1 (by kernel_rfl) (of_decide_eq_true (by kernel_rfl)) k2 hb lt2) trodAll_mk0))),rfl,hb.frame _,fun h=>by cases h⟩
theorem over:Rows.cleanSameUptoRow.holds Tryz.pinned (Rows.OpenSpec.upto Rows.cleanSameSpec) :=
 OpenClaim.holds_of_cond 18 Tryz.f18 rfl rfl rfl rfl rfl rfl rfl ⟨rfl,rfl,rfl,rfl,rfl⟩ rfl rfl rfl rfl rfl (by as_aux_lemma=>kernel_rfl) Tryz.func18 joined
  (of_decide_eq_true (by kernel_rfl)) (by unfold Func.isWrapper;first|(rw[if_pos (by decide +kernel)];kernel_rfl)|(rw[if_neg (by decide +kernel)];exact⟨rfl,rfl⟩))
  (fun os started H enc _ F=>lifted os started H enc F)
theorem proved:Rows.CleanSameUptoCardSaid :=
 Claim7.holds_tied_plain_at .later [] [.data,.data,.widerDeep,.widerDeep,.data,.data,.data,.data,.data,.data,.sentinel,.sentinel,.pinned,.pinned,.pinned] true (true,"794cf9c63e193e357b2310650565b2ed9be5052e667bbc52b7b459b6647c08dc") true
  over (fun _ h=>by cases h) k1 (fun _ h=>by cases h) cleanSameUpto_row_tie rfl ⟨rfl,rfl⟩ k2 rfl
  (fun f fn hf hfn=>by
   obtain rfl:f=18:=Option.some.inj (k5.symm.trans hf) |>.symm
   obtain rfl:fn=Tryz.f18:=(Option.some.inj (Tryz.func18.symm.trans hfn)).symm;exact⟨k3,fun j t ht=>by
    rw[Tryz.params18]at ht
    have hm:t∈[45,43,9]:=by simpa using Array.mem_of_getElem? ht
    exact(show Tryz.prog.wantsStandIn t=false by simpa using List.all_eq_true.1 k6 t hm)⟩)
  k4
#print axioms proved
end Go.Proofs.YtcfgbdhpcboikaaGreatDoor.cleanSameUpto
