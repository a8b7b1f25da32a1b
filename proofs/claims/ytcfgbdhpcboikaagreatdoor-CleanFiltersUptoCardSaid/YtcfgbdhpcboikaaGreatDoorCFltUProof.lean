/-
CleanFilters, for every element and nodes that hold at most 1048576 values and letters: in each element what may stand there is let through.
Conditions: the arguments hold at most 1048576 values and letters; the listed tables of Go's library read as its text lays them (the card ties them).
-/
import Derived.Test.YtcfgbdhpcboikaaGreatDoorCFilA
import Derived.Test.YtcfgbdhpcboikaaGreatDoorCFltUJ
import Derived.Test.YtcfgbdhpcboikaaGreatDoorCFltUK
namespace Go.Proofs.YtcfgbdhpcboikaaGreatDoor.cleanFiltersUpto
set_option maxRecDepth 100000
open Go.ChangeMaps (open_string)
open Go.ChangeShapes Go.WideShapes Go.ChangeAt Go.RowKit
theorem lifted (os:Os)(aa:os.Started)(u:Type)(enc:TypeId × Value->u)(F:Stop.Interp) :
  ReturnsInHanded {} Tryz.checked os 15 .any (fun w a=>((Rows.OpenSpec.upto Rows.cleanFiltersSpec).pre enc Tryz.prog Tryz.f15 [] false w a/\laidMetH Tryz.prog nI w)/\sizedMet enc Tryz.prog Tryz.f15 (Rows.OpenSpec.upto Rows.cleanFiltersSpec) false w a)
   (((Rows.OpenSpec.upto Rows.cleanFiltersSpec).at F).post enc Tryz.prog Tryz.f15 false true false false):=by
 refine aJR (C:=Tryz.checked) (X:=fun w _=>laidMetH Tryz.prog nI w) (fun _ _ _ P h=>h.of_heap P) own aa (by kernel_rfl) Tryz.func15
  (World.laidAll Tryz.prog os nI) #[.string ByteArray.empty,.slice none 0 0] 8 (World.laidAll_os _ _ _)
  (World.shaped_of_ZipB (by kernel_rfl) (by kernel_rfl)) (by kernel_rfl) (by kernel_rfl) (by kernel_rfl)
  (by rw[ue _ _ _ (by kernel_rfl)];exact laidMet_laidAll _ (by kernel_rfl) (by kernel_rfl)) ?_ F
 intro W base a B gs ac o l L D E;have d:∀(j:Nat) t v,Tryz.f15.params[j]?=some t->a[j]?=some v->Value.okWide Tryz.prog W .any base t v:=o;have n:=l;obtain⟨p,q,k,J,rfl,av,aw⟩:=l;have i:DataW.TrodAll enc Tryz.prog W 0 (fun _=>true) true Tryz.f15.params.toList a.toList B p:=k;rw[Tryz.params15]at i d
 obtain⟨s,a1,d0,ad,V,q0,an,rfl,rfl,f,r0⟩:=trodAll_cons i;obtain⟨v1,a2,A,al,p1,q1,rfl,rfl,rfl,g,r1⟩:=trodAll_cons r0;obtain⟨rfl,rfl,rfl⟩:=trodAll_nil r1;obtain rfl:a=#[s,v1]:=by cases a;simp_all
 obtain⟨rfl,rfl⟩:=trodVars_none J;have r:=f;have S:∀x∈V,x.block<W.heap.size:=by obtain⟨m,c⟩:=r;exact DataW.trod_lt m _ _ _ c
 have k1:=g;have T:∀x∈p1,x.block<W.heap.size:=by obtain⟨m,c⟩:=k1;exact DataW.trod_lt m _ _ _ c
 have ao:Rows.uptoBulk d0+Rows.uptoBulk A<=1048576:=by
  have h:Rows.uptoBulkAll _<=1048576:=L;simp only[eh,Rows.uptoBulkAll]at h;omega
 obtain⟨s0,rfl,M,_,m0⟩:=open_string Tryz.underlying9 (d 0 9 s rfl rfl) f;have b0:s0.size<=Rows.uptoBulk d0:=by rw[M];simp only[Rows.uptoBulk,zK];omega
 obtain⟨y,a0,z,rfl⟩:=okWide_slice Tryz.underlying43 (d 1 43 v1 rfl rfl);obtain⟨R,K,Q,b1⟩:=aL9 g (by omega);subst Q;clear k o;simp only[eh]at n;have ab:=aLB s0 R y z (by omega) W (aPe D E) K;refine ab.mono fun e W' ⟨N,b⟩=>?_
 subst N;exact⟨_,rfl,_,_,_,[],_,[],n,trodAll_mk1 (shut_bool Tryz.underlying4 _),(trodAll_cons_mk (Below.trod j1 (by kernel_rfl) (br (by kernel_rfl)) r b S) (trodAll_cons_mk (Below.trod j1 (by kernel_rfl) (br (by kernel_rfl)) k1 b T) trodAll_mk0)),rfl,b.frame _,fun h=>by cases h⟩
theorem over:Rows.cleanFiltersUptoRow.holds Tryz.pinned (Rows.OpenSpec.upto Rows.cleanFiltersSpec) :=
 OpenClaim.holds_of_cond 15 Tryz.f15 rfl rfl rfl rfl rfl rfl rfl ⟨rfl,rfl,rfl,rfl,rfl⟩ rfl rfl rfl rfl rfl (by as_aux_lemma=>kernel_rfl) Tryz.func15 joined
  (br (by kernel_rfl)) (by unfold Func.isWrapper;first|(rw[af (by decide +kernel)];kernel_rfl)|(rw[ae (by decide +kernel)];exact⟨rfl,rfl⟩))
  (fun os b a enc _ F=>lifted os b a enc F)
theorem proved:Rows.CleanFiltersUptoCardSaid :=
 Claim7.holds_tied_plain_at .later [] [.data,.data,.widerDeep,.widerDeep,.data,.data,.data,.data,.data,.data,.sentinel,.sentinel,.pinned,.pinned,.pinned] true (true,"794cf9c63e193e357b2310650565b2ed9be5052e667bbc52b7b459b6647c08dc") true
  over (fun _ h=>by cases h) k1 (fun _ h=>by cases h) cleanFiltersUpto_row_tie rfl ⟨rfl,rfl⟩ k2 rfl
  (fun f b c d=>by
   obtain rfl:f=15:=cy (k5.symm.trans c) |>.symm
   obtain rfl:b=Tryz.f15:=(cy (Tryz.func15.symm.trans d)).symm;exact⟨k3,fun j t a=>by
    rw[Tryz.params15]at a
    have e:t∈[9,43]:=by simpa using Array.mem_of_getElem? a
    exact(show Tryz.prog.wantsStandIn t=false by simpa using List.all_eq_true.1 k6 t e)⟩)
  k4
#print axioms proved
end Go.Proofs.YtcfgbdhpcboikaaGreatDoor.cleanFiltersUpto
