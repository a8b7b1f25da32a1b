/-
for every tree that holds at most 1048576 values and letters: of any tree a page is let through, or it is too large.
Conditions: the arguments hold at most 1048576 values and letters; the listed tables of Go's library read as its text lays them (the card ties them).
-/
import Derived.Test.YtcfgbdhpcboikaaGreatDoorCPagW
import Derived.Test.YtcfgbdhpcboikaaGreatDoorCPagUJ
import Derived.Test.YtcfgbdhpcboikaaGreatDoorCPagUK
namespace Go.Proofs.YtcfgbdhpcboikaaGreatDoor.cleanPagesUpto
set_option maxRecDepth 100000
open Go.ChangeMaps (open_string)
open Go.ChangeShapes Go.WideShapes Go.ChangeAt Go.RowKit
theorem lifted (os:Os)(Q:os.Started)(r:Type)(enc:TypeId × Value->r)(F:Stop.Interp) :
  ReturnsInHanded {} Tryz.checked os 16 .any (fun w a=>((Rows.OpenSpec.upto Rows.cleanPagesSpec).pre enc Tryz.prog Tryz.f16 [] false w a/\laidMetH Tryz.prog oP w)/\sizedMet enc Tryz.prog Tryz.f16 (Rows.OpenSpec.upto Rows.cleanPagesSpec) false w a)
   (((Rows.OpenSpec.upto Rows.cleanPagesSpec).at F).post enc Tryz.prog Tryz.f16 false true false false):=by
 refine aKT (C:=Tryz.checked) (X:=fun w _=>laidMetH Tryz.prog oP w) (fun _ _ _ K h=>h.of_heap K) own Q (by kernel_rfl) Tryz.func16
  (World.laidAll Tryz.prog os oP) #[.agg #[.int .i64 0,.int .i64 0,.string ByteArray.empty,.slice none 0 0,.string ByteArray.empty,.slice none 0 0]] 8 (World.laidAll_os _ _ _)
  (World.shaped_of_ZipB (by kernel_rfl) (by kernel_rfl)) (by kernel_rfl) (by kernel_rfl) (by kernel_rfl)
  (by rw[ui _ _ _ (by kernel_rfl)];exact laidMet_laidAll _ (by kernel_rfl) (by kernel_rfl)) ?_ F
 intro W base a y gs V l f E z A;have k:∀(j:Nat) t v,Tryz.f16.params[j]?=some t->a[j]?=some v->Value.okWide Tryz.prog W .any base t v:=l;have g:=f;obtain⟨p,q,d,B,rfl,ah,al⟩:=f;have c:DataW.TrodAll enc Tryz.prog W 0 (fun _=>true) true Tryz.f16.params.toList a.toList y p:=d;rw[Tryz.params16]at c k
 obtain⟨o,an,u,aa,N,q0,ab,rfl,rfl,b,P⟩:=trodAll_cons c;obtain⟨rfl,rfl,rfl⟩:=trodAll_nil P;obtain rfl:a=#[o]:=by cases a;simp_all
 obtain⟨rfl,rfl⟩:=trodVars_none B;have n:=b;have M:∀x∈N,x.block<W.heap.size:=by obtain⟨m,L⟩:=n;exact DataW.trod_lt m _ _ _ L
 have ad:Rows.uptoBulk u<=1048576:=by
  have h:Rows.uptoBulkAll _<=1048576:=E;simp only[dc,Rows.uptoBulkAll]at h;omega
 obtain⟨s,rfl,_⟩:=okWide_struct Tryz.underlying45 (k 0 45 o rfl rfl);obtain⟨n0,D,T⟩:=aNn b (by omega);clear d l;simp only[dc]at g;have R:=aIE n0 (.agg s) (by omega) W (aQf z A) D;refine R.mono fun e S ⟨J,i⟩=>?_
 subst J;exact⟨_,rfl,_,_,_,[],_,[],g,trodAll_mk1 (shut_bool Tryz.underlying4 _),(trodAll_cons_mk (Below.trod j1 (by kernel_rfl) (bv (by kernel_rfl)) n i M) trodAll_mk0),rfl,i.frame _,fun h=>by cases h⟩
theorem over:Rows.cleanPagesUptoRow.holds Tryz.pinned (Rows.OpenSpec.upto Rows.cleanPagesSpec) :=
 OpenClaim.holds_of_cond 16 Tryz.f16 rfl rfl rfl rfl rfl rfl rfl ⟨rfl,rfl,rfl,rfl,rfl⟩ rfl rfl rfl rfl rfl (by as_aux_lemma=>kernel_rfl) Tryz.func16 joined
  (bv (by kernel_rfl)) (by unfold Func.isWrapper;first|(rw[ae (by decide +kernel)];kernel_rfl)|(rw[ac (by decide +kernel)];exact⟨rfl,rfl⟩))
  (fun os b a enc _ F=>lifted os b a enc F)
theorem proved:Rows.CleanPagesUptoCardSaid :=
 Claim7.holds_tied_plain_at .later [] [.data,.data,.widerDeep,.widerDeep,.data,.data,.data,.data,.data,.data,.sentinel,.sentinel,.pinned,.pinned,.pinned] true (true,"794cf9c63e193e357b2310650565b2ed9be5052e667bbc52b7b459b6647c08dc") true
  over (fun _ h=>by cases h) k1 (fun _ h=>by cases h) cleanPagesUpto_row_tie rfl ⟨rfl,rfl⟩ k2 rfl
  (fun f b c d=>by
   obtain rfl:f=16:=b8 (k5.symm.trans c) |>.symm
   obtain rfl:b=Tryz.f16:=(b8 (Tryz.func16.symm.trans d)).symm;exact⟨k3,fun j t a=>by
    rw[Tryz.params16]at a
    have e:t∈[45]:=by simpa using Array.mem_of_getElem? a
    exact(show Tryz.prog.wantsStandIn t=false by simpa using List.all_eq_true.1 k6 t e)⟩)
  k4
#print axioms proved
end Go.Proofs.YtcfgbdhpcboikaaGreatDoor.cleanPagesUpto
