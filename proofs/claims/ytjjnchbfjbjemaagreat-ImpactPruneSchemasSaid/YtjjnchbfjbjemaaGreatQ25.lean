/-
  WHAT IS PROVED HERE: the law ImpactPruneSchemas answers true for every input, and its arguments read behind the call as they read before. No condition beyond those that the form of the statement gives.
-/
import Derived.Test.YtjjnchbfjbjemaaGreatRows
import Derived.WalkKit
import Derived.ProofKit
import Derived.Test.YtjjnchbfjbjemaaGreatN25a
set_option linter.unusedSimpArgs false
set_option linter.unusedVariables false
namespace Go.Bw
open Go.Proofs
open Go.ChangeShapes Go.RowKit Go.Proofs.YtjjnchbfjbjemaaGreat
set_option maxRecDepth 100000 in
theorem impactPruneSchemas_lifted (os:Os) (started:os.Started) (H:Type) (enc:TypeId×Value→H) :
  ReturnsInHanded {} Tryz.checked os 7 .any (Rows.impactPruneSchemasSpec.pre6 enc Tryz.prog Tryz.f7 Rows.impactPruneSchemasRow.domain false) (Rows.impactPruneSchemasSpec.post enc Tryz.prog Tryz.f7 false true false false):=by
 refine returnsInHanded_of_change_sized (C:=Tryz.checked) ownK started (by kernel_rfl) Tryz.func7
  (ChangeSpec.witness6 (enc:=enc) (C:=Tryz.checked) false ⟨#[],#[.agg #[.slice none 0 0,.slice none 0 0,.slice none 0 0,.slice none 0 0],.slice none 0 0],[]⟩ 8 (by kernel_rfl) (by kernel_rfl) (by kernel_rfl) (by kernel_rfl)) ?_
 intro W base args ds gs before hval hW hcnd hsz _
 have hW0:=hW
 obtain ⟨p,q,hA,hV,rfl,hfz,hnd⟩:=hW0
 have hA:DataW.TrodAll enc Tryz.prog W 0 (fun _=>true) true Tryz.f7.params.toList args.toList ds p:=hA
 have hval:∀(j:Nat) t v,Tryz.f7.params[j]?=some t→args[j]?=some v→Value.okWide Tryz.prog W .any base t v:=hval
 rw [Tryz.params7] at hA hval
 obtain ⟨v0,vs0,d0,ds0,p0,q0,ha,rfl,rfl,h0,r0⟩:=trodAll_cons hA
 obtain ⟨v1,vs1,d1,ds1,p1,q1,rfl,rfl,rfl,h1,r1⟩:=trodAll_cons r0
 obtain ⟨rfl,rfl,rfl⟩:=trodAll_nil r1
 obtain rfl:args=#[v0,v1]:=by cases args;simp_all
 have hv0:=hval 0 _ v0 rfl rfl
 simp only [Value.okWide,Tryz.underlying29] at hv0
 obtain ⟨cs0,rfl,_,_⟩:=hv0
 obtain ⟨n0,h0⟩:=h0
 obtain ⟨g,hg,x0⟩:=rd_gr.get h0 fun n hn=>by
  have:=List.all_eq_true.1 hsz n (DataW.weights_mem_each (j:=0) rfl rfl n hn)
  simpa using this
 have hv1:=hval 1 _ v1 rfl rfl
 have hc1:=cells_oneC Tryz.underlying56 rfl hv1
 obtain ⟨n1,h1⟩:=h1
 rw [hc1] at h1
 obtain ⟨u,hu,x1⟩:=rd_bools.get h1 fun n hn=>by
  have:=List.all_eq_true.1 hsz n (DataW.weights_mem_each (j:=1) rfl rfl n hn)
  simpa using this
 refine (calls_of_sat Tryz.func7 rfl (by kernel_rfl) (impactPruneSchemas_sat g u hg.fits (fit_bools hu)) (vs:=[.agg cs0,v1]) fun ω=>argsRep_cons (vrep_agg x0) (argsRep_cons (vrep_one x1) argsRep_nil)).mono fun e W' ⟨he,hb⟩=>?_
 subst he
 exact ⟨_,rfl,post_of_below laid (rt:=4) (by kernel_rfl) Tryz.underlying4 (by kernel_rfl) rfl hW hb rfl⟩
theorem impactPruneSchemas_over:Rows.impactPruneSchemasRow.holds Tryz.pinned (OpenSpec.ofChange Rows.impactPruneSchemasSpec) :=
 OpenClaim.holds_of_wide 7 Tryz.f7 rfl rfl rfl rfl rfl rfl rfl ⟨rfl,rfl,rfl,rfl,rfl⟩ rfl rfl rfl rfl rfl (by kernel_rfl) Tryz.func7 (by kernel_rfl)
  (of_decide_eq_true (by kernel_rfl)) (by unfold Func.isWrapper;first|(rw [if_pos (by decide +kernel)];kernel_rfl)|(rw [if_neg (by decide +kernel)];exact ⟨rfl,rfl⟩))
  (fun os started H enc _=>impactPruneSchemas_lifted os started H enc)
theorem impactPruneSchemas:Rows.ImpactPruneSchemasSaid:=impactPruneSchemas_over
end Go.Bw
namespace Go.Proofs.YtjjnchbfjbjemaaGreat
theorem impactPruneSchemas_holds:Rows.ImpactPruneSchemasSaid:=Go.Bw.impactPruneSchemas
#print axioms impactPruneSchemas_holds
end Go.Proofs.YtjjnchbfjbjemaaGreat
