/-
  WHAT IS PROVED HERE: the law VersionsPathReverse answers true for every input, and its arguments read behind the call as they read before. No condition beyond those that the form of the statement gives.
-/
import Derived.Test.YtjjnchbfjbjemaaGreatRows
import Derived.WalkKit
import Derived.ProofKit
import Derived.Test.YtjjnchbfjbjemaaGreatN26a
set_option linter.unusedSimpArgs false
set_option linter.unusedVariables false
namespace Go.Bw
open Go.Proofs
open Go.ChangeShapes Go.RowKit Go.Proofs.YtjjnchbfjbjemaaGreat
set_option maxRecDepth 100000 in
theorem versionsPathReverse_lifted (os:Os) (started:os.Started) (H:Type) (enc:TypeId×Value→H) :
  ReturnsInHanded {} Tryz.checked os 3 .any (Rows.versionsPathReverseSpec.pre6 enc Tryz.prog Tryz.f3 Rows.versionsPathReverseRow.domain false) (Rows.versionsPathReverseSpec.post enc Tryz.prog Tryz.f3 false true false false):=by
 refine returnsInHanded_of_change_sized (C:=Tryz.checked) ownK started (by kernel_rfl) Tryz.func3
  (ChangeSpec.witness6 (enc:=enc) (C:=Tryz.checked) false ⟨#[],#[.agg #[.slice none 0 0,.slice none 0 0,.slice none 0 0,.slice none 0 0],.int .i64 0,.int .i64 0],[]⟩ 8 (by kernel_rfl) (by kernel_rfl) (by kernel_rfl) (by kernel_rfl)) ?_
 intro W base args ds gs before hval hW hcnd hsz _
 have hW0:=hW
 obtain ⟨p,q,hA,hV,rfl,hfz,hnd⟩:=hW0
 have hA:DataW.TrodAll enc Tryz.prog W 0 (fun _=>true) true Tryz.f3.params.toList args.toList ds p:=hA
 have hval:∀(j:Nat) t v,Tryz.f3.params[j]?=some t→args[j]?=some v→Value.okWide Tryz.prog W .any base t v:=hval
 rw [Tryz.params3] at hA hval
 obtain ⟨v0,vs0,d0,ds0,p0,q0,ha,rfl,rfl,h0,r0⟩:=trodAll_cons hA
 obtain ⟨v1,vs1,d1,ds1,p1,q1,rfl,rfl,rfl,h1,r1⟩:=trodAll_cons r0
 obtain ⟨v2,vs2,d2,ds2,p2,q2,rfl,rfl,rfl,h2,r2⟩:=trodAll_cons r1
 obtain ⟨rfl,rfl,rfl⟩:=trodAll_nil r2
 obtain rfl:args=#[v0,v1,v2]:=by cases args;simp_all
 have hv0:=hval 0 _ v0 rfl rfl
 simp only [Value.okWide,Tryz.underlying29] at hv0
 obtain ⟨cs0,rfl,_,_⟩:=hv0
 obtain ⟨n0,h0⟩:=h0
 obtain ⟨g,hg,x0⟩:=rd_gr.get h0 fun n hn=>by
  have:=List.all_eq_true.1 hsz n (DataW.weights_mem_each (j:=0) rfl rfl n hn)
  simpa using this
 have hv1:=hval 1 _ v1 rfl rfl
 have hc1:=cells_oneC Tryz.underlying3 rfl hv1
 obtain ⟨n1,h1⟩:=h1
 rw [hc1] at h1
 obtain ⟨a,ha1,x1⟩:=rd_I.get h1 fun n hn=>by
  have:=List.all_eq_true.1 hsz n (DataW.weights_mem_each (j:=1) rfl rfl n hn)
  simpa using this
 have hv2:=hval 2 _ v2 rfl rfl
 have hc2:=cells_oneC Tryz.underlying3 rfl hv2
 obtain ⟨n2,h2⟩:=h2
 rw [hc2] at h2
 obtain ⟨b,hb2,x2⟩:=rd_I.get h2 fun n hn=>by
  have:=List.all_eq_true.1 hsz n (DataW.weights_mem_each (j:=2) rfl rfl n hn)
  simpa using this
 refine (calls_of_sat Tryz.func3 rfl (by kernel_rfl) (versionsPathReverse_sat g a b hg.fits) (vs:=[.agg cs0,v1,v2]) fun ω=>argsRep_cons (vrep_agg x0) (argsRep_cons (vrep_one x1) (argsRep_cons (vrep_one x2) argsRep_nil))).mono fun e W' ⟨he,hb⟩=>?_
 subst he
 exact ⟨_,rfl,post_of_below laid (rt:=4) (by kernel_rfl) Tryz.underlying4 (by kernel_rfl) rfl hW hb rfl⟩
theorem versionsPathReverse_over:Rows.versionsPathReverseRow.holds Tryz.pinned (OpenSpec.ofChange Rows.versionsPathReverseSpec) :=
 OpenClaim.holds_of_wide 3 Tryz.f3 rfl rfl rfl rfl rfl rfl rfl ⟨rfl,rfl,rfl,rfl,rfl⟩ rfl rfl rfl rfl rfl (by kernel_rfl) Tryz.func3 (by kernel_rfl)
  (of_decide_eq_true (by kernel_rfl)) (by unfold Func.isWrapper;first|(rw [if_pos (by decide +kernel)];kernel_rfl)|(rw [if_neg (by decide +kernel)];exact ⟨rfl,rfl⟩))
  (fun os started H enc _=>versionsPathReverse_lifted os started H enc)
theorem versionsPathReverse:Rows.VersionsPathReverseSaid:=versionsPathReverse_over
end Go.Bw
namespace Go.Proofs.YtjjnchbfjbjemaaGreat
theorem versionsPathReverse_holds:Rows.VersionsPathReverseSaid:=Go.Bw.versionsPathReverse
#print axioms versionsPathReverse_holds
end Go.Proofs.YtjjnchbfjbjemaaGreat
