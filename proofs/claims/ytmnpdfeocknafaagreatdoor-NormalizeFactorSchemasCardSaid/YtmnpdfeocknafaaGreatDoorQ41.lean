/- Proved: the law NormalizeFactorSchemas answers true for every input, and its arguments read behind the call as they read before. No condition beyond those that the form of the statement gives. -/
import Derived.Test.YtmnpdfeocknafaaGreatDoorN41a
set_option maxRecDepth 100000
set_option linter.unusedSimpArgs false
set_option linter.unusedVariables false
namespace Go.Bw
open Go.Proofs
open Go.ChangeShapes Go.RowKit Go.Proofs.YtmnpdfeocknafaaGreatDoor
theorem normalizeFactorSchemas_lifted (os:Os) (started:os.Started) (H:Type) (enc:TypeId×Value→H) :
  ReturnsInHanded {} Tryz.checked os 8 .any (fun w args=>(Rows.normalizeFactorSchemasSpec.pre enc Tryz.prog Tryz.f8 Rows.normalizeFactorSchemasRow.domain false w args∧laidMetH Tryz.prog Rows.normalizeFactorSchemasRow.laid w)∧sizedMet enc Tryz.prog Tryz.f8 (OpenSpec.ofChange Rows.normalizeFactorSchemasSpec) false w args) (Rows.normalizeFactorSchemasSpec.post enc Tryz.prog Tryz.f8 false true false false):=by
 refine returnsInHanded_of_change_and (C:=Tryz.checked) (X:=fun w _=>laidMetH Tryz.prog Rows.normalizeFactorSchemasRow.laid w) (fun _ _ _ hh h=>h.of_heap hh) Zp started (by kernel_rfl) Tryz.func8
  (ChangeSpec.witness_shaped (enc:=enc) (C:=Tryz.checked) (os:=os) (X:=fun w _=>laidMetH Tryz.prog Rows.normalizeFactorSchemasRow.laid w) false (World.laidAll Tryz.prog os Rows.normalizeFactorSchemasRow.laid) #[.agg #[.slice none 0 0,.slice none 0 0,.slice none 0 0],.slice none 0 0,.slice none 0 0] 8 (World.laidAll_os _ _ _)
   (World.shaped_of_ZipB (by kernel_rfl) (by kernel_rfl)) (by kernel_rfl) (by kernel_rfl) (by kernel_rfl)
   (by rw [MakeChecks.laidMetH_plain _ _ _ (by kernel_rfl)];exact laidMet_laidAll _ (by kernel_rfl) (by kernel_rfl))) ?_
 intro W base args ds gs before hval hW hcnd hsz hL _
 rw [MakeChecks.laidMetH_plain _ _ _ (by kernel_rfl)] at hL
 have hW0:=hW
 obtain ⟨p,q,hA,hV,rfl,hfz,hnd⟩:=hW0
 have hA:DataW.TrodAll enc Tryz.prog W 0 (fun _=>true) true Tryz.f8.params.toList args.toList ds p:=hA
 have hval:∀(j:Nat) t v,Tryz.f8.params[j]?=some t→args[j]?=some v→Value.okWide Tryz.prog W .any base t v:=hval
 rw [Tryz.params8] at hA hval
 obtain ⟨v0,vs0,d0,ds0,p0,q0,ha,rfl,rfl,h0,r0⟩:=trodAll_cons hA
 obtain ⟨v1,vs1,d1,ds1,p1,q1,rfl,rfl,rfl,h1,r1⟩:=trodAll_cons r0
 obtain ⟨v2,vs2,d2,ds2,p2,q2,rfl,rfl,rfl,h2,r2⟩:=trodAll_cons r1
 obtain ⟨rfl,rfl,rfl⟩:=trodAll_nil r2
 obtain rfl:args=#[v0,v1,v2]:=by cases args;simp_all
 have hv0:=hval 0 _ v0 rfl rfl
 simp only [Value.okWide,Tryz.underlying33] at hv0
 obtain ⟨cs0,rfl,_,_⟩:=hv0
 obtain ⟨n0,h0⟩:=h0
 obtain ⟨s,hs,x0⟩:=Qj.get h0 fun n hn=>by
  have:=List.all_eq_true.1 hsz n (DataW.weights_mem_each (j:=0) rfl rfl n hn)
  simpa using this
 have hv1:=hval 1 _ v1 rfl rfl
 have hc1:=Zq Tryz.underlying70 rfl hv1
 obtain ⟨n1,h1⟩:=h1
 rw [hc1] at h1
 obtain ⟨a,ha,x1⟩:=MV.get h1 fun n hn=>by
  have:=List.all_eq_true.1 hsz n (DataW.weights_mem_each (j:=1) rfl rfl n hn)
  simpa using this
 have hv2:=hval 2 _ v2 rfl rfl
 have hc2:=Zq Tryz.underlying70 rfl hv2
 obtain ⟨n2,h2⟩:=h2
 rw [hc2] at h2
 obtain ⟨b,hb,x2⟩:=MV.get h2 fun n hn=>by
  have:=List.all_eq_true.1 hsz n (DataW.weights_mem_each (j:=2) rfl rfl n hn)
  simpa using this
 refine (Zj Tryz.func8 rfl (by kernel_rfl) (normalizeFactor_sat s a b hs.fits (by have h1:=ha.1;rw [yr] at h1;omega) (by have h1:=hb.1;rw [yr] at h1;omega) (fun st h=>(ha.2 st h).fits) (fun st h=>(hb.2 st h).fits)) (vs:=[.agg cs0,v1,v2]) (fun ω=>TU (Zf x0) (TU (Zg x1) (TU (Zg x2) Zl))) (.inr (aac hL))).mono fun e W' ⟨he,hb⟩=>?_
 subst he
 exact ⟨_,rfl,Zo laid (rt:=4) (by kernel_rfl) Tryz.underlying4 (by kernel_rfl) rfl hW hb rfl⟩
theorem normalizeFactorSchemas_j0:(Rows.normalizeFactorSchemasRow.wf (OpenSpec.ofChange Rows.normalizeFactorSchemasSpec))=true:=by kernel_rfl
theorem normalizeFactorSchemas_j1:(laidOutB Tryz.prog)=true:=by kernel_rfl
theorem normalizeFactorSchemas_j2:(mapsRowed Tryz.prog)=true:=by kernel_rfl
theorem normalizeFactorSchemas_j3:(Tryz.f8.params.all (Tryz.prog.readableRec ·))=true:=by kernel_rfl
theorem normalizeFactorSchemas_j4:(namedTie Tryz.prog Rows.normalizeFactorSchemasRow.named Rows.normalizeFactorSchemasSpec.vars)=true:=by kernel_rfl
theorem normalizeFactorSchemas_j5:((Rows.normalizeFactorSchemasRow.stops==[]))=true:=by kernel_rfl
theorem normalizeFactorSchemas_j6:((Tryz.prog.stops==[]))=true:=by kernel_rfl
theorem normalizeFactorSchemas_j7:((Rows.normalizeFactorSchemasRow.knobs==[]))=true:=by kernel_rfl
theorem normalizeFactorSchemas_j8:((Tryz.prog.stopKnobs==[]))=true:=by kernel_rfl
theorem normalizeFactorSchemas_j9:((Rows.normalizeFactorSchemasRow.inPlace==Tryz.prog.inPlace 8))=true:=by kernel_rfl
theorem normalizeFactorSchemas_j10:((Rows.normalizeFactorSchemasRow.unfollowed==Tryz.prog.unfollowed 8))=true:=by kernel_rfl
theorem normalizeFactorSchemas_j11:((Rows.normalizeFactorSchemasRow.recurses==Tryz.prog.recurses 8))=true:=by kernel_rfl
theorem normalizeFactorSchemas_j12:((Rows.normalizeFactorSchemasRow.named==Tryz.prog.varsNamed 8))=true:=by kernel_rfl
theorem normalizeFactorSchemas_j13:((Rows.normalizeFactorSchemasRow.maps==(Tryz.f8.params.toList++Rows.normalizeFactorSchemasSpec.plain.varTypes Tryz.prog).any (Tryz.prog.mapsRec ·)))=true:=by kernel_rfl
theorem normalizeFactorSchemas_j14:((Rows.normalizeFactorSchemasRow.ifaces==(Tryz.f8.params.toList++Rows.normalizeFactorSchemasSpec.plain.varTypes Tryz.prog).any (Tryz.prog.ifacesRec ·)))=true:=by kernel_rfl
theorem normalizeFactorSchemas_j15:((Rows.normalizeFactorSchemasRow.mapsOut==Tryz.prog.mapsAmong Tryz.f8.resultTypes.toList))=true:=by kernel_rfl
theorem normalizeFactorSchemas_j16:((Rows.normalizeFactorSchemasRow.loops==(Tryz.f8.params.toList++Rows.normalizeFactorSchemasSpec.plain.varTypes Tryz.prog).any (Tryz.prog.loopsFrom ·)))=true:=by kernel_rfl
theorem normalizeFactorSchemas_j17:((Rows.normalizeFactorSchemasRow.wideKeys==(Tryz.f8.params.toList++Rows.normalizeFactorSchemasSpec.plain.varTypes Tryz.prog++Tryz.f8.resultTypes.toList).any (Tryz.prog.wideKeysFrom ·)))=true:=by kernel_rfl
theorem normalizeFactorSchemas_j18:(Rows.normalizeFactorSchemasSpec.vars.all (Tryz.prog.varReadable ·))=true:=by kernel_rfl
theorem normalizeFactorSchemas_j19:(Tryz.f8.resultTypes.all (fun t=>Tryz.prog.readableRec t&&decide (t<Tryz.prog.types.size)))=true:=by kernel_rfl
theorem normalizeFactorSchemas_j20:((Rows.normalizeFactorSchemasRow.ifacesOut==Tryz.f8.resultTypes.toList.any (Tryz.prog.ifacesRec ·)))=true:=by kernel_rfl
theorem normalizeFactorSchemas_j21:((Rows.normalizeFactorSchemasRow.loopsOut==Tryz.f8.resultTypes.toList.any (Tryz.prog.loopsFrom ·)))=true:=by kernel_rfl
theorem normalizeFactorSchemas_j22:((Rows.normalizeFactorSchemasRow.plainKeys==Tryz.prog.plainKeys))=true:=by kernel_rfl
theorem normalizeFactorSchemas_j23:(Rows.normalizeFactorSchemasRow.shortTexts.isNone)=true:=by kernel_rfl
theorem normalizeFactorSchemas_j24:(Tryz.prog.stopsHeard)=true:=by kernel_rfl
theorem normalizeFactorSchemas_j25:(Tryz.prog.mayEnter)=true:=by kernel_rfl
theorem normalizeFactorSchemas_j26:((Rows.normalizeFactorSchemasRow.lifted==Tryz.prog.liftsFinal))=true:=by kernel_rfl
theorem normalizeFactorSchemas_j27:((Tryz.prog.make==some Rows.normalizeFactorSchemasRow.make))=true:=by kernel_rfl
theorem normalizeFactorSchemas_j29:((Rows.normalizeFactorSchemasRow.pinned==Rows.normalizeFactorSchemasRow.pinnedBy))=true:=by kernel_rfl
theorem normalizeFactorSchemas_j30:((Rows.normalizeFactorSchemasRow.veiled==(Tryz.f8.params.toList++Rows.normalizeFactorSchemasSpec.plain.varTypes Tryz.prog++Tryz.f8.resultTypes.toList).any (Tryz.prog.veiledRec ·)))=true:=by kernel_rfl
theorem normalizeFactorSchemas_j31:(Rows.normalizeFactorSchemasRow.veiledFits Tryz.prog Tryz.f8.params.toList (Tryz.f8.params.toList++Rows.normalizeFactorSchemasSpec.plain.varTypes Tryz.prog++Tryz.f8.resultTypes.toList))=true:=by kernel_rfl
theorem normalizeFactorSchemas_joined:joinedFacts Tryz.prog 8 Tryz.f8 Rows.normalizeFactorSchemasSpec Rows.normalizeFactorSchemasRow=true:=by
 unfold joinedFacts
 simp only [qa]
 refine ⟨⟨⟨⟨⟨⟨⟨⟨⟨⟨⟨⟨⟨⟨⟨⟨⟨⟨⟨⟨⟨⟨⟨⟨⟨⟨⟨⟨⟨⟨⟨normalizeFactorSchemas_j0,normalizeFactorSchemas_j1⟩,normalizeFactorSchemas_j2⟩,normalizeFactorSchemas_j3⟩,normalizeFactorSchemas_j4⟩,normalizeFactorSchemas_j5⟩,normalizeFactorSchemas_j6⟩,normalizeFactorSchemas_j7⟩,normalizeFactorSchemas_j8⟩,normalizeFactorSchemas_j9⟩,normalizeFactorSchemas_j10⟩,normalizeFactorSchemas_j11⟩,normalizeFactorSchemas_j12⟩,normalizeFactorSchemas_j13⟩,normalizeFactorSchemas_j14⟩,normalizeFactorSchemas_j15⟩,normalizeFactorSchemas_j16⟩,normalizeFactorSchemas_j17⟩,normalizeFactorSchemas_j18⟩,normalizeFactorSchemas_j19⟩,normalizeFactorSchemas_j20⟩,normalizeFactorSchemas_j21⟩,normalizeFactorSchemas_j22⟩,normalizeFactorSchemas_j23⟩,normalizeFactorSchemas_j24⟩,normalizeFactorSchemas_j25⟩,normalizeFactorSchemas_j26⟩,normalizeFactorSchemas_j27⟩,?_⟩,normalizeFactorSchemas_j29⟩,normalizeFactorSchemas_j30⟩,normalizeFactorSchemas_j31⟩
 all_goals kernel_rfl
theorem normalizeFactorSchemas_over:Rows.normalizeFactorSchemasRow.holds Tryz.pinned (OpenSpec.ofChange Rows.normalizeFactorSchemasSpec) :=
 OpenClaim.holds_of_wide 8 Tryz.f8 rfl rfl rfl rfl rfl rfl rfl ⟨rfl,rfl,rfl,rfl,rfl⟩ rfl rfl rfl rfl rfl (by kernel_rfl) Tryz.func8 normalizeFactorSchemas_joined
  (of_decide_eq_true (by kernel_rfl)) (by unfold Func.isWrapper;first|(rw [if_pos (by decide +kernel)];kernel_rfl)|(rw [if_neg (by decide +kernel)];exact ⟨rfl,rfl⟩))
  (fun os started H enc _=>normalizeFactorSchemas_lifted os started H enc)
theorem normalizeFactorSchemas_card:Rows.NormalizeFactorSchemasCardSaid :=
 Claim7.holds_tied_plain_at .later [] [.data,.data,.data,.sentinel,.sentinel] true (true,"3ee9ca199f427a10390d2cd2994a9456cbfec29ffcd2da10a555765c6bec38a8") true normalizeFactorSchemas_over (fun _ h=>by cases h) (by kernel_rfl) (fun _ h=>by cases h) normalizeFactorSchemas_row_tie rfl ⟨rfl,rfl⟩ (by kernel_rfl) rfl
  (fun f fn hf hfn=>by
   obtain rfl:f=8:=Ae ((show Tryz.prog.funcNamed "stemma/stemkeep2.NormalizeFactorSchemas"=some 8 by kernel_rfl).symm.trans hf) |>.symm
   obtain rfl:fn=Tryz.f8:=(Ae (Tryz.func8.symm.trans hfn)).symm
   exact ⟨by kernel_rfl,fun j t ht=>by
    rw [Tryz.params8] at ht
    have hm:t∈[33,70,70]:=by simpa using EJ ht
    have hall:([33,70,70].all fun u=>!Tryz.prog.wantsStandIn u)=true:=by kernel_rfl
    exact (show Tryz.prog.wantsStandIn t=false by simpa using List.all_eq_true.1 hall t hm)⟩)
  (by kernel_rfl)
end Go.Bw
namespace Go.Proofs.YtmnpdfeocknafaaGreatDoor
theorem normalizeFactorSchemas_holds:Rows.NormalizeFactorSchemasCardSaid:=Go.Bw.normalizeFactorSchemas_card
#print axioms normalizeFactorSchemas_holds
end Go.Proofs.YtmnpdfeocknafaaGreatDoor
