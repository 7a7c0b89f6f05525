/-
  WHAT IS PROVED HERE: the law ScriptConcatenation answers true for every input, and its arguments read behind the call as they read before. No condition beyond those that the form of the statement gives.
-/
import Derived.Test.YtdnapljegcihiaaGreatDoorN38a
set_option linter.unusedSimpArgs false
set_option linter.unusedVariables false
namespace Go.Bw
open Go.Proofs
open Go.ChangeShapes Go.RowKit Go.Proofs.YtdnapljegcihiaaGreatDoor
set_option maxRecDepth 100000 in
theorem scriptConcatenation_lifted (os:Os) (started:os.Started) (H:Type) (enc:TypeId×Value→H) :
  ReturnsInHanded {} Tryz.checked os 11 .any (fun w args=>(Rows.scriptConcatenationSpec.pre enc Tryz.prog Tryz.f11 Rows.scriptConcatenationRow.domain false w args∧laidMetH Tryz.prog Rows.scriptConcatenationRow.laid w)∧sizedMet enc Tryz.prog Tryz.f11 (OpenSpec.ofChange Rows.scriptConcatenationSpec) false w args) (Rows.scriptConcatenationSpec.post enc Tryz.prog Tryz.f11 false true false false):=by
 refine returnsInHanded_of_change_and (C:=Tryz.checked) (X:=fun w _=>laidMetH Tryz.prog Rows.scriptConcatenationRow.laid w) (fun _ _ _ hh h=>h.of_heap hh) ownK started (by kernel_rfl) Tryz.func11
  (ChangeSpec.witness_shaped (enc:=enc) (C:=Tryz.checked) (os:=os) (X:=fun w _=>laidMetH Tryz.prog Rows.scriptConcatenationRow.laid w) false (World.laidAll Tryz.prog os Rows.scriptConcatenationRow.laid) #[.agg #[.slice none 0 0,.slice none 0 0,.slice none 0 0],.slice none 0 0,.slice none 0 0] 8 (World.laidAll_os _ _ _)
   (World.shaped_of_ZipB (by kernel_rfl) (by kernel_rfl)) (by kernel_rfl) (by kernel_rfl) (by kernel_rfl)
   (by rw [MakeChecks.laidMetH_plain _ _ _ (by kernel_rfl)];exact laidMet_laidAll _ (by kernel_rfl) (by kernel_rfl))) ?_
 intro W base args ds gs before hval hW hcnd hsz hL _
 rw [MakeChecks.laidMetH_plain _ _ _ (by kernel_rfl)] at hL
 have hW0:=hW
 obtain ⟨p,q,hA,hV,rfl,hfz,hnd⟩:=hW0
 have hA:DataW.TrodAll enc Tryz.prog W 0 (fun _=>true) true Tryz.f11.params.toList args.toList ds p:=hA
 have hval:∀(j:Nat) t v,Tryz.f11.params[j]?=some t→args[j]?=some v→Value.okWide Tryz.prog W .any base t v:=hval
 rw [Tryz.params11] at hA hval
 obtain ⟨v0,vs0,d0,ds0,p0,q0,ha,rfl,rfl,h0,r0⟩:=trodAll_cons hA
 obtain ⟨v1,vs1,d1,ds1,p1,q1,rfl,rfl,rfl,h1,r1⟩:=trodAll_cons r0
 obtain ⟨v2,vs2,d2,ds2,p2,q2,rfl,rfl,rfl,h2,r2⟩:=trodAll_cons r1
 obtain ⟨rfl,rfl,rfl⟩:=trodAll_nil r2
 obtain rfl:args=#[v0,v1,v2]:=by cases args;simp_all
 have hv0:=hval 0 _ v0 rfl rfl
 simp only [Value.okWide,Tryz.underlying26] at hv0
 obtain ⟨cs0,rfl,_,_⟩:=hv0
 obtain ⟨n0,h0⟩:=h0
 obtain ⟨s,hs,x0⟩:=rd_sch.get h0 fun n hn=>by
  have:=List.all_eq_true.1 hsz n (DataW.weights_mem_each (j:=0) rfl rfl n hn)
  simpa using this
 have hv1:=hval 1 _ v1 rfl rfl
 have hc1:=cells_oneC Tryz.underlying82 rfl hv1
 obtain ⟨n1,h1⟩:=h1
 rw [hc1] at h1
 obtain ⟨a,ha,x1⟩:=rd_scr.get h1 fun n hn=>by
  have:=List.all_eq_true.1 hsz n (DataW.weights_mem_each (j:=1) rfl rfl n hn)
  simpa using this
 have hv2:=hval 2 _ v2 rfl rfl
 have hc2:=cells_oneC Tryz.underlying82 rfl hv2
 obtain ⟨n2,h2⟩:=h2
 rw [hc2] at h2
 obtain ⟨b,hb,x2⟩:=rd_scr.get h2 fun n hn=>by
  have:=List.all_eq_true.1 hsz n (DataW.weights_mem_each (j:=2) rfl rfl n hn)
  simpa using this
 refine (calls_of_sat Tryz.func11 rfl (by kernel_rfl) (scriptConcatenation_sat s a b hs.fits (by have h1:=ha.1;rw [reachBytes_eq] at h1;omega) (by have h1:=hb.1;rw [reachBytes_eq] at h1;omega) (fun st h=>(ha.2 st h).fits) (fun st h=>(hb.2 st h).fits)) (vs:=[.agg cs0,v1,v2]) (fun ω=>argsRep_cons (vrep_agg x0) (argsRep_cons (vrep_one x1) (argsRep_cons (vrep_one x2) argsRep_nil))) (.inr (laidW_vals hL))).mono fun e W' ⟨he,hb⟩=>?_
 subst he
 exact ⟨_,rfl,post_of_below laid (rt:=4) (by kernel_rfl) Tryz.underlying4 (by kernel_rfl) rfl hW hb rfl⟩
theorem scriptConcatenation_j0:(Rows.scriptConcatenationRow.wf (OpenSpec.ofChange Rows.scriptConcatenationSpec))=true:=by kernel_rfl
theorem scriptConcatenation_j1:(laidOutB Tryz.prog)=true:=by kernel_rfl
theorem scriptConcatenation_j2:(mapsRowed Tryz.prog)=true:=by kernel_rfl
theorem scriptConcatenation_j3:(Tryz.f11.params.all (Tryz.prog.readableRec ·))=true:=by kernel_rfl
theorem scriptConcatenation_j4:(namedTie Tryz.prog Rows.scriptConcatenationRow.named Rows.scriptConcatenationSpec.vars)=true:=by kernel_rfl
theorem scriptConcatenation_j5:((Rows.scriptConcatenationRow.stops==[]))=true:=by kernel_rfl
theorem scriptConcatenation_j6:((Tryz.prog.stops==[]))=true:=by kernel_rfl
theorem scriptConcatenation_j7:((Rows.scriptConcatenationRow.knobs==[]))=true:=by kernel_rfl
theorem scriptConcatenation_j8:((Tryz.prog.stopKnobs==[]))=true:=by kernel_rfl
theorem scriptConcatenation_j9:((Rows.scriptConcatenationRow.inPlace==Tryz.prog.inPlace 11))=true:=by kernel_rfl
theorem scriptConcatenation_j10:((Rows.scriptConcatenationRow.unfollowed==Tryz.prog.unfollowed 11))=true:=by kernel_rfl
theorem scriptConcatenation_j11:((Rows.scriptConcatenationRow.recurses==Tryz.prog.recurses 11))=true:=by kernel_rfl
theorem scriptConcatenation_j12:((Rows.scriptConcatenationRow.named==Tryz.prog.varsNamed 11))=true:=by kernel_rfl
theorem scriptConcatenation_j13:((Rows.scriptConcatenationRow.maps==(Tryz.f11.params.toList++Rows.scriptConcatenationSpec.plain.varTypes Tryz.prog).any (Tryz.prog.mapsRec ·)))=true:=by kernel_rfl
theorem scriptConcatenation_j14:((Rows.scriptConcatenationRow.ifaces==(Tryz.f11.params.toList++Rows.scriptConcatenationSpec.plain.varTypes Tryz.prog).any (Tryz.prog.ifacesRec ·)))=true:=by kernel_rfl
theorem scriptConcatenation_j15:((Rows.scriptConcatenationRow.mapsOut==Tryz.prog.mapsAmong Tryz.f11.resultTypes.toList))=true:=by kernel_rfl
theorem scriptConcatenation_j16:((Rows.scriptConcatenationRow.loops==(Tryz.f11.params.toList++Rows.scriptConcatenationSpec.plain.varTypes Tryz.prog).any (Tryz.prog.loopsFrom ·)))=true:=by kernel_rfl
theorem scriptConcatenation_j17:((Rows.scriptConcatenationRow.wideKeys==(Tryz.f11.params.toList++Rows.scriptConcatenationSpec.plain.varTypes Tryz.prog++Tryz.f11.resultTypes.toList).any (Tryz.prog.wideKeysFrom ·)))=true:=by kernel_rfl
theorem scriptConcatenation_j18:(Rows.scriptConcatenationSpec.vars.all (Tryz.prog.varReadable ·))=true:=by kernel_rfl
theorem scriptConcatenation_j19:(Tryz.f11.resultTypes.all (fun t=>Tryz.prog.readableRec t&&decide (t<Tryz.prog.types.size)))=true:=by kernel_rfl
theorem scriptConcatenation_j20:((Rows.scriptConcatenationRow.ifacesOut==Tryz.f11.resultTypes.toList.any (Tryz.prog.ifacesRec ·)))=true:=by kernel_rfl
theorem scriptConcatenation_j21:((Rows.scriptConcatenationRow.loopsOut==Tryz.f11.resultTypes.toList.any (Tryz.prog.loopsFrom ·)))=true:=by kernel_rfl
theorem scriptConcatenation_j22:((Rows.scriptConcatenationRow.plainKeys==Tryz.prog.plainKeys))=true:=by kernel_rfl
theorem scriptConcatenation_j23:(Rows.scriptConcatenationRow.shortTexts.isNone)=true:=by kernel_rfl
theorem scriptConcatenation_j24:(Tryz.prog.stopsHeard)=true:=by kernel_rfl
theorem scriptConcatenation_j25:(Tryz.prog.mayEnter)=true:=by kernel_rfl
theorem scriptConcatenation_j26:((Rows.scriptConcatenationRow.lifted==Tryz.prog.liftsFinal))=true:=by kernel_rfl
theorem scriptConcatenation_j27:((Tryz.prog.make==some Rows.scriptConcatenationRow.make))=true:=by kernel_rfl
theorem scriptConcatenation_j29:((Rows.scriptConcatenationRow.pinned==Rows.scriptConcatenationRow.pinnedBy))=true:=by kernel_rfl
theorem scriptConcatenation_j30:((Rows.scriptConcatenationRow.veiled==(Tryz.f11.params.toList++Rows.scriptConcatenationSpec.plain.varTypes Tryz.prog++Tryz.f11.resultTypes.toList).any (Tryz.prog.veiledRec ·)))=true:=by kernel_rfl
theorem scriptConcatenation_j31:(Rows.scriptConcatenationRow.veiledFits Tryz.prog Tryz.f11.params.toList (Tryz.f11.params.toList++Rows.scriptConcatenationSpec.plain.varTypes Tryz.prog++Tryz.f11.resultTypes.toList))=true:=by kernel_rfl
set_option maxRecDepth 100000 in
theorem scriptConcatenation_joined:joinedFacts Tryz.prog 11 Tryz.f11 Rows.scriptConcatenationSpec Rows.scriptConcatenationRow=true:=by
 unfold joinedFacts
 simp only [Bool.and_eq_true]
 refine ⟨⟨⟨⟨⟨⟨⟨⟨⟨⟨⟨⟨⟨⟨⟨⟨⟨⟨⟨⟨⟨⟨⟨⟨⟨⟨⟨⟨⟨⟨⟨scriptConcatenation_j0,scriptConcatenation_j1⟩,scriptConcatenation_j2⟩,scriptConcatenation_j3⟩,scriptConcatenation_j4⟩,scriptConcatenation_j5⟩,scriptConcatenation_j6⟩,scriptConcatenation_j7⟩,scriptConcatenation_j8⟩,scriptConcatenation_j9⟩,scriptConcatenation_j10⟩,scriptConcatenation_j11⟩,scriptConcatenation_j12⟩,scriptConcatenation_j13⟩,scriptConcatenation_j14⟩,scriptConcatenation_j15⟩,scriptConcatenation_j16⟩,scriptConcatenation_j17⟩,scriptConcatenation_j18⟩,scriptConcatenation_j19⟩,scriptConcatenation_j20⟩,scriptConcatenation_j21⟩,scriptConcatenation_j22⟩,scriptConcatenation_j23⟩,scriptConcatenation_j24⟩,scriptConcatenation_j25⟩,scriptConcatenation_j26⟩,scriptConcatenation_j27⟩,?_⟩,scriptConcatenation_j29⟩,scriptConcatenation_j30⟩,scriptConcatenation_j31⟩
 all_goals kernel_rfl
theorem scriptConcatenation_over:Rows.scriptConcatenationRow.holds Tryz.pinned (OpenSpec.ofChange Rows.scriptConcatenationSpec) :=
 OpenClaim.holds_of_wide 11 Tryz.f11 rfl rfl rfl rfl rfl rfl rfl ⟨rfl,rfl,rfl,rfl,rfl⟩ rfl rfl rfl rfl rfl (by kernel_rfl) Tryz.func11 scriptConcatenation_joined
  (of_decide_eq_true (by kernel_rfl)) (by unfold Func.isWrapper;first|(rw [if_pos (by decide +kernel)];kernel_rfl)|(rw [if_neg (by decide +kernel)];exact ⟨rfl,rfl⟩))
  (fun os started H enc _=>scriptConcatenation_lifted os started H enc)
theorem scriptConcatenation_card:Rows.ScriptConcatenationCardSaid :=
 Claim7.holds_tied_plain_at .later [] [.data,.data,.data,.sentinel,.sentinel] true (true,"44be7ab985994737626768a5aed9e53801e71f6af69e465e77bb5aa78118a39b") true scriptConcatenation_over (fun _ h=>by cases h) (by kernel_rfl) (fun _ h=>by cases h) scriptConcatenation_row_tie rfl ⟨rfl,rfl⟩ (by kernel_rfl) rfl
  (fun f fn hf hfn=>by
   obtain rfl:f=11:=Option.some.inj ((show Tryz.prog.funcNamed "stemma/stemkeep2.ScriptConcatenation"=some 11 by kernel_rfl).symm.trans hf) |>.symm
   obtain rfl:fn=Tryz.f11:=(Option.some.inj (Tryz.func11.symm.trans hfn)).symm
   exact ⟨by kernel_rfl,fun j t ht=>by
    rw [Tryz.params11] at ht
    have hm:t∈[26,82,82]:=by simpa using Array.mem_of_getElem? ht
    have hall:([26,82,82].all fun u=>!Tryz.prog.wantsStandIn u)=true:=by kernel_rfl
    exact (show Tryz.prog.wantsStandIn t=false by simpa using List.all_eq_true.1 hall t hm)⟩)
  (by kernel_rfl)
end Go.Bw
namespace Go.Proofs.YtdnapljegcihiaaGreatDoor
theorem scriptConcatenation_holds:Rows.ScriptConcatenationCardSaid:=Go.Bw.scriptConcatenation_card
#print axioms scriptConcatenation_holds
end Go.Proofs.YtdnapljegcihiaaGreatDoor
