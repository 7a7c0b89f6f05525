/-
  WHAT IS PROVED HERE: the law ComplementConforms answers true for every input, and its arguments read behind the call as they read before. No condition beyond those that the form of the statement gives.
-/
import Derived.Test.YtdnapljegcihiaaGreatDoorN36a
set_option linter.unusedSimpArgs false
set_option linter.unusedVariables false
namespace Go.Bw
open Go.Proofs
open Go.ChangeShapes Go.RowKit Go.Proofs.YtdnapljegcihiaaGreatDoor
set_option maxRecDepth 100000 in
theorem complementConforms_lifted (os:Os) (started:os.Started) (H:Type) (enc:TypeId×Value→H) :
  ReturnsInHanded {} Tryz.checked os 5 .any (fun w args=>(Rows.complementConformsSpec.pre enc Tryz.prog Tryz.f5 Rows.complementConformsRow.domain false w args∧laidMetH Tryz.prog Rows.complementConformsRow.laid w)∧sizedMet enc Tryz.prog Tryz.f5 (OpenSpec.ofChange Rows.complementConformsSpec) false w args) (Rows.complementConformsSpec.post enc Tryz.prog Tryz.f5 false true false false):=by
 refine returnsInHanded_of_change_and (C:=Tryz.checked) (X:=fun w _=>laidMetH Tryz.prog Rows.complementConformsRow.laid w) (fun _ _ _ hh h=>h.of_heap hh) ownK started (by kernel_rfl) Tryz.func5
  (ChangeSpec.witness_shaped (enc:=enc) (C:=Tryz.checked) (os:=os) (X:=fun w _=>laidMetH Tryz.prog Rows.complementConformsRow.laid w) false (World.laidAll Tryz.prog os Rows.complementConformsRow.laid) #[.agg #[.slice none 0 0,.slice none 0 0,.slice none 0 0],.agg #[.int .i64 0,.string ByteArray.empty,.string ByteArray.empty,.string ByteArray.empty,.string ByteArray.empty,.int .i64 0,.slice none 0 0,.string ByteArray.empty,.int .i64 0,.int .i64 0,.string ByteArray.empty,.string ByteArray.empty,.slice none 0 0,.slice none 0 0,.string ByteArray.empty,.int .i64 0,.string ByteArray.empty,.int .i64 0,.int .i64 0,.int .i64 0,.string ByteArray.empty,.string ByteArray.empty,.slice none 0 0,.string ByteArray.empty]] 8 (World.laidAll_os _ _ _)
   (World.shaped_of_ZipB (by kernel_rfl) (by kernel_rfl)) (by kernel_rfl) (by kernel_rfl) (by kernel_rfl)
   (by rw [MakeChecks.laidMetH_plain _ _ _ (by kernel_rfl)];exact laidMet_laidAll _ (by kernel_rfl) (by kernel_rfl))) ?_
 intro W base args ds gs before hval hW hcnd hsz hL _
 rw [MakeChecks.laidMetH_plain _ _ _ (by kernel_rfl)] at hL
 have hW0:=hW
 obtain ⟨p,q,hA,hV,rfl,hfz,hnd⟩:=hW0
 have hA:DataW.TrodAll enc Tryz.prog W 0 (fun _=>true) true Tryz.f5.params.toList args.toList ds p:=hA
 have hval:∀(j:Nat) t v,Tryz.f5.params[j]?=some t→args[j]?=some v→Value.okWide Tryz.prog W .any base t v:=hval
 rw [Tryz.params5] at hA hval
 obtain ⟨v0,vs0,d0,ds0,p0,q0,ha,rfl,rfl,h0,r0⟩:=trodAll_cons hA
 obtain ⟨v1,vs1,d1,ds1,p1,q1,rfl,rfl,rfl,h1,r1⟩:=trodAll_cons r0
 obtain ⟨rfl,rfl,rfl⟩:=trodAll_nil r1
 obtain rfl:args=#[v0,v1]:=by cases args;simp_all
 have hv0:=hval 0 _ v0 rfl rfl
 simp only [Value.okWide,Tryz.underlying26] at hv0
 obtain ⟨cs0,rfl,_,_⟩:=hv0
 obtain ⟨n0,h0⟩:=h0
 obtain ⟨s,hs,x0⟩:=rd_sch.get h0 fun n hn=>by
  have:=List.all_eq_true.1 hsz n (DataW.weights_mem_each (j:=0) rfl rfl n hn)
  simpa using this
 have hv1:=hval 1 _ v1 rfl rfl
 simp only [Value.okWide,Tryz.underlying38] at hv1
 obtain ⟨cs1,rfl,_,_⟩:=hv1
 obtain ⟨n1,h1⟩:=h1
 obtain ⟨st,hst,x1⟩:=rd_stp.get h1 fun n hn=>by
  have:=List.all_eq_true.1 hsz n (DataW.weights_mem_each (j:=1) rfl rfl n hn)
  simpa using this
 refine (calls_of_sat Tryz.func5 rfl (by kernel_rfl) (complementConforms_sat s st hs.fits hst.fits) (vs:=[.agg cs0,.agg cs1]) (fun ω=>argsRep_cons (vrep_agg x0) (argsRep_cons (vrep_agg x1) argsRep_nil)) (.inr (laidW_vals hL))).mono fun e W' ⟨he,hb⟩=>?_
 subst he
 exact ⟨_,rfl,post_of_below laid (rt:=4) (by kernel_rfl) Tryz.underlying4 (by kernel_rfl) rfl hW hb rfl⟩
theorem complementConforms_j0:(Rows.complementConformsRow.wf (OpenSpec.ofChange Rows.complementConformsSpec))=true:=by kernel_rfl
theorem complementConforms_j1:(laidOutB Tryz.prog)=true:=by kernel_rfl
theorem complementConforms_j2:(mapsRowed Tryz.prog)=true:=by kernel_rfl
theorem complementConforms_j3:(Tryz.f5.params.all (Tryz.prog.readableRec ·))=true:=by kernel_rfl
theorem complementConforms_j4:(namedTie Tryz.prog Rows.complementConformsRow.named Rows.complementConformsSpec.vars)=true:=by kernel_rfl
theorem complementConforms_j5:((Rows.complementConformsRow.stops==[]))=true:=by kernel_rfl
theorem complementConforms_j6:((Tryz.prog.stops==[]))=true:=by kernel_rfl
theorem complementConforms_j7:((Rows.complementConformsRow.knobs==[]))=true:=by kernel_rfl
theorem complementConforms_j8:((Tryz.prog.stopKnobs==[]))=true:=by kernel_rfl
theorem complementConforms_j9:((Rows.complementConformsRow.inPlace==Tryz.prog.inPlace 5))=true:=by kernel_rfl
theorem complementConforms_j10:((Rows.complementConformsRow.unfollowed==Tryz.prog.unfollowed 5))=true:=by kernel_rfl
theorem complementConforms_j11:((Rows.complementConformsRow.recurses==Tryz.prog.recurses 5))=true:=by kernel_rfl
theorem complementConforms_j12:((Rows.complementConformsRow.named==Tryz.prog.varsNamed 5))=true:=by kernel_rfl
theorem complementConforms_j13:((Rows.complementConformsRow.maps==(Tryz.f5.params.toList++Rows.complementConformsSpec.plain.varTypes Tryz.prog).any (Tryz.prog.mapsRec ·)))=true:=by kernel_rfl
theorem complementConforms_j14:((Rows.complementConformsRow.ifaces==(Tryz.f5.params.toList++Rows.complementConformsSpec.plain.varTypes Tryz.prog).any (Tryz.prog.ifacesRec ·)))=true:=by kernel_rfl
theorem complementConforms_j15:((Rows.complementConformsRow.mapsOut==Tryz.prog.mapsAmong Tryz.f5.resultTypes.toList))=true:=by kernel_rfl
theorem complementConforms_j16:((Rows.complementConformsRow.loops==(Tryz.f5.params.toList++Rows.complementConformsSpec.plain.varTypes Tryz.prog).any (Tryz.prog.loopsFrom ·)))=true:=by kernel_rfl
theorem complementConforms_j17:((Rows.complementConformsRow.wideKeys==(Tryz.f5.params.toList++Rows.complementConformsSpec.plain.varTypes Tryz.prog++Tryz.f5.resultTypes.toList).any (Tryz.prog.wideKeysFrom ·)))=true:=by kernel_rfl
theorem complementConforms_j18:(Rows.complementConformsSpec.vars.all (Tryz.prog.varReadable ·))=true:=by kernel_rfl
theorem complementConforms_j19:(Tryz.f5.resultTypes.all (fun t=>Tryz.prog.readableRec t&&decide (t<Tryz.prog.types.size)))=true:=by kernel_rfl
theorem complementConforms_j20:((Rows.complementConformsRow.ifacesOut==Tryz.f5.resultTypes.toList.any (Tryz.prog.ifacesRec ·)))=true:=by kernel_rfl
theorem complementConforms_j21:((Rows.complementConformsRow.loopsOut==Tryz.f5.resultTypes.toList.any (Tryz.prog.loopsFrom ·)))=true:=by kernel_rfl
theorem complementConforms_j22:((Rows.complementConformsRow.plainKeys==Tryz.prog.plainKeys))=true:=by kernel_rfl
theorem complementConforms_j23:(Rows.complementConformsRow.shortTexts.isNone)=true:=by kernel_rfl
theorem complementConforms_j24:(Tryz.prog.stopsHeard)=true:=by kernel_rfl
theorem complementConforms_j25:(Tryz.prog.mayEnter)=true:=by kernel_rfl
theorem complementConforms_j26:((Rows.complementConformsRow.lifted==Tryz.prog.liftsFinal))=true:=by kernel_rfl
theorem complementConforms_j27:((Tryz.prog.make==some Rows.complementConformsRow.make))=true:=by kernel_rfl
theorem complementConforms_j29:((Rows.complementConformsRow.pinned==Rows.complementConformsRow.pinnedBy))=true:=by kernel_rfl
theorem complementConforms_j30:((Rows.complementConformsRow.veiled==(Tryz.f5.params.toList++Rows.complementConformsSpec.plain.varTypes Tryz.prog++Tryz.f5.resultTypes.toList).any (Tryz.prog.veiledRec ·)))=true:=by kernel_rfl
theorem complementConforms_j31:(Rows.complementConformsRow.veiledFits Tryz.prog Tryz.f5.params.toList (Tryz.f5.params.toList++Rows.complementConformsSpec.plain.varTypes Tryz.prog++Tryz.f5.resultTypes.toList))=true:=by kernel_rfl
set_option maxRecDepth 100000 in
theorem complementConforms_joined:joinedFacts Tryz.prog 5 Tryz.f5 Rows.complementConformsSpec Rows.complementConformsRow=true:=by
 unfold joinedFacts
 simp only [Bool.and_eq_true]
 refine ⟨⟨⟨⟨⟨⟨⟨⟨⟨⟨⟨⟨⟨⟨⟨⟨⟨⟨⟨⟨⟨⟨⟨⟨⟨⟨⟨⟨⟨⟨⟨complementConforms_j0,complementConforms_j1⟩,complementConforms_j2⟩,complementConforms_j3⟩,complementConforms_j4⟩,complementConforms_j5⟩,complementConforms_j6⟩,complementConforms_j7⟩,complementConforms_j8⟩,complementConforms_j9⟩,complementConforms_j10⟩,complementConforms_j11⟩,complementConforms_j12⟩,complementConforms_j13⟩,complementConforms_j14⟩,complementConforms_j15⟩,complementConforms_j16⟩,complementConforms_j17⟩,complementConforms_j18⟩,complementConforms_j19⟩,complementConforms_j20⟩,complementConforms_j21⟩,complementConforms_j22⟩,complementConforms_j23⟩,complementConforms_j24⟩,complementConforms_j25⟩,complementConforms_j26⟩,complementConforms_j27⟩,?_⟩,complementConforms_j29⟩,complementConforms_j30⟩,complementConforms_j31⟩
 all_goals kernel_rfl
theorem complementConforms_over:Rows.complementConformsRow.holds Tryz.pinned (OpenSpec.ofChange Rows.complementConformsSpec) :=
 OpenClaim.holds_of_wide 5 Tryz.f5 rfl rfl rfl rfl rfl rfl rfl ⟨rfl,rfl,rfl,rfl,rfl⟩ rfl rfl rfl rfl rfl (by kernel_rfl) Tryz.func5 complementConforms_joined
  (of_decide_eq_true (by kernel_rfl)) (by unfold Func.isWrapper;first|(rw [if_pos (by decide +kernel)];kernel_rfl)|(rw [if_neg (by decide +kernel)];exact ⟨rfl,rfl⟩))
  (fun os started H enc _=>complementConforms_lifted os started H enc)
theorem complementConforms_card:Rows.ComplementConformsCardSaid :=
 Claim7.holds_tied_plain_at .later [] [.data,.data,.data,.sentinel,.sentinel] true (true,"44be7ab985994737626768a5aed9e53801e71f6af69e465e77bb5aa78118a39b") true complementConforms_over (fun _ h=>by cases h) (by kernel_rfl) (fun _ h=>by cases h) complementConforms_row_tie rfl ⟨rfl,rfl⟩ (by kernel_rfl) rfl
  (fun f fn hf hfn=>by
   obtain rfl:f=5:=Option.some.inj ((show Tryz.prog.funcNamed "stemma/stemkeep2.ComplementConforms"=some 5 by kernel_rfl).symm.trans hf) |>.symm
   obtain rfl:fn=Tryz.f5:=(Option.some.inj (Tryz.func5.symm.trans hfn)).symm
   exact ⟨by kernel_rfl,fun j t ht=>by
    rw [Tryz.params5] at ht
    have hm:t∈[26,38]:=by simpa using Array.mem_of_getElem? ht
    have hall:([26,38].all fun u=>!Tryz.prog.wantsStandIn u)=true:=by kernel_rfl
    exact (show Tryz.prog.wantsStandIn t=false by simpa using List.all_eq_true.1 hall t hm)⟩)
  (by kernel_rfl)
end Go.Bw
namespace Go.Proofs.YtdnapljegcihiaaGreatDoor
theorem complementConforms_holds:Rows.ComplementConformsCardSaid:=Go.Bw.complementConforms_card
#print axioms complementConforms_holds
end Go.Proofs.YtdnapljegcihiaaGreatDoor
