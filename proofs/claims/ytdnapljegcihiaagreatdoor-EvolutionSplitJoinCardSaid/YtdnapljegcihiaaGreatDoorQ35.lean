/-
  WHAT IS PROVED HERE: the law EvolutionSplitJoin answers true for every input, and its arguments read behind the call as they read before. No condition beyond those that the form of the statement gives.
-/
import Derived.Test.YtdnapljegcihiaaGreatDoorN35a
set_option linter.unusedSimpArgs false
set_option linter.unusedVariables false
namespace Go.Bw
open Go.Proofs
open Go.ChangeShapes Go.RowKit Go.Proofs.YtdnapljegcihiaaGreatDoor
set_option maxRecDepth 100000 in
theorem evolutionSplitJoin_lifted (os:Os) (started:os.Started) (H:Type) (enc:TypeId×Value→H) :
  ReturnsInHanded {} Tryz.checked os 4 .any (fun w args=>(Rows.evolutionSplitJoinSpec.pre enc Tryz.prog Tryz.f4 Rows.evolutionSplitJoinRow.domain false w args∧laidMetH Tryz.prog Rows.evolutionSplitJoinRow.laid w)∧sizedMet enc Tryz.prog Tryz.f4 (OpenSpec.ofChange Rows.evolutionSplitJoinSpec) false w args) (Rows.evolutionSplitJoinSpec.post enc Tryz.prog Tryz.f4 false true false false):=by
 refine returnsInHanded_of_change_and (C:=Tryz.checked) (X:=fun w _=>laidMetH Tryz.prog Rows.evolutionSplitJoinRow.laid w) (fun _ _ _ hh h=>h.of_heap hh) ownK started (by kernel_rfl) Tryz.func4
  (ChangeSpec.witness_shaped (enc:=enc) (C:=Tryz.checked) (os:=os) (X:=fun w _=>laidMetH Tryz.prog Rows.evolutionSplitJoinRow.laid w) false (World.laidAll Tryz.prog os Rows.evolutionSplitJoinRow.laid) #[.agg #[.slice none 0 0,.slice none 0 0,.slice none 0 0],.agg #[.int .i64 0,.string ByteArray.empty,.string ByteArray.empty,.string ByteArray.empty,.string ByteArray.empty,.int .i64 0,.slice none 0 0,.string ByteArray.empty,.int .i64 0,.int .i64 0,.string ByteArray.empty,.string ByteArray.empty,.slice none 0 0,.slice none 0 0,.string ByteArray.empty,.int .i64 0,.string ByteArray.empty,.int .i64 0,.int .i64 0,.int .i64 0,.string ByteArray.empty,.string ByteArray.empty,.slice none 0 0,.string ByteArray.empty]] 8 (World.laidAll_os _ _ _)
   (World.shaped_of_ZipB (by kernel_rfl) (by kernel_rfl)) (by kernel_rfl) (by kernel_rfl) (by kernel_rfl)
   (by rw [MakeChecks.laidMetH_plain _ _ _ (by kernel_rfl)];exact laidMet_laidAll _ (by kernel_rfl) (by kernel_rfl))) ?_
 intro W base args ds gs before hval hW hcnd hsz hL _
 rw [MakeChecks.laidMetH_plain _ _ _ (by kernel_rfl)] at hL
 have hW0:=hW
 obtain ⟨p,q,hA,hV,rfl,hfz,hnd⟩:=hW0
 have hA:DataW.TrodAll enc Tryz.prog W 0 (fun _=>true) true Tryz.f4.params.toList args.toList ds p:=hA
 have hval:∀(j:Nat) t v,Tryz.f4.params[j]?=some t→args[j]?=some v→Value.okWide Tryz.prog W .any base t v:=hval
 rw [Tryz.params4] at hA hval
 obtain ⟨v0,vs0,d0,ds0,p0,q0,ha,rfl,rfl,h0,r0⟩:=trodAll_cons hA
 obtain ⟨v1,vs1,d1,ds1,p1,q1,rfl,rfl,rfl,h1,r1⟩:=trodAll_cons r0
 obtain ⟨rfl,rfl,rfl⟩:=trodAll_nil r1
 obtain rfl:args=#[v0,v1]:=by cases args;simp_all
 have hv0:=hval 0 _ v0 rfl rfl
 simp only [Value.okWide,Tryz.underlying26] at hv0
 obtain ⟨cs0,rfl,_,_⟩:=hv0
 obtain ⟨n0,h0⟩:=h0
 obtain ⟨s,hs,x0⟩:=rd_sch.get h0 fun n hn=>by
  have:=List.all_eq_true.1 hsz n (DataW.weights_mem_each (j:=0) rfl rfl n hn)
  simpa using this
 have hv1:=hval 1 _ v1 rfl rfl
 simp only [Value.okWide,Tryz.underlying38] at hv1
 obtain ⟨cs1,rfl,_,_⟩:=hv1
 obtain ⟨n1,h1⟩:=h1
 obtain ⟨st,hst,x1⟩:=rd_stp.get h1 fun n hn=>by
  have:=List.all_eq_true.1 hsz n (DataW.weights_mem_each (j:=1) rfl rfl n hn)
  simpa using this
 refine (calls_of_sat Tryz.func4 rfl (by kernel_rfl) (evolutionSplitJoin_sat s st hs.fits hst.fits) (vs:=[.agg cs0,.agg cs1]) (fun ω=>argsRep_cons (vrep_agg x0) (argsRep_cons (vrep_agg x1) argsRep_nil)) (.inr (laidW_vals hL))).mono fun e W' ⟨he,hb⟩=>?_
 subst he
 exact ⟨_,rfl,post_of_below laid (rt:=4) (by kernel_rfl) Tryz.underlying4 (by kernel_rfl) rfl hW hb rfl⟩
theorem evolutionSplitJoin_j0:(Rows.evolutionSplitJoinRow.wf (OpenSpec.ofChange Rows.evolutionSplitJoinSpec))=true:=by kernel_rfl
theorem evolutionSplitJoin_j1:(laidOutB Tryz.prog)=true:=by kernel_rfl
theorem evolutionSplitJoin_j2:(mapsRowed Tryz.prog)=true:=by kernel_rfl
theorem evolutionSplitJoin_j3:(Tryz.f4.params.all (Tryz.prog.readableRec ·))=true:=by kernel_rfl
theorem evolutionSplitJoin_j4:(namedTie Tryz.prog Rows.evolutionSplitJoinRow.named Rows.evolutionSplitJoinSpec.vars)=true:=by kernel_rfl
theorem evolutionSplitJoin_j5:((Rows.evolutionSplitJoinRow.stops==[]))=true:=by kernel_rfl
theorem evolutionSplitJoin_j6:((Tryz.prog.stops==[]))=true:=by kernel_rfl
theorem evolutionSplitJoin_j7:((Rows.evolutionSplitJoinRow.knobs==[]))=true:=by kernel_rfl
theorem evolutionSplitJoin_j8:((Tryz.prog.stopKnobs==[]))=true:=by kernel_rfl
theorem evolutionSplitJoin_j9:((Rows.evolutionSplitJoinRow.inPlace==Tryz.prog.inPlace 4))=true:=by kernel_rfl
theorem evolutionSplitJoin_j10:((Rows.evolutionSplitJoinRow.unfollowed==Tryz.prog.unfollowed 4))=true:=by kernel_rfl
theorem evolutionSplitJoin_j11:((Rows.evolutionSplitJoinRow.recurses==Tryz.prog.recurses 4))=true:=by kernel_rfl
theorem evolutionSplitJoin_j12:((Rows.evolutionSplitJoinRow.named==Tryz.prog.varsNamed 4))=true:=by kernel_rfl
theorem evolutionSplitJoin_j13:((Rows.evolutionSplitJoinRow.maps==(Tryz.f4.params.toList++Rows.evolutionSplitJoinSpec.plain.varTypes Tryz.prog).any (Tryz.prog.mapsRec ·)))=true:=by kernel_rfl
theorem evolutionSplitJoin_j14:((Rows.evolutionSplitJoinRow.ifaces==(Tryz.f4.params.toList++Rows.evolutionSplitJoinSpec.plain.varTypes Tryz.prog).any (Tryz.prog.ifacesRec ·)))=true:=by kernel_rfl
theorem evolutionSplitJoin_j15:((Rows.evolutionSplitJoinRow.mapsOut==Tryz.prog.mapsAmong Tryz.f4.resultTypes.toList))=true:=by kernel_rfl
theorem evolutionSplitJoin_j16:((Rows.evolutionSplitJoinRow.loops==(Tryz.f4.params.toList++Rows.evolutionSplitJoinSpec.plain.varTypes Tryz.prog).any (Tryz.prog.loopsFrom ·)))=true:=by kernel_rfl
theorem evolutionSplitJoin_j17:((Rows.evolutionSplitJoinRow.wideKeys==(Tryz.f4.params.toList++Rows.evolutionSplitJoinSpec.plain.varTypes Tryz.prog++Tryz.f4.resultTypes.toList).any (Tryz.prog.wideKeysFrom ·)))=true:=by kernel_rfl
theorem evolutionSplitJoin_j18:(Rows.evolutionSplitJoinSpec.vars.all (Tryz.prog.varReadable ·))=true:=by kernel_rfl
theorem evolutionSplitJoin_j19:(Tryz.f4.resultTypes.all (fun t=>Tryz.prog.readableRec t&&decide (t<Tryz.prog.types.size)))=true:=by kernel_rfl
theorem evolutionSplitJoin_j20:((Rows.evolutionSplitJoinRow.ifacesOut==Tryz.f4.resultTypes.toList.any (Tryz.prog.ifacesRec ·)))=true:=by kernel_rfl
theorem evolutionSplitJoin_j21:((Rows.evolutionSplitJoinRow.loopsOut==Tryz.f4.resultTypes.toList.any (Tryz.prog.loopsFrom ·)))=true:=by kernel_rfl
theorem evolutionSplitJoin_j22:((Rows.evolutionSplitJoinRow.plainKeys==Tryz.prog.plainKeys))=true:=by kernel_rfl
theorem evolutionSplitJoin_j23:(Rows.evolutionSplitJoinRow.shortTexts.isNone)=true:=by kernel_rfl
theorem evolutionSplitJoin_j24:(Tryz.prog.stopsHeard)=true:=by kernel_rfl
theorem evolutionSplitJoin_j25:(Tryz.prog.mayEnter)=true:=by kernel_rfl
theorem evolutionSplitJoin_j26:((Rows.evolutionSplitJoinRow.lifted==Tryz.prog.liftsFinal))=true:=by kernel_rfl
theorem evolutionSplitJoin_j27:((Tryz.prog.make==some Rows.evolutionSplitJoinRow.make))=true:=by kernel_rfl
theorem evolutionSplitJoin_j29:((Rows.evolutionSplitJoinRow.pinned==Rows.evolutionSplitJoinRow.pinnedBy))=true:=by kernel_rfl
theorem evolutionSplitJoin_j30:((Rows.evolutionSplitJoinRow.veiled==(Tryz.f4.params.toList++Rows.evolutionSplitJoinSpec.plain.varTypes Tryz.prog++Tryz.f4.resultTypes.toList).any (Tryz.prog.veiledRec ·)))=true:=by kernel_rfl
theorem evolutionSplitJoin_j31:(Rows.evolutionSplitJoinRow.veiledFits Tryz.prog Tryz.f4.params.toList (Tryz.f4.params.toList++Rows.evolutionSplitJoinSpec.plain.varTypes Tryz.prog++Tryz.f4.resultTypes.toList))=true:=by kernel_rfl
set_option maxRecDepth 100000 in
theorem evolutionSplitJoin_joined:joinedFacts Tryz.prog 4 Tryz.f4 Rows.evolutionSplitJoinSpec Rows.evolutionSplitJoinRow=true:=by
 unfold joinedFacts
 simp only [Bool.and_eq_true]
 refine ⟨⟨⟨⟨⟨⟨⟨⟨⟨⟨⟨⟨⟨⟨⟨⟨⟨⟨⟨⟨⟨⟨⟨⟨⟨⟨⟨⟨⟨⟨⟨evolutionSplitJoin_j0,evolutionSplitJoin_j1⟩,evolutionSplitJoin_j2⟩,evolutionSplitJoin_j3⟩,evolutionSplitJoin_j4⟩,evolutionSplitJoin_j5⟩,evolutionSplitJoin_j6⟩,evolutionSplitJoin_j7⟩,evolutionSplitJoin_j8⟩,evolutionSplitJoin_j9⟩,evolutionSplitJoin_j10⟩,evolutionSplitJoin_j11⟩,evolutionSplitJoin_j12⟩,evolutionSplitJoin_j13⟩,evolutionSplitJoin_j14⟩,evolutionSplitJoin_j15⟩,evolutionSplitJoin_j16⟩,evolutionSplitJoin_j17⟩,evolutionSplitJoin_j18⟩,evolutionSplitJoin_j19⟩,evolutionSplitJoin_j20⟩,evolutionSplitJoin_j21⟩,evolutionSplitJoin_j22⟩,evolutionSplitJoin_j23⟩,evolutionSplitJoin_j24⟩,evolutionSplitJoin_j25⟩,evolutionSplitJoin_j26⟩,evolutionSplitJoin_j27⟩,?_⟩,evolutionSplitJoin_j29⟩,evolutionSplitJoin_j30⟩,evolutionSplitJoin_j31⟩
 all_goals kernel_rfl
theorem evolutionSplitJoin_over:Rows.evolutionSplitJoinRow.holds Tryz.pinned (OpenSpec.ofChange Rows.evolutionSplitJoinSpec) :=
 OpenClaim.holds_of_wide 4 Tryz.f4 rfl rfl rfl rfl rfl rfl rfl ⟨rfl,rfl,rfl,rfl,rfl⟩ rfl rfl rfl rfl rfl (by kernel_rfl) Tryz.func4 evolutionSplitJoin_joined
  (of_decide_eq_true (by kernel_rfl)) (by unfold Func.isWrapper;first|(rw [if_pos (by decide +kernel)];kernel_rfl)|(rw [if_neg (by decide +kernel)];exact ⟨rfl,rfl⟩))
  (fun os started H enc _=>evolutionSplitJoin_lifted os started H enc)
theorem evolutionSplitJoin_card:Rows.EvolutionSplitJoinCardSaid :=
 Claim7.holds_tied_plain_at .later [] [.data,.data,.data,.sentinel,.sentinel] true (true,"44be7ab985994737626768a5aed9e53801e71f6af69e465e77bb5aa78118a39b") true evolutionSplitJoin_over (fun _ h=>by cases h) (by kernel_rfl) (fun _ h=>by cases h) evolutionSplitJoin_row_tie rfl ⟨rfl,rfl⟩ (by kernel_rfl) rfl
  (fun f fn hf hfn=>by
   obtain rfl:f=4:=Option.some.inj ((show Tryz.prog.funcNamed "stemma/stemkeep2.EvolutionSplitJoin"=some 4 by kernel_rfl).symm.trans hf) |>.symm
   obtain rfl:fn=Tryz.f4:=(Option.some.inj (Tryz.func4.symm.trans hfn)).symm
   exact ⟨by kernel_rfl,fun j t ht=>by
    rw [Tryz.params4] at ht
    have hm:t∈[26,38]:=by simpa using Array.mem_of_getElem? ht
    have hall:([26,38].all fun u=>!Tryz.prog.wantsStandIn u)=true:=by kernel_rfl
    exact (show Tryz.prog.wantsStandIn t=false by simpa using List.all_eq_true.1 hall t hm)⟩)
  (by kernel_rfl)
end Go.Bw
namespace Go.Proofs.YtdnapljegcihiaaGreatDoor
theorem evolutionSplitJoin_holds:Rows.EvolutionSplitJoinCardSaid:=Go.Bw.evolutionSplitJoin_card
#print axioms evolutionSplitJoin_holds
end Go.Proofs.YtdnapljegcihiaaGreatDoor
