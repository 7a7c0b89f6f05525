/-
  WHAT IS PROVED HERE: the law EvolutionUndo answers true for every input, and its arguments read behind the call as they read before. No condition beyond those that the form of the statement gives.
-/
import Derived.Test.YtdnapljegcihiaaGreatDoorN34a
set_option linter.unusedSimpArgs false
set_option linter.unusedVariables false
namespace Go.Bw
open Go.Proofs
open Go.ChangeShapes Go.RowKit Go.Proofs.YtdnapljegcihiaaGreatDoor
set_option maxRecDepth 100000 in
theorem evolutionUndo_lifted (os:Os) (started:os.Started) (H:Type) (enc:TypeId×Value→H) :
  ReturnsInHanded {} Tryz.checked os 9 .any (fun w args=>(Rows.evolutionUndoSpec.pre enc Tryz.prog Tryz.f9 Rows.evolutionUndoRow.domain false w args∧laidMetH Tryz.prog Rows.evolutionUndoRow.laid w)∧sizedMet enc Tryz.prog Tryz.f9 (OpenSpec.ofChange Rows.evolutionUndoSpec) false w args) (Rows.evolutionUndoSpec.post enc Tryz.prog Tryz.f9 false true false false):=by
 refine returnsInHanded_of_change_and (C:=Tryz.checked) (X:=fun w _=>laidMetH Tryz.prog Rows.evolutionUndoRow.laid w) (fun _ _ _ hh h=>h.of_heap hh) ownK started (by kernel_rfl) Tryz.func9
  (ChangeSpec.witness_shaped (enc:=enc) (C:=Tryz.checked) (os:=os) (X:=fun w _=>laidMetH Tryz.prog Rows.evolutionUndoRow.laid w) false (World.laidAll Tryz.prog os Rows.evolutionUndoRow.laid) #[.agg #[.slice none 0 0,.slice none 0 0,.slice none 0 0],.agg #[.int .i64 0,.string ByteArray.empty,.string ByteArray.empty,.string ByteArray.empty,.string ByteArray.empty,.int .i64 0,.slice none 0 0,.string ByteArray.empty,.int .i64 0,.int .i64 0,.string ByteArray.empty,.string ByteArray.empty,.slice none 0 0,.slice none 0 0,.string ByteArray.empty,.int .i64 0,.string ByteArray.empty,.int .i64 0,.int .i64 0,.int .i64 0,.string ByteArray.empty,.string ByteArray.empty,.slice none 0 0,.string ByteArray.empty]] 8 (World.laidAll_os _ _ _)
   (World.shaped_of_ZipB (by kernel_rfl) (by kernel_rfl)) (by kernel_rfl) (by kernel_rfl) (by kernel_rfl)
   (by rw [MakeChecks.laidMetH_plain _ _ _ (by kernel_rfl)];exact laidMet_laidAll _ (by kernel_rfl) (by kernel_rfl))) ?_
 intro W base args ds gs before hval hW hcnd hsz hL _
 rw [MakeChecks.laidMetH_plain _ _ _ (by kernel_rfl)] at hL
 have hW0:=hW
 obtain ⟨p,q,hA,hV,rfl,hfz,hnd⟩:=hW0
 have hA:DataW.TrodAll enc Tryz.prog W 0 (fun _=>true) true Tryz.f9.params.toList args.toList ds p:=hA
 have hval:∀(j:Nat) t v,Tryz.f9.params[j]?=some t→args[j]?=some v→Value.okWide Tryz.prog W .any base t v:=hval
 rw [Tryz.params9] at hA hval
 obtain ⟨v0,vs0,d0,ds0,p0,q0,ha,rfl,rfl,h0,r0⟩:=trodAll_cons hA
 obtain ⟨v1,vs1,d1,ds1,p1,q1,rfl,rfl,rfl,h1,r1⟩:=trodAll_cons r0
 obtain ⟨rfl,rfl,rfl⟩:=trodAll_nil r1
 obtain rfl:args=#[v0,v1]:=by cases args;simp_all
 have hv0:=hval 0 _ v0 rfl rfl
 simp only [Value.okWide,Tryz.underlying26] at hv0
 obtain ⟨cs0,rfl,_,_⟩:=hv0
 obtain ⟨n0,h0⟩:=h0
 obtain ⟨s,hs,x0⟩:=rd_sch.get h0 fun n hn=>by
  have:=List.all_eq_true.1 hsz n (DataW.weights_mem_each (j:=0) rfl rfl n hn)
  simpa using this
 have hv1:=hval 1 _ v1 rfl rfl
 simp only [Value.okWide,Tryz.underlying38] at hv1
 obtain ⟨cs1,rfl,_,_⟩:=hv1
 obtain ⟨n1,h1⟩:=h1
 obtain ⟨st,hst,x1⟩:=rd_stp.get h1 fun n hn=>by
  have:=List.all_eq_true.1 hsz n (DataW.weights_mem_each (j:=1) rfl rfl n hn)
  simpa using this
 refine (calls_of_sat Tryz.func9 rfl (by kernel_rfl) (evolutionUndo_sat s st hs.fits hst.fits) (vs:=[.agg cs0,.agg cs1]) (fun ω=>argsRep_cons (vrep_agg x0) (argsRep_cons (vrep_agg x1) argsRep_nil)) (.inr (laidW_vals hL))).mono fun e W' ⟨he,hb⟩=>?_
 subst he
 exact ⟨_,rfl,post_of_below laid (rt:=4) (by kernel_rfl) Tryz.underlying4 (by kernel_rfl) rfl hW hb rfl⟩
theorem evolutionUndo_j0:(Rows.evolutionUndoRow.wf (OpenSpec.ofChange Rows.evolutionUndoSpec))=true:=by kernel_rfl
theorem evolutionUndo_j1:(laidOutB Tryz.prog)=true:=by kernel_rfl
theorem evolutionUndo_j2:(mapsRowed Tryz.prog)=true:=by kernel_rfl
theorem evolutionUndo_j3:(Tryz.f9.params.all (Tryz.prog.readableRec ·))=true:=by kernel_rfl
theorem evolutionUndo_j4:(namedTie Tryz.prog Rows.evolutionUndoRow.named Rows.evolutionUndoSpec.vars)=true:=by kernel_rfl
theorem evolutionUndo_j5:((Rows.evolutionUndoRow.stops==[]))=true:=by kernel_rfl
theorem evolutionUndo_j6:((Tryz.prog.stops==[]))=true:=by kernel_rfl
theorem evolutionUndo_j7:((Rows.evolutionUndoRow.knobs==[]))=true:=by kernel_rfl
theorem evolutionUndo_j8:((Tryz.prog.stopKnobs==[]))=true:=by kernel_rfl
theorem evolutionUndo_j9:((Rows.evolutionUndoRow.inPlace==Tryz.prog.inPlace 9))=true:=by kernel_rfl
theorem evolutionUndo_j10:((Rows.evolutionUndoRow.unfollowed==Tryz.prog.unfollowed 9))=true:=by kernel_rfl
theorem evolutionUndo_j11:((Rows.evolutionUndoRow.recurses==Tryz.prog.recurses 9))=true:=by kernel_rfl
theorem evolutionUndo_j12:((Rows.evolutionUndoRow.named==Tryz.prog.varsNamed 9))=true:=by kernel_rfl
theorem evolutionUndo_j13:((Rows.evolutionUndoRow.maps==(Tryz.f9.params.toList++Rows.evolutionUndoSpec.plain.varTypes Tryz.prog).any (Tryz.prog.mapsRec ·)))=true:=by kernel_rfl
theorem evolutionUndo_j14:((Rows.evolutionUndoRow.ifaces==(Tryz.f9.params.toList++Rows.evolutionUndoSpec.plain.varTypes Tryz.prog).any (Tryz.prog.ifacesRec ·)))=true:=by kernel_rfl
theorem evolutionUndo_j15:((Rows.evolutionUndoRow.mapsOut==Tryz.prog.mapsAmong Tryz.f9.resultTypes.toList))=true:=by kernel_rfl
theorem evolutionUndo_j16:((Rows.evolutionUndoRow.loops==(Tryz.f9.params.toList++Rows.evolutionUndoSpec.plain.varTypes Tryz.prog).any (Tryz.prog.loopsFrom ·)))=true:=by kernel_rfl
theorem evolutionUndo_j17:((Rows.evolutionUndoRow.wideKeys==(Tryz.f9.params.toList++Rows.evolutionUndoSpec.plain.varTypes Tryz.prog++Tryz.f9.resultTypes.toList).any (Tryz.prog.wideKeysFrom ·)))=true:=by kernel_rfl
theorem evolutionUndo_j18:(Rows.evolutionUndoSpec.vars.all (Tryz.prog.varReadable ·))=true:=by kernel_rfl
theorem evolutionUndo_j19:(Tryz.f9.resultTypes.all (fun t=>Tryz.prog.readableRec t&&decide (t<Tryz.prog.types.size)))=true:=by kernel_rfl
theorem evolutionUndo_j20:((Rows.evolutionUndoRow.ifacesOut==Tryz.f9.resultTypes.toList.any (Tryz.prog.ifacesRec ·)))=true:=by kernel_rfl
theorem evolutionUndo_j21:((Rows.evolutionUndoRow.loopsOut==Tryz.f9.resultTypes.toList.any (Tryz.prog.loopsFrom ·)))=true:=by kernel_rfl
theorem evolutionUndo_j22:((Rows.evolutionUndoRow.plainKeys==Tryz.prog.plainKeys))=true:=by kernel_rfl
theorem evolutionUndo_j23:(Rows.evolutionUndoRow.shortTexts.isNone)=true:=by kernel_rfl
theorem evolutionUndo_j24:(Tryz.prog.stopsHeard)=true:=by kernel_rfl
theorem evolutionUndo_j25:(Tryz.prog.mayEnter)=true:=by kernel_rfl
theorem evolutionUndo_j26:((Rows.evolutionUndoRow.lifted==Tryz.prog.liftsFinal))=true:=by kernel_rfl
theorem evolutionUndo_j27:((Tryz.prog.make==some Rows.evolutionUndoRow.make))=true:=by kernel_rfl
theorem evolutionUndo_j29:((Rows.evolutionUndoRow.pinned==Rows.evolutionUndoRow.pinnedBy))=true:=by kernel_rfl
theorem evolutionUndo_j30:((Rows.evolutionUndoRow.veiled==(Tryz.f9.params.toList++Rows.evolutionUndoSpec.plain.varTypes Tryz.prog++Tryz.f9.resultTypes.toList).any (Tryz.prog.veiledRec ·)))=true:=by kernel_rfl
theorem evolutionUndo_j31:(Rows.evolutionUndoRow.veiledFits Tryz.prog Tryz.f9.params.toList (Tryz.f9.params.toList++Rows.evolutionUndoSpec.plain.varTypes Tryz.prog++Tryz.f9.resultTypes.toList))=true:=by kernel_rfl
set_option maxRecDepth 100000 in
theorem evolutionUndo_joined:joinedFacts Tryz.prog 9 Tryz.f9 Rows.evolutionUndoSpec Rows.evolutionUndoRow=true:=by
 unfold joinedFacts
 simp only [Bool.and_eq_true]
 refine ⟨⟨⟨⟨⟨⟨⟨⟨⟨⟨⟨⟨⟨⟨⟨⟨⟨⟨⟨⟨⟨⟨⟨⟨⟨⟨⟨⟨⟨⟨⟨evolutionUndo_j0,evolutionUndo_j1⟩,evolutionUndo_j2⟩,evolutionUndo_j3⟩,evolutionUndo_j4⟩,evolutionUndo_j5⟩,evolutionUndo_j6⟩,evolutionUndo_j7⟩,evolutionUndo_j8⟩,evolutionUndo_j9⟩,evolutionUndo_j10⟩,evolutionUndo_j11⟩,evolutionUndo_j12⟩,evolutionUndo_j13⟩,evolutionUndo_j14⟩,evolutionUndo_j15⟩,evolutionUndo_j16⟩,evolutionUndo_j17⟩,evolutionUndo_j18⟩,evolutionUndo_j19⟩,evolutionUndo_j20⟩,evolutionUndo_j21⟩,evolutionUndo_j22⟩,evolutionUndo_j23⟩,evolutionUndo_j24⟩,evolutionUndo_j25⟩,evolutionUndo_j26⟩,evolutionUndo_j27⟩,?_⟩,evolutionUndo_j29⟩,evolutionUndo_j30⟩,evolutionUndo_j31⟩
 all_goals kernel_rfl
theorem evolutionUndo_over:Rows.evolutionUndoRow.holds Tryz.pinned (OpenSpec.ofChange Rows.evolutionUndoSpec) :=
 OpenClaim.holds_of_wide 9 Tryz.f9 rfl rfl rfl rfl rfl rfl rfl ⟨rfl,rfl,rfl,rfl,rfl⟩ rfl rfl rfl rfl rfl (by kernel_rfl) Tryz.func9 evolutionUndo_joined
  (of_decide_eq_true (by kernel_rfl)) (by unfold Func.isWrapper;first|(rw [if_pos (by decide +kernel)];kernel_rfl)|(rw [if_neg (by decide +kernel)];exact ⟨rfl,rfl⟩))
  (fun os started H enc _=>evolutionUndo_lifted os started H enc)
theorem evolutionUndo_card:Rows.EvolutionUndoCardSaid :=
 Claim7.holds_tied_plain_at .later [] [.data,.data,.data,.sentinel,.sentinel] true (true,"44be7ab985994737626768a5aed9e53801e71f6af69e465e77bb5aa78118a39b") true evolutionUndo_over (fun _ h=>by cases h) (by kernel_rfl) (fun _ h=>by cases h) evolutionUndo_row_tie rfl ⟨rfl,rfl⟩ (by kernel_rfl) rfl
  (fun f fn hf hfn=>by
   obtain rfl:f=9:=Option.some.inj ((show Tryz.prog.funcNamed "stemma/stemkeep2.EvolutionUndo"=some 9 by kernel_rfl).symm.trans hf) |>.symm
   obtain rfl:fn=Tryz.f9:=(Option.some.inj (Tryz.func9.symm.trans hfn)).symm
   exact ⟨by kernel_rfl,fun j t ht=>by
    rw [Tryz.params9] at ht
    have hm:t∈[26,38]:=by simpa using Array.mem_of_getElem? ht
    have hall:([26,38].all fun u=>!Tryz.prog.wantsStandIn u)=true:=by kernel_rfl
    exact (show Tryz.prog.wantsStandIn t=false by simpa using List.all_eq_true.1 hall t hm)⟩)
  (by kernel_rfl)
end Go.Bw
namespace Go.Proofs.YtdnapljegcihiaaGreatDoor
theorem evolutionUndo_holds:Rows.EvolutionUndoCardSaid:=Go.Bw.evolutionUndo_card
#print axioms evolutionUndo_holds
end Go.Proofs.YtdnapljegcihiaaGreatDoor
