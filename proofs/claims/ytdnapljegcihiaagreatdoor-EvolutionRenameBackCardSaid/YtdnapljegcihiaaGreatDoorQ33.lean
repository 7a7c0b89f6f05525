/-
  WHAT IS PROVED HERE: the law EvolutionRenameBack answers true for every input, and its arguments read behind the call as they read before. No condition beyond those that the form of the statement gives.
-/
import Derived.Test.YtdnapljegcihiaaGreatDoorN33a
set_option linter.unusedSimpArgs false
set_option linter.unusedVariables false
namespace Go.Bw
open Go.Proofs
open Go.ChangeShapes Go.RowKit Go.Proofs.YtdnapljegcihiaaGreatDoor
set_option maxRecDepth 100000 in
theorem evolutionRenameBack_lifted (os:Os) (started:os.Started) (H:Type) (enc:TypeId×Value→H) :
  ReturnsInHanded {} Tryz.checked os 8 .any (fun w args=>(Rows.evolutionRenameBackSpec.pre enc Tryz.prog Tryz.f8 Rows.evolutionRenameBackRow.domain false w args∧laidMetH Tryz.prog Rows.evolutionRenameBackRow.laid w)∧sizedMet enc Tryz.prog Tryz.f8 (OpenSpec.ofChange Rows.evolutionRenameBackSpec) false w args) (Rows.evolutionRenameBackSpec.post enc Tryz.prog Tryz.f8 false true false false):=by
 refine returnsInHanded_of_change_and (C:=Tryz.checked) (X:=fun w _=>laidMetH Tryz.prog Rows.evolutionRenameBackRow.laid w) (fun _ _ _ hh h=>h.of_heap hh) ownK started (by kernel_rfl) Tryz.func8
  (ChangeSpec.witness_shaped (enc:=enc) (C:=Tryz.checked) (os:=os) (X:=fun w _=>laidMetH Tryz.prog Rows.evolutionRenameBackRow.laid w) false (World.laidAll Tryz.prog os Rows.evolutionRenameBackRow.laid) #[.agg #[.slice none 0 0,.slice none 0 0,.slice none 0 0],.agg #[.int .i64 0,.string ByteArray.empty,.string ByteArray.empty,.string ByteArray.empty,.string ByteArray.empty,.int .i64 0,.slice none 0 0,.string ByteArray.empty,.int .i64 0,.int .i64 0,.string ByteArray.empty,.string ByteArray.empty,.slice none 0 0,.slice none 0 0,.string ByteArray.empty,.int .i64 0,.string ByteArray.empty,.int .i64 0,.int .i64 0,.int .i64 0,.string ByteArray.empty,.string ByteArray.empty,.slice none 0 0,.string ByteArray.empty]] 8 (World.laidAll_os _ _ _)
   (World.shaped_of_ZipB (by kernel_rfl) (by kernel_rfl)) (by kernel_rfl) (by kernel_rfl) (by kernel_rfl)
   (by rw [MakeChecks.laidMetH_plain _ _ _ (by kernel_rfl)];exact laidMet_laidAll _ (by kernel_rfl) (by kernel_rfl))) ?_
 intro W base args ds gs before hval hW hcnd hsz hL _
 rw [MakeChecks.laidMetH_plain _ _ _ (by kernel_rfl)] at hL
 have hW0:=hW
 obtain ⟨p,q,hA,hV,rfl,hfz,hnd⟩:=hW0
 have hA:DataW.TrodAll enc Tryz.prog W 0 (fun _=>true) true Tryz.f8.params.toList args.toList ds p:=hA
 have hval:∀(j:Nat) t v,Tryz.f8.params[j]?=some t→args[j]?=some v→Value.okWide Tryz.prog W .any base t v:=hval
 rw [Tryz.params8] at hA hval
 obtain ⟨v0,vs0,d0,ds0,p0,q0,ha,rfl,rfl,h0,r0⟩:=trodAll_cons hA
 obtain ⟨v1,vs1,d1,ds1,p1,q1,rfl,rfl,rfl,h1,r1⟩:=trodAll_cons r0
 obtain ⟨rfl,rfl,rfl⟩:=trodAll_nil r1
 obtain rfl:args=#[v0,v1]:=by cases args;simp_all
 have hv0:=hval 0 _ v0 rfl rfl
 simp only [Value.okWide,Tryz.underlying26] at hv0
 obtain ⟨cs0,rfl,_,_⟩:=hv0
 obtain ⟨n0,h0⟩:=h0
 obtain ⟨s,hs,x0⟩:=rd_sch.get h0 fun n hn=>by
  have:=List.all_eq_true.1 hsz n (DataW.weights_mem_each (j:=0) rfl rfl n hn)
  simpa using this
 have hv1:=hval 1 _ v1 rfl rfl
 simp only [Value.okWide,Tryz.underlying38] at hv1
 obtain ⟨cs1,rfl,_,_⟩:=hv1
 obtain ⟨n1,h1⟩:=h1
 obtain ⟨st,hst,x1⟩:=rd_stp.get h1 fun n hn=>by
  have:=List.all_eq_true.1 hsz n (DataW.weights_mem_each (j:=1) rfl rfl n hn)
  simpa using this
 refine (calls_of_sat Tryz.func8 rfl (by kernel_rfl) (evolutionRenameBack_sat s st hs.fits hst.fits) (vs:=[.agg cs0,.agg cs1]) (fun ω=>argsRep_cons (vrep_agg x0) (argsRep_cons (vrep_agg x1) argsRep_nil)) (.inr (laidW_vals hL))).mono fun e W' ⟨he,hb⟩=>?_
 subst he
 exact ⟨_,rfl,post_of_below laid (rt:=4) (by kernel_rfl) Tryz.underlying4 (by kernel_rfl) rfl hW hb rfl⟩
theorem evolutionRenameBack_j0:(Rows.evolutionRenameBackRow.wf (OpenSpec.ofChange Rows.evolutionRenameBackSpec))=true:=by kernel_rfl
theorem evolutionRenameBack_j1:(laidOutB Tryz.prog)=true:=by kernel_rfl
theorem evolutionRenameBack_j2:(mapsRowed Tryz.prog)=true:=by kernel_rfl
theorem evolutionRenameBack_j3:(Tryz.f8.params.all (Tryz.prog.readableRec ·))=true:=by kernel_rfl
theorem evolutionRenameBack_j4:(namedTie Tryz.prog Rows.evolutionRenameBackRow.named Rows.evolutionRenameBackSpec.vars)=true:=by kernel_rfl
theorem evolutionRenameBack_j5:((Rows.evolutionRenameBackRow.stops==[]))=true:=by kernel_rfl
theorem evolutionRenameBack_j6:((Tryz.prog.stops==[]))=true:=by kernel_rfl
theorem evolutionRenameBack_j7:((Rows.evolutionRenameBackRow.knobs==[]))=true:=by kernel_rfl
theorem evolutionRenameBack_j8:((Tryz.prog.stopKnobs==[]))=true:=by kernel_rfl
theorem evolutionRenameBack_j9:((Rows.evolutionRenameBackRow.inPlace==Tryz.prog.inPlace 8))=true:=by kernel_rfl
theorem evolutionRenameBack_j10:((Rows.evolutionRenameBackRow.unfollowed==Tryz.prog.unfollowed 8))=true:=by kernel_rfl
theorem evolutionRenameBack_j11:((Rows.evolutionRenameBackRow.recurses==Tryz.prog.recurses 8))=true:=by kernel_rfl
theorem evolutionRenameBack_j12:((Rows.evolutionRenameBackRow.named==Tryz.prog.varsNamed 8))=true:=by kernel_rfl
theorem evolutionRenameBack_j13:((Rows.evolutionRenameBackRow.maps==(Tryz.f8.params.toList++Rows.evolutionRenameBackSpec.plain.varTypes Tryz.prog).any (Tryz.prog.mapsRec ·)))=true:=by kernel_rfl
theorem evolutionRenameBack_j14:((Rows.evolutionRenameBackRow.ifaces==(Tryz.f8.params.toList++Rows.evolutionRenameBackSpec.plain.varTypes Tryz.prog).any (Tryz.prog.ifacesRec ·)))=true:=by kernel_rfl
theorem evolutionRenameBack_j15:((Rows.evolutionRenameBackRow.mapsOut==Tryz.prog.mapsAmong Tryz.f8.resultTypes.toList))=true:=by kernel_rfl
theorem evolutionRenameBack_j16:((Rows.evolutionRenameBackRow.loops==(Tryz.f8.params.toList++Rows.evolutionRenameBackSpec.plain.varTypes Tryz.prog).any (Tryz.prog.loopsFrom ·)))=true:=by kernel_rfl
theorem evolutionRenameBack_j17:((Rows.evolutionRenameBackRow.wideKeys==(Tryz.f8.params.toList++Rows.evolutionRenameBackSpec.plain.varTypes Tryz.prog++Tryz.f8.resultTypes.toList).any (Tryz.prog.wideKeysFrom ·)))=true:=by kernel_rfl
theorem evolutionRenameBack_j18:(Rows.evolutionRenameBackSpec.vars.all (Tryz.prog.varReadable ·))=true:=by kernel_rfl
theorem evolutionRenameBack_j19:(Tryz.f8.resultTypes.all (fun t=>Tryz.prog.readableRec t&&decide (t<Tryz.prog.types.size)))=true:=by kernel_rfl
theorem evolutionRenameBack_j20:((Rows.evolutionRenameBackRow.ifacesOut==Tryz.f8.resultTypes.toList.any (Tryz.prog.ifacesRec ·)))=true:=by kernel_rfl
theorem evolutionRenameBack_j21:((Rows.evolutionRenameBackRow.loopsOut==Tryz.f8.resultTypes.toList.any (Tryz.prog.loopsFrom ·)))=true:=by kernel_rfl
theorem evolutionRenameBack_j22:((Rows.evolutionRenameBackRow.plainKeys==Tryz.prog.plainKeys))=true:=by kernel_rfl
theorem evolutionRenameBack_j23:(Rows.evolutionRenameBackRow.shortTexts.isNone)=true:=by kernel_rfl
theorem evolutionRenameBack_j24:(Tryz.prog.stopsHeard)=true:=by kernel_rfl
theorem evolutionRenameBack_j25:(Tryz.prog.mayEnter)=true:=by kernel_rfl
theorem evolutionRenameBack_j26:((Rows.evolutionRenameBackRow.lifted==Tryz.prog.liftsFinal))=true:=by kernel_rfl
theorem evolutionRenameBack_j27:((Tryz.prog.make==some Rows.evolutionRenameBackRow.make))=true:=by kernel_rfl
theorem evolutionRenameBack_j29:((Rows.evolutionRenameBackRow.pinned==Rows.evolutionRenameBackRow.pinnedBy))=true:=by kernel_rfl
theorem evolutionRenameBack_j30:((Rows.evolutionRenameBackRow.veiled==(Tryz.f8.params.toList++Rows.evolutionRenameBackSpec.plain.varTypes Tryz.prog++Tryz.f8.resultTypes.toList).any (Tryz.prog.veiledRec ·)))=true:=by kernel_rfl
theorem evolutionRenameBack_j31:(Rows.evolutionRenameBackRow.veiledFits Tryz.prog Tryz.f8.params.toList (Tryz.f8.params.toList++Rows.evolutionRenameBackSpec.plain.varTypes Tryz.prog++Tryz.f8.resultTypes.toList))=true:=by kernel_rfl
set_option maxRecDepth 100000 in
theorem evolutionRenameBack_joined:joinedFacts Tryz.prog 8 Tryz.f8 Rows.evolutionRenameBackSpec Rows.evolutionRenameBackRow=true:=by
 unfold joinedFacts
 simp only [Bool.and_eq_true]
 refine ⟨⟨⟨⟨⟨⟨⟨⟨⟨⟨⟨⟨⟨⟨⟨⟨⟨⟨⟨⟨⟨⟨⟨⟨⟨⟨⟨⟨⟨⟨⟨evolutionRenameBack_j0,evolutionRenameBack_j1⟩,evolutionRenameBack_j2⟩,evolutionRenameBack_j3⟩,evolutionRenameBack_j4⟩,evolutionRenameBack_j5⟩,evolutionRenameBack_j6⟩,evolutionRenameBack_j7⟩,evolutionRenameBack_j8⟩,evolutionRenameBack_j9⟩,evolutionRenameBack_j10⟩,evolutionRenameBack_j11⟩,evolutionRenameBack_j12⟩,evolutionRenameBack_j13⟩,evolutionRenameBack_j14⟩,evolutionRenameBack_j15⟩,evolutionRenameBack_j16⟩,evolutionRenameBack_j17⟩,evolutionRenameBack_j18⟩,evolutionRenameBack_j19⟩,evolutionRenameBack_j20⟩,evolutionRenameBack_j21⟩,evolutionRenameBack_j22⟩,evolutionRenameBack_j23⟩,evolutionRenameBack_j24⟩,evolutionRenameBack_j25⟩,evolutionRenameBack_j26⟩,evolutionRenameBack_j27⟩,?_⟩,evolutionRenameBack_j29⟩,evolutionRenameBack_j30⟩,evolutionRenameBack_j31⟩
 all_goals kernel_rfl
theorem evolutionRenameBack_over:Rows.evolutionRenameBackRow.holds Tryz.pinned (OpenSpec.ofChange Rows.evolutionRenameBackSpec) :=
 OpenClaim.holds_of_wide 8 Tryz.f8 rfl rfl rfl rfl rfl rfl rfl ⟨rfl,rfl,rfl,rfl,rfl⟩ rfl rfl rfl rfl rfl (by kernel_rfl) Tryz.func8 evolutionRenameBack_joined
  (of_decide_eq_true (by kernel_rfl)) (by unfold Func.isWrapper;first|(rw [if_pos (by decide +kernel)];kernel_rfl)|(rw [if_neg (by decide +kernel)];exact ⟨rfl,rfl⟩))
  (fun os started H enc _=>evolutionRenameBack_lifted os started H enc)
theorem evolutionRenameBack_card:Rows.EvolutionRenameBackCardSaid :=
 Claim7.holds_tied_plain_at .later [] [.data,.data,.data,.sentinel,.sentinel] true (true,"44be7ab985994737626768a5aed9e53801e71f6af69e465e77bb5aa78118a39b") true evolutionRenameBack_over (fun _ h=>by cases h) (by kernel_rfl) (fun _ h=>by cases h) evolutionRenameBack_row_tie rfl ⟨rfl,rfl⟩ (by kernel_rfl) rfl
  (fun f fn hf hfn=>by
   obtain rfl:f=8:=Option.some.inj ((show Tryz.prog.funcNamed "stemma/stemkeep2.EvolutionRenameBack"=some 8 by kernel_rfl).symm.trans hf) |>.symm
   obtain rfl:fn=Tryz.f8:=(Option.some.inj (Tryz.func8.symm.trans hfn)).symm
   exact ⟨by kernel_rfl,fun j t ht=>by
    rw [Tryz.params8] at ht
    have hm:t∈[26,38]:=by simpa using Array.mem_of_getElem? ht
    have hall:([26,38].all fun u=>!Tryz.prog.wantsStandIn u)=true:=by kernel_rfl
    exact (show Tryz.prog.wantsStandIn t=false by simpa using List.all_eq_true.1 hall t hm)⟩)
  (by kernel_rfl)
end Go.Bw
namespace Go.Proofs.YtdnapljegcihiaaGreatDoor
theorem evolutionRenameBack_holds:Rows.EvolutionRenameBackCardSaid:=Go.Bw.evolutionRenameBack_card
#print axioms evolutionRenameBack_holds
end Go.Proofs.YtdnapljegcihiaaGreatDoor
