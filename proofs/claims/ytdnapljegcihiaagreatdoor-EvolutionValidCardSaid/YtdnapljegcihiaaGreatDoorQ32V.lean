/-
  WHAT IS PROVED HERE: the law EvolutionValid answers true for every input, and its arguments read behind the call as they read before. No condition beyond those that the form of the statement gives.
-/
import Derived.Test.YtdnapljegcihiaaGreatDoorVzf
set_option linter.unusedSimpArgs false
set_option linter.unusedVariables false
namespace Go.Bw
open Go.Proofs
open Go.ChangeShapes Go.RowKit Go.Proofs.YtdnapljegcihiaaGreatDoor
set_option maxRecDepth 100000 in
theorem evolutionValid_lifted (os:Os) (started:os.Started) (H:Type) (enc:TypeId×Value→H) :
  ReturnsInHanded {} Tryz.checked os 3 .any (fun w args=>(Rows.evolutionValidSpec.pre enc Tryz.prog Tryz.f3 Rows.evolutionValidRow.domain false w args∧laidMetH Tryz.prog Rows.evolutionValidRow.laid w)∧sizedMet enc Tryz.prog Tryz.f3 (OpenSpec.ofChange Rows.evolutionValidSpec) false w args) (Rows.evolutionValidSpec.post enc Tryz.prog Tryz.f3 false true false false):=by
 refine returnsInHanded_of_change_and (C:=Tryz.checked) (X:=fun w _=>laidMetH Tryz.prog Rows.evolutionValidRow.laid w) (fun _ _ _ hh h=>h.of_heap hh) ownK started (by kernel_rfl) Tryz.func3
  (ChangeSpec.witness_shaped (enc:=enc) (C:=Tryz.checked) (os:=os) (X:=fun w _=>laidMetH Tryz.prog Rows.evolutionValidRow.laid w) false (World.laidAll Tryz.prog os Rows.evolutionValidRow.laid) #[.agg #[.slice none 0 0,.slice none 0 0,.slice none 0 0],.agg #[.int .i64 0,.string ByteArray.empty,.string ByteArray.empty,.string ByteArray.empty,.string ByteArray.empty,.int .i64 0,.slice none 0 0,.string ByteArray.empty,.int .i64 0,.int .i64 0,.string ByteArray.empty,.string ByteArray.empty,.slice none 0 0,.slice none 0 0,.string ByteArray.empty,.int .i64 0,.string ByteArray.empty,.int .i64 0,.int .i64 0,.int .i64 0,.string ByteArray.empty,.string ByteArray.empty,.slice none 0 0,.string ByteArray.empty]] 8 (World.laidAll_os _ _ _)
   (World.shaped_of_ZipB (by kernel_rfl) (by kernel_rfl)) (by kernel_rfl) (by kernel_rfl) (by kernel_rfl)
   (by rw [MakeChecks.laidMetH_plain _ _ _ (by kernel_rfl)];exact laidMet_laidAll _ (by kernel_rfl) (by kernel_rfl))) ?_
 intro W base args ds gs before hval hW hcnd hsz hL _
 rw [MakeChecks.laidMetH_plain _ _ _ (by kernel_rfl)] at hL
 have hW0:=hW
 obtain ⟨p,q,hA,hV,rfl,hfz,hnd⟩:=hW0
 have hA:DataW.TrodAll enc Tryz.prog W 0 (fun _=>true) true Tryz.f3.params.toList args.toList ds p:=hA
 have hval:∀(j:Nat) t v,Tryz.f3.params[j]?=some t→args[j]?=some v→Value.okWide Tryz.prog W .any base t v:=hval
 rw [Tryz.params3] at hA hval
 obtain ⟨v0,vs0,d0,ds0,p0,q0,ha,rfl,rfl,h0,r0⟩:=trodAll_cons hA
 obtain ⟨v1,vs1,d1,ds1,p1,q1,rfl,rfl,rfl,h1,r1⟩:=trodAll_cons r0
 obtain ⟨rfl,rfl,rfl⟩:=trodAll_nil r1
 obtain rfl:args=#[v0,v1]:=by cases args;simp_all
 have hv0:=hval 0 _ v0 rfl rfl
 simp only [Value.okWide,Tryz.underlying26] at hv0
 obtain ⟨cs0,rfl,_,_⟩:=hv0
 obtain ⟨n0,h0⟩:=h0
 obtain ⟨s,hs,x0⟩:=rd_sch.get h0 fun n hn=>by
  have:=List.all_eq_true.1 hsz n (DataW.weights_mem_each (j:=0) rfl rfl n hn)
  simpa using this
 have hv1:=hval 1 _ v1 rfl rfl
 simp only [Value.okWide,Tryz.underlying38] at hv1
 obtain ⟨cs1,rfl,_,_⟩:=hv1
 obtain ⟨n1,h1⟩:=h1
 obtain ⟨st,hst,x1⟩:=rd_stp.get h1 fun n hn=>by
  have:=List.all_eq_true.1 hsz n (DataW.weights_mem_each (j:=1) rfl rfl n hn)
  simpa using this
 refine (calls_of_sat Tryz.func3 rfl (by kernel_rfl) (evolutionValid_sat s st hs.fits hst.fits) (vs:=[.agg cs0,.agg cs1]) (fun ω=>argsRep_cons (vrep_agg x0) (argsRep_cons (vrep_agg x1) argsRep_nil)) (.inr (laidW_vals hL))).mono fun e W' ⟨he,hb⟩=>?_
 subst he
 exact ⟨_,rfl,post_of_below laid (rt:=4) (by kernel_rfl) Tryz.underlying4 (by kernel_rfl) rfl hW hb rfl⟩
theorem evolutionValid_j0:(Rows.evolutionValidRow.wf (OpenSpec.ofChange Rows.evolutionValidSpec))=true:=by kernel_rfl
theorem evolutionValid_j1:(laidOutB Tryz.prog)=true:=by kernel_rfl
theorem evolutionValid_j2:(mapsRowed Tryz.prog)=true:=by kernel_rfl
theorem evolutionValid_j3:(Tryz.f3.params.all (Tryz.prog.readableRec ·))=true:=by kernel_rfl
theorem evolutionValid_j4:(namedTie Tryz.prog Rows.evolutionValidRow.named Rows.evolutionValidSpec.vars)=true:=by kernel_rfl
theorem evolutionValid_j5:((Rows.evolutionValidRow.stops==[]))=true:=by kernel_rfl
theorem evolutionValid_j6:((Tryz.prog.stops==[]))=true:=by kernel_rfl
theorem evolutionValid_j7:((Rows.evolutionValidRow.knobs==[]))=true:=by kernel_rfl
theorem evolutionValid_j8:((Tryz.prog.stopKnobs==[]))=true:=by kernel_rfl
theorem evolutionValid_j9:((Rows.evolutionValidRow.inPlace==Tryz.prog.inPlace 3))=true:=by kernel_rfl
theorem evolutionValid_j10:((Rows.evolutionValidRow.unfollowed==Tryz.prog.unfollowed 3))=true:=by kernel_rfl
theorem evolutionValid_j11:((Rows.evolutionValidRow.recurses==Tryz.prog.recurses 3))=true:=by kernel_rfl
theorem evolutionValid_j12:((Rows.evolutionValidRow.named==Tryz.prog.varsNamed 3))=true:=by kernel_rfl
theorem evolutionValid_j13:((Rows.evolutionValidRow.maps==(Tryz.f3.params.toList++Rows.evolutionValidSpec.plain.varTypes Tryz.prog).any (Tryz.prog.mapsRec ·)))=true:=by kernel_rfl
theorem evolutionValid_j14:((Rows.evolutionValidRow.ifaces==(Tryz.f3.params.toList++Rows.evolutionValidSpec.plain.varTypes Tryz.prog).any (Tryz.prog.ifacesRec ·)))=true:=by kernel_rfl
theorem evolutionValid_j15:((Rows.evolutionValidRow.mapsOut==Tryz.prog.mapsAmong Tryz.f3.resultTypes.toList))=true:=by kernel_rfl
theorem evolutionValid_j16:((Rows.evolutionValidRow.loops==(Tryz.f3.params.toList++Rows.evolutionValidSpec.plain.varTypes Tryz.prog).any (Tryz.prog.loopsFrom ·)))=true:=by kernel_rfl
theorem evolutionValid_j17:((Rows.evolutionValidRow.wideKeys==(Tryz.f3.params.toList++Rows.evolutionValidSpec.plain.varTypes Tryz.prog++Tryz.f3.resultTypes.toList).any (Tryz.prog.wideKeysFrom ·)))=true:=by kernel_rfl
theorem evolutionValid_j18:(Rows.evolutionValidSpec.vars.all (Tryz.prog.varReadable ·))=true:=by kernel_rfl
theorem evolutionValid_j19:(Tryz.f3.resultTypes.all (fun t=>Tryz.prog.readableRec t&&decide (t<Tryz.prog.types.size)))=true:=by kernel_rfl
theorem evolutionValid_j20:((Rows.evolutionValidRow.ifacesOut==Tryz.f3.resultTypes.toList.any (Tryz.prog.ifacesRec ·)))=true:=by kernel_rfl
theorem evolutionValid_j21:((Rows.evolutionValidRow.loopsOut==Tryz.f3.resultTypes.toList.any (Tryz.prog.loopsFrom ·)))=true:=by kernel_rfl
theorem evolutionValid_j22:((Rows.evolutionValidRow.plainKeys==Tryz.prog.plainKeys))=true:=by kernel_rfl
theorem evolutionValid_j23:(Rows.evolutionValidRow.shortTexts.isNone)=true:=by kernel_rfl
theorem evolutionValid_j24:(Tryz.prog.stopsHeard)=true:=by kernel_rfl
theorem evolutionValid_j25:(Tryz.prog.mayEnter)=true:=by kernel_rfl
theorem evolutionValid_j26:((Rows.evolutionValidRow.lifted==Tryz.prog.liftsFinal))=true:=by kernel_rfl
theorem evolutionValid_j27:((Tryz.prog.make==some Rows.evolutionValidRow.make))=true:=by kernel_rfl
theorem evolutionValid_j29:((Rows.evolutionValidRow.pinned==Rows.evolutionValidRow.pinnedBy))=true:=by kernel_rfl
theorem evolutionValid_j30:((Rows.evolutionValidRow.veiled==(Tryz.f3.params.toList++Rows.evolutionValidSpec.plain.varTypes Tryz.prog++Tryz.f3.resultTypes.toList).any (Tryz.prog.veiledRec ·)))=true:=by kernel_rfl
theorem evolutionValid_j31:(Rows.evolutionValidRow.veiledFits Tryz.prog Tryz.f3.params.toList (Tryz.f3.params.toList++Rows.evolutionValidSpec.plain.varTypes Tryz.prog++Tryz.f3.resultTypes.toList))=true:=by kernel_rfl
set_option maxRecDepth 100000 in
theorem evolutionValid_joined:joinedFacts Tryz.prog 3 Tryz.f3 Rows.evolutionValidSpec Rows.evolutionValidRow=true:=by
 unfold joinedFacts
 simp only [Bool.and_eq_true]
 refine ⟨⟨⟨⟨⟨⟨⟨⟨⟨⟨⟨⟨⟨⟨⟨⟨⟨⟨⟨⟨⟨⟨⟨⟨⟨⟨⟨⟨⟨⟨⟨evolutionValid_j0,evolutionValid_j1⟩,evolutionValid_j2⟩,evolutionValid_j3⟩,evolutionValid_j4⟩,evolutionValid_j5⟩,evolutionValid_j6⟩,evolutionValid_j7⟩,evolutionValid_j8⟩,evolutionValid_j9⟩,evolutionValid_j10⟩,evolutionValid_j11⟩,evolutionValid_j12⟩,evolutionValid_j13⟩,evolutionValid_j14⟩,evolutionValid_j15⟩,evolutionValid_j16⟩,evolutionValid_j17⟩,evolutionValid_j18⟩,evolutionValid_j19⟩,evolutionValid_j20⟩,evolutionValid_j21⟩,evolutionValid_j22⟩,evolutionValid_j23⟩,evolutionValid_j24⟩,evolutionValid_j25⟩,evolutionValid_j26⟩,evolutionValid_j27⟩,?_⟩,evolutionValid_j29⟩,evolutionValid_j30⟩,evolutionValid_j31⟩
 all_goals kernel_rfl
theorem evolutionValid_over:Rows.evolutionValidRow.holds Tryz.pinned (OpenSpec.ofChange Rows.evolutionValidSpec) :=
 OpenClaim.holds_of_wide 3 Tryz.f3 rfl rfl rfl rfl rfl rfl rfl ⟨rfl,rfl,rfl,rfl,rfl⟩ rfl rfl rfl rfl rfl (by kernel_rfl) Tryz.func3 evolutionValid_joined
  (of_decide_eq_true (by kernel_rfl)) (by unfold Func.isWrapper;first|(rw [if_pos (by decide +kernel)];kernel_rfl)|(rw [if_neg (by decide +kernel)];exact ⟨rfl,rfl⟩))
  (fun os started H enc _=>evolutionValid_lifted os started H enc)
theorem evolutionValid_card:Rows.EvolutionValidCardSaid :=
 Claim7.holds_tied_plain_at .later [] [.data,.data,.data,.sentinel,.sentinel] true (true,"44be7ab985994737626768a5aed9e53801e71f6af69e465e77bb5aa78118a39b") true evolutionValid_over (fun _ h=>by cases h) (by kernel_rfl) (fun _ h=>by cases h) evolutionValid_row_tie rfl ⟨rfl,rfl⟩ (by kernel_rfl) rfl
  (fun f fn hf hfn=>by
   obtain rfl:f=3:=Option.some.inj ((show Tryz.prog.funcNamed "stemma/stemkeep2.EvolutionValid"=some 3 by kernel_rfl).symm.trans hf) |>.symm
   obtain rfl:fn=Tryz.f3:=(Option.some.inj (Tryz.func3.symm.trans hfn)).symm
   exact ⟨by kernel_rfl,fun j t ht=>by
    rw [Tryz.params3] at ht
    have hm:t∈[26,38]:=by simpa using Array.mem_of_getElem? ht
    have hall:([26,38].all fun u=>!Tryz.prog.wantsStandIn u)=true:=by kernel_rfl
    exact (show Tryz.prog.wantsStandIn t=false by simpa using List.all_eq_true.1 hall t hm)⟩)
  (by kernel_rfl)
end Go.Bw
namespace Go.Proofs.YtdnapljegcihiaaGreatDoor
theorem evolutionValid_holds:Rows.EvolutionValidCardSaid:=Go.Bw.evolutionValid_card
#print axioms evolutionValid_holds
end Go.Proofs.YtdnapljegcihiaaGreatDoor
