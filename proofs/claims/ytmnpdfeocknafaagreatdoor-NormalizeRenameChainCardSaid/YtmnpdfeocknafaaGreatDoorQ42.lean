/- Proved: the law NormalizeRenameChain answers true for every input, and its arguments read behind the call as they read before. No condition beyond those that the form of the statement gives. -/
import Derived.Test.YtmnpdfeocknafaaGreatDoorN42a
set_option maxRecDepth 100000
set_option linter.unusedSimpArgs false
set_option linter.unusedVariables false
namespace Go.Bw
open Go.Proofs
open Go.ChangeShapes Go.RowKit Go.Proofs.YtmnpdfeocknafaaGreatDoor
theorem normalizeRenameChain_lifted (os:Os) (started:os.Started) (H:Type) (enc:TypeId×Value→H) :
  ReturnsInHanded {} Tryz.checked os 6 .any (fun w args=>(Rows.normalizeRenameChainSpec.pre enc Tryz.prog Tryz.f6 Rows.normalizeRenameChainRow.domain false w args∧laidMetH Tryz.prog Rows.normalizeRenameChainRow.laid w)∧sizedMet enc Tryz.prog Tryz.f6 (OpenSpec.ofChange Rows.normalizeRenameChainSpec) false w args) (Rows.normalizeRenameChainSpec.post enc Tryz.prog Tryz.f6 false true false false):=by
 refine returnsInHanded_of_change_and (C:=Tryz.checked) (X:=fun w _=>laidMetH Tryz.prog Rows.normalizeRenameChainRow.laid w) (fun _ _ _ hh h=>h.of_heap hh) Zp started (by kernel_rfl) Tryz.func6
  (ChangeSpec.witness_shaped (enc:=enc) (C:=Tryz.checked) (os:=os) (X:=fun w _=>laidMetH Tryz.prog Rows.normalizeRenameChainRow.laid w) false (World.laidAll Tryz.prog os Rows.normalizeRenameChainRow.laid) #[.slice none 0 0] 8 (World.laidAll_os _ _ _)
   (World.shaped_of_ZipB (by kernel_rfl) (by kernel_rfl)) (by kernel_rfl) (by kernel_rfl) (by kernel_rfl)
   (by rw [MakeChecks.laidMetH_plain _ _ _ (by kernel_rfl)];exact laidMet_laidAll _ (by kernel_rfl) (by kernel_rfl))) ?_
 intro W base args ds gs before hval hW hcnd hsz hL _
 rw [MakeChecks.laidMetH_plain _ _ _ (by kernel_rfl)] at hL
 have hW0:=hW
 obtain ⟨p,q,hA,hV,rfl,hfz,hnd⟩:=hW0
 have hA:DataW.TrodAll enc Tryz.prog W 0 (fun _=>true) true Tryz.f6.params.toList args.toList ds p:=hA
 have hval:∀(j:Nat) t v,Tryz.f6.params[j]?=some t→args[j]?=some v→Value.okWide Tryz.prog W .any base t v:=hval
 rw [Tryz.params6] at hA hval
 obtain ⟨v0,vs0,d0,ds0,p0,q0,ha,rfl,rfl,h0,r0⟩:=trodAll_cons hA
 obtain ⟨rfl,rfl,rfl⟩:=trodAll_nil r0
 obtain rfl:args=#[v0]:=by cases args;simp_all
 have hv0:=hval 0 _ v0 rfl rfl
 have hc0:=Zq Tryz.underlying23 rfl hv0
 obtain ⟨n0,h0⟩:=h0
 rw [hc0] at h0
 obtain ⟨ns,hns,x0⟩:=Ip.get h0 fun n hn=>by
  have:=List.all_eq_true.1 hsz n (DataW.weights_mem_each (j:=0) rfl rfl n hn)
  simpa using this
 refine (Zj Tryz.func6 rfl (by kernel_rfl) (renameChain_sat ns (by have h1:=hns.1;rw [yr] at h1;omega)) (vs:=[v0]) (fun ω=>TU (Zg x0) Zl) (.inr (aac hL))).mono fun e W' ⟨he,hb⟩=>?_
 subst he
 exact ⟨_,rfl,Zo laid (rt:=4) (by kernel_rfl) Tryz.underlying4 (by kernel_rfl) rfl hW hb rfl⟩
theorem normalizeRenameChain_j0:(Rows.normalizeRenameChainRow.wf (OpenSpec.ofChange Rows.normalizeRenameChainSpec))=true:=by kernel_rfl
theorem normalizeRenameChain_j1:(laidOutB Tryz.prog)=true:=by kernel_rfl
theorem normalizeRenameChain_j2:(mapsRowed Tryz.prog)=true:=by kernel_rfl
theorem normalizeRenameChain_j3:(Tryz.f6.params.all (Tryz.prog.readableRec ·))=true:=by kernel_rfl
theorem normalizeRenameChain_j4:(namedTie Tryz.prog Rows.normalizeRenameChainRow.named Rows.normalizeRenameChainSpec.vars)=true:=by kernel_rfl
theorem normalizeRenameChain_j5:((Rows.normalizeRenameChainRow.stops==[]))=true:=by kernel_rfl
theorem normalizeRenameChain_j6:((Tryz.prog.stops==[]))=true:=by kernel_rfl
theorem normalizeRenameChain_j7:((Rows.normalizeRenameChainRow.knobs==[]))=true:=by kernel_rfl
theorem normalizeRenameChain_j8:((Tryz.prog.stopKnobs==[]))=true:=by kernel_rfl
theorem normalizeRenameChain_j9:((Rows.normalizeRenameChainRow.inPlace==Tryz.prog.inPlace 6))=true:=by kernel_rfl
theorem normalizeRenameChain_j10:((Rows.normalizeRenameChainRow.unfollowed==Tryz.prog.unfollowed 6))=true:=by kernel_rfl
theorem normalizeRenameChain_j11:((Rows.normalizeRenameChainRow.recurses==Tryz.prog.recurses 6))=true:=by kernel_rfl
theorem normalizeRenameChain_j12:((Rows.normalizeRenameChainRow.named==Tryz.prog.varsNamed 6))=true:=by kernel_rfl
theorem normalizeRenameChain_j13:((Rows.normalizeRenameChainRow.maps==(Tryz.f6.params.toList++Rows.normalizeRenameChainSpec.plain.varTypes Tryz.prog).any (Tryz.prog.mapsRec ·)))=true:=by kernel_rfl
theorem normalizeRenameChain_j14:((Rows.normalizeRenameChainRow.ifaces==(Tryz.f6.params.toList++Rows.normalizeRenameChainSpec.plain.varTypes Tryz.prog).any (Tryz.prog.ifacesRec ·)))=true:=by kernel_rfl
theorem normalizeRenameChain_j15:((Rows.normalizeRenameChainRow.mapsOut==Tryz.prog.mapsAmong Tryz.f6.resultTypes.toList))=true:=by kernel_rfl
theorem normalizeRenameChain_j16:((Rows.normalizeRenameChainRow.loops==(Tryz.f6.params.toList++Rows.normalizeRenameChainSpec.plain.varTypes Tryz.prog).any (Tryz.prog.loopsFrom ·)))=true:=by kernel_rfl
theorem normalizeRenameChain_j17:((Rows.normalizeRenameChainRow.wideKeys==(Tryz.f6.params.toList++Rows.normalizeRenameChainSpec.plain.varTypes Tryz.prog++Tryz.f6.resultTypes.toList).any (Tryz.prog.wideKeysFrom ·)))=true:=by kernel_rfl
theorem normalizeRenameChain_j18:(Rows.normalizeRenameChainSpec.vars.all (Tryz.prog.varReadable ·))=true:=by kernel_rfl
theorem normalizeRenameChain_j19:(Tryz.f6.resultTypes.all (fun t=>Tryz.prog.readableRec t&&decide (t<Tryz.prog.types.size)))=true:=by kernel_rfl
theorem normalizeRenameChain_j20:((Rows.normalizeRenameChainRow.ifacesOut==Tryz.f6.resultTypes.toList.any (Tryz.prog.ifacesRec ·)))=true:=by kernel_rfl
theorem normalizeRenameChain_j21:((Rows.normalizeRenameChainRow.loopsOut==Tryz.f6.resultTypes.toList.any (Tryz.prog.loopsFrom ·)))=true:=by kernel_rfl
theorem normalizeRenameChain_j22:((Rows.normalizeRenameChainRow.plainKeys==Tryz.prog.plainKeys))=true:=by kernel_rfl
theorem normalizeRenameChain_j23:(Rows.normalizeRenameChainRow.shortTexts.isNone)=true:=by kernel_rfl
theorem normalizeRenameChain_j24:(Tryz.prog.stopsHeard)=true:=by kernel_rfl
theorem normalizeRenameChain_j25:(Tryz.prog.mayEnter)=true:=by kernel_rfl
theorem normalizeRenameChain_j26:((Rows.normalizeRenameChainRow.lifted==Tryz.prog.liftsFinal))=true:=by kernel_rfl
theorem normalizeRenameChain_j27:((Tryz.prog.make==some Rows.normalizeRenameChainRow.make))=true:=by kernel_rfl
theorem normalizeRenameChain_j29:((Rows.normalizeRenameChainRow.pinned==Rows.normalizeRenameChainRow.pinnedBy))=true:=by kernel_rfl
theorem normalizeRenameChain_j30:((Rows.normalizeRenameChainRow.veiled==(Tryz.f6.params.toList++Rows.normalizeRenameChainSpec.plain.varTypes Tryz.prog++Tryz.f6.resultTypes.toList).any (Tryz.prog.veiledRec ·)))=true:=by kernel_rfl
theorem normalizeRenameChain_j31:(Rows.normalizeRenameChainRow.veiledFits Tryz.prog Tryz.f6.params.toList (Tryz.f6.params.toList++Rows.normalizeRenameChainSpec.plain.varTypes Tryz.prog++Tryz.f6.resultTypes.toList))=true:=by kernel_rfl
theorem normalizeRenameChain_joined:joinedFacts Tryz.prog 6 Tryz.f6 Rows.normalizeRenameChainSpec Rows.normalizeRenameChainRow=true:=by
 unfold joinedFacts
 simp only [qa]
 refine ⟨⟨⟨⟨⟨⟨⟨⟨⟨⟨⟨⟨⟨⟨⟨⟨⟨⟨⟨⟨⟨⟨⟨⟨⟨⟨⟨⟨⟨⟨⟨normalizeRenameChain_j0,normalizeRenameChain_j1⟩,normalizeRenameChain_j2⟩,normalizeRenameChain_j3⟩,normalizeRenameChain_j4⟩,normalizeRenameChain_j5⟩,normalizeRenameChain_j6⟩,normalizeRenameChain_j7⟩,normalizeRenameChain_j8⟩,normalizeRenameChain_j9⟩,normalizeRenameChain_j10⟩,normalizeRenameChain_j11⟩,normalizeRenameChain_j12⟩,normalizeRenameChain_j13⟩,normalizeRenameChain_j14⟩,normalizeRenameChain_j15⟩,normalizeRenameChain_j16⟩,normalizeRenameChain_j17⟩,normalizeRenameChain_j18⟩,normalizeRenameChain_j19⟩,normalizeRenameChain_j20⟩,normalizeRenameChain_j21⟩,normalizeRenameChain_j22⟩,normalizeRenameChain_j23⟩,normalizeRenameChain_j24⟩,normalizeRenameChain_j25⟩,normalizeRenameChain_j26⟩,normalizeRenameChain_j27⟩,?_⟩,normalizeRenameChain_j29⟩,normalizeRenameChain_j30⟩,normalizeRenameChain_j31⟩
 all_goals kernel_rfl
theorem normalizeRenameChain_over:Rows.normalizeRenameChainRow.holds Tryz.pinned (OpenSpec.ofChange Rows.normalizeRenameChainSpec) :=
 OpenClaim.holds_of_wide 6 Tryz.f6 rfl rfl rfl rfl rfl rfl rfl ⟨rfl,rfl,rfl,rfl,rfl⟩ rfl rfl rfl rfl rfl (by kernel_rfl) Tryz.func6 normalizeRenameChain_joined
  (of_decide_eq_true (by kernel_rfl)) (by unfold Func.isWrapper;first|(rw [if_pos (by decide +kernel)];kernel_rfl)|(rw [if_neg (by decide +kernel)];exact ⟨rfl,rfl⟩))
  (fun os started H enc _=>normalizeRenameChain_lifted os started H enc)
theorem normalizeRenameChain_card:Rows.NormalizeRenameChainCardSaid :=
 Claim7.holds_tied_plain_at .later [] [.data,.data,.data,.sentinel,.sentinel] true (true,"3ee9ca199f427a10390d2cd2994a9456cbfec29ffcd2da10a555765c6bec38a8") true normalizeRenameChain_over (fun _ h=>by cases h) (by kernel_rfl) (fun _ h=>by cases h) normalizeRenameChain_row_tie rfl ⟨rfl,rfl⟩ (by kernel_rfl) rfl
  (fun f fn hf hfn=>by
   obtain rfl:f=6:=Ae ((show Tryz.prog.funcNamed "stemma/stemkeep2.NormalizeRenameChain"=some 6 by kernel_rfl).symm.trans hf) |>.symm
   obtain rfl:fn=Tryz.f6:=(Ae (Tryz.func6.symm.trans hfn)).symm
   exact ⟨by kernel_rfl,fun j t ht=>by
    rw [Tryz.params6] at ht
    have hm:t∈[23]:=by simpa using EJ ht
    have hall:([23].all fun u=>!Tryz.prog.wantsStandIn u)=true:=by kernel_rfl
    exact (show Tryz.prog.wantsStandIn t=false by simpa using List.all_eq_true.1 hall t hm)⟩)
  (by kernel_rfl)
end Go.Bw
namespace Go.Proofs.YtmnpdfeocknafaaGreatDoor
theorem normalizeRenameChain_holds:Rows.NormalizeRenameChainCardSaid:=Go.Bw.normalizeRenameChain_card
#print axioms normalizeRenameChain_holds
end Go.Proofs.YtmnpdfeocknafaaGreatDoor
