/- Proved: the law NormalizeSameSchema answers true for every input, and its arguments read behind the call as they read before. No condition beyond those that the form of the statement gives. -/
import Derived.Test.YtmnpdfeocknafaaGreatDoorVzh
set_option maxRecDepth 100000
set_option linter.unusedSimpArgs false
set_option linter.unusedVariables false
namespace Go.Bw
open Go.Proofs
open Go.ChangeShapes Go.RowKit Go.Proofs.YtmnpdfeocknafaaGreatDoor
theorem aak (os:Os) (started:os.Started) (H:Type) (enc:TypeId×Value→H) :
  ReturnsInHanded {} Tryz.checked os 7 .any (fun w args=>(Rows.normalizeSameSchemaSpec.pre enc Tryz.prog Tryz.f7 Rows.normalizeSameSchemaRow.domain false w args∧laidMetH Tryz.prog Rows.normalizeSameSchemaRow.laid w)∧sizedMet enc Tryz.prog Tryz.f7 (OpenSpec.ofChange Rows.normalizeSameSchemaSpec) false w args) (Rows.normalizeSameSchemaSpec.post enc Tryz.prog Tryz.f7 false true false false):=by
 refine returnsInHanded_of_change_and (C:=Tryz.checked) (X:=fun w _=>laidMetH Tryz.prog Rows.normalizeSameSchemaRow.laid w) (fun _ _ _ hh h=>h.of_heap hh) Zp started (by kernel_rfl) Tryz.func7
  (ChangeSpec.witness_shaped (enc:=enc) (C:=Tryz.checked) (os:=os) (X:=fun w _=>laidMetH Tryz.prog Rows.normalizeSameSchemaRow.laid w) false (World.laidAll Tryz.prog os Rows.normalizeSameSchemaRow.laid) #[.agg #[.slice none 0 0,.slice none 0 0,.slice none 0 0],.slice none 0 0] 8 (World.laidAll_os _ _ _)
   (World.shaped_of_ZipB (by kernel_rfl) (by kernel_rfl)) (by kernel_rfl) (by kernel_rfl) (by kernel_rfl)
   (by rw [MakeChecks.laidMetH_plain _ _ _ (by kernel_rfl)];exact laidMet_laidAll _ (by kernel_rfl) (by kernel_rfl))) ?_
 intro W base args ds gs before hval hW hcnd hsz hL _
 rw [MakeChecks.laidMetH_plain _ _ _ (by kernel_rfl)] at hL
 have hW0:=hW
 obtain ⟨p,q,hA,hV,rfl,hfz,hnd⟩:=hW0
 have hA:DataW.TrodAll enc Tryz.prog W 0 (fun _=>true) true Tryz.f7.params.toList args.toList ds p:=hA
 have hval:∀(j:Nat) t v,Tryz.f7.params[j]?=some t→args[j]?=some v→Value.okWide Tryz.prog W .any base t v:=hval
 rw [Tryz.params7] at hA hval
 obtain ⟨v0,vs0,d0,ds0,p0,q0,ha,rfl,rfl,h0,r0⟩:=trodAll_cons hA
 obtain ⟨v1,vs1,d1,ds1,p1,q1,rfl,rfl,rfl,h1,r1⟩:=trodAll_cons r0
 obtain ⟨rfl,rfl,rfl⟩:=trodAll_nil r1
 obtain rfl:args=#[v0,v1]:=by cases args;simp_all
 have hv0:=hval 0 _ v0 rfl rfl
 simp only [Value.okWide,Tryz.underlying33] at hv0
 obtain ⟨cs0,rfl,_,_⟩:=hv0
 obtain ⟨n0,h0⟩:=h0
 obtain ⟨s,hs,x0⟩:=Qj.get h0 fun n hn=>by
  have:=List.all_eq_true.1 hsz n (DataW.weights_mem_each (j:=0) rfl rfl n hn)
  simpa using this
 have hv1:=hval 1 _ v1 rfl rfl
 have hc1:=Zq Tryz.underlying70 rfl hv1
 obtain ⟨n1,h1⟩:=h1
 rw [hc1] at h1
 obtain ⟨l,hl,x1⟩:=MV.get h1 fun n hn=>by
  have:=List.all_eq_true.1 hsz n (DataW.weights_mem_each (j:=1) rfl rfl n hn)
  simpa using this
 refine (Zj Tryz.func7 rfl (by kernel_rfl) (aal s l hs.fits (by have h1:=hl.1;rw [yr] at h1;omega) (fun st h=>(hl.2 st h).fits)) (vs:=[.agg cs0,v1]) (fun ω=>TU (Zf x0) (TU (Zg x1) Zl)) (.inr (aac hL))).mono fun e W' ⟨he,hb⟩=>?_
 subst he
 exact ⟨_,rfl,Zo laid (rt:=4) (by kernel_rfl) Tryz.underlying4 (by kernel_rfl) rfl hW hb rfl⟩
theorem aam:(Rows.normalizeSameSchemaRow.wf (OpenSpec.ofChange Rows.normalizeSameSchemaSpec))=true:=by kernel_rfl
theorem aan:(laidOutB Tryz.prog)=true:=by kernel_rfl
theorem aao:(mapsRowed Tryz.prog)=true:=by kernel_rfl
theorem aap:(Tryz.f7.params.all (Tryz.prog.readableRec ·))=true:=by kernel_rfl
theorem aaq:(namedTie Tryz.prog Rows.normalizeSameSchemaRow.named Rows.normalizeSameSchemaSpec.vars)=true:=by kernel_rfl
theorem aar:((Rows.normalizeSameSchemaRow.stops==[]))=true:=by kernel_rfl
theorem aas:((Tryz.prog.stops==[]))=true:=by kernel_rfl
theorem aat:((Rows.normalizeSameSchemaRow.knobs==[]))=true:=by kernel_rfl
theorem aau:((Tryz.prog.stopKnobs==[]))=true:=by kernel_rfl
theorem aav:((Rows.normalizeSameSchemaRow.inPlace==Tryz.prog.inPlace 7))=true:=by kernel_rfl
theorem aaw:((Rows.normalizeSameSchemaRow.unfollowed==Tryz.prog.unfollowed 7))=true:=by kernel_rfl
theorem aax:((Rows.normalizeSameSchemaRow.recurses==Tryz.prog.recurses 7))=true:=by kernel_rfl
theorem aay:((Rows.normalizeSameSchemaRow.named==Tryz.prog.varsNamed 7))=true:=by kernel_rfl
theorem aaz:((Rows.normalizeSameSchemaRow.maps==(Tryz.f7.params.toList++Rows.normalizeSameSchemaSpec.plain.varTypes Tryz.prog).any (Tryz.prog.mapsRec ·)))=true:=by kernel_rfl
theorem aaA:((Rows.normalizeSameSchemaRow.ifaces==(Tryz.f7.params.toList++Rows.normalizeSameSchemaSpec.plain.varTypes Tryz.prog).any (Tryz.prog.ifacesRec ·)))=true:=by kernel_rfl
theorem aaB:((Rows.normalizeSameSchemaRow.mapsOut==Tryz.prog.mapsAmong Tryz.f7.resultTypes.toList))=true:=by kernel_rfl
theorem aaC:((Rows.normalizeSameSchemaRow.loops==(Tryz.f7.params.toList++Rows.normalizeSameSchemaSpec.plain.varTypes Tryz.prog).any (Tryz.prog.loopsFrom ·)))=true:=by kernel_rfl
theorem aaD:((Rows.normalizeSameSchemaRow.wideKeys==(Tryz.f7.params.toList++Rows.normalizeSameSchemaSpec.plain.varTypes Tryz.prog++Tryz.f7.resultTypes.toList).any (Tryz.prog.wideKeysFrom ·)))=true:=by kernel_rfl
theorem aaE:(Rows.normalizeSameSchemaSpec.vars.all (Tryz.prog.varReadable ·))=true:=by kernel_rfl
theorem aaF:(Tryz.f7.resultTypes.all (fun t=>Tryz.prog.readableRec t&&decide (t<Tryz.prog.types.size)))=true:=by kernel_rfl
theorem aaG:((Rows.normalizeSameSchemaRow.ifacesOut==Tryz.f7.resultTypes.toList.any (Tryz.prog.ifacesRec ·)))=true:=by kernel_rfl
theorem aaH:((Rows.normalizeSameSchemaRow.loopsOut==Tryz.f7.resultTypes.toList.any (Tryz.prog.loopsFrom ·)))=true:=by kernel_rfl
theorem aaI:((Rows.normalizeSameSchemaRow.plainKeys==Tryz.prog.plainKeys))=true:=by kernel_rfl
theorem aaJ:(Rows.normalizeSameSchemaRow.shortTexts.isNone)=true:=by kernel_rfl
theorem aaK:(Tryz.prog.stopsHeard)=true:=by kernel_rfl
theorem aaL:(Tryz.prog.mayEnter)=true:=by kernel_rfl
theorem aaM:((Rows.normalizeSameSchemaRow.lifted==Tryz.prog.liftsFinal))=true:=by kernel_rfl
theorem aaN:((Tryz.prog.make==some Rows.normalizeSameSchemaRow.make))=true:=by kernel_rfl
theorem aaO:((Rows.normalizeSameSchemaRow.pinned==Rows.normalizeSameSchemaRow.pinnedBy))=true:=by kernel_rfl
theorem aaP:((Rows.normalizeSameSchemaRow.veiled==(Tryz.f7.params.toList++Rows.normalizeSameSchemaSpec.plain.varTypes Tryz.prog++Tryz.f7.resultTypes.toList).any (Tryz.prog.veiledRec ·)))=true:=by kernel_rfl
theorem aaQ:(Rows.normalizeSameSchemaRow.veiledFits Tryz.prog Tryz.f7.params.toList (Tryz.f7.params.toList++Rows.normalizeSameSchemaSpec.plain.varTypes Tryz.prog++Tryz.f7.resultTypes.toList))=true:=by kernel_rfl
theorem aaR:joinedFacts Tryz.prog 7 Tryz.f7 Rows.normalizeSameSchemaSpec Rows.normalizeSameSchemaRow=true:=by
 unfold joinedFacts
 simp only [qa]
 refine ⟨⟨⟨⟨⟨⟨⟨⟨⟨⟨⟨⟨⟨⟨⟨⟨⟨⟨⟨⟨⟨⟨⟨⟨⟨⟨⟨⟨⟨⟨⟨aam,aan⟩,aao⟩,aap⟩,aaq⟩,aar⟩,aas⟩,aat⟩,aau⟩,aav⟩,aaw⟩,aax⟩,aay⟩,aaz⟩,aaA⟩,aaB⟩,aaC⟩,aaD⟩,aaE⟩,aaF⟩,aaG⟩,aaH⟩,aaI⟩,aaJ⟩,aaK⟩,aaL⟩,aaM⟩,aaN⟩,?_⟩,aaO⟩,aaP⟩,aaQ⟩
 all_goals kernel_rfl
theorem aaS:Rows.normalizeSameSchemaRow.holds Tryz.pinned (OpenSpec.ofChange Rows.normalizeSameSchemaSpec) :=
 OpenClaim.holds_of_wide 7 Tryz.f7 rfl rfl rfl rfl rfl rfl rfl ⟨rfl,rfl,rfl,rfl,rfl⟩ rfl rfl rfl rfl rfl (by kernel_rfl) Tryz.func7 aaR
  (of_decide_eq_true (by kernel_rfl)) (by unfold Func.isWrapper;first|(rw [if_pos (by decide +kernel)];kernel_rfl)|(rw [if_neg (by decide +kernel)];exact ⟨rfl,rfl⟩))
  (fun os started H enc _=>aak os started H enc)
theorem aaT:Rows.NormalizeSameSchemaCardSaid :=
 Claim7.holds_tied_plain_at .later [] [.data,.data,.data,.sentinel,.sentinel] true (true,"3ee9ca199f427a10390d2cd2994a9456cbfec29ffcd2da10a555765c6bec38a8") true aaS (fun _ h=>by cases h) (by kernel_rfl) (fun _ h=>by cases h) normalizeSameSchema_row_tie rfl ⟨rfl,rfl⟩ (by kernel_rfl) rfl
  (fun f fn hf hfn=>by
   obtain rfl:f=7:=Ae ((show Tryz.prog.funcNamed "stemma/stemkeep2.NormalizeSameSchema"=some 7 by kernel_rfl).symm.trans hf) |>.symm
   obtain rfl:fn=Tryz.f7:=(Ae (Tryz.func7.symm.trans hfn)).symm
   exact ⟨by kernel_rfl,fun j t ht=>by
    rw [Tryz.params7] at ht
    have hm:t∈[33,70]:=by simpa using EJ ht
    have hall:([33,70].all fun u=>!Tryz.prog.wantsStandIn u)=true:=by kernel_rfl
    exact (show Tryz.prog.wantsStandIn t=false by simpa using List.all_eq_true.1 hall t hm)⟩)
  (by kernel_rfl)
end Go.Bw
namespace Go.Proofs.YtmnpdfeocknafaaGreatDoor
theorem normalizeSameSchema_holds:Rows.NormalizeSameSchemaCardSaid:=Go.Bw.aaT
#print axioms normalizeSameSchema_holds
end Go.Proofs.YtmnpdfeocknafaaGreatDoor
