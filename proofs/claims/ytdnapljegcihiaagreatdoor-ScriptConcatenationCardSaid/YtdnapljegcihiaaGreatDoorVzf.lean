/-
  WHAT IS PROVED HERE, of this translation: emptyComp_ok, forward_sat, backward_sat, fwd0, bwd0, lensesWork_sat, evolutionValid_sat.
  A theorem that ends in sat says what the function it names returns, whatever the state it is called in; the bounds on its arguments stand ahead of it.
-/
import Derived.Test.YtdnapljegcihiaaGreatDoorVzc
import Derived.Test.YtdnapljegcihiaaGreatDoorVze
set_option linter.unusedSimpArgs false
set_option linter.unusedVariables false
namespace Go.Bw
open Go.Proofs
theorem emptyComp_ok (s:Sch) (st:Stp) (hs:s.Fits) (hf:st.Fits) (hk:K123 st) {u v:Sch} (h:evoE s st=.ok u) (h2:compE s st=.ok v) (hv:v.tables.length≤1048576) :
  Sat Tryz.prog 22 [.agg (eSch s),.agg (eStp st)] (.tup [.one (eInst (emptyI v)),oI 0]):=by
 have c1:=schemas_ok s st hs hf hk h h2
 have c2:=instEmpty_sat v (by omega)
 refine ZE Tryz.func22 Tryz.ntmps22 fun w0 m0 F0=>?_
 refine ZW (Z1 @eStp.eq_1) (Z2 (c1) (c2)) ?_
 exact ZQ (Z1 Tryz.results22)
set_option maxHeartbeats 16000000 in
theorem forward_sat (s:Sch) (st:Stp) (inn comp o' nw':Inst) (hs:s.Fits) (hf:st.Fits) (hk:K123 st) {u v:Sch} (h:evoE s st=.ok u) (h2:compE s st=.ok v)
  (R:SatM Tryz.prog 59 [.one (.ptr 1000 0),.one (eInst inn),.one (eInst comp)] [(1000,mB0 st true s u v)] [] (.tup [.one (eInst o'),.one (eInst nw'),oI 0]) [] []) :
  Sat Tryz.prog 27 [.agg (eSch s),.agg (eStp st),.one (eInst inn),.one (eInst comp)] (.tup [.one (eInst o'),.one (eInst nw'),oI 0]):=by
 have c1:=schemas_ok s st hs hf hk h h2
 have c2:=stpClone_sat st hf
 have c3:=schClone_sat s (small_of (evoE_parts h).1)
 unfold mB0 at R
 unfold eStp at R c1 c2 ⊢
 simp only [eSchX,List.cons_append,List.nil_append] at R c1 c2 c3 ⊢
 refine ZE Tryz.func27 Tryz.ntmps27 fun w0 m0 F0=>?_
 refine ZV Z0 (Z3 (c1) (c2) (c3)) (Z2 (Zs 5) (Zd 4 [(0,1),(2,1),(4,2)] [(1,[],[(2,1),(4,2)]),(3,[(6,1)],[(4,2)]),(7,[(8,1)],[])] [1,3,7] 8)) Z0 ?_
 refine ZV (Z6 @okIds_ref @okIds_fr @okIds_nil @dropL_nil @dropL_nil' @dropL_cons) Z0 Z0 (Z1 (Zi [(1000,32)] [] [] [] [32] [] [32] [] (R))) ?_
 exact ZQ (Z1 Tryz.results27)
set_option maxHeartbeats 16000000 in
theorem backward_sat (s:Sch) (st:Stp) (inn comp o' nw':Inst) (hs:s.Fits) (hf:st.Fits) (hk:K123 st) {u v:Sch} (h:evoE s st=.ok u) (h2:compE s st=.ok v)
  (R:SatM Tryz.prog 59 [.one (.ptr 1000 0),.one (eInst inn),.one (eInst comp)] [(1000,mB0 st false u s v)] [] (.tup [.one (eInst o'),.one (eInst nw'),oI 0]) [] []) :
  Sat Tryz.prog 28 [.agg (eSch s),.agg (eStp st),.one (eInst inn),.one (eInst comp)] (.tup [.one (eInst o'),.one (eInst nw'),oI 0]):=by
 have c1:=schemas_ok s st hs hf hk h h2
 have c2:=stpClone_sat st hf
 have c3:=schClone_sat s (small_of (evoE_parts h).1)
 unfold mB0 at R
 unfold eStp at R c1 c2 ⊢
 simp only [eSchX,List.cons_append,List.nil_append] at R c1 c2 c3 ⊢
 refine ZE Tryz.func28 Tryz.ntmps28 fun w0 m0 F0=>?_
 refine ZV Z0 (Z3 (c1) (c2) (c3)) (Z2 (Zs 5) (Zd 4 [(0,1),(2,2),(5,1)] [(1,[],[(2,2),(5,1)]),(4,[(6,1)],[(2,1),(5,1)]),(7,[(8,1)],[])] [1,4,7] 8)) Z0 ?_
 refine ZV (Z6 @okIds_ref @okIds_fr @okIds_nil @dropL_nil @dropL_nil' @dropL_cons) Z0 Z0 (Z1 (Zi [(1000,32)] [] [] [] [32] [] [32] [] (R))) ?_
 exact ZQ (Z1 Tryz.results28)
theorem fwd0:Sat Tryz.prog 27 [.agg (eSch s0),.agg (eStp st0),.one (eInst (pI [rAnn])),.one (eInst (pI []))] (.tup [.one (eInst (pI [rOne])),.one (eInst (pI [rAnn])),oI 0]):=by
 have D0:=removeColumn_satM st0 true s0 u0 w0 (pI [rAnn]) (pI []) (out0 s0 u0 (pI [rAnn])) (emptyI w0) 0 0 1 (by decide) (by kernel_rfl) (by decide) (by decide) (by decide) (by decide) (by decide) (by kernel_rfl) (by decide) (by decide)
 have e1:setR (out0 s0 u0 (pI [rAnn])) st0.table (remO 1 (pI [rAnn])[0].rows)=pI [rOne]:=by kernel_rfl
 have e2:setR (emptyI w0) st0.table (remC s0.tables[0] 1 st0.value (pI [rAnn])[0].rows)=pI [rAnn]:=by kernel_rfl
 rw [e1,e2] at D0
 exact forward_sat s0 st0 _ _ _ _ s0f st0f (.inr (.inl rfl)) evo0 comp0 (run_satM st0 true s0 u0 w0 (pI [rAnn]) (pI []) (pI [rOne]) (pI [rAnn]) (by kernel_rfl) (by kernel_rfl) b0a b0b (by decide) (by decide) (by decide) (by decide) (by decide) (by decide) (by decide) (by decide) (by decide) (by decide) (by decide) (by decide) (dispatch_rem st0 true s0 u0 w0 _ _ _ _ _ _ _ _ (.inl ⟨rfl,rfl⟩) D0))
theorem bwd0:Sat Tryz.prog 28 [.agg (eSch s0),.agg (eStp st0),.one (eInst (pI [rOne])),.one (eInst (pI [rAnn]))] (.tup [.one (eInst (pI [rAnn])),.one (eInst (pI [rAnn])),oI 0]):=by
 have D0:=insertColumn_satM st0 false u0 s0 w0T (pI [rOne]) bPeople [rAnn] (out0 u0 s0 (pI [rOne])) (emptyI w0) 0 0 0 1 (by decide) (by kernel_rfl) (by decide) (by decide) (by decide) (by decide) (by decide) (by decide) (by decide) (by kernel_rfl) (by decide) (by decide) (by kernel_rfl) (by decide) (by decide) (by decide) (by decide) (by decide)
 have e1:setR (out0 u0 s0 (pI [rOne])) st0.table (insO w0T [rAnn] u0.tables[0] st0.value (pI [rOne])[0].rows)=pI [rAnn]:=by kernel_rfl
 have e2:setR (emptyI w0) st0.table (insC w0T [rAnn] u0.tables[0] st0.value (pI [rOne])[0].rows)=pI [rAnn]:=by kernel_rfl
 rw [e1,e2] at D0
 exact backward_sat s0 st0 _ _ _ _ s0f st0f (.inr (.inl rfl)) evo0 comp0 (run_satM st0 false u0 s0 w0 (pI [rOne]) (pI [rAnn]) (pI [rAnn]) (pI [rAnn]) (by kernel_rfl) (by kernel_rfl) b0c b0d (by decide) (by decide) (by decide) (by decide) (by decide) (by decide) (by decide) (by decide) (by decide) (by decide) (by decide) (by decide) (dispatch_ins st0 false u0 s0 w0 _ _ _ _ _ _ _ _ (.inr ⟨rfl,rfl⟩) D0))
set_option maxHeartbeats 16000000 in
theorem lensesWork_sat:Sat Tryz.prog 12 [] (.v (oB true)):=by
 have c1:=emptyComp_ok s0 st0 s0f st0f (.inr (.inl rfl)) evo0 comp0 (by decide)
 have e1:emptyI w0=pI []:=by kernel_rfl
 rw [e1] at c1
 have c2:=fwd0
 have c3:=bwd0
 have c4:=eqInst_sat (pI [rAnn]) (by decide) (fun r hr=>by
  rw [List.mem_singleton.1 hr]
  refine ⟨by decide,fun x hx=>?_⟩
  rw [List.mem_singleton.1 hx]
  refine ⟨by decide,fun v hv=>?_⟩
  rcases List.mem_cons.1 hv with rfl|hv
  ·exact ⟨by decide,by decide,by decide,by decide,by decide⟩
  ·rw [List.mem_singleton.1 hv]
   exact ⟨by decide,by decide,by decide,by decide,by decide⟩)
 simp only [eInst,eSch,eStp,eTbls,eFKs,eCons,pI,List.map_cons,List.map_nil,eRel,eRows,s0,st0,peopleT,eTbl,eCols,eInts,eCol,eInt1,rAnn,rOne,eRow1,eVal] at c1 c2 c3 c4
 refine ZE Tryz.func12 Tryz.ntmps12 fun w0 m0 F0=>?_
 refine ZV Z0 (Z1 (people_sat)) (Z1 (Zs 3)) Z0 ?_
 refine AWP.frz [1,2] [] ?_
 refine ZS Z0 ?_
 refine ZV Z0 (Z2 (c1) (integer_sat 1)) (Z1 (Zs 5)) Z0 ?_
 refine AWP.frz [1,2] [] ?_
 refine ZS Z0 ?_
 refine ZW (Z1 (@List.getD_cons_zero.{0})) (Z3 (c2) (c3) (c4)) ?_
 exact ZQ (Z1 Tryz.results12)
set_option maxHeartbeats 16000000 in
theorem evolutionValid_sat (s:Sch) (st:Stp) (hs:s.Fits) (hf:st.Fits):Sat Tryz.prog 3 [.agg (eSch s),.agg (eStp st)] (.v (oB true)):=by
 have c0:=lensesWork_sat
 have c1:=evoApply_sat s st hs hf
 cases h:evoE s st with
 | error e =>
  have he:=evoE_ne h
  rw [h] at c1
  unfold sOut rE at c1
  simp only at c1
  refine ZE Tryz.func3 Tryz.ntmps3 fun w0 m0 F0=>?_
  refine ZW (Z2 @eStp.eq_1 @he) (Z2 (c0) (c1)) ?_
  exact ZQ (Z1 Tryz.results3)
 | ok t =>
  obtain ⟨_,h2,_,h4⟩:=evoE_parts h
  have c2:=schValidate_sat t (small_of h4).fits
  have c3:=evValidate_sat st hf
  rw [h4] at c2
  rw [h2] at c3
  rw [h] at c1
  unfold rE at c1
  rw [show sOut (.ok t)=t from rfl] at c1
  simp only at c1
  refine ZE Tryz.func3 Tryz.ntmps3 fun w0 m0 F0=>?_
  refine ZW (Z1 @eStp.eq_1) (Z4 (c0) (c1) (c2) (c3)) ?_
  exact ZQ (Z1 Tryz.results3)
end Go.Bw
