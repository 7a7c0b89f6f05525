/-
  WHAT IS PROVED HERE, of this translation: verValidate_sat, graphsWork_sat, versionsExtend_sat.
  A theorem that ends in sat says what the function it names returns, whatever the state it is called in; the bounds on its arguments stand ahead of it.
-/
import Derived.Test.YtjjnchbfjbjemaaGreatWza
set_option linter.unusedSimpArgs false
set_option linter.unusedVariables false
namespace Go.Bw
open Go.Proofs
theorem verValidate_sat (g:Gr) (hg:g.Fits):Sat Tryz.prog 29 [.agg (eGr g)] (.v (oI (rE (verSchemas g)))):=by
 have c:=verSchemas_sat g hg
 unfold eSchs at c
 refine sS tyOk Tryz.func29 fun w0 m0 F0=>?_
 simp only [Tryz.ntmps29,envOf,Nat.reduceAdd]
 repeat' (first|((first|with_reducible refine qV tyOk fun K hK=>?_|refine Q2 ?_|((with_reducible first|refine qS ?_ ?_|refine qT ?_ ?_|refine qU ?_ ?_)<;>(intro h;try simp only [NM] at h))|((with_reducible refine CallJ.is ?_);(first|refine CallJ.pure (c) ?_|((apply CallJ.lentI);(focus (simp -dsimp (disch:=first|exact D|fail) only [go_sem,↓reduceIte,seval,eGr,eEdgs];rfl));(focus (first|exact (c)))))))<;>simp -dsimp (disch:=first|exact D|fail) only [go_sem,↓reduceIte,seval,eGr,eEdgs])|((with_reducible refine hK _ ?_);clear hK K)|refine Q1 ?_|((with_reducible refine qW (T:=TT) (b:=?_) ?_ ?_);rotate_left;exact rfl)|((with_reducible refine yS ?_ ?_)<;>(intro h;try simp only [NM] at h)))
 simp -dsimp (disch:=first|exact D|fail) only [retQ,Tryz.results29,resVals,cellRV,resOf,St.rest,St.freeze,RT,go_sem,↓reduceIte,seval]
set_option maxHeartbeats 8000000 in
theorem graphsWork_sat:Sat Tryz.prog 9 [] (.v (oB true)):=by
 have c1:=path_sat gr0 1 2 gr0_fits
 have c2:=verValidate_sat gr0 gr0_fits
 rw [path0] at c1
 rw [ver0] at c2
 unfold hOut rE eHps at c1
 unfold rE at c2
 simp only [gr0,zSch,zEdg,eGr,eEdgs,eEdg,eScr,List.map_cons,List.map_nil,eHp,Int.natCast_zero,Int.natCast_one] at c1 c2
 have c3:=equalHops_sat [⟨0,true⟩,⟨1,false⟩] [⟨0,true⟩,⟨1,false⟩] (by simp) (by simp)
 rw [decide_eq_true rfl] at c3
 unfold eHps at c3
 simp only [List.map_cons,List.map_nil,eHp,Int.natCast_zero,Int.natCast_one] at c3
 refine sS tyOk Tryz.func9 fun w0 m0 F0=>?_
 simp only [Tryz.ntmps9,envOf,Nat.reduceAdd]
 repeat' (first|((first|((fail_if_success (refine AWP.isRegion 2 ?_));(with_reducible refine qV tyOk fun K hK=>?_))|refine Q2 ?_|((with_reducible first|refine qS ?_ ?_|refine qT ?_ ?_|refine qU ?_ ?_)<;>(intro h;try simp only [NM] at h))|with_reducible refine yD tyOk mixed 6 (by kernel_rfl) fun K hK=>?_)<;>simp -dsimp (disch:=first|exact D|fail) only [go_sem,↓reduceIte,seval])|((with_reducible refine hK _ ?_);clear hK K)|refine Q1 ?_|((with_reducible refine qW (T:=TT) (b:=?_) ?_ ?_);rotate_left;exact rfl)|((with_reducible refine yS ?_ ?_)<;>(intro h;try simp only [NM] at h)))
 refine AWP.frz [1] [] ?_
 simp -dsimp (disch:=first|exact D|fail) only [go_sem,↓reduceIte,seval,RT,St.rest,St.freeze]
 repeat' (first|((first|with_reducible refine qV tyOk fun K hK=>?_|refine Q2 ?_|((with_reducible first|refine qS ?_ ?_|refine qT ?_ ?_|refine qU ?_ ?_)<;>(intro h;try simp only [NM] at h))|with_reducible refine yD tyOk mixed 6 (by kernel_rfl) fun K hK=>?_|((with_reducible refine CallJ.is ?_);(first|refine CallJ.pure (c1) ?_|refine CallJ.pure (c2) ?_|refine CallJ.pure (c3) ?_|((apply CallJ.lentI);(focus (simp -dsimp (disch:=first|exact D|fail) only [go_sem,↓reduceIte,seval];rfl));(focus (first|exact (c1)|exact (c2)|exact (c3))))))|((with_reducible refine CallH.is ?_);(first|refine CallH.intro (c1) ?_|refine CallH.intro (c2) ?_|refine CallH.intro (c3) ?_)))<;>simp -dsimp (disch:=first|exact D|fail) only [go_sem,↓reduceIte,seval])|((with_reducible refine hK _ ?_);clear hK K)|refine Q1 ?_|((with_reducible refine qW (T:=TT) (b:=?_) ?_ ?_);rotate_left;exact rfl)|((with_reducible refine yS ?_ ?_)<;>(intro h;try simp only [NM] at h)))
 simp -dsimp (disch:=first|exact D|fail) only [retQ,Tryz.results9,resVals,cellRV,resOf,St.rest,St.freeze,RT,go_sem,↓reduceIte,seval]
set_option maxHeartbeats 16000000 in
theorem versionsExtend_sat (g:Gr) (p:Int) (steps:List Stp) (hg:g.Fits) (hl:steps.length≤140737488355328) (hs:∀st∈steps,st.Fits):Sat Tryz.prog 4 [.agg (eGr g),oI p,.one (eScr steps)] (.v (oB true)):=by
 have c0:=graphsWork_sat
 have c1:=verSchemas_sat g hg
 unfold eSchs at c1
 unfold eScr
 cases hR:verSchemas g with
 | error e =>
  have he:=verSchemas_ne hR
  rw [hR] at c1
  unfold lOut rE at c1
  simp only at c1
  refine sS tyOk Tryz.func4 fun w0 m0 F0=>?_
  simp only [Tryz.ntmps4,envOf,Nat.reduceAdd]
  repeat' (first|((first|with_reducible refine qV tyOk fun K hK=>?_|refine Q2 ?_|((with_reducible first|refine qS ?_ ?_|refine qT ?_ ?_|refine qU ?_ ?_)<;>(intro h;try simp only [NM] at h))|((with_reducible refine CallJ.is ?_);(first|refine CallJ.pure (c0) ?_|refine CallJ.pure (c1) ?_|((apply CallJ.lentI);(focus (simp -dsimp (disch:=first|exact D|fail) only [go_sem,↓reduceIte,seval,eGr,eEdgs,he];rfl));(focus (first|exact (c0)|exact (c1)))))))<;>simp -dsimp (disch:=first|exact D|fail) only [go_sem,↓reduceIte,seval,eGr,eEdgs,he])|((with_reducible refine hK _ ?_);clear hK K)|refine Q1 ?_|((with_reducible refine qW (T:=TT) (b:=?_) ?_ ?_);rotate_left;exact rfl)|((with_reducible refine yS ?_ ?_)<;>(intro h;try simp only [NM] at h)))
  simp -dsimp (disch:=first|exact D|fail) only [retQ,Tryz.results4,resVals,cellRV,resOf,St.rest,St.freeze,RT,go_sem,↓reduceIte,seval]
 | ok O =>
  obtain ⟨l8,_,Oz,lO⟩:=verSchemas_ok hR
  rw [hR] at c1
  unfold lOut rE at c1
  simp only at c1
  have cl:=cloneEdgs_own g.edges (by omega)
  unfold eEdgs at cl
  have pk:=pick_sat p O.length (by omega) (by omega)
  obtain ⟨q,hq⟩:∃q,modR p O.length=q:=⟨_,rfl⟩
  rw [hq] at pk
  have fx:(gExt g q steps).Fits:=⟨hg.base,by show (g.edges++_).length≤_;rw [List.length_append,List.length_singleton];omega,fun e he=>by
   rcases List.mem_append.1 (show e∈g.edges++[⟨q,steps⟩] from he) with he|he
   ·exact hg.edge e he
   ·rw [List.mem_singleton.1 he];exact ⟨hl,hs⟩⟩
  have c2:=verSchemas_sat (gExt g q steps) fx
  have ex:eGr (gExt g q steps)=[eTbls g.base.tables,eFKs g.base.fks,eCons g.base.cons,.sl 2 (g.edges.map eEdg++[[.int .i64 q,.sl 24 (steps.map eStp)]])]:=by
   unfold eGr eEdgs gExt
   simp only [List.map_append,List.map_cons,List.map_nil]
   rfl
  rw [ex] at c2
  unfold eSchs at c2
  refine sS tyOk Tryz.func4 fun w0 m0 F0=>?_
  simp only [Tryz.ntmps4,envOf,Nat.reduceAdd]
  repeat' (first|((first|with_reducible refine qV tyOk fun K hK=>?_|refine Q2 ?_|((with_reducible first|refine qS ?_ ?_|refine qT ?_ ?_|refine qU ?_ ?_)<;>(intro h;try simp only [NM] at h))|((with_reducible refine CallJ.is ?_);(first|refine CallJ.pure (c0) ?_|refine CallJ.pure (c1) ?_|((apply CallJ.lentI);(focus (simp -dsimp (disch:=first|exact D|fail) only [go_sem,↓reduceIte,seval,eGr,eEdgs];rfl));(focus (first|exact (c0)|exact (c1)))))))<;>simp -dsimp (disch:=first|exact D|fail) only [go_sem,↓reduceIte,seval,eGr,eEdgs])|((with_reducible refine hK _ ?_);clear hK K)|refine Q1 ?_|((with_reducible refine qW (T:=TT) (b:=?_) ?_ ?_);rotate_left;exact rfl)|((with_reducible refine yS ?_ ?_)<;>(intro h;try simp only [NM] at h)))
  refine AWP.mid ⟨62,[(6,.v (oB false)),(7,.v (.one (.sl 3 (O.map eSch)))),(9,.v (.one (.ptr 9 0)))],[(9,[eTbls g.base.tables,eFKs g.base.fks,eCons g.base.cons,.ref 36 0 (g.edges.length+1)])],[(36,⟨2,g.edges.map eEdg++[[.int .i64 q,.sl 24 (steps.map eStp)]],[]⟩)]⟩ ?_ ?_
  ·refine dY tyOk mixed [(0,4),(5,3),(9,1)] (.cons 4 [] [(0,2),(5,3),(9,1)] (.cons 8 [(10,1)] [(0,2),(9,1)] (.cons 11 [] [(0,2)] (.cons 12 [(13,1)] [(0,2)] (.cons 14 [] [(0,2),(13,1)] (.cons 15 [] [] .leaf .none) .none) (.cons 14 [] [(0,2)] (.cons 12 [(13,1)] [(0,2)] (.cons 15 [] [] .leaf .none) .none) .none)) (.cons 14 [] [(0,2),(9,2)] (.cons 11 [] [(0,2)] (.cons 12 [(13,1)] [(0,2)] (.cons 15 [] [] .leaf .none) .none) .none) .none)) (.cons 14 [] [(0,2),(5,3),(9,1)] (.cons 8 [(10,1)] [(0,2),(9,1)] (.cons 11 [] [(0,2)] (.cons 12 [(13,1)] [(0,2)] (.cons 15 [] [] .leaf .none) .none) .none) .none) .none)) (.cons 14 [] [(0,4),(5,3),(9,1)] (.cons 4 [] [(0,2),(5,3),(9,1)] (.cons 8 [(10,1)] [(0,2),(9,1)] (.cons 11 [] [(0,2)] (.cons 12 [(13,1)] [(0,2)] (.cons 15 [] [] .leaf .none) .none) .none) .none) .none) .none)) [4,8,11,12,14,15] 8 fun K hK=>?_
   simp only [segt_leaf,segt_none,segt_cons,segs,List.drop_succ_cons,List.drop_zero,List.take_succ_cons,List.take_zero,List.getElem?_cons_zero,List.getElem?_cons_succ,List.cons_append,List.nil_append,List.append_nil] at hK ⊢
   simp -dsimp (disch:=first|exact D|fail) only [go_sem,↓reduceIte,seval,eEdg,eEdgs,eGr,Option.getD_none]
   repeat' (first|((first|((fail_if_success (refine AWP.isRegion 7 ?_));(with_reducible refine qV tyOk fun K hK=>?_))|refine Q2 ?_|((with_reducible first|refine qS ?_ ?_|refine qT ?_ ?_|refine qU ?_ ?_)<;>(intro h;try simp only [NM] at h))|((with_reducible refine CallJ.is ?_);refine CallJ.io [] [] [] [(2,28)] [] [28] [] [28] (cl) rfl ⟨rfl,rfl,rfl,rfl⟩ ?_ ?_ ?_)|((with_reducible refine CallJ.is ?_);(first|refine CallJ.pure (pk) ?_|((apply CallJ.lentI);(focus (simp -dsimp (disch:=first|exact D|fail) only [go_sem,↓reduceIte,seval,eEdg,eEdgs,eGr,Option.getD_none,dropL_nil,dropL_nil',dropL_cons];rfl));(focus (first|exact (pk))))))|(with_reducible first|refine VCt.some fun K hK=>?_|refine VCt.step fun K hK=>?_))<;>simp -dsimp (disch:=first|exact D|fail) only [go_sem,↓reduceIte,seval,eEdg,eEdgs,eGr,Option.getD_none,dropL_nil,dropL_nil',dropL_cons])|((with_reducible refine hK _ ?_);clear hK K)|(with_reducible refine VCt.intro fun K0 hK0=>?_)|((with_reducible refine VCt.fin ?_);(refine hK0 _ ?_);clear hK0 K0)|(with_reducible first|refine VCy.quiet ?_|refine VCt.none ?_)|((with_reducible refine VCy.keep ?_ ?_);focus ((simp -dsimp (disch:=first|exact D|fail) only [go_sem,↓reduceIte,seval,Stable_cons,Stable_nil,sameA_some,sameA_none,eEdg,eEdgs,eGr,Option.getD_none,dropL_nil,dropL_nil',dropL_cons]);first|done|exact E|fail))|((with_reducible refine VCt.fork (fun K hK=>?_) ?_);(focus (simp -dsimp (disch:=first|exact D|fail) only [go_sem,↓reduceIte,seval,eEdg,eEdgs,eGr,Option.getD_none,dropL_nil,dropL_nil',dropL_cons])))|refine Q1 ?_|((with_reducible refine qW (T:=TT) (b:=?_) ?_ ?_);rotate_left;exact rfl)|((with_reducible refine yS ?_ ?_)<;>(intro h;try simp only [NM] at h)))
   all_goals refine Gq.done ⟨rfl,?_⟩
   all_goals refine St.le_mk ?_ ?_ ?_<;>simp only [LE,EN,Nat.reduceEqDiff,reduceIte,Nat.reduceSub]
  have fe:(g.edges.map eEdg++[[L.int .i64 q,L.sl 24 (steps.map eStp)]]).map (fun x:List L=>x.map (L.frzN 4))=g.edges.map eEdg++[[L.int .i64 q,L.sl 24 (steps.map eStp)]]:=by
   rw [List.map_append,frz_map (e:=eEdg) (fun _=>rfl)]
   rfl
  refine AWP.frz [9] [] ?_
  simp -dsimp (disch:=first|exact D|fail) only [go_sem,↓reduceIte,seval,RT,St.rest,St.freeze,fe]
  cases hM:verSchemas (gExt g q steps) with
  | error e =>
   have he:=verSchemas_ne hM
   rw [hM] at c2
   unfold lOut rE at c2
   simp only at c2
   repeat' (first|((first|with_reducible refine qV tyOk fun K hK=>?_|refine Q2 ?_|((with_reducible first|refine qS ?_ ?_|refine qT ?_ ?_|refine qU ?_ ?_)<;>(intro h;try simp only [NM] at h))|((with_reducible refine CallJ.is ?_);(first|refine CallJ.pure (c2) ?_|((apply CallJ.lentI);(focus (simp -dsimp (disch:=first|exact D|fail) only [go_sem,↓reduceIte,seval,he];rfl));(focus (first|exact (c2)))))))<;>simp -dsimp (disch:=first|exact D|fail) only [go_sem,↓reduceIte,seval,he])|((with_reducible refine hK _ ?_);clear hK K)|refine Q1 ?_|((with_reducible refine qW (T:=TT) (b:=?_) ?_ ?_);rotate_left;exact rfl)|((with_reducible refine yS ?_ ?_)<;>(intro h;try simp only [NM] at h)))
   simp -dsimp (disch:=first|exact D|fail) only [retQ,Tryz.results4,resVals,cellRV,resOf,St.rest,St.freeze,RT,go_sem,↓reduceIte,seval]
  | ok M =>
   obtain ⟨t,hMt⟩:=verSchemas_ext hR hM
   rw [hM] at c2
   unfold lOut rE at c2
   simp only at c2
   have lM:M.length=O.length+1:=by rw [hMt,List.length_append,List.length_singleton]
   have tM:List.take O.length (M.map eSch)=O.map eSch:=by rw [hMt,List.map_append];exact List.take_left' (by simp)
   have fz:∀s∈O,s.Fits:=fun s hs=>(small_of (Oz s hs)).fits
   have ef:=equalFuncSchs_sat O O (by omega) (by omega) fz fz
   rw [decide_eq_true rfl] at ef
   unfold eSchs at ef
   repeat' (first|((first|with_reducible refine qV tyOk fun K hK=>?_|refine Q2 ?_|((with_reducible first|refine qS ?_ ?_|refine qT ?_ ?_|refine qU ?_ ?_)<;>(intro h;try simp only [NM] at h))|((with_reducible refine CallJ.is ?_);(first|refine CallJ.pure (c2) ?_|refine CallJ.pure (ef) ?_|((apply CallJ.lentI);(focus (simp -dsimp (disch:=first|exact D|fail) only [go_sem,↓reduceIte,seval,lM,tM];rfl));(focus (first|exact (c2)|exact (ef)))))))<;>simp -dsimp (disch:=first|exact D|fail) only [go_sem,↓reduceIte,seval,lM,tM])|((with_reducible refine hK _ ?_);clear hK K)|refine Q1 ?_|((with_reducible refine qW (T:=TT) (b:=?_) ?_ ?_);rotate_left;exact rfl)|((with_reducible refine yS ?_ ?_)<;>(intro h;try simp only [NM] at h)))
   simp -dsimp (disch:=first|exact D|fail) only [retQ,Tryz.results4,resVals,cellRV,resOf,St.rest,St.freeze,RT,go_sem,↓reduceIte,seval]
end Go.Bw
