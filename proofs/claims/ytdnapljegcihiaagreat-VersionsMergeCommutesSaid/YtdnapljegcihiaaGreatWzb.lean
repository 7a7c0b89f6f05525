/-
  WHAT IS PROVED HERE, of this translation: verValidate_sat, graphsWork_sat.
  A theorem that ends in sat says what the function it names returns, whatever the state it is called in; the bounds on its arguments stand ahead of it.
-/
import Derived.Test.YtdnapljegcihiaaGreatWza
set_option linter.unusedSimpArgs false
set_option linter.unusedVariables false
namespace Go.Bw
open Go.Proofs
theorem verValidate_sat (g:Gr) (hg:g.Fits):Sat Tryz.prog 10 [.agg (eGr g)] (.v (oI (rE (verSchemas g)))):=by
 have c:=verSchemas_sat g hg
 unfold eSchs at c
 refine sS tyOk Tryz.func10 fun w0 m0 F0=>?_
 simp only [Tryz.ntmps10,envOf,Nat.reduceAdd]
 repeat' (first|((first|with_reducible refine qV tyOk fun K hK=>?_|refine Q2 ?_|((with_reducible first|refine qS ?_ ?_|refine qT ?_ ?_|refine qU ?_ ?_)<;>(intro h;try simp only [NM] at h))|((with_reducible refine CallJ.is ?_);(first|refine CallJ.pure (c) ?_|((apply CallJ.lentI);(focus (simp -dsimp (disch:=first|exact D|fail) only [go_sem,↓reduceIte,seval,eGr,eEdgs];rfl));(focus (first|exact (c)))))))<;>simp -dsimp (disch:=first|exact D|fail) only [go_sem,↓reduceIte,seval,eGr,eEdgs])|((with_reducible refine hK _ ?_);clear hK K)|refine Q1 ?_|((with_reducible refine qW (T:=TT) (b:=?_) ?_ ?_);rotate_left;exact rfl)|((with_reducible refine yS ?_ ?_)<;>(intro h;try simp only [NM] at h)))
 simp -dsimp (disch:=first|exact D|fail) only [retQ,Tryz.results10,resVals,cellRV,resOf,St.rest,St.freeze,RT,go_sem,↓reduceIte,seval]
set_option maxHeartbeats 8000000 in
theorem graphsWork_sat:Sat Tryz.prog 4 [] (.v (oB true)):=by
 have c1:=path_sat gr0 1 2 gr0_fits
 have c2:=verValidate_sat gr0 gr0_fits
 rw [path0] at c1
 rw [ver0] at c2
 unfold hOut rE eHps at c1
 unfold rE at c2
 simp only [gr0,zSch,zEdg,eGr,eEdgs,eEdg,eScr,List.map_cons,List.map_nil,eHp,Int.natCast_zero,Int.natCast_one] at c1 c2
 have c3:=equalHops_sat [⟨0,true⟩,⟨1,false⟩] [⟨0,true⟩,⟨1,false⟩] (by simp) (by simp)
 rw [decide_eq_true rfl] at c3
 unfold eHps at c3
 simp only [List.map_cons,List.map_nil,eHp,Int.natCast_zero,Int.natCast_one] at c3
 refine sS tyOk Tryz.func4 fun w0 m0 F0=>?_
 simp only [Tryz.ntmps4,envOf,Nat.reduceAdd]
 repeat' (first|((first|((fail_if_success (refine AWP.isRegion 2 ?_));(with_reducible refine qV tyOk fun K hK=>?_))|refine Q2 ?_|((with_reducible first|refine qS ?_ ?_|refine qT ?_ ?_|refine qU ?_ ?_)<;>(intro h;try simp only [NM] at h))|with_reducible refine yD tyOk mixed 6 (by kernel_rfl) fun K hK=>?_)<;>simp -dsimp (disch:=first|exact D|fail) only [go_sem,↓reduceIte,seval])|((with_reducible refine hK _ ?_);clear hK K)|refine Q1 ?_|((with_reducible refine qW (T:=TT) (b:=?_) ?_ ?_);rotate_left;exact rfl)|((with_reducible refine yS ?_ ?_)<;>(intro h;try simp only [NM] at h)))
 refine AWP.frz [1] [] ?_
 simp -dsimp (disch:=first|exact D|fail) only [go_sem,↓reduceIte,seval,RT,St.rest,St.freeze]
 repeat' (first|((first|with_reducible refine qV tyOk fun K hK=>?_|refine Q2 ?_|((with_reducible first|refine qS ?_ ?_|refine qT ?_ ?_|refine qU ?_ ?_)<;>(intro h;try simp only [NM] at h))|with_reducible refine yD tyOk mixed 6 (by kernel_rfl) fun K hK=>?_|((with_reducible refine CallJ.is ?_);(first|refine CallJ.pure (c1) ?_|refine CallJ.pure (c2) ?_|refine CallJ.pure (c3) ?_|((apply CallJ.lentI);(focus (simp -dsimp (disch:=first|exact D|fail) only [go_sem,↓reduceIte,seval];rfl));(focus (first|exact (c1)|exact (c2)|exact (c3))))))|((with_reducible refine CallH.is ?_);(first|refine CallH.intro (c1) ?_|refine CallH.intro (c2) ?_|refine CallH.intro (c3) ?_)))<;>simp -dsimp (disch:=first|exact D|fail) only [go_sem,↓reduceIte,seval])|((with_reducible refine hK _ ?_);clear hK K)|refine Q1 ?_|((with_reducible refine qW (T:=TT) (b:=?_) ?_ ?_);rotate_left;exact rfl)|((with_reducible refine yS ?_ ?_)<;>(intro h;try simp only [NM] at h)))
 simp -dsimp (disch:=first|exact D|fail) only [retQ,Tryz.results4,resVals,cellRV,resOf,St.rest,St.freeze,RT,go_sem,↓reduceIte,seval]
end Go.Bw
