/-
  WHAT IS PROVED HERE, of this translation: scrSchemas_sat, scrApply_sat, verSchemas_sat.
  A theorem that ends in sat says what the function it names returns, whatever the state it is called in; the bounds on its arguments stand ahead of it.
-/
import Derived.Test.YtdnapljegcihiaaGreatWx
set_option linter.unusedSimpArgs false
set_option linter.unusedVariables false
namespace Go.Bw
open Go.Proofs
set_option maxHeartbeats 16000000 in
theorem scrSchemas_sat (s:Sch) (l:List Stp) (hs:s.Fits) (hl:l.length≤140737488355328) (hf:∀st∈l,st.Fits):Sat Tryz.prog 15 [.agg (eSch s),.one (eScr l)] (.tup [.one (eSchs (lOut (scrSchemas s l))),oI (rE (scrSchemas s l))]):=by
 have c1:=schValidate_sat s hs
 unfold eScr
 by_cases h0:6<l.length
 ·have spec:scrSchemas s l=.error 2:=by unfold scrSchemas;rw [if_pos h0]
  rw [spec]
  unfold lOut rE eSchs
  refine sS tyOk Tryz.func15 fun w0 m0 F0=>?_
  simp only [Tryz.ntmps15,envOf,Nat.reduceAdd]
  repeat' (first|((first|with_reducible refine qV tyOk fun K hK=>?_|refine Q2 ?_|((with_reducible first|refine qS ?_ ?_|refine qT ?_ ?_|refine qU ?_ ?_)<;>(intro h;try simp only [NM] at h)))<;>simp -dsimp (disch:=first|exact D|fail) only [go_sem,↓reduceIte,seval])|((with_reducible refine hK _ ?_);clear hK K)|refine Q1 ?_|((with_reducible refine qW (T:=TT) (b:=?_) ?_ ?_);rotate_left;exact rfl)|((with_reducible refine yS ?_ ?_)<;>(intro h;try simp only [NM] at h)))
  simp -dsimp (disch:=first|exact D|fail) only [retQ,Tryz.results15,resVals,cellRV,resOf,St.rest,St.freeze,RT,go_sem,↓reduceIte,seval]
 by_cases h1:schE s=0
 case neg =>
  have spec:scrSchemas s l=.error (schE s):=by unfold scrSchemas;rw [if_neg h0,if_pos h1]
  rw [spec]
  unfold lOut rE eSchs
  refine sS tyOk Tryz.func15 fun w0 m0 F0=>?_
  simp only [Tryz.ntmps15,envOf,Nat.reduceAdd]
  repeat' (first|((first|with_reducible refine qV tyOk fun K hK=>?_|refine Q2 ?_|((with_reducible first|refine qS ?_ ?_|refine qT ?_ ?_|refine qU ?_ ?_)<;>(intro h;try simp only [NM] at h))|((with_reducible refine CallJ.is ?_);(first|refine CallJ.pure (c1) ?_|((apply CallJ.lentI);(focus (simp -dsimp (disch:=first|exact D|fail) only [go_sem,↓reduceIte,seval,eSch,h1];rfl));(focus (first|exact (c1)))))))<;>simp -dsimp (disch:=first|exact D|fail) only [go_sem,↓reduceIte,seval,eSch,h1])|((with_reducible refine hK _ ?_);clear hK K)|refine Q1 ?_|((with_reducible refine qW (T:=TT) (b:=?_) ?_ ?_);rotate_left;exact rfl)|((with_reducible refine yS ?_ ?_)<;>(intro h;try simp only [NM] at h)))
  simp -dsimp (disch:=first|exact D|fail) only [retQ,Tryz.results15,resVals,cellRV,resOf,St.rest,St.freeze,RT,go_sem,↓reduceIte,seval]
 rw [h1] at c1
 have c2:=schClone_sat s (small_of h1)
 obtain ⟨R,hR⟩:∃R,goS [s] l=R:=⟨_,rfl⟩
 have spec:scrSchemas s l=R:=by unfold scrSchemas;rw [if_neg h0,if_neg (by rw [h1];simp),hR]
 rw [spec]
 refine sS tyOk Tryz.func15 fun w0 m0 F0=>?_
 simp only [Tryz.ntmps15,envOf,Nat.reduceAdd]
 repeat' (first|((first|with_reducible refine qV tyOk fun K hK=>?_|refine Q2 ?_|((with_reducible first|refine qS ?_ ?_|refine qT ?_ ?_|refine qU ?_ ?_)<;>(intro h;try simp only [NM] at h))|((with_reducible refine CallJ.is ?_);(first|refine CallJ.pure (c1) ?_|refine CallJ.pure (c2) ?_|((apply CallJ.lentI);(focus (simp -dsimp (disch:=first|exact D|fail) only [go_sem,↓reduceIte,seval,eSch];rfl));(focus (first|exact (c1)|exact (c2)))))))<;>simp -dsimp (disch:=first|exact D|fail) only [go_sem,↓reduceIte,seval,eSch])|((with_reducible refine hK _ ?_);clear hK K)|refine Q1 ?_|((with_reducible refine qW (T:=TT) (b:=?_) ?_ ?_);rotate_left;exact rfl)|((with_reducible refine yS ?_ ?_)<;>(intro h;try simp only [NM] at h)))
 refine AWP.loop (ι:={p:Nat×List Sch // p.1≤l.length∧p.2.length=p.1+1∧(∀x∈p.2,schE x=0)∧goS p.2 (l.drop p.1)=R}) (fun p=>⟨48,[(5,.v (oI 0)),(7,.v (.one (.ref 7 0 p.1.2.length))),(23,.v (.one (.sl 24 (l.map eStp)))),(24,.v (oI l.length)),(25,.v (oI p.1.1))],[],[(7,⟨3,p.1.2.map eSch,[]⟩)]⟩) (fun p=>l.length - p.1.1) ⟨(0,[s]),Nat.zero_le _,rfl,fun x hx=>by rw [List.mem_singleton.1 hx];exact h1,hR⟩ ?_ fun ⟨⟨k,acc⟩,hkl,hka,hkz,hkR⟩=>?_
 ·refine St.le_mk ?_ ?_ ?_<;>simp only [LE,EN,Nat.reduceEqDiff,reduceIte,Nat.reduceSub,eSch,List.length_cons,List.length_nil,Nat.zero_add]
 simp only at hkl hka hkz hkR ⊢
 rcases Nat.lt_or_ge k l.length with hk|hk
 ·obtain ⟨st,hst⟩:∃st,l[k]=st:=⟨_,rfl⟩
  have gs:(l.map eStp).getD k []=eStp st:=by rw [getD_map_lt _ _ _ hk,hst]
  have fst:=hf l[k] (List.getElem_mem hk)
  rw [List.drop_eq_getElem_cons hk,goS,hka,Nat.add_sub_cancel] at hkR
  rw [hst] at hkR fst
  obtain ⟨c,hc⟩:∃c,acc.getD k zSch=c:=⟨_,rfl⟩
  have hk2:k<acc.length:=by omega
  have ga:(acc.map eSch).getD k []=eSch c:=by rw [getD_map_lt _ _ _ hk2,←hc,getD_lt _ hk2]
  have zc:schE c=0:=by rw [←hc,getD_lt _ hk2];exact hkz _ (List.getElem_mem hk2)
  have ev:=evoApply_sat c st (small_of zc).fits fst
  rw [hc] at hkR
  obtain ⟨r0,hv⟩:∃r0,evoE c st=r0:=⟨_,rfl⟩
  rw [hv] at hkR ev
  repeat' (first|((first|with_reducible refine qV tyOk fun K hK=>?_|refine Q2 ?_|((with_reducible first|refine qS ?_ ?_|refine qT ?_ ?_|refine qU ?_ ?_)<;>(intro h;try simp only [NM] at h)))<;>simp -dsimp (disch:=first|exact D|fail) only [go_sem,↓reduceIte,seval,gs,eStp,eSch,Option.getD_none])|((with_reducible refine hK _ ?_);clear hK K)|refine Q1 ?_|((with_reducible refine qW (T:=TT) (b:=?_) ?_ ?_);rotate_left;exact rfl)|((with_reducible refine yS ?_ ?_)<;>(intro h;try simp only [NM] at h)))
  refine AWP.mid ⟨48,[(5,.v (oI 0)),(7,.v (.one (.ref 7 0 acc.length))),(23,.v (.one (.sl 24 (l.map eStp)))),(24,.v (oI l.length)),(25,.v (oI k)),(10,.v (.one (.ptr 10 0))),(11,.v (oI (rE r0)))],[(10,eSch (sOut r0))],[(7,⟨3,acc.map eSch,[]⟩)]⟩ ?_ ?_
  ·refine dY tyOk mixed [(0,5)] (.cons 5 [(6,3)] [] (.cons 9 [] [(6,3)] (.cons 10 [(11,1)] [(8,1)] .leaf .none) .none) (.cons 9 [] [(0,5)] (.cons 5 [(6,3)] [] (.cons 10 [(11,1)] [(8,1)] .leaf .none) .none) .none)) [5,9,10] 8 fun K hK=>?_
   simp only [segt_leaf,segt_none,segt_cons,segs,List.drop_succ_cons,List.drop_zero,List.take_succ_cons,List.take_zero,List.getElem?_cons_zero,List.getElem?_cons_succ,List.cons_append,List.nil_append,List.append_nil] at hK ⊢
   simp -dsimp (disch:=first|exact D|fail) only [go_sem,↓reduceIte,seval,ga,eSch,Option.getD_none]
   repeat' (first|((first|((fail_if_success (refine AWP.isRegion 11 ?_));(with_reducible refine qV tyOk fun K hK=>?_))|refine Q2 ?_|((with_reducible first|refine qS ?_ ?_|refine qT ?_ ?_|refine qU ?_ ?_)<;>(intro h;try simp only [NM] at h))|((with_reducible refine CallJ.is ?_);(first|refine CallJ.pure (ev) ?_|((apply CallJ.lentI);(focus (simp -dsimp (disch:=first|exact D|fail) only [go_sem,↓reduceIte,seval,ga,eSch,eStp,Option.getD_none];rfl));(focus (first|exact (ev))))))|(with_reducible first|refine VCt.some fun K hK=>?_|refine VCt.step fun K hK=>?_))<;>simp -dsimp (disch:=first|exact D|fail) only [go_sem,↓reduceIte,seval,ga,eSch,eStp,Option.getD_none])|((with_reducible refine hK _ ?_);clear hK K)|(with_reducible refine VCt.intro fun K0 hK0=>?_)|((with_reducible refine VCt.fin ?_);(refine hK0 _ ?_);clear hK0 K0)|(with_reducible first|refine VCy.quiet ?_|refine VCt.none ?_)|((with_reducible refine VCy.keep ?_ ?_);focus ((simp -dsimp (disch:=first|exact D|fail) only [go_sem,↓reduceIte,seval,Stable_cons,Stable_nil,sameA_some,sameA_none,ga,eSch,eStp,Option.getD_none]);first|done|exact E|fail))|((with_reducible refine VCt.fork (fun K hK=>?_) ?_);(focus (simp -dsimp (disch:=first|exact D|fail) only [go_sem,↓reduceIte,seval,ga,eSch,eStp,Option.getD_none])))|refine Q1 ?_|((with_reducible refine qW (T:=TT) (b:=?_) ?_ ?_);rotate_left;exact rfl)|((with_reducible refine yS ?_ ?_)<;>(intro h;try simp only [NM] at h)))
   all_goals refine Gq.done ⟨rfl,?_⟩
   all_goals refine St.le_mk ?_ ?_ ?_<;>simp only [LE,EN,Nat.reduceEqDiff,reduceIte,Nat.reduceSub,eSch]
  cases r0 with
  | error e =>
   simp only at hkR
   subst hkR
   have he:=evoE_ne hv
   unfold lOut rE eSchs sOut
   simp only
   repeat' (first|((first|with_reducible refine qV tyOk fun K hK=>?_|refine Q2 ?_|((with_reducible first|refine qS ?_ ?_|refine qT ?_ ?_|refine qU ?_ ?_)<;>(intro h;try simp only [NM] at h)))<;>simp -dsimp (disch:=first|exact D|fail) only [go_sem,↓reduceIte,seval,eSch,he,Option.getD_none])|((with_reducible refine hK _ ?_);clear hK K)|refine Q1 ?_|((with_reducible refine qW (T:=TT) (b:=?_) ?_ ?_);rotate_left;exact rfl)|((with_reducible refine yS ?_ ?_)<;>(intro h;try simp only [NM] at h)))
   simp -dsimp (disch:=first|exact D|fail) only [retQ,Tryz.results15,resVals,cellRV,resOf,St.rest,St.freeze,RT,go_sem,↓reduceIte,seval]
  | ok u =>
   simp only at hkR
   unfold sOut rE
   simp only
   repeat' (first|((first|with_reducible refine qV tyOk fun K hK=>?_|refine Q2 ?_|((with_reducible first|refine qS ?_ ?_|refine qT ?_ ?_|refine qU ?_ ?_)<;>(intro h;try simp only [NM] at h)))<;>simp -dsimp (disch:=first|exact D|fail) only [go_sem,↓reduceIte,seval,eSch,Option.getD_none])|((with_reducible refine hK _ ?_);clear hK K)|refine Q1 ?_|((with_reducible refine qW (T:=TT) (b:=?_) ?_ ?_);rotate_left;exact rfl)|((with_reducible refine yS ?_ ?_)<;>(intro h;try simp only [NM] at h)))
   refine ⟨⟨(k+1,acc++[u]),by simp only;omega,by simp;omega,fun x hx=>by
    rcases List.mem_append.1 hx with hx|hx
    ·exact hkz x hx
    ·rw [List.mem_singleton.1 hx];exact evoE_ok hv,hkR⟩,by simp only;omega,?_⟩
   refine St.le_mk ?_ ?_ ?_<;>simp only [LE,EN,Nat.reduceEqDiff,reduceIte,Nat.reduceSub,eSch,List.map_append,List.map_cons,List.map_nil,List.length_append,List.length_cons,List.length_nil,Nat.zero_add]
 ·have hk:k=l.length:=by omega
  subst hk
  rw [List.drop_length,goS] at hkR
  subst hkR
  unfold lOut rE eSchs
  simp only
  repeat' (first|((first|with_reducible refine qV tyOk fun K hK=>?_|refine Q2 ?_|((with_reducible first|refine qS ?_ ?_|refine qT ?_ ?_|refine qU ?_ ?_)<;>(intro h;try simp only [NM] at h)))<;>simp -dsimp (disch:=first|exact D|fail) only [go_sem,↓reduceIte,seval])|((with_reducible refine hK _ ?_);clear hK K)|refine Q1 ?_|((with_reducible refine qW (T:=TT) (b:=?_) ?_ ?_);rotate_left;exact rfl)|((with_reducible refine yS ?_ ?_)<;>(intro h;try simp only [NM] at h)))
  simp -dsimp (disch:=first|exact D|fail) only [retQ,Tryz.results15,resVals,cellRV,resOf,St.rest,St.freeze,RT,go_sem,↓reduceIte,seval]
  rw [frz_eSch]
set_option maxHeartbeats 16000000 in
theorem scrApply_sat (s:Sch) (l:List Stp) (hs:s.Fits) (hl:l.length≤140737488355328) (hf:∀st∈l,st.Fits):Sat Tryz.prog 6 [.agg (eSch s),.one (eScr l)] (.tup [.agg (eSch (sOut (scrApply s l))),oI (rE (scrApply s l))]):=by
 have c1:=scrSchemas_sat s l hs hl hf
 unfold eScr at c1 ⊢
 cases hR:scrSchemas s l with
 | error e =>
  have spec:scrApply s l=.error e:=by unfold scrApply;rw [hR]
  have he:=scrSchemas_ne hR
  rw [hR] at c1
  rw [spec]
  unfold lOut rE eSchs at c1
  unfold sOut rE
  simp only at c1 ⊢
  refine sS tyOk Tryz.func6 fun w0 m0 F0=>?_
  simp only [Tryz.ntmps6,envOf,Nat.reduceAdd]
  repeat' (first|((first|with_reducible refine qV tyOk fun K hK=>?_|refine Q2 ?_|((with_reducible first|refine qS ?_ ?_|refine qT ?_ ?_|refine qU ?_ ?_)<;>(intro h;try simp only [NM] at h))|((with_reducible refine CallJ.is ?_);(first|refine CallJ.pure (c1) ?_|((apply CallJ.lentI);(focus (simp -dsimp (disch:=first|exact D|fail) only [go_sem,↓reduceIte,seval,eSch,he];rfl));(focus (first|exact (c1)))))))<;>simp -dsimp (disch:=first|exact D|fail) only [go_sem,↓reduceIte,seval,eSch,he])|((with_reducible refine hK _ ?_);clear hK K)|refine Q1 ?_|((with_reducible refine qW (T:=TT) (b:=?_) ?_ ?_);rotate_left;exact rfl)|((with_reducible refine yS ?_ ?_)<;>(intro h;try simp only [NM] at h)))
  simp -dsimp (disch:=first|exact D|fail) only [retQ,Tryz.results6,resVals,cellRV,resOf,St.rest,St.freeze,RT,go_sem,↓reduceIte,seval]
 | ok O =>
  have spec:scrApply s l=.ok (O.getD (O.length - 1) zSch):=by unfold scrApply;rw [hR]
  obtain ⟨_,lO⟩:=scrSchemas_ok hR
  rw [hR] at c1
  rw [spec]
  unfold lOut rE eSchs at c1
  unfold sOut rE
  simp only at c1 ⊢
  have gO:(O.map eSch).getD (O.length - 1) []=eSch (O.getD (O.length - 1) zSch):=by rw [getD_map_lt _ _ _ (by omega),getD_lt _ (by omega)]
  have w1:((O.length:Int) - 1).toNat=O.length - 1:=by omega
  refine sS tyOk Tryz.func6 fun w0 m0 F0=>?_
  simp only [Tryz.ntmps6,envOf,Nat.reduceAdd]
  repeat' (first|((first|with_reducible refine qV tyOk fun K hK=>?_|refine Q2 ?_|((with_reducible first|refine qS ?_ ?_|refine qT ?_ ?_|refine qU ?_ ?_)<;>(intro h;try simp only [NM] at h))|((with_reducible refine CallJ.is ?_);(first|refine CallJ.pure (c1) ?_|((apply CallJ.lentI);(focus (simp -dsimp (disch:=first|exact D|fail) only [go_sem,↓reduceIte,seval,eSch,gO,w1,Option.getD_none];rfl));(focus (first|exact (c1)))))))<;>simp -dsimp (disch:=first|exact D|fail) only [go_sem,↓reduceIte,seval,eSch,gO,w1,Option.getD_none])|((with_reducible refine hK _ ?_);clear hK K)|refine Q1 ?_|((with_reducible refine qW (T:=TT) (b:=?_) ?_ ?_);rotate_left;exact rfl)|((with_reducible refine yS ?_ ?_)<;>(intro h;try simp only [NM] at h)))
  simp -dsimp (disch:=first|exact D|fail) only [retQ,Tryz.results6,resVals,cellRV,resOf,St.rest,St.freeze,RT,go_sem,↓reduceIte,seval]
set_option maxHeartbeats 16000000 in
theorem verSchemas_sat (g:Gr) (hg:g.Fits):Sat Tryz.prog 21 [.agg (eGr g)] (.tup [.one (eSchs (lOut (verSchemas g))),oI (rE (verSchemas g))]):=by
 have c1:=schValidate_sat g.base hg.base
 have hl:=hg.len
 by_cases h0:8≤g.edges.length
 ·have spec:verSchemas g=.error 2:=by unfold verSchemas;rw [if_pos h0]
  rw [spec]
  unfold lOut rE eSchs eGr eEdgs
  refine sS tyOk Tryz.func21 fun w0 m0 F0=>?_
  simp only [Tryz.ntmps21,envOf,Nat.reduceAdd]
  repeat' (first|((first|with_reducible refine qV tyOk fun K hK=>?_|refine Q2 ?_|((with_reducible first|refine qS ?_ ?_|refine qT ?_ ?_|refine qU ?_ ?_)<;>(intro h;try simp only [NM] at h)))<;>simp -dsimp (disch:=first|exact D|fail) only [go_sem,↓reduceIte,seval])|((with_reducible refine hK _ ?_);clear hK K)|refine Q1 ?_|((with_reducible refine qW (T:=TT) (b:=?_) ?_ ?_);rotate_left;exact rfl)|((with_reducible refine yS ?_ ?_)<;>(intro h;try simp only [NM] at h)))
  simp -dsimp (disch:=first|exact D|fail) only [retQ,Tryz.results21,resVals,cellRV,resOf,St.rest,St.freeze,RT,go_sem,↓reduceIte,seval]
 by_cases h1:schE g.base=0
 case neg =>
  have spec:verSchemas g=.error (schE g.base):=by unfold verSchemas;rw [if_neg h0,if_pos h1]
  rw [spec]
  unfold lOut rE eSchs eGr eEdgs
  refine sS tyOk Tryz.func21 fun w0 m0 F0=>?_
  simp only [Tryz.ntmps21,envOf,Nat.reduceAdd]
  repeat' (first|((first|with_reducible refine qV tyOk fun K hK=>?_|refine Q2 ?_|((with_reducible first|refine qS ?_ ?_|refine qT ?_ ?_|refine qU ?_ ?_)<;>(intro h;try simp only [NM] at h))|((with_reducible refine CallJ.is ?_);(first|refine CallJ.pure (c1) ?_|((apply CallJ.lentI);(focus (simp -dsimp (disch:=first|exact D|fail) only [go_sem,↓reduceIte,seval,eSch,h1];rfl));(focus (first|exact (c1)))))))<;>simp -dsimp (disch:=first|exact D|fail) only [go_sem,↓reduceIte,seval,eSch,h1])|((with_reducible refine hK _ ?_);clear hK K)|refine Q1 ?_|((with_reducible refine qW (T:=TT) (b:=?_) ?_ ?_);rotate_left;exact rfl)|((with_reducible refine yS ?_ ?_)<;>(intro h;try simp only [NM] at h)))
  simp -dsimp (disch:=first|exact D|fail) only [retQ,Tryz.results21,resVals,cellRV,resOf,St.rest,St.freeze,RT,go_sem,↓reduceIte,seval]
 rw [h1] at c1
 have c2:=schClone_sat g.base (small_of h1)
 obtain ⟨R,hR⟩:∃R,goG [g.base] g.edges=R:=⟨_,rfl⟩
 have spec:verSchemas g=R:=by unfold verSchemas;rw [if_neg h0,if_neg (by rw [h1];simp),hR]
 rw [spec]
 unfold eGr eEdgs
 refine sS tyOk Tryz.func21 fun w0 m0 F0=>?_
 simp only [Tryz.ntmps21,envOf,Nat.reduceAdd]
 repeat' (first|((first|with_reducible refine qV tyOk fun K hK=>?_|refine Q2 ?_|((with_reducible first|refine qS ?_ ?_|refine qT ?_ ?_|refine qU ?_ ?_)<;>(intro h;try simp only [NM] at h))|((with_reducible refine CallJ.is ?_);(first|refine CallJ.pure (c1) ?_|refine CallJ.pure (c2) ?_|((apply CallJ.lentI);(focus (simp -dsimp (disch:=first|exact D|fail) only [go_sem,↓reduceIte,seval,eSch];rfl));(focus (first|exact (c1)|exact (c2)))))))<;>simp -dsimp (disch:=first|exact D|fail) only [go_sem,↓reduceIte,seval,eSch])|((with_reducible refine hK _ ?_);clear hK K)|refine Q1 ?_|((with_reducible refine qW (T:=TT) (b:=?_) ?_ ?_);rotate_left;exact rfl)|((with_reducible refine yS ?_ ?_)<;>(intro h;try simp only [NM] at h)))
 refine AWP.loop (ι:={p:Nat×List Sch // p.1≤g.edges.length∧p.2.length=p.1+1∧(∀x∈p.2,schE x=0)∧goG p.2 (g.edges.drop p.1)=R}) (fun p=>⟨61,[(3,.v (oI 0)),(5,.v (.one (.ref 5 0 p.1.2.length))),(25,.v (.one (.sl 2 (g.edges.map eEdg)))),(26,.v (oI g.edges.length)),(27,.v (oI p.1.1))],[],[(5,⟨3,p.1.2.map eSch,[]⟩)]⟩) (fun p=>g.edges.length - p.1.1) ⟨(0,[g.base]),Nat.zero_le _,rfl,fun x hx=>by rw [List.mem_singleton.1 hx];exact h1,hR⟩ ?_ fun ⟨⟨k,acc⟩,hkl,hka,hkz,hkR⟩=>?_
 ·refine St.le_mk ?_ ?_ ?_<;>simp only [LE,EN,Nat.reduceEqDiff,reduceIte,Nat.reduceSub,eSch,List.length_cons,List.length_nil,Nat.zero_add]
 simp only at hkl hka hkz hkR ⊢
 rcases Nat.lt_or_ge k g.edges.length with hk|hk
 ·obtain ⟨ed,hed⟩:∃ed,g.edges[k]=ed:=⟨_,rfl⟩
  have gs:(g.edges.map eEdg).getD k []=eEdg ed:=by rw [getD_map_lt _ _ _ hk,hed]
  have fe:=hg.edge g.edges[k] (List.getElem_mem hk)
  rw [List.drop_eq_getElem_cons hk,goG,hka] at hkR
  rw [hed] at hkR fe
  by_cases hp:ed.parent<0∨((k+1:Nat):Int) - 1<ed.parent
  ·rw [if_pos hp] at hkR
   subst hkR
   unfold lOut rE eSchs
   simp only
   by_cases hp1:ed.parent<0
   ·repeat' (first|((first|with_reducible refine qV tyOk fun K hK=>?_|refine Q2 ?_|((with_reducible first|refine qS ?_ ?_|refine qT ?_ ?_|refine qU ?_ ?_)<;>(intro h;try simp only [NM] at h))|with_reducible refine yD tyOk mixed 6 (by kernel_rfl) fun K hK=>?_)<;>simp -dsimp (disch:=first|exact D|fail) only [go_sem,↓reduceIte,seval,gs,eEdg,Option.getD_none])|((with_reducible refine hK _ ?_);clear hK K)|refine Q1 ?_|((with_reducible refine qW (T:=TT) (b:=?_) ?_ ?_);rotate_left;exact rfl)|((with_reducible refine yS ?_ ?_)<;>(intro h;try simp only [NM] at h)))
    simp -dsimp (disch:=first|exact D|fail) only [retQ,Tryz.results21,resVals,cellRV,resOf,St.rest,St.freeze,RT,go_sem,↓reduceIte,seval]
   ·have hp2:(k:Int)<ed.parent:=by omega
    repeat' (first|((first|with_reducible refine qV tyOk fun K hK=>?_|refine Q2 ?_|((with_reducible first|refine qS ?_ ?_|refine qT ?_ ?_|refine qU ?_ ?_)<;>(intro h;try simp only [NM] at h))|with_reducible refine yD tyOk mixed 6 (by kernel_rfl) fun K hK=>?_)<;>simp -dsimp (disch:=first|exact D|fail) only [go_sem,↓reduceIte,seval,gs,eEdg,Option.getD_none])|((with_reducible refine hK _ ?_);clear hK K)|refine Q1 ?_|((with_reducible refine qW (T:=TT) (b:=?_) ?_ ?_);rotate_left;exact rfl)|((with_reducible refine yS ?_ ?_)<;>(intro h;try simp only [NM] at h)))
    simp -dsimp (disch:=first|exact D|fail) only [retQ,Tryz.results21,resVals,cellRV,resOf,St.rest,St.freeze,RT,go_sem,↓reduceIte,seval]
  rw [if_neg hp] at hkR
  obtain ⟨q,hq⟩:∃q:Nat,ed.parent=(q:Int):=⟨ed.parent.toNat,by omega⟩
  rw [hq,Int.toNat_natCast] at hkR
  obtain ⟨c,hc⟩:∃c,acc.getD q zSch=c:=⟨_,rfl⟩
  have hk2:q<acc.length:=by omega
  have ga:(acc.map eSch).getD q []=eSch c:=by rw [getD_map_lt _ _ _ hk2,←hc,getD_lt _ hk2]
  have zc:schE c=0:=by rw [←hc,getD_lt _ hk2];exact hkz _ (List.getElem_mem hk2)
  have ev:=scrApply_sat c ed.steps (small_of zc).fits (by have:=fe.len;omega) fe.step
  unfold eScr at ev
  rw [hc] at hkR
  have q1:¬ (q:Int)<0:=by omega
  have q2:¬ (k:Int)<(q:Int):=by omega
  obtain ⟨r0,hv⟩:∃r0,scrApply c ed.steps=r0:=⟨_,rfl⟩
  rw [hv] at hkR ev
  repeat' (first|((first|with_reducible refine qV tyOk fun K hK=>?_|refine Q2 ?_|((with_reducible first|refine qS ?_ ?_|refine qT ?_ ?_|refine qU ?_ ?_)<;>(intro h;try simp only [NM] at h)))<;>simp -dsimp (disch:=first|exact D|fail) only [go_sem,↓reduceIte,seval,gs,eEdg,eScr,eSch,Option.getD_none,hq,q1,q2])|((with_reducible refine hK _ ?_);clear hK K)|refine Q1 ?_|((with_reducible refine qW (T:=TT) (b:=?_) ?_ ?_);rotate_left;exact rfl)|((with_reducible refine yS ?_ ?_)<;>(intro h;try simp only [NM] at h)))
  refine AWP.mid ⟨61,[(3,.v (oI 0)),(5,.v (.one (.ref 5 0 acc.length))),(25,.v (.one (.sl 2 (g.edges.map eEdg)))),(26,.v (oI g.edges.length)),(27,.v (oI k)),(8,.v (.one (.ptr 8 0))),(9,.v (oI (rE r0)))],[(8,eSch (sOut r0))],[(5,⟨3,acc.map eSch,[]⟩)]⟩ ?_ ?_
  ·refine dY tyOk mixed [(0,7)] (.cons 7 [(8,3)] [] (.cons 11 [] [(8,3)] (.cons 12 [(13,1)] [(10,1)] .leaf .none) .none) (.cons 11 [] [(0,7)] (.cons 7 [(8,3)] [] (.cons 12 [(13,1)] [(10,1)] .leaf .none) .none) .none)) [7,11,12] 8 fun K hK=>?_
   simp only [segt_leaf,segt_none,segt_cons,segs,List.drop_succ_cons,List.drop_zero,List.take_succ_cons,List.take_zero,List.getElem?_cons_zero,List.getElem?_cons_succ,List.cons_append,List.nil_append,List.append_nil] at hK ⊢
   simp -dsimp (disch:=first|exact D|fail) only [go_sem,↓reduceIte,seval,ga,eSch,eEdg,eScr,Option.getD_none,hq,q1,q2]
   repeat' (first|((first|((fail_if_success (refine AWP.isRegion 13 ?_));(with_reducible refine qV tyOk fun K hK=>?_))|refine Q2 ?_|((with_reducible first|refine qS ?_ ?_|refine qT ?_ ?_|refine qU ?_ ?_)<;>(intro h;try simp only [NM] at h))|((with_reducible refine CallJ.is ?_);(first|refine CallJ.pure (ev) ?_|((apply CallJ.lentI);(focus (simp -dsimp (disch:=first|exact D|fail) only [go_sem,↓reduceIte,seval,ga,eSch,eEdg,eScr,Option.getD_none,hq,q1,q2];rfl));(focus (first|exact (ev))))))|(with_reducible first|refine VCt.some fun K hK=>?_|refine VCt.step fun K hK=>?_))<;>simp -dsimp (disch:=first|exact D|fail) only [go_sem,↓reduceIte,seval,ga,eSch,eEdg,eScr,Option.getD_none,hq,q1,q2])|((with_reducible refine hK _ ?_);clear hK K)|(with_reducible refine VCt.intro fun K0 hK0=>?_)|((with_reducible refine VCt.fin ?_);(refine hK0 _ ?_);clear hK0 K0)|(with_reducible first|refine VCy.quiet ?_|refine VCt.none ?_)|((with_reducible refine VCy.keep ?_ ?_);focus ((simp -dsimp (disch:=first|exact D|fail) only [go_sem,↓reduceIte,seval,Stable_cons,Stable_nil,sameA_some,sameA_none,ga,eSch,eEdg,eScr,Option.getD_none,hq,q1,q2]);first|done|exact E|fail))|((with_reducible refine VCt.fork (fun K hK=>?_) ?_);(focus (simp -dsimp (disch:=first|exact D|fail) only [go_sem,↓reduceIte,seval,ga,eSch,eEdg,eScr,Option.getD_none,hq,q1,q2])))|refine Q1 ?_|((with_reducible refine qW (T:=TT) (b:=?_) ?_ ?_);rotate_left;exact rfl)|((with_reducible refine yS ?_ ?_)<;>(intro h;try simp only [NM] at h)))
   all_goals refine Gq.done ⟨rfl,?_⟩
   all_goals refine St.le_mk ?_ ?_ ?_<;>simp only [LE,EN,Nat.reduceEqDiff,reduceIte,Nat.reduceSub,eSch]
  cases r0 with
  | error e =>
   simp only at hkR
   subst hkR
   have he:=scrApply_ne hv
   unfold lOut rE eSchs sOut
   simp only
   repeat' (first|((first|with_reducible refine qV tyOk fun K hK=>?_|refine Q2 ?_|((with_reducible first|refine qS ?_ ?_|refine qT ?_ ?_|refine qU ?_ ?_)<;>(intro h;try simp only [NM] at h)))<;>simp -dsimp (disch:=first|exact D|fail) only [go_sem,↓reduceIte,seval,eSch,he,Option.getD_none])|((with_reducible refine hK _ ?_);clear hK K)|refine Q1 ?_|((with_reducible refine qW (T:=TT) (b:=?_) ?_ ?_);rotate_left;exact rfl)|((with_reducible refine yS ?_ ?_)<;>(intro h;try simp only [NM] at h)))
   simp -dsimp (disch:=first|exact D|fail) only [retQ,Tryz.results21,resVals,cellRV,resOf,St.rest,St.freeze,RT,go_sem,↓reduceIte,seval]
  | ok u =>
   simp only at hkR
   unfold sOut rE
   simp only
   repeat' (first|((first|with_reducible refine qV tyOk fun K hK=>?_|refine Q2 ?_|((with_reducible first|refine qS ?_ ?_|refine qT ?_ ?_|refine qU ?_ ?_)<;>(intro h;try simp only [NM] at h)))<;>simp -dsimp (disch:=first|exact D|fail) only [go_sem,↓reduceIte,seval,eSch,Option.getD_none])|((with_reducible refine hK _ ?_);clear hK K)|refine Q1 ?_|((with_reducible refine qW (T:=TT) (b:=?_) ?_ ?_);rotate_left;exact rfl)|((with_reducible refine yS ?_ ?_)<;>(intro h;try simp only [NM] at h)))
   refine ⟨⟨(k+1,acc++[u]),by simp only;omega,by simp;omega,fun x hx=>by
    rcases List.mem_append.1 hx with hx|hx
    ·exact hkz x hx
    ·rw [List.mem_singleton.1 hx];exact scrApply_ok hv,hkR⟩,by simp only;omega,?_⟩
   refine St.le_mk ?_ ?_ ?_<;>simp only [LE,EN,Nat.reduceEqDiff,reduceIte,Nat.reduceSub,eSch,List.map_append,List.map_cons,List.map_nil,List.length_append,List.length_cons,List.length_nil,Nat.zero_add]
 ·have hk:k=g.edges.length:=by omega
  subst hk
  rw [List.drop_length,goG] at hkR
  subst hkR
  unfold lOut rE eSchs
  simp only
  repeat' (first|((first|with_reducible refine qV tyOk fun K hK=>?_|refine Q2 ?_|((with_reducible first|refine qS ?_ ?_|refine qT ?_ ?_|refine qU ?_ ?_)<;>(intro h;try simp only [NM] at h)))<;>simp -dsimp (disch:=first|exact D|fail) only [go_sem,↓reduceIte,seval])|((with_reducible refine hK _ ?_);clear hK K)|refine Q1 ?_|((with_reducible refine qW (T:=TT) (b:=?_) ?_ ?_);rotate_left;exact rfl)|((with_reducible refine yS ?_ ?_)<;>(intro h;try simp only [NM] at h)))
  simp -dsimp (disch:=first|exact D|fail) only [retQ,Tryz.results21,resVals,cellRV,resOf,St.rest,St.freeze,RT,go_sem,↓reduceIte,seval]
  rw [frz_eSch]
end Go.Bw
