/-
  WHAT IS PROVED HERE, of this translation: remap_satM.
  A theorem that ends in sat says what the function it names returns, whatever the state it is called in; the bounds on its arguments stand ahead of it.
-/
import Derived.Test.YtdnapljegcihiaaGreatWd
set_option linter.unusedSimpArgs false
set_option linter.unusedVariables false
namespace Go.Bw
open Go.Proofs
set_option maxHeartbeats 16000000 in
theorem remap_satM (s:Sch) (T:List (List L)) (nt:Nat) (table:ByteArray) (g:Int→Int) (f:FuncId) (z:List (List L)) (h2:s.fks.length≤1048576) (h3:s.cons.length≤1048576) (hn:∀k∈s.fks,k.cols.length≤1048576)
  (hf:∀k∈s.fks,sEq k.table table=true→∀c∈k.cols,MapsAt Tryz.prog f (z.map L.fz) g c) (hc:∀k∈s.cons,sEq k.table table=true→MapsAt Tryz.prog f (z.map L.fz) g k.left∧(0≤k.right→MapsAt Tryz.prog f (z.map L.fz) g k.right)) :
  SatM Tryz.prog 103 [.one (.ptr 1000 0),oS table,.one (.clo f (z.map L.fz))] [(1000,[.ref 1000 0 nt,.ref 1001 0 s.fks.length,.ref 1002 0 s.cons.length])] [(1000,⟨3,T,[]⟩),(1001,⟨3,s.fks.map eFKO,[]⟩),(1002,⟨7,s.cons.map eCon,[]⟩)]
   (.tup []) [(1000,[.ref 1000 0 nt,.ref 1001 0 s.fks.length,.ref 1002 0 s.cons.length])] [(1000,⟨3,T,[]⟩),(1001,⟨3,(s.fks.map (remapFK table g)).map eFKO,[]⟩),(1002,⟨7,(s.cons.map (remapCon table g)).map eCon,[]⟩)]:=by
 refine sM tyOk [1000] [1000,1001,1002] Tryz.func103 fun w0 m0 F0=>?_
 simp only [Tryz.ntmps103,envOf,Nat.reduceAdd]
 repeat' (first|((with_reducible refine qV tyOk fun K hK=>?_)<;>simp -dsimp (disch:=first|exact D|fail) only [go_sem,↓reduceIte,seval])|((with_reducible refine hK _ ?_);clear hK K)|refine Q1 ?_|fail)
 refine AWP.loop (ι:={k:Nat // k≤s.fks.length}) (fun k=>⟨89,[(0,.v (.one (.ptr 1000 0))),(1,.v (oS table)),(2,.v (.one (.clo f (z.map L.fz)))),(15,.v (.one (.ref 1001 0 s.fks.length))),(16,.v (oI s.fks.length)),(17,.v (oI k.1))],[(1000,[.ref 1000 0 nt,.ref 1001 0 s.fks.length,.ref 1002 0 s.cons.length])],[(1000,⟨3,T,[]⟩),(1001,⟨3,(mix (remapFK table g) s.fks k.1).map eFKO,[]⟩),(1002,⟨7,s.cons.map eCon,[]⟩)]⟩) (fun k=>s.fks.length - k.1) ⟨0,Nat.zero_le _⟩ ?_ fun ⟨k,hkl⟩=>?_
 ·refine St.le_mk ?_ ?_ ?_<;>simp only [LE,EN,Nat.reduceEqDiff,reduceIte,Nat.reduceSub,mix_zero]
 simp only at hkl ⊢
 rcases Nat.lt_or_ge k s.fks.length with hk|hk
 ·have hl:k<(mix (remapFK table g) s.fks k).length:=by rw [mix_len];exact hk
  have e0:(mix (remapFK table g) s.fks k).map eFKO=rowF (mix (remapFK table g) s.fks k) k s.fks[k]:=by unfold rowF;rw [mix_self _ s.fks k hk]
  have rl:=rowF_len (mix (remapFK table g) s.fks k) k
  have rg:=fun t=>rowF_get (l:=mix (remapFK table g) s.fks k) (k:=k) t hl
  rw [mix_len] at rl
  have b1:=hn s.fks[k] (List.getElem_mem hk)
  have hf1:=hf s.fks[k] (List.getElem_mem hk)
  have ms:=mix_succ (remapFK table g) s.fks k hk
  have mk:=mix_keep (remapFK table g) s.fks k hk
  obtain ⟨fb,hfb⟩:∃fb,s.fks[k]=fb:=⟨_,rfl⟩
  rw [hfb] at b1 hf1 ms mk e0
  cases hT:sEq fb.table table with
  | false =>
   have hT':¬ fb.table.toList=table.toList:=by simpa [sEq] using hT
   have mk:=mk (by unfold remapFK;rw [hT];rfl)
   rw [e0]
   repeat' (first|((with_reducible refine qV tyOk fun K hK=>?_)<;>simp -dsimp (disch:=first|exact D|fail) only [go_sem,↓reduceIte,seval,rl,rg,eFKO,hT',Option.getD_none,fzs_noPtr,fzs_noRow])|((with_reducible refine hK _ ?_);clear hK K)|refine Q1 ?_|((with_reducible refine qW (T:=TT) (b:=?_) ?_ ?_);rotate_left;exact rfl)|fail)
   refine ⟨⟨k+1,by omega⟩,by simp only;omega,?_⟩
   rw [←e0]
   refine St.le_mk ?_ ?_ ?_<;>simp only [LE,EN,Nat.reduceEqDiff,reduceIte,Nat.reduceSub,mk]
  | true =>
   have hT':fb.table.toList=table.toList:=by simpa [sEq] using hT
   have hf1:=hf1 hT
   have done:rowF (mix (remapFK table g) s.fks k) k {fb with cols:=fb.cols.map g}=(mix (remapFK table g) s.fks (k+1)).map eFKO:=by
    unfold rowF
    rw [←ms]
    unfold remapFK
    rw [hT]
    rfl
   rw [e0]
   refine AWP.openC 1001 k 1 2000 rfl (rowF_cell1 _ hl) rfl (by decide) (by decide) ?_
   simp -dsimp (disch:=first|exact D|fail) only [go_sem,↓reduceIte,seval,openR_mk,fzs_noRow]
   repeat' (first|((with_reducible refine qV tyOk fun K hK=>?_)<;>simp -dsimp (disch:=first|exact D|fail) only [go_sem,↓reduceIte,seval,rl,rg,eFKO,hT',Option.getD_none,fzs_noPtr,fzs_noRow])|((with_reducible refine hK _ ?_);clear hK K)|refine Q1 ?_|((with_reducible refine qW (T:=TT) (b:=?_) ?_ ?_);rotate_left;exact rfl)|fail)
   refine AWP.loop (ι:={j:Nat // j≤fb.cols.length}) (fun j=>⟨89,[(0,.v (.one (.ptr 1000 0))),(1,.v (oS table)),(2,.v (.one (.clo f (z.map L.fz)))),(15,.v (.one (.ref 1001 0 s.fks.length))),(16,.v (oI s.fks.length)),(17,.v (oI k)),(6,.v (oI k)),(27,.v (.one (.ref 2000 0 fb.cols.length))),(28,.v (oI fb.cols.length)),(29,.v (oI j.1))],[(1000,[.ref 1000 0 nt,.ref 1001 0 s.fks.length,.ref 1002 0 s.cons.length])],[(1000,⟨3,T,[]⟩),(2000,⟨1,(mix g fb.cols j.1).map eInt1,[]⟩),(1001,⟨3,rowF (mix (remapFK table g) s.fks k) k fb,[(k,1,.ref 2000 0 fb.cols.length)]⟩),(1002,⟨7,s.cons.map eCon,[]⟩)]⟩) (fun j=>fb.cols.length - j.1) ⟨0,Nat.zero_le _⟩ ?_ fun ⟨j,hjl⟩=>?_
   ·refine St.le_mk ?_ ?_ ?_<;>simp only [LE,EN,Nat.reduceEqDiff,reduceIte,Nat.reduceSub,mix_zero]
   simp only at hjl ⊢
   rcases Nat.lt_or_ge j fb.cols.length with hcj|hcj
   ·have ml:=mix_len g fb.cols j
    have mg:=mixr_get eInt1 g fb.cols j hcj
    have ms2:=mixr_set eInt1 g fb.cols j hcj
    simp only [eInt1] at ms2
    have hg:=hf1 fb.cols[j] (List.getElem_mem hcj)
    unfold MapsAt at hg
    repeat' (first|((first|with_reducible refine qV tyOk fun K hK=>?_|(refine AWP.isRegion 7 ?_;refine dX tyOk mixed [(0,11)] [(11,[(12,1)],[(0,9)]),(13,[],[])] [11,13] 8 fun K hK=>?_;simp only [SG,segs] at hK ⊢)|((with_reducible refine CallJ.is ?_);(refine CallJ.pure (hg) ?_))|(with_reducible first|refine VCy.some fun K hK=>?_|refine VCy.step fun K hK=>?_))<;>simp -dsimp (disch:=first|exact D|fail) only [go_sem,↓reduceIte,seval,rl,rg,eFKO,ml,mg,Option.getD_none,fzs_noPtr,fzs_noRow])|((with_reducible refine hK _ ?_);clear hK K)|(with_reducible refine VCy.intro fun K0 hK0=>?_)|((with_reducible refine VCy.fin ?_);(refine hK0 _ ?_);clear hK0 K0)|(with_reducible first|refine VCy.quiet ?_|refine VCy.none ?_)|((with_reducible refine VCy.keep ?_ ?_);focus ((simp -dsimp (disch:=first|exact D|fail) only [go_sem,↓reduceIte,seval,Stable_cons,Stable_nil,sameA_some,sameA_none,rl,rg,eFKO,ml,mg,Option.getD_none,fzs_noPtr,fzs_noRow]);first|done|exact E|fail))|refine Q1 ?_|((with_reducible refine qW (T:=TT) (b:=?_) ?_ ?_);rotate_left;exact rfl)|fail)
    refine ⟨⟨j+1,by omega⟩,by simp only;omega,?_⟩
    refine St.le_mk ?_ ?_ ?_<;>simp only [LE,EN,Nat.reduceEqDiff,reduceIte,Nat.reduceSub,ms2]
   ·have hj:j=fb.cols.length:=by omega
    subst hj
    repeat' (first|((((fail_if_success (refine AWP.isRegion 9 ?_));(with_reducible refine qV tyOk fun K hK=>?_)))<;>simp -dsimp (disch:=first|exact D|fail) only [go_sem,↓reduceIte,seval,rl,rg,eFKO,Option.getD_none,fzs_noPtr,fzs_noRow])|((with_reducible refine hK _ ?_);clear hK K)|refine Q1 ?_|((with_reducible refine qW (T:=TT) (b:=?_) ?_ ?_);rotate_left;exact rfl)|fail)
    refine AWP.close 1001 k 1 2000 rfl rfl (by decide) (by simp [ovGet,mix_len]) (by rw [rl];exact hk) (by show 1<3;decide) rfl ?_
    simp -dsimp (disch:=first|exact D|fail) only [go_sem,↓reduceIte,seval,closeR_mk,ovCut_cons,ovCut_nil,fzs_noRow]
    rw [rowF_cols _ hl,mix_all,done]
    repeat' (first|((with_reducible refine qV tyOk fun K hK=>?_)<;>simp -dsimp (disch:=first|exact D|fail) only [go_sem,↓reduceIte,seval])|((with_reducible refine hK _ ?_);clear hK K)|refine Q1 ?_|fail)
    refine ⟨⟨k+1,by omega⟩,by simp only;omega,?_⟩
    refine St.le_mk ?_ ?_ ?_<;>simp only [LE,EN,Nat.reduceEqDiff,reduceIte,Nat.reduceSub]
 have hk:k=s.fks.length:=by omega
 subst hk
 rw [mix_all]
 repeat' (first|((with_reducible refine qV tyOk fun K hK=>?_)<;>simp -dsimp (disch:=first|exact D|fail) only [go_sem,↓reduceIte,seval])|((with_reducible refine hK _ ?_);clear hK K)|refine Q1 ?_|((with_reducible refine qW (T:=TT) (b:=?_) ?_ ?_);rotate_left;exact rfl)|fail)
 refine AWP.loop (ι:={k:Nat // k≤s.cons.length}) (fun k=>⟨89,[(0,.v (.one (.ptr 1000 0))),(1,.v (oS table)),(2,.v (.one (.clo f (z.map L.fz)))),(52,.v (.one (.ref 1002 0 s.cons.length))),(53,.v (oI s.cons.length)),(54,.v (oI k.1))],[(1000,[.ref 1000 0 nt,.ref 1001 0 s.fks.length,.ref 1002 0 s.cons.length])],[(1000,⟨3,T,[]⟩),(1001,⟨3,(s.fks.map (remapFK table g)).map eFKO,[]⟩),(1002,⟨7,(mix (remapCon table g) s.cons k.1).map eCon,[]⟩)]⟩) (fun k=>s.cons.length - k.1) ⟨0,Nat.zero_le _⟩ ?_ fun ⟨k,hkl⟩=>?_
 ·refine St.le_mk ?_ ?_ ?_<;>simp only [LE,EN,Nat.reduceEqDiff,reduceIte,Nat.reduceSub,mix_zero]
 simp only at hkl ⊢
 rcases Nat.lt_or_ge k s.cons.length with hk|hk
 ·have ml:=mix_len (remapCon table g) s.cons k
  have mg:=mixr_get eCon (remapCon table g) s.cons k hk
  have ms:=mixr_set eCon (remapCon table g) s.cons k hk
  have mk:=mix_keep (remapCon table g) s.cons k hk
  have hc0:=hc s.cons[k] (List.getElem_mem hk)
  have gs:=fun x=>getD_setL ((mix (remapCon table g) s.cons k).map eCon) k x [] (by rw [List.length_map,mix_len];exact hk)
  obtain ⟨cb,hcb⟩:∃cb,s.cons[k]=cb:=⟨_,rfl⟩
  rw [hcb] at hc0 mg ms mk
  cases hT:sEq cb.table table with
  | false =>
   have hT':¬ cb.table.toList=table.toList:=by simpa [sEq] using hT
   have mk:=mk (by unfold remapCon;rw [hT];rfl)
   repeat' (first|((with_reducible refine qV tyOk fun K hK=>?_)<;>simp -dsimp (disch:=first|exact D|fail) only [go_sem,↓reduceIte,seval,ml,mg,hT',Option.getD_none,fzs_noPtr,fzs_noRow])|((with_reducible refine hK _ ?_);clear hK K)|refine Q1 ?_|((with_reducible refine qW (T:=TT) (b:=?_) ?_ ?_);rotate_left;exact rfl)|fail)
   refine ⟨⟨k+1,by omega⟩,by simp only;omega,?_⟩
   refine St.le_mk ?_ ?_ ?_<;>simp only [LE,EN,Nat.reduceEqDiff,reduceIte,Nat.reduceSub,mk]
  | true =>
   have hT':cb.table.toList=table.toList:=by simpa [sEq] using hT
   obtain ⟨g1,g2⟩:=hc0 hT
   unfold MapsAt at g1 g2
   by_cases hr:0≤cb.right
   ·have g2:=g2 hr
    have er:remapCon table g cb={cb with left:=g cb.left,right:=g cb.right}:=by unfold remapCon;rw [if_pos hT,if_pos hr]
    rw [er] at ms
    simp only [eCon] at ms
    repeat' (first|((first|with_reducible refine qV tyOk fun K hK=>?_|(refine AWP.isRegion 14 ?_;refine dX tyOk mixed [(0,8)] [(8,[(9,2)],[(0,5)]),(11,[],[])] [8,11] 8 fun K hK=>?_;simp only [SG,segs] at hK ⊢)|(refine AWP.isRegion 16 ?_;refine dX tyOk mixed [(0,8)] [(8,[(9,2)],[(0,5)]),(11,[],[])] [8,11] 8 fun K hK=>?_;simp only [SG,segs] at hK ⊢)|((with_reducible refine CallJ.is ?_);(first|refine CallJ.pure (g1) ?_|refine CallJ.pure (g2) ?_))|(with_reducible first|refine VCy.some fun K hK=>?_|refine VCy.step fun K hK=>?_))<;>simp -dsimp (disch:=first|exact D|fail) only [go_sem,↓reduceIte,seval,ml,mg,gs,hT',Option.getD_none,fzs_noPtr,fzs_noRow,List.set_set,List.length_set])|((with_reducible refine hK _ ?_);clear hK K)|(with_reducible refine VCy.intro fun K0 hK0=>?_)|((with_reducible refine VCy.fin ?_);(refine hK0 _ ?_);clear hK0 K0)|(with_reducible first|refine VCy.quiet ?_|refine VCy.none ?_)|((with_reducible refine VCy.keep ?_ ?_);focus ((simp -dsimp (disch:=first|exact D|fail) only [go_sem,↓reduceIte,seval,Stable_cons,Stable_nil,sameA_some,sameA_none,ml,mg,gs,hT',Option.getD_none,fzs_noPtr,fzs_noRow,List.set_set,List.length_set]);first|done|exact E|fail))|refine Q1 ?_|((with_reducible refine qW (T:=TT) (b:=?_) ?_ ?_);rotate_left;exact rfl)|fail)
    refine ⟨⟨k+1,by omega⟩,by simp only;omega,?_⟩
    refine St.le_mk ?_ ?_ ?_<;>simp only [LE,EN,Nat.reduceEqDiff,reduceIte,Nat.reduceSub,ms]
   ·have er:remapCon table g cb={cb with left:=g cb.left}:=by unfold remapCon;rw [if_pos hT,if_neg hr]
    rw [er] at ms
    simp only [eCon] at ms
    repeat' (first|((first|with_reducible refine qV tyOk fun K hK=>?_|(refine AWP.isRegion 14 ?_;refine dX tyOk mixed [(0,8)] [(8,[(9,2)],[(0,5)]),(11,[],[])] [8,11] 8 fun K hK=>?_;simp only [SG,segs] at hK ⊢)|((with_reducible refine CallJ.is ?_);(refine CallJ.pure (g1) ?_))|(with_reducible first|refine VCy.some fun K hK=>?_|refine VCy.step fun K hK=>?_))<;>simp -dsimp (disch:=first|exact D|fail) only [go_sem,↓reduceIte,seval,ml,mg,gs,hT',Option.getD_none,fzs_noPtr,fzs_noRow,List.set_set,List.length_set])|((with_reducible refine hK _ ?_);clear hK K)|(with_reducible refine VCy.intro fun K0 hK0=>?_)|((with_reducible refine VCy.fin ?_);(refine hK0 _ ?_);clear hK0 K0)|(with_reducible first|refine VCy.quiet ?_|refine VCy.none ?_)|((with_reducible refine VCy.keep ?_ ?_);focus ((simp -dsimp (disch:=first|exact D|fail) only [go_sem,↓reduceIte,seval,Stable_cons,Stable_nil,sameA_some,sameA_none,ml,mg,gs,hT',Option.getD_none,fzs_noPtr,fzs_noRow,List.set_set,List.length_set]);first|done|exact E|fail))|refine Q1 ?_|((with_reducible refine qW (T:=TT) (b:=?_) ?_ ?_);rotate_left;exact rfl)|fail)
    refine ⟨⟨k+1,by omega⟩,by simp only;omega,?_⟩
    refine St.le_mk ?_ ?_ ?_<;>simp only [LE,EN,Nat.reduceEqDiff,reduceIte,Nat.reduceSub,ms]
 ·have hk:k=s.cons.length:=by omega
  subst hk
  rw [mix_all]
  repeat' (first|((with_reducible refine qV tyOk fun K hK=>?_)<;>simp -dsimp (disch:=first|exact D|fail) only [go_sem,↓reduceIte,seval])|((with_reducible refine hK _ ?_);clear hK K)|refine Q1 ?_|((with_reducible refine qW (T:=TT) (b:=?_) ?_ ?_);rotate_left;exact rfl)|fail)
  simp -dsimp (disch:=first|exact D|fail) only [retQ,Tryz.results103,resVals,cellRV,resOf,St.rest,St.freeze,RT,go_sem,↓reduceIte,seval]
end Go.Bw
