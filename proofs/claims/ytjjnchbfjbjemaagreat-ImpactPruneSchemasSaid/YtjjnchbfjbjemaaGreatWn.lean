/-
  WHAT IS PROVED HERE, of this translation: containsCon_sat, containsCon_take, stpClone_sat, renameTable_satM, split_rc, fits_ite, evNorm_fits, evApply_2.
  A theorem that ends in sat says what the function it names returns, whatever the state it is called in; the bounds on its arguments stand ahead of it.
-/
import Derived.Test.YtjjnchbfjbjemaaGreatWg
import Derived.Test.YtjjnchbfjbjemaaGreatWh
import Derived.Test.YtjjnchbfjbjemaaGreatWj
set_option linter.unusedSimpArgs false
set_option linter.unusedVariables false
namespace Go.Bw
open Go.Proofs
theorem containsCon_sat (l:List Con) (c:Con) (hlen:l.length≤140737488355328) :
  Sat Tryz.prog 51 [.one (eCons l),.agg (eCon c)] (.v (oB (decide (0≤idx (conEq c) l 0)))):=by
 refine sS tyOk Tryz.func51 fun w0 m0 F0=>?_
 simp only [Tryz.ntmps51,envOf,Nat.reduceAdd]
 repeat' (first|((first|with_reducible refine qV tyOk fun K hK=>?_|((with_reducible refine CallJ.is ?_);(refine CallJ.pure (indexCon_sat l _ hlen) ?_)))<;>simp -dsimp (disch:=first|exact D|fail) only [go_sem,↓reduceIte,seval])|((with_reducible refine hK _ ?_);clear hK K)|refine Q1 ?_|fail)
 simp -dsimp (disch:=first|exact D|fail) only [retQ,Tryz.results51,resVals,cellRV,resOf,St.rest,St.freeze,RT,go_sem,↓reduceIte,seval]
theorem containsCon_take (l:List Con) (k:Nat) (c:Con) (hlen:l.length≤140737488355328) :
  Sat Tryz.prog 51 [.one (.sl 7 ((l.map eCon).take k)),.agg (eCon c)] (.v (oB (decide (0≤idx (conEq c) (l.take k) 0)))):=by
 have h:=containsCon_sat (l.take k) c (by rw [List.length_take];omega)
 rw [eCons,List.map_take] at h
 exact h
set_option maxHeartbeats 8000000 in
theorem stpClone_sat (s:Stp) (h:s.Fits):Sat Tryz.prog 57 [.agg (eStp s)] (.v (.agg (eStp s))):=by
 have h1:=h.cols
 have h2:=h.ncols
 have h3:=h.npk
 have h4:=h.fk
 have c2:=cloneTableB_sat s.newTable h2 h3
 simp only [eTbl] at c2
 refine sS tyOk Tryz.func57 fun w0 m0 F0=>?_
 simp only [Tryz.ntmps57,envOf,Nat.reduceAdd]
 repeat' (first|((first|with_reducible refine qV tyOk fun K hK=>?_|((with_reducible refine CallJ.is ?_);(first|refine CallJ.pure (cloneIntsB_sat s.cols h1) ?_|refine CallJ.pure (c2) ?_|refine CallJ.pure (cloneIntsB_sat s.fk.cols h4) ?_)))<;>simp -dsimp (disch:=first|exact D|fail) only [go_sem,↓reduceIte,seval,eStp])|((with_reducible refine hK _ ?_);clear hK K)|refine Q1 ?_|fail)
 simp -dsimp (disch:=first|exact D|fail) only [retQ,Tryz.results57,resVals,cellRV,resOf,St.rest,St.freeze,RT,go_sem,↓reduceIte,seval]
 simp only [eStp,eInts,eCols]
set_option maxHeartbeats 32000000 in
theorem renameTable_satM (s:Sch) (i:Nat) (name:ByteArray) (hi:i<s.tables.length) (sm:SmallS s) :
  SatM Tryz.prog 98 [.one (.ptr 1000 0),oI i,oS name] (iB s) (iR s) (.v (oI (rE (renameT s i name)))) (oBE (renameT s i name)) (oRE (renameT s i name)):=by
 have b1:=sm.tables
 have b3:=sm.fks
 have b4:=sm.cons
 obtain ⟨t,ht⟩:∃t,s.tables[i]=t:=⟨_,rfl⟩
 have htA:tAt s i=t:=by unfold tAt;rw [getD_lt _ hi,ht]
 have fs:=findTable_sat s name (by omega)
 rcases idx_cases (fun u=>sEq u.name name) s.tables 0 with ⟨e1,_⟩|⟨j,hj,e1,_,_⟩
 case inr =>
  have e1:tblAt s.tables name=(j:Int):=by unfold tblAt;simpa using e1
  rw [e1,mx0_nat] at fs
  have spec:renameT s i name=.error 5:=by unfold renameT;rw [if_pos (by omega)]
  rw [spec]
  unfold iB iR oBE oRE rE
  simp only
  refine sM tyOk [1000] [1,2,3] Tryz.func98 fun w0 m0 F0=>?_
  simp only [Tryz.ntmps98,envOf,Nat.reduceAdd]
  refine AWP.frzR 1000 rfl ?_
  simp -dsimp (disch:=first|exact D|fail) only [go_sem,↓reduceIte,seval,frzR_mk,frzTblO,frzFKO]
  refine AWP.frzR 1001 rfl ?_
  simp -dsimp (disch:=first|exact D|fail) only [go_sem,↓reduceIte,seval,frzR_mk,frzTblO,frzFKO]
  repeat' (first|((first|with_reducible refine qV tyOk fun K hK=>?_|((with_reducible refine CallJ.is ?_);(((apply CallJ.lentI);(focus (simp -dsimp (disch:=first|exact D|fail) only [go_sem,↓reduceIte,seval];rfl));(focus (first|exact (fs)))))))<;>simp -dsimp (disch:=first|exact D|fail) only [go_sem,↓reduceIte,seval])|((with_reducible refine hK _ ?_);clear hK K)|refine Q1 ?_|((with_reducible refine qW (T:=TT) (b:=?_) ?_ ?_);rotate_left;exact rfl)|fail)
  simp -dsimp (disch:=first|exact D|fail) only [retQ,Tryz.results98,resVals,cellRV,resOf,St.rest,St.freeze,RT,go_sem,↓reduceIte,seval]
 have e1:tblAt s.tables name=-1:=e1
 rw [e1,mx0_neg] at fs
 obtain ⟨cut,hcut⟩:∃cut,s.tables.take i++s.tables.drop (i+1)=cut:=⟨_,rfl⟩
 have spec:renameT s i name=.ok ⟨ginsS cmpT 0 (cut.length+1) (cut++[{t with name:=name}]),s.fks.map (renFK t.name name),s.cons.map (renCon t.name name)⟩:=by
  unfold renameT insertT
  rw [if_neg (by omega),htA,hcut]
  rfl
 rw [spec]
 have cl:=cut_len s.tables i hi
 rw [hcut] at cl
 have dl:=deleteTbls_own (s.tables.map eTbl) i (by simpa using hi) (by simp;omega) (by rw [noOwn_eTbl];trivial)
 rw [List.length_map] at dl
 have cm:=cut_map eTbl s.tables i hi [.str ByteArray.empty,.sl 3 [],.sl 1 []]
 rw [hcut] at cm
 have it:=insertTable_satM cut (s.fks.map eFK) (s.cons.map eCon) s.fks.length s.cons.length {t with name:=name} (by omega)
 have pl:=(ginsS_perm cmpT 0 (cut.length+1) (cut++[{t with name:=name}])).length_eq
 rw [List.length_append,List.length_singleton] at pl
 obtain ⟨NT,hNT⟩:∃NT,ginsS cmpT 0 (cut.length+1) (cut++[{t with name:=name}])=NT:=⟨_,rfl⟩
 rw [hNT] at it pl ⊢
 have gi:(s.tables.map eTbl).getD i []=eTbl t:=by rw [getD_map_lt _ _ _ hi,ht]
 unfold iB iR oBE oRE oB1 oR1 rE
 simp only [List.length_map,pl]
 rw [cl] at it ⊢
 refine sM tyOk [1000] [1,2,3] Tryz.func98 fun w0 m0 F0=>?_
 simp only [Tryz.ntmps98,envOf,Nat.reduceAdd]
 refine AWP.gq ?_
 refine AWP.frzR 1000 rfl ?_
 simp -dsimp (disch:=first|exact D|fail) only [go_sem,↓reduceIte,seval,frzR_mk,frzTblO,frzFKO]
 refine AWP.frzR 1001 rfl ?_
 simp -dsimp (disch:=first|exact D|fail) only [go_sem,↓reduceIte,seval,frzR_mk,frzTblO,frzFKO]
 repeat' (first|((first|((fail_if_success (refine AWP.isRegion 7 ?_));(with_reducible refine qV tyOk fun K hK=>?_))|((with_reducible refine CallJ.is ?_);refine CallJ.io [] [(1000,1000)] [] [(6,39)] [] [1000,39] [] [1000,39] (dl) rfl ⟨rfl,rfl,rfl,rfl⟩ ?_ ?_ ?_)|((with_reducible refine CallJ.is ?_);(((apply CallJ.lentI);(focus (simp -dsimp (disch:=first|exact D|fail) only [go_sem,↓reduceIte,seval,gi,Option.getD_none,dropL_nil,dropL_nil',dropL_cons];rfl));(focus (first|exact (fs)))))))<;>simp -dsimp (disch:=first|exact D|fail) only [go_sem,↓reduceIte,seval,gi,Option.getD_none,dropL_nil,dropL_nil',dropL_cons])|((with_reducible refine hK _ ?_);clear hK K)|refine Q1 ?_|((with_reducible refine qW (T:=TT) (b:=?_) ?_ ?_);rotate_left;exact rfl)|fail)
 refine AWP.cutR 39 (s.tables.length - 1) rfl rfl (by simp;omega) ?_
 simp -dsimp (disch:=first|exact D|fail) only [go_sem,↓reduceIte,seval]
 rw [cm]
 repeat' (first|((first|with_reducible refine qV tyOk fun K hK=>?_|((with_reducible refine CallJ.is ?_);refine CallJ.io [(1000,1000)] [(1000,39),(1001,1001),(1002,1002)] [(1000,1000)] [(11,46),(1001,1001),(1002,1002)] [] [39,46] [1000,1000] [39,1001,1002,46,1001,1002] (it) rfl ⟨rfl,rfl,rfl,rfl⟩ ?_ ?_ ?_))<;>simp -dsimp (disch:=first|exact D|fail) only [go_sem,↓reduceIte,seval,okIds_ref,Option.getD_none,dropL_nil,dropL_nil',dropL_cons])|((with_reducible refine hK _ ?_);clear hK K)|refine Q1 ?_|fail)
 refine AWP.loop (ι:={k:Nat // k≤s.fks.length}) (fun k=>⟨119,[(0,.v (.one (.ptr 1000 0))),(2,.v (oS name)),(10,.v (oS t.name)),(51,.v (oI s.fks.length)),(52,.v (oI k.1))],[(1000,[.ref 46 0 (s.tables.length - 1+1),.ref 1001 0 s.fks.length,.ref 1002 0 s.cons.length])],[(46,⟨3,NT.map eTbl,[]⟩),(1001,⟨3,(mix (renFK t.name name) s.fks k.1).map eFK,[]⟩),(1002,⟨7,s.cons.map eCon,[]⟩)]⟩) (fun k=>s.fks.length - k.1) ⟨0,Nat.zero_le _⟩ ?_ fun ⟨k,hkl⟩=>?_
 ·refine St.le_mk ?_ ?_ ?_<;>simp only [LE,EN,Nat.reduceEqDiff,reduceIte,Nat.reduceSub,mix_zero]
 simp only at hkl ⊢
 rcases Nat.lt_or_ge k s.fks.length with hk|hk
 ·have ml:=mix_len (renFK t.name name) s.fks k
  have mg:=mixr_get eFK (renFK t.name name) s.fks k hk
  have ms:=mixr_set eFK (renFK t.name name) s.fks k hk
  have mk:=mix_keep (renFK t.name name) s.fks k hk
  have gs:=fun x=>getD_setL ((mix (renFK t.name name) s.fks k).map eFK) k x [] (by rw [List.length_map,mix_len];exact hk)
  obtain ⟨fb,hfb⟩:∃fb,s.fks[k]=fb:=⟨_,rfl⟩
  rw [hfb] at mg ms mk
  cases h1:sEq fb.table t.name<;>cases h2:sEq fb.ref t.name
  ·have h1':¬ fb.table.toList=t.name.toList:=by simpa [sEq] using h1
   have h2':¬ fb.ref.toList=t.name.toList:=by simpa [sEq] using h2
   have mk:=mk (by unfold renFK ren;rw [h1,h2];rfl)
   repeat' (first|((with_reducible refine qV tyOk fun K hK=>?_)<;>simp -dsimp (disch:=first|exact D|fail) only [go_sem,↓reduceIte,seval,ml,mg,h1',h2',Option.getD_none])|((with_reducible refine hK _ ?_);clear hK K)|refine Q1 ?_|((with_reducible refine qW (T:=TT) (b:=?_) ?_ ?_);rotate_left;exact rfl)|fail)
   refine ⟨⟨k+1,by omega⟩,by simp only;omega,?_⟩
   refine St.le_mk ?_ ?_ ?_<;>simp only [LE,EN,Nat.reduceEqDiff,reduceIte,Nat.reduceSub,mk]
  ·have h1':¬ fb.table.toList=t.name.toList:=by simpa [sEq] using h1
   have h2':fb.ref.toList=t.name.toList:=by simpa [sEq] using h2
   have er:renFK t.name name fb={fb with ref:=name}:=by unfold renFK ren;rw [h1,h2];rfl
   rw [er] at ms
   simp only [eFK,eInts] at ms
   repeat' (first|((with_reducible refine qV tyOk fun K hK=>?_)<;>simp -dsimp (disch:=first|exact D|fail) only [go_sem,↓reduceIte,seval,ml,mg,gs,h1',h2',Option.getD_none,List.set_set,List.length_set])|((with_reducible refine hK _ ?_);clear hK K)|refine Q1 ?_|((with_reducible refine qW (T:=TT) (b:=?_) ?_ ?_);rotate_left;exact rfl)|fail)
   refine ⟨⟨k+1,by omega⟩,by simp only;omega,?_⟩
   refine St.le_mk ?_ ?_ ?_<;>simp only [LE,EN,Nat.reduceEqDiff,reduceIte,Nat.reduceSub,ms]
  ·have h1':fb.table.toList=t.name.toList:=by simpa [sEq] using h1
   have h2':¬ fb.ref.toList=t.name.toList:=by simpa [sEq] using h2
   have er:renFK t.name name fb={fb with table:=name}:=by unfold renFK ren;rw [h1,h2];rfl
   rw [er] at ms
   simp only [eFK,eInts] at ms
   repeat' (first|((with_reducible refine qV tyOk fun K hK=>?_)<;>simp -dsimp (disch:=first|exact D|fail) only [go_sem,↓reduceIte,seval,ml,mg,gs,h1',h2',Option.getD_none,List.set_set,List.length_set])|((with_reducible refine hK _ ?_);clear hK K)|refine Q1 ?_|((with_reducible refine qW (T:=TT) (b:=?_) ?_ ?_);rotate_left;exact rfl)|fail)
   refine ⟨⟨k+1,by omega⟩,by simp only;omega,?_⟩
   refine St.le_mk ?_ ?_ ?_<;>simp only [LE,EN,Nat.reduceEqDiff,reduceIte,Nat.reduceSub,ms]
  ·have h1':fb.table.toList=t.name.toList:=by simpa [sEq] using h1
   have h2':fb.ref.toList=t.name.toList:=by simpa [sEq] using h2
   have er:renFK t.name name fb={fb with table:=name,ref:=name}:=by unfold renFK ren;rw [h1,h2];rfl
   rw [er] at ms
   simp only [eFK,eInts] at ms
   repeat' (first|((with_reducible refine qV tyOk fun K hK=>?_)<;>simp -dsimp (disch:=first|exact D|fail) only [go_sem,↓reduceIte,seval,ml,mg,gs,h1',h2',Option.getD_none,List.set_set,List.length_set])|((with_reducible refine hK _ ?_);clear hK K)|refine Q1 ?_|((with_reducible refine qW (T:=TT) (b:=?_) ?_ ?_);rotate_left;exact rfl)|fail)
   refine ⟨⟨k+1,by omega⟩,by simp only;omega,?_⟩
   refine St.le_mk ?_ ?_ ?_<;>simp only [LE,EN,Nat.reduceEqDiff,reduceIte,Nat.reduceSub,ms]
 have hk:k=s.fks.length:=by omega
 subst hk
 rw [mix_all]
 repeat' (first|((with_reducible refine qV tyOk fun K hK=>?_)<;>simp -dsimp (disch:=first|exact D|fail) only [go_sem,↓reduceIte,seval])|((with_reducible refine hK _ ?_);clear hK K)|refine Q1 ?_|((with_reducible refine qW (T:=TT) (b:=?_) ?_ ?_);rotate_left;exact rfl)|fail)
 refine AWP.loop (ι:={k:Nat // k≤s.cons.length}) (fun k=>⟨119,[(0,.v (.one (.ptr 1000 0))),(2,.v (oS name)),(10,.v (oS t.name)),(96,.v (oI s.cons.length)),(97,.v (oI k.1))],[(1000,[.ref 46 0 (s.tables.length - 1+1),.ref 1001 0 s.fks.length,.ref 1002 0 s.cons.length])],[(46,⟨3,NT.map eTbl,[]⟩),(1001,⟨3,(s.fks.map (renFK t.name name)).map eFK,[]⟩),(1002,⟨7,(mix (renCon t.name name) s.cons k.1).map eCon,[]⟩)]⟩) (fun k=>s.cons.length - k.1) ⟨0,Nat.zero_le _⟩ ?_ fun ⟨k,hkl⟩=>?_
 ·refine St.le_mk ?_ ?_ ?_<;>simp only [LE,EN,Nat.reduceEqDiff,reduceIte,Nat.reduceSub,mix_zero]
 simp only at hkl ⊢
 rcases Nat.lt_or_ge k s.cons.length with hk|hk
 ·have ml:=mix_len (renCon t.name name) s.cons k
  have mg:=mixr_get eCon (renCon t.name name) s.cons k hk
  have ms:=mixr_set eCon (renCon t.name name) s.cons k hk
  have mk:=mix_keep (renCon t.name name) s.cons k hk
  obtain ⟨fb,hfb⟩:∃fb,s.cons[k]=fb:=⟨_,rfl⟩
  rw [hfb] at mg ms mk
  cases h1:sEq fb.table t.name
  ·have h1':¬ fb.table.toList=t.name.toList:=by simpa [sEq] using h1
   have mk:=mk (by unfold renCon ren;rw [h1];rfl)
   repeat' (first|((with_reducible refine qV tyOk fun K hK=>?_)<;>simp -dsimp (disch:=first|exact D|fail) only [go_sem,↓reduceIte,seval,ml,mg,h1',Option.getD_none])|((with_reducible refine hK _ ?_);clear hK K)|refine Q1 ?_|((with_reducible refine qW (T:=TT) (b:=?_) ?_ ?_);rotate_left;exact rfl)|fail)
   refine ⟨⟨k+1,by omega⟩,by simp only;omega,?_⟩
   refine St.le_mk ?_ ?_ ?_<;>simp only [LE,EN,Nat.reduceEqDiff,reduceIte,Nat.reduceSub,mk]
  ·have h1':fb.table.toList=t.name.toList:=by simpa [sEq] using h1
   have er:renCon t.name name fb={fb with table:=name}:=by unfold renCon ren;rw [h1];rfl
   rw [er] at ms
   simp only [eCon] at ms
   repeat' (first|((with_reducible refine qV tyOk fun K hK=>?_)<;>simp -dsimp (disch:=first|exact D|fail) only [go_sem,↓reduceIte,seval,ml,mg,h1',Option.getD_none])|((with_reducible refine hK _ ?_);clear hK K)|refine Q1 ?_|((with_reducible refine qW (T:=TT) (b:=?_) ?_ ?_);rotate_left;exact rfl)|fail)
   refine ⟨⟨k+1,by omega⟩,by simp only;omega,?_⟩
   refine St.le_mk ?_ ?_ ?_<;>simp only [LE,EN,Nat.reduceEqDiff,reduceIte,Nat.reduceSub,ms]
 have hk:k=s.cons.length:=by omega
 subst hk
 rw [mix_all]
 repeat' (first|((with_reducible refine qV tyOk fun K hK=>?_)<;>simp -dsimp (disch:=first|exact D|fail) only [go_sem,↓reduceIte,seval])|((with_reducible refine hK _ ?_);clear hK K)|refine Q1 ?_|((with_reducible refine qW (T:=TT) (b:=?_) ?_ ?_);rotate_left;exact rfl)|fail)
 refine Gq.renR 46 1 rfl rfl (by decide) (.inl (Nat.le_of_ble_eq_true rfl)) ?_
 simp -dsimp (disch:=first|exact D|fail) only [go_sem,↓reduceIte,seval,renR_mk,L.ren,L.ren0]
 refine Gq.renR 1001 2 rfl rfl (by decide) (.inl (Nat.le_of_ble_eq_true rfl)) ?_
 simp -dsimp (disch:=first|exact D|fail) only [go_sem,↓reduceIte,seval,renR_mk,L.ren,L.ren0]
 refine Gq.renR 1002 3 rfl rfl (by decide) (.inl (Nat.le_of_ble_eq_true rfl)) ?_
 simp -dsimp (disch:=first|exact D|fail) only [go_sem,↓reduceIte,seval,renR_mk,L.ren,L.ren0]
 refine Gq.done ?_
 simp -dsimp (disch:=first|exact D|fail) only [retQ,Tryz.results98,resVals,cellRV,resOf,St.rest,St.freeze,RT,go_sem,↓reduceIte,seval]
theorem split_rc (s:Sch) (i:Nat) (t:Tbl) (st:Stp) (hi:i<s.tables.length) (ht:s.tables[i]=t) (sm:SmallS s) (hst:st.cols.length≤t.cols.length) :
  SatM Tryz.prog 125 [.one (.ptr 1000 0),oI i,.one (eInts st.cols)] (iB ⟨s.tables,s.fks.map (splitFK t st),s.cons.map (splitCon t st)⟩) (iR ⟨s.tables,s.fks.map (splitFK t st),s.cons.map (splitCon t st)⟩) (.tup []) (iB (removeC ⟨s.tables,s.fks.map (splitFK t st),s.cons.map (splitCon t st)⟩ i st.cols)) (iR (removeC ⟨s.tables,s.fks.map (splitFK t st),s.cons.map (splitCon t st)⟩ i st.cols)):=by
 have b1:=sm.tables
 have b2:=sm.table s.tables[i] (List.getElem_mem hi)
 have b3:=sm.fks
 have b4:=sm.cons
 rw [ht] at b2
 obtain ⟨b6,b7,b8⟩:=b2
 refine removeColumns_satM _ i st.cols hi (by omega) (by show s.tables.length≤_;omega) (by show (s.fks.map _).length≤_;rw [List.length_map];omega) (by show (s.cons.map _).length≤_;rw [List.length_map];omega) ?_ ?_ ?_ ?_ ?_ ?_
 ·show s.tables[i].cols.length≤_;rw [ht];omega
 ·show s.tables[i].pk.length≤_;rw [ht];omega
 ·show ∀c∈s.tables[i].pk,_;rw [ht];intro c hc;have:=b8 c hc;omega
 ·intro k hk
  obtain ⟨f,hf,rfl⟩:=List.mem_map.1 (show k∈s.fks.map (splitFK t st) from hk)
  have h1:=sm.fk f hf
  have:=(splitFK_cols h1.2 b7 (by omega) (st:=st)).1
  omega
 ·intro k hk _
  obtain ⟨f,hf,rfl⟩:=List.mem_map.1 (show k∈s.fks.map (splitFK t st) from hk)
  exact (splitFK_cols (sm.fk f hf).2 b7 (by omega)).2
 ·intro k hk _
  obtain ⟨f,hf,rfl⟩:=List.mem_map.1 (show k∈s.cons.map (splitCon t st) from hk)
  exact splitCon_cols (sm.con f hf) b7 (by omega)
theorem fits_ite {c:Prop} [Decidable c] {a b:Stp} (ha:a.Fits) (hb:b.Fits):(if c then a else b).Fits:=by
 by_cases h:c
 ·rw [if_pos h];exact ha
 ·rw [if_neg h];exact hb
theorem evNorm_fits {s:Stp} (h:s.Fits):(evNorm s).Fits:=by
 have z1:zStp.cols.length * 8≤140737488355328:=by show 0 * 8≤_;decide
 have z2:zStp.newTable.cols.length * 32≤140737488355328:=by show 0 * 32≤_;decide
 have z3:zStp.newTable.pk.length * 8≤140737488355328:=by show 0 * 8≤_;decide
 have z4:zStp.fk.cols.length * 8≤140737488355328:=by show 0 * 8≤_;decide
 unfold evNorm
 repeat' refine fits_ite ?_ ?_
 all_goals exact ⟨by first|exact h.cols|exact z1,by first|exact h.ncols|exact z2,by first|exact h.npk|exact z3,by first|exact h.fk|exact z4⟩
set_option maxHeartbeats 32000000 in
theorem evApply_2 (s:Sch) (st:Stp) (sm:SmallS s) (hf:st.Fits) (hk:st.kind≠13∧st.kind≠14∧st.kind≠15∧st.kind≠16∧st.kind≠10) (h0:tblAt s.tables st.table=-1) :
  SatM Tryz.prog 76 [.one (.ptr 1000 0),.agg (eStp st)] (iB s) (iR s) (.v (oI (rE (evApply s st)))) (oBE (evApply s st)) (oRE (evApply s st)):=by
 have b1:=sm.tables
 have b3:=sm.fks
 have b4:=sm.cons
 have b5:∀f∈s.fks,f.cols.length≤1048576:=fun f hf=>by have:=(sm.fk f hf).1;omega
 have hc:=hf.cols
 have spec:evApply s st=.error 4:=by unfold evApply;rw [if_neg hk.1,if_neg hk.2.1,if_neg hk.2.2.1,if_neg hk.2.2.2.1,if_neg hk.2.2.2.2,h0];rfl
 have fs:=findTable_sat s st.table (by omega)
 rw [h0,mx0_neg] at fs
 obtain ⟨n1,n2,n3,n4,n5⟩:=hk
 rw [spec]
 unfold iB iR oBE oRE rE
 simp only
 refine sM tyOk [1000] [1,2,3] Tryz.func76 fun w0 m0 F0=>?_
 simp only [Tryz.ntmps76,envOf,Nat.reduceAdd]
 repeat' (first|((first|with_reducible refine qV tyOk fun K hK=>?_|(refine AWP.isRegion 14 ?_;refine dX tyOk mixed [(0,5)] [(5,[(6,5)],[])] [5] 8 fun K hK=>?_;simp only [SG,segs] at hK ⊢)|((with_reducible refine CallJ.is ?_);(((apply CallJ.lentI);(focus (simp -dsimp (disch:=first|exact D|fail) only [go_sem,↓reduceIte,seval,eStp,Option.getD_none,frz_eTblO,frz_eFKO];rfl));(focus (first|exact (fs))))))|(with_reducible first|refine VCy.some fun K hK=>?_|refine VCy.step fun K hK=>?_))<;>simp -dsimp (disch:=first|exact D|fail) only [go_sem,↓reduceIte,seval,eStp,Option.getD_none,frz_eTblO,frz_eFKO])|((with_reducible refine hK _ ?_);clear hK K)|(with_reducible refine VCy.intro fun K0 hK0=>?_)|((with_reducible refine VCy.fin ?_);(refine hK0 _ ?_);clear hK0 K0)|(with_reducible refine VCy.quiet ?_)|refine Q1 ?_|((with_reducible refine qW (T:=TT) (b:=?_) ?_ ?_);rotate_left;exact rfl)|fail)
 simp -dsimp (disch:=first|exact D|fail) only [retQ,Tryz.results76,resVals,cellRV,resOf,St.rest,St.freeze,RT,go_sem,↓reduceIte,seval]
end Go.Bw
