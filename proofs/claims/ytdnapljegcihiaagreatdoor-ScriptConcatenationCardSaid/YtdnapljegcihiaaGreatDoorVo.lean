/-
  WHAT IS PROVED HERE, of this translation: validateCon_sat, frzXs_rowT, renameTable_satM, split_rc.
  A theorem that ends in sat says what the function it names returns, whatever the state it is called in; the bounds on its arguments stand ahead of it.
-/
import Derived.Test.YtdnapljegcihiaaGreatDoorVg
import Derived.Test.YtdnapljegcihiaaGreatDoorVh
import Derived.Test.YtdnapljegcihiaaGreatDoorVi
import Derived.Test.YtdnapljegcihiaaGreatDoorVj
set_option linter.unusedSimpArgs false
set_option linter.unusedVariables false
namespace Go.Bw
open Go.Proofs
set_option maxHeartbeats 8000000 in
theorem validateCon_sat (s : Sch) (c : Con) (h1 : s.tables.length ≤ 140737488355328) (h2 : ∀ t ∈ s.tables, t.cols.length ≤ 140737488355328) :
    Sat Tryz.prog 45 [.agg (eSch s), .agg (eCon c)] (.v (oI (conE s c))) := by
  rcases idx_cases (fun t => sEq t.name c.table) s.tables 0 with ⟨e1, _⟩ | ⟨i, hi, e1, _⟩
  · have e1 : tblAt s.tables c.table = -1 := e1
    refine ZE Tryz.func45 Tryz.ntmps45 fun w0 m0 F0 => ?_
    repeat' (first | ((first | with_reducible refine qV tyOk fun K hK => ?_ | ((with_reducible refine CallJ.is ?_); (refine CallJ.pure (findTable_sat _ _ h1) ?_))) <;> simp -dsimp (disch := first | exact D | fail) only [go_sem, ↓reduceIte, seval, e1, mx0_neg]) | ((with_reducible refine hK _ ?_); clear hK K) | refine Q1 ?_ | ((with_reducible refine qW (T := TT) (b := ?_) ?_ ?_); rotate_left; exact rfl) | fail)
    refine ZR (Z1 Tryz.results45) ?_
    simp [conE, e1]
  have e1 : tblAt s.tables c.table = (i : Int) := by unfold tblAt; simpa using e1
  have g1 : s.tables.getD i zTbl = s.tables[i] := by simp [List.getD, hi]
  have spec : conE s c = if c.left < 0 ∨ (s.tables[i].cols.length : Int) ≤ c.left ∨ opOk c.op = false ∨ c.right < -1 ∨ (s.tables[i].cols.length : Int) ≤ c.right ∨ (0 ≤ c.right ∧ c.value ≠ zV) then 3
      else if 0 ≤ c.right then (if (s.tables[i].cols.getD c.left.toNat zCol).kind ≠ (s.tables[i].cols.getD c.right.toNat zCol).kind then 7 else 0)
      else if c.value.kind ≠ (s.tables[i].cols.getD c.left.toNat zCol).kind then 7 else valE c.value := by
    simp only [conE, e1, Int.toNat_natCast, g1]
    rw [if_neg (by omega)]
  rw [spec]
  cases ho : opOk c.op with
  | false =>
    have e3 : satE c.op = 3 := by simp [satE, ho]
    refine ZE Tryz.func45 Tryz.ntmps45 fun w0 m0 F0 => ?_
    repeat' (first | ((first | with_reducible refine qV tyOk fun K hK => ?_ | refine Q2 ?_ | ((with_reducible refine qS ?_ ?_) <;> (intro h; try simp only [NM] at h)) | ((with_reducible refine CallJ.is ?_); (first | refine CallJ.pure (findTable_sat _ _ h1) ?_ | refine CallJ.pure (satisfies_sat zV zV _) ?_))) <;> simp -dsimp (disch := first | exact D | fail) only [go_sem, ↓reduceIte, seval, e1, mx0_neg, mx0_nat, e3]) | ((with_reducible refine hK _ ?_); clear hK K) | refine Q1 ?_ | ((with_reducible refine qW (T := TT) (b := ?_) ?_ ?_); rotate_left; exact rfl) | fail)
    all_goals simp -dsimp (disch := first | exact D | fail) only [retQ, Tryz.results45, resVals, cellRV, resOf, St.rest, St.freeze, RT, go_sem, ↓reduceIte, seval]
    all_goals
      (simp (disch := omega) only [ho, ne_eq, zV_iff, getD_lt]
       (repeat' split) <;> first
         | rfl
         | omega
         | (exfalso; omega)
         | (exfalso; simp_all; done)
         | (simp_all; done)
         | (simp_all; omega)
         | (exfalso; simp_all; omega))
  | true =>
    have e3 : satE c.op = 0 := by simp [satE, ho]
    refine ZE Tryz.func45 Tryz.ntmps45 fun w0 m0 F0 => ?_
    repeat' (first | ((first | with_reducible refine qV tyOk fun K hK => ?_ | refine Q2 ?_ | ((with_reducible refine qS ?_ ?_) <;> (intro h; try simp only [NM] at h)) | with_reducible refine yD tyOk mixed 6 (by kernel_rfl) fun K hK => ?_ | ((with_reducible refine CallJ.is ?_); (first | refine CallJ.pure (findTable_sat _ _ h1) ?_ | refine CallJ.pure (satisfies_sat zV zV _) ?_ | refine CallJ.pure (validate_sat _) ?_))) <;> simp -dsimp (disch := first | exact D | fail) only [go_sem, ↓reduceIte, seval, e1, mx0_neg, mx0_nat, e3]) | ((with_reducible refine hK _ ?_); clear hK K) | refine Q1 ?_ | ((with_reducible refine qW (T := TT) (b := ?_) ?_ ?_); rotate_left; exact rfl) | ((with_reducible refine yS ?_ ?_) <;> (intro h; try simp only [NM] at h)) | fail)
    all_goals simp -dsimp (disch := first | exact D | fail) only [retQ, Tryz.results45, resVals, cellRV, resOf, St.rest, St.freeze, RT, go_sem, ↓reduceIte, seval]
    all_goals
      (simp (disch := omega) only [ho, ne_eq, zV_iff, getD_lt]
       (repeat' split) <;> first
         | rfl
         | omega
         | (exfalso; omega)
         | (exfalso; simp_all; done)
         | (simp_all; done)
         | (simp_all; omega)
         | (exfalso; simp_all; omega))

theorem frzXs_rowT (l:List Tbl) (i:Nat) (t:Tbl):frzXs (rowT l i t)=(l.set i t).map eTbl:=frzTblO _
set_option maxHeartbeats 32000000 in
theorem renameTable_satM (s:Sch) (i:Nat) (name:ByteArray) (hi:i<s.tables.length) (sm:SmallS s) :
  SatM Tryz.prog 81 [.one (.ptr 1000 0),oI i,oS name] (iB s) (iR s) (.v (oI (rE (renameT s i name)))) (oBE (renameT s i name)) (oRE (renameT s i name)):=by
 have b1:=sm.tables
 have b3:=sm.fks
 have b4:=sm.cons
 obtain ⟨t,ht⟩:∃t,s.tables[i]=t:=⟨_,rfl⟩
 have htA:tAt s i=t:=by unfold tAt;rw [getD_lt _ hi,ht]
 have fs:=findTable_sat s name (by omega)
 rcases idx_cases (fun u=>sEq u.name name) s.tables 0 with ⟨e1,_⟩|⟨j,hj,e1,_,_⟩
 case inr =>
  have e1:tblAt s.tables name=(j:Int):=by unfold tblAt;simpa using e1
  rw [e1,mx0_nat] at fs
  have spec:renameT s i name=.error 5:=by unfold renameT;rw [if_pos (by omega)]
  rw [spec]
  unfold iB iR oBE oRE rE
  simp only
  refine ZM [1000] [1,2,3] Tryz.func81 Tryz.ntmps81 fun w0 m0 F0=>?_
  refine AWP.frzR 1000 rfl ?_
  refine ZU (Z3 @frzR_mk @frzTblO @frzFKO) ?_
  refine AWP.frzR 1001 rfl ?_
  refine ZU (Z3 @frzR_mk @frzTblO @frzFKO) ?_
  refine ZW Z0 (Z1 (fs)) ?_
  exact ZQ (Z1 Tryz.results81)
 have e1:tblAt s.tables name=-1:=e1
 rw [e1,mx0_neg] at fs
 obtain ⟨cut,hcut⟩:∃cut,s.tables.take i++s.tables.drop (i+1)=cut:=⟨_,rfl⟩
 have spec:renameT s i name=.ok ⟨ginsS cmpT 0 (cut.length+1) (cut++[{t with name:=name}]),s.fks.map (renFK t.name name),s.cons.map (renCon t.name name)⟩:=by
  unfold renameT insertT
  rw [if_neg (by omega),htA,hcut]
  rfl
 rw [spec]
 have cl:=cut_len s.tables i hi
 rw [hcut] at cl
 have dl:=deleteTbls_own (s.tables.map eTbl) i (by simpa using hi) (by simp;omega) (by rw [noOwn_eTbl];trivial)
 rw [List.length_map] at dl
 have cm:=cut_map eTbl s.tables i hi [.str ByteArray.empty,.sl 3 [],.sl 1 []]
 rw [hcut] at cm
 have it:=insertTable_satM cut (s.fks.map eFK) (s.cons.map eCon) s.fks.length s.cons.length {t with name:=name} (by omega)
 have pl:=(ginsS_perm cmpT 0 (cut.length+1) (cut++[{t with name:=name}])).length_eq
 rw [List.length_append,List.length_singleton] at pl
 obtain ⟨NT,hNT⟩:∃NT,ginsS cmpT 0 (cut.length+1) (cut++[{t with name:=name}])=NT:=⟨_,rfl⟩
 rw [hNT] at it pl ⊢
 have gi:(s.tables.map eTbl).getD i []=eTbl t:=by rw [getD_map_lt _ _ _ hi,ht]
 unfold iB iR oBE oRE oB1 oR1 rE
 simp only [List.length_map,pl]
 rw [cl] at it ⊢
 refine ZM [1000] [1,2,3] Tryz.func81 Tryz.ntmps81 fun w0 m0 F0=>?_
 refine AWP.gq ?_
 refine AWP.frzR 1000 rfl ?_
 refine ZU (Z3 @frzR_mk @frzTblO @frzFKO) ?_
 refine AWP.frzR 1001 rfl ?_
 refine ZU (Z3 @frzR_mk @frzTblO @frzFKO) ?_
 refine ZV (Z4 @gi @dropL_nil @dropL_nil' @dropL_cons) (Z1 (fs)) (Z1 (Zs 7)) (Z1 (Zi [] [(1000,1000)] [] [(6,39)] [] [1000,39] [] [1000,39] (dl))) ?_
 refine AWP.cutR 39 (s.tables.length - 1) rfl rfl (by simp;omega) ?_
 refine ZU Z0 ?_
 rw [cm]
 refine ZV (Z4 @okIds_ref @dropL_nil @dropL_nil' @dropL_cons) Z0 Z0 (Z1 (Zi [(1000,1000)] [(1000,39),(1001,1001),(1002,1002)] [(1000,1000)] [(11,46),(1001,1001),(1002,1002)] [] [39,46] [1000,1000] [39,1001,1002,46,1001,1002] (it))) ?_
 refine AWP.loop (ι:={k:Nat // k≤s.fks.length}) (fun k=>⟨119,[(0,.v (.one (.ptr 1000 0))),(2,.v (oS name)),(10,.v (oS t.name)),(51,.v (oI s.fks.length)),(52,.v (oI k.1))],[(1000,[.ref 46 0 (s.tables.length - 1+1),.ref 1001 0 s.fks.length,.ref 1002 0 s.cons.length])],[(46,⟨3,NT.map eTbl,[]⟩),(1001,⟨3,(mix (renFK t.name name) s.fks k.1).map eFK,[]⟩),(1002,⟨7,s.cons.map eCon,[]⟩)]⟩) (fun k=>s.fks.length - k.1) ⟨0,Nat.zero_le _⟩ ?_ fun ⟨k,hkl⟩=>?_
 ·exact ZL (Z1 @mix_zero)
 simp only at hkl ⊢
 rcases Nat.lt_or_ge k s.fks.length with hk|hk
 ·have ml:=mix_len (renFK t.name name) s.fks k
  have mg:=mixr_get eFK (renFK t.name name) s.fks k hk
  have ms:=mixr_set eFK (renFK t.name name) s.fks k hk
  have mk:=mix_keep (renFK t.name name) s.fks k hk
  have gs:=fun x=>getD_setL ((mix (renFK t.name name) s.fks k).map eFK) k x [] (by rw [List.length_map,mix_len];exact hk)
  obtain ⟨fb,hfb⟩:∃fb,s.fks[k]=fb:=⟨_,rfl⟩
  rw [hfb] at mg ms mk
  cases h1:sEq fb.table t.name<;>cases h2:sEq fb.ref t.name
  ·have h1':¬ fb.table.toList=t.name.toList:=by simpa [sEq] using h1
   have h2':¬ fb.ref.toList=t.name.toList:=by simpa [sEq] using h2
   have mk:=mk (by unfold renFK ren;rw [h1,h2];rfl)
   refine ZW (Z4 @ml @mg @h1' @h2') Z0 ?_
   refine ⟨⟨k+1,by omega⟩,by simp only;omega,?_⟩
   exact ZL (Z1 @mk)
  ·have h1':¬ fb.table.toList=t.name.toList:=by simpa [sEq] using h1
   have h2':fb.ref.toList=t.name.toList:=by simpa [sEq] using h2
   have er:renFK t.name name fb={fb with ref:=name}:=by unfold renFK ren;rw [h1,h2];rfl
   rw [er] at ms
   simp only [eFK,eInts] at ms
   refine ZW (Z7 @ml @mg @gs @h1' @h2' (@List.set_set.{0}) (@List.length_set.{0})) Z0 ?_
   refine ⟨⟨k+1,by omega⟩,by simp only;omega,?_⟩
   exact ZL (Z1 @ms)
  ·have h1':fb.table.toList=t.name.toList:=by simpa [sEq] using h1
   have h2':¬ fb.ref.toList=t.name.toList:=by simpa [sEq] using h2
   have er:renFK t.name name fb={fb with table:=name}:=by unfold renFK ren;rw [h1,h2];rfl
   rw [er] at ms
   simp only [eFK,eInts] at ms
   refine ZW (Z7 @ml @mg @gs @h1' @h2' (@List.set_set.{0}) (@List.length_set.{0})) Z0 ?_
   refine ⟨⟨k+1,by omega⟩,by simp only;omega,?_⟩
   exact ZL (Z1 @ms)
  ·have h1':fb.table.toList=t.name.toList:=by simpa [sEq] using h1
   have h2':fb.ref.toList=t.name.toList:=by simpa [sEq] using h2
   have er:renFK t.name name fb={fb with table:=name,ref:=name}:=by unfold renFK ren;rw [h1,h2];rfl
   rw [er] at ms
   simp only [eFK,eInts] at ms
   refine ZW (Z7 @ml @mg @gs @h1' @h2' (@List.set_set.{0}) (@List.length_set.{0})) Z0 ?_
   refine ⟨⟨k+1,by omega⟩,by simp only;omega,?_⟩
   exact ZL (Z1 @ms)
 have hk:k=s.fks.length:=by omega
 subst hk
 rw [mix_all]
 refine ZW Z0 Z0 ?_
 refine AWP.loop (ι:={k:Nat // k≤s.cons.length}) (fun k=>⟨119,[(0,.v (.one (.ptr 1000 0))),(2,.v (oS name)),(10,.v (oS t.name)),(96,.v (oI s.cons.length)),(97,.v (oI k.1))],[(1000,[.ref 46 0 (s.tables.length - 1+1),.ref 1001 0 s.fks.length,.ref 1002 0 s.cons.length])],[(46,⟨3,NT.map eTbl,[]⟩),(1001,⟨3,(s.fks.map (renFK t.name name)).map eFK,[]⟩),(1002,⟨7,(mix (renCon t.name name) s.cons k.1).map eCon,[]⟩)]⟩) (fun k=>s.cons.length - k.1) ⟨0,Nat.zero_le _⟩ ?_ fun ⟨k,hkl⟩=>?_
 ·exact ZL (Z1 @mix_zero)
 simp only at hkl ⊢
 rcases Nat.lt_or_ge k s.cons.length with hk|hk
 ·have ml:=mix_len (renCon t.name name) s.cons k
  have mg:=mixr_get eCon (renCon t.name name) s.cons k hk
  have ms:=mixr_set eCon (renCon t.name name) s.cons k hk
  have mk:=mix_keep (renCon t.name name) s.cons k hk
  obtain ⟨fb,hfb⟩:∃fb,s.cons[k]=fb:=⟨_,rfl⟩
  rw [hfb] at mg ms mk
  cases h1:sEq fb.table t.name
  ·have h1':¬ fb.table.toList=t.name.toList:=by simpa [sEq] using h1
   have mk:=mk (by unfold renCon ren;rw [h1];rfl)
   refine ZW (Z3 @ml @mg @h1') Z0 ?_
   refine ⟨⟨k+1,by omega⟩,by simp only;omega,?_⟩
   exact ZL (Z1 @mk)
  ·have h1':fb.table.toList=t.name.toList:=by simpa [sEq] using h1
   have er:renCon t.name name fb={fb with table:=name}:=by unfold renCon ren;rw [h1];rfl
   rw [er] at ms
   simp only [eCon] at ms
   refine ZW (Z3 @ml @mg @h1') Z0 ?_
   refine ⟨⟨k+1,by omega⟩,by simp only;omega,?_⟩
   exact ZL (Z1 @ms)
 have hk:k=s.cons.length:=by omega
 subst hk
 rw [mix_all]
 refine ZW Z0 Z0 ?_
 refine Gq.renR 46 1 rfl rfl (by decide) (.inl (Nat.le_of_ble_eq_true rfl)) ?_
 refine ZT Z0 ?_
 refine Gq.renR 1001 2 rfl rfl (by decide) (.inl (Nat.le_of_ble_eq_true rfl)) ?_
 refine ZT Z0 ?_
 refine Gq.renR 1002 3 rfl rfl (by decide) (.inl (Nat.le_of_ble_eq_true rfl)) ?_
 refine ZT Z0 ?_
 refine Gq.done ?_
 exact ZQ (Z1 Tryz.results81)
theorem split_rc (s:Sch) (i:Nat) (t:Tbl) (st:Stp) (hi:i<s.tables.length) (ht:s.tables[i]=t) (sm:SmallS s) (hst:st.cols.length≤t.cols.length) :
  SatM Tryz.prog 127 [.one (.ptr 1000 0),oI i,.one (eInts st.cols)] (iB ⟨s.tables,s.fks.map (splitFK t st),s.cons.map (splitCon t st)⟩) (iR ⟨s.tables,s.fks.map (splitFK t st),s.cons.map (splitCon t st)⟩) (.tup []) (iB (removeC ⟨s.tables,s.fks.map (splitFK t st),s.cons.map (splitCon t st)⟩ i st.cols)) (iR (removeC ⟨s.tables,s.fks.map (splitFK t st),s.cons.map (splitCon t st)⟩ i st.cols)):=by
 have b1:=sm.tables
 have b2:=sm.table s.tables[i] (List.getElem_mem hi)
 have b3:=sm.fks
 have b4:=sm.cons
 rw [ht] at b2
 obtain ⟨b6,b7,b8⟩:=b2
 refine removeColumns_satM _ i st.cols hi (by omega) (by show s.tables.length≤_;omega) (by show (s.fks.map _).length≤_;rw [List.length_map];omega) (by show (s.cons.map _).length≤_;rw [List.length_map];omega) ?_ ?_ ?_ ?_ ?_ ?_
 ·show s.tables[i].cols.length≤_;rw [ht];omega
 ·show s.tables[i].pk.length≤_;rw [ht];omega
 ·show ∀c∈s.tables[i].pk,_;rw [ht];intro c hc;have:=b8 c hc;omega
 ·intro k hk
  obtain ⟨f,hf,rfl⟩:=List.mem_map.1 (show k∈s.fks.map (splitFK t st) from hk)
  have h1:=sm.fk f hf
  have:=(splitFK_cols h1.2 b7 (by omega) (st:=st)).1
  omega
 ·intro k hk _
  obtain ⟨f,hf,rfl⟩:=List.mem_map.1 (show k∈s.fks.map (splitFK t st) from hk)
  exact (splitFK_cols (sm.fk f hf).2 b7 (by omega)).2
 ·intro k hk _
  obtain ⟨f,hf,rfl⟩:=List.mem_map.1 (show k∈s.cons.map (splitCon t st) from hk)
  exact splitCon_cols (sm.con f hf) b7 (by omega)
end Go.Bw
