/-
  WHAT IS PROVED HERE, of this translation: validateTable_sat, validate1_sat, stp_eq, default_sat, split_rc, splitTable_err, evApply_2, Sz.mono, SmallS.sz, Sz.fits, Sz.tAt, Sz.setT, .., verSchema_ok, ver0, path0, gr0_fits, Stp.Ok.fits, cells_Step, bytes_Step, rd_stp, rd_scr, Edg.Ok.fits, Gr.Ok.fits.
  A theorem that ends in sat says what the function it names returns, whatever the state it is called in; the bounds on its arguments stand ahead of it.
-/
import Derived.Test.YtdnapljegcihiaaGreatWg
import Derived.Test.YtdnapljegcihiaaGreatWj
set_option linter.unusedSimpArgs false
set_option linter.unusedVariables false
namespace Go.Bw
open Go.Proofs
set_option maxHeartbeats 8000000 in
theorem validateTable_sat (t : Tbl) (h1 : t.cols.length ≤ 140737488355328) (h2 : t.pk.length ≤ 140737488355328) : Sat Tryz.prog 37 [.agg (eTbl t)] (.v (oI (tblE t))) := by
  refine sS tyOk Tryz.func37 fun w0 m0 F0 => ?_
  simp only [Tryz.ntmps37, envOf, Nat.reduceAdd]
  repeat' (first | ((first | with_reducible refine qV tyOk fun K hK => ?_ | ((with_reducible refine CallJ.is ?_); (refine CallJ.pure (validName_sat _) ?_))) <;> simp -dsimp (disch := first | exact D | fail) only [go_sem, ↓reduceIte, seval]) | ((with_reducible refine hK _ ?_); clear hK K) | refine Q1 ?_ | ((with_reducible refine qW (T := TT) (b := ?_) ?_ ?_); rotate_left; exact rfl) | ((with_reducible refine yS ?_ ?_) <;> (intro h; try simp only [NM] at h)) | fail)
  all_goals first
    | (
       simp -dsimp (disch := first | exact D | fail) only [retQ, Tryz.results37, resVals, cellRV, resOf, St.rest, St.freeze, RT, go_sem, ↓reduceIte, seval]
       simp [tblE, *]
       done)
    | (
       simp -dsimp (disch := first | exact D | fail) only [retQ, Tryz.results37, resVals, cellRV, resOf, St.rest, St.freeze, RT, go_sem, ↓reduceIte, seval]
       first
         | (have : t.cols.length = 0 := by omega
            simp [tblE, *]
            done)
         | (have h0 : t.cols.length ≠ 0 := by omega
            have : 6 < t.cols.length := by omega
            simp [tblE, *]
            done))
    | skip
  have h0 : t.cols.length ≠ 0 := by omega
  have h6 : ¬ 6 < t.cols.length := by omega
  have spec : tblE t = match scan (colE t) t.cols 0 with
    | some e => e
    | none => match scan (pkE t) t.pk 0 with
      | some e => e
      | none => if t.pk.length = 0 then 9 else 0 := by simp [tblE, *] <;> rfl
  rw [spec]
  refine AWP.loop (ι := {k : Nat // k ≤ t.cols.length ∧ scan (colE t) (t.cols.drop k) k = scan (colE t) t.cols 0}) (fun k => ⟨96, [(1, .v (.one (.ptr 1 0))), (22, .v (.one (eCols t.cols))), (23, .v (oI t.cols.length)), (24, .v (oI k.1))], [(1, eTbl t)], []⟩) (fun k => t.cols.length - k.1) ⟨0, Nat.zero_le _, rfl⟩ ?_ fun ⟨k, hkl, hi⟩ => ?_
  · refine St.le_mk ?_ ?_ ?_ <;> simp only [LE, EN, Nat.reduceEqDiff, reduceIte, Nat.reduceSub]
  repeat' (first | ((first | with_reducible refine qV tyOk fun K hK => ?_ | refine Q2 ?_ | ((with_reducible refine qS ?_ ?_) <;> (intro h; try simp only [NM] at h)) | ((with_reducible refine CallJ.is ?_); (first | refine CallJ.pure (validName_sat _) ?_ | refine CallJ.pure (findColumn_sat t _ h1) ?_))) <;> simp -dsimp (disch := first | exact D | fail) only [go_sem, ↓reduceIte, seval]) | ((with_reducible refine hK _ ?_); clear hK K) | refine Q1 ?_ | ((with_reducible refine qW (T := TT) (b := ?_) ?_ ?_); rotate_left; exact rfl) | ((with_reducible refine yS ?_ ?_) <;> (intro h; try simp only [NM] at h)) | fail)
  all_goals try (
    first
      | (have hs : (colE t) k t.cols[k] = none := by
           (simp (disch := omega) only [colE, getD_lt]; (repeat' split) <;> first | rfl | with_reducible assumption | omega | (exfalso; omega) | (simp_all; done) | (simp_all; omega))
         refine ⟨⟨k + 1, by omega, by rw [scan_step (by omega) hs, hi]⟩, by simp only; omega, ?_⟩
         refine St.le_mk ?_ ?_ ?_ <;> simp only [LE, EN, Nat.reduceEqDiff, reduceIte, Nat.reduceSub, eTbl]
         done)
      | (simp -dsimp (disch := first | exact D | fail) only [retQ, Tryz.results37, resVals, cellRV, resOf, St.rest, St.freeze, RT, go_sem, ↓reduceIte, seval]
         rw [scan_leaf (by omega) ?_ hi]
         all_goals first | with_reducible rfl | ((simp (disch := omega) only [colE, getD_lt]; (repeat' split) <;> first | rfl | with_reducible assumption | omega | (exfalso; omega) | (simp_all; done) | (simp_all; omega)); done) | rfl
         done)
    )
  have hi0 : scan (colE t) t.cols 0 = none := by rw [← hi, scan_end (by omega)]
  refine AWP.loop (ι := {k : Nat // k ≤ t.pk.length ∧ scan (pkE t) (t.pk.drop k) k = scan (pkE t) t.pk 0}) (fun k => ⟨96, [(1, .v (.one (.ptr 1 0))), (53, .v (.one (eInts t.pk))), (54, .v (oI t.pk.length)), (55, .v (oI k.1))], [(1, eTbl t)], []⟩) (fun k => t.pk.length - k.1) ⟨0, Nat.zero_le _, rfl⟩ ?_ fun ⟨k, hkl, hi⟩ => ?_
  · refine St.le_mk ?_ ?_ ?_ <;> simp only [LE, EN, Nat.reduceEqDiff, reduceIte, Nat.reduceSub, eTbl]
  repeat' (first | ((first | with_reducible refine qV tyOk fun K hK => ?_ | refine Q2 ?_ | ((with_reducible refine qS ?_ ?_) <;> (intro h; try simp only [NM] at h))) <;> simp -dsimp (disch := first | exact D | fail) only [go_sem, ↓reduceIte, seval]) | ((with_reducible refine hK _ ?_); clear hK K) | refine Q1 ?_ | ((with_reducible refine qW (T := TT) (b := ?_) ?_ ?_); rotate_left; exact rfl) | ((with_reducible refine yS ?_ ?_) <;> (intro h; try simp only [NM] at h)) | fail)
  all_goals try rw [hi0]
  all_goals simp only
  all_goals try (
    first
      | (have hs : (pkE t) k t.pk[k] = none := by
           (simp (disch := omega) only [pkE, getD_lt]; (repeat' split) <;> first | rfl | with_reducible assumption | omega | (exfalso; omega) | (simp_all; done) | (simp_all; omega))
         refine ⟨⟨k + 1, by omega, by rw [scan_step (by omega) hs, hi]⟩, by simp only; omega, ?_⟩
         refine St.le_mk ?_ ?_ ?_ <;> simp only [LE, EN, Nat.reduceEqDiff, reduceIte, Nat.reduceSub, eTbl]
         done)
      | (simp -dsimp (disch := first | exact D | fail) only [retQ, Tryz.results37, resVals, cellRV, resOf, St.rest, St.freeze, RT, go_sem, ↓reduceIte, seval]
         rw [scan_leaf (by omega) ?_ hi]
         all_goals first | with_reducible rfl | ((simp (disch := omega) only [pkE, getD_lt]; (repeat' split) <;> first | rfl | with_reducible assumption | omega | (exfalso; omega) | (simp_all; done) | (simp_all; omega)); done) | rfl
         done)
    )
  all_goals
    have hi1 : scan (pkE t) t.pk 0 = none := by rw [← hi, scan_end (by omega)]
    rw [hi1]
    simp -dsimp (disch := first | exact D | fail) only [retQ, Tryz.results37, resVals, cellRV, resOf, St.rest, St.freeze, RT, go_sem, ↓reduceIte, seval]
    first
      | (rw [if_pos (by omega)])
      | (rw [if_neg (by omega)])

theorem validate1_sat (a b:FK) (hl:a.cols.length≤140737488355328):Sat Tryz.prog 40 [.agg (eFK a),.one (.fz (eFK b))] (.v (oB (fkEq a b))):=by
 refine sS tyOk Tryz.func40 fun w0 m0 F0=>?_
 simp only [Tryz.ntmps40,envOf,Nat.reduceAdd]
 repeat' (first|((first|with_reducible refine qV tyOk fun K hK=>?_|((with_reducible refine CallJ.is ?_);(refine CallJ.pure (equalFKs_sat _ _ hl) ?_)))<;>simp -dsimp (disch:=first|exact D|fail) only [go_sem,↓reduceIte,seval])|((with_reducible refine hK _ ?_);clear hK K)|refine Q1 ?_|fail)
 simp -dsimp (disch:=first|exact D|fail) only [retQ,Tryz.results40,resVals,cellRV,resOf,St.rest,St.freeze,RT,go_sem,↓reduceIte,seval]
theorem stp_eq {a b:Stp}:a=b↔a.kind=b.kind∧a.table.toList=b.table.toList∧a.other.toList=b.other.toList∧a.column.toList=b.column.toList∧a.newName.toList=b.newName.toList∧a.typ=b.typ∧a.cols=b.cols∧a.op.toList=b.op.toList ∧
  (a.value.kind=b.value.kind∧a.value.int=b.value.int∧a.value.text.toList=b.value.text.toList)∧a.newTable=b.newTable ∧
  (a.con.table.toList=b.con.table.toList∧a.con.left=b.con.left∧a.con.op.toList=b.con.op.toList∧a.con.right=b.con.right∧a.con.value.kind=b.con.value.kind∧a.con.value.int=b.con.value.int∧a.con.value.text.toList=b.con.value.text.toList)∧a.fk=b.fk:=by
 constructor
 ·rintro rfl
  simp
 ·rintro ⟨h1,h2,h3,h4,h5,h6,h7,h8,h9,h10,h11,h12⟩
  have h9:=val_eq.2 h9
  have h11:=con_eq.2 h11
  cases a
  cases b
  simp only at *
  subst h1 h6 h7 h9 h10 h11 h12
  rw [bytes_ext h2,bytes_ext h3,bytes_ext h4,bytes_ext h5,bytes_ext h8]
set_option maxHeartbeats 8000000 in
theorem default_sat (v:Val) (c:Col):Sat Tryz.prog 110 [.agg (eVal v),.agg (eCol c)] (.v (oI (defaultE v c))):=by
 refine sS tyOk Tryz.func110 fun w0 m0 F0=>?_
 simp only [Tryz.ntmps110,envOf,Nat.reduceAdd]
 repeat' (first|((first|with_reducible refine qV tyOk fun K hK=>?_|refine Q2 ?_|((with_reducible refine qS ?_ ?_)<;>(intro h;try simp only [NM] at h))|((with_reducible refine CallJ.is ?_);(refine CallJ.pure (validate_sat v) ?_)))<;>simp -dsimp (disch:=first|exact D|fail) only [go_sem,↓reduceIte,seval])|((with_reducible refine hK _ ?_);clear hK K)|refine Q1 ?_|((with_reducible refine qW (T:=TT) (b:=?_) ?_ ?_);rotate_left;exact rfl)|((with_reducible refine yS ?_ ?_)<;>(intro h;try simp only [NM] at h))|fail)
 all_goals simp -dsimp (disch:=first|exact D|fail) only [retQ,Tryz.results110,resVals,cellRV,resOf,St.rest,St.freeze,RT,go_sem,↓reduceIte,seval]
 all_goals simp_all [defaultE]
theorem split_rc (s:Sch) (i:Nat) (t:Tbl) (st:Stp) (hi:i<s.tables.length) (ht:s.tables[i]=t) (sm:SmallS s) (hst:st.cols.length≤t.cols.length) :
  SatM Tryz.prog 101 [.one (.ptr 1000 0),oI i,.one (eInts st.cols)] (iB ⟨s.tables,s.fks.map (splitFK t st),s.cons.map (splitCon t st)⟩) (iR ⟨s.tables,s.fks.map (splitFK t st),s.cons.map (splitCon t st)⟩) (.tup []) (iB (removeC ⟨s.tables,s.fks.map (splitFK t st),s.cons.map (splitCon t st)⟩ i st.cols)) (iR (removeC ⟨s.tables,s.fks.map (splitFK t st),s.cons.map (splitCon t st)⟩ i st.cols)):=by
 have b1:=sm.tables
 have b2:=sm.table s.tables[i] (List.getElem_mem hi)
 have b3:=sm.fks
 have b4:=sm.cons
 rw [ht] at b2
 obtain ⟨b6,b7,b8⟩:=b2
 refine removeColumns_satM _ i st.cols hi (by omega) (by show s.tables.length≤_;omega) (by show (s.fks.map _).length≤_;rw [List.length_map];omega) (by show (s.cons.map _).length≤_;rw [List.length_map];omega) ?_ ?_ ?_ ?_ ?_ ?_
 ·show s.tables[i].cols.length≤_;rw [ht];omega
 ·show s.tables[i].pk.length≤_;rw [ht];omega
 ·show ∀c∈s.tables[i].pk,_;rw [ht];intro c hc;have:=b8 c hc;omega
 ·intro k hk
  obtain ⟨f,hf,rfl⟩:=List.mem_map.1 (show k∈s.fks.map (splitFK t st) from hk)
  have h1:=sm.fk f hf
  have:=(splitFK_cols h1.2 b7 (by omega) (st:=st)).1
  omega
 ·intro k hk _
  obtain ⟨f,hf,rfl⟩:=List.mem_map.1 (show k∈s.fks.map (splitFK t st) from hk)
  exact (splitFK_cols (sm.fk f hf).2 b7 (by omega)).2
 ·intro k hk _
  obtain ⟨f,hf,rfl⟩:=List.mem_map.1 (show k∈s.cons.map (splitCon t st) from hk)
  exact splitCon_cols (sm.con f hf) b7 (by omega)
set_option maxHeartbeats 32000000 in
theorem splitTable_err (s:Sch) (i:Nat) (st:Stp) (hi:i<s.tables.length) (sm:SmallS s) (hst:st.cols.length≤140737488355328) (hE:splitE s (tAt s i) st≠0) :
  SatM Tryz.prog 72 [.one (.ptr 1000 0),oI i,.agg (eStp st)] (iB s) (iR s) (.v (oI (rE (splitT s i st)))) (oBE (splitT s i st)) (oRE (splitT s i st)):=by
 have b1:=sm.tables
 have b2:=sm.table s.tables[i] (List.getElem_mem hi)
 have b3:=sm.fks
 have b4:=sm.cons
 obtain ⟨t,ht⟩:∃t,s.tables[i]=t:=⟨_,rfl⟩
 have htA:tAt s i=t:=by unfold tAt;rw [getD_lt _ hi,ht]
 rw [ht] at b2
 rw [htA] at hE
 have cs:=checkSplit_satX s t st (by omega) (by omega) (by omega) hst
 have lm:(s.tables.map eTbl).length=s.tables.length:=List.length_map ..
 have gi:(s.tables.map eTbl).getD i []=eTbl t:=by rw [getD_map_lt _ _ _ hi,ht]
 have spec:splitT s i st=.error (splitE s t st):=by unfold splitT;simp only [htA];rw [if_pos hE]
 obtain ⟨q,hq⟩:∃q,splitE s t st=q:=⟨_,rfl⟩
 rw [hq] at spec hE cs
 rw [spec]
 unfold iB iR oBE oRE rE
 simp only
 refine sM tyOk [1000] [1,2,3] Tryz.func72 fun w0 m0 F0=>?_
 simp only [Tryz.ntmps72,envOf,Nat.reduceAdd]
 refine AWP.frzR 1000 rfl ?_
 simp -dsimp (disch:=first|exact D|fail) only [go_sem,↓reduceIte,seval,frzR_mk,frzTblO,frzFKO]
 refine AWP.frzR 1001 rfl ?_
 simp -dsimp (disch:=first|exact D|fail) only [go_sem,↓reduceIte,seval,frzR_mk,frzTblO,frzFKO]
 repeat' (first|((first|with_reducible refine qV tyOk fun K hK=>?_|(refine AWP.isRegion 2 ?_;refine dX tyOk mixed [(0,5)] [(5,[(6,1)],[])] [5] 8 fun K hK=>?_;simp only [SG,segs] at hK ⊢)|((with_reducible refine CallJ.is ?_);(((apply CallJ.lentI);(focus (simp -dsimp (disch:=first|exact D|fail) only [go_sem,↓reduceIte,seval,eStp,eTbl,Option.getD_none,gi,lm,hE];rfl));(focus (first|exact (cs))))))|(with_reducible first|refine VCy.some fun K hK=>?_|refine VCy.step fun K hK=>?_))<;>simp -dsimp (disch:=first|exact D|fail) only [go_sem,↓reduceIte,seval,eStp,eTbl,Option.getD_none,gi,lm,hE])|((with_reducible refine hK _ ?_);clear hK K)|(with_reducible refine VCy.intro fun K0 hK0=>?_)|((with_reducible refine VCy.fin ?_);(refine hK0 _ ?_);clear hK0 K0)|(with_reducible refine VCy.quiet ?_)|refine Q1 ?_|((with_reducible refine qW (T:=TT) (b:=?_) ?_ ?_);rotate_left;exact rfl)|fail)
 simp -dsimp (disch:=first|exact D|fail) only [retQ,Tryz.results72,resVals,cellRV,resOf,St.rest,St.freeze,RT,go_sem,↓reduceIte,seval]
set_option maxHeartbeats 32000000 in
theorem evApply_2 (s:Sch) (st:Stp) (sm:SmallS s) (hf:st.Fits) (hk:st.kind≠13∧st.kind≠14∧st.kind≠15∧st.kind≠16∧st.kind≠10) (h0:tblAt s.tables st.table=-1) :
  SatM Tryz.prog 46 [.one (.ptr 1000 0),.agg (eStp st)] (iB s) (iR s) (.v (oI (rE (evApply s st)))) (oBE (evApply s st)) (oRE (evApply s st)):=by
 have b1:=sm.tables
 have b3:=sm.fks
 have b4:=sm.cons
 have b5:∀f∈s.fks,f.cols.length≤1048576:=fun f hf=>by have:=(sm.fk f hf).1;omega
 have hc:=hf.cols
 have spec:evApply s st=.error 4:=by unfold evApply;rw [if_neg hk.1,if_neg hk.2.1,if_neg hk.2.2.1,if_neg hk.2.2.2.1,if_neg hk.2.2.2.2,h0];rfl
 have fs:=findTable_sat s st.table (by omega)
 rw [h0,mx0_neg] at fs
 obtain ⟨n1,n2,n3,n4,n5⟩:=hk
 rw [spec]
 unfold iB iR oBE oRE rE
 simp only
 refine sM tyOk [1000] [1,2,3] Tryz.func46 fun w0 m0 F0=>?_
 simp only [Tryz.ntmps46,envOf,Nat.reduceAdd]
 repeat' (first|((first|with_reducible refine qV tyOk fun K hK=>?_|(refine AWP.isRegion 14 ?_;refine dX tyOk mixed [(0,5)] [(5,[(6,5)],[])] [5] 8 fun K hK=>?_;simp only [SG,segs] at hK ⊢)|((with_reducible refine CallJ.is ?_);(((apply CallJ.lentI);(focus (simp -dsimp (disch:=first|exact D|fail) only [go_sem,↓reduceIte,seval,eStp,Option.getD_none,frz_eTblO,frz_eFKO];rfl));(focus (first|exact (fs))))))|(with_reducible first|refine VCy.some fun K hK=>?_|refine VCy.step fun K hK=>?_))<;>simp -dsimp (disch:=first|exact D|fail) only [go_sem,↓reduceIte,seval,eStp,Option.getD_none,frz_eTblO,frz_eFKO])|((with_reducible refine hK _ ?_);clear hK K)|(with_reducible refine VCy.intro fun K0 hK0=>?_)|((with_reducible refine VCy.fin ?_);(refine hK0 _ ?_);clear hK0 K0)|(with_reducible refine VCy.quiet ?_)|refine Q1 ?_|((with_reducible refine qW (T:=TT) (b:=?_) ?_ ?_);rotate_left;exact rfl)|fail)
 simp -dsimp (disch:=first|exact D|fail) only [retQ,Tryz.results46,resVals,cellRV,resOf,St.rest,St.freeze,RT,go_sem,↓reduceIte,seval]
structure Sz (s:Sch) (a b:Nat):Prop where
 tables:s.tables.length≤a
 table:∀t∈s.tables,t.cols.length≤b∧t.pk.length≤b
 fks:s.fks.length≤a
 fk:∀f∈s.fks,f.cols.length≤b
 cons:s.cons.length≤a
theorem Sz.mono {s:Sch} {a b a' b':Nat} (h:Sz s a b) (ha:a≤a') (hb:b≤b'):Sz s a' b' :=
 ⟨Nat.le_trans h.tables ha,fun t ht=>⟨Nat.le_trans (h.table t ht).1 hb,Nat.le_trans (h.table t ht).2 hb⟩,Nat.le_trans h.fks ha,fun f hf=>Nat.le_trans (h.fk f hf) hb,Nat.le_trans h.cons ha⟩
theorem SmallS.sz {s:Sch} (h:SmallS s):Sz s 8 6 :=
 ⟨Nat.le_trans h.tables (by decide),fun t ht=>⟨(h.table t ht).1,(h.table t ht).2.1⟩,h.fks,fun f hf=>(h.fk f hf).1,h.cons⟩
theorem Sz.fits {s:Sch} {a b:Nat} (h:Sz s a b) (ha:a≤140737488355328) (hb:b≤140737488355328):s.Fits :=
 ⟨Nat.le_trans h.tables ha,fun t ht=>⟨Nat.le_trans (h.table t ht).1 hb,Nat.le_trans (h.table t ht).2 hb⟩,Nat.le_trans h.fks ha,fun f hf=>Nat.le_trans (h.fk f hf) hb,Nat.le_trans h.cons ha⟩
theorem Sz.tAt {s:Sch} {a b:Nat} (h:Sz s a b) (i:Nat):(tAt s i).cols.length≤b∧(tAt s i).pk.length≤b:=by
 unfold Go.Bw.tAt
 rw [List.getD_eq_getElem?_getD]
 cases hx:s.tables[i]? with
 | none=>exact ⟨Nat.zero_le _,Nat.zero_le _⟩
 | some t=>exact h.table t (List.mem_of_getElem? hx)
theorem Sz.setT {s:Sch} {a b:Nat} (h:Sz s a b) (i:Nat) {t:Tbl} (ht:t.cols.length≤b∧t.pk.length≤b):Sz (setT s i t) a b :=
 ⟨by show (s.tables.set i t).length≤a;rw [List.length_set];exact h.tables,fun x hx=>by
  rcases List.mem_or_eq_of_mem_set (show x∈s.tables.set i t from hx) with hx|rfl
  ·exact h.table x hx
  ·exact ht,h.fks,h.fk,h.cons⟩
theorem Sz.remap {s:Sch} {a b:Nat} (h:Sz s a b) (n:ByteArray) (g:Int→Int):Sz (remapS s n g) a b :=
 ⟨h.tables,h.table,by show (s.fks.map _).length≤a;rw [List.length_map];exact h.fks,fun f hf=>by
  obtain ⟨x,hx,rfl⟩:=List.mem_map.1 (show f∈s.fks.map (remapFK n g) from hf)
  have:=h.fk x hx
  unfold remapFK
  split
  ·simpa using this
  ·exact this,by show (s.cons.map _).length≤a;rw [List.length_map];exact h.cons⟩
theorem Sz.removeC {s:Sch} {a b:Nat} (h:Sz s a b) (i:Nat) (r:List Int):Sz (removeC s i r) a b:=by
 unfold Go.Bw.removeC
 refine (h.setT i ?_).remap _ _
 have:=h.tAt i
 exact ⟨Nat.le_trans (dropAt_len r _ 0) this.1,by simpa using this.2⟩
theorem Sz.insertT {s:Sch} {a b:Nat} (h:Sz s a b) {t:Tbl} (ht:t.cols.length≤b∧t.pk.length≤b):Sz (insertT s t) (a+1) b:=by
 have hp:=ginsS_perm cmpT 0 (s.tables.length+1) (s.tables++[t])
 refine ⟨?_,fun x hx=>?_,Nat.le_succ_of_le h.fks,h.fk,Nat.le_succ_of_le h.cons⟩
 ·show (ginsS cmpT 0 (s.tables.length+1) (s.tables++[t])).length≤a+1
  rw [hp.length_eq,List.length_append,List.length_singleton]
  exact Nat.succ_le_succ h.tables
 ·have:=hp.mem_iff.1 (show x∈ginsS cmpT 0 (s.tables.length+1) (s.tables++[t]) from hx)
  rcases List.mem_append.1 this with hx|hx
  ·exact h.table x hx
  ·rw [List.mem_singleton.1 hx];exact ht
theorem Sz.removeT {s:Sch} {a b:Nat} (h:Sz s a b) (n:ByteArray):Sz (removeT s n) a b :=
 ⟨Nat.le_trans (List.length_filter_le _ _) h.tables,fun t ht=>h.table t (List.mem_filter.1 (show t∈s.tables.filter _ from ht)).1,Nat.le_trans (List.length_filter_le _ _) h.fks,fun f hf=>h.fk f (List.mem_filter.1 (show f∈s.fks.filter _ from hf)).1,Nat.le_trans (List.length_filter_le _ _) h.cons⟩
theorem mem_cut {α:Type} {l:List α} {k:Nat} {x:α} (h:x∈l.take k++l.drop (k+1)):x∈l:=by
 rcases List.mem_append.1 h with h|h
 ·exact List.mem_of_mem_take h
 ·exact List.mem_of_mem_drop h
theorem len_cut {α:Type} (l:List α) (k:Nat):(l.take k++l.drop (k+1)).length≤l.length:=by simp;omega
theorem Sz.mapFK {s:Sch} {a b:Nat} (h:Sz s a b) (g:FK→FK) (g':Con→Con) (hg:∀f,(g f).cols.length=f.cols.length):Sz ⟨s.tables,s.fks.map g,s.cons.map g'⟩ a b :=
 ⟨h.tables,h.table,by simpa using h.fks,fun f hf=>by
  obtain ⟨x,hx,rfl⟩:=List.mem_map.1 hf
  rw [hg]
  exact h.fk x hx,by simpa using h.cons⟩
theorem Sz.tbls {s:Sch} {a b:Nat} (h:Sz s a b) {ts:List Tbl} (h1:ts.length≤a) (h2:∀t∈ts,t.cols.length≤b∧t.pk.length≤b):Sz ⟨ts,s.fks,s.cons⟩ a b:=⟨h1,h2,h.fks,h.fk,h.cons⟩
theorem Sz.addFK {s:Sch} {a b:Nat} (h:Sz s a b) {l:List FK} {l':List Con} (h1:l.length≤8) (h2:∀f∈l,f.cols.length≤b) (h3:l'.length≤8):Sz ⟨s.tables,s.fks++l,s.cons++l'⟩ (a+8) b:=by
 have:=h.tables
 have:=h.fks
 have:=h.cons
 refine ⟨by simp only;omega,h.table,by simp only [List.length_append];omega,fun f hf=>?_,by simp only [List.length_append];omega⟩
 rcases List.mem_append.1 hf with hf|hf
 ·exact h.fk f hf
 ·exact h2 f hf
theorem evApply_sz {s:Sch} {st:Stp} {R:Sch} (sm:SmallS s) (h1:st.cols.length≤17592186044416) (h2:st.newTable.cols.length≤17592186044416) (h3:st.newTable.pk.length≤17592186044416) (h4:st.fk.cols.length≤17592186044416) (h:evApply s st=.ok R):Sz R 32 17592186044448:=by
 have z:=sm.sz
 have z0:Sz s 8 17592186044448:=z.mono (Nat.le_refl _) (by decide)
 unfold evApply at h
 by_cases k0:st.kind=13
 ·rw [if_pos k0] at h
  injection h with h;subst h
  have:=z0.addFK (l:=[]) (l':=[st.con]) (by simp) (fun f hf=>by cases hf) (by simp)
  rw [List.append_nil] at this
  exact this.mono (by decide) (Nat.le_refl _)
 rw [if_neg k0] at h
 by_cases k1:st.kind=14
 ·rw [if_pos k1] at h
  unfold dropCon at h
  simp only at h
  split at h
  ·cases h
  injection h with h;subst h
  exact ⟨Nat.le_trans z0.tables (by decide),z0.table,Nat.le_trans z0.fks (by decide),z0.fk,Nat.le_trans (len_cut _ _) (Nat.le_trans z0.cons (by decide))⟩
 rw [if_neg k1] at h
 by_cases k2:st.kind=15
 ·rw [if_pos k2] at h
  injection h with h;subst h
  have:=z0.addFK (l:=[st.fk]) (l':=[]) (by simp) (fun f hf=>by rw [List.mem_singleton.1 hf];omega) (by simp)
  rw [List.append_nil] at this
  exact this.mono (by decide) (Nat.le_refl _)
 rw [if_neg k2] at h
 by_cases k3:st.kind=16
 ·rw [if_pos k3] at h
  unfold dropFK at h
  simp only at h
  split at h
  ·cases h
  injection h with h;subst h
  exact ⟨Nat.le_trans z0.tables (by decide),z0.table,Nat.le_trans (len_cut _ _) (Nat.le_trans z0.fks (by decide)),fun f hf=>z0.fk f (mem_cut hf),Nat.le_trans z0.cons (by decide)⟩
 rw [if_neg k3] at h
 by_cases k4:st.kind=10
 ·rw [if_pos k4] at h
  unfold createT at h
  split at h
  ·cases h
  injection h with h;subst h
  exact (z0.insertT ⟨by omega,by omega⟩).mono (by decide) (Nat.le_refl _)
 rw [if_neg k4] at h
 simp only at h
 by_cases k5:tblAt s.tables st.table<0
 ·rw [if_pos k5] at h
  cases h
 rw [if_neg k5] at h
 generalize (tblAt s.tables st.table).toNat=i at h
 have ta:=z.tAt i
 by_cases k6:st.kind=4
 ·rw [if_pos k6] at h
  unfold renameT at h
  simp only at h
  split at h
  ·cases h
  injection h with h;subst h
  have:=(((z0.tbls (ts:=s.tables.take i++s.tables.drop (i+1)) (Nat.le_trans (len_cut _ _) z0.tables) (fun t ht=>z0.table t (mem_cut ht))).insertT (t:={tAt s i with name:=st.newName}) ⟨by simp only;omega,by simp only;omega⟩).mapFK (fun f=>{f with table:=ren (tAt s i).name st.newName f.table,ref:=ren (tAt s i).name st.newName f.ref}) (fun c=>{c with table:=ren (tAt s i).name st.newName c.table}) fun f=>rfl)
  exact this.mono (by decide) (Nat.le_refl _)
 rw [if_neg k6] at h
 by_cases k7:st.kind=6
 ·rw [if_pos k7] at h
  unfold splitT at h
  simp only at h
  split at h
  ·cases h
  split at h
  ·cases h
  split at h
  ·cases h
  injection h with h;subst h
  have a1:=(z0.mapFK (splitFK (tAt s i) st) (splitCon (tAt s i) st) (fun f=>by unfold splitFK;split<;>simp)).removeC i st.cols
  have a2:=a1.insertT (t:=⟨st.other,((tAt s i).pk++st.cols).map fun c=>(tAt s i).cols.getD c.toNat zCol,seqI (tAt s i).pk.length⟩) ⟨by simp only [List.length_map,List.length_append];omega,by simp only [seqI_len];omega⟩
  have a3:=a2.addFK (l:=[⟨st.other,seqI (tAt s i).pk.length,(tAt s i).name⟩]) (l':=[]) (by simp) (fun f hf=>by rw [List.mem_singleton.1 hf];simp only [seqI_len];omega) (by simp)
  rw [List.append_nil] at a3
  exact a3.mono (by decide) (Nat.le_refl _)
 rw [if_neg k7] at h
 by_cases k8:st.kind=7
 ·rw [if_pos k8] at h
  unfold joinT at h
  simp only at h
  split at h
  ·cases h
  split at h
  ·cases h
  split at h
  ·cases h
  split at h
  ·cases h
  rename_i s1 hd
  split at h
  ·cases h
  injection h with h;subst h
  have zd:Sz s1 8 17592186044448:=by
   unfold dropFK at hd
   simp only at hd
   split at hd
   ·cases hd
   injection hd with hd;subst hd
   exact ⟨z0.tables,z0.table,Nat.le_trans (len_cut _ _) z0.fks,fun f hf=>z0.fk f (mem_cut hf),z0.cons⟩
  have tb:=z.tAt (tblAt s.tables st.other).toNat
  have a1:=zd.remap st.other (joinG (tAt s i))
  have a2:=a1.setT i (t:={tAt s i with cols:=(tAt s i).cols++(tAt s (tblAt s.tables st.other).toNat).cols.drop (tAt s i).pk.length}) ⟨by simp only [List.length_append,List.length_drop];omega,by simp only;omega⟩
  have a3:=(a2.tbls (Nat.le_trans (len_cut _ (tblAt s.tables st.other).toNat) a2.tables) (fun t ht=>a2.table t (mem_cut ht))).mapFK (fun f=>{f with table:=ren st.other (tAt s i).name f.table}) (fun c=>{c with table:=ren st.other (tAt s i).name c.table}) fun f=>rfl
  exact a3.mono (by decide) (Nat.le_refl _)
 rw [if_neg k8] at h
 by_cases k9:st.kind=8
 ·rw [if_pos k9] at h
  unfold partT at h
  simp only at h
  split at h
  ·cases h
  split at h
  ·cases h
  split at h
  ·cases h
  split at h
  ·cases h
  split at h
  ·cases h
  split at h
  ·cases h
  injection h with h;subst h
  have f1:((s.fks.filter fun f=>sEq f.table (tAt s i).name).map fun f=>{f with table:=st.other}).length≤8:=by rw [List.length_map];exact Nat.le_trans (List.length_filter_le _ _) z0.fks
  have f2:((s.cons.filter fun c=>sEq c.table (tAt s i).name).map fun c=>{c with table:=st.other}).length≤8:=by rw [List.length_map];exact Nat.le_trans (List.length_filter_le _ _) z0.cons
  have a1:=z0.addFK f1 (fun f hf=>by
   obtain ⟨x,hx,rfl⟩:=List.mem_map.1 hf
   exact z0.fk x (List.mem_filter.1 hx).1) f2
  exact (a1.insertT (t:={tAt s i with name:=st.other}) ⟨by simp only;omega,by simp only;omega⟩).mono (by decide) (Nat.le_refl _)
 rw [if_neg k9] at h
 by_cases k10:st.kind=9
 ·rw [if_pos k10] at h
  unfold mergeT at h
  simp only at h
  split at h
  ·cases h
  split at h
  ·cases h
  split at h
  ·cases h
  injection h with h;subst h
  exact ((z0.setT i ⟨by simp only [List.length_append,List.length_cons,List.length_nil];omega,by simp only [List.length_append,List.length_cons,List.length_nil];omega⟩).removeT _).mono (by decide) (Nat.le_refl _)
 rw [if_neg k10] at h
 by_cases k11:st.kind=11
 ·rw [if_pos k11] at h
  unfold dropT at h
  split at h
  ·cases h
  injection h with h;subst h
  exact (z0.removeT _).mono (by decide) (Nat.le_refl _)
 rw [if_neg k11] at h
 by_cases k12:st.kind=12
 ·rw [if_pos k12] at h
  unfold concatC at h
  split at h
  ·simp only at h
   split at h
   ·cases h
   split at h
   ·cases h
   split at h
   ·cases h
   split at h
   ·cases h
   injection h with h;subst h
   rename_i x y _ _ _ _ _
   have a1:=z.removeC i [x,y]
   have ta1:=a1.tAt i
   exact ((a1.mono (Nat.le_refl _) (by decide:6≤17592186044448)).setT i ⟨by simp only [List.length_append,List.length_cons,List.length_nil];omega,by simp only;omega⟩).mono (by decide) (Nat.le_refl _)
  ·cases h
 rw [if_neg k12] at h
 by_cases k13:st.kind=1
 ·rw [if_pos k13] at h
  unfold addC at h
  simp only at h
  split at h
  ·cases h
  injection h with h;subst h
  exact (z0.setT i ⟨by simp only [List.length_append,List.length_cons,List.length_nil];omega,by simp only;omega⟩).mono (by decide) (Nat.le_refl _)
 ·rw [if_neg k13] at h
  unfold alterC at h
  simp only at h
  split at h
  ·cases h
  split at h
  ·split at h
   ·cases h
   injection h with h;subst h
   exact (z0.setT i ⟨by simp only [setC,List.length_set];omega,by simp only [setC];omega⟩).mono (by decide) (Nat.le_refl _)
  split at h
  ·cases h
  split at h
  ·injection h with h;subst h
   exact (z0.setT i ⟨by simp only [setC,List.length_set];omega,by simp only [setC];omega⟩).mono (by decide) (Nat.le_refl _)
  split at h
  ·cases h
  injection h with h;subst h
  exact (z0.removeC i _).mono (by decide) (Nat.le_refl _)
theorem join_scan {t o:Tbl} {e:Int}:∀{l:List Int} {k:Nat},scan (fun j c=>if (t.cols.getD c.toNat zCol).kind≠(o.cols.getD j zCol).kind then some 9 else none) l k=some e→e≠0:=by
 intro l k h
 exact scan_ne (fun k x e he=>by
  split at he
  ·injection he with he;omega
  ·cases he) h
theorem evApply_ne {s:Sch} {st:Stp} {e:Int} (h:evApply s st=.error e):e≠0:=by
 unfold evApply at h
 by_cases k0:st.kind=13
 ·rw [if_pos k0] at h;cases h
 rw [if_neg k0] at h
 by_cases k1:st.kind=14
 ·rw [if_pos k1] at h
  unfold dropCon at h
  simp only at h
  split at h
  ·injection h with h;omega
  ·cases h
 rw [if_neg k1] at h
 by_cases k2:st.kind=15
 ·rw [if_pos k2] at h;cases h
 rw [if_neg k2] at h
 by_cases k3:st.kind=16
 ·rw [if_pos k3] at h
  unfold dropFK at h
  simp only at h
  split at h
  ·injection h with h;omega
  ·cases h
 rw [if_neg k3] at h
 by_cases k4:st.kind=10
 ·rw [if_pos k4] at h
  unfold createT at h
  split at h
  ·injection h with h;omega
  ·cases h
 rw [if_neg k4] at h
 simp only at h
 by_cases k5:tblAt s.tables st.table<0
 ·rw [if_pos k5] at h;injection h with h;omega
 rw [if_neg k5] at h
 generalize (tblAt s.tables st.table).toNat=i at h
 by_cases k6:st.kind=4
 ·rw [if_pos k6] at h
  unfold renameT at h
  simp only at h
  split at h
  ·injection h with h;omega
  ·cases h
 rw [if_neg k6] at h
 by_cases k7:st.kind=6
 ·rw [if_pos k7] at h
  unfold splitT at h
  simp only at h
  split at h
  ·rename_i q;injection h with h;omega
  split at h
  ·injection h with h;omega
  split at h
  ·injection h with h;omega
  ·cases h
 rw [if_neg k7] at h
 by_cases k8:st.kind=7
 ·rw [if_pos k8] at h
  unfold joinT at h
  simp only at h
  split at h
  ·injection h with h;omega
  split at h
  ·injection h with h;omega
  split at h
  ·rename_i q;injection h with h;subst h;exact join_scan q
  split at h
  ·injection h with h;omega
  split at h
  ·injection h with h;omega
  ·cases h
 rw [if_neg k8] at h
 by_cases k9:st.kind=8
 ·rw [if_pos k9] at h
  unfold partT at h
  simp only at h
  split at h
  ·injection h with h;omega
  split at h
  ·rename_i q;injection h with h;omega
  split at h
  ·rename_i q;injection h with h;omega
  split at h
  ·injection h with h;omega
  split at h
  ·injection h with h;omega
  split at h
  ·injection h with h;omega
  ·cases h
 rw [if_neg k9] at h
 by_cases k10:st.kind=9
 ·rw [if_pos k10] at h
  unfold mergeT at h
  simp only at h
  split at h
  ·injection h with h;omega
  split at h
  ·injection h with h;omega
  split at h
  ·rename_i q;injection h with h;omega
  ·cases h
 rw [if_neg k10] at h
 by_cases k11:st.kind=11
 ·rw [if_pos k11] at h
  unfold dropT at h
  split at h
  ·injection h with h;omega
  ·cases h
 rw [if_neg k11] at h
 by_cases k12:st.kind=12
 ·rw [if_pos k12] at h
  unfold concatC at h
  split at h
  ·simp only at h
   split at h
   ·injection h with h;omega
   split at h
   ·injection h with h;omega
   split at h
   ·rename_i q;injection h with h;omega
   split at h
   ·rename_i q;injection h with h;omega
   ·cases h
  ·injection h with h;omega
 rw [if_neg k12] at h
 by_cases k13:st.kind=1
 ·rw [if_pos k13] at h
  unfold addC at h
  simp only at h
  split at h
  ·rename_i q;injection h with h;omega
  ·cases h
 rw [if_neg k13] at h
 unfold alterC at h
 simp only at h
 split at h
 ·injection h with h;omega
 split at h
 ·split at h
  ·injection h with h;omega
  ·cases h
 split at h
 ·rename_i q;injection h with h;omega
 split at h
 ·cases h
 split at h
 ·rename_i q;injection h with h;omega
 ·cases h
def sOut:Res→Sch
 | .error _=>⟨[],[],[]⟩
 | .ok t=>t
def goS:List Sch→List Stp→ResL
 | acc,[]=>.ok acc
 | acc,st::r=>match evoE (acc.getD (acc.length - 1) zSch) st with
  | .error e=>.error e
  | .ok t=>goS (acc++[t]) r
def scrSchemas (s:Sch) (l:List Stp):ResL:=if 6<l.length then .error 2 else if schE s≠0 then .error (schE s) else goS [s] l
def scrApply (s:Sch) (l:List Stp):Res:=match scrSchemas s l with
 | .error e=>.error e
 | .ok O=>.ok (O.getD (O.length - 1) zSch)
def lOut:ResL→List Sch
 | .error _=>[]
 | .ok l=>l
theorem evoE_ok {s t:Sch} {st:Stp} (h:evoE s st=.ok t):schE t=0:=by
 unfold evoE at h
 split at h
 ·cases h
 split at h
 ·cases h
 split at h
 ·cases h
 split at h
 ·cases h
 ·rename_i q
  injection h with h
  subst h
  exact Decidable.byContradiction q
theorem evoE_ne {s:Sch} {st:Stp} {e:Int} (h:evoE s st=.error e):e≠0:=by
 unfold evoE at h
 split at h
 ·rename_i q;injection h with h;rw [←h];exact q
 split at h
 ·rename_i q;injection h with h;rw [←h];exact q
 split at h
 ·rename_i q;injection h with h;rw [←h];exact evApply_ne q
 split at h
 ·rename_i q;injection h with h;rw [←h];exact q
 ·cases h
theorem Small.fits {s:Sch} (h:Small s):s.Fits :=
 ⟨by have:=h.tables;omega,fun t ht=>by have:=h.table t ht;omega,by have:=h.fks;omega,fun f hf=>by have:=h.fk f hf;omega,by have:=h.cons;omega⟩
theorem goS_ok:∀{l:List Stp} {acc O:List Sch},(∀x∈acc,schE x=0)→goS acc l=.ok O→(∀x∈O,schE x=0)∧O.length=acc.length+l.length
 | [],acc,O,ha,h=>by injection h with h;subst h;exact ⟨ha,by simp⟩
 | st::r,acc,O,ha,h=>by
  rw [goS] at h
  split at h
  ·cases h
  ·rename_i t q
   obtain ⟨h1,h2⟩:=goS_ok (fun x hx=>by
    rcases List.mem_append.1 hx with hx|hx
    ·exact ha x hx
    ·rw [List.mem_singleton.1 hx];exact evoE_ok q) h
   exact ⟨h1,by rw [h2];simp;omega⟩
theorem goS_ne:∀{l:List Stp} {acc:List Sch} {e:Int},goS acc l=.error e→e≠0
 | [],acc,e,h=>by cases h
 | st::r,acc,e,h=>by
  rw [goS] at h
  split at h
  ·rename_i q;injection h with h;rw [←h];exact evoE_ne q
  ·exact goS_ne h
theorem schClone_sat (s:Sch) (h:Small s):Sat Tryz.prog 28 [.agg (eSch s)] (.v (.agg (eSch s))):=by
 have cl:=schClone_own s (by have:=h.tables;omega) (by have:=h.fks;omega) (by have:=h.cons;omega) (fun t ht=>by have:=h.table t ht;omega) (fun f hf=>by have:=h.fk f hf;omega)
 refine cl.frz (by
  simp -dsimp (disch:=first|exact D|fail) only [go_sem,↓reduceIte,seval,topL_ref,St.rest,roots,dropL_nil,eSch,frz_eTblO,frz_eFKO]
  )
theorem scrSchemas_ok {s:Sch} {l:List Stp} {O:List Sch} (h:scrSchemas s l=.ok O):(∀x∈O,schE x=0)∧O.length=1+l.length:=by
 unfold scrSchemas at h
 split at h
 ·cases h
 split at h
 ·cases h
 rename_i q
 have q:schE s=0:=Decidable.byContradiction q
 exact goS_ok (fun x hx=>by rw [List.mem_singleton.1 hx];exact q) h
theorem scrSchemas_ne {s:Sch} {l:List Stp} {e:Int} (h:scrSchemas s l=.error e):e≠0:=by
 unfold scrSchemas at h
 split at h
 ·injection h with h;omega
 split at h
 ·rename_i q;injection h with h;rw [←h];exact q
 ·exact goS_ne h
theorem scrApply_ok {s u:Sch} {l:List Stp} (h:scrApply s l=.ok u):schE u=0:=by
 unfold scrApply at h
 split at h
 ·cases h
 ·rename_i O q
  obtain ⟨h1,h2⟩:=scrSchemas_ok q
  injection h with h
  rw [getD_lt _ (by omega)] at h
  rw [←h]
  exact h1 _ (List.getElem_mem _)
theorem scrApply_ne {s:Sch} {l:List Stp} {e:Int} (h:scrApply s l=.error e):e≠0:=by
 unfold scrApply at h
 split at h
 ·rename_i q;injection h with h;rw [←h];exact scrSchemas_ne q
 ·cases h
def goL (s:Sch):List Stp→Res
 | []=>.ok s
 | st::r=>match evoE s st with
  | .error e=>.error e
  | .ok t=>goL t r
def lastS (O:List Sch):Sch:=O.getD (O.length - 1) zSch
theorem lastS_snoc (acc:List Sch) (u:Sch):lastS (acc++[u])=u:=by
 unfold lastS
 rw [List.length_append,List.length_singleton,Nat.add_sub_cancel,List.getD_eq_getElem?_getD,List.getElem?_append_right (Nat.le_refl _)]
 simp
def okLast (x:ResL):Res:=match x with
 | .error e=>.error e
 | .ok O=>.ok (lastS O)
theorem goS_last:∀(l:List Stp) (acc:List Sch) (u:Sch),okLast (goS (acc++[u]) l)=goL u l
 | [],acc,u=>by rw [goS,goL,okLast,lastS_snoc]
 | st::r,acc,u=>by
  have h:(acc++[u]).getD ((acc++[u]).length - 1) zSch=u:=lastS_snoc acc u
  rw [goS,goL,h]
  cases evoE u st with
  | error e=>rfl
  | ok t=>exact goS_last r (acc++[u]) t
theorem scrApply_eq (s:Sch) (l:List Stp):scrApply s l=if 6<l.length then .error 2 else if schE s≠0 then .error (schE s) else goL s l:=by
 have h:scrApply s l=okLast (scrSchemas s l):=by
  unfold scrApply okLast lastS
  cases scrSchemas s l<;>rfl
 rw [h]
 unfold scrSchemas
 by_cases h1:6<l.length
 ·rw [if_pos h1,if_pos h1];rfl
 ·rw [if_neg h1,if_neg h1]
  by_cases h2:schE s≠0
  ·rw [if_pos h2,if_pos h2];rfl
  ·rw [if_neg h2,if_neg h2]
   exact goS_last l [] s
theorem goL_ok:∀{l:List Stp} {s u:Sch},schE s=0→goL s l=.ok u→schE u=0
 | [],s,u,h,e=>by rw [goL] at e;injection e with e;rw [←e];exact h
 | st::r,s,u,h,e=>by
  rw [goL] at e
  cases hv:evoE s st with
  | error q=>rw [hv] at e;cases e
  | ok t=>rw [hv] at e;exact goL_ok (evoE_ok hv) e
def vw (ts:List Tbl) (n:ByteArray):Option Tbl:=ts.find? fun t=>sEq t.name n
theorem name_inj {ts:List Tbl} (hs:ts.Pairwise LtT) {a b:Tbl} (ha:a∈ts) (hb:b∈ts) (h:a.name=b.name):a=b:=by
 obtain ⟨i,hi,rfl⟩:=List.mem_iff_getElem.1 ha
 obtain ⟨j,hj,rfl⟩:=List.mem_iff_getElem.1 hb
 have h1:=tblAt_at hs hi
 rw [h,tblAt_at hs hj] at h1
 have:i=j:=by omega
 subst this
 rfl
theorem vw_some {ts:List Tbl} (hs:ts.Pairwise LtT) {n:ByteArray} {t:Tbl}:vw ts n=some t↔t∈ts∧t.name=n:=by
 unfold vw
 constructor
 ·intro h
  exact ⟨List.mem_of_find?_eq_some h,sEq_iff.1 (by have:=List.find?_some h;exact this)⟩
 ·rintro ⟨h1,h2⟩
  cases hf:ts.find? fun t=>sEq t.name n with
  | none =>
   have:=List.find?_eq_none.1 hf t h1
   rw [h2,sEq_refl] at this
   exact absurd rfl this
  | some u =>
   have h3:=List.mem_of_find?_eq_some hf
   have h4:sEq u.name n=true:=by have:=List.find?_some hf;exact this
   rw [name_inj hs h3 h1 (by rw [sEq_iff.1 h4,h2])]
theorem sorted_ext:∀{a b:List Tbl},a.Pairwise LtT→b.Pairwise LtT→(∀t,t∈a↔t∈b)→a=b
 | [],[],_,_,_=>rfl
 | [],y::r,_,_,h=>by have:=(h y).2 (List.mem_cons_self ..);cases this
 | x::q,[],_,_,h=>by have:=(h x).1 (List.mem_cons_self ..);cases this
 | x::q,y::r,ha,hb,h=>by
  have ha':=List.pairwise_cons.1 ha
  have hb':=List.pairwise_cons.1 hb
  have irr:∀t:Tbl,¬ LtT t t:=fun t h=>h.ne rfl
  have e:x=y:=by
   rcases List.mem_cons.1 ((h x).1 (List.mem_cons_self ..)) with e|h1
   ·exact e
   rcases List.mem_cons.1 ((h y).2 (List.mem_cons_self ..)) with e|h2
   ·exact e.symm
   exact absurd (LtT.trans (hb'.1 x h1) (ha'.1 y h2)) (irr y)
  subst e
  congr 1
  refine sorted_ext ha'.2 hb'.2 fun t=>⟨fun ht=>?_,fun ht=>?_⟩
  ·rcases List.mem_cons.1 ((h t).1 (List.mem_cons_of_mem _ ht)) with e|h1
   ·subst e;exact absurd (ha'.1 t ht) (irr t)
   ·exact h1
  ·rcases List.mem_cons.1 ((h t).2 (List.mem_cons_of_mem _ ht)) with e|h1
   ·subst e;exact absurd (hb'.1 t ht) (irr t)
   ·exact h1
theorem vw_ext {a b:List Tbl} (ha:a.Pairwise LtT) (hb:b.Pairwise LtT) (h:∀n,vw a n=vw b n):a=b :=
 sorted_ext ha hb fun t=>by
  constructor
  ·intro ht
   have:=(vw_some ha).2 ⟨ht,rfl⟩
   rw [h] at this
   exact ((vw_some hb).1 this).1
  ·intro ht
   have:=(vw_some hb).2 ⟨ht,rfl⟩
   rw [←h] at this
   exact ((vw_some ha).1 this).1
theorem vw_none {ts:List Tbl} {n:ByteArray} (h:∀t∈ts,t.name≠n):vw ts n=none:=by
 unfold vw
 exact List.find?_eq_none.2 fun t ht=>by simp [sEq_ne (h t ht)]
theorem vw_append {a b:List Tbl} {n:ByteArray}:vw (a++b) n=(vw a n).or (vw b n):=by
 unfold vw
 rw [List.find?_append]
theorem vw_cons {t:Tbl} {b:List Tbl} {n:ByteArray}:vw (t::b) n=if t.name=n then some t else vw b n:=by
 unfold vw
 rw [List.find?_cons]
 by_cases h:t.name=n
 ·rw [sEq_iff.2 h,if_pos h]
 ·rw [sEq_ne h,if_neg h]
theorem vw_insert {A B:List Tbl} {t:Tbl} (hn:∀x∈A++B,x.name≠t.name) (n:ByteArray):vw (A++t::B) n=if t.name=n then some t else vw (A++B) n:=by
 rw [vw_append,vw_cons,vw_append]
 by_cases h:t.name=n
 ·rw [if_pos h,if_pos h,vw_none fun x hx=>h▸hn x (by simp [hx])]
  rfl
 ·rw [if_neg h,if_neg h]
theorem vw_set {ts:List Tbl} (hs:ts.Pairwise LtT) {i:Nat} (hi:i<ts.length) {t:Tbl} (h:t.name=ts[i].name) (n:ByteArray):vw (ts.set i t) n=if t.name=n then some t else vw ts n:=by
 have e1:=cut_split hi
 have e2:ts.set i t=ts.take i++t::ts.drop (i+1):=by
  rw [List.set_eq_take_append_cons_drop,if_pos hi]
 have hcut:∀x∈ts.take i++ts.drop (i+1),x.name≠ts[i].name:=fun x hx e=>by
  obtain ⟨j,hj,hji,rfl⟩:=cut_mem hx
  have:=tblAt_at hs hj
  rw [e,tblAt_at hs hi] at this
  omega
 rw [e2,vw_insert (fun x hx=>by rw [h];exact hcut x hx)]
 by_cases hn:t.name=n
 ·rw [if_pos hn,if_pos hn]
 ·rw [if_neg hn,if_neg hn]
  conv=>rhs;rw [e1]
  rw [vw_insert hcut,if_neg (by rw [←h];exact hn)]
abbrev View:=ByteArray→Option Tbl
def upd1 (L:View) (n:ByteArray) (x:Option Tbl):View:=fun m=>if m=n then x else L m
def addCol (T:Tbl) (st:Stp):Tbl:={T with cols:=T.cols++[⟨st.column,st.typ,st.value.kind==0⟩]}
def dropCols (T:Tbl) (R:List Int):Tbl:={T with cols:=dropAt R T.cols 0,pk:=T.pk.map (shiftI R)}
def altCol (T:Tbl) (st:Stp):Tbl :=
 let k:=colAt T.cols st.column
 let c:=T.cols.getD k.toNat zCol
 if st.kind=3 then setC T k.toNat {c with name:=st.newName} else if st.kind=5 then setC T k.toNat {c with kind:=st.typ} else dropCols T [k]
def concT (T:Tbl) (st:Stp):Tbl:=match st.cols with
 | [a,b]=>{dropCols T [a,b] with cols:=(dropCols T [a,b]).cols++[⟨st.column,3,(T.cols.getD a.toNat zCol).nullable&&(T.cols.getD b.toNat zCol).nullable⟩]}
 | _=>T
def splitO (T:Tbl) (st:Stp):Tbl:=⟨st.other,(T.pk++st.cols).map fun c=>T.cols.getD c.toNat zCol,seqI T.pk.length⟩
def stepV (st:Stp) (L:View):View :=
 if st.kind=13∨st.kind=14∨st.kind=15∨st.kind=16 then L
 else if st.kind=10 then upd1 L st.newTable.name (some st.newTable)
 else match L st.table with
  | none=>L
  | some T =>
   if st.kind=4 then upd1 (upd1 L st.table none) st.newName (some {T with name:=st.newName})
   else if st.kind=6 then upd1 (upd1 L st.table (some (dropCols T st.cols))) st.other (some (splitO T st))
   else if st.kind=7 then (match L st.other with
    | none=>L
    | some o=>upd1 (upd1 L st.table (some {T with cols:=T.cols++o.cols.drop T.pk.length})) st.other none)
   else if st.kind=8 then upd1 L st.other (some {T with name:=st.other})
   else if st.kind=9 then upd1 (upd1 L st.table (some ⟨T.name,T.cols++[⟨st.column,2,false⟩],T.pk++[(T.cols.length:Int)]⟩)) st.other none
   else if st.kind=11 then upd1 L st.table none
   else if st.kind=12 then upd1 L st.table (some (concT T st))
   else if st.kind=1 then upd1 L st.table (some (addCol T st))
   else upd1 L st.table (some (altCol T st))
theorem vw_at {ts:List Tbl} (hs:ts.Pairwise LtT) {n:ByteArray} {i:Nat} (hi:i<ts.length) (h:tblAt ts n=(i:Int)):vw ts n=some ts[i]:=by
 obtain ⟨j,hj,e,hn⟩:=tblAt_some (ts:=ts) (n:=n) (by omega)
 have:j=i:=by omega
 subst this
 exact (vw_some hs).2 ⟨List.getElem_mem hj,hn⟩
theorem vw_setT {s:Sch} (h:schE s=0) {n:ByteArray} {i:Nat} (hi:i<s.tables.length) (e:tblAt s.tables n=(i:Int)) {t:Tbl} (ht:t.name=n):vw (setT s i t).tables=upd1 (vw s.tables) n (some t):=by
 funext m
 unfold setT upd1
 rw [vw_set (sorted_of h) hi (by rw [ht,name_at hi e]),ht]
 by_cases q:m=n
 ·subst q;simp
 ·rw [if_neg (fun z=>q z.symm),if_neg q]
theorem vw_insertT {s:Sch} (h:s.tables.Pairwise LtT) {t:Tbl} (hn:∀x∈s.tables,x.name≠t.name):vw (insertT s t).tables=upd1 (vw s.tables) t.name (some t):=by
 obtain ⟨A,B,hAB,hp⟩:=place h t hn
 rw [insertT_eq hAB hp]
 funext m
 unfold upd1
 simp only
 rw [vw_insert (by rw [←hAB];exact hn),←hAB]
 by_cases q:m=t.name
 ·subst q;simp
 ·rw [if_neg (fun z=>q z.symm),if_neg q]
theorem vw_filter {ts:List Tbl} {n:ByteArray}:vw (ts.filter fun t=>!sEq t.name n)=upd1 (vw ts) n none:=by
 funext m
 unfold upd1
 induction ts with
 | nil=>simp [vw]
 | cons x r ih =>
  rw [List.filter_cons]
  by_cases hx:x.name=n
  ·rw [if_neg (by rw [sEq_iff.2 hx];decide),ih,vw_cons]
   by_cases q:m=n
   ·rw [if_pos q,if_pos q]
   ·rw [if_neg q,if_neg q,if_neg fun z=>q (z.symm.trans hx)]
  ·rw [if_pos (by rw [sEq_ne hx];rfl),vw_cons,ih,vw_cons]
   by_cases q:m=n
   ·rw [if_pos q,if_pos q]
    subst q
    rw [if_neg hx]
   ·rw [if_neg q,if_neg q]
theorem vw_remove {s:Sch} {n:ByteArray}:vw (removeT s n).tables=upd1 (vw s.tables) n none:=vw_filter
theorem remap_tables (s:Sch) (n:ByteArray) (g:Int→Int):(remapS s n g).tables=s.tables:=rfl
theorem removeC_tables {s:Sch} {i:Nat} {T:Tbl} (hT:tAt s i=T) (R:List Int):(removeC s i R).tables=(setT s i (dropCols T R)).tables:=by
 unfold removeC
 rw [hT]
 rfl
theorem step_view1 {s t:Sch} {st:Stp} (h:evoE s st=.ok t) (hk:st.kind=1∨st.kind=2∨st.kind=3∨st.kind=5∨st.kind=12):vw t.tables=stepV st (vw s.tables):=by
 obtain ⟨h1,_,h3,h4⟩:=evoE_parts h
 unfold evApply at h3
 rw [if_neg (by omega),if_neg (by omega),if_neg (by omega),if_neg (by omega),if_neg (by omega)] at h3
 simp only at h3
 split at h3
 ·cases h3
 rename_i hk0
 rw [if_neg (by omega),if_neg (by omega),if_neg (by omega),if_neg (by omega),if_neg (by omega),if_neg (by omega)] at h3
 obtain ⟨i,hi,ei,ni⟩:=tblAt_some hk0
 rw [ei,Int.toNat_natCast] at h3
 have hv:=vw_at (sorted_of h1) hi ei
 obtain ⟨T,hT⟩:∃T,s.tables[i]=T:=⟨_,rfl⟩
 rw [hT] at hv ni
 have ta:tAt s i=T:=by rw [tAt_lt hi,hT]
 unfold stepV
 rw [if_neg (by omega),if_neg (by omega),hv]
 simp only
 rw [if_neg (by omega),if_neg (by omega),if_neg (by omega),if_neg (by omega),if_neg (by omega),if_neg (by omega)]
 by_cases k12:st.kind=12
 ·rw [if_pos k12] at h3 ⊢
  unfold concatC at h3
  split at h3
  ·rename_i a b hab
   simp only at h3
   rw [ta] at h3
   split at h3
   ·cases h3
   split at h3
   ·cases h3
   split at h3
   ·cases h3
   split at h3
   ·cases h3
   injection h3 with h3
   subst h3
   have e1:tAt (removeC s i [a,b]) i=dropCols T [a,b]:=by
    unfold tAt
    rw [removeC_tables ta]
    exact tAt_set hi _
   rw [e1]
   have e2:(setT (removeC s i [a,b]) i {dropCols T [a,b] with cols:=(dropCols T [a,b]).cols++[⟨st.column,3,(T.cols.getD a.toNat zCol).nullable&&(T.cols.getD b.toNat zCol).nullable⟩]}).tables=(setT s i (concT T st)).tables:=by
    unfold setT concT
    rw [hab]
    simp only
    rw [removeC_tables ta]
    unfold setT
    simp
   rw [e2]
   exact vw_setT h1 hi ei (by unfold concT;rw [hab];exact ni)
  ·cases h3
 rw [if_neg k12] at h3 ⊢
 by_cases k1:st.kind=1
 ·rw [if_pos k1] at h3 ⊢
  unfold addC at h3
  simp only at h3
  split at h3
  ·cases h3
  injection h3 with h3
  subst h3
  rw [ta]
  exact vw_setT h1 hi ei ni
 rw [if_neg k1] at h3 ⊢
 unfold alterC at h3
 simp only at h3
 rw [ta] at h3
 split at h3
 ·cases h3
 by_cases k3:st.kind=3
 ·rw [if_pos k3] at h3
  split at h3
  ·cases h3
  injection h3 with h3
  subst h3
  have:altCol T st=setC T (colAt T.cols st.column).toNat {T.cols.getD (colAt T.cols st.column).toNat zCol with name:=st.newName}:=by unfold altCol;simp only;rw [if_pos k3]
  rw [this]
  exact vw_setT h1 hi ei ni
 rw [if_neg k3] at h3
 split at h3
 ·cases h3
 by_cases k5:st.kind=5
 ·rw [if_pos k5] at h3
  injection h3 with h3
  subst h3
  have:altCol T st=setC T (colAt T.cols st.column).toNat {T.cols.getD (colAt T.cols st.column).toNat zCol with kind:=st.typ}:=by unfold altCol;simp only;rw [if_neg k3,if_pos k5]
  rw [this]
  exact vw_setT h1 hi ei ni
 rw [if_neg k5] at h3
 split at h3
 ·cases h3
 injection h3 with h3
 subst h3
 have:altCol T st=dropCols T [colAt T.cols st.column]:=by unfold altCol;simp only;rw [if_neg k3,if_neg k5]
 rw [this,removeC_tables ta]
 exact vw_setT h1 hi ei ni
theorem vw_cut {ts:List Tbl} (hs:ts.Pairwise LtT) {i:Nat} (hi:i<ts.length) {n:ByteArray} (hn:ts[i].name=n):vw (ts.take i++ts.drop (i+1))=upd1 (vw ts) n none:=by
 have hcut:∀x∈ts.take i++ts.drop (i+1),x.name≠ts[i].name:=fun x hx e=>by
  obtain ⟨j,hj,hji,rfl⟩:=cut_mem hx
  have:=tblAt_at hs hj
  rw [e,tblAt_at hs hi] at this
  omega
 funext m
 unfold upd1
 by_cases q:m=n
 ·rw [if_pos q]
  subst q
  exact vw_none fun x hx=>hn▸hcut x hx
 ·rw [if_neg q]
  conv=>rhs;rw [cut_split hi]
  rw [vw_insert hcut,if_neg fun z=>q (z.symm.trans hn)]
theorem sorted_cut {ts:List Tbl} (hs:ts.Pairwise LtT) {i:Nat} (hi:i<ts.length):(ts.take i++ts.drop (i+1)).Pairwise LtT:=by
 have e:=cut_split hi
 rw [e] at hs
 have hp:=List.pairwise_append.1 hs
 exact List.pairwise_append.2 ⟨hp.1,(List.pairwise_cons.1 hp.2.1).2,fun a ha b hb=>hp.2.2 a ha b (List.mem_cons_of_mem _ hb)⟩
theorem sorted_set {ts:List Tbl} (hs:ts.Pairwise LtT) {i:Nat} (hi:i<ts.length) {t:Tbl} (h:t.name=ts[i].name):(ts.set i t).Pairwise LtT:=by
 have q1:(ts.map Tbl.name).Pairwise fun a b=>cmpS a b<0:=List.pairwise_map.2 hs
 rw [←set_names hi h] at q1
 exact (List.pairwise_map (f:=Tbl.name) (R:=fun a b=>cmpS a b<0)).1 q1
theorem dropFK_tables {s s1:Sch} {f:FK} (h:dropFK s f=.ok s1):s1.tables=s.tables:=by
 unfold dropFK at h
 simp only at h
 split at h
 ·cases h
 ·injection h with h;rw [←h]
theorem dropCon_tables {s s1:Sch} {c:Con} (h:dropCon s c=.ok s1):s1.tables=s.tables:=by
 unfold dropCon at h
 simp only at h
 split at h
 ·cases h
 ·injection h with h;rw [←h]
theorem step_view0 {s t:Sch} {st:Stp} (h:evoE s st=.ok t) (hk:st.kind=13∨st.kind=14∨st.kind=15∨st.kind=16∨st.kind=10):vw t.tables=stepV st (vw s.tables):=by
 obtain ⟨h1,_,h3,h4⟩:=evoE_parts h
 unfold evApply at h3
 unfold stepV
 by_cases k1:st.kind=13
 ·rw [if_pos k1] at h3
  rw [if_pos (by omega)]
  injection h3 with h3
  rw [←h3]
 rw [if_neg k1] at h3
 by_cases k2:st.kind=14
 ·rw [if_pos k2] at h3
  rw [if_pos (by omega),dropCon_tables h3]
 rw [if_neg k2] at h3
 by_cases k3:st.kind=15
 ·rw [if_pos k3] at h3
  rw [if_pos (by omega)]
  injection h3 with h3
  rw [←h3]
 rw [if_neg k3] at h3
 by_cases k4:st.kind=16
 ·rw [if_pos k4] at h3
  rw [if_pos (by omega),dropFK_tables h3]
 rw [if_neg k4,if_pos (by omega)] at h3
 rw [if_neg (by omega),if_pos (by omega)]
 unfold createT at h3
 split at h3
 ·cases h3
 rename_i hn
 injection h3 with h3
 rw [←h3]
 exact vw_insertT (sorted_of h1) (tblAt_none.1 hn)
theorem step_view2 {s t:Sch} {st:Stp} (h:evoE s st=.ok t) (hk:st.kind=4∨st.kind=6∨st.kind=7∨st.kind=8∨st.kind=9∨st.kind=11):vw t.tables=stepV st (vw s.tables):=by
 obtain ⟨h1,_,h3,h4⟩:=evoE_parts h
 have so:=sorted_of h1
 unfold evApply at h3
 rw [if_neg (by omega),if_neg (by omega),if_neg (by omega),if_neg (by omega),if_neg (by omega)] at h3
 simp only at h3
 split at h3
 ·cases h3
 rename_i hk0
 obtain ⟨i,hi,ei,ni⟩:=tblAt_some hk0
 rw [ei,Int.toNat_natCast] at h3
 have hv:=vw_at so hi ei
 obtain ⟨T,hT⟩:∃T,s.tables[i]=T:=⟨_,rfl⟩
 rw [hT] at hv ni
 have ta:tAt s i=T:=by rw [tAt_lt hi,hT]
 unfold stepV
 rw [if_neg (by omega),if_neg (by omega),hv]
 simp only
 by_cases k4:st.kind=4
 ·rw [if_pos k4] at h3 ⊢
  unfold renameT at h3
  split at h3
  ·cases h3
  rename_i hn
  simp only at h3
  injection h3 with h3
  rw [←h3,ta]
  simp only
  have hnm:=tblAt_none.1 hn
  rw [vw_insertT (s:={s with tables:=s.tables.take i++s.tables.drop (i+1)}) (sorted_cut so hi) (fun x hx=>by
   obtain ⟨j,hj,_,rfl⟩:=cut_mem hx
   exact hnm _ (List.getElem_mem hj))]
  simp only
  rw [vw_cut so hi (by rw [hT,ni])]
 rw [if_neg k4] at h3 ⊢
 by_cases k6:st.kind=6
 ·rw [if_pos k6] at h3 ⊢
  unfold splitT at h3
  simp only at h3
  rw [ta] at h3
  split at h3
  ·cases h3
  rename_i hE
  obtain ⟨_,_,hoth⟩:=splitE_zero (Decidable.byContradiction hE)
  split at h3
  ·cases h3
  split at h3
  ·cases h3
  injection h3 with h3
  rw [←h3]
  simp only
  have tb:(removeC ⟨s.tables,s.fks.map (splitFK T st),s.cons.map (splitCon T st)⟩ i st.cols).tables=(setT s i (dropCols T st.cols)).tables:=by
   exact (removeC_tables (s:=⟨s.tables,s.fks.map (splitFK T st),s.cons.map (splitCon T st)⟩) (T:=T) (show s.tables.getD i zTbl=T from (getD_lt _ hi).trans hT) st.cols).trans rfl
  have ts:(setT s i (dropCols T st.cols)).tables.Pairwise LtT:=sorted_set so hi (by rw [hT];rfl)
  have tn:∀x∈(setT s i (dropCols T st.cols)).tables,x.name≠st.other:=fun x hx e=>by
   have hx':x.name∈s.tables.map Tbl.name:=by
    have q:x.name∈(s.tables.set i (dropCols T st.cols)).map Tbl.name:=List.mem_map.2 ⟨x,hx,rfl⟩
    rw [set_names hi (by rw [hT];rfl)] at q
    exact q
   obtain ⟨y,hy,ey⟩:=List.mem_map.1 hx'
   exact hoth y hy (ey.trans e)
  rw [vw_insertT (by rw [tb];exact ts) (by rw [tb];exact tn),tb,vw_setT h1 hi ei (by exact ni)]
  rfl
 rw [if_neg k6] at h3 ⊢
 by_cases k7:st.kind=7
 ·rw [if_pos k7] at h3 ⊢
  unfold joinT at h3
  simp only at h3
  split at h3
  ·cases h3
  rename_i hk2
  obtain ⟨k,hkl,ek,nk⟩:=tblAt_some hk2
  rw [ek,Int.toNat_natCast] at h3
  have hv2:=vw_at so hkl ek
  rw [hv2]
  simp only
  obtain ⟨o,ho⟩:∃o,s.tables[k]=o:=⟨_,rfl⟩
  have tk:tAt s k=o:=by rw [tAt_lt hkl,ho]
  rw [ta,tk] at h3
  split at h3
  ·cases h3
  rename_i hne
  split at h3
  ·cases h3
  split at h3
  ·cases h3
  rename_i s1 hs1
  split at h3
  ·cases h3
  injection h3 with h3
  rw [←h3,ho]
  simp only
  have e1:(remapS s1 st.other (joinG T)).tables=s.tables:=(remap_tables _ _ _).trans (dropFK_tables hs1)
  rw [e1]
  have nT:({T with cols:=T.cols++o.cols.drop T.pk.length}:Tbl).name=s.tables[i].name:=by rw [hT]
  have hset:=sorted_set so hi nT
  have hik:i≠k:=fun e=>hne (.inl (by omega))
  have:=vw_cut hset (i:=k) (by simpa using hkl) (n:=st.other) (by rw [List.getElem_set_ne hik,nk])
  rw [this]
  have:=vw_setT h1 hi ei (t:={T with cols:=T.cols++o.cols.drop T.pk.length}) ni
  unfold setT at this
  rw [this]
 rw [if_neg k7] at h3 ⊢
 by_cases k8:st.kind=8
 ·rw [if_pos k8] at h3 ⊢
  unfold partT at h3
  simp only at h3
  rw [ta] at h3
  split at h3
  ·cases h3
  split at h3
  ·cases h3
  split at h3
  ·cases h3
  split at h3
  ·cases h3
  split at h3
  ·cases h3
  rename_i hn
  split at h3
  ·cases h3
  injection h3 with h3
  rw [←h3]
  exact vw_insertT (s:=⟨s.tables,_,_⟩) so (tblAt_none.1 hn)
 rw [if_neg k8] at h3 ⊢
 by_cases k9:st.kind=9
 ·rw [if_pos k9] at h3 ⊢
  unfold mergeT at h3
  simp only at h3
  split at h3
  ·cases h3
  rename_i hk2
  obtain ⟨k,hkl,ek,nk⟩:=tblAt_some hk2
  rw [ek,Int.toNat_natCast,ta,tAt_lt hkl,nk] at h3
  split at h3
  ·cases h3
  split at h3
  ·cases h3
  injection h3 with h3
  rw [←h3,vw_remove,vw_setT h1 hi ei (t:=⟨T.name,T.cols++[(⟨st.column,2,false⟩:Col)],T.pk++[(T.cols.length:Int)]⟩) ni]
 rw [if_neg k9] at h3 ⊢
 have k11:st.kind=11:=by omega
 rw [if_pos k11] at h3 ⊢
 unfold dropT at h3
 split at h3
 ·cases h3
 injection h3 with h3
 rw [←h3,vw_remove]
theorem step_view {s t:Sch} {st:Stp} (h:evoE s st=.ok t):vw t.tables=stepV st (vw s.tables):=by
 obtain ⟨_,hv,_,_⟩:=evoE_parts h
 have hk:1≤st.kind∧st.kind≤16:=by
  unfold evValE at hv
  split at hv
  ·cases hv
  ·omega
 by_cases h0:st.kind=13∨st.kind=14∨st.kind=15∨st.kind=16∨st.kind=10
 ·exact step_view0 h h0
 by_cases h1:st.kind=1∨st.kind=2∨st.kind=3∨st.kind=5∨st.kind=12
 ·exact step_view1 h h1
 exact step_view2 h (by omega)
def namesOf (st:Stp):List ByteArray:=[if st.kind=10 then st.newTable.name else st.table,st.other,st.con.table,st.fk.table,st.fk.ref]++(if st.kind=4 then [st.newName] else [])
theorem stepV_out {st:Stp} {L:View} {n:ByteArray} (h:n ∉ namesOf st):stepV st L n=L n:=by
 have h2:n≠st.other:=fun e=>h (by unfold namesOf;simp [e])
 unfold stepV
 by_cases k0:st.kind=13∨st.kind=14∨st.kind=15∨st.kind=16
 ·rw [if_pos k0]
 rw [if_neg k0]
 by_cases k10:st.kind=10
 ·rw [if_pos k10]
  have h1:n≠st.newTable.name:=fun e=>h (by unfold namesOf;simp [e,k10])
  unfold upd1
  rw [if_neg h1]
 rw [if_neg k10]
 have h1:n≠st.table:=fun e=>h (by unfold namesOf;simp [e,k10])
 cases hL:L st.table with
 | none=>rfl
 | some T =>
  simp only
  by_cases k4:st.kind=4
  ·rw [if_pos k4]
   have h3:n≠st.newName:=fun e=>h (by unfold namesOf;simp [e,k4])
   unfold upd1
   rw [if_neg h3,if_neg h1]
  rw [if_neg k4]
  cases hO:L st.other<;>(repeat' split)<;>first|rfl|(simp [upd1,h1,h2];done)
theorem stepV_in {st:Stp} {L L':View} (h:∀n∈namesOf st,L n=L' n) {n:ByteArray} (hn:n∈namesOf st):stepV st L n=stepV st L' n:=by
 have e0:=h n hn
 have h2:L st.other=L' st.other:=h _ (by unfold namesOf;simp)
 unfold stepV
 by_cases k0:st.kind=13∨st.kind=14∨st.kind=15∨st.kind=16
 ·rw [if_pos k0,if_pos k0];exact e0
 rw [if_neg k0,if_neg k0]
 by_cases k10:st.kind=10
 ·rw [if_pos k10,if_pos k10]
  unfold upd1
  split
  ·rfl
  ·exact e0
 rw [if_neg k10,if_neg k10]
 have h1:L st.table=L' st.table:=h _ (by unfold namesOf;simp [k10])
 rw [←h1,←h2]
 have up:∀{A B:View} (m:ByteArray) (x:Option Tbl),A n=B n→upd1 A m x n=upd1 B m x n:=fun m x q=>by
  unfold upd1
  split
  ·rfl
  ·exact q
 cases hL:L st.table with
 | none=>exact e0
 | some T =>
  simp only
  cases hO:L st.other<;>(repeat' split)<;>first|exact e0|exact up _ _ e0|exact up _ _ (up _ _ e0)
def goV:List Stp→View→View
 | [],L=>L
 | st::r,L=>goV r (stepV st L)
theorem goL_view:∀{l:List Stp} {s u:Sch},goL s l=.ok u→vw u.tables=goV l (vw s.tables)
 | [],s,u,h=>by rw [goL] at h;injection h with h;rw [h];rfl
 | st::r,s,u,h=>by
  rw [goL] at h
  cases hv:evoE s st with
  | error e=>rw [hv] at h;cases h
  | ok t =>
   rw [hv] at h
   rw [goV,←step_view hv]
   exact goL_view h
theorem stepV_agree {st:Stp} {L L':View} (S:ByteArray→Prop) (hS:∀n∈namesOf st,S n) (h:∀n,S n→L n=L' n):∀n,S n→stepV st L n=stepV st L' n:=fun n hn=>by
 by_cases q:n∈namesOf st
 ·exact stepV_in (fun m hm=>h m (hS m hm)) q
 ·rw [stepV_out q,stepV_out q]
  exact h n hn
theorem goV_agree (S:ByteArray→Prop):∀{l:List Stp} {L L':View},(∀st∈l,∀n∈namesOf st,S n)→(∀n,S n→L n=L' n)→∀n,S n→goV l L n=goV l L' n
 | [],_,_,_,h=>h
 | st::r,_,_,hS,h=>goV_agree S (l:=r) (fun x hx=>hS x (List.mem_cons_of_mem _ hx)) (stepV_agree S (hS st (List.mem_cons_self ..)) h)
theorem goV_out:∀{l:List Stp} {L:View} {n:ByteArray},(∀st∈l,n ∉ namesOf st)→goV l L n=L n
 | [],_,_,_=>rfl
 | st::r,L,n,h=>by
  rw [goV,goV_out fun x hx=>h x (List.mem_cons_of_mem _ hx),stepV_out (h st (List.mem_cons_self ..))]
def goG:List Sch→List Edg→ResL
 | acc,[]=>.ok acc
 | acc,e::r=>if e.parent<0∨(acc.length:Int) - 1<e.parent then .error 1 else match scrApply (acc.getD e.parent.toNat zSch) e.steps with
  | .error e=>.error e
  | .ok t=>goG (acc++[t]) r
def verSchemas (g:Gr):ResL:=if 8≤g.edges.length then .error 2 else if schE g.base≠0 then .error (schE g.base) else goG [g.base] g.edges
def verSchema (g:Gr) (v:Int):Res:=match verSchemas g with
 | .error e=>.error e
 | .ok O=>if v<0∨(O.length:Int)≤v then .error 1 else .ok (O.getD v.toNat zSch)
theorem goG_ok:∀{l:List Edg} {acc O:List Sch},(∀x∈acc,schE x=0)→goG acc l=.ok O→(∀x∈O,schE x=0)∧O.length=acc.length+l.length
 | [],acc,O,ha,h=>by injection h with h;subst h;exact ⟨ha,by simp⟩
 | e::r,acc,O,ha,h=>by
  rw [goG] at h
  split at h
  ·cases h
  split at h
  ·cases h
  ·rename_i t q
   obtain ⟨h1,h2⟩:=goG_ok (fun x hx=>by
    rcases List.mem_append.1 hx with hx|hx
    ·exact ha x hx
    ·rw [List.mem_singleton.1 hx];exact scrApply_ok q) h
   exact ⟨h1,by rw [h2];simp;omega⟩
theorem goG_ne:∀{l:List Edg} {acc:List Sch} {e:Int},goG acc l=.error e→e≠0
 | [],acc,e,h=>by cases h
 | st::r,acc,e,h=>by
  rw [goG] at h
  split at h
  ·injection h with h;omega
  split at h
  ·rename_i q;injection h with h;rw [←h];exact scrApply_ne q
  ·exact goG_ne h
theorem verSchemas_ok {g:Gr} {O:List Sch} (h:verSchemas g=.ok O):g.edges.length<8∧schE g.base=0∧(∀x∈O,schE x=0)∧O.length=1+g.edges.length:=by
 unfold verSchemas at h
 split at h
 ·cases h
 split at h
 ·cases h
 rename_i q0 q
 have q:schE g.base=0:=Decidable.byContradiction q
 have:=goG_ok (fun x hx=>by rw [List.mem_singleton.1 hx];exact q) h
 exact ⟨by omega,q,this.1,this.2⟩
theorem verSchemas_ne {g:Gr} {e:Int} (h:verSchemas g=.error e):e≠0:=by
 unfold verSchemas at h
 split at h
 ·injection h with h;omega
 split at h
 ·rename_i q;injection h with h;rw [←h];exact q
 ·exact goG_ne h
theorem goG_par:∀{l:List Edg} {acc O:List Sch},goG acc l=.ok O→∀j,∀h:j<l.length,0≤l[j].parent∧l[j].parent≤(acc.length:Int)+j - 1
 | [],_,_,_,_,h=>by simp at h
 | e::r,acc,O,hO,j,h=>by
  rw [goG] at hO
  split at hO
  ·cases hO
  rename_i q
  split at hO
  ·cases hO
  ·cases j with
   | zero=>simp only [List.getElem_cons_zero];omega
   | succ j =>
    have:=goG_par hO j (by simpa using h)
    simp only [List.getElem_cons_succ,List.length_append,List.length_singleton] at this ⊢
    omega
theorem grOk_of {g:Gr} {O:List Sch} (h:verSchemas g=.ok O):GrOk g:=by
 unfold verSchemas at h
 split at h
 ·cases h
 split at h
 ·cases h
 have hp:=goG_par h
 refine ⟨fun v h1 h2=>?_,fun k hk=>?_⟩
 ·have:=hp (v - 1) (by omega)
  unfold parN
  rw [getD_lt _ (by omega:v - 1<g.edges.length)]
  simp only [List.length_singleton] at this
  omega
 ·have:=hp k hk
  unfold parN
  rw [Nat.add_sub_cancel,getD_lt _ hk]
  omega
theorem getD_edge {g:Gr} (ok:GrOk g) {v:Nat} (h0:0<v) (hv:v≤g.edges.length):(g.edges.map eEdg).getD (v - 1) []=[.int .i64 (parN g v:Int),eScr (g.edges.getD (v - 1) zEdg).steps]:=by
 have h1:v - 1<g.edges.length:=by omega
 have:=ok.int (v - 1) h1
 rw [show v - 1+1=v by omega] at this
 rw [getD_map_lt _ _ _ h1,getD_lt _ h1]
 unfold eEdg
 rw [this]
set_option maxHeartbeats 16000000 in
theorem ancestors_sat (g:Gr) (v:Nat) (ok:GrOk g) (hv:v≤g.edges.length) (hl:g.edges.length≤1048576):Sat Tryz.prog 18 [.agg (eGr g),oI v] (.v (.one (eInts (natI (anc (parN g) v))))):=by
 refine sS tyOk Tryz.func18 fun w0 m0 F0=>?_
 simp only [Tryz.ntmps18,envOf,Nat.reduceAdd]
 repeat' (first|((with_reducible refine qV tyOk fun K hK=>?_)<;>simp -dsimp (disch:=first|exact D|fail) only [go_sem,↓reduceIte,seval,eGr,eEdgs])|((with_reducible refine hK _ ?_);clear hK K)|refine Q1 ?_|fail)
 refine AWP.loop (ι:={p:Nat×List Nat // p.1≤g.edges.length∧p.2.length+p.1≤g.edges.length∧p.2++anc (parN g) p.1=anc (parN g) v}) (fun p=>⟨22,[(1,.v (oI p.1.1)),(2,.v (.one (.ptr 2 0))),(5,.v (.one (.ref 5 0 (p.1.2.length+1))))],[(2,eGr g)],[(5,⟨1,(natI (p.1.2++[p.1.1])).map eInt1,[]⟩)]⟩) (fun p=>p.1.1) ⟨(v,[]),hv,by simpa using hv,rfl⟩ ?_ fun ⟨⟨u,acc⟩,hu,hul,hua⟩=>?_
 ·refine St.le_mk ?_ ?_ ?_<;>simp only [LE,EN,Nat.reduceEqDiff,reduceIte,Nat.reduceSub,eGr,eEdgs,List.length_nil,Nat.zero_add,natI_snoc,natI,List.map_nil,List.nil_append]
 simp only at hu hul hua ⊢
 rcases Nat.eq_zero_or_pos u with h0|h0
 ·subst h0
  have e1:anc (parN g) 0=[0]:=by rw [anc,dif_neg (by omega)]
  rw [e1] at hua
  have l1:(natI (acc++[0])).length=acc.length+1:=by simp [natI]
  repeat' (first|((with_reducible refine qV tyOk fun K hK=>?_)<;>simp -dsimp (disch:=first|exact D|fail) only [go_sem,↓reduceIte,seval,eGr,eEdgs,l1])|((with_reducible refine hK _ ?_);clear hK K)|refine Q1 ?_|((with_reducible refine qW (T:=TT) (b:=?_) ?_ ?_);rotate_left;exact rfl)|fail)
  simp -dsimp (disch:=first|exact D|fail) only [retQ,Tryz.results18,resVals,cellRV,resOf,St.rest,St.freeze,RT,go_sem,↓reduceIte,seval]
  rw [hua,if_pos (by rw [natI_len,←hua];simp)]
 ·have hp:=ok.par u h0 hu
  have e1:anc (parN g) u=u::anc (parN g) (parN g u):=by rw [anc,dif_pos ⟨h0,hp⟩]
  have ge:=getD_edge ok h0 hu
  have w1:((u:Int) - 1).toNat=u - 1:=by omega
  have l1:(natI (acc++[u])).length=acc.length+1:=by simp [natI]
  repeat' (first|((with_reducible refine qV tyOk fun K hK=>?_)<;>simp -dsimp (disch:=first|exact D|fail) only [go_sem,↓reduceIte,seval,eGr,eEdgs,ge,w1,l1,Option.getD_none])|((with_reducible refine hK _ ?_);clear hK K)|refine Q1 ?_|((with_reducible refine qW (T:=TT) (b:=?_) ?_ ?_);rotate_left;exact rfl)|fail)
  refine ⟨⟨(parN g u,acc++[u]),by simp only;omega,by simp;omega,by rw [e1] at hua;simpa using hua⟩,by simp only;omega,?_⟩
  refine St.le_mk ?_ ?_ ?_<;>simp only [LE,EN,Nat.reduceEqDiff,reduceIte,Nat.reduceSub,eGr,eEdgs,List.length_append,List.length_cons,List.length_nil,Nat.zero_add,natI_snoc]
set_option maxHeartbeats 8000000 in
theorem equalHops_sat (a b:List Hp) (h1:a.length≤140737488355328) (h2:b.length≤140737488355328):Sat Tryz.prog 11 [.one (eHps a),.one (eHps b)] (.v (oB (decide (a=b)))):=by
 unfold eHps
 refine sS tyOk Tryz.func11 fun w0 m0 F0=>?_
 simp only [Tryz.ntmps11,envOf,Nat.reduceAdd]
 repeat' (first|((with_reducible refine qV tyOk fun K hK=>?_)<;>simp -dsimp (disch:=first|exact D|fail) only [go_sem,↓reduceIte,seval])|((with_reducible refine hK _ ?_);clear hK K)|refine Q1 ?_|((with_reducible refine qW (T:=TT) (b:=?_) ?_ ?_);rotate_left;exact rfl)|((with_reducible refine yS ?_ ?_)<;>(intro h;try simp only [NM] at h))|fail)
 rotate_left
 ·simp -dsimp (disch:=first|exact D|fail) only [retQ,Tryz.results11,resVals,cellRV,resOf,St.rest,St.freeze,RT,go_sem,↓reduceIte,seval]
  have hn:¬ a=b:=fun e=>by rw [e] at h;exact h rfl
  simp [hn]
 have hl:a.length=b.length:=by omega
 refine AWP.loop (ι:={k:Nat // k≤a.length∧a.take k=b.take k}) (fun k=>⟨26,[(0,.v (.one (.sl 2 (a.map eHp)))),(1,.v (.one (.sl 2 (b.map eHp)))),(12,.v (oI a.length)),(13,.v (oI k.1))],[],[]⟩) (fun k=>a.length - k.1) ⟨0,Nat.zero_le _,rfl⟩ ?_ fun ⟨k,hkl,hi⟩=>?_
 ·refine St.le_mk ?_ ?_ ?_<;>simp only [LE,EN,Nat.reduceEqDiff,reduceIte,Nat.reduceSub]
 simp only at hkl hi ⊢
 rcases Nat.lt_or_ge k a.length with hc|hc
 ·have hb:k<b.length:=by omega
  have g1:(a.map eHp).getD k []=eHp a[k]:=getD_map_lt _ _ _ hc
  have g2:(b.map eHp).getD k []=eHp b[k]:=getD_map_lt _ _ _ hb
  repeat' (first|((first|with_reducible refine qV tyOk fun K hK=>?_|with_reducible refine yD tyOk mixed 6 (by kernel_rfl) fun K hK=>?_)<;>simp -dsimp (disch:=first|exact D|fail) only [go_sem,↓reduceIte,seval,g1,g2,eHp,Option.getD_none])|((with_reducible refine hK _ ?_);clear hK K)|refine Q1 ?_|((with_reducible refine qW (T:=TT) (b:=?_) ?_ ?_);rotate_left;exact rfl)|((with_reducible refine yS ?_ ?_)<;>(intro h;try simp only [NM] at h))|fail)
  ·refine ⟨⟨k+1,by omega,take_eq_succ hc hb hi (hp_eq.2 h)⟩,by simp only;omega,?_⟩
   refine St.le_mk ?_ ?_ ?_<;>simp only [LE,EN,Nat.reduceEqDiff,reduceIte,Nat.reduceSub]
  ·simp -dsimp (disch:=first|exact D|fail) only [retQ,Tryz.results11,resVals,cellRV,resOf,St.rest,St.freeze,RT,go_sem,↓reduceIte,seval]
   have hn:¬ a=b:=fun e=>by
    obtain ⟨e1,e2⟩:=hp_eq.1 (get_of_eq hc hb e)
    simp_all
   simp [hn]
 ·have hk:a=b:=by
   rw [List.take_of_length_le (by omega),List.take_of_length_le (by omega)] at hi
   exact hi
  repeat' (first|((with_reducible refine qV tyOk fun K hK=>?_)<;>simp -dsimp (disch:=first|exact D|fail) only [go_sem,↓reduceIte,seval])|((with_reducible refine hK _ ?_);clear hK K)|refine Q1 ?_|((with_reducible refine qW (T:=TT) (b:=?_) ?_ ?_);rotate_left;exact rfl)|fail)
  simp -dsimp (disch:=first|exact D|fail) only [retQ,Tryz.results11,resVals,cellRV,resOf,St.rest,St.freeze,RT,go_sem,↓reduceIte,seval]
  simp [hk]
def verPath (g:Gr) (a b:Int):ResH:=match verSchema g a with
 | .error e=>.error e
 | .ok _=>match verSchema g b with
  | .error e=>.error e
  | .ok _=>.ok (pathL (parN g) a.toNat b.toNat)
def hOut:ResH→List Hp
 | .error _=>[]
 | .ok l=>l
theorem verSchema_ne {g:Gr} {v:Int} {e:Int} (h:verSchema g v=.error e):e≠0:=by
 unfold verSchema at h
 split at h
 ·rename_i q;injection h with h;rw [←h];exact verSchemas_ne q
 ·split at h
  ·injection h with h;omega
  ·cases h
theorem verSchema_ok {g:Gr} {v:Int} {s:Sch} (h:verSchema g v=.ok s):∃O,verSchemas g=.ok O∧0≤v∧v<(O.length:Int)∧s=O.getD v.toNat zSch:=by
 unfold verSchema at h
 split at h
 ·cases h
 ·rename_i O q
  split at h
  ·cases h
  ·injection h with h
   exact ⟨O,q,by omega,by omega,h.symm⟩
theorem ver0:verSchemas gr0=.ok [zSch,zSch,zSch]:=by
 have e1:scrApply zSch []=.ok zSch:=by
  unfold scrApply scrSchemas
  rw [if_neg (by simp),if_neg (by rw [sch0];simp)]
  rfl
 have st:∀(acc:List Sch) (r:List Edg),0<acc.length→acc.getD 0 zSch=zSch→goG acc (zEdg::r)=goG (acc++[zSch]) r:=by
  intro acc r h0 h
  rw [goG,if_neg (by show ¬ ((0:Int)<0∨(acc.length:Int) - 1<0);omega)]
  show (match scrApply (acc.getD 0 zSch) [] with|.error e=>Except.error e|.ok t=>goG (acc++[t]) r)=_
  rw [h,e1]
 have h8:¬ 8≤gr0.edges.length:=by show ¬ 8≤2;omega
 have h9:schE gr0.base=0:=sch0
 unfold verSchemas
 rw [if_neg h8,if_neg (by rw [h9];simp)]
 show goG [zSch] [zEdg,zEdg]=_
 rw [st _ _ (by simp) rfl,st _ _ (by simp) rfl]
 rfl
theorem path0:verPath gr0 1 2=.ok [⟨0,true⟩,⟨1,false⟩]:=by
 have h1:verSchema gr0 1=.ok zSch:=by unfold verSchema;rw [ver0];rfl
 have h2:verSchema gr0 2=.ok zSch:=by unfold verSchema;rw [ver0];rfl
 unfold verPath
 rw [h1,h2]
 simp only
 have a1:anc (parN gr0) 1=[1,0]:=by rw [anc_succ (by omega) (by rw [par0];omega),par0,anc_zero]
 have c1:climb (parN gr0) [1,0] 2=([1],0):=by rw [climb_out (by simp) (by omega) (by rw [par0];omega),par0,climb_in (by simp)]
 have t1:(1:Int).toNat=1:=rfl
 have t2:(2:Int).toNat=2:=rfl
 rw [t1,t2]
 unfold pathL
 rw [a1,c1]
 rfl
theorem gr0_fits:gr0.Fits:=by
 refine ⟨(small_of sch0).fits,by simp [gr0],fun e he=>?_⟩
 have:e=zEdg:=by simpa [gr0] using he
 subst this
 exact ⟨by simp [zEdg],fun s hs=>by cases hs⟩
section
structure Stp.Ok (s:Stp):Prop where
 cols:s.cols.length * 8≤reachBytes
 ncols:s.newTable.cols.length * 32≤reachBytes
 npk:s.newTable.pk.length * 8≤reachBytes
 fk:s.fk.cols.length * 8≤reachBytes
theorem Stp.Ok.fits {s:Stp} (h:s.Ok):s.Fits:=by
 obtain ⟨h1,h2,h3,h4⟩:=h
 rw [reachBytes_eq] at h1 h2 h3 h4
 exact ⟨by omega,by omega,by omega,by omega⟩
variable {w:World}
theorem cells_Step:Tryz.prog.cellsOf 75=24:=by kernel_rfl
theorem bytes_Step:Tryz.prog.bytesOf 75=352:=by kernel_rfl
theorem rd_stp:Rd Tryz.prog w 75 eStp Stp.Ok :=
 (rd_struct Tryz.underlying75 (by kernel_rfl) (rdF_cons rfl cells_int rd_I (rdF_cons rfl cells_string rd_S (rdF_cons rfl cells_string rd_S (rdF_cons rfl cells_string rd_S (rdF_cons rfl cells_string rd_S (rdF_cons rfl cells_int rd_I
  (rdF_cons rfl cells_s_int rd_ints (rdF_cons rfl cells_string rd_S (rdF_cons rfl cells_Value rd_val (rdF_cons rfl cells_Table rd_tbl (rdF_cons rfl cells_Constraint rd_con (rdF_cons rfl cells_ForeignKey rd_fk rdF_nil))))))))))))).to
  (fun p=>⟨p.1,p.2.1,p.2.2.1,p.2.2.2.1,p.2.2.2.2.1,p.2.2.2.2.2.1,p.2.2.2.2.2.2.1,p.2.2.2.2.2.2.2.1,p.2.2.2.2.2.2.2.2.1,p.2.2.2.2.2.2.2.2.2.1,p.2.2.2.2.2.2.2.2.2.2.1,p.2.2.2.2.2.2.2.2.2.2.2.1⟩)
  (fun _=>by simp [eStp,eVal,eTbl,eCon,eFK,eInts,eCols]) fun _ h=>by
   obtain ⟨_,_,_,_,_,_,⟨h1,_⟩,_,_,h2,_,h3,_⟩:=h
   obtain ⟨_,⟨k1,_⟩,⟨k2,_⟩⟩:=h2
   obtain ⟨_,⟨k3,_⟩,_⟩:=h3
   exact ⟨h1,k1,k2,k3⟩
theorem rd_scr:Rd Tryz.prog w 28 (fun l=>[eScr l]) fun l=>l.length * 352≤reachBytes∧∀c∈l,Stp.Ok c :=
 rd_slice Tryz.underlying28 cells_Step bytes_Step (fun _=>rfl) rd_stp
structure Edg.Ok (e:Edg):Prop where
 steps:e.steps.length * 352≤reachBytes∧∀c∈e.steps,Stp.Ok c
theorem Edg.Ok.fits {e:Edg} (h:e.Ok):e.Fits:=by
 have h1:=h.steps.1
 rw [reachBytes_eq] at h1
 exact ⟨by omega,fun st hs=>(h.steps.2 st hs).fits⟩
structure Gr.Ok (g:Gr):Prop where
 base:g.base.Ok
 edges:g.edges.length * 32≤reachBytes∧∀c∈g.edges,Edg.Ok c
theorem Gr.Ok.fits {g:Gr} (h:g.Ok):g.Fits:=by
 have h1:=h.edges.1
 rw [reachBytes_eq] at h1
 exact ⟨h.base.fits,by omega,fun e he=>(h.edges.2 e he).fits⟩
end
end Go.Bw
