/-
  WHAT IS PROVED HERE, of this translation: containsCon_sat, containsCon_take, sr_of, sr_get, okRel_iff, OkRel.sub, stpClone_sat, tableName_sat, removeColumns_satM, overlapI_zero, splitE_zero, SmallS.rm, fits_ite, evNorm_fits, sch0, par0, LeB.refl, getD_set_b, LeB.set, LeB.trans, frz_eStp.
  A theorem that ends in sat says what the function it names returns, whatever the state it is called in; the bounds on its arguments stand ahead of it.
-/
import Derived.Test.YtdnapljegcihiaaGreatWf
import Derived.Test.YtdnapljegcihiaaGreatWh
import Derived.Test.YtdnapljegcihiaaGreatWi
set_option linter.unusedSimpArgs false
set_option linter.unusedVariables false
namespace Go.Bw
open Go.Proofs
theorem containsCon_sat (l:List Con) (c:Con) (hlen:l.length≤140737488355328) :
  Sat Tryz.prog 43 [.one (eCons l),.agg (eCon c)] (.v (oB (decide (0≤idx (conEq c) l 0)))):=by
 refine sS tyOk Tryz.func43 fun w0 m0 F0=>?_
 simp only [Tryz.ntmps43,envOf,Nat.reduceAdd]
 repeat' (first|((first|with_reducible refine qV tyOk fun K hK=>?_|((with_reducible refine CallJ.is ?_);(refine CallJ.pure (indexCon_sat l _ hlen) ?_)))<;>simp -dsimp (disch:=first|exact D|fail) only [go_sem,↓reduceIte,seval])|((with_reducible refine hK _ ?_);clear hK K)|refine Q1 ?_|fail)
 simp -dsimp (disch:=first|exact D|fail) only [retQ,Tryz.results43,resVals,cellRV,resOf,St.rest,St.freeze,RT,go_sem,↓reduceIte,seval]
theorem containsCon_take (l:List Con) (k:Nat) (c:Con) (hlen:l.length≤140737488355328) :
  Sat Tryz.prog 43 [.one (.sl 7 ((l.map eCon).take k)),.agg (eCon c)] (.v (oB (decide (0≤idx (conEq c) (l.take k) 0)))):=by
 have h:=containsCon_sat (l.take k) c (by rw [List.length_take];omega)
 rw [eCons,List.map_take] at h
 exact h
def SR (t:Tbl) (rows:List Row):Prop:=rows.Pairwise fun a b=>cmpRows (keyOf t.pk a) (keyOf t.pk b)<0
theorem sr_of {t:Tbl}:∀{rows:List Row},(∀j,∀h:j+1<rows.length,cmpRows (keyOf t.pk rows[j]) (keyOf t.pk rows[j+1])<0)→SR t rows
 | [],_=>.nil
 | x::l,h=>by
  have hl:SR t l:=sr_of fun j hj=>h (j+1) (by simpa using hj)
  refine .cons (fun y hy=>?_) hl
  cases l with
  | nil=>cases hy
  | cons z l =>
   have h0:cmpRows (keyOf t.pk x) (keyOf t.pk z)<0:=by simpa using h 0 (by simp)
   rcases List.mem_cons.1 hy with rfl|hy
   ·exact h0
   ·exact cmpRows_is.trans _ _ _ h0 ((List.pairwise_cons.1 hl).1 y hy)
theorem sr_get {t:Tbl} {rows:List Row} (h:SR t rows):∀j,∀hj:j+1<rows.length,cmpRows (keyOf t.pk rows[j]) (keyOf t.pk rows[j+1])<0 :=
 fun j hj=>List.pairwise_iff_getElem.1 h j (j+1) (by omega) hj (by omega)
theorem okRel_iff (t:Tbl) (rows:List Row):OkRel t rows↔rows.length≤24∧(∀x∈rows,rowE t x=0)∧SR t rows:=by
 constructor
 ·rintro ⟨h1,h2,h3⟩
  refine ⟨h1,fun x hx=>?_,sr_of h3⟩
  obtain ⟨j,hj,rfl⟩:=List.mem_iff_getElem.1 hx
  exact h2 j hj
 ·rintro ⟨h1,h2,h3⟩
  exact ⟨h1,fun j hj=>h2 _ (List.getElem_mem hj),fun j hj=>sr_get h3 j hj⟩
theorem OkRel.sub {t:Tbl} {l rows:List Row} (h:OkRel t rows) (hs:l.Sublist rows):OkRel t l:=by
 obtain ⟨h1,h2,h3⟩:=(okRel_iff _ _).1 h
 exact (okRel_iff _ _).2 ⟨Nat.le_trans hs.length_le h1,fun x hx=>h2 x (hs.subset hx),List.Pairwise.sublist hs h3⟩
set_option maxHeartbeats 8000000 in
theorem stpClone_sat (s:Stp) (h:s.Fits):Sat Tryz.prog 26 [.agg (eStp s)] (.v (.agg (eStp s))):=by
 have h1:=h.cols
 have h2:=h.ncols
 have h3:=h.npk
 have h4:=h.fk
 have c2:=cloneTableB_sat s.newTable h2 h3
 simp only [eTbl] at c2
 refine sS tyOk Tryz.func26 fun w0 m0 F0=>?_
 simp only [Tryz.ntmps26,envOf,Nat.reduceAdd]
 repeat' (first|((first|with_reducible refine qV tyOk fun K hK=>?_|((with_reducible refine CallJ.is ?_);(first|refine CallJ.pure (cloneIntsB_sat s.cols h1) ?_|refine CallJ.pure (c2) ?_|refine CallJ.pure (cloneIntsB_sat s.fk.cols h4) ?_)))<;>simp -dsimp (disch:=first|exact D|fail) only [go_sem,↓reduceIte,seval,eStp])|((with_reducible refine hK _ ?_);clear hK K)|refine Q1 ?_|fail)
 simp -dsimp (disch:=first|exact D|fail) only [retQ,Tryz.results26,resVals,cellRV,resOf,St.rest,St.freeze,RT,go_sem,↓reduceIte,seval]
 simp only [eStp,eInts,eCols]
theorem tableName_sat (s:Stp):Sat Tryz.prog 23 [.agg (eStp s)] (.v (oS (if s.kind=10 then s.newTable.name else s.table))):=by
 refine sS tyOk Tryz.func23 fun w0 m0 F0=>?_
 simp only [Tryz.ntmps23,envOf,Nat.reduceAdd]
 repeat' (first|((first|with_reducible refine qV tyOk fun K hK=>?_|refine Q2 ?_|((with_reducible first|refine qS ?_ ?_|refine qT ?_ ?_|refine qU ?_ ?_)<;>(intro h;try simp only [NM] at h))|with_reducible refine yD tyOk mixed 6 (by kernel_rfl) fun K hK=>?_)<;>simp -dsimp (disch:=first|exact D|fail) only [go_sem,↓reduceIte,seval,eStp])|((with_reducible refine hK _ ?_);clear hK K)|refine Q1 ?_|((with_reducible refine qW (T:=TT) (b:=?_) ?_ ?_);rotate_left;exact rfl)|((with_reducible refine yS ?_ ?_)<;>(intro h;try simp only [NM] at h)))
 all_goals simp -dsimp (disch:=first|exact D|fail) only [retQ,Tryz.results23,resVals,cellRV,resOf,St.rest,St.freeze,RT,go_sem,↓reduceIte,seval]
 all_goals simp_all
set_option maxHeartbeats 32000000 in
theorem removeColumns_satM (s:Sch) (i:Nat) (removed:List Int) (hi:i<s.tables.length) (hr:removed.length≤1048576) (h1:s.tables.length≤1048576) (h2:s.fks.length≤1048576) (h3:s.cons.length≤1048576)
  (hcl:s.tables[i].cols.length≤1048576) (hpl:s.tables[i].pk.length≤1048576) (hp:∀c∈s.tables[i].pk,-1048576≤c∧c≤1048576)
  (hn:∀k∈s.fks,k.cols.length≤1048576) (hf:∀k∈s.fks,sEq k.table s.tables[i].name=true→∀c∈k.cols,-1048576≤c∧c≤1048576) (hc:∀k∈s.cons,sEq k.table s.tables[i].name=true→(-1048576≤k.left∧k.left≤1048576)∧k.right≤1048576) :
  SatM Tryz.prog 101 [.one (.ptr 1000 0),oI i,.one (eInts removed)] (iB s) (iR s) (.tup []) (iB (removeC s i removed)) (iR (removeC s i removed)):=by
 obtain ⟨t,ht⟩:∃t,s.tables[i]=t:=⟨_,rfl⟩
 have htA:tAt s i=t:=by unfold tAt;rw [getD_lt _ hi,ht]
 rw [ht] at hcl hpl hp hf hc
 have rc:=remap_satM ⟨s.tables,s.fks,s.cons⟩ (rowT s.tables i ⟨t.name,dropAt removed t.cols 0,t.pk.map (shiftI removed)⟩) s.tables.length t.name (shiftI removed) 116 [[eInts removed]] h2 h3 hn
  (fun k hk hT c hc'=>shift_sat removed c hr (hf k hk hT c hc').1 (hf k hk hT c hc').2) (fun k hk hT=>⟨shift_sat removed _ hr (hc k hk hT).1.1 (hc k hk hT).1.2,fun h0=>shift_sat removed _ hr (by omega) (hc k hk hT).2⟩)
 simp only [List.map_cons,List.map_nil] at rc
 have spec:removeC s i removed=⟨s.tables.set i ⟨t.name,dropAt removed t.cols 0,t.pk.map (shiftI removed)⟩,s.fks.map (remapFK t.name (shiftI removed)),s.cons.map (remapCon t.name (shiftI removed))⟩:=by
  unfold removeC remapS setT
  rw [htA]
 rw [spec]
 unfold iB iR
 simp only [List.length_map,List.length_set]
 have e0:s.tables.map eTblO=rowT s.tables i t:=by unfold rowT;rw [←ht,List.set_getElem_self]
 have rl:=rowT_len s.tables i t
 have rg:=fun t=>rowT_get (l:=s.tables) (k:=i) t hi
 have dl:=dropAt_len removed t.cols 0
 rw [e0]
 refine sM tyOk [1000] [1000,1001,1002] Tryz.func101 fun w0 m0 F0=>?_
 simp only [Tryz.ntmps101,envOf,Nat.reduceAdd]
 repeat' (first|((((fail_if_success (refine AWP.isRegion 1 ?_));(with_reducible refine qV tyOk fun K hK=>?_)))<;>simp -dsimp (disch:=first|exact D|fail) only [go_sem,↓reduceIte,seval])|((with_reducible refine hK _ ?_);clear hK K)|refine Q1 ?_|fail)
 refine AWP.frz [1000] [1000,1001,1002] ?_
 simp -dsimp (disch:=first|exact D|fail) only [go_sem,↓reduceIte,seval,RT,St.rest,St.freeze]
 refine AWP.openC 1000 i 1 2000 rfl (rowT_cell1 _ hi) rfl (by decide) (by decide) ?_
 simp -dsimp (disch:=first|exact D|fail) only [go_sem,↓reduceIte,seval,openR_mk]
 refine AWP.openC 1000 i 2 2001 rfl (rowT_cell2 _ hi) (by simp [ovGet]) (by decide) (by decide) ?_
 simp -dsimp (disch:=first|exact D|fail) only [go_sem,↓reduceIte,seval,openR_mk]
 repeat' (first|((with_reducible refine qV tyOk fun K hK=>?_)<;>simp -dsimp (disch:=first|exact D|fail) only [go_sem,↓reduceIte,seval,rl,rg,eTblO,Option.getD_none])|((with_reducible refine hK _ ?_);clear hK K)|refine Q1 ?_|fail)
 refine AWP.loop (ι:={k:Nat // k≤t.cols.length}) (fun k=>⟨70,[(0,.v (.one (.ptr 1000 0))),(5,.v (.one (.fz [eInts removed]))),(6,.v (.one (.eptr 1000 i 0))),(7,.v (.one (.clo 116 [.fz [eInts removed]]))),(8,.v (.one (.ref 8 0 (dropAt removed (t.cols.take k.1) 0).length))),(23,.v (.one (.ref 2000 0 t.cols.length))),(24,.v (oI t.cols.length)),(25,.v (oI k.1))],[(1000,[.ref 1000 0 s.tables.length,.ref 1001 0 s.fks.length,.ref 1002 0 s.cons.length])],[(8,⟨3,(dropAt removed (t.cols.take k.1) 0).map eCol,[]⟩),(2000,⟨3,t.cols.map eCol,[]⟩),(2001,⟨1,t.pk.map eInt1,[]⟩),(1000,⟨3,rowT s.tables i t,[(i,2,.ref 2001 0 t.pk.length),(i,1,.ref 2000 0 t.cols.length)]⟩),(1001,⟨3,s.fks.map eFKO,[]⟩),(1002,⟨7,s.cons.map eCon,[]⟩)]⟩) (fun k=>t.cols.length - k.1) ⟨0,Nat.zero_le _⟩ ?_ fun ⟨k,hkl⟩=>?_
 ·refine St.le_mk ?_ ?_ ?_<;>simp only [LE,EN,Nat.reduceEqDiff,reduceIte,Nat.reduceSub,List.take_zero,dropAt,List.length_nil,List.map_nil]
 simp only at hkl ⊢
 have dk:=dropAt_len removed (t.cols.take k) 0
 have tk:(t.cols.take k).length=k:=by simp;omega
 rw [tk] at dk
 rcases Nat.lt_or_ge k t.cols.length with hk|hk
 ·have es:=take_snoc t.cols k hk
  have ds:=dropAt_snoc removed t.cols[k] (t.cols.take k) 0
  rw [←es,tk,Nat.zero_add] at ds
  have cc:=containsInt_sat removed (k:Int) (by omega)
  cases hx:removed.elem (k:Int) with
  | true =>
   rw [hx] at cc ds
   simp only [if_true,List.append_nil] at ds
   repeat' (first|((first|with_reducible refine qV tyOk fun K hK=>?_|((with_reducible refine CallJ.is ?_);(refine CallJ.pure (cc) ?_)))<;>simp -dsimp (disch:=first|exact D|fail) only [go_sem,↓reduceIte,seval,rl,rg,Option.getD_none])|((with_reducible refine hK _ ?_);clear hK K)|refine Q1 ?_|((with_reducible refine qW (T:=TT) (b:=?_) ?_ ?_);rotate_left;exact rfl)|fail)
   refine ⟨⟨k+1,by omega⟩,by simp only;omega,?_⟩
   refine St.le_mk ?_ ?_ ?_<;>simp only [LE,EN,Nat.reduceEqDiff,reduceIte,Nat.reduceSub,ds]
  | false =>
   rw [hx] at cc ds
   simp only [Bool.false_eq_true,if_false] at ds
   repeat' (first|((first|with_reducible refine qV tyOk fun K hK=>?_|((with_reducible refine CallJ.is ?_);(refine CallJ.pure (cc) ?_)))<;>simp -dsimp (disch:=first|exact D|fail) only [go_sem,↓reduceIte,seval,rl,rg,Option.getD_none])|((with_reducible refine hK _ ?_);clear hK K)|refine Q1 ?_|((with_reducible refine qW (T:=TT) (b:=?_) ?_ ?_);rotate_left;exact rfl)|fail)
   refine ⟨⟨k+1,by omega⟩,by simp only;omega,?_⟩
   refine St.le_mk ?_ ?_ ?_<;>simp only [LE,EN,Nat.reduceEqDiff,reduceIte,Nat.reduceSub,ds,eCol,List.map_append,List.map_cons,List.map_nil,List.length_append,List.length_cons,List.length_nil]
 ·rw [List.take_of_length_le hk] at dk ⊢
  repeat' (first|((with_reducible refine qV tyOk fun K hK=>?_)<;>simp -dsimp (disch:=first|exact D|fail) only [go_sem,↓reduceIte,seval,rl,rg,eTblO,Option.getD_none])|((with_reducible refine hK _ ?_);clear hK K)|refine Q1 ?_|((with_reducible refine qW (T:=TT) (b:=?_) ?_ ?_);rotate_left;exact rfl)|fail)
  refine AWP.loop (ι:={j:Nat // j≤t.pk.length}) (fun j=>⟨70,[(0,.v (.one (.ptr 1000 0))),(6,.v (.one (.eptr 1000 i 0))),(7,.v (.one (.clo 116 [.fz [eInts removed]]))),(8,.v (.one (.ref 8 0 (dropAt removed t.cols 0).length))),(42,.v (.one (.ref 2001 0 t.pk.length))),(43,.v (oI t.pk.length)),(44,.v (oI j.1))],[(1000,[.ref 1000 0 s.tables.length,.ref 1001 0 s.fks.length,.ref 1002 0 s.cons.length])],[(8,⟨3,(dropAt removed t.cols 0).map eCol,[]⟩),(2000,⟨3,t.cols.map eCol,[]⟩),(2001,⟨1,(mix (shiftI removed) t.pk j.1).map eInt1,[]⟩),(1000,⟨3,rowT s.tables i t,[(i,2,.ref 2001 0 t.pk.length),(i,1,.ref 2000 0 t.cols.length)]⟩),(1001,⟨3,s.fks.map eFKO,[]⟩),(1002,⟨7,s.cons.map eCon,[]⟩)]⟩) (fun j=>t.pk.length - j.1) ⟨0,Nat.zero_le _⟩ ?_ fun ⟨j,hjl⟩=>?_
  ·refine St.le_mk ?_ ?_ ?_<;>simp only [LE,EN,Nat.reduceEqDiff,reduceIte,Nat.reduceSub,mix_zero]
  simp only at hjl ⊢
  rcases Nat.lt_or_ge j t.pk.length with hj|hj
  ·have ml:=mix_len (shiftI removed) t.pk j
   have mg:=mixr_get eInt1 (shiftI removed) t.pk j hj
   have ms:=mixr_set eInt1 (shiftI removed) t.pk j hj
   simp only [eInt1] at ms
   have hb:=hp t.pk[j] (List.getElem_mem hj)
   have hg:=shift_sat removed t.pk[j] hr hb.1 hb.2
   unfold MapsAt at hg
   simp only [List.map_cons,List.map_nil] at hg
   repeat' (first|((first|with_reducible refine qV tyOk fun K hK=>?_|(refine AWP.isRegion 13 ?_;refine dX tyOk mixed [(0,7)] [(7,[(8,1)],[(0,5)]),(9,[],[])] [7,9] 8 fun K hK=>?_;simp only [SG,segs] at hK ⊢)|((with_reducible refine CallJ.is ?_);(refine CallJ.pure (hg) ?_))|(with_reducible first|refine VCy.some fun K hK=>?_|refine VCy.step fun K hK=>?_))<;>simp -dsimp (disch:=first|exact D|fail) only [go_sem,↓reduceIte,seval,rl,rg,eTblO,ml,mg,Option.getD_none])|((with_reducible refine hK _ ?_);clear hK K)|(with_reducible refine VCy.intro fun K0 hK0=>?_)|((with_reducible refine VCy.fin ?_);(refine hK0 _ ?_);clear hK0 K0)|(with_reducible first|refine VCy.quiet ?_|refine VCy.none ?_)|((with_reducible refine VCy.keep ?_ ?_);focus ((simp -dsimp (disch:=first|exact D|fail) only [go_sem,↓reduceIte,seval,Stable_cons,Stable_nil,sameA_some,sameA_none,rl,rg,eTblO,ml,mg,Option.getD_none]);first|done|exact E|fail))|refine Q1 ?_|((with_reducible refine qW (T:=TT) (b:=?_) ?_ ?_);rotate_left;exact rfl)|fail)
   refine ⟨⟨j+1,by omega⟩,by simp only;omega,?_⟩
   refine St.le_mk ?_ ?_ ?_<;>simp only [LE,EN,Nat.reduceEqDiff,reduceIte,Nat.reduceSub,ms]
  ·have hj:j=t.pk.length:=by omega
   subst hj
   repeat' (first|((((fail_if_success (refine AWP.isRegion 16 ?_));(with_reducible refine qV tyOk fun K hK=>?_)))<;>simp -dsimp (disch:=first|exact D|fail) only [go_sem,↓reduceIte,seval,rl,rg,eTblO,Option.getD_none])|((with_reducible refine hK _ ?_);clear hK K)|refine Q1 ?_|((with_reducible refine qW (T:=TT) (b:=?_) ?_ ?_);rotate_left;exact rfl)|fail)
   refine AWP.close 1000 i 1 8 rfl rfl (by decide) (by simp [ovGet]) (by simp [rl];exact hi) (by show 1<3;decide) rfl ?_
   simp -dsimp (disch:=first|exact D|fail) only [go_sem,↓reduceIte,seval,closeR_mk,ovCut_cons,ovCut_nil]
   rw [setCell_set _ _ _ _ _ (by rw [rl];exact hi)]
   have e1:=rowT_set s.tables i t ⟨t.name,dropAt removed t.cols 0,t.pk⟩
   simp only [eTblO] at e1
   simp only [List.set_cons_succ,List.set_cons_zero,e1]
   refine AWP.close 1000 i 2 2001 rfl rfl (by decide) (by simp [ovGet,mix_len]) (by rw [rowT_len];exact hi) (by show 2<3;decide) rfl ?_
   simp -dsimp (disch:=first|exact D|fail) only [go_sem,↓reduceIte,seval,closeR_mk,ovCut_cons,ovCut_nil]
   rw [rowT_pk _ hi,mix_all]
   have rl2:=rowT_len s.tables i ⟨t.name,dropAt removed t.cols 0,t.pk.map (shiftI removed)⟩
   repeat' (first|((first|with_reducible refine qV tyOk fun K hK=>?_|((with_reducible refine CallJ.is ?_);refine CallJ.io [(1000,1000)] [(1000,1000),(1001,1001),(1002,1002)] [(1000,1000)] [(1000,1000),(1001,1001),(1002,1002)] [] [] [1000,1000] [1000,1001,1002,1000,1001,1002] (rc) rfl ⟨rfl,rfl,rfl,rfl⟩ ?_ ?_ ?_))<;>simp -dsimp (disch:=first|exact D|fail) only [go_sem,↓reduceIte,seval,rl2,rg,eTblO,Option.getD_none,okIds_ref,dropL_nil,dropL_nil',dropL_cons])|((with_reducible refine hK _ ?_);clear hK K)|refine Q1 ?_|fail)
   simp -dsimp (disch:=first|exact D|fail) only [retQ,Tryz.results101,resVals,cellRV,resOf,St.rest,St.freeze,RT,go_sem,↓reduceIte,seval]
   rfl
theorem overlapI_zero {a b:List Int} (h:overlapI a b=0):∀c∈a,c ∉ b:=by
 unfold overlapI at h
 simp only at h
 split at h
 ·rename_i h0
  intro c hc hb
  have:c∈a.filter fun c=>b.elem c:=List.mem_filter.2 ⟨hc,List.elem_iff.2 hb⟩
  rw [List.eq_nil_of_length_eq_zero h0] at this
  cases this
 ·split at h<;>cases h
theorem splitE_zero {s:Sch} {T:Tbl} {st:Stp} (h:splitE s T st=0):Moved st.cols T.cols.length∧(∀c∈T.pk,c ∉ st.cols)∧∀t∈s.tables,t.name≠st.other:=by
 unfold splitE at h
 split at h
 ·rename_i e he
  exact absurd h (scan_ne (fun k x e he=>by
   split at he
   ·injection he with he;omega
   ·cases he) he)
 ·rename_i hs
  split at h
  ·cases h
  split at h
  ·cases h
  rename_i h2
  split at h
  ·cases h
  rename_i h3
  have hs:=scan_eq_none.1 hs
  have hc:∀j,∀hj:j<st.cols.length,0≤st.cols[j]∧st.cols[j]<(T.cols.length:Int)∧(∀_:0<j,st.cols[j - 1]<st.cols[j]):=fun j hj=>by
   have:=hs j hj
   split at this
   ·cases this
   ·rename_i q
    refine ⟨by omega,by omega,fun j0=>?_⟩
    have q2:¬ (0<(j:Int)∧st.cols[j]≤st.cols.getD ((j:Int) - 1).toNat 0):=fun z=>q (.inr (.inr z))
    rw [show ((j:Int) - 1).toNat=j - 1 by omega,getD_lt _ (by omega)] at q2
    omega
  refine ⟨⟨pairwise_of_adj (R:=(·<·)) (fun _ _ _ a b=>by omega) fun j hj=>(hc (j+1) hj).2.2 (by omega),fun r hr=>?_⟩,fun c hcp hr=>?_,tblAt_none.1 h3⟩
  ·obtain ⟨j,hj,rfl⟩:=List.mem_iff_getElem.1 hr
   exact ⟨(hc j hj).1,(hc j hj).2.1⟩
  ·exact overlapI_zero (Decidable.byContradiction h2) c hr hcp
theorem SmallS.rm {s:Sch} (sm:SmallS s) {i:Nat} (hi:i<s.tables.length) (removed:List Int) (hr:removed.length≤1048576) :
  SatM Tryz.prog 101 [.one (.ptr 1000 0),oI i,.one (eInts removed)] (iB s) (iR s) (.tup []) (iB (removeC s i removed)) (iR (removeC s i removed)):=by
 have b1:=sm.tables
 have b2:=sm.fks
 have b3:=sm.cons
 obtain ⟨t1,t2,t3⟩:=sm.table s.tables[i] (List.getElem_mem hi)
 refine removeColumns_satM s i removed hi hr (by omega) (by omega) (by omega) (by omega) (by omega) (fun c hc=>?_) (fun k hk=>?_) (fun k hk _ c hc=>?_) fun k hk _=>?_
 ·have:=t3 c hc;omega
 ·have:=(sm.fk k hk).1;omega
 ·have:=(sm.fk k hk).2 c hc;omega
 ·have:=sm.con k hk;omega
theorem fits_ite {c:Prop} [Decidable c] {a b:Stp} (ha:a.Fits) (hb:b.Fits):(if c then a else b).Fits:=by
 by_cases h:c
 ·rw [if_pos h];exact ha
 ·rw [if_neg h];exact hb
theorem evNorm_fits {s:Stp} (h:s.Fits):(evNorm s).Fits:=by
 have z1:zStp.cols.length * 8≤140737488355328:=by show 0 * 8≤_;decide
 have z2:zStp.newTable.cols.length * 32≤140737488355328:=by show 0 * 32≤_;decide
 have z3:zStp.newTable.pk.length * 8≤140737488355328:=by show 0 * 8≤_;decide
 have z4:zStp.fk.cols.length * 8≤140737488355328:=by show 0 * 8≤_;decide
 unfold evNorm
 repeat' refine fits_ite ?_ ?_
 all_goals exact ⟨by first|exact h.cols|exact z1,by first|exact h.ncols|exact z2,by first|exact h.npk|exact z3,by first|exact h.fk|exact z4⟩
structure Edg.Fits (e:Edg):Prop where
 len:e.steps.length≤140737488355328
 step:∀st∈e.steps,st.Fits
structure Gr.Fits (g:Gr):Prop where
 base:g.base.Fits
 len:g.edges.length≤140737488355328
 edge:∀e∈g.edges,e.Fits
def gr0:Gr:=⟨zSch,[zEdg,zEdg]⟩
theorem sch0:schE zSch=0:=by
 unfold schE zSch
 rfl
theorem par0 (v:Nat):parN gr0 v=0:=by
 unfold parN gr0
 simp only
 match v with
 | 0=>rfl
 | 1=>rfl
 | 2=>rfl
 | v+3=>rfl
def LeB (a b:List Bool):Prop:=a.length=b.length∧∀i,a.getD i false=true→b.getD i false=true
theorem LeB.refl (a:List Bool):LeB a a:=⟨rfl,fun _ h=>h⟩
theorem getD_set_b (l:List Bool) (i j:Nat) (x:Bool):(l.set i x).getD j false=if i=j∧i<l.length then x else l.getD j false:=by
 rw [List.getD_eq_getElem?_getD,List.getD_eq_getElem?_getD,List.getElem?_set]
 by_cases h:i=j
 ·subst h
  by_cases hi:i<l.length
  ·simp [hi]
  ·simp [hi]
 ·simp [h]
theorem LeB.set {a b:List Bool} (h:LeB a b) (i:Nat):LeB (a.set i true) (b.set i true):=by
 refine ⟨by simp [h.1],fun j hj=>?_⟩
 rw [getD_set_b] at hj ⊢
 rw [←h.1]
 split at hj
 ·rename_i q;rw [if_pos q]
 ·rename_i q;rw [if_neg q];exact h.2 j hj
theorem LeB.trans {a b c:List Bool} (h:LeB a b) (k:LeB b c):LeB a c:=⟨h.1.trans k.1,fun i hi=>k.2 i (h.2 i hi)⟩
theorem frz_eStp (l:List Stp):(l.map eStp).map (fun x=>x.map (L.frzN 4))=l.map eStp:=frz_map (fun _=>rfl) l
end Go.Bw
