/-
  WHAT IS PROVED HERE, of this translation: equalCols_sat, containsFCon_sat, unused_satX, deleteFuncFKs_satM, removeTable_satM, createTable_satM, dropTable_satM, dropConstraint_satM, dropFK1_sat, dropForeignKey_satM, dropFK_okO, dropFK_satF.
  A theorem that ends in sat says what the function it names returns, whatever the state it is called in; the bounds on its arguments stand ahead of it.
-/
import Derived.Test.YtdnapljegcihiaaGreatDoorVg
import Derived.Test.YtdnapljegcihiaaGreatDoorVh
set_option linter.unusedSimpArgs false
set_option linter.unusedVariables false
namespace Go.Bw
open Go.Proofs
set_option maxHeartbeats 8000000 in
theorem equalCols_sat (a b:List Col) (h1:a.length≤140737488355328) (h2:b.length≤140737488355328):Sat Tryz.prog 112 [.one (eCols a),.one (eCols b)] (.v (oB (decide (a=b)))):=by
 refine ZE Tryz.func112 Tryz.ntmps112 fun w0 m0 F0=>?_
 refine ZWp Z0 Z0 ?_;repeat' (first|apply Zb|apply Zn|(apply Zm;intro h))
 rotate_left
 ·refine ZR (Z1 Tryz.results112) ?_
  have hn:¬ a=b:=fun e=>by rw [e] at h;exact h rfl
  simp [hn]
 have hl:a.length=b.length:=by omega
 refine AWP.loop (ι:={k:Nat // k≤a.length∧a.take k=b.take k}) (fun k=>⟨26,[(0,.v (.one (eCols a))),(1,.v (.one (eCols b))),(12,.v (oI a.length)),(13,.v (oI k.1))],[],[]⟩) (fun k=>a.length - k.1) ⟨0,Nat.zero_le _,rfl⟩ ?_ fun ⟨k,hkl,hi⟩=>?_
 ·exact ZL Z0
 rcases Nat.lt_or_ge k a.length with hc|hc
 ·have hb:k<b.length:=by omega
  refine ZWpy Z0 Z0 ?_;repeat' (first|apply Zb|apply Zn|(apply Zm;intro h))
  ·refine ⟨⟨k+1,by omega,take_eq_succ hc hb hi (col_eq.2 h)⟩,by simp only;omega,?_⟩
   exact ZL Z0
  ·refine ZR (Z1 Tryz.results112) ?_
   have hn:¬ a=b:=fun e=>by
    obtain ⟨e1,e2,e3⟩:=col_eq.1 (get_of_eq hc hb e)
    simp_all
   simp [hn]
 ·have hk:a=b:=by
   rw [List.take_of_length_le (by omega),List.take_of_length_le (by omega)] at hi
   exact hi
  refine ZW Z0 Z0 ?_
  refine ZR (Z1 Tryz.results112) ?_
  simp [hk]
theorem containsFCon_sat (l:List Con) (f:Nat) (cs:List L) (p:Con→Bool) (hlen:l.length≤140737488355328) (hp:∀t∈l,Sat Tryz.prog f (.agg (eCon t)::cs.map .one) (.v (oB (p t)))) :
  Sat Tryz.prog 167 [.one (eCons l),.one (.clo f cs)] (.v (oB (l.any p))):=by
 rw [←idx_anyB p l 0]
 refine ZE Tryz.func167 Tryz.ntmps167 fun w0 m0 F0=>?_
 repeat' (first|((first|with_reducible refine qV tyOk fun K hK=>?_|((with_reducible refine CallJ.is ?_);(refine CallJ.pure (indexFuncCon_sat l _ _ _ hlen hp) ?_)))<;>simp -dsimp (disch:=first|exact D|fail) only [go_sem,↓reduceIte,seval])|((with_reducible refine hK _ ?_);clear hK K)|refine Q1 ?_|fail)
 exact ZQ (Z1 Tryz.results167)
set_option maxHeartbeats 8000000 in
theorem unused_satX (X:List (List L)) (s:Sch) (t:Tbl) (c:Int) (h1:t.pk.length≤140737488355328) (h2:s.fks.length≤140737488355328) (h3:∀f∈s.fks,f.cols.length≤140737488355328) (h4:s.cons.length≤140737488355328) :
  Sat Tryz.prog 135 [.agg [.sl 3 X,eFKs s.fks,eCons s.cons],.agg (eTbl t),oI c] (.v (oI (unusedE s t c))):=by
 have c1:=containsInt_sat t.pk c h1
 have c2:=containsFFK_sat s.fks 166 [.fz (eTbl t),.fz [.int .i64 c]] _ h2 fun f hf=>unused1_sat f t c (h3 f hf)
 have c3:=containsFCon_sat s.cons 168 [.fz (eTbl t),.fz [.int .i64 c]] _ h4 fun k hk=>unused2_sat k t c
 unfold unusedE
 generalize t.pk.elem c=x at c1 ⊢
 generalize (s.fks.any fun f=>sEq f.table t.name&&f.cols.elem c)=y at c2 ⊢
 generalize (s.cons.any fun k=>sEq k.table t.name&&(k.left==c||k.right==c))=z at c3 ⊢
 refine ZE Tryz.func135 Tryz.ntmps135 fun w0 m0 F0=>?_
 refine ZWp Z0 (Z3 (c1) (c2) (c3)) ?_;repeat' (first|apply Zb|apply Zn|(apply Zm;intro h))
 all_goals simp -dsimp (disch:=first|exact D|fail) only [retQ,Tryz.results135,resVals,cellRV,resOf,St.rest,St.freeze,RT,go_sem,↓reduceIte,seval]
 all_goals simp_all
set_option maxHeartbeats 16000000 in
theorem deleteFuncFKs_satM (l:List FK) (f:FuncId) (q:L) (p:FK→Bool) (hp:∀x∈l,Sat Tryz.prog f [.agg (eFK x),.one (.fz [q])] (.v (oB (p x)))) (hl:l.length≤1048576) :
  SatM Tryz.prog 162 [.one (.ref 1000 0 l.length),.one (.clo f [.fz [q]])] [] [(1000,⟨3,l.map eFK,[]⟩)] (.v (.one (.ref 4 0 (l.filter fun x=>!p x).length))) [] [(4,⟨3,(l.filter fun x=>!p x).map eFK++List.replicate (l.length - (l.filter fun x=>!p x).length) zFKs,[]⟩)]:=by
 have ci:=indexFuncFK_sat l f [.fz [q]] p (by omega) hp
 rcases idx_cases p l 0 with ⟨e1,e2⟩|⟨j0,hj0,e1,e2,e3⟩
 ·rw [e1] at ci
  have ef:(l.filter fun x=>!p x)=l:=List.filter_eq_self.2 fun x hx=>by simp [e2 x hx]
  rw [ef,Nat.sub_self,List.replicate_zero,List.append_nil]
  refine ZM [] [4] Tryz.func162 Tryz.ntmps162 fun w0 m0 F0=>?_
  refine ZW Z0 (Z1 (ci)) ?_
  all_goals simp -dsimp (disch:=first|exact D|fail) only [retQ,Tryz.results162,resVals,cellRV,resOf,St.rest,St.freeze,RT,go_sem,↓reduceIte,seval]
 have e1:idx p l 0=(j0:Int):=by simpa using e1
 rw [e1] at ci
 have k0:=kept_first p l hj0 e2 e3
 have l0:((l.take (j0+1)).filter fun x=>!p x).length=j0:=by rw [k0];simp;omega
 have r0:keptR eFK p l (j0+1)=l.map eFK:=by
  unfold keptR
  rw [k0,List.length_take,Nat.min_eq_left (by omega),List.take_append_drop]
 have hne:¬ (j0:Int)=-1:=by omega
 refine ZM [] [4] Tryz.func162 Tryz.ntmps162 fun w0 m0 F0=>?_
 refine ZW (Z1 @hne) (Z1 (ci)) ?_
 refine AWP.loop (ι:={j:Nat // j0+1≤j∧j≤l.length}) (fun j=>⟨42,[(0,.v (.one (.ref 1000 0 l.length))),(1,.v (.one (.clo f [.fz [q]]))),(5,.v (oI ((l.take j.1).filter fun x=>!p x).length)),(6,.v (oI j.1))],[],[(1000,⟨3,keptR eFK p l j.1,[]⟩)]⟩) (fun j=>l.length - j.1) ⟨j0+1,Nat.le_refl _,hj0⟩ ?_ fun ⟨j,hj1,hj2⟩=>?_
 ·exact ZL (Z4 @r0 @l0 @Int.natCast_add @Int.natCast_one)
 simp only at hj1 hj2 ⊢
 have kl:=kept_le p l j hj2
 have kn:=keptR_len eFK p l j hj2
 rcases Nat.lt_or_ge j l.length with hc|hc
 ·have kg:=keptR_get eFK p l j hc
  have cc:=hp l[j] (List.getElem_mem hc)
  cases hx:p l[j] with
  | true =>
   rw [hx] at cc
   have q1:=keptR_drop eFK p l j hc hx
   have q2:=kept_drop_len p l j hc hx
   refine ZW (Z2 @kn @kg) (Z1 (cc)) ?_
   refine ⟨⟨j+1,by omega,by omega⟩,by simp only;omega,?_⟩
   exact ZL (Z4 @q1 @q2 @Int.natCast_add @Int.natCast_one)
  | false =>
   rw [hx] at cc
   have q1:=keptR_keep eFK p l j hc hx
   have q2:=kept_keep_len p l j hc hx
   have q3:=kept_setL eFK 3 (fun _=>rfl) p l j hc l[j]
   simp only [eFK,eCols,eInts] at q1 q3
   refine ZW (Z3 @kn @kg @q3) (Z1 (cc)) ?_
   refine ⟨⟨j+1,by omega,by omega⟩,by simp only;omega,?_⟩
   exact ZL (Z4 @q1 @q2 @Int.natCast_add @Int.natCast_one)
 ·have hj:j=l.length:=by omega
  subst hj
  have kf:keptR eFK p l l.length=(l.filter fun x=>!p x).map eFK++(l.drop (l.filter fun x=>!p x).length).map eFK:=by
   unfold keptR
   rw [List.take_length,List.map_append]
  rw [List.take_length] at kl ⊢
  have t1:List.take (l.filter fun x=>!p x).length ((l.filter fun x=>!p x).map eFK++(l.drop (l.filter fun x=>!p x).length).map eFK)=(l.filter fun x=>!p x).map eFK:=List.take_left' (by simp)
  have t2:List.drop ((l.filter fun x=>!p x).length+(l.length - (l.filter fun x=>!p x).length)) ((l.filter fun x=>!p x).map eFK++(l.drop (l.filter fun x=>!p x).length).map eFK)=[]:=List.drop_of_length_le (by simp)
  refine ZW (Z1 @kn) Z0 ?_
  all_goals simp -dsimp (disch:=first|exact D|fail) only [retQ,Tryz.results162,resVals,cellRV,resOf,St.rest,St.freeze,RT,go_sem,↓reduceIte,seval]
  rw [kf]
  simp only [Nat.sub_zero,t1,t2,List.append_nil]
  exact ⟨trivial,rfl⟩
set_option maxHeartbeats 16000000 in
theorem removeTable_satM (s:Sch) (name:ByteArray) (h1:s.tables.length≤1048576) (h2:s.fks.length≤1048576) (h3:s.cons.length≤1048576) :
  SatM Tryz.prog 133 [.one (.ptr 1000 0),oS name] (iB s) (fR s) (.tup []) (oB1 (removeT s name)) (oR1 (removeT s name)):=by
 have d1:=deleteFuncTbls_satM s.tables 161 (.str name) _ (fun t _=>rm1_sat t name) h1
 have d2:=deleteFuncFKs_satM s.fks 163 (.str name) _ (fun t _=>rm2_sat t name) h2
 have d3:=deleteFuncCons_satM s.cons 165 (.str name) _ (fun t _=>rm3_sat t name) h3
 unfold iB fR oB1 oR1 removeT
 simp only
 generalize hA:(s.tables.filter fun t=>!sEq t.name name)=A at d1 ⊢
 generalize hB:(s.fks.filter fun t=>!sEq t.table name)=B at d2 ⊢
 generalize hC:(s.cons.filter fun t=>!sEq t.table name)=C at d3 ⊢
 refine ZM [1000] [1,2,3] Tryz.func133 Tryz.ntmps133 fun w0 m0 F0=>?_
 refine AWP.gq ?_
 refine ZV Z0 Z0 (Z1 (Zs 1)) Z0 ?_
 refine AWP.frz [1000] [1000,1001,1002] ?_
 refine ZS Z0 ?_
 refine ZV (Z3 @dropL_nil @dropL_nil' @dropL_cons) Z0 Z0 (Z3 (Zi [] [(1000,1000)] [] [(4,10)] [] [1000,10] [] [1000,10] (d1)) (Zi [] [(1000,1001)] [] [(4,19)] [] [1001,19] [] [1001,19] (d2)) (Zi [] [(1000,1002)] [] [(4,28)] [] [1002,28] [] [1002,28] (d3))) ?_
 refine Gq.cutR 10 (A.length) rfl rfl (by simp) ?_
 refine ZU Z0 ?_
 refine Gq.cutR 19 (B.length) rfl rfl (by simp) ?_
 refine ZU Z0 ?_
 refine Gq.cutR 28 (C.length) rfl rfl (by simp) ?_
 refine ZU Z0 ?_
 refine Gq.renR 10 1 rfl rfl (by decide) (.inl (Nat.le_of_ble_eq_true rfl)) ?_
 refine ZT Z0 ?_
 refine Gq.renR 19 2 rfl rfl (by decide) (.inl (Nat.le_of_ble_eq_true rfl)) ?_
 refine ZT Z0 ?_
 refine Gq.renR 28 3 rfl rfl (by decide) (.inl (Nat.le_of_ble_eq_true rfl)) ?_
 refine ZT Z0 ?_
 refine Gq.done ?_
 refine ZR (Z1 Tryz.results133) ?_
 rw [List.take_left' (by simp),List.take_left' (by simp),List.take_left' (by simp)]
 exact ⟨rfl,rfl,rfl⟩
set_option maxHeartbeats 16000000 in
theorem createTable_satM (s:Sch) (t:Tbl) (h1:s.tables.length≤6) (h2:s.fks.length≤1048576) (h3:s.cons.length≤1048576) :
  SatM Tryz.prog 80 [.one (.ptr 1000 0),.agg (eTbl t)] (iB s) (iR s) (.v (oI (rE (createT s t)))) (oBE (createT s t)) (oRE (createT s t)):=by
 have fs:=findTable_sat s t.name (by omega)
 rcases idx_cases (fun u=>sEq u.name t.name) s.tables 0 with ⟨e1,_⟩|⟨j,hj,e1,_,_⟩
 ·have e1:tblAt s.tables t.name=-1:=e1
  rw [e1,mx0_neg] at fs
  have spec:createT s t=.ok (insertT s t):=by unfold createT;rw [if_neg (by omega)]
  rw [spec]
  have it:=insertTable_satM s.tables (s.fks.map eFK) (s.cons.map eCon) s.fks.length s.cons.length t (by omega)
  unfold iB iR oBE oRE oB1 oR1 insertT rE
  simp only
  rw [(ginsS_perm cmpT 0 (s.tables.length+1) (s.tables++[t])).length_eq,List.length_append,List.length_singleton]
  refine ZM [1000] [1,2,3] Tryz.func80 Tryz.ntmps80 fun w0 m0 F0=>?_
  refine AWP.gq ?_
  refine AWP.frzR 1000 rfl ?_
  refine ZU (Z3 @frzR_mk @frzTblO @frzFKO) ?_
  refine AWP.frzR 1001 rfl ?_
  refine ZU (Z3 @frzR_mk @frzTblO @frzFKO) ?_
  refine ZV (Z4 @okIds_ref @dropL_nil @dropL_nil' @dropL_cons) (Z1 (fs)) (Z1 (Zd 1 [(0,5)] [(5,[(6,5)],[])] [5] 8)) (Z1 (Zi [(1000,1000)] [(1000,1000),(1001,1001),(1002,1002)] [(1000,1000)] [(11,11),(1001,1001),(1002,1002)] [] [1000,11] [1000,1000] [1000,1001,1002,11,1001,1002] (it))) ?_
  refine Gq.renR 11 1 rfl rfl (by decide) (.inl (Nat.le_of_ble_eq_true rfl)) ?_
  refine ZT Z0 ?_
  refine Gq.renR 1001 2 rfl rfl (by decide) (.inl (Nat.le_of_ble_eq_true rfl)) ?_
  refine ZT Z0 ?_
  refine Gq.renR 1002 3 rfl rfl (by decide) (.inl (Nat.le_of_ble_eq_true rfl)) ?_
  refine ZT Z0 ?_
  refine Gq.done ?_
  exact ZQ (Z1 Tryz.results80)
 ·have e1:tblAt s.tables t.name=(j:Int):=by unfold tblAt;simpa using e1
  rw [e1,mx0_nat] at fs
  have spec:createT s t=.error 5:=by unfold createT;rw [if_pos (by omega)]
  rw [spec]
  unfold iB iR oBE oRE rE
  simp only
  refine ZM [1000] [1,2,3] Tryz.func80 Tryz.ntmps80 fun w0 m0 F0=>?_
  refine AWP.frzR 1000 rfl ?_
  refine ZU (Z3 @frzR_mk @frzTblO @frzFKO) ?_
  refine AWP.frzR 1001 rfl ?_
  refine ZU (Z3 @frzR_mk @frzTblO @frzFKO) ?_
  refine ZV Z0 (Z1 (fs)) (Z1 (Zd 1 [(0,5)] [(5,[(6,5)],[])] [5] 8)) Z0 ?_
  exact ZQ (Z1 Tryz.results80)
set_option maxHeartbeats 16000000 in
theorem dropTable_satM (s:Sch) (name:ByteArray) (h1:s.tables.length≤1048576) (h2:s.fks.length≤1048576) (h3:s.cons.length≤1048576) :
  SatM Tryz.prog 86 [.one (.ptr 1000 0),oS name] (iB s) (iR s) (.v (oI (rE (dropT s name)))) (oBE (dropT s name)) (oRE (dropT s name)):=by
 have cf:=containsFFK_sat s.fks 134 [.fz [.str name]] _ (by omega) fun t _=>drop1_sat t name
 have rm:=removeTable_satM s name h1 h2 h3
 unfold dropT
 cases hx:(s.fks.any fun f=>sEq f.ref name&&!sEq f.table name) with
 | true =>
  rw [hx] at cf
  rw [if_pos rfl]
  unfold iB iR oBE oRE rE
  simp only
  refine ZM [1000] [1,2,3] Tryz.func86 Tryz.ntmps86 fun w0 m0 F0=>?_
  refine AWP.frzR 1000 rfl ?_
  refine ZU (Z3 @frzR_mk @frzTblO @frzFKO) ?_
  refine AWP.frzR 1001 rfl ?_
  refine ZU (Z3 @frzR_mk @frzTblO @frzFKO) ?_
  refine ZW Z0 (Z1 (cf)) ?_
  exact ZQ (Z1 Tryz.results86)
 | false =>
  rw [hx] at cf
  rw [if_neg (by simp)]
  unfold iB fR oB1 oR1 at rm
  unfold iB iR oBE oRE oB1 oR1 rE
  simp only
  refine ZM [1000] [1,2,3] Tryz.func86 Tryz.ntmps86 fun w0 m0 F0=>?_
  refine AWP.frzR 1000 rfl ?_
  refine ZU (Z3 @frzR_mk @frzTblO @frzFKO) ?_
  refine AWP.frzR 1001 rfl ?_
  refine ZU (Z3 @frzR_mk @frzTblO @frzFKO) ?_
  refine ZV (Z4 @okIds_ref @dropL_nil @dropL_nil' @dropL_cons) (Z1 (cf)) Z0 (Z1 (Zi [(1000,1000)] [(1000,1000),(1001,1001),(1002,1002)] [(1000,1000)] [(1,1),(2,2),(3,3)] [] [1000,1001,1002,1,2,3] [1000,1000] [1000,1001,1002,1,2,3] (rm))) ?_
  exact ZQ (Z1 Tryz.results86)
set_option maxHeartbeats 16000000 in
theorem dropConstraint_satM (s:Sch) (c:Con) (h1:s.tables.length≤1048576) (h2:s.fks.length≤1048576) (h3:s.cons.length≤1048576) :
  SatM Tryz.prog 78 [.one (.ptr 1000 0),.agg (eCon c)] (iB s) (iR s) (.v (oI (rE (dropCon s c)))) (oBE (dropCon s c)) (oRE (dropCon s c)):=by
 have ic:=indexCon_sat s.cons c (by omega)
 rcases idx_cases (conEq c) s.cons 0 with ⟨e1,_⟩|⟨j,hj,e1,_,_⟩
 ·rw [e1] at ic
  have spec:dropCon s c=.error 4:=by unfold dropCon;rw [e1];rfl
  rw [spec]
  unfold iB iR oBE oRE rE
  simp only
  refine ZM [1000] [1,2,3] Tryz.func78 Tryz.ntmps78 fun w0 m0 F0=>?_
  refine ZV Z0 (Z1 (ic)) (Z1 (Zd 1 [(0,5)] [(5,[(6,1)],[])] [5] 8)) Z0 ?_
  exact ZQ (Z1 Tryz.results78)
 ·have e1:idx (conEq c) s.cons 0=(j:Int):=by simpa using e1
  rw [e1] at ic
  have spec:dropCon s c=.ok {s with cons:=s.cons.take j++s.cons.drop (j+1)}:=by
   unfold dropCon
   rw [e1]
   simp only [Int.toNat_natCast]
   rw [if_neg (by omega)]
  rw [spec]
  have dl:=deleteCons_own (s.cons.map eCon) j (by simpa using hj) (by simp;omega) (by rw [noOwn_eCon];trivial)
  rw [List.length_map] at dl
  have cl:=cut_len s.cons j hj
  have cm:=cut_map eCon s.cons j hj [.str ByteArray.empty,.int .i64 0,.str ByteArray.empty,.int .i64 0,.int .i64 0,.int .i64 0,.str ByteArray.empty]
  unfold iB iR oBE oRE oB1 oR1 rE
  simp only [cl]
  refine ZM [1000] [1,2,3] Tryz.func78 Tryz.ntmps78 fun w0 m0 F0=>?_
  refine AWP.gq ?_
  refine AWP.frzR 1000 rfl ?_
  refine ZU (Z3 @frzR_mk @frzTblO @frzFKO) ?_
  refine AWP.frzR 1001 rfl ?_
  refine ZU (Z3 @frzR_mk @frzTblO @frzFKO) ?_
  refine ZV (Z3 @dropL_nil @dropL_nil' @dropL_cons) (Z1 (ic)) (Z1 (Zd 1 [(0,5)] [(5,[(6,1)],[])] [5] 8)) (Z1 (Zi [] [(1000,1002)] [] [(6,22)] [] [1002,22] [] [1002,22] (dl))) ?_
  refine Gq.cutR 22 (s.cons.length - 1) rfl rfl (by simp;omega) ?_
  refine ZU Z0 ?_
  refine Gq.renR 1000 1 rfl rfl (by decide) (.inl (Nat.le_of_ble_eq_true rfl)) ?_
  refine ZT Z0 ?_
  refine Gq.renR 1001 2 rfl rfl (by decide) (.inl (Nat.le_of_ble_eq_true rfl)) ?_
  refine ZT Z0 ?_
  refine Gq.renR 22 3 rfl rfl (by decide) (.inl (Nat.le_of_ble_eq_true rfl)) ?_
  refine ZT Z0 ?_
  refine Gq.done ?_
  refine ZR (Z1 Tryz.results78) ?_
  exact congrArg (fun x:List (List L)=>(⟨7,x,[]⟩:RowC)) cm
theorem dropFK1_sat (a f:FK) (ha:a.cols.length≤140737488355328):Sat Tryz.prog 117 [.agg (eFK a),.one (.fz (eFK f))] (.v (oB (fkEq a f))):=by
 refine ZE Tryz.func117 Tryz.ntmps117 fun w0 m0 F0=>?_
 refine ZW Z0 (Z1 (equalFKs_sat a f ha)) ?_
 exact ZQ (Z1 Tryz.results117)
set_option maxHeartbeats 16000000 in
theorem dropForeignKey_satM (s:Sch) (f:FK) (h1:s.tables.length≤1048576) (h2:s.fks.length≤1048576) (h3:s.cons.length≤1048576) (h4:∀f∈s.fks,f.cols.length≤1048576) :
  SatM Tryz.prog 79 [.one (.ptr 1000 0),.agg (eFK f)] (iB s) (iR s) (.v (oI (rE (dropFK s f)))) (oBE (dropFK s f)) (oRE (dropFK s f)):=by
 have ic:=indexFuncFK_sat s.fks 117 [.fz (eFK f)] (fun o=>fkEq o f) (by omega) fun o ho=>dropFK1_sat o f (by have:=h4 o ho;omega)
 rcases idx_cases (fun o=>fkEq o f) s.fks 0 with ⟨e1,_⟩|⟨j,hj,e1,_,_⟩
 ·rw [e1] at ic
  have spec:dropFK s f=.error 4:=by unfold dropFK;simp only [e1];rfl
  rw [spec]
  unfold iB iR oBE oRE rE
  simp only
  refine ZM [1000] [1,2,3] Tryz.func79 Tryz.ntmps79 fun w0 m0 F0=>?_
  refine AWP.frzR 1001 rfl ?_
  refine ZU (Z3 @frzR_mk @frzTblO @frzFKO) ?_
  refine ZW Z0 (Z1 (ic)) ?_
  exact ZQ (Z1 Tryz.results79)
 ·have e1:idx (fun o=>fkEq o f) s.fks 0=(j:Int):=by simpa using e1
  rw [e1] at ic
  have spec:dropFK s f=.ok {s with fks:=s.fks.take j++s.fks.drop (j+1)}:=by
   unfold dropFK
   simp only [e1,Int.toNat_natCast]
   rw [if_neg (by omega)]
  rw [spec]
  have dl:=deleteFKs_own (s.fks.map eFK) j (by simpa using hj) (by simp;omega) (by rw [noOwn_eFK];trivial)
  rw [List.length_map] at dl
  have cl:=cut_len s.fks j hj
  have cm:=cut_map eFK s.fks j hj [.str ByteArray.empty,.sl 1 [],.str ByteArray.empty]
  unfold iB iR oBE oRE oB1 oR1 rE
  simp only [cl]
  refine ZM [1000] [1,2,3] Tryz.func79 Tryz.ntmps79 fun w0 m0 F0=>?_
  refine AWP.gq ?_
  refine AWP.frzR 1000 rfl ?_
  refine ZU (Z3 @frzR_mk @frzTblO @frzFKO) ?_
  refine AWP.frzR 1001 rfl ?_
  refine ZU (Z3 @frzR_mk @frzTblO @frzFKO) ?_
  refine ZV (Z3 @dropL_nil @dropL_nil' @dropL_cons) (Z1 (ic)) Z0 (Z1 (Zi [] [(1000,1001)] [] [(6,22)] [] [1001,22] [] [1001,22] (dl))) ?_
  refine Gq.cutR 22 (s.fks.length - 1) rfl rfl (by simp;omega) ?_
  refine ZU Z0 ?_
  refine Gq.renR 1000 1 rfl rfl (by decide) (.inl (Nat.le_of_ble_eq_true rfl)) ?_
  refine ZT Z0 ?_
  refine Gq.renR 22 2 rfl rfl (by decide) (.inl (Nat.le_of_ble_eq_true rfl)) ?_
  refine ZT Z0 ?_
  refine Gq.renR 1002 3 rfl rfl (by decide) (.inl (Nat.le_of_ble_eq_true rfl)) ?_
  refine ZT Z0 ?_
  refine Gq.done ?_
  refine ZR (Z1 Tryz.results79) ?_
  exact congrArg (fun x:List (List L)=>(⟨3,x,[]⟩:RowC)) cm
set_option maxHeartbeats 16000000 in
theorem dropFK_okO (s:Sch) (f:FK) (j:Nat) (T:List (List L)) (nt:Nat) (hj:j<s.fks.length) (e1:idx (fun o=>fkEq o f) s.fks 0=(j:Int)) (h2:s.fks.length≤1048576) (h4:∀f∈s.fks,f.cols.length≤1048576) :
  SatM Tryz.prog 79 [.one (.ptr 1000 0),.agg (eFK f)] [(1000,[.ref 1000 0 nt,.ref 1001 0 s.fks.length,.ref 1002 0 s.cons.length])] [(1000,⟨3,T,[]⟩),(1001,⟨3,s.fks.map eFKO,[]⟩),(1002,⟨7,s.cons.map eCon,[]⟩)] (.v (oI 0))
   [(1000,[.ref 1000 0 nt,.ref 22 0 (s.fks.length - 1),.ref 1002 0 s.cons.length])] [(1000,⟨3,T,[]⟩),(22,⟨3,(s.fks.take j++s.fks.drop (j+1)).map eFKO,[]⟩),(1002,⟨7,s.cons.map eCon,[]⟩)]:=by
 have ic:=indexFuncFK_sat s.fks 117 [.fz (eFK f)] (fun o=>fkEq o f) (by omega) fun o ho=>dropFK1_sat o f (by have:=h4 o ho;omega)
 rw [e1] at ic
 have dl:=deleteFKs_ownO (s.fks.map eFKO) j (by simpa using hj) (by simp;omega)
 rw [List.length_map] at dl
 have cm:=cut_map eFKO s.fks j hj [.str ByteArray.empty,.sl 1 [],.str ByteArray.empty]
 refine ZM [1000] [1000,22,1002] Tryz.func79 Tryz.ntmps79 fun w0 m0 F0=>?_
 refine AWP.gq ?_
 refine ZV (Z5 @frz_eFKO @takeM' @dropL_nil @dropL_nil' @dropL_cons) (Z1 (ic)) Z0 (Z1 (Zi [] [(1000,1001)] [] [(6,22)] [] [1001,22] [] [1001,22] (dl))) ?_
 refine Gq.cutR 22 (s.fks.length - 1) rfl rfl (by simp;omega) ?_
 refine ZU Z0 ?_
 refine Gq.done ?_
 refine ZR (Z1 Tryz.results79) ?_
 exact congrArg (fun x:List (List L)=>(⟨3,x,[]⟩:RowC)) cm
set_option maxHeartbeats 16000000 in
theorem dropFK_satF (s:Sch) (f:FK) (h1:s.tables.length≤1048576) (h2:s.fks.length≤1048576) (h3:s.cons.length≤1048576) (h4:∀f∈s.fks,f.cols.length≤1048576) :
  SatM Tryz.prog 79 [.one (.ptr 1000 0),.agg (eFK f)] (iB s) (fR s) (.v (oI (rE (dropFK s f)))) (oBE (dropFK s f)) (oRE (dropFK s f)):=by
 have ic:=indexFuncFK_sat s.fks 117 [.fz (eFK f)] (fun o=>fkEq o f) (by omega) fun o ho=>dropFK1_sat o f (by have:=h4 o ho;omega)
 rcases idx_cases (fun o=>fkEq o f) s.fks 0 with ⟨e1,_⟩|⟨j,hj,e1,_,_⟩
 ·rw [e1] at ic
  have spec:dropFK s f=.error 4:=by unfold dropFK;simp only [e1];rfl
  rw [spec]
  unfold iB fR oBE oRE rE
  simp only
  refine ZM [1000] [1,2,3] Tryz.func79 Tryz.ntmps79 fun w0 m0 F0=>?_
  refine ZW Z0 (Z1 (ic)) ?_
  exact ZQ (Z1 Tryz.results79)
 ·have e1:idx (fun o=>fkEq o f) s.fks 0=(j:Int):=by simpa using e1
  rw [e1] at ic
  have spec:dropFK s f=.ok {s with fks:=s.fks.take j++s.fks.drop (j+1)}:=by
   unfold dropFK
   simp only [e1,Int.toNat_natCast]
   rw [if_neg (by omega)]
  rw [spec]
  have dl:=deleteFKs_own (s.fks.map eFK) j (by simpa using hj) (by simp;omega) (by rw [noOwn_eFK];trivial)
  rw [List.length_map] at dl
  have cl:=cut_len s.fks j hj
  have cm:=cut_map eFK s.fks j hj [.str ByteArray.empty,.sl 1 [],.str ByteArray.empty]
  unfold iB fR oBE oRE oB1 oR1 rE
  simp only [cl]
  refine ZM [1000] [1,2,3] Tryz.func79 Tryz.ntmps79 fun w0 m0 F0=>?_
  refine AWP.gq ?_
  refine ZV (Z3 @dropL_nil @dropL_nil' @dropL_cons) (Z1 (ic)) Z0 (Z1 (Zi [] [(1000,1001)] [] [(6,22)] [] [1001,22] [] [1001,22] (dl))) ?_
  refine Gq.cutR 22 (s.fks.length - 1) rfl rfl (by simp;omega) ?_
  refine ZU Z0 ?_
  refine Gq.renR 1000 1 rfl rfl (by decide) (.inl (Nat.le_of_ble_eq_true rfl)) ?_
  refine ZT Z0 ?_
  refine Gq.renR 22 2 rfl rfl (by decide) (.inl (Nat.le_of_ble_eq_true rfl)) ?_
  refine ZT Z0 ?_
  refine Gq.renR 1002 3 rfl rfl (by decide) (.inl (Nat.le_of_ble_eq_true rfl)) ?_
  refine ZT Z0 ?_
  refine Gq.done ?_
  refine ZR (Z1 Tryz.results79) ?_
  exact congrArg (fun x:List (List L)=>(⟨3,x,[]⟩:RowC)) cm
end Go.Bw
