/-
  WHAT IS PROVED HERE, of this translation: join_err.
  A theorem that ends in sat says what the function it names returns, whatever the state it is called in; the bounds on its arguments stand ahead of it.
-/
import Derived.Test.YtdnapljegcihiaaGreatDoorVn
set_option linter.unusedSimpArgs false
set_option linter.unusedVariables false
namespace Go.Bw
open Go.Proofs
set_option maxHeartbeats 16000000 in
theorem join_err (s:Sch) (i:Nat) (name:ByteArray) (e:Int) (hi:i<s.tables.length) (sm:SmallS s) (hpk:∀t∈s.tables,PkOk t) (hE:joinT s i name=.error e) :
  SatM Tryz.prog 83 [.one (.ptr 1000 0),oI i,oS name] (iB s) (iR s) (.v (oI e)) [] []:=by
 have b1:=sm.tables
 have b2:=sm.table s.tables[i] (List.getElem_mem hi)
 have b3:=sm.fks
 have b4:=sm.cons
 have b5:∀f∈s.fks,f.cols.length≤1048576:=fun f hf=>by have:=(sm.fk f hf).1;omega
 have p1:=hpk s.tables[i] (List.getElem_mem hi)
 obtain ⟨t,ht⟩:∃t,s.tables[i]=t:=⟨_,rfl⟩
 have htA:tAt s i=t:=by unfold tAt;rw [getD_lt _ hi,ht]
 rw [ht] at b2 p1
 obtain ⟨b6,b7,_⟩:=b2
 have fs:=findTable_sat s name (by omega)
 have lm:(s.tables.map eTbl).length=s.tables.length:=List.length_map ..
 have gi:(s.tables.map eTbl).getD i []=eTbl t:=by rw [getD_map_lt _ _ _ hi,ht]
 unfold joinT at hE
 rcases idx_cases (fun u=>sEq u.name name) s.tables 0 with ⟨e1,_⟩|⟨j,hj,e1,_,_⟩
 ·have e1:tblAt s.tables name=-1:=e1
  rw [e1,mx0_neg] at fs
  simp only [e1] at hE
  rw [if_pos (by omega)] at hE
  injection hE with hE
  subst hE
  unfold iB iR
  refine ZM [1000] [1,2,3] Tryz.func83 Tryz.ntmps83 fun w0 m0 F0=>?_
  refine AWP.frzR 1000 rfl ?_
  refine ZU (Z3 @frzR_mk @frzTblO @frzFKO) ?_
  refine AWP.frzR 1001 rfl ?_
  refine ZU (Z3 @frzR_mk @frzTblO @frzFKO) ?_
  refine ZV Z0 (Z1 (fs)) (Z1 (Zd 1 [(0,4)] [(4,[(5,5)],[])] [4] 8)) Z0 ?_;repeat' (first|apply Zb|apply Zn|(apply Zk;intro K hK))
  exact ZQ (Z1 Tryz.results83)
 have e1:tblAt s.tables name=(j:Int):=by unfold tblAt;simpa using e1
 rw [e1,mx0_nat,decide_eq_true (show (0:Int)≤(j:Int) by omega)] at fs
 have j0:¬ (j:Int)<0:=by omega
 obtain ⟨o,ho⟩:∃o,s.tables[j]=o:=⟨_,rfl⟩
 have hoA:tAt s j=o:=by unfold tAt;rw [getD_lt _ hj,ho]
 have gj:(s.tables.map eTbl).getD j []=eTbl o:=by rw [getD_map_lt _ _ _ hj,ho]
 have b8:=sm.table s.tables[j] (List.getElem_mem hj)
 have p2:=hpk s.tables[j] (List.getElem_mem hj)
 rw [ho] at b8 p2
 obtain ⟨b9,b10,_⟩:=b8
 simp only [e1,if_neg j0,Int.toNat_natCast,htA,hoA] at hE
 have sq:=sequence_sat t.pk.length (by omega)
 have ep:=equalInts_sat o.pk (seqI t.pk.length) (by omega)
 unfold iB iR
 refine ZM [1000] [1,2,3] Tryz.func83 Tryz.ntmps83 fun w0 m0 F0=>?_
 refine AWP.frzR 1000 rfl ?_
 refine ZU (Z3 @frzR_mk @frzTblO @frzFKO) ?_
 refine AWP.frzR 1001 rfl ?_
 refine ZU (Z3 @frzR_mk @frzTblO @frzFKO) ?_
 refine ZV (Z3 @lm @gi @gj) (Z1 (fs)) (Z2 (Zs 4) (Zd 1 [(0,4)] [(4,[(5,5)],[])] [4] 8)) Z0 ?_;repeat' (first|apply Zb|apply Zn|(apply Zk;intro K hK))
 refine AWP.mid ⟨188,[(0,.v (.one (.ptr 1000 0))),(1,.v (oI i)),(5,.v (.one (.ptr 5 0))),(6,.v (oI 0)),(7,.v (oI j)),(9,.v (.one (.ptr 9 0))),(10,.v (.one (.ptr 10 0)))],[(9,eTbl t),(10,eTbl o),(5,[.str name]),(1000,[.ref 1000 0 s.tables.length,.ref 1001 0 s.fks.length,.ref 1002 0 s.cons.length])],[(1000,⟨3,s.tables.map eTbl,[]⟩),(1001,⟨3,s.fks.map eFK,[]⟩),(1002,⟨7,s.cons.map eCon,[]⟩)]⟩ ?_ ?_
 ·refine dY tyOk mixed [(0,14)] (.cons 14 [] [(0,14)] (.cons 15 [] [(0,14)] (.cons 16 [] [(7,7)] (.cons 17 [] [] .leaf .none) .none) .none) (.cons 15 [] [(0,14)] (.cons 14 [] [(0,14)] (.cons 16 [] [(7,7)] (.cons 17 [] [] .leaf .none) .none) .none) .none)) [14,15,16,17] 8 fun K hK=>?_
  simp only [segt_leaf,segt_none,segt_cons,segs,List.drop_succ_cons,List.drop_zero,List.take_succ_cons,List.take_zero,List.getElem?_cons_zero,List.getElem?_cons_succ,List.cons_append,List.nil_append,List.append_nil] at hK ⊢
  refine ZU (Z3 @gi @gj @lm) ?_
  refine ZV (Z3 @gi @gj @lm) Z0 Z0 Z0 ?_;repeat' (first|apply Zb|apply Zn|(apply Zk;intro K hK))
  all_goals refine Gq.done ⟨rfl,?_⟩
  all_goals refine St.le_mk ?_ ?_ ?_<;>simp only [LE,EN,Nat.reduceEqDiff,reduceIte,Nat.reduceSub,eTbl]
 by_cases hij:i=j
 ·subst hij
  rw [if_pos (.inl rfl)] at hE
  injection hE with hE
  subst hE
  refine ZWy Z0 Z0 ?_;repeat' (first|apply Zb|apply Zn|(apply Zk;intro K hK))
  exact ZQ (Z1 Tryz.results83)
 have hij':¬ (i:Int)=(j:Int):=by omega
 by_cases hpq:o.pk=seqI t.pk.length
 case neg =>
  rw [if_pos (.inr hpq)] at hE
  injection hE with hE
  subst hE
  rw [decide_eq_false hpq] at ep
  refine ZWy (Z1 @hij') (Z2 (sq) (ep)) ?_;repeat' (first|apply Zb|apply Zn|(apply Zk;intro K hK))
  exact ZQ (Z1 Tryz.results83)
 rw [decide_eq_true hpq] at ep
 rw [if_neg (by rintro (h|h);exact hij' h;exact h hpq)] at hE
 have ol:=seq_le p2 hpq
 refine ZWy (Z1 @hij') (Z2 (sq) (ep)) ?_;repeat' (first|apply Zb|apply Zn|(apply Zk;intro K hK))
 have hE:joinR s i j t o name=.error e:=hE
 unfold joinR at hE
 refine AWP.loop (ι:={k:Nat // k≤t.pk.length∧scan (joinK t o) (t.pk.drop k) k=scan (joinK t o) t.pk 0}) (fun k=>⟨188,[(0,.v (.one (.ptr 1000 0))),(1,.v (oI i)),(5,.v (.one (.ptr 5 0))),(6,.v (oI 0)),(7,.v (oI j)),(9,.v (.one (.ptr 9 0))),(10,.v (.one (.ptr 10 0))),(11,.v (.one (.ptr 11 0))),(57,.v (.one (.sl 1 (t.pk.map eInt1)))),(58,.v (oI t.pk.length)),(59,.v (oI k.1))],[(11,[.int .i64 (t.pk.length:Int)]),(9,eTbl t),(10,eTbl o),(5,[.str name]),(1000,[.ref 1000 0 s.tables.length,.ref 1001 0 s.fks.length,.ref 1002 0 s.cons.length])],[(1000,⟨3,s.tables.map eTbl,[]⟩),(1001,⟨3,s.fks.map eFK,[]⟩),(1002,⟨7,s.cons.map eCon,[]⟩)]⟩) (fun k=>t.pk.length - k.1) ⟨0,Nat.zero_le _,rfl⟩ ?_ fun ⟨k,hkl,hki⟩=>?_
 ·exact ZL (Z1 @eTbl.eq_1)
 simp only at hkl hki ⊢
 rcases Nat.lt_or_ge k t.pk.length with hc|hc
 ·obtain ⟨q,hq,q1⟩:∃q:Nat,t.pk[k]=(q:Int)∧q<t.cols.length:=⟨t.pk[k].toNat,by have:=p1 t.pk[k] (List.getElem_mem hc);omega,by have:=p1 t.pk[k] (List.getElem_mem hc);omega⟩
  have gp:(t.pk.map eInt1).getD k []=[.int .i64 (q:Int)]:=by rw [getD_map_lt _ _ _ hc,hq];rfl
  have g1:(t.cols.map eCol).getD q []=eCol (t.cols.getD q zCol):=by rw [getD_map_lt _ _ _ q1,getD_lt _ q1]
  have g2:(o.cols.map eCol).getD k []=eCol (o.cols.getD k zCol):=by rw [getD_map_lt _ _ _ (by omega),getD_lt _ (by omega)]
  have sp:joinK t o k t.pk[k]=if (t.cols.getD q zCol).kind=(o.cols.getD k zCol).kind then none else some 9:=by unfold joinK;rw [hq,Int.toNat_natCast,ite_not]
  by_cases hx:(t.cols.getD q zCol).kind=(o.cols.getD k zCol).kind
  ·rw [if_pos hx] at sp
   refine ZWy (Z4 @gp @g1 @g2 @hx) Z0 ?_;repeat' (first|apply Zb|apply Zn|(apply Zk;intro K hK))
   refine ⟨⟨k+1,by omega,by rw [scan_step (by omega) sp,hki]⟩,by simp only;omega,?_⟩
   exact ZL (Z1 @eTbl.eq_1)
  ·rw [if_neg hx] at sp
   rw [scan_leaf (by omega) sp hki] at hE
   injection hE with hE
   subst hE
   refine ZWy (Z4 @gp @g1 @g2 @hx) Z0 ?_;repeat' (first|apply Zb|apply Zn|(apply Zk;intro K hK))
   exact ZQ (Z1 Tryz.results83)
 rw [scan_end (by omega)] at hki
 rw [←hki] at hE
 simp only at hE
 have df:=dropFK_satF s ⟨name,seqI t.pk.length,t.name⟩ (by omega) (by omega) (by omega) b5
 have ek:eFK ⟨name,seqI t.pk.length,t.name⟩=[.str name,.sl 1 ((seqI t.pk.length).map eInt1),.str t.name]:=rfl
 rw [ek] at df
 cases hd:dropFK s ⟨name,seqI t.pk.length,t.name⟩ with
 | error e' =>
  rw [hd] at hE df
  injection hE with hE
  subst hE
  have h4:e'≠0:=by
   unfold dropFK at hd
   simp only at hd
   split at hd
   ·injection hd with hd;omega
   ·cases hd
  unfold iB fR oBE oRE rE at df
  simp only at df
  refine ZV (Z5 @okIds_ref @h4 @dropL_nil @dropL_nil' @dropL_cons) (Z1 (sq)) (Z1 (Zd 14 [(0,3),(4,2)] [(3,[(6,1)],[(0,2),(4,2)]),(7,[(8,1)],[])] [3,7] 8)) (Z1 (Zi [(1000,1000)] [(1000,1000),(1001,1001),(1002,1002)] [] [] [1000] [1000,1001,1002] [1000] [1000,1001,1002] (df))) ?_;repeat' (first|apply Zb|apply Zn|(apply Zk;intro K hK))
  exact ZQ (Z1 Tryz.results83)
 | ok s1 =>
  rw [hd] at hE df
  simp only at hE
  have cf:=containsFFK_sat s1.fks 128 [.fz [.str name]] _ (by
   have:=dropFK_len hd
   omega) fun t _=>join1_sat t name
  cases hx:(s1.fks.any fun f=>sEq f.ref name) with
  | false=>rw [hx] at hE;simp at hE
  | true =>
   rw [hx] at hE cf
   rw [if_pos rfl] at hE
   injection hE with hE
   subst hE
   unfold iB fR oBE oRE oB1 oR1 rE at df
   simp only at df
   refine ZV (Z4 @okIds_ref @dropL_nil @dropL_nil' @dropL_cons) (Z2 (sq) (cf)) (Z1 (Zd 14 [(0,3),(4,2)] [(3,[(6,1)],[(0,2),(4,2)]),(7,[(8,1)],[])] [3,7] 8)) (Z1 (Zi [(1000,1000)] [(1000,1000),(1001,1001),(1002,1002)] [(1000,1000)] [(1,1),(2,2),(3,3)] [] [1000,1001,1002,1,2,3] [1000,1000] [1000,1001,1002,1,2,3] (df))) ?_;repeat' (first|apply Zb|apply Zn|(apply Zk;intro K hK))
   exact ZQ (Z1 Tryz.results83)
end Go.Bw
