/-
  WHAT IS PROVED HERE, of this translation: evValidate_sat, removeColumn_satM.
  A theorem that ends in sat says what the function it names returns, whatever the state it is called in; the bounds on its arguments stand ahead of it.
-/
import Derived.Test.YtdnapljegcihiaaGreatDoorVzb
set_option linter.unusedSimpArgs false
set_option linter.unusedVariables false
namespace Go.Bw
open Go.Proofs
set_option maxHeartbeats 16000000 in
theorem evValidate_sat (st:Stp) (h:st.Fits):Sat Tryz.prog 15 [.agg (eStp st)] (.v (oI (evValE st))):=by
 have c1:=normalized_sat st
 have c2:=stpEqual_sat st (evNorm st) h (evNorm_fits h)
 by_cases k1:st.kind<1
 ·have spec:evValE st=3:=by unfold evValE;rw [if_pos (.inl k1)]
  rw [spec]
  obtain ⟨bx,hbx⟩:∃bx,eStp st=.int .i64 st.kind::bx:=⟨_,rfl⟩
  rw [hbx]
  refine ZE Tryz.func15 Tryz.ntmps15 fun w0 m0 F0=>?_
  refine ZWpy Z0 (Z2 (c1) (c2)) ?_;repeat' (first|apply Zb|apply Zn|(apply Zm;intro h))
  exact ZQ (Z1 Tryz.results15)
 by_cases k2:16<st.kind
 ·have spec:evValE st=3:=by unfold evValE;rw [if_pos (.inr (.inl k2))]
  rw [spec]
  obtain ⟨bx,hbx⟩:∃bx,eStp st=.int .i64 st.kind::bx:=⟨_,rfl⟩
  rw [hbx]
  refine ZE Tryz.func15 Tryz.ntmps15 fun w0 m0 F0=>?_
  refine ZWpy Z0 (Z2 (c1) (c2)) ?_;repeat' (first|apply Zb|apply Zn|(apply Zm;intro h))
  exact ZQ (Z1 Tryz.results15)
 by_cases k3:st=evNorm st
 ·have spec:evValE st=0:=by unfold evValE;rw [if_neg (by rintro (q|q|q);exact k1 q;exact k2 q;exact q k3)]
  rw [spec]
  rw [decide_eq_true k3] at c2
  refine ZE Tryz.func15 Tryz.ntmps15 fun w0 m0 F0=>?_
  refine ZWpy (Z1 @eStp.eq_1) (Z2 (c1) (c2)) ?_;repeat' (first|apply Zb|apply Zn|(apply Zm;intro h))
  exact ZQ (Z1 Tryz.results15)
 ·have spec:evValE st=3:=by unfold evValE;rw [if_pos (.inr (.inr k3))]
  rw [spec]
  rw [decide_eq_false k3] at c2
  refine ZE Tryz.func15 Tryz.ntmps15 fun w0 m0 F0=>?_
  refine ZWpy (Z1 @eStp.eq_1) (Z2 (c1) (c2)) ?_;repeat' (first|apply Zb|apply Zn|(apply Zm;intro h))
  exact ZQ (Z1 Tryz.results15)
set_option maxHeartbeats 64000000 in
theorem removeColumn_satM (st:Stp) (fwd:Bool) (a b c:Sch) (inn comp o nw:Inst) (err:Int) (j q:Nat) (hj:j<a.tables.length) (ej:tblAt a.tables st.table=(j:Int)) (hji:j<inn.length) (h1:a.tables.length≤1048576) (h2:a.tables[j].cols.length≤1048576∧a.tables[j].pk.length≤1048576)
  (h3:inn[j].rows.length≤1048576) (h4:∀x∈inn[j].rows,q<x.length∧x.length≤1048576) (eq:mx0 (colAt a.tables[j].cols st.column)=(q:Int)) (ho:o.length≤1048576) (hn:nw.length≤1048576) :
  SatM Tryz.prog 141 [.one (.ptr 1000 0)] [(1000,mB st fwd a b c inn comp o.length nw.length err)] [(1001,⟨2,o.map eRel,[]⟩),(1002,⟨2,nw.map eRel,[]⟩)]
   (.tup []) [(1000,mB st fwd a b c inn comp o.length nw.length err)] [(1001,⟨2,(setR o st.table (remO q inn[j].rows)).map eRel,[]⟩),(1002,⟨2,(setR nw st.table (remC a.tables[j] q st.value inn[j].rows)).map eRel,[]⟩)]:=by
 have ip:=input_satM st fwd a b c inn comp (o.map eRel) (nw.map eRel) err st.table j hj ej hji h1 h2 ⟨h3,fun x hx=>(h4 x hx).2⟩
 rw [List.length_map,List.length_map] at ip
 obtain ⟨t,ht⟩:∃t,a.tables[j]=t:=⟨_,rfl⟩
 obtain ⟨rl,hr⟩:∃rl,inn[j]=rl:=⟨_,rfl⟩
 rw [ht] at h2 eq ip ⊢
 rw [hr] at h3 h4 ip ⊢
 have fc:=findColumn_sat t st.column (by omega)
 rw [eq] at fc
 obtain ⟨fb,hfb⟩:∃fb,decide (0≤colAt t.cols st.column)=fb:=⟨_,rfl⟩
 rw [hfb] at fc
 obtain ⟨rows,hrows⟩:∃rows,rl.rows=rows:=⟨_,rfl⟩
 rw [hrows] at h3 h4 ip ⊢
 have s1:=setOut_satM st fwd a b c inn comp o nw err st.table (remO q rows) ho
 have s2:=setComp_satM st fwd a b c inn comp (setR o st.table (remO q rows)) nw err st.table (remC t q st.value rows) hn
 have lsr:(setR o st.table (remO q rows)).length=o.length:=List.length_map ..
 rw [lsr] at s2
 rw [mBX,eSchX,eSchX,eSchX] at ip s1 s2 ⊢
 unfold eStp at ip s1 s2 ⊢
 simp only [List.cons_append,List.nil_append,eTblX] at ip s1 s2 fc ⊢
 refine ZM [1000] [1001,1002] Tryz.func141 Tryz.ntmps141 fun w0 m0 F0=>?_
 refine ZV (Z5 @okIds_ref @okIds_fr @dropL_nil @dropL_nil' @dropL_cons) Z0 (Z2 (Zs 2) (Zd 0 [(0,10)] [(10,[(11,1)],[(0,10)]),(12,[],[])] [10,12] 8)) (Z1 (Zi [(1000,1000)] [(1001,1001),(1002,1002)] [(1000,1000)] [(1001,1001),(1002,1002),(5,25)] [] [25] [1000,1000] [1001,1002,1001,1002,25] (ip))) ?_;repeat' (first|apply Zb|apply Zn|(apply Zk;intro K hK))
 refine ZV Z0 (Z1 (fc)) (Z2 (Zs 4) (Zd 2 [(0,6)] [(6,[(7,5)],[])] [6] 8)) Z0 ?_;repeat' (first|apply Zb|apply Zn|(apply Zk;intro K hK))
 obtain ⟨B,hB⟩:∃B,mB st fwd a b c inn comp o.length nw.length err=B:=⟨_,rfl⟩
 have lX0:(remX rows 0)=rows.map eRowO:=by unfold remX;simp
 refine ZV Z0 Z0 (Z1 (Zs 5)) Z0 ?_;repeat' (first|apply Zb|apply Zn|(apply Zk;intro K hK))
 refine AWP.loop (ι:={k:Nat // k≤rows.length}) (fun k=>⟨79,[(0,.v (.one (.ptr 1000 0))),(2,.v (oS st.table)),(3,.v (.one (.ptr 3 0))),(4,.v (.one (.ptr 4 0))),(6,.v (oI q)),(8,.v (.one (.ref 8 0 (remO q (rows.take k.1)).length))),(9,.v (.one (.ref 9 0 (remC t q st.value (rows.take k.1)).length))),(38,.v (.one (.ref 5 0 rows.length))),(39,.v (oI rows.length)),(40,.v (oI k.1))],[(1000,mB st fwd a b c inn comp o.length nw.length err),(3,eVal st.value),(4,eTbl t)],[(1001,⟨2,o.map eRel,[]⟩),(1002,⟨2,nw.map eRel,[]⟩),(5,⟨1,remX rows k.1,[]⟩),(8,⟨1,(remO q (rows.take k.1)).map eRow1,[]⟩),(9,⟨1,(remC t q st.value (rows.take k.1)).map eRow1,[]⟩)]⟩) (fun k=>rows.length - k.1) ⟨0,Nat.zero_le _⟩ ?_ fun ⟨k,hk⟩=>?_
 ·refine St.le_mk ?_ ?_ ?_<;>simp only [LE,EN,Nat.reduceEqDiff,reduceIte,Nat.reduceSub,mBX,eSchX,eTblX,eStp,List.cons_append,List.nil_append,remO,remC,List.take_zero,List.map_nil,List.filter_nil,List.length_nil,lX0,Int.natCast_zero]
 simp only at hk ⊢
 have lX:=remX_len rows k hk
 rcases Nat.lt_or_ge k rows.length with hc|hc
 ·obtain ⟨q1,q2⟩:=h4 _ (List.getElem_mem hc)
  have cX:=remX_cell rows k hc
  have nX:=remX_next rows k hc
  obtain ⟨x,hx⟩:∃x,rows[k]=x:=⟨_,rfl⟩
  have gX:=remX_get rows k hc
  rw [hx] at q1 q2 cX gX
  refine AWP.openC 5 k 0 2000 rfl cX rfl (by decide) (by decide) ?_
  refine ZU (Z5 @openR_mk @mBX @eSchX @eTblX @eStp.eq_1) ?_
  refine ZV (Z2 @lX @gX) Z0 (Z1 (Zs 7)) Z0 ?_;repeat' (first|apply Zb|apply Zn|(apply Zk;intro K hK))
  refine AWP.rowAny 5 k 0 rfl (by rw [lX];exact hc) ?_
  refine ZU (Z3 @ovCut_cons @ovCut_nil @nX) ?_
  have lk:(rows.take k).length=k:=by simp;omega
  have lO:=remO_len q (rows.take k)
  have lC:=remC_len t q st.value (rows.take k)
  have nO:=remO_snoc q rows k hc
  rw [hx] at nO
  obtain ⟨y,hy⟩:∃y,x[q]=y:=⟨_,rfl⟩
  have gy:(x.map eVal).getD q []=[.int .i64 y.kind,.int .i64 y.int,.str y.text]:=by rw [getD_map_lt _ _ _ q1,hy];rfl
  have eb:=valB y st.value
  have dl:=deleteVal_own (x.map eVal) q (by simpa using q1) (by simp;omega) (by rw [noOwn_eVal];trivial)
  rw [List.length_map] at dl
  have dXx:=delX x q q1 [.int .i64 0,.int .i64 0,.str ByteArray.empty]
  have lD:(x.take q++x.drop (q+1)).length=x.length - 1:=by simp;omega
  have ky:=keyR_satM t x (by omega) q2
  rw [eTblX] at ky
  have lK:=keyOf_length t.pk x
  by_cases hv:y=st.value
  ·rw [decide_eq_true hv] at eb
   have nC:=remC_miss t q st.value rows k hc (by rw [hx];exact q1) (by simp only [hx,hy];exact hv)
   refine ZVy (Z7 @gy @eb @lO @lk @dropL_nil @dropL_nil' @dropL_cons) Z0 (Z1 (Zs 10)) (Z1 (Zi [] [(1000,11)] [] [(6,67)] [] [11,67] [] [11,67] (dl))) ?_;repeat' (first|apply Zb|apply Zn|(apply Zk;intro K hK))
   refine AWP.cutR 67 (x.length - 1) rfl rfl (by simp;omega) ?_
   refine ZU (Z1 @dXx) ?_
   refine AWP.close 8 k 0 67 rfl rfl (by decide) (by simp [ovGet];omega) (by simp;omega) (by show 0<1;decide) rfl ?_
   refine ZU (Z3 @closeR_mk @ovCut_cons @ovCut_nil) ?_
   rw [setCell_last eRow1 _ k (by omega)]
   refine AWP.frzR 8 rfl ?_
   refine ZU (Z5 @frzR_mk @frzTblO @frzFKO (@List.set_cons_zero.{0}) @frzXs_snoc) ?_
   rw [←nO]
   refine ZW Z0 Z0 ?_;repeat' (first|apply Zb|apply Zn|(apply Zk;intro K hK))
   refine ⟨⟨k+1,by omega⟩,by simp only;omega,?_⟩
   have lO2:=remO_len q (rows.take (k+1))
   have lk2:(rows.take (k+1)).length=k+1:=by simp;omega
   exact ZN (Z9 @mBX @eSchX @eTblX @eStp.eq_1 @nC @lO2 @lk2 @Int.natCast_add @Int.natCast_one)
  ·rw [decide_eq_false hv] at eb
   have nC:=remC_hit t q st.value rows k hc (by rw [hx];exact q1) (by simp only [hx,hy];exact hv)
   simp only [hx,hy] at nC
   refine yD tyOk mixed 8 (by kernel_rfl) fun K hK=>?_
   refine ZU (Z2 @gy @eb) ?_
   refine ZW Z0 Z0 ?_;repeat' (first|apply Zb|apply Zn|(apply Zk;intro K hK))
   obtain ⟨C0,hC0⟩:∃C0,remC t q st.value (rows.take k)=C0:=⟨_,rfl⟩
   rw [hC0] at nC lC ⊢
   refine AWP.mid ⟨79,[(0,.v (.one (.ptr 1000 0))),(2,.v (oS st.table)),(3,.v (.one (.ptr 3 0))),(4,.v (.one (.ptr 4 0))),(6,.v (oI q)),(8,.v (.one (.ref 8 0 k))),(9,.v (.one (.ref 9 0 (C0.length+1)))),(11,.v (.one (.ref 11 0 x.length))),(38,.v (.one (.ref 5 0 rows.length))),(39,.v (oI rows.length)),(40,.v (oI k))],[(1000,mB st fwd a b c inn comp o.length nw.length err),(3,eVal st.value),(4,eTbl t)],[(9,⟨1,C0.map eRow1++[[.any]],[(C0.length,0,.ref 59 0 (t.pk.length+1))]⟩),(59,⟨3,(keyOf t.pk x).map eVal++[[.int .i64 y.kind,.int .i64 y.int,.str y.text]],[]⟩),(11,⟨3,x.map eVal,[]⟩),(5,⟨1,remX rows (k+1),[]⟩),(1001,⟨2,o.map eRel,[]⟩),(1002,⟨2,nw.map eRel,[]⟩),(8,⟨1,(remO q (rows.take k)).map eRow1,[]⟩)]⟩ ?_ ?_
   ·refine dY tyOk mixed [(0,3),(4,4)] (.cons 3 [] [(0,1),(4,4)] (.cons 8 [] [(0,1)] (.cons 9 [] [(0,1)] (.cons 10 [] [(0,1)] (.cons 11 [] [] (.cons 12 [] [] .leaf .none) .none) .none) .none) .none) (.cons 8 [] [(0,3)] (.cons 3 [] [(0,1)] (.cons 9 [] [(0,1)] (.cons 10 [] [(0,1)] (.cons 11 [] [] (.cons 12 [] [] .leaf .none) .none) .none) .none) .none) .none)) [3,8,9,10,11,12] 8 fun K hK=>?_
    simp only [segt_leaf,segt_none,segt_cons,segs,List.drop_succ_cons,List.drop_zero,List.take_succ_cons,List.take_zero,List.getElem?_cons_zero,List.getElem?_cons_succ,List.cons_append,List.nil_append,List.append_nil] at hK ⊢
    refine ZU (Z1 @gy) ?_
    refine ZV (Z7 @gy @lO @lk @lK @dropL_nil @dropL_nil' @dropL_cons) Z0 Z0 (Z1 (Zi [] [(1000,11)] [] [(1000,11),(4,53)] [] [53] [] [11,11,53] (ky))) ?_;repeat' (first|apply Zb|apply Zn|(apply Zk;intro K hK))
    all_goals refine Gq.done ⟨rfl,?_⟩
    all_goals refine St.le_mk ?_ ?_ ?_<;>simp only [LE,EN,Nat.reduceEqDiff,reduceIte,Nat.reduceSub,mBX,eSchX,eTblX,eStp,List.cons_append,List.nil_append]
   refine ZU (Z4 @mBX @eSchX @eTblX @eStp.eq_1) ?_
   have e9:(keyOf t.pk x).map eVal++[[L.int .i64 y.kind,L.int .i64 y.int,L.str y.text]]=(keyOf t.pk x++[y]).map eVal:=by rw [List.map_append];rfl
   refine AWP.close 9 C0.length 0 59 rfl rfl (by decide) (by simp [ovGet];omega) (by simp) (by show 0<1;decide) rfl ?_
   refine ZU (Z3 @closeR_mk @ovCut_cons @ovCut_nil) ?_
   rw [setCell_last eRow1 _ _ rfl]
   simp only [e9]
   refine AWP.frzR 9 rfl ?_
   refine ZU (Z5 @frzR_mk @frzTblO @frzFKO (@List.set_cons_zero.{0}) @frzXs_snoc) ?_
   rw [←nC]
   refine ZV (Z5 @lO @lk @dropL_nil @dropL_nil' @dropL_cons) Z0 (Z1 (Zs 10)) (Z1 (Zi [] [(1000,11)] [] [(6,67)] [] [11,67] [] [11,67] (dl))) ?_;repeat' (first|apply Zb|apply Zn|(apply Zk;intro K hK))
   refine AWP.cutR 67 (x.length - 1) rfl rfl (by simp;omega) ?_
   refine ZU (Z1 @dXx) ?_
   refine AWP.close 8 k 0 67 rfl rfl (by decide) (by simp [ovGet];omega) (by simp;omega) (by show 0<1;decide) rfl ?_
   refine ZU (Z3 @closeR_mk @ovCut_cons @ovCut_nil) ?_
   rw [setCell_last eRow1 _ k (by omega)]
   refine AWP.frzR 8 rfl ?_
   refine ZU (Z5 @frzR_mk @frzTblO @frzFKO (@List.set_cons_zero.{0}) @frzXs_snoc) ?_
   rw [←nO]
   refine ZW Z0 Z0 ?_;repeat' (first|apply Zb|apply Zn|(apply Zk;intro K hK))
   refine ⟨⟨k+1,by omega⟩,by simp only;omega,?_⟩
   have lO2:=remO_len q (rows.take (k+1))
   have lk2:(rows.take (k+1)).length=k+1:=by simp;omega
   have lC2:(remC t q st.value (rows.take (k+1))).length=C0.length+1:=by rw [nC];simp
   exact ZN (Z9 @mBX @eSchX @eTblX @eStp.eq_1 @lO2 @lk2 @lC2 @Int.natCast_add @Int.natCast_one)
 ·have hk2:k=rows.length:=by omega
  subst hk2
  rw [List.take_length]
  refine ZU (Z4 @mBX @eSchX @eTblX @eStp.eq_1) ?_
  refine ZV Z0 Z0 (Z1 (Zs 11)) Z0 ?_;repeat' (first|apply Zb|apply Zn|(apply Zk;intro K hK))
  refine AWP.frz [1000] [1001,1002] ?_
  refine ZS Z0 ?_
  unfold eRows at s1 s2
  refine ZV (Z5 @okIds_ref @okIds_fr @dropL_nil @dropL_nil' @dropL_cons) Z0 (Z1 (Zs 12)) (Z1 (Zi [(1000,1000)] [(1001,1001),(1002,1002)] [(1000,1000)] [(1001,1001),(1002,1002)] [] [] [1000,1000] [1001,1002,1001,1002] (s1))) ?_;repeat' (first|apply Zb|apply Zn|(apply Zk;intro K hK))
  refine ZV (Z5 @okIds_ref @okIds_fr @dropL_nil @dropL_nil' @dropL_cons) Z0 Z0 (Z1 (Zi [(1000,1000)] [(1001,1001),(1002,1002)] [(1000,1000)] [(1001,1001),(1002,1002)] [] [] [1000,1000] [1001,1002,1001,1002] (s2))) ?_;repeat' (first|apply Zb|apply Zn|(apply Zk;intro K hK))
  exact ZQ (Z1 Tryz.results141)
end Go.Bw
