/-
  WHAT IS PROVED HERE, of this translation: stpEqual_sat, insertColumn_satM.
  A theorem that ends in sat says what the function it names returns, whatever the state it is called in; the bounds on its arguments stand ahead of it.
-/
import Derived.Test.YtdnapljegcihiaaGreatDoorVw
import Derived.Test.YtdnapljegcihiaaGreatDoorVx
set_option linter.unusedSimpArgs false
set_option linter.unusedVariables false
namespace Go.Bw
open Go.Proofs
set_option maxRecDepth 100000 in
set_option maxHeartbeats 16000000 in
theorem stpEqual_sat (a b:Stp) (ha:a.Fits) (hb:b.Fits):Sat Tryz.prog 47 [.agg (eStp a),.agg (eStp b)] (.v (oB (decide (a=b)))):=by
 have a1:=ha.cols
 have a2:=ha.ncols
 have a3:=ha.npk
 have a4:=ha.fk
 have b2:=hb.ncols
 have c1:=equalInts_sat a.cols b.cols (by omega)
 have c2:=equalTables_sat a.newTable b.newTable (by omega) (by omega) (by omega)
 have c3:=equalFKs2_sat a.fk b.fk (by omega)
 have c4:Sat Tryz.prog 97 [.agg (eTbl a.newTable),.agg (eTbl b.newTable)] (.v (oB (decide (a.newTable=b.newTable)))):=by
  refine ZE Tryz.func97 Tryz.ntmps97 fun w0 m0 F0=>?_
  refine ZW Z0 (Z1 (c2)) ?_;repeat' (first|apply Zb|apply Zn|(apply Zk;intro K hK))
  exact ZQ (Z1 Tryz.results97)
 simp only [eTbl] at c4
 simp only [eFK] at c3
 refine ZE Tryz.func47 Tryz.ntmps47 fun w0 m0 F0=>?_
 refine qA ?_
 refine qV tyOk fun K hK=>?_
 refine ZU (Z1 @eStp.eq_1) ?_
 refine hK _ (qB ?_)
 try clear hK K
 refine qA ?_
 refine qV tyOk fun K hK=>?_
 simp only [List.append_eq,List.cons_append,List.nil_append]
 refine ZU (Z1 @eStp.eq_1) ?_
 refine ZWp (Z1 @eStp.eq_1) (Z3 (c1) (c4) (c3)) ?_;repeat' (first|apply Zb|apply Zn|(apply Zm;intro h)|(apply Zk;intro K hK))
 all_goals simp -dsimp (disch:=first|exact D|fail) only [retQ,Tryz.results47,resVals,cellRV,resOf,St.rest,St.freeze,RT,go_sem,↓reduceIte,seval]
 all_goals
  by_cases he:a=b
  ·have he':=stp_eq.1 he
   simp only [he,decide_true]
   all_goals simp_all
  ·have he':=fun q=>he (stp_eq.2 q)
   simp only [he,decide_false]
   all_goals simp_all
set_option maxHeartbeats 64000000 in
theorem insertColumn_satM (st:Stp) (fwd:Bool) (a b:Sch) (T0:Tbl) (inn:Inst) (tn:ByteArray) (crows:List Row) (o nw:Inst) (err:Int) (j jb q:Nat) (hj:j<a.tables.length) (ej:tblAt a.tables st.table=(j:Int)) (hji:j<inn.length) (h1:a.tables.length≤1048576) (h2:a.tables[j].cols.length≤1048576∧a.tables[j].pk.length≤1048576)
  (h3:inn[j].rows.length≤1048576) (h4:∀x∈inn[j].rows,x.length=q) (hq:q≤1048576) (hjb:jb<b.tables.length) (ejb:tblAt b.tables st.table=(jb:Int)) (hb:b.tables.length≤1048576) (hbc:b.tables[jb].cols.length≤1048576) (eq:mx0 (colAt b.tables[jb].cols st.column)=(q:Int))
  (hp:T0.pk.length≤1048576) (hcr:crows.length≤1048576) (hw:∀r∈crows,T0.pk.length<r.length∧r.length≤1048576) (ho:o.length≤1048576) (hn:nw.length≤1048576) :
  SatM Tryz.prog 140 [.one (.ptr 1000 0)] [(1000,mB st fwd a b ⟨[T0],[],[]⟩ inn [⟨tn,crows⟩] o.length nw.length err)] [(1001,⟨2,o.map eRel,[]⟩),(1002,⟨2,nw.map eRel,[]⟩)]
   (.tup []) [(1000,mB st fwd a b ⟨[T0],[],[]⟩ inn [⟨tn,crows⟩] o.length nw.length err)] [(1001,⟨2,(setR o st.table (insO T0 crows a.tables[j] st.value inn[j].rows)).map eRel,[]⟩),(1002,⟨2,(setR nw st.table (insC T0 crows a.tables[j] st.value inn[j].rows)).map eRel,[]⟩)]:=by
 have ip:=input_satM st fwd a b ⟨[T0],[],[]⟩ inn [⟨tn,crows⟩] (o.map eRel) (nw.map eRel) err st.table j hj ej hji h1 h2 ⟨h3,fun x hx=>by rw [h4 x hx];exact hq⟩
 have op:=output_satM st fwd a b ⟨[T0],[],[]⟩ inn [⟨tn,crows⟩] (o.map eRel) (nw.map eRel) err st.table jb hjb ejb hb
 rw [List.length_map,List.length_map] at ip op
 obtain ⟨t,ht⟩:∃t,a.tables[j]=t:=⟨_,rfl⟩
 obtain ⟨tb,htb⟩:∃tb,b.tables[jb]=tb:=⟨_,rfl⟩
 obtain ⟨rl,hr⟩:∃rl,inn[j]=rl:=⟨_,rfl⟩
 rw [ht] at h2 ip ⊢
 rw [htb] at op eq hbc
 rw [hr] at h3 h4 ip ⊢
 have fc:=findColumn_sat tb st.column (by omega)
 rw [eq] at fc
 obtain ⟨fb,hfb⟩:∃fb,decide (0≤colAt tb.cols st.column)=fb:=⟨_,rfl⟩
 rw [hfb] at fc
 obtain ⟨rows,hrows⟩:∃rows,rl.rows=rows:=⟨_,rfl⟩
 rw [hrows] at h3 h4 ip ⊢
 have s1:=setOut_satM st fwd a b ⟨[T0],[],[]⟩ inn [⟨tn,crows⟩] o nw err st.table (insO T0 crows t st.value rows) ho
 have s2:=setComp_satM st fwd a b ⟨[T0],[],[]⟩ inn [⟨tn,crows⟩] (setR o st.table (insO T0 crows t st.value rows)) nw err st.table (insC T0 crows t st.value rows) hn
 have lsr:(setR o st.table (insO T0 crows t st.value rows)).length=o.length:=List.length_map ..
 rw [lsr] at s2
 rw [mBX,eSchX,eSchX,eSchX] at ip op s1 s2 ⊢
 unfold eStp at ip op s1 s2 ⊢
 simp only [List.cons_append,List.nil_append,eTblX,List.map_cons,List.map_nil,eRel,eRows] at ip op s1 s2 fc ⊢
 refine sM tyOk [1000] [1001,1002] Tryz.func140 fun w0 m0 F0=>?_
 simp only [Tryz.ntmps140,envOf,Nat.reduceAdd]
 repeat' (first|((first|((fail_if_success (refine AWP.isRegion 2 ?_));(with_reducible refine qV tyOk fun K hK=>?_))|(refine AWP.isRegion 0 ?_;refine dX tyOk mixed [(0,10)] [(10,[(11,1)],[(0,10)]),(12,[],[])] [10,12] 8 fun K hK=>?_;simp only [SG,segs] at hK ⊢)|((with_reducible refine CallJ.is ?_);refine CallJ.io [(1000,1000)] [(1001,1001),(1002,1002)] [(1000,1000)] [(1001,1001),(1002,1002),(5,29)] [] [29] [1000,1000] [1001,1002,1001,1002,29] (ip) rfl ⟨rfl,rfl,rfl,rfl⟩ ?_ ?_ ?_)|(with_reducible first|refine VCy.some fun K hK=>?_|refine VCy.step fun K hK=>?_))<;>simp -dsimp (disch:=first|exact D|fail) only [go_sem,↓reduceIte,seval,okIds_ref,okIds_fr,Option.getD_none,dropL_nil,dropL_nil',dropL_cons])|((with_reducible refine hK _ ?_);clear hK K)|(with_reducible refine VCy.intro fun K0 hK0=>?_)|((with_reducible refine VCy.fin ?_);(refine hK0 _ ?_);clear hK0 K0)|(with_reducible first|refine VCy.quiet ?_|refine VCy.none ?_)|((with_reducible refine VCy.keep ?_ ?_);focus ((simp -dsimp (disch:=first|exact D|fail) only [go_sem,↓reduceIte,seval,Stable_cons,Stable_nil,sameA_some,sameA_none,okIds_ref,okIds_fr,Option.getD_none,dropL_nil,dropL_nil',dropL_cons]);first|done|exact E|fail))|refine Q1 ?_|fail)
 repeat' (first|((first|((fail_if_success (refine AWP.isRegion 5 ?_));(with_reducible refine qV tyOk fun K hK=>?_))|(refine AWP.isRegion 2 ?_;refine dX tyOk mixed [(0,2),(3,5)] [(2,[],[(3,5)]),(8,[(9,5)],[])] [2,8] 8 fun K hK=>?_;simp only [SG,segs] at hK ⊢)|((with_reducible refine CallJ.is ?_);refine CallJ.io [(1000,1000)] [(1001,1001),(1002,1002)] [(1000,1000)] [(1001,1001),(1002,1002)] [] [] [1000,1000] [1001,1002,1001,1002] (op) rfl ⟨rfl,rfl,rfl,rfl⟩ ?_ ?_ ?_)|((with_reducible refine CallJ.is ?_);(refine CallJ.pure (fc) ?_))|(with_reducible first|refine VCy.some fun K hK=>?_|refine VCy.step fun K hK=>?_))<;>simp -dsimp (disch:=first|exact D|fail) only [go_sem,↓reduceIte,seval,okIds_ref,okIds_fr,Option.getD_none,dropL_nil,dropL_nil',dropL_cons])|((with_reducible refine hK _ ?_);clear hK K)|(with_reducible refine VCy.intro fun K0 hK0=>?_)|((with_reducible refine VCy.fin ?_);(refine hK0 _ ?_);clear hK0 K0)|(with_reducible first|refine VCy.quiet ?_|refine VCy.none ?_)|((with_reducible refine VCy.keep ?_ ?_);focus ((simp -dsimp (disch:=first|exact D|fail) only [go_sem,↓reduceIte,seval,Stable_cons,Stable_nil,sameA_some,sameA_none,okIds_ref,okIds_fr,Option.getD_none,dropL_nil,dropL_nil',dropL_cons]);first|done|exact E|fail))|refine Q1 ?_|fail)
 have lX0:(remX rows 0)=rows.map eRowO:=by unfold remX;simp
 refine AWP.loop (ι:={k:Nat // k≤rows.length}) (fun k=>⟨91,[(0,.v (.one (.ptr 1000 0))),(2,.v (oS st.table)),(3,.v (.one (.ptr 3 0))),(4,.v (.one (.ptr 4 0))),(6,.v (oI q)),(8,.v (.one (.ref 8 0 (insO T0 crows t st.value (rows.take k.1)).length))),(9,.v (.one (.ref 9 0 (insC T0 crows t st.value (rows.take k.1)).length))),(44,.v (.one (.ref 5 0 rows.length))),(45,.v (oI rows.length)),(46,.v (oI k.1))],[(1000,mB st fwd a b ⟨[T0],[],[]⟩ inn [⟨tn,crows⟩] o.length nw.length err),(3,eVal st.value),(4,eTbl t)],[(1001,⟨2,o.map eRel,[]⟩),(1002,⟨2,nw.map eRel,[]⟩),(5,⟨1,remX rows k.1,[]⟩),(8,⟨1,(insO T0 crows t st.value (rows.take k.1)).map eRow1,[]⟩),(9,⟨1,(insC T0 crows t st.value (rows.take k.1)).map eRow1,[]⟩)]⟩) (fun k=>rows.length - k.1) ⟨0,Nat.zero_le _⟩ ?_ fun ⟨k,hk⟩=>?_
 ·refine St.le_mk ?_ ?_ ?_<;>simp only [LE,EN,Nat.reduceEqDiff,reduceIte,Nat.reduceSub,mBX,eSchX,eTblX,eStp,eRel,eRows,List.map_cons,List.map_nil,List.cons_append,List.nil_append,insO,insC,List.take_zero,List.map_nil,List.filter_nil,List.length_nil,lX0,Int.natCast_zero]
 simp only at hk ⊢
 have lX:=remX_len rows k hk
 rcases Nat.lt_or_ge k rows.length with hc|hc
 ·have q2:=h4 _ (List.getElem_mem hc)
  have cX:=remX_cell rows k hc
  have nX:=remX_next rows k hc
  obtain ⟨x,hx⟩:∃x,rows[k]=x:=⟨_,rfl⟩
  have gX:=remX_get rows k hc
  rw [hx] at q2 cX gX
  refine AWP.openC 5 k 0 2000 rfl cX rfl (by decide) (by decide) ?_
  simp -dsimp (disch:=first|exact D|fail) only [go_sem,↓reduceIte,seval,openR_mk,mBX,eSchX,eTblX,eStp,eRel,eRows,List.map_cons,List.map_nil,List.cons_append,List.nil_append]
  repeat' (first|((((fail_if_success (refine AWP.isRegion 7 ?_));(with_reducible refine qV tyOk fun K hK=>?_)))<;>simp -dsimp (disch:=first|exact D|fail) only [go_sem,↓reduceIte,seval,lX,gX,Option.getD_none])|((with_reducible refine hK _ ?_);clear hK K)|refine Q1 ?_|((with_reducible refine qW (T:=TT) (b:=?_) ?_ ?_);rotate_left;exact rfl)|fail)
  refine AWP.rowAny 5 k 0 rfl (by rw [lX];exact hc) ?_
  simp -dsimp (disch:=first|exact D|fail) only [go_sem,↓reduceIte,seval,ovCut_cons,ovCut_nil,nX]
  have lk:(rows.take k).length=k:=by simp;omega
  have lO:=insO_len T0 crows t st.value (rows.take k)
  have lC:=insC_len T0 crows t st.value (rows.take k)
  have nO:=insO_snoc T0 crows t st.value rows k hc
  rw [hx] at nO
  obtain ⟨y,hy⟩:∃y,insV T0 crows t st.value x=y:=⟨_,rfl⟩
  rw [hy] at nO
  have hv2:=hy
  have eb:=valB y st.value
  have iv:=insertVal_end x y (by omega)
  rw [q2,show eVal y=[.int .i64 y.kind,.int .i64 y.int,.str y.text] from rfl] at iv
  have lxy:(x++[y]).length=q+1:=by simp [q2]
  have ky:=keyR_satM t x (by omega) (by omega)
  rw [eTblX] at ky
  have lK:=keyOf_length t.pk x
  obtain ⟨key,hkey⟩:∃key,keyOf t.pk x=key:=⟨_,rfl⟩
  have lu:=lookup_satM st fwd a b T0 inn tn crows (o.map eRel) (nw.map eRel) err key (by rw [←hkey,lK];omega) hp hcr (fun r hr=>by have:=hw r hr;omega)
  rw [List.length_map,List.length_map] at lu
  rw [mBX,eSchX,eSchX,eSchX] at lu
  unfold eStp at lu
  simp only [List.cons_append,List.nil_append,eTblX,List.map_cons,List.map_nil,eRel,eRows] at lu
  unfold insV at hy
  rw [hkey] at hy lK ky
  rw [←lK] at ky
  refine AWP.mid ⟨91,[(0,.v (.one (.ptr 1000 0))),(2,.v (oS st.table)),(3,.v (.one (.ptr 3 0))),(4,.v (.one (.ptr 4 0))),(6,.v (oI q)),(8,.v (.one (.ref 8 0 k))),(9,.v (.one (.ref 9 0 (insC T0 crows t st.value (rows.take k)).length))),(11,.v (.one (.ref 11 0 x.length))),(12,.v (.one (.ref 52 0 key.length))),(13,.v (.one (.ptr 13 0))),(44,.v (.one (.ref 5 0 rows.length))),(45,.v (oI rows.length)),(46,.v (oI k))],[(1000,mB st fwd a b ⟨[T0],[],[]⟩ inn [⟨tn,crows⟩] o.length nw.length err),(3,eVal st.value),(13,eVal st.value),(4,eTbl t)],[(1001,⟨2,o.map eRel,[]⟩),(1002,⟨2,nw.map eRel,[]⟩),(5,⟨1,remX rows (k+1),[]⟩),(11,⟨3,x.map eVal,[]⟩),(52,⟨3,key.map eVal,[]⟩),(8,⟨1,(insO T0 crows t st.value (rows.take k)).map eRow1,[]⟩),(9,⟨1,(insC T0 crows t st.value (rows.take k)).map eRow1,[]⟩)]⟩ ?_ ?_
  ·refine dY tyOk mixed [(0,2),(3,1)] (.cons 2 [] [(3,1)] (.cons 4 [(5,1)] [(3,1)] (.cons 6 [] [] .leaf .none) .none) (.cons 4 [] [(0,2),(3,1)] (.cons 2 [(5,1)] [(3,1)] (.cons 6 [] [] .leaf .none) .none) .none)) [2,4,6] 8 fun K hK=>?_
   simp only [segt_leaf,segt_none,segt_cons,segs,List.drop_succ_cons,List.drop_zero,List.take_succ_cons,List.take_zero,List.getElem?_cons_zero,List.getElem?_cons_succ,List.cons_append,List.nil_append,List.append_nil] at hK ⊢
   simp -dsimp (disch:=first|exact D|fail) only [go_sem,↓reduceIte,seval,Option.getD_none]
   repeat' (first|((first|((with_reducible refine CallJ.is ?_);refine CallJ.io [] [(1000,11)] [] [(1000,11),(4,52)] [] [52] [] [11,11,52] (ky) rfl ⟨rfl,rfl,rfl,rfl⟩ ?_ ?_ ?_)|(with_reducible first|refine VCt.some fun K hK=>?_|refine VCt.step fun K hK=>?_))<;>simp -dsimp (disch:=first|exact D|fail) only [go_sem,↓reduceIte,seval,lO,lk,Option.getD_none,dropL_nil,dropL_nil',dropL_cons])|((with_reducible refine hK _ ?_);clear hK K)|(with_reducible refine VCt.intro fun K0 hK0=>?_)|((with_reducible refine VCt.fin ?_);(refine hK0 _ ?_);clear hK0 K0)|(with_reducible first|refine VCy.quiet ?_|refine VCt.none ?_)|((with_reducible refine VCy.keep ?_ ?_);focus ((simp -dsimp (disch:=first|exact D|fail) only [go_sem,↓reduceIte,seval,Stable_cons,Stable_nil,sameA_some,sameA_none,lO,lk,Option.getD_none,dropL_nil,dropL_nil',dropL_cons]);first|done|exact E|fail))|((with_reducible refine VCt.fork (fun K hK=>?_) ?_);(focus (simp -dsimp (disch:=first|exact D|fail) only [go_sem,↓reduceIte,seval,lO,lk,Option.getD_none,dropL_nil,dropL_nil',dropL_cons])))|fail)
   all_goals refine Gq.done ⟨rfl,?_⟩
   all_goals refine St.le_mk ?_ ?_ ?_<;>simp only [LE,EN,Nat.reduceEqDiff,reduceIte,Nat.reduceSub,mBX,eSchX,eTblX,eStp,eRel,eRows,List.map_cons,List.map_nil,List.cons_append,List.nil_append,lO,lk]
  simp -dsimp (disch:=first|exact D|fail) only [go_sem,↓reduceIte,seval,mBX,eSchX,eTblX,eStp,eRel,eRows,List.map_cons,List.map_nil,List.cons_append,List.nil_append]
  refine qA ?_
  refine AWP.mid ⟨91,[(0,.v (.one (.ptr 1000 0))),(2,.v (oS st.table)),(3,.v (.one (.ptr 3 0))),(4,.v (.one (.ptr 4 0))),(6,.v (oI q)),(8,.v (.one (.ref 8 0 k))),(9,.v (.one (.ref 9 0 (insC T0 crows t st.value (rows.take k)).length))),(11,.v (.one (.ref 11 0 x.length))),(12,.v (.one (.ref 52 0 key.length))),(13,.v (.one (.ptr 13 0))),(44,.v (.one (.ref 5 0 rows.length))),(45,.v (oI rows.length)),(46,.v (oI k))],[(1000,mB st fwd a b ⟨[T0],[],[]⟩ inn [⟨tn,crows⟩] o.length nw.length err),(3,eVal st.value),(13,eVal y),(4,eTbl t)],[(1001,⟨2,o.map eRel,[]⟩),(1002,⟨2,nw.map eRel,[]⟩),(5,⟨1,remX rows (k+1),[]⟩),(11,⟨3,x.map eVal,[]⟩),(52,⟨3,key.map eVal,[]⟩),(8,⟨1,(insO T0 crows t st.value (rows.take k)).map eRow1,[]⟩),(9,⟨1,(insC T0 crows t st.value (rows.take k)).map eRow1,[]⟩)]⟩ ?_ ?_
  ·cases hf:findB T0 crows key with
   | false =>
    have lr:lookR T0 crows key=[]:=by unfold lookR;rw [hf];rfl
    rw [hf,if_neg (by simp)] at hy
    subst hy
    rw [hf,lr] at lu
    unfold eRow at lu
    simp only [List.map_nil] at lu
    repeat' (first|((first|with_reducible refine qV tyOk fun K hK=>?_|((with_reducible refine CallJ.is ?_);refine CallJ.io [(1000,1000)] [(1001,1001),(1002,1002),(1003,52)] [(1000,1000)] [(1001,1001),(1002,1002),(1003,52)] [] [] [1000,1000] [1001,1002,52,1001,1002,52] (lu) rfl ⟨rfl,rfl,rfl,rfl⟩ ?_ ?_ ?_))<;>simp -dsimp (disch:=first|exact D|fail) only [go_sem,↓reduceIte,seval,okIds_ref,okIds_fr,Option.getD_none,dropL_nil,dropL_nil',dropL_cons])|((with_reducible refine hK _ ?_);clear hK K)|refine Q1 ?_|((with_reducible refine qW (T:=TT) (b:=?_) ?_ ?_);rotate_left;exact rfl)|fail)
    refine Gq.done ⟨rfl,?_⟩
    refine St.le_mk ?_ ?_ ?_<;>simp only [LE,EN,Nat.reduceEqDiff,reduceIte,Nat.reduceSub,mBX,eSchX,eTblX,eStp,eRel,eRows,List.map_cons,List.map_nil,List.cons_append,List.nil_append]
   | true =>
    obtain ⟨y2,l2,e2⟩:=lookR_cons (key:=key) (fun r hr=>(hw r hr).1) hf
    rw [if_pos hf,e2] at hy
    have hy:y2=y:=hy
    subst hy
    rw [hf,e2] at lu
    unfold eRow at lu
    simp only [List.map_cons] at lu
    repeat' (first|((first|with_reducible refine qV tyOk fun K hK=>?_|((with_reducible refine CallJ.is ?_);refine CallJ.io [(1000,1000)] [(1001,1001),(1002,1002),(1003,52)] [(1000,1000)] [(1001,1001),(1002,1002),(1003,52)] [] [] [1000,1000] [1001,1002,52,1001,1002,52] (lu) rfl ⟨rfl,rfl,rfl,rfl⟩ ?_ ?_ ?_))<;>simp -dsimp (disch:=first|exact D|fail) only [go_sem,↓reduceIte,seval,okIds_ref,okIds_fr,List.getD_cons_zero,Option.getD_none,dropL_nil,dropL_nil',dropL_cons])|((with_reducible refine hK _ ?_);clear hK K)|refine Q1 ?_|((with_reducible refine qW (T:=TT) (b:=?_) ?_ ?_);rotate_left;exact rfl)|fail)
    refine Gq.done ⟨rfl,?_⟩
    refine St.le_mk ?_ ?_ ?_<;>simp only [LE,EN,Nat.reduceEqDiff,reduceIte,Nat.reduceSub,mBX,eSchX,eTblX,eStp,eRel,eRows,List.map_cons,List.map_nil,List.cons_append,List.nil_append]
  simp -dsimp (disch:=first|exact D|fail) only [go_sem,↓reduceIte,seval,mBX,eSchX,eTblX,eStp,eRel,eRows,List.map_cons,List.map_nil,List.cons_append,List.nil_append]
  by_cases hv:y=st.value
  ·rw [decide_eq_true hv] at eb
   have nC:=insC_miss T0 crows t st.value rows k hc (by rw [hx,hv2];exact hv)
   repeat' (first|((((fail_if_success (refine AWP.isRegion 14 ?_));(with_reducible refine qV tyOk fun K hK=>?_)))<;>simp -dsimp (disch:=first|exact D|fail) only [go_sem,↓reduceIte,seval,eb,lO,lk,q2,Option.getD_none])|((with_reducible refine hK _ ?_);clear hK K)|refine Q1 ?_|((with_reducible refine qW (T:=TT) (b:=?_) ?_ ?_);rotate_left;exact rfl)|fail)
   refine CallJ.io [] [(1000,11),(1001,78)] [] [(6,79)] [] [11,78,79] [] [11,78,79] iv rfl ⟨rfl,rfl,rfl,rfl⟩ ?_ (And.intro trivial (And.intro (And.intro rfl rfl) (And.intro (And.intro rfl rfl) trivial))) ?_
   ·simp -dsimp (disch:=first|exact D|fail) only [go_sem,↓reduceIte,seval]
   simp -dsimp (disch:=first|exact D|fail) only [go_sem,↓reduceIte,seval,lO,lk,q2,Option.getD_none,dropL_nil,dropL_nil',dropL_cons]
   refine ⟨⟨by omega,by omega⟩,hK _ ?_⟩
   clear hK K
   repeat' (first|refine Q1 ?_|fail)
   refine AWP.close 8 k 0 79 rfl rfl (by decide) (by simp [ovGet];omega) (by simp;omega) (by show 0<1;decide) rfl ?_
   simp -dsimp (disch:=first|exact D|fail) only [go_sem,↓reduceIte,seval,closeR_mk,ovCut_cons,ovCut_nil]
   rw [setCell_last eRow1 _ k (by omega)]
   refine AWP.frzR 8 rfl ?_
   simp -dsimp (disch:=first|exact D|fail) only [go_sem,↓reduceIte,seval,frzR_mk,frzTblO,frzFKO,List.set_cons_zero,frzXs_snoc]
   rw [←nO]
   repeat' (first|((with_reducible refine qV tyOk fun K hK=>?_)<;>simp -dsimp (disch:=first|exact D|fail) only [go_sem,↓reduceIte,seval])|((with_reducible refine hK _ ?_);clear hK K)|refine Q1 ?_|fail)
   refine ⟨⟨k+1,by omega⟩,by simp only;omega,?_⟩
   have lO2:=insO_len T0 crows t st.value (rows.take (k+1))
   have lk2:(rows.take (k+1)).length=k+1:=by simp;omega
   refine St.le_mk ?_ ?_ ?_<;>simp only [LE,EN,Nat.reduceEqDiff,reduceIte,Nat.reduceSub,mBX,eSchX,eTblX,eStp,eRel,eRows,List.map_cons,List.map_nil,List.cons_append,List.nil_append,nC,lO2,lk2,Int.natCast_add,Int.natCast_one]
  ·rw [decide_eq_false hv] at eb
   have nC:=insC_hit T0 crows t st.value rows k hc (by rw [hx,hv2];exact hv)
   simp only [hx,hkey,hv2] at nC
   have e9:key.map eVal++[[L.int .i64 y.kind,L.int .i64 y.int,L.str y.text]]=(key++[y]).map eVal:=by rw [List.map_append];rfl
   obtain ⟨C0,hC0⟩:∃C0,insC T0 crows t st.value (rows.take k)=C0:=⟨_,rfl⟩
   rw [hC0] at nC lC ⊢
   repeat' (first|((((fail_if_success (refine AWP.isRegion 13 ?_));(with_reducible refine qV tyOk fun K hK=>?_)))<;>simp -dsimp (disch:=first|exact D|fail) only [go_sem,↓reduceIte,seval,eb,lO,lk,lK,Option.getD_none])|((with_reducible refine hK _ ?_);clear hK K)|refine Q1 ?_|((with_reducible refine qW (T:=TT) (b:=?_) ?_ ?_);rotate_left;exact rfl)|fail)
   refine AWP.close 9 C0.length 0 71 rfl rfl (by decide) (by simp [ovGet];omega) (by simp) (by show 0<1;decide) rfl ?_
   simp -dsimp (disch:=first|exact D|fail) only [go_sem,↓reduceIte,seval,closeR_mk,ovCut_cons,ovCut_nil]
   rw [setCell_last eRow1 _ _ rfl]
   simp only [e9]
   refine AWP.frzR 9 rfl ?_
   simp -dsimp (disch:=first|exact D|fail) only [go_sem,↓reduceIte,seval,frzR_mk,frzTblO,frzFKO,List.set_cons_zero,frzXs_snoc]
   rw [←nC]
   repeat' (first|((((fail_if_success (refine AWP.isRegion 14 ?_));(with_reducible refine qV tyOk fun K hK=>?_)))<;>simp -dsimp (disch:=first|exact D|fail) only [go_sem,↓reduceIte,seval,eb,lO,lk,q2,Option.getD_none])|fail)
   refine CallJ.io [] [(1000,11),(1001,78)] [] [(6,79)] [] [11,78,79] [] [11,78,79] iv rfl ⟨rfl,rfl,rfl,rfl⟩ ?_ (And.intro trivial (And.intro (And.intro rfl rfl) (And.intro (And.intro rfl rfl) trivial))) ?_
   ·simp -dsimp (disch:=first|exact D|fail) only [go_sem,↓reduceIte,seval]
   simp -dsimp (disch:=first|exact D|fail) only [go_sem,↓reduceIte,seval,lO,lk,q2,Option.getD_none,dropL_nil,dropL_nil',dropL_cons]
   refine ⟨⟨by omega,by omega⟩,hK _ ?_⟩
   clear hK K
   repeat' (first|refine Q1 ?_|fail)
   refine AWP.close 8 k 0 79 rfl rfl (by decide) (by simp [ovGet];omega) (by simp;omega) (by show 0<1;decide) rfl ?_
   simp -dsimp (disch:=first|exact D|fail) only [go_sem,↓reduceIte,seval,closeR_mk,ovCut_cons,ovCut_nil]
   rw [setCell_last eRow1 _ k (by omega)]
   refine AWP.frzR 8 rfl ?_
   simp -dsimp (disch:=first|exact D|fail) only [go_sem,↓reduceIte,seval,frzR_mk,frzTblO,frzFKO,List.set_cons_zero,frzXs_snoc]
   rw [←nO]
   repeat' (first|((with_reducible refine qV tyOk fun K hK=>?_)<;>simp -dsimp (disch:=first|exact D|fail) only [go_sem,↓reduceIte,seval])|((with_reducible refine hK _ ?_);clear hK K)|refine Q1 ?_|fail)
   refine ⟨⟨k+1,by omega⟩,by simp only;omega,?_⟩
   have lO2:=insO_len T0 crows t st.value (rows.take (k+1))
   have lk2:(rows.take (k+1)).length=k+1:=by simp;omega
   have lC2:(insC T0 crows t st.value (rows.take (k+1))).length=C0.length+1:=by rw [nC];simp
   refine St.le_mk ?_ ?_ ?_<;>simp only [LE,EN,Nat.reduceEqDiff,reduceIte,Nat.reduceSub,mBX,eSchX,eTblX,eStp,eRel,eRows,List.map_cons,List.map_nil,List.cons_append,List.nil_append,lO2,lk2,lC2,Int.natCast_add,Int.natCast_one]
 ·have hk2:k=rows.length:=by omega
  subst hk2
  rw [List.take_length]
  simp -dsimp (disch:=first|exact D|fail) only [go_sem,↓reduceIte,seval,mBX,eSchX,eTblX,eStp,eRel,eRows,List.map_cons,List.map_nil,List.cons_append,List.nil_append]
  repeat' (first|((((fail_if_success (refine AWP.isRegion 15 ?_));(with_reducible refine qV tyOk fun K hK=>?_)))<;>simp -dsimp (disch:=first|exact D|fail) only [go_sem,↓reduceIte,seval])|((with_reducible refine hK _ ?_);clear hK K)|refine Q1 ?_|((with_reducible refine qW (T:=TT) (b:=?_) ?_ ?_);rotate_left;exact rfl)|fail)
  refine AWP.frz [1000] [1001,1002] ?_
  simp -dsimp (disch:=first|exact D|fail) only [go_sem,↓reduceIte,seval,RT,St.rest,St.freeze]
  repeat' (first|((first|((fail_if_success (refine AWP.isRegion 16 ?_));(with_reducible refine qV tyOk fun K hK=>?_))|((with_reducible refine CallJ.is ?_);refine CallJ.io [(1000,1000)] [(1001,1001),(1002,1002)] [(1000,1000)] [(1001,1001),(1002,1002)] [] [] [1000,1000] [1001,1002,1001,1002] (s1) rfl ⟨rfl,rfl,rfl,rfl⟩ ?_ ?_ ?_))<;>simp -dsimp (disch:=first|exact D|fail) only [go_sem,↓reduceIte,seval,okIds_ref,okIds_fr,Option.getD_none,dropL_nil,dropL_nil',dropL_cons])|((with_reducible refine hK _ ?_);clear hK K)|refine Q1 ?_|fail)
  repeat' (first|((first|with_reducible refine qV tyOk fun K hK=>?_|((with_reducible refine CallJ.is ?_);refine CallJ.io [(1000,1000)] [(1001,1001),(1002,1002)] [(1000,1000)] [(1001,1001),(1002,1002)] [] [] [1000,1000] [1001,1002,1001,1002] (s2) rfl ⟨rfl,rfl,rfl,rfl⟩ ?_ ?_ ?_))<;>simp -dsimp (disch:=first|exact D|fail) only [go_sem,↓reduceIte,seval,okIds_ref,okIds_fr,Option.getD_none,dropL_nil,dropL_nil',dropL_cons])|((with_reducible refine hK _ ?_);clear hK K)|fail)
  simp -dsimp (disch:=first|exact D|fail) only [retQ,Tryz.results140,resVals,cellRV,resOf,St.rest,St.freeze,RT,go_sem,↓reduceIte,seval]
end Go.Bw
