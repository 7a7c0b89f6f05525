/-
  WHAT IS PROVED HERE, of this translation: run_satM.
  A theorem that ends in sat says what the function it names returns, whatever the state it is called in; the bounds on its arguments stand ahead of it.
-/
import Derived.Test.YtdnapljegcihiaaGreatDoorVw
import Derived.Test.YtdnapljegcihiaaGreatDoorVx
set_option linter.unusedSimpArgs false
set_option linter.unusedVariables false
namespace Go.Bw
open Go.Proofs
def mB0 (st:Stp) (fwd:Bool) (a b c:Sch):List L:=eStp st++([.bool fwd]++eSch a++eSch b++eSch c++[.nil 2,.nil 2,.nil 2,.nil 2,.int .i64 0])
set_option pp.maxSteps 10000000 in
set_option pp.deepTerms true in
set_option maxHeartbeats 64000000 in
theorem run_satM (st:Stp) (fwd:Bool) (a b c:Sch) (inn comp o' nw':Inst) (za:confE a inn=0) (zc:confE c comp=0) (ba:Bounds0 a inn) (bc:Bounds0 c comp) (ha:a.tables.length≤1048576) (hb:b.tables.length≤1048576) (hc:c.tables.length≤1048576) (hi:inn.length≤1048576) (hp:comp.length≤1048576)
  (hia:∀r∈inn,r.rows.length≤1048576∧∀x∈r.rows,x.length≤1048576) (hca:∀r∈comp,r.rows.length≤1048576∧∀x∈r.rows,x.length≤1048576) (hta:∀t∈a.tables,t.cols.length≤1048576∧t.pk.length≤1048576)
  (lo:o'.length=b.tables.length) (ln:nw'.length=c.tables.length) (ro:∀r∈o',r.rows.length≤24) (rn:∀r∈nw',r.rows.length≤24)
  (hD:SatM Tryz.prog 106 [.one (.ptr 1000 0)] [(1000,mB st fwd a b c inn comp b.tables.length c.tables.length 0)] [(1001,⟨2,(out0 a b inn).map eRel,[]⟩),(1002,⟨2,(emptyI c).map eRel,[]⟩)]
   (.tup []) [(1000,mB st fwd a b c inn comp b.tables.length c.tables.length 0)] [(1001,⟨2,o'.map eRel,[]⟩),(1002,⟨2,nw'.map eRel,[]⟩)]) :
  SatM Tryz.prog 59 [.one (.ptr 1000 0),.one (eInst inn),.one (eInst comp)] [(1000,mB0 st fwd a b c)] [] (.tup [.one (eInst o'),.one (eInst nw'),oI 0]) [] []:=by
 have c1:=conforms_sat a inn ba (by omega)
 have c2:=conforms_sat c comp bc (by omega)
 rw [za] at c1
 rw [zc] at c2
 have k1:=instClone_sat inn (by omega) (fun r hr=>by obtain ⟨q1,q2⟩:=hia r hr;exact ⟨by omega,fun x hx=>by have:=q2 x hx;omega⟩)
 have k2:=instClone_sat comp (by omega) (fun r hr=>by obtain ⟨q1,q2⟩:=hca r hr;exact ⟨by omega,fun x hx=>by have:=q2 x hx;omega⟩)
 have e1:=instEmpty_own b hb
 have e2:=instEmpty_own c hc
 rw [mBX] at hD
 unfold mB0
 unfold eStp at hD ⊢
 simp only [eSchX,List.cons_append,List.nil_append] at hD c1 c2 e1 e2 ⊢
 unfold eInst at c1 c2 k1 k2 ⊢
 refine ZM [] [] Tryz.func59 Tryz.ntmps59 fun w0 m0 F0=>?_
 refine ZV Z0 (Z4 (c1) (c2) (k1) (k2)) (Z1 (Zs 8)) Z0 ?_;repeat' (first|apply Zb|apply Zn|(apply Zk;intro K hK))
 refine dX tyOk mixed [(0,6),(7,4)] [(6,[],[(0,2),(7,4)]),(11,[(12,2)],[(0,2)]),(14,[(15,2)],[(1,1)]),(17,[],[])] [6,11,14,17] 8 fun K hK=>?_
 simp only [SG,segs] at hK ⊢
 refine ZU Z0 ?_
 repeat' (first|((first|((with_reducible refine CallJ.is ?_);refine CallJ.io [] [] [] [(2,51)] [] [51] [] [51] (e1) rfl ⟨rfl,rfl,rfl,rfl⟩ ?_ ?_ ?_;(focus (simp -dsimp (disch:=first|exact D|fail) only [go_sem,↓reduceIte,seval,Option.getD_none,dropL_nil,dropL_nil',dropL_cons];done));(focus (simp -dsimp (disch:=first|exact D|fail) only [go_sem,↓reduceIte,seval,Option.getD_none,dropL_nil,dropL_nil',dropL_cons];done)))|((with_reducible refine CallJ.is ?_);refine CallJ.io [] [] [] [(2,56)] [] [56] [] [56] (e2) rfl ⟨rfl,rfl,rfl,rfl⟩ ?_ ?_ ?_;(focus (simp -dsimp (disch:=first|exact D|fail) only [go_sem,↓reduceIte,seval,Option.getD_none,dropL_nil,dropL_nil',dropL_cons];done));(focus (simp -dsimp (disch:=first|exact D|fail) only [go_sem,↓reduceIte,seval,Option.getD_none,dropL_nil,dropL_nil',dropL_cons];done)))|(with_reducible first|refine VCy.some fun K hK=>?_|refine VCy.step fun K hK=>?_))<;>simp -dsimp (disch:=first|exact D|fail) only [go_sem,↓reduceIte,seval,Option.getD_none,dropL_nil,dropL_nil',dropL_cons])|((with_reducible refine hK _ ?_);clear hK K)|(with_reducible refine VCy.intro fun K0 hK0=>?_)|((with_reducible refine VCy.fin ?_);(refine hK0 _ ?_);clear hK0 K0)|(with_reducible first|refine VCy.quiet ?_|refine VCy.none ?_)|((with_reducible refine VCy.keep ?_ ?_);focus ((simp -dsimp (disch:=first|exact D|fail) only [go_sem,↓reduceIte,seval,Stable_cons,Stable_nil,sameA_some,sameA_none,Option.getD_none,dropL_nil,dropL_nil',dropL_cons]);first|done|exact E|fail))|refine Q1 ?_|fail)
 have ok0:outK a b inn 0=emptyI b:=by unfold outK emptyI;simp
 have lm:((emptyI b).map eRel).length=b.tables.length:=by simp [emptyI]
 refine ZW (Z1 @lm) Z0 ?_;repeat' (first|apply Zb|apply Zn|(apply Zk;intro K hK))
 refine AWP.midB ⟨150,[(0,.v (.one (.ptr 1000 0))),(8,.v (oI 0))],[(1000,mBr st fwd a b c inn comp b.tables.length c.tables.length)],[(51,⟨2,(outK a b inn b.tables.length).map eRel,[]⟩),(56,⟨2,(emptyI c).map eRel,[]⟩)]⟩ ?_ ?_
 ·refine AWP.loop (ι:={k:Nat // k≤b.tables.length}) (fun k=>⟨150,[(0,.v (.one (.ptr 1000 0))),(1,.v (.one (.sl 2 (inn.map eRel)))),(8,.v (oI 0)),(64,.v (.one (.ref 51 0 b.tables.length))),(65,.v (oI b.tables.length)),(66,.v (oI k.1))],[(1000,mBr st fwd a b c inn comp b.tables.length c.tables.length)],[(51,⟨2,(outK a b inn k.1).map eRel,[]⟩),(56,⟨2,(emptyI c).map eRel,[]⟩)]⟩) (fun k=>b.tables.length - k.1) ⟨0,Nat.zero_le _⟩ ?_ fun ⟨k,hk⟩=>?_
  ·exact ZN (Z6 @mBr.eq_1 @eSchX @eTblX @eStp.eq_1 @ok0 @Int.natCast_zero)
  simp only at hk ⊢
  have lK:=outK_len a b inn k hk
  rcases Nat.lt_or_ge k b.tables.length with hc2|hc2
  ·have g:=outK_get a b inn k hc2
   have es:=outK_set a b inn k hc2
   have ss:=outK_same a b inn k hc2
   obtain ⟨nm,hnm⟩:∃nm,b.tables[k].name=nm:=⟨_,rfl⟩
   have ef:eRel (outF a inn b.tables[k])=[.str nm,eRows (if 0≤tblAt a.tables nm then (instTbl a inn nm).2 else [])]:=by unfold outF;rw [hnm];rfl
   rw [ef] at es
   rw [hnm] at g ss
   have ft:=findTable_sat a nm (by omega)
   have it:=instTable_sat a inn nm (by omega) (fun t ht=>by have:=hta t ht;omega) (fun r hr=>by obtain ⟨q1,q2⟩:=hia r hr;exact ⟨by omega,fun x hx=>by have:=q2 x hx;omega⟩)
   unfold eInst eRows at it
   simp only [eSchX,eTblX] at ft it
   obtain ⟨z,hz⟩:∃z,mx0 (tblAt a.tables nm)=z:=⟨_,rfl⟩
   rw [hz] at ft
   by_cases h0:0≤tblAt a.tables nm
   ·rw [decide_eq_true h0] at ft
    rw [if_pos h0] at es
    unfold eRows at es
    refine ZU (Z4 @mBr.eq_1 @eSchX @eTblX @eStp.eq_1) ?_
    refine ZV (Z2 @g @lK) (Z2 (ft) (it)) (Z3 (Zs 15) (Zd 12 [(0,6)] [(6,[(7,5)],[])] [6] 8) (Zd 14 [(0,12)] [(12,[(13,5)],[(0,5)]),(18,[],[])] [12,18] 8)) Z0 ?_;repeat' (first|apply Zb|apply Zn|(apply Zk;intro K hK))
    refine ZW Z0 Z0 ?_;repeat' (first|apply Zb|apply Zn|(apply Zk;intro K hK))
    refine ⟨⟨k+1,by omega⟩,by simp only;omega,?_⟩
    exact ZN (Z7 @mBr.eq_1 @eSchX @eTblX @eStp.eq_1 @es @Int.natCast_add @Int.natCast_one)
   ·rw [decide_eq_false h0] at ft
    refine ZU (Z4 @mBr.eq_1 @eSchX @eTblX @eStp.eq_1) ?_
    refine ZV (Z2 @g @lK) (Z1 (ft)) (Z2 (Zs 15) (Zd 12 [(0,6)] [(6,[(7,5)],[])] [6] 8)) Z0 ?_;repeat' (first|apply Zb|apply Zn|(apply Zk;intro K hK))
    refine ZW Z0 Z0 ?_;repeat' (first|apply Zb|apply Zn|(apply Zk;intro K hK))
    refine ⟨⟨k+1,by omega⟩,by simp only;omega,?_⟩
    exact ZN (Z7 @mBr.eq_1 @eSchX @eTblX @eStp.eq_1 (@ss h0) @Int.natCast_add @Int.natCast_one)
  ·have hk2:k=b.tables.length:=by omega
   subst hk2
   refine ZU (Z4 @mBr.eq_1 @eSchX @eTblX @eStp.eq_1) ?_
   refine ZW Z0 Z0 ?_;repeat' (first|apply Zb|apply Zn|(apply Zk;intro K hK))
   refine Gq.done ⟨rfl,?_⟩
   exact ZN (Z4 @mBr.eq_1 @eSchX @eTblX @eStp.eq_1)
 have okE:outK a b inn b.tables.length=out0 a b inn:=by unfold outK out0;simp
 rw [okE]
 refine ZU (Z4 @mBr.eq_1 @eSchX @eTblX @eStp.eq_1) ?_
 refine ZV (Z5 @okIds_ref @okIds_fr @dropL_nil @dropL_nil' @dropL_cons) Z0 (Z1 (Zs 17)) (Z1 (Zi [(1000,1000)] [(1001,51),(1002,56)] [(1000,1000)] [(1001,51),(1002,56)] [] [] [1000,1000] [51,56,51,56] (hD))) ?_;repeat' (first|apply Zb|apply Zn|(apply Zk;intro K hK))
 refine AWP.frz [1000] [] ?_
 refine ZS Z0 ?_
 rw [if_pos (show b.tables.length≤o'.length by omega),if_pos (show c.tables.length≤nw'.length by omega)]
 have ci:=cloneInst_own o' (by omega)
 unfold eInst at ci
 refine dX tyOk mixed [(0,4),(5,4),(11,1)] [(4,[],[(5,4),(11,1)]),(9,[(10,1)],[(11,1)])] [4,9] 8 fun K hK=>?_
 simp only [SG,segs] at hK ⊢
 refine ZU Z0 ?_
 refine ZV (Z3 @dropL_nil @dropL_nil' @dropL_cons) Z0 Z0 (Z1 (Zi [] [] [] [(2,107)] [] [107] [] [107] (ci))) ?_;repeat' (first|apply Zb|apply Zn|(apply Zk;intro K hK))
 have eall:o'.map eRel++nw'.map eRel=(o'++nw').map eRel:=List.map_append.symm
 have la:(o'++nw').length=o'.length+nw'.length:=List.length_append
 have ra:∀r∈o'++nw',r.rows.length≤24:=fun r hr=>(List.mem_append.1 hr).elim (ro r) (rn r)
 rw [eall,←la]
 obtain ⟨al,hal⟩:∃al,o'++nw'=al:=⟨_,rfl⟩
 rw [hal] at la ra ⊢
 have lal:al.length≤2097152:=by omega
 refine AWP.midB ⟨150,[(0,.v (.one (.ptr 1000 0))),(8,.v (oI 0))],[(1000,mBf st fwd a b c inn comp o' nw')],[]⟩ ?_ ?_
 ·refine AWP.loop (ι:={k:Nat // k≤al.length}) (fun k=>⟨150,[(0,.v (.one (.ptr 1000 0))),(8,.v (oI 0)),(112,.v (.one (.ref 112 0 al.length))),(113,.v (oI al.length)),(114,.v (oI k.1))],[(1000,mBf st fwd a b c inn comp o' nw')],[(112,⟨2,al.map eRel,[]⟩)]⟩) (fun k=>al.length - k.1) ⟨0,Nat.zero_le _⟩ ?_ fun ⟨k,hk⟩=>?_
  ·exact ZN (Z5 @mBf.eq_1 @eSchX @eTblX @eStp.eq_1 @Int.natCast_zero)
  simp only at hk ⊢
  rcases Nat.lt_or_ge k al.length with hc2|hc2
  ·have g:(al.map eRel).getD k []=[.str al[k].table,.sl 1 (al[k].rows.map eRow1)]:=by rw [getD_map_lt _ _ _ hc2];rfl
   have r24:=ra _ (List.getElem_mem hc2)
   obtain ⟨rw9,hrw9⟩:∃rw9,al[k].rows=rw9:=⟨_,rfl⟩
   obtain ⟨tn9,htn9⟩:∃tn9,al[k].table=tn9:=⟨_,rfl⟩
   rw [hrw9] at r24 g
   rw [htn9] at g
   refine ZU (Z4 @mBf.eq_1 @eSchX @eTblX @eStp.eq_1) ?_
   refine ZW (Z1 @g) Z0 ?_;repeat' (first|apply Zb|apply Zn|(apply Zk;intro K hK))
   refine ⟨⟨k+1,by omega⟩,by simp only;omega,?_⟩
   exact ZN (Z6 @mBf.eq_1 @eSchX @eTblX @eStp.eq_1 @Int.natCast_add @Int.natCast_one)
  ·have hk2:k=al.length:=by omega
   subst hk2
   refine ZU (Z4 @mBf.eq_1 @eSchX @eTblX @eStp.eq_1) ?_
   refine ZW Z0 Z0 ?_;repeat' (first|apply Zb|apply Zn|(apply Zk;intro K hK))
   refine Gq.done ⟨rfl,?_⟩
   exact ZN (Z4 @mBf.eq_1 @eSchX @eTblX @eStp.eq_1)
 refine ZU (Z4 @mBf.eq_1 @eSchX @eTblX @eStp.eq_1) ?_
 refine ZW Z0 Z0 ?_;repeat' (first|apply Zb|apply Zn|(apply Zk;intro K hK))
 refine ZWy Z0 Z0 ?_;repeat' (first|apply Zb|apply Zn|(apply Zk;intro K hK))
 exact ZQ (Z1 Tryz.results59)
end Go.Bw
