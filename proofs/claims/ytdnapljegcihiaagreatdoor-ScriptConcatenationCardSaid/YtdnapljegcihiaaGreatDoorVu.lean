/-
  WHAT IS PROVED HERE, of this translation: join_ok, joinTables_satM.
  A theorem that ends in sat says what the function it names returns, whatever the state it is called in; the bounds on its arguments stand ahead of it.
-/
import Derived.Test.YtdnapljegcihiaaGreatDoorVf
import Derived.Test.YtdnapljegcihiaaGreatDoorVt
set_option linter.unusedSimpArgs false
set_option linter.unusedVariables false
namespace Go.Bw
open Go.Proofs
set_option maxHeartbeats 32000000 in
theorem join_ok (s:Sch) (i:Nat) (name:ByteArray) (R:Sch) (hi:i<s.tables.length) (sm:SmallS s) (hpk:∀t∈s.tables,PkOk t) (hE:joinT s i name=.ok R) :
  SatM Tryz.prog 83 [.one (.ptr 1000 0),oI i,oS name] (iB s) (iR s) (.v (oI 0)) (oB1 R) (oR1 R):=by
 have b1:=sm.tables
 have b2:=sm.table s.tables[i] (List.getElem_mem hi)
 have b3:=sm.fks
 have b4:=sm.cons
 have b5:∀f∈s.fks,f.cols.length≤1048576:=fun f hf=>by have:=(sm.fk f hf).1;omega
 have p1:=hpk s.tables[i] (List.getElem_mem hi)
 obtain ⟨t,ht⟩:∃t,s.tables[i]=t:=⟨_,rfl⟩
 have htA:tAt s i=t:=by unfold tAt;rw [getD_lt _ hi,ht]
 rw [ht] at b2 p1
 obtain ⟨b6,b7,_⟩:=b2
 obtain ⟨j,q,hj,hq,e1,hij,hpq,hks,e2,hfr,hR⟩:=joinF_of hE
 obtain ⟨o,ho⟩:∃o,s.tables[j]=o:=⟨_,rfl⟩
 have hoA:tAt s j=o:=by unfold tAt;rw [getD_lt _ hj,ho]
 rw [htA,hoA] at hpq hks hR
 rw [htA] at e2
 have b8:=sm.table s.tables[j] (List.getElem_mem hj)
 have p2:=hpk s.tables[j] (List.getElem_mem hj)
 rw [ho] at b8 p2
 obtain ⟨b9,b10,_⟩:=b8
 have fs:=findTable_sat s name (by omega)
 have lm:(s.tables.map eTbl).length=s.tables.length:=List.length_map ..
 have gi:(s.tables.map eTbl).getD i []=eTbl t:=by rw [getD_map_lt _ _ _ hi,ht]
 have gj:(s.tables.map eTbl).getD j []=eTbl o:=by rw [getD_map_lt _ _ _ hj,ho]
 rw [e1,mx0_nat,decide_eq_true (show (0:Int)≤(j:Int) by omega)] at fs
 have j0:¬ (j:Int)<0:=by omega
 have hij':¬ (i:Int)=(j:Int):=by omega
 have sq:=sequence_sat t.pk.length (by omega)
 have ep:=equalInts_sat o.pk (seqI t.pk.length) (by omega)
 rw [decide_eq_true hpq] at ep
 have ol:=seq_le p2 hpq
 have e0:s.tables.map eTblO=rowT s.tables i t:=by unfold rowT;rw [←ht,List.set_getElem_self]
 have ef:frzXs (rowT s.tables i t)=s.tables.map eTbl:=by rw [←e0];exact frzTblO _
 obtain ⟨F1,hF1⟩:∃F1,s.fks.take q++s.fks.drop (q+1)=F1:=⟨_,rfl⟩
 rw [hF1] at hfr hR
 have lF:F1.length=s.fks.length - 1:=by rw [←hF1];exact cut_len s.fks q hq
 obtain ⟨F2,hF2⟩:∃F2,F1.map (remapFK name (joinG t))=F2:=⟨_,rfl⟩
 obtain ⟨C2,hC2⟩:∃C2,s.cons.map (remapCon name (joinG t))=C2:=⟨_,rfl⟩
 have lF2:F1.length=F2.length:=by rw [←hF2,List.length_map]
 have lC2:s.cons.length=C2.length:=by rw [←hC2,List.length_map]
 obtain ⟨U,hU⟩:∃U,s.tables.set i {t with cols:=t.cols++o.cols.drop t.pk.length}=U:=⟨_,rfl⟩
 have lU:U.length=s.tables.length:=by rw [←hU,List.length_set]
 have R1:R.tables=U.take j++U.drop (j+1):=by rw [hR,←hU];rfl
 have R2:R.fks=F2.map (joinFK name t.name):=by rw [hR,←hF2];rfl
 have R3:R.cons=C2.map (joinCon name t.name):=by rw [hR,←hC2];rfl
 have cl:=cut_len U j (by omega)
 unfold iB iR oB1 oR1
 rw [R1,R2,R3]
 simp only [cl,List.length_map]
 refine sM tyOk [1000] [1,2,3] Tryz.func83 fun w0 m0 F0=>?_
 simp only [Tryz.ntmps83,envOf,Nat.reduceAdd]
 refine AWP.gq ?_
 repeat' (first|((first|((fail_if_success (refine AWP.isRegion 4 ?_));(with_reducible refine qV tyOk fun K hK=>?_))|(refine AWP.isRegion 1 ?_;refine dX tyOk mixed [(0,4)] [(4,[(5,5)],[])] [4] 8 fun K hK=>?_;simp only [SG,segs] at hK ⊢)|((with_reducible refine CallJ.is ?_);(((apply CallJ.lentI);(focus (simp -dsimp (disch:=first|exact D|fail) only [go_sem,↓reduceIte,seval,Option.getD_none,frz_eTblO,frz_eFKO];rfl));(focus (first|exact (fs))))))|(with_reducible first|refine VCy.some fun K hK=>?_|refine VCy.step fun K hK=>?_))<;>simp -dsimp (disch:=first|exact D|fail) only [go_sem,↓reduceIte,seval,Option.getD_none,frz_eTblO,frz_eFKO])|((with_reducible refine hK _ ?_);clear hK K)|(with_reducible refine VCy.intro fun K0 hK0=>?_)|((with_reducible refine VCy.fin ?_);(refine hK0 _ ?_);clear hK0 K0)|(with_reducible refine VCy.quiet ?_)|refine Q1 ?_|((with_reducible refine qW (T:=TT) (b:=?_) ?_ ?_);rotate_left;exact rfl)|fail)
 rw [e0]
 refine AWP.openC 1000 i 1 2010 rfl (rowT_cell1 _ hi) rfl (by decide) (by decide) ?_
 simp -dsimp (disch:=first|exact D|fail) only [go_sem,↓reduceIte,seval,openR_mk]
 refine AWP.frzR 1000 rfl ?_
 simp -dsimp (disch:=first|exact D|fail) only [go_sem,↓reduceIte,seval,frzR_mk,frzTblO,frzFKO,ef]
 refine AWP.mid ⟨188,[(0,.v (.one (.ptr 1000 0))),(1,.v (oI i)),(5,.v (.one (.ptr 5 0))),(6,.v (oI 0)),(7,.v (oI j)),(9,.v (.one (.ptr 9 0))),(10,.v (.one (.ptr 10 0)))],[(9,[.str t.name,.ref 2010 0 t.cols.length,.sl 1 (t.pk.map eInt1)]),(10,eTbl o),(5,[.str name]),(1000,[.ref 1000 0 s.tables.length,.ref 1001 0 s.fks.length,.ref 1002 0 s.cons.length])],[(1000,⟨3,s.tables.map eTbl,[(i,1,.ref 2010 0 t.cols.length)]⟩),(2010,⟨3,t.cols.map eCol,[]⟩),(1001,⟨3,s.fks.map eFKO,[]⟩),(1002,⟨7,s.cons.map eCon,[]⟩)]⟩ ?_ ?_
 ·refine dY tyOk mixed [(0,14)] (.cons 14 [] [(0,14)] (.cons 15 [] [(0,14)] (.cons 16 [] [(7,7)] (.cons 17 [] [] .leaf .none) .none) .none) (.cons 15 [] [(0,14)] (.cons 14 [] [(0,14)] (.cons 16 [] [(7,7)] (.cons 17 [] [] .leaf .none) .none) .none) .none)) [14,15,16,17] 8 fun K hK=>?_
  simp only [segt_leaf,segt_none,segt_cons,segs,List.drop_succ_cons,List.drop_zero,List.take_succ_cons,List.take_zero,List.getElem?_cons_zero,List.getElem?_cons_succ,List.cons_append,List.nil_append,List.append_nil] at hK ⊢
  simp -dsimp (disch:=first|exact D|fail) only [go_sem,↓reduceIte,seval,Option.getD_none,gi,gj,lm,hij',hij]
  repeat' (first|(((with_reducible refine VCt.step fun K hK=>?_))<;>simp -dsimp (disch:=first|exact D|fail) only [go_sem,↓reduceIte,seval,Option.getD_none,gi,gj,lm,hij',hij])|((with_reducible refine hK _ ?_);clear hK K)|(with_reducible refine VCt.intro fun K0 hK0=>?_)|((with_reducible refine VCt.fin ?_);(refine hK0 _ ?_);clear hK0 K0)|(with_reducible first|refine VCy.quiet ?_|refine VCt.none ?_)|((with_reducible refine VCy.keep ?_ ?_);focus ((simp -dsimp (disch:=first|exact D|fail) only [go_sem,↓reduceIte,seval,Stable_cons,Stable_nil,sameA_some,sameA_none,Option.getD_none,gi,gj,lm,hij',hij]);first|done|exact E|fail))|((with_reducible refine VCt.fork (fun K hK=>?_) ?_);(focus (simp -dsimp (disch:=first|exact D|fail) only [go_sem,↓reduceIte,seval,Option.getD_none,gi,gj,lm,hij',hij])))|refine Q1 ?_|fail)
  all_goals refine Gq.done ⟨rfl,?_⟩
  all_goals refine St.le_mk ?_ ?_ ?_<;>simp only [LE,EN,Nat.reduceEqDiff,reduceIte,Nat.reduceSub,eTbl]
 repeat' (first|((first|with_reducible refine qV tyOk fun K hK=>?_|refine Q2 ?_|with_reducible refine yD tyOk mixed 6 (by kernel_rfl) fun K hK=>?_|((with_reducible refine CallH.is ?_);(first|refine CallH.intro (sq) ?_|refine CallH.intro (ep) ?_)))<;>simp -dsimp (disch:=first|exact D|fail) only [go_sem,↓reduceIte,seval,Option.getD_none,hij'])|((with_reducible refine hK _ ?_);clear hK K)|refine Q1 ?_|((with_reducible refine qW (T:=TT) (b:=?_) ?_ ?_);rotate_left;exact rfl)|fail)
 refine AWP.midB ⟨188,[(0,.v (.one (.ptr 1000 0))),(1,.v (oI i)),(5,.v (.one (.ptr 5 0))),(6,.v (oI 0)),(7,.v (oI j)),(9,.v (.one (.ptr 9 0))),(10,.v (.one (.ptr 10 0))),(11,.v (.one (.ptr 11 0)))],[(11,[.int .i64 (t.pk.length:Int)]),(9,[.str t.name,.ref 2010 0 t.cols.length,.sl 1 (t.pk.map eInt1)]),(10,eTbl o),(5,[.str name]),(1000,[.ref 1000 0 s.tables.length,.ref 1001 0 s.fks.length,.ref 1002 0 s.cons.length])],[(1000,⟨3,s.tables.map eTbl,[(i,1,.ref 2010 0 t.cols.length)]⟩),(2010,⟨3,t.cols.map eCol,[]⟩),(1001,⟨3,s.fks.map eFKO,[]⟩),(1002,⟨7,s.cons.map eCon,[]⟩)]⟩ ?_ ?_
 ·refine AWP.loop (ι:={k:Nat // k≤t.pk.length∧scan (joinK t o) (t.pk.drop k) k=none}) (fun k=>⟨188,[(0,.v (.one (.ptr 1000 0))),(1,.v (oI i)),(5,.v (.one (.ptr 5 0))),(6,.v (oI 0)),(7,.v (oI j)),(9,.v (.one (.ptr 9 0))),(10,.v (.one (.ptr 10 0))),(11,.v (.one (.ptr 11 0))),(57,.v (.one (.sl 1 (t.pk.map eInt1)))),(58,.v (oI t.pk.length)),(59,.v (oI k.1))],[(11,[.int .i64 (t.pk.length:Int)]),(9,[.str t.name,.ref 2010 0 t.cols.length,.sl 1 (t.pk.map eInt1)]),(10,eTbl o),(5,[.str name]),(1000,[.ref 1000 0 s.tables.length,.ref 1001 0 s.fks.length,.ref 1002 0 s.cons.length])],[(1000,⟨3,s.tables.map eTbl,[(i,1,.ref 2010 0 t.cols.length)]⟩),(2010,⟨3,t.cols.map eCol,[]⟩),(1001,⟨3,s.fks.map eFKO,[]⟩),(1002,⟨7,s.cons.map eCon,[]⟩)]⟩) (fun k=>t.pk.length - k.1) ⟨0,Nat.zero_le _,hks⟩ ?_ fun ⟨k,hkl,hki⟩=>?_
  ·refine St.le_mk ?_ ?_ ?_<;>simp only [LE,EN,Nat.reduceEqDiff,reduceIte,Nat.reduceSub,eTbl]
  simp only at hkl hki ⊢
  rcases Nat.lt_or_ge k t.pk.length with hc|hc
  ·obtain ⟨z,hz,z1⟩:∃q:Nat,t.pk[k]=(q:Int)∧q<t.cols.length:=⟨t.pk[k].toNat,by have:=p1 t.pk[k] (List.getElem_mem hc);omega,by have:=p1 t.pk[k] (List.getElem_mem hc);omega⟩
   have gp:(t.pk.map eInt1).getD k []=[.int .i64 (z:Int)]:=by rw [getD_map_lt _ _ _ hc,hz];rfl
   have g1:(t.cols.map eCol).getD z []=eCol (t.cols.getD z zCol):=by rw [getD_map_lt _ _ _ z1,getD_lt _ z1]
   have g2:(o.cols.map eCol).getD k []=eCol (o.cols.getD k zCol):=by rw [getD_map_lt _ _ _ (by omega),getD_lt _ (by omega)]
   have sp:joinK t o k t.pk[k]=if (t.cols.getD z zCol).kind=(o.cols.getD k zCol).kind then none else some 9:=by unfold joinK;rw [hz,Int.toNat_natCast,ite_not]
   by_cases hx:(t.cols.getD z zCol).kind=(o.cols.getD k zCol).kind
   ·rw [if_pos hx] at sp
    repeat' (first|((first|with_reducible refine qV tyOk fun K hK=>?_|with_reducible refine yD tyOk mixed 6 (by kernel_rfl) fun K hK=>?_)<;>simp -dsimp (disch:=first|exact D|fail) only [go_sem,↓reduceIte,seval,gp,g1,g2,eCol,Option.getD_none,hx])|((with_reducible refine hK _ ?_);clear hK K)|refine Q1 ?_|((with_reducible refine qW (T:=TT) (b:=?_) ?_ ?_);rotate_left;exact rfl)|fail)
    refine ⟨⟨k+1,by omega,by rw [scan_step (by omega) sp,hki]⟩,by simp only;omega,?_⟩
    refine St.le_mk ?_ ?_ ?_<;>simp only [LE,EN,Nat.reduceEqDiff,reduceIte,Nat.reduceSub,eTbl]
   ·rw [if_neg hx] at sp
    rw [scan_hit (by omega) sp] at hki
    cases hki
  ·repeat' (first|((with_reducible refine qV tyOk fun K hK=>?_)<;>simp -dsimp (disch:=first|exact D|fail) only [go_sem,↓reduceIte,seval,Option.getD_none])|((with_reducible refine hK _ ?_);clear hK K)|refine Q1 ?_|((with_reducible refine qW (T:=TT) (b:=?_) ?_ ?_);rotate_left;exact rfl)|fail)
   refine Gq.done ⟨rfl,?_⟩
   refine St.le_mk ?_ ?_ ?_<;>simp only [LE,EN,Nat.reduceEqDiff,reduceIte,Nat.reduceSub,eTbl]
 refine AWP.lenB 9 1 rfl rfl ?_
 simp -dsimp (disch:=first|exact D|fail) only [go_sem,↓reduceIte,seval,boxLen_mk,ofLen,List.set_cons_zero,List.set_cons_succ]
 refine AWP.close 1000 i 1 2010 rfl rfl (by decide) (by simp [ovGet]) (by rw [lm];exact hi) (by show 1<3;decide) rfl ?_
 simp -dsimp (disch:=first|exact D|fail) only [go_sem,↓reduceIte,seval,closeR_mk,ovCut_cons,ovCut_nil]
 obtain ⟨T,hT⟩:∃T,setCell (s.tables.map eTbl) i 1 (.own 3 (t.cols.map eCol))=T:=⟨_,rfl⟩
 rw [hT]
 have dfo:=dropFK_okO s ⟨name,seqI t.pk.length,t.name⟩ q T s.tables.length hq e2 (by omega) b5
 have ek:eFK ⟨name,seqI t.pk.length,t.name⟩=[.str name,.sl 1 ((seqI t.pk.length).map eInt1),.str t.name]:=rfl
 rw [ek,hF1,←lF] at dfo
 have cf:=containsFFK_sat F1 128 [.fz [.str name]] _ (by omega) fun t _=>join1_sat t name
 rw [hfr] at cf
 have mF:∀f∈F1,f∈s.fks:=fun f hf=>by
  rw [←hF1] at hf
  rcases List.mem_append.1 hf with h|h
  ·exact List.mem_of_mem_take h
  ·exact List.mem_of_mem_drop h
 have rc:=remap_satM ⟨s.tables,F1,s.cons⟩ T s.tables.length name (joinG t) 130 [[.int .i64 (t.pk.length:Int)],[.str t.name,ofLen t.cols.length,.sl 1 (t.pk.map eInt1)],[.int .i64 (t.cols.length:Int)]] (by show F1.length≤_;omega) (by show s.cons.length≤_;omega) (fun f hf=>b5 f (mF f hf))
  (fun k hk _ c hc=>by
   have:=(sm.fk k (mF k hk)).2 c hc
   exact join2_sat t _ c (by omega) (by omega) (by omega) (by omega))
  (fun k hk _=>by
   have:=sm.con k hk
   exact ⟨join2_sat t _ _ (by omega) (by omega) (by omega) (by omega),fun h0=>join2_sat t _ _ h0 (by omega) (by omega) (by omega)⟩)
 simp only [List.map_cons,List.map_nil,ofLen] at rc
 repeat' (first|((first|((fail_if_success (refine AWP.isRegion 20 ?_));(with_reducible refine qV tyOk fun K hK=>?_))|(refine AWP.isRegion 14 ?_;refine dX tyOk mixed [(0,3),(4,2)] [(3,[(6,1)],[(0,2),(4,2)]),(7,[(8,1)],[])] [3,7] 8 fun K hK=>?_;simp only [SG,segs] at hK ⊢)|((with_reducible refine CallJ.is ?_);refine CallJ.io [(1000,1000)] [(1000,1000),(1001,1001),(1002,1002)] [(1000,1000)] [(1000,1000),(22,22),(1002,1002)] [] [1001,22] [1000,1000] [1000,1001,1002,1000,22,1002] (dfo) rfl ⟨rfl,rfl,rfl,rfl⟩ ?_ ?_ ?_)|((with_reducible refine CallJ.is ?_);(first|refine CallJ.pure (sq) ?_|((apply CallJ.lentI);(focus (simp -dsimp (disch:=first|exact D|fail) only [go_sem,↓reduceIte,seval,okIds_ref,Option.getD_none,frz_eFKO,takeM',dropL_nil,dropL_nil',dropL_cons];rfl));(focus (first|exact (sq)|exact (cf))))))|(with_reducible first|refine VCy.some fun K hK=>?_|refine VCy.step fun K hK=>?_))<;>simp -dsimp (disch:=first|exact D|fail) only [go_sem,↓reduceIte,seval,okIds_ref,Option.getD_none,frz_eFKO,takeM',dropL_nil,dropL_nil',dropL_cons])|((with_reducible refine hK _ ?_);clear hK K)|(with_reducible refine VCy.intro fun K0 hK0=>?_)|((with_reducible refine VCy.fin ?_);(refine hK0 _ ?_);clear hK0 K0)|(with_reducible refine VCy.quiet ?_)|((with_reducible refine VCy.keep ?_ ?_);focus ((simp -dsimp (disch:=first|exact D|fail) only [go_sem,↓reduceIte,seval,Stable_cons,Stable_nil,sameA_some,sameA_none,okIds_ref,Option.getD_none,frz_eFKO,takeM',dropL_nil,dropL_nil',dropL_cons]);first|done|exact E|fail))|refine Q1 ?_|((with_reducible refine qW (T:=TT) (b:=?_) ?_ ?_);rotate_left;exact rfl)|fail)
 refine AWP.keep [0,1,5,6,7,9,10,11,15] ?_
 simp -dsimp (disch:=first|exact D|fail) only [go_sem,↓reduceIte,seval,RT]
 refine AWP.frz [1000] [1000,22,1002] ?_
 simp -dsimp (disch:=first|exact D|fail) only [go_sem,↓reduceIte,seval,RT,St.rest,St.freeze,List.length_replicate]
 repeat' (first|((first|((fail_if_success (refine AWP.isRegion 21 ?_));(with_reducible refine qV tyOk fun K hK=>?_))|((with_reducible refine CallJ.is ?_);refine CallJ.io [(1000,1000)] [(1000,1000),(1001,22),(1002,1002)] [(1000,1000)] [(1000,1000),(1001,22),(1002,1002)] [] [] [1000,1000] [1000,22,1002,1000,22,1002] (rc) rfl ⟨rfl,rfl,rfl,rfl⟩ ?_ ?_ ?_))<;>simp -dsimp (disch:=first|exact D|fail) only [go_sem,↓reduceIte,seval,okIds_ref,Option.getD_none,dropL_nil,dropL_nil',dropL_cons])|((with_reducible refine hK _ ?_);clear hK K)|refine Q1 ?_|fail)
 refine AWP.frzR 22 rfl ?_
 simp -dsimp (disch:=first|exact D|fail) only [go_sem,↓reduceIte,seval,frzR_mk,frzTblO,frzFKO]
 refine AWP.keep [0,1,5,6,7,9,10,11] ?_
 simp -dsimp (disch:=first|exact D|fail) only [go_sem,↓reduceIte,seval,RT]
 rw [hF2,hC2,lF2,lC2]
 repeat' (first|((with_reducible refine qV tyOk fun K hK=>?_)<;>simp -dsimp (disch:=first|exact D|fail) only [go_sem,↓reduceIte,seval])|((with_reducible refine hK _ ?_);clear hK K)|refine Q1 ?_|fail)
 refine AWP.midB ⟨188,[(0,.v (.one (.ptr 1000 0))),(1,.v (oI i)),(5,.v (.one (.fz [.str name]))),(6,.v (oI 0)),(7,.v (oI j)),(9,.v (.one (.fz [.str t.name,.sl 0 (List.replicate t.cols.length []),.sl 1 (t.pk.map eInt1)]))),(10,.v (.one (.fz [.str o.name,.sl 3 (o.cols.map eCol),.sl 1 (o.pk.map eInt1)]))),(11,.v (.one (.fz [.int .i64 (t.pk.length:Int)])))],[(1000,[.ref 1000 0 s.tables.length,.ref 22 0 F2.length,.ref 1002 0 C2.length])],[(1000,⟨3,T,[]⟩),(22,⟨3,(F2.map (joinFK name t.name)).map eFK,[]⟩),(1002,⟨7,C2.map eCon,[]⟩)]⟩ ?_ ?_
 ·refine AWP.loop (ι:={k:Nat // k≤F2.length}) (fun k=>⟨188,[(0,.v (.one (.ptr 1000 0))),(1,.v (oI i)),(5,.v (.one (.fz [.str name]))),(6,.v (oI 0)),(7,.v (oI j)),(9,.v (.one (.fz [.str t.name,.sl 0 (List.replicate t.cols.length []),.sl 1 (t.pk.map eInt1)]))),(10,.v (.one (.fz [.str o.name,.sl 3 (o.cols.map eCol),.sl 1 (o.pk.map eInt1)]))),(11,.v (.one (.fz [.int .i64 (t.pk.length:Int)]))),(105,.v (oI F2.length)),(106,.v (oI k.1))],[(1000,[.ref 1000 0 s.tables.length,.ref 22 0 F2.length,.ref 1002 0 C2.length])],[(1000,⟨3,T,[]⟩),(22,⟨3,(mix (joinFK name t.name) F2 k.1).map eFK,[]⟩),(1002,⟨7,C2.map eCon,[]⟩)]⟩) (fun k=>F2.length - k.1) ⟨0,Nat.zero_le _⟩ ?_ fun ⟨k,hkl⟩=>?_
  ·refine St.le_mk ?_ ?_ ?_<;>simp only [LE,EN,Nat.reduceEqDiff,reduceIte,Nat.reduceSub,mix_zero]
  simp only at hkl ⊢
  rcases Nat.lt_or_ge k F2.length with hk|hk
  ·have ml:=mix_len (joinFK name t.name) F2 k
   have mg:=mixr_get eFK (joinFK name t.name) F2 k hk
   have ms:=mixr_set eFK (joinFK name t.name) F2 k hk
   have mk:=mix_keep (joinFK name t.name) F2 k hk
   obtain ⟨fb,hfb⟩:∃fb,F2[k]=fb:=⟨_,rfl⟩
   rw [hfb] at mg ms mk
   cases h1:sEq fb.table name
   ·have h1':¬ fb.table.toList=name.toList:=by simpa [sEq] using h1
    have mk:=mk (by unfold joinFK ren;rw [h1];rfl)
    repeat' (first|((first|with_reducible refine qV tyOk fun K hK=>?_|with_reducible refine yD tyOk mixed 6 (by kernel_rfl) fun K hK=>?_)<;>simp -dsimp (disch:=first|exact D|fail) only [go_sem,↓reduceIte,seval,ml,mg,h1',Option.getD_none])|((with_reducible refine hK _ ?_);clear hK K)|refine Q1 ?_|((with_reducible refine qW (T:=TT) (b:=?_) ?_ ?_);rotate_left;exact rfl)|fail)
    refine ⟨⟨k+1,by omega⟩,by simp only;omega,?_⟩
    refine St.le_mk ?_ ?_ ?_<;>simp only [LE,EN,Nat.reduceEqDiff,reduceIte,Nat.reduceSub,mk]
   ·have h1':fb.table.toList=name.toList:=by simpa [sEq] using h1
    have er:joinFK name t.name fb={fb with table:=t.name}:=by unfold joinFK ren;rw [h1];rfl
    rw [er] at ms
    simp only [eFK,eInts] at ms
    repeat' (first|((first|with_reducible refine qV tyOk fun K hK=>?_|(refine AWP.isRegion 25 ?_;refine dX tyOk mixed [(0,9)] [(9,[],[])] [9] 8 fun K hK=>?_;simp only [SG,segs] at hK ⊢)|with_reducible refine yD tyOk mixed 6 (by kernel_rfl) fun K hK=>?_|(with_reducible refine VCy.step fun K hK=>?_))<;>simp -dsimp (disch:=first|exact D|fail) only [go_sem,↓reduceIte,seval,ml,mg,h1',Option.getD_none])|((with_reducible refine hK _ ?_);clear hK K)|(with_reducible refine VCy.intro fun K0 hK0=>?_)|((with_reducible refine VCy.fin ?_);(refine hK0 _ ?_);clear hK0 K0)|(with_reducible first|refine VCy.quiet ?_|refine VCy.none ?_)|refine Q1 ?_|((with_reducible refine qW (T:=TT) (b:=?_) ?_ ?_);rotate_left;exact rfl)|fail)
    refine ⟨⟨k+1,by omega⟩,by simp only;omega,?_⟩
    refine St.le_mk ?_ ?_ ?_<;>simp only [LE,EN,Nat.reduceEqDiff,reduceIte,Nat.reduceSub,ms]
  ·have hk:k=F2.length:=by omega
   subst hk
   rw [mix_all]
   repeat' (first|((with_reducible refine qV tyOk fun K hK=>?_)<;>simp -dsimp (disch:=first|exact D|fail) only [go_sem,↓reduceIte,seval])|((with_reducible refine hK _ ?_);clear hK K)|refine Q1 ?_|((with_reducible refine qW (T:=TT) (b:=?_) ?_ ?_);rotate_left;exact rfl)|fail)
   refine Gq.done ⟨rfl,?_⟩
   refine St.le_mk ?_ ?_ ?_<;>simp only [LE,EN,Nat.reduceEqDiff,reduceIte,Nat.reduceSub]
 repeat' (first|((with_reducible refine qV tyOk fun K hK=>?_)<;>simp -dsimp (disch:=first|exact D|fail) only [go_sem,↓reduceIte,seval])|((with_reducible refine hK _ ?_);clear hK K)|refine Q1 ?_|fail)
 refine AWP.midB ⟨188,[(0,.v (.one (.ptr 1000 0))),(1,.v (oI i)),(6,.v (oI 0)),(7,.v (oI j)),(10,.v (.one (.fz [.str o.name,.sl 3 (o.cols.map eCol),.sl 1 (o.pk.map eInt1)]))),(11,.v (.one (.fz [.int .i64 (t.pk.length:Int)])))],[(1000,[.ref 1000 0 s.tables.length,.ref 22 0 F2.length,.ref 1002 0 C2.length])],[(1000,⟨3,T,[]⟩),(22,⟨3,(F2.map (joinFK name t.name)).map eFK,[]⟩),(1002,⟨7,(C2.map (joinCon name t.name)).map eCon,[]⟩)]⟩ ?_ ?_
 ·refine AWP.loop (ι:={k:Nat // k≤C2.length}) (fun k=>⟨188,[(0,.v (.one (.ptr 1000 0))),(1,.v (oI i)),(5,.v (.one (.fz [.str name]))),(6,.v (oI 0)),(7,.v (oI j)),(9,.v (.one (.fz [.str t.name,.sl 0 (List.replicate t.cols.length []),.sl 1 (t.pk.map eInt1)]))),(10,.v (.one (.fz [.str o.name,.sl 3 (o.cols.map eCol),.sl 1 (o.pk.map eInt1)]))),(11,.v (.one (.fz [.int .i64 (t.pk.length:Int)]))),(133,.v (oI C2.length)),(134,.v (oI k.1))],[(1000,[.ref 1000 0 s.tables.length,.ref 22 0 F2.length,.ref 1002 0 C2.length])],[(1000,⟨3,T,[]⟩),(22,⟨3,(F2.map (joinFK name t.name)).map eFK,[]⟩),(1002,⟨7,(mix (joinCon name t.name) C2 k.1).map eCon,[]⟩)]⟩) (fun k=>C2.length - k.1) ⟨0,Nat.zero_le _⟩ ?_ fun ⟨k,hkl⟩=>?_
  ·refine St.le_mk ?_ ?_ ?_<;>simp only [LE,EN,Nat.reduceEqDiff,reduceIte,Nat.reduceSub,mix_zero]
  simp only at hkl ⊢
  rcases Nat.lt_or_ge k C2.length with hk|hk
  ·have ml:=mix_len (joinCon name t.name) C2 k
   have mg:=mixr_get eCon (joinCon name t.name) C2 k hk
   have ms:=mixr_set eCon (joinCon name t.name) C2 k hk
   have mk:=mix_keep (joinCon name t.name) C2 k hk
   obtain ⟨fb,hfb⟩:∃fb,C2[k]=fb:=⟨_,rfl⟩
   rw [hfb] at mg ms mk
   cases h1:sEq fb.table name
   ·have h1':¬ fb.table.toList=name.toList:=by simpa [sEq] using h1
    have mk:=mk (by unfold joinCon ren;rw [h1];rfl)
    repeat' (first|((first|with_reducible refine qV tyOk fun K hK=>?_|with_reducible refine yD tyOk mixed 6 (by kernel_rfl) fun K hK=>?_)<;>simp -dsimp (disch:=first|exact D|fail) only [go_sem,↓reduceIte,seval,ml,mg,h1',Option.getD_none])|((with_reducible refine hK _ ?_);clear hK K)|refine Q1 ?_|((with_reducible refine qW (T:=TT) (b:=?_) ?_ ?_);rotate_left;exact rfl)|fail)
    refine ⟨⟨k+1,by omega⟩,by simp only;omega,?_⟩
    refine St.le_mk ?_ ?_ ?_<;>simp only [LE,EN,Nat.reduceEqDiff,reduceIte,Nat.reduceSub,mk]
   ·have h1':fb.table.toList=name.toList:=by simpa [sEq] using h1
    have er:joinCon name t.name fb={fb with table:=t.name}:=by unfold joinCon ren;rw [h1];rfl
    rw [er] at ms
    simp only [eCon] at ms
    repeat' (first|((first|with_reducible refine qV tyOk fun K hK=>?_|(refine AWP.isRegion 31 ?_;refine dX tyOk mixed [(0,9)] [(9,[],[])] [9] 8 fun K hK=>?_;simp only [SG,segs] at hK ⊢)|with_reducible refine yD tyOk mixed 6 (by kernel_rfl) fun K hK=>?_|(with_reducible refine VCy.step fun K hK=>?_))<;>simp -dsimp (disch:=first|exact D|fail) only [go_sem,↓reduceIte,seval,ml,mg,h1',Option.getD_none])|((with_reducible refine hK _ ?_);clear hK K)|(with_reducible refine VCy.intro fun K0 hK0=>?_)|((with_reducible refine VCy.fin ?_);(refine hK0 _ ?_);clear hK0 K0)|(with_reducible first|refine VCy.quiet ?_|refine VCy.none ?_)|refine Q1 ?_|((with_reducible refine qW (T:=TT) (b:=?_) ?_ ?_);rotate_left;exact rfl)|fail)
    refine ⟨⟨k+1,by omega⟩,by simp only;omega,?_⟩
    refine St.le_mk ?_ ?_ ?_<;>simp only [LE,EN,Nat.reduceEqDiff,reduceIte,Nat.reduceSub,ms]
  ·have hk:k=C2.length:=by omega
   subst hk
   rw [mix_all]
   repeat' (first|((with_reducible refine qV tyOk fun K hK=>?_)<;>simp -dsimp (disch:=first|exact D|fail) only [go_sem,↓reduceIte,seval])|((with_reducible refine hK _ ?_);clear hK K)|refine Q1 ?_|((with_reducible refine qW (T:=TT) (b:=?_) ?_ ?_);rotate_left;exact rfl)|fail)
   refine Gq.done ⟨rfl,?_⟩
   refine St.le_mk ?_ ?_ ?_<;>simp only [LE,EN,Nat.reduceEqDiff,reduceIte,Nat.reduceSub]
 have hT2:T=(s.tables.map eTbl).set i [.str t.name,.own 3 (t.cols.map eCol),.sl 1 (t.pk.map eInt1)]:=by
  rw [←hT]
  unfold setCell
  rw [gi]
  rfl
 have hTc:cellOf T i 1=some (.own 3 (t.cols.map eCol)):=by
  rw [hT2]
  unfold cellOf
  rw [List.getElem?_set_self (by rw [lm];exact hi)]
  rfl
 have lT:T.length=s.tables.length:=by rw [hT2,List.length_set,lm]
 have gT:T.getD i []=[.str t.name,.own 3 (t.cols.map eCol),.sl 1 (t.pk.map eInt1)]:=by rw [hT2];exact getD_set1 _ _ _ (by rw [lm];exact hi)
 refine AWP.openC 1000 i 1 2010 rfl hTc rfl (by decide) (by decide) ?_
 simp -dsimp (disch:=first|exact D|fail) only [go_sem,↓reduceIte,seval,openR_mk]
 have hdr:(o.cols.map eCol).drop t.pk.length=(o.cols.drop t.pk.length).map eCol:=by rw [List.map_drop]
 have htk:List.take (o.cols.length - t.pk.length) ((o.cols.drop t.pk.length).map eCol)=(o.cols.drop t.pk.length).map eCol:=List.take_of_length_le (by simp)
 repeat' (first|((first|(refine AWP.isRegion 33 ?_;refine dX tyOk mixed [(0,17)] [(17,[(18,2)],[(0,5)]),(20,[],[])] [17,20] 8 fun K hK=>?_;simp only [SG,segs] at hK ⊢)|(with_reducible first|refine VCy.some fun K hK=>?_|refine VCy.step fun K hK=>?_))<;>simp -dsimp (disch:=first|exact D|fail) only [go_sem,↓reduceIte,seval,Option.getD_none,lT,gT,hdr,htk])|((with_reducible refine hK _ ?_);clear hK K)|(with_reducible refine VCy.intro fun K0 hK0=>?_)|((with_reducible refine VCy.fin ?_);(refine hK0 _ ?_);clear hK0 K0)|(with_reducible first|refine VCy.quiet ?_|refine VCy.none ?_)|((with_reducible refine VCy.keep ?_ ?_);focus ((simp -dsimp (disch:=first|exact D|fail) only [go_sem,↓reduceIte,seval,Stable_cons,Stable_nil,sameA_some,sameA_none,Option.getD_none,lT,gT,hdr,htk]);first|done|exact E|fail))|refine Q1 ?_|fail)
 refine AWP.close 1000 i 1 174 rfl rfl (by decide) (by simp [ovGet]) (by simp [lT];exact hi) (by show 1<3;decide) rfl ?_
 simp -dsimp (disch:=first|exact D|fail) only [go_sem,↓reduceIte,seval,closeR_mk,ovCut_cons,ovCut_nil]
 rw [setCell_set _ _ _ _ _ (by rw [lT];exact hi)]
 simp -dsimp (disch:=first|exact D|fail) only [go_sem,↓reduceIte,seval,List.set_cons_succ,List.set_cons_zero]
 rw [hT2,List.set_set]
 have fm:frzXs (s.tables.map eTbl)=s.tables.map eTbl:=frzTbl _
 have e3:(s.tables.map eTbl).set i [.str t.name,.sl 3 (t.cols.map eCol++(o.cols.drop t.pk.length).map eCol),.sl 1 (t.pk.map eInt1)]=U.map eTbl:=by
  rw [←hU,List.map_set]
  simp only [eTbl,eCols,eInts,List.map_append]
 refine AWP.frzR 1000 rfl ?_
 simp -dsimp (disch:=first|exact D|fail) only [go_sem,↓reduceIte,seval,frzR_mk,frzTblO,frzFKO,frzXs_set,fm,List.map_append,frz3c,frz3i]
 rw [e3]
 have dl:=deleteTbls_own (U.map eTbl) j (by simp;omega) (by simp;omega) (by rw [noOwn_eTbl];trivial)
 rw [List.length_map] at dl
 have cm:=cut_map eTbl U j (by omega) [.str ByteArray.empty,.sl 3 [],.sl 1 []]
 rw [←lU]
 repeat' (first|((first|with_reducible refine qV tyOk fun K hK=>?_|((with_reducible refine CallJ.is ?_);refine CallJ.io [] [(1000,1000)] [] [(6,185)] [] [1000,185] [] [1000,185] (dl) rfl ⟨rfl,rfl,rfl,rfl⟩ ?_ ?_ ?_))<;>simp -dsimp (disch:=first|exact D|fail) only [go_sem,↓reduceIte,seval,Option.getD_none,okIds_ref,dropL_nil,dropL_nil',dropL_cons])|((with_reducible refine hK _ ?_);clear hK K)|refine Q1 ?_|fail)
 refine Gq.cutR 185 (U.length - 1) rfl rfl (by simp;omega) ?_
 simp -dsimp (disch:=first|exact D|fail) only [go_sem,↓reduceIte,seval]
 rw [cm]
 refine Gq.renR 185 1 rfl rfl (by decide) (.inl (Nat.le_of_ble_eq_true rfl)) ?_
 simp -dsimp (disch:=first|exact D|fail) only [go_sem,↓reduceIte,seval,renR_mk,L.ren,L.ren0]
 refine Gq.renR 22 2 rfl rfl (by decide) (.inl (Nat.le_of_ble_eq_true rfl)) ?_
 simp -dsimp (disch:=first|exact D|fail) only [go_sem,↓reduceIte,seval,renR_mk,L.ren,L.ren0]
 refine Gq.renR 1002 3 rfl rfl (by decide) (.inl (Nat.le_of_ble_eq_true rfl)) ?_
 simp -dsimp (disch:=first|exact D|fail) only [go_sem,↓reduceIte,seval,renR_mk,L.ren,L.ren0]
 refine Gq.done ?_
 simp -dsimp (disch:=first|exact D|fail) only [retQ,Tryz.results83,resVals,cellRV,resOf,St.rest,St.freeze,RT,go_sem,↓reduceIte,seval]
 rw [List.map_append]
theorem joinTables_satM (s:Sch) (i:Nat) (name:ByteArray) (hi:i<s.tables.length) (sm:SmallS s) (hpk:∀t∈s.tables,PkOk t) :
  SatM Tryz.prog 83 [.one (.ptr 1000 0),oI i,oS name] (iB s) (iR s) (.v (oI (rE (joinT s i name)))) (oBE (joinT s i name)) (oRE (joinT s i name)):=by
 cases hE:joinT s i name with
 | error e=>exact join_err s i name e hi sm hpk hE
 | ok R=>exact join_ok s i name R hi sm hpk hE
end Go.Bw
