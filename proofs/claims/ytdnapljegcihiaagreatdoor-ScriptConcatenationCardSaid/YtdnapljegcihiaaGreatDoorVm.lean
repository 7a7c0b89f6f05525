/-
  WHAT IS PROVED HERE, of this translation: partitionTable_satM.
  A theorem that ends in sat says what the function it names returns, whatever the state it is called in; the bounds on its arguments stand ahead of it.
-/
import Derived.Test.YtdnapljegcihiaaGreatDoorVg
set_option linter.unusedSimpArgs false
set_option linter.unusedVariables false
namespace Go.Bw
open Go.Proofs
set_option maxHeartbeats 32000000 in
theorem partitionTable_satM (s:Sch) (i:Nat) (st:Stp) (hi:i<s.tables.length) (sm:SmallS s) :
  SatM Tryz.prog 84 [.one (.ptr 1000 0),oI i,.agg (eStp st)] (iB s) (iR s) (.v (oI (rE (partT s i st)))) (oBE (partT s i st)) (oRE (partT s i st)):=by
 have b1:=sm.tables
 have b2:=sm.table s.tables[i] (List.getElem_mem hi)
 have b3:=sm.fks
 have b4:=sm.cons
 obtain ⟨t,ht⟩:∃t,s.tables[i]=t:=⟨_,rfl⟩
 have htA:tAt s i=t:=by unfold tAt;rw [getD_lt _ hi,ht]
 rw [ht] at b2
 obtain ⟨b6,b7,_⟩:=b2
 have lm:(s.tables.map eTbl).length=s.tables.length:=List.length_map ..
 have gi:(s.tables.map eTbl).getD i []=eTbl t:=by rw [getD_map_lt _ _ _ hi,ht]
 have fc:=findColumn_sat t st.column (by omega)
 have sa:=satisfies_sat st.value st.value st.op
 have va:=validate_sat st.value
 have fs:=findTable_sat s st.other (by omega)
 have cf:=containsFFK_sat s.fks 131 [.fz (eTbl t)] _ (by omega) fun f _=>part1_sat f t
 simp only [eVal] at sa va
 obtain ⟨R,hR⟩:∃R,partT s i st=R:=⟨_,rfl⟩
 have spec:=hR
 unfold partT at spec
 simp only [htA] at spec
 rw [hR]
 unfold iB iR
 refine ZM [1000] [1,2,3] Tryz.func84 Tryz.ntmps84 fun w0 m0 F0=>?_
 refine AWP.gq ?_
 refine AWP.frzR 1000 rfl ?_
 refine ZU (Z3 @frzR_mk @frzTblO @frzFKO) ?_
 refine AWP.frzR 1001 rfl ?_
 refine ZU (Z3 @frzR_mk @frzTblO @frzFKO) ?_
 rcases idx_cases (fun u=>sEq u.name st.column) t.cols 0 with ⟨e1,_⟩|⟨z,hz,e1,_,_⟩
 ·have e1:colAt t.cols st.column=-1:=e1
  rw [e1,mx0_neg] at fc
  rw [e1,if_pos (by omega)] at spec
  subst spec
  unfold oBE oRE rE
  simp only
  refine ZW (Z3 @eStp.eq_1 @gi @lm) (Z1 (fc)) ?_
  refine Gq.done ?_
  exact ZQ (Z1 Tryz.results84)
 have e1:colAt t.cols st.column=(z:Int):=by unfold colAt;simpa using e1
 rw [e1,mx0_nat,decide_eq_true (show (0:Int)≤(z:Int) by omega)] at fc
 rw [e1,if_neg (by omega),Int.toNat_natCast] at spec
 refine ZV (Z3 @eStp.eq_1 @gi @lm) (Z1 (fc)) (Z1 (Zs 5)) Z0 ?_
 by_cases h1:satE st.op=0
 case neg =>
  rw [if_pos h1] at spec
  subst spec
  unfold oBE oRE rE
  simp only
  refine ZW (Z2 @eStp.eq_1 @h1) (Z1 (sa)) ?_
  refine Gq.done ?_
  exact ZQ (Z1 Tryz.results84)
 rw [if_neg (by rw [h1];simp)] at spec
 rw [h1] at sa
 by_cases h2:valE st.value=0
 case neg =>
  rw [if_pos h2] at spec
  subst spec
  unfold oBE oRE rE
  simp only
  refine ZW (Z2 @eStp.eq_1 @h2) (Z2 (sa) (va)) ?_
  refine Gq.done ?_
  exact ZQ (Z1 Tryz.results84)
 rw [if_neg (by rw [h2];simp)] at spec
 rw [h2] at va
 have gz:(t.cols.map eCol).getD z []=eCol (t.cols.getD z zCol):=by rw [getD_map_lt _ _ _ hz,getD_lt _ hz]
 refine ZV (Z1 @eStp.eq_1) (Z2 (sa) (va)) (Z1 (Zs 11)) Z0 ?_
 by_cases h3:st.value.kind=(t.cols.getD z zCol).kind
 case neg =>
  rw [if_pos h3] at spec
  subst spec
  unfold oBE oRE rE
  simp only
  refine ZWy (Z3 @eStp.eq_1 @gz @h3) Z0 ?_
  refine Gq.done ?_
  exact ZQ (Z1 Tryz.results84)
 rw [if_neg (by rw [h3];simp)] at spec
 have h3s:=h3.symm
 rcases idx_cases (fun u=>sEq u.name st.other) s.tables 0 with ⟨e2,_⟩|⟨j,hj,e2,_,_⟩
 case inr =>
  have e2:tblAt s.tables st.other=(j:Int):=by unfold tblAt;simpa using e2
  rw [e2,mx0_nat,decide_eq_true (show (0:Int)≤(j:Int) by omega)] at fs
  rw [e2,if_pos (by omega)] at spec
  subst spec
  unfold oBE oRE rE
  simp only
  refine ZVy (Z3 @eStp.eq_1 @gz @h3s) (Z1 (fs)) (Z1 (Zd 13 [(0,5)] [(5,[(6,5)],[])] [5] 8)) Z0 ?_
  refine Gq.done ?_
  exact ZQ (Z1 Tryz.results84)
 have e2:tblAt s.tables st.other=-1:=e2
 rw [e2,mx0_neg] at fs
 rw [e2,if_neg (by omega)] at spec
 refine ZVy (Z3 @eStp.eq_1 @gz @h3s) (Z1 (fs)) (Z2 (Zs 16) (Zd 13 [(0,5)] [(5,[(6,5)],[])] [5] 8)) Z0 ?_
 cases h5:(s.fks.any fun f=>sEq f.ref t.name) with
 | true =>
  rw [h5] at spec cf
  rw [if_pos rfl] at spec
  subst spec
  unfold oBE oRE rE
  simp only
  refine ZW (Z1 @eStp.eq_1) (Z1 (cf)) ?_
  refine Gq.done ?_
  exact ZQ (Z1 Tryz.results84)
 | false =>
 rw [h5] at spec cf
 rw [if_neg (by simp)] at spec
 refine ZV (Z1 @eStp.eq_1) (Z1 (cf)) (Z1 (Zs 18)) Z0 ?_
 refine AWP.keep [0,1,5,6,7] ?_
 refine ZS Z0 ?_
 refine AWP.frz [1000] [1000,1001,1002] ?_
 refine ZS Z0 ?_
 have pf:=partFK_len t st
 have pc:=partCon_len t st
 refine ZW Z0 Z0 ?_
 refine AWP.midB ⟨149,[(0,.v (.one (.ptr 1000 0))),(1,.v (oI i)),(5,.v (.one (.fz (eStp st)))),(6,.v (oI 0)),(7,.v (.one (.fz (eTbl t))))],[(1000,[.ref 1000 0 s.tables.length,.ref 2 0 (s.fks++partFK t st s.fks).length,.ref 1002 0 s.cons.length])],[(1000,⟨3,s.tables.map eTbl,[]⟩),(2,⟨3,(s.fks++partFK t st s.fks).map eFK,[]⟩),(1002,⟨7,s.cons.map eCon,[]⟩)]⟩ ?_ ?_
 ·refine AWP.loop (ι:={k:Nat // k≤s.fks.length} ⊕ {k:Nat // k≤s.fks.length}) (fun x=>match x with
   | .inl k=>⟨149,[(0,.v (.one (.ptr 1000 0))),(1,.v (oI i)),(5,.v (.one (.fz (eStp st)))),(6,.v (oI 0)),(7,.v (.one (.fz (eTbl t)))),(84,.v (.one (.ref 1001 0 s.fks.length))),(85,.v (oI s.fks.length)),(86,.v (oI k.1))],[(1000,[.ref 1000 0 s.tables.length,.ref 1001 0 (s.fks++partFK t st (s.fks.take k.1)).length,.ref 1002 0 s.cons.length])],[(1000,⟨3,s.tables.map eTbl,[]⟩),(1001,⟨3,(s.fks++partFK t st (s.fks.take k.1)).map eFK,[]⟩),(1002,⟨7,s.cons.map eCon,[]⟩)]⟩
   | .inr k=>⟨149,[(0,.v (.one (.ptr 1000 0))),(1,.v (oI i)),(5,.v (.one (.fz (eStp st)))),(6,.v (oI 0)),(7,.v (.one (.fz (eTbl t)))),(84,.v (.one (.ref 1001 0 s.fks.length))),(85,.v (oI s.fks.length)),(86,.v (oI k.1))],[(1000,[.ref 1000 0 s.tables.length,.ref 109 0 (s.fks++partFK t st (s.fks.take k.1)).length,.ref 1002 0 s.cons.length])],[(1000,⟨3,s.tables.map eTbl,[]⟩),(1001,⟨3,s.fks.map eFK,[]⟩),(109,⟨3,(s.fks++partFK t st (s.fks.take k.1)).map eFK,[]⟩),(1002,⟨7,s.cons.map eCon,[]⟩)]⟩)
   (fun x=>match x with|.inl k=>s.fks.length - k.1|.inr k=>s.fks.length - k.1) (.inl ⟨0,Nat.zero_le _⟩) ?_ fun x=>?_
  ·simp only [List.take_zero,show partFK t st []=[] from rfl,List.append_nil]
   exact ZL (Z2 @eStp.eq_1 @eTbl.eq_1)
  rcases x with ⟨k,hkl⟩|⟨k,hkl⟩
  ·simp only at hkl ⊢
   rcases Nat.lt_or_ge k s.fks.length with hk|hk
   ·have sn:=partFK_snoc t st s.fks k hk
    have lk:=pf (s.fks.take k)
    rw [List.length_take] at lk
    obtain ⟨fb,hfb⟩:∃fb,s.fks[k]=fb:=⟨_,rfl⟩
    have mg:((s.fks++partFK t st (s.fks.take k)).map eFK).getD k []=eFK fb:=by
     rw [List.map_append,List.getD_eq_getElem?_getD,List.getElem?_append_left (by simpa using hk),←List.getD_eq_getElem?_getD,getD_map_lt _ _ _ hk,hfb]
    have bf:=(sm.fk s.fks[k] (List.getElem_mem hk)).1
    rw [hfb] at sn bf
    obtain ⟨N,hN⟩:∃N,partFK t st (s.fks.take k)=N:=⟨_,rfl⟩
    rw [hN] at sn mg lk ⊢
    have ci:=cloneInts_sat fb.cols (by omega)
    cases hT:sEq fb.table t.name with
    | false =>
     have hT':¬ fb.table.toList=t.name.toList:=by simpa [sEq] using hT
     rw [hT] at sn
     simp only [Bool.false_eq_true,if_false,List.append_nil] at sn
     refine ZW (Z2 @mg @hT') Z0 ?_
     refine ⟨.inl ⟨k+1,by omega⟩,by simp only;omega,?_⟩
     simp only [sn]
     exact ZN (Z3 @eStp.eq_1 @eTbl.eq_1 @eFK.eq_1)
    | true =>
     have hT':fb.table.toList=t.name.toList:=by simpa [sEq] using hT
     rw [hT] at sn
     simp only [if_true] at sn
     refine ZVt (Z4 @eStp.eq_1 @mg @hT' @app2K_rr) (Z1 (ci)) (Z2 (Zs 23) (Zd 22 [(0,9),(10,2)] [(9,[(12,1)],[(0,7),(10,2)]),(13,[],[(0,5)]),(14,[(15,2)],[(0,1)]),(17,[],[])] [9,13,14,17] 8)) Z0 ?_;repeat' (first|apply Zb|apply Zn)
     ·refine ZW Z0 Z0 ?_
      refine ⟨.inl ⟨k+1,by omega⟩,by simp only;omega,?_⟩
      simp only [sn]
      exact ZN (Z3 @eStp.eq_1 @eTbl.eq_1 @eFK.eq_1)
     ·refine AWP.cutR 1001 (s.fks.length) rfl rfl (by simp) ?_
      refine ZU Z0 ?_
      have tk:List.take s.fks.length (List.map eFK (s.fks++N))=s.fks.map eFK:=by rw [List.map_append];exact List.take_left' (by simp)
      rw [tk]
      refine ZW Z0 Z0 ?_
      refine ⟨.inr ⟨k+1,by omega⟩,by simp only;omega,?_⟩
      simp only [sn]
      exact ZN (Z3 @eStp.eq_1 @eTbl.eq_1 @eFK.eq_1)
   ·have hk:k=s.fks.length:=by omega
    subst hk
    rw [List.take_length]
    refine ZW Z0 Z0 ?_
    refine Gq.renR 1001 2 rfl rfl (by decide) (.inl (Nat.le_of_ble_eq_true rfl)) ?_
    refine ZT Z0 ?_
    refine Gq.done ⟨rfl,?_⟩
    exact ZN (Z3 @eStp.eq_1 @eTbl.eq_1 @eFK.eq_1)
  ·simp only at hkl ⊢
   rcases Nat.lt_or_ge k s.fks.length with hk|hk
   ·have sn:=partFK_snoc t st s.fks k hk
    have lk:=pf (s.fks.take k)
    rw [List.length_take] at lk
    obtain ⟨fb,hfb⟩:∃fb,s.fks[k]=fb:=⟨_,rfl⟩
    have mg:(s.fks.map eFK).getD k []=eFK fb:=by rw [getD_map_lt _ _ _ hk,hfb]
    have bf:=(sm.fk s.fks[k] (List.getElem_mem hk)).1
    rw [hfb] at sn bf
    obtain ⟨N,hN⟩:∃N,partFK t st (s.fks.take k)=N:=⟨_,rfl⟩
    rw [hN] at sn lk ⊢
    have ci:=cloneInts_sat fb.cols (by omega)
    cases hT:sEq fb.table t.name with
    | false =>
     have hT':¬ fb.table.toList=t.name.toList:=by simpa [sEq] using hT
     rw [hT] at sn
     simp only [Bool.false_eq_true,if_false,List.append_nil] at sn
     refine ZW (Z2 @mg @hT') Z0 ?_
     refine ⟨.inr ⟨k+1,by omega⟩,by simp only;omega,?_⟩
     simp only [sn]
     exact ZN (Z3 @eStp.eq_1 @eTbl.eq_1 @eFK.eq_1)
    | true =>
     have hT':fb.table.toList=t.name.toList:=by simpa [sEq] using hT
     rw [hT] at sn
     simp only [if_true] at sn
     refine ZV (Z3 @eStp.eq_1 @mg @hT') (Z1 (ci)) (Z1 (Zd 22 [(0,9),(10,2)] [(9,[(12,1)],[(0,7),(10,2)]),(13,[],[(0,5)]),(14,[(15,2)],[(0,1)]),(17,[],[])] [9,13,14,17] 8)) Z0 ?_
     refine ⟨.inr ⟨k+1,by omega⟩,by simp only;omega,?_⟩
     simp only [sn]
     exact ZN (Z3 @eStp.eq_1 @eTbl.eq_1 @eFK.eq_1)
   ·have hk:k=s.fks.length:=by omega
    subst hk
    rw [List.take_length]
    refine ZW Z0 Z0 ?_
    refine Gq.renR 109 2 rfl rfl (by decide) (.inl (Nat.le_of_ble_eq_true rfl)) ?_
    refine ZT Z0 ?_
    refine Gq.done ⟨rfl,?_⟩
    exact ZN (Z3 @eStp.eq_1 @eTbl.eq_1 @eFK.eq_1)
 refine ZW Z0 Z0 ?_
 refine AWP.midB ⟨149,[(0,.v (.one (.ptr 1000 0))),(1,.v (oI i)),(5,.v (.one (.fz (eStp st)))),(6,.v (oI 0)),(7,.v (.one (.fz (eTbl t))))],[(1000,[.ref 1000 0 s.tables.length,.ref 2 0 (s.fks++partFK t st s.fks).length,.ref 3 0 (s.cons++partCon t st s.cons).length])],[(1000,⟨3,s.tables.map eTbl,[]⟩),(2,⟨3,(s.fks++partFK t st s.fks).map eFK,[]⟩),(3,⟨7,(s.cons++partCon t st s.cons).map eCon,[]⟩)]⟩ ?_ ?_
 ·refine AWP.loop (ι:={k:Nat // k≤s.cons.length} ⊕ {k:Nat // k≤s.cons.length}) (fun x=>match x with
   | .inl k=>⟨149,[(0,.v (.one (.ptr 1000 0))),(1,.v (oI i)),(5,.v (.one (.fz (eStp st)))),(6,.v (oI 0)),(7,.v (.one (.fz (eTbl t)))),(116,.v (.one (.ref 1002 0 s.cons.length))),(117,.v (oI s.cons.length)),(118,.v (oI k.1))],[(1000,[.ref 1000 0 s.tables.length,.ref 2 0 (s.fks++partFK t st s.fks).length,.ref 1002 0 (s.cons++partCon t st (s.cons.take k.1)).length])],[(1000,⟨3,s.tables.map eTbl,[]⟩),(2,⟨3,(s.fks++partFK t st s.fks).map eFK,[]⟩),(1002,⟨7,(s.cons++partCon t st (s.cons.take k.1)).map eCon,[]⟩)]⟩
   | .inr k=>⟨149,[(0,.v (.one (.ptr 1000 0))),(1,.v (oI i)),(5,.v (.one (.fz (eStp st)))),(6,.v (oI 0)),(7,.v (.one (.fz (eTbl t)))),(116,.v (.one (.ref 1002 0 s.cons.length))),(117,.v (oI s.cons.length)),(118,.v (oI k.1))],[(1000,[.ref 1000 0 s.tables.length,.ref 2 0 (s.fks++partFK t st s.fks).length,.ref 137 0 (s.cons++partCon t st (s.cons.take k.1)).length])],[(1000,⟨3,s.tables.map eTbl,[]⟩),(2,⟨3,(s.fks++partFK t st s.fks).map eFK,[]⟩),(1002,⟨7,s.cons.map eCon,[]⟩),(137,⟨7,(s.cons++partCon t st (s.cons.take k.1)).map eCon,[]⟩)]⟩)
   (fun x=>match x with|.inl k=>s.cons.length - k.1|.inr k=>s.cons.length - k.1) (.inl ⟨0,Nat.zero_le _⟩) ?_ fun x=>?_
  ·simp only [List.take_zero,show partCon t st []=[] from rfl,List.append_nil]
   exact ZN (Z2 @eStp.eq_1 @eTbl.eq_1)
  rcases x with ⟨k,hkl⟩|⟨k,hkl⟩
  ·simp only at hkl ⊢
   rcases Nat.lt_or_ge k s.cons.length with hk|hk
   ·have sn:=partCon_snoc t st s.cons k hk
    have lk:=pc (s.cons.take k)
    rw [List.length_take] at lk
    obtain ⟨fb,hfb⟩:∃fb,s.cons[k]=fb:=⟨_,rfl⟩
    have mg:((s.cons++partCon t st (s.cons.take k)).map eCon).getD k []=eCon fb:=by
     rw [List.map_append,List.getD_eq_getElem?_getD,List.getElem?_append_left (by simpa using hk),←List.getD_eq_getElem?_getD,getD_map_lt _ _ _ hk,hfb]
    rw [hfb] at sn
    obtain ⟨N,hN⟩:∃N,partCon t st (s.cons.take k)=N:=⟨_,rfl⟩
    rw [hN] at sn mg lk ⊢
    cases hT:sEq fb.table t.name with
    | false =>
     have hT':¬ fb.table.toList=t.name.toList:=by simpa [sEq] using hT
     rw [hT] at sn
     simp only [Bool.false_eq_true,if_false,List.append_nil] at sn
     refine ZW (Z2 @mg @hT') Z0 ?_
     refine ⟨.inl ⟨k+1,by omega⟩,by simp only;omega,?_⟩
     simp only [sn]
     exact ZN (Z3 @eStp.eq_1 @eTbl.eq_1 @eCon.eq_1)
    | true =>
     have hT':fb.table.toList=t.name.toList:=by simpa [sEq] using hT
     rw [hT] at sn
     simp only [if_true] at sn
     refine ZVt (Z4 @eStp.eq_1 @mg @hT' @app2K_rr) Z0 (Z2 (Zs 30) (Zd 29 [(0,6)] [(6,[],[(0,5)]),(7,[(8,2)],[(0,1)]),(10,[],[])] [6,7,10] 8)) Z0 ?_;repeat' (first|apply Zb|apply Zn)
     ·refine ZW Z0 Z0 ?_
      refine ⟨.inl ⟨k+1,by omega⟩,by simp only;omega,?_⟩
      simp only [sn]
      exact ZN (Z3 @eStp.eq_1 @eTbl.eq_1 @eCon.eq_1)
     ·refine AWP.cutR 1002 (s.cons.length) rfl rfl (by simp) ?_
      refine ZU Z0 ?_
      have tk:List.take s.cons.length (List.map eCon (s.cons++N))=s.cons.map eCon:=by rw [List.map_append];exact List.take_left' (by simp)
      rw [tk]
      refine ZW Z0 Z0 ?_
      refine ⟨.inr ⟨k+1,by omega⟩,by simp only;omega,?_⟩
      simp only [sn]
      exact ZN (Z3 @eStp.eq_1 @eTbl.eq_1 @eCon.eq_1)
   ·have hk:k=s.cons.length:=by omega
    subst hk
    rw [List.take_length]
    refine ZW Z0 Z0 ?_
    refine Gq.renR 1002 3 rfl rfl (by decide) (.inl (Nat.le_of_ble_eq_true rfl)) ?_
    refine ZT Z0 ?_
    refine Gq.done ⟨rfl,?_⟩
    exact ZN (Z3 @eStp.eq_1 @eTbl.eq_1 @eCon.eq_1)
  ·simp only at hkl ⊢
   rcases Nat.lt_or_ge k s.cons.length with hk|hk
   ·have sn:=partCon_snoc t st s.cons k hk
    have lk:=pc (s.cons.take k)
    rw [List.length_take] at lk
    obtain ⟨fb,hfb⟩:∃fb,s.cons[k]=fb:=⟨_,rfl⟩
    have mg:(s.cons.map eCon).getD k []=eCon fb:=by rw [getD_map_lt _ _ _ hk,hfb]
    rw [hfb] at sn
    obtain ⟨N,hN⟩:∃N,partCon t st (s.cons.take k)=N:=⟨_,rfl⟩
    rw [hN] at sn lk ⊢
    cases hT:sEq fb.table t.name with
    | false =>
     have hT':¬ fb.table.toList=t.name.toList:=by simpa [sEq] using hT
     rw [hT] at sn
     simp only [Bool.false_eq_true,if_false,List.append_nil] at sn
     refine ZW (Z2 @mg @hT') Z0 ?_
     refine ⟨.inr ⟨k+1,by omega⟩,by simp only;omega,?_⟩
     simp only [sn]
     exact ZN (Z3 @eStp.eq_1 @eTbl.eq_1 @eCon.eq_1)
    | true =>
     have hT':fb.table.toList=t.name.toList:=by simpa [sEq] using hT
     rw [hT] at sn
     simp only [if_true] at sn
     refine ZV (Z3 @eStp.eq_1 @mg @hT') Z0 (Z1 (Zd 29 [(0,6)] [(6,[],[(0,5)]),(7,[(8,2)],[(0,1)]),(10,[],[])] [6,7,10] 8)) Z0 ?_
     refine ⟨.inr ⟨k+1,by omega⟩,by simp only;omega,?_⟩
     simp only [sn]
     exact ZN (Z3 @eStp.eq_1 @eTbl.eq_1 @eCon.eq_1)
   ·have hk:k=s.cons.length:=by omega
    subst hk
    rw [List.take_length]
    refine ZW Z0 Z0 ?_
    refine Gq.renR 137 3 rfl rfl (by decide) (.inl (Nat.le_of_ble_eq_true rfl)) ?_
    refine ZT Z0 ?_
    refine Gq.done ⟨rfl,?_⟩
    exact ZN (Z3 @eStp.eq_1 @eTbl.eq_1 @eCon.eq_1)
 have ct:=cloneTable_sat t (by omega) (by omega)
 have it:=insertTable_satM s.tables ((s.fks++partFK t st s.fks).map eFK) ((s.cons++partCon t st s.cons).map eCon) (s.fks++partFK t st s.fks).length (s.cons++partCon t st s.cons).length {t with name:=st.other} (by omega)
 have pl:=(ginsS_perm cmpT 0 (s.tables.length+1) (s.tables++[{t with name:=st.other}])).length_eq
 rw [List.length_append,List.length_singleton] at pl
 simp only [eTbl,eCols,eInts] at it ct
 have spec:.ok (insertT ⟨s.tables,s.fks++partFK t st s.fks,s.cons++partCon t st s.cons⟩ {t with name:=st.other})=R:=spec
 subst spec
 unfold oBE oRE oB1 oR1 insertT rE
 simp only [pl]
 refine ZV (Z5 @okIds_ref @eStp.eq_1 @dropL_nil @dropL_nil' @dropL_cons) (Z1 (ct)) Z0 (Z1 (Zi [(1000,1000)] [(1000,1000),(1001,2),(1002,3)] [(1000,1000)] [(11,11),(1001,2),(1002,3)] [] [1000,11] [1000,1000] [1000,2,3,11,2,3] (it))) ?_
 refine Gq.renR 11 1 rfl rfl (by decide) (.inl (Nat.le_of_ble_eq_true rfl)) ?_
 refine ZT Z0 ?_
 refine Gq.done ?_
 exact ZQ (Z1 Tryz.results84)
end Go.Bw
