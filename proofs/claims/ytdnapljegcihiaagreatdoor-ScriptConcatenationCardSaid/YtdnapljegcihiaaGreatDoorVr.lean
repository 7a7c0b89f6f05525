/-
  WHAT IS PROVED HERE, of this translation: splitTable_ok.
  A theorem that ends in sat says what the function it names returns, whatever the state it is called in; the bounds on its arguments stand ahead of it.
-/
import Derived.Test.YtdnapljegcihiaaGreatDoorVo
set_option linter.unusedSimpArgs false
set_option linter.unusedVariables false
namespace Go.Bw
open Go.Proofs
set_option maxHeartbeats 32000000 in
theorem splitTable_ok (s:Sch) (i:Nat) (st:Stp) (hi:i<s.tables.length) (sm:SmallS s) (hst:st.cols.length≤140737488355328) (hE:splitE s (tAt s i) st=0) (hpk:∀c∈s.tables[i].pk,0≤c∧c<(s.tables[i].cols.length:Int)) :
  SatM Tryz.prog 82 [.one (.ptr 1000 0),oI i,.agg (eStp st)] (iB s) (iR s) (.v (oI (rE (splitT s i st)))) (oBE (splitT s i st)) (oRE (splitT s i st)):=by
 have b1:=sm.tables
 have b2:=sm.table s.tables[i] (List.getElem_mem hi)
 have b3:=sm.fks
 have b4:=sm.cons
 obtain ⟨t,ht⟩:∃t,s.tables[i]=t:=⟨_,rfl⟩
 have htA:tAt s i=t:=by unfold tAt;rw [getD_lt _ hi,ht]
 rw [ht] at b2 hpk
 rw [htA] at hE
 obtain ⟨b6,b7,b8⟩:=b2
 obtain ⟨c1,c2⟩:=splitE_cols hE
 have cs:=checkSplit_satX s t st (by omega) (by omega) (by omega) hst
 rw [hE] at cs
 have lm:(s.tables.map eTbl).length=s.tables.length:=List.length_map ..
 have gi:(s.tables.map eTbl).getD i []=eTbl t:=by rw [getD_map_lt _ _ _ hi,ht]
 have e0:s.tables.map eTblO=rowT s.tables i t:=by unfold rowT;rw [←ht,List.set_getElem_self]
 have ef:frzXs (rowT s.tables i t)=s.tables.map eTbl:=by rw [←e0];exact frzTblO _
 obtain ⟨R,hR⟩:∃R,splitT s i st=R:=⟨_,rfl⟩
 have spec:=hR
 unfold splitT at spec
 simp only [htA] at spec
 rw [if_neg (by rw [hE];simp)] at spec
 rw [hR]
 unfold iB iR
 refine ZM [1000] [1,2,3] Tryz.func82 Tryz.ntmps82 fun w0 m0 F0=>?_
 refine AWP.gq ?_
 rw [e0]
 refine AWP.openC 1000 i 1 2010 rfl (rowT_cell1 _ hi) rfl (by decide) (by decide) ?_
 refine ZU (Z1 @openR_mk) ?_
 refine AWP.openC 1000 i 2 2011 rfl (rowT_cell2 _ hi) (by simp [ovGet]) (by decide) (by decide) ?_
 refine ZU (Z1 @openR_mk) ?_
 rw [←e0]
 repeat' (first|((first|((fail_if_success (refine AWP.isRegion 7 ?_));(with_reducible refine qV tyOk fun K hK=>?_))|(refine AWP.isRegion 2 ?_;refine dX tyOk mixed [(0,5)] [(5,[(6,1)],[])] [5] 8 fun K hK=>?_;simp only [SG,segs] at hK ⊢)|((with_reducible refine CallJ.is ?_);(((apply CallJ.lentI);(focus (simp -dsimp (disch:=first|exact D|fail) only [go_sem,↓reduceIte,seval,eStp,eTblO,ht,Option.getD_none,gi,lm,frz_eFKO];rfl));(focus (first|exact (by rw [frzRs_tblT s.tables hi ht (by simp -dsimp (disch:=omega) only [go_sem,↓reduceIte,seval,takeM]) (by simp -dsimp (disch:=omega) only [go_sem,↓reduceIte,seval,takeM])];exact cs))))))|(with_reducible first|refine VCy.some fun K hK=>?_|refine VCy.step fun K hK=>?_))<;>simp -dsimp (disch:=first|exact D|fail) only [go_sem,↓reduceIte,seval,eStp,eTblO,ht,Option.getD_none,gi,lm,frz_eFKO])|((with_reducible refine hK _ ?_);clear hK K)|(with_reducible refine VCy.intro fun K0 hK0=>?_)|((with_reducible refine VCy.fin ?_);(refine hK0 _ ?_);clear hK0 K0)|(with_reducible refine VCy.quiet ?_)|refine Q1 ?_|((with_reducible refine qW (T:=TT) (b:=?_) ?_ ?_);rotate_left;exact rfl)|fail)
 refine AWP.keep [0,1,5,6,7,9,10] ?_
 refine ZS Z0 ?_
 refine AWP.frz [1000,7] [1000,1001,1002,2010,2011] ?_
 refine ZS (Z1 @topL_clo2) ?_
 refine ZW Z0 Z0 ?_;repeat' (first|apply Zb|apply Zn|(apply Zk;intro K hK))
 have FKl:∃pB:FK→Bool,pB=fun f=>sEq f.table t.name&&overlapI f.cols st.cols==1:=⟨_,rfl⟩
 obtain ⟨pB,hpB⟩:=FKl
 rw [←hpB] at spec
 refine AWP.loop (ι:={k:Nat // k≤s.fks.length∧(s.fks.take k).any pB=false}) (fun k=>⟨206,[(0,.v (.one (.ptr 1000 0))),(1,.v (oI i)),(5,.v (.one (.fz (eStp st)))),(6,.v (oI 0)),(7,.v (.one (.ptr 7 0))),(9,.v (.one (.fz [.int .i64 (t.pk.length:Int)]))),(10,.v (.one (.clo 122 ([[.int .i64 (t.pk.length:Int)],eStp st].map L.fz)))),(43,.v (.one (.ref 1001 0 s.fks.length))),(44,.v (oI s.fks.length)),(45,.v (oI k.1))],[(7,[.str t.name,.ref 2010 0 t.cols.length,.ref 2011 0 t.pk.length]),(1000,[.ref 1000 0 s.tables.length,.ref 1001 0 s.fks.length,.ref 1002 0 s.cons.length])],[(1000,⟨3,s.tables.map eTblO,[(i,2,.ref 2011 0 t.pk.length),(i,1,.ref 2010 0 t.cols.length)]⟩),(2011,⟨1,t.pk.map eInt1,[]⟩),(2010,⟨3,t.cols.map eCol,[]⟩),(1001,⟨3,(mix (splitFK t st) s.fks k.1).map eFKO,[]⟩),(1002,⟨7,s.cons.map eCon,[]⟩)]⟩) (fun k=>s.fks.length - k.1) ⟨0,Nat.zero_le _,rfl⟩ ?_ fun ⟨k,hkl,hnb⟩=>?_
 ·exact ZN (Z2 @mix_zero @eStp.eq_1)
 simp only at hkl hnb ⊢
 rcases Nat.lt_or_ge k s.fks.length with hk|hk
 ·have hl:k<(mix (splitFK t st) s.fks k).length:=by rw [mix_len];exact hk
  have e1:(mix (splitFK t st) s.fks k).map eFKO=rowF (mix (splitFK t st) s.fks k) k s.fks[k]:=by unfold rowF;rw [mix_self _ s.fks k hk]
  have rl:=rowF_len (mix (splitFK t st) s.fks k) k
  have rg:=fun t'=>rowF_get (l:=mix (splitFK t st) s.fks k) (k:=k) t' hl
  rw [mix_len] at rl
  have d1:=(sm.fk s.fks[k] (List.getElem_mem hk)).1
  have ms:=mix_succ (splitFK t st) s.fks k hk
  have mk:=mix_keep (splitFK t st) s.fks k hk
  have tn:=take_no (p:=pB) hk hnb
  have ta:=any_of_at (p:=pB) hk
  obtain ⟨fb,hfb⟩:∃fb,s.fks[k]=fb:=⟨_,rfl⟩
  rw [hfb] at d1 ms mk e1 tn ta
  cases hT:sEq fb.table t.name with
  | false =>
   have hT':¬ fb.table.toList=t.name.toList:=by simpa [sEq] using hT
   have mk:=mk (by unfold splitFK;rw [hT];rfl)
   have tn:=tn (by rw [hpB];simp only [hT,Bool.false_and])
   rw [e1]
   refine ZW (Z5 @rl @rg @eFKO.eq_1 @hT' @eStp.eq_1) Z0 ?_;repeat' (first|apply Zb|apply Zn|(apply Zk;intro K hK))
   refine ⟨⟨k+1,by omega,tn⟩,by simp only;omega,?_⟩
   rw [←e1]
   exact ZL (Z2 @mk @eStp.eq_1)
  | true =>
   have hT':fb.table.toList=t.name.toList:=by simpa [sEq] using hT
   have ov:=overlap_sat fb.cols st.cols (by omega) (by omega)
   rw [e1]
   refine AWP.openC 1001 k 1 2000 rfl (rowF_cell1 _ hl) rfl (by decide) (by decide) ?_
   refine ZU (Z1 @openR_mk) ?_
   rcases overlapI_cases fb.cols st.cols with e2|e2|e2
   ·have mk:=mk (by unfold splitFK;rw [hT,e2];rfl)
    have tn:=tn (by rw [hpB];simp only [hT,e2];rfl)
    rw [e2] at ov
    refine ZV (Z5 @rl @rg @eFKO.eq_1 @hT' @eStp.eq_1) (Z1 (ov)) (Z1 (Zs 21)) Z0 ?_;repeat' (first|apply Zb|apply Zn|(apply Zk;intro K hK))
    refine AWP.close 1001 k 1 2000 rfl rfl (by decide) (by simp [ovGet]) (by rw [rl];exact hk) (by show 1<3;decide) rfl ?_
    refine ZU (Z3 @closeR_mk @ovCut_cons @ovCut_nil) ?_
    rw [rowF_cols _ hl,show (⟨fb.table,fb.cols,fb.ref⟩:FK)=fb from rfl,←e1]
    refine ZW Z0 Z0 ?_;repeat' (first|apply Zb|apply Zn|(apply Zk;intro K hK))
    refine ⟨⟨k+1,by omega,tn⟩,by simp only;omega,?_⟩
    exact ZL (Z2 @mk @eStp.eq_1)
   ·have ta:=ta (by rw [hpB];simp only [hT,e2];rfl)
    rw [if_pos ta] at spec
    subst spec
    rw [e2] at ov
    unfold oBE oRE rE
    simp only
    refine ZW (Z5 @rl @rg @eFKO.eq_1 @hT' @eStp.eq_1) (Z1 (ov)) ?_;repeat' (first|apply Zb|apply Zn|(apply Zk;intro K hK))
    refine Gq.done ?_
    exact ZQ (Z1 Tryz.results82)
   ·have tn:=tn (by rw [hpB];simp only [hT,e2];rfl)
    rw [e2] at ov
    have e3:=rowF_set (mix (splitFK t st) s.fks k) k fb {fb with table:=st.other}
    simp only [eFKO] at e3
    have done:rowF (mix (splitFK t st) s.fks k) k {fb with table:=st.other,cols:=fb.cols.map (movedI t.pk.length st.cols)}=(mix (splitFK t st) s.fks (k+1)).map eFKO:=by
     unfold rowF
     rw [←ms]
     unfold splitFK
     rw [hT,e2]
     rfl
    refine ZV (Z5 @rl @rg @eFKO.eq_1 @hT' @eStp.eq_1) (Z1 (ov)) (Z1 (Zd 15 [(0,9)] [(9,[],[])] [9] 8)) Z0 ?_;repeat' (first|apply Zb|apply Zn|(apply Zk;intro K hK))
    refine AWP.loop (ι:={j:Nat // j≤fb.cols.length}) (fun j=>⟨206,[(0,.v (.one (.ptr 1000 0))),(1,.v (oI i)),(5,.v (.one (.fz (eStp st)))),(6,.v (oI 0)),(7,.v (.one (.ptr 7 0))),(9,.v (.one (.fz [.int .i64 (t.pk.length:Int)]))),(10,.v (.one (.clo 122 ([[.int .i64 (t.pk.length:Int)],eStp st].map L.fz)))),(43,.v (.one (.ref 1001 0 s.fks.length))),(44,.v (oI s.fks.length)),(45,.v (oI k)),(11,.v (oI k)),(74,.v (.one (.ref 2000 0 fb.cols.length))),(75,.v (oI fb.cols.length)),(76,.v (oI j.1))],[(7,[.str t.name,.ref 2010 0 t.cols.length,.ref 2011 0 t.pk.length]),(1000,[.ref 1000 0 s.tables.length,.ref 1001 0 s.fks.length,.ref 1002 0 s.cons.length])],[(1001,⟨3,rowF (mix (splitFK t st) s.fks k) k {fb with table:=st.other},[(k,1,.ref 2000 0 fb.cols.length)]⟩),(2000,⟨1,(mix (movedI t.pk.length st.cols) fb.cols j.1).map eInt1,[]⟩),(1000,⟨3,s.tables.map eTblO,[(i,2,.ref 2011 0 t.pk.length),(i,1,.ref 2010 0 t.cols.length)]⟩),(2011,⟨1,t.pk.map eInt1,[]⟩),(2010,⟨3,t.cols.map eCol,[]⟩),(1002,⟨7,s.cons.map eCon,[]⟩)]⟩) (fun j=>fb.cols.length - j.1) ⟨0,Nat.zero_le _⟩ ?_ fun ⟨j,hjl⟩=>?_
    ·exact ZN (Z3 @mix_zero @eStp.eq_1 @e3)
    simp only at hjl ⊢
    rcases Nat.lt_or_ge j fb.cols.length with hcj|hcj
    ·have ml:=mix_len (movedI t.pk.length st.cols) fb.cols j
     have mg:=mixr_get eInt1 (movedI t.pk.length st.cols) fb.cols j hcj
     have ms2:=mixr_set eInt1 (movedI t.pk.length st.cols) fb.cols j hcj
     simp only [eInt1] at ms2
     have hg:=moved_sat st t.pk.length fb.cols[j] (by omega) (by omega)
     unfold MapsAt at hg
     refine ZV (Z5 @rl @rg @eFKO.eq_1 @ml @mg) (Z1 (hg)) (Z1 (Zd 19 [(0,11)] [(11,[(12,1)],[(0,9)]),(13,[],[])] [11,13] 8)) Z0 ?_;repeat' (first|apply Zb|apply Zn|(apply Zk;intro K hK))
     refine ⟨⟨j+1,by omega⟩,by simp only;omega,?_⟩
     exact ZN (Z1 @ms2)
    ·have hj:j=fb.cols.length:=by omega
     subst hj
     refine ZV (Z3 @rl @rg @eFKO.eq_1) Z0 (Z1 (Zs 21)) Z0 ?_;repeat' (first|apply Zb|apply Zn|(apply Zk;intro K hK))
     refine AWP.close 1001 k 1 2000 rfl rfl (by decide) (by simp [ovGet,mix_len]) (by rw [rl];exact hk) (by show 1<3;decide) rfl ?_
     refine ZU (Z3 @closeR_mk @ovCut_cons @ovCut_nil) ?_
     rw [rowF_cols _ hl,mix_all,done]
     refine ZW Z0 Z0 ?_;repeat' (first|apply Zb|apply Zn|(apply Zk;intro K hK))
     refine ⟨⟨k+1,by omega,tn⟩,by simp only;omega,?_⟩
     exact ZN Z0
 have hk:k=s.fks.length:=by omega
 subst hk
 rw [List.take_length] at hnb
 rw [if_neg (by rw [hnb];simp)] at spec
 rw [mix_all]
 refine ZW Z0 Z0 ?_;repeat' (first|apply Zb|apply Zn|(apply Zk;intro K hK))
 obtain ⟨pC,hpC⟩:∃pC:Con→Bool,pC=fun c=>sEq c.table t.name&&overlapI (conCols c) st.cols==1:=⟨_,rfl⟩
 rw [←hpC] at spec
 refine AWP.loop (ι:={k:Nat // k≤s.cons.length∧(s.cons.take k).any pC=false}) (fun k=>⟨206,[(0,.v (.one (.ptr 1000 0))),(1,.v (oI i)),(5,.v (.one (.fz (eStp st)))),(6,.v (oI 0)),(7,.v (.one (.ptr 7 0))),(9,.v (.one (.fz [.int .i64 (t.pk.length:Int)]))),(10,.v (.one (.clo 122 ([[.int .i64 (t.pk.length:Int)],eStp st].map L.fz)))),(99,.v (.one (.ref 1002 0 s.cons.length))),(100,.v (oI s.cons.length)),(101,.v (oI k.1))],[(7,[.str t.name,.ref 2010 0 t.cols.length,.ref 2011 0 t.pk.length]),(1000,[.ref 1000 0 s.tables.length,.ref 1001 0 s.fks.length,.ref 1002 0 s.cons.length])],[(1000,⟨3,s.tables.map eTblO,[(i,2,.ref 2011 0 t.pk.length),(i,1,.ref 2010 0 t.cols.length)]⟩),(2011,⟨1,t.pk.map eInt1,[]⟩),(2010,⟨3,t.cols.map eCol,[]⟩),(1001,⟨3,(s.fks.map (splitFK t st)).map eFKO,[]⟩),(1002,⟨7,(mix (splitCon t st) s.cons k.1).map eCon,[]⟩)]⟩) (fun k=>s.cons.length - k.1) ⟨0,Nat.zero_le _,rfl⟩ ?_ fun ⟨k,hkl,hnc⟩=>?_
 ·exact ZN (Z1 @mix_zero)
 simp only at hkl hnc ⊢
 rcases Nat.lt_or_ge k s.cons.length with hk|hk
 ·have ml:=mix_len (splitCon t st) s.cons k
  have mg:=mixr_get eCon (splitCon t st) s.cons k hk
  have ms:=mixr_set eCon (splitCon t st) s.cons k hk
  have mk:=mix_keep (splitCon t st) s.cons k hk
  have gs:=fun x=>getD_setL ((mix (splitCon t st) s.cons k).map eCon) k x [] (by rw [List.length_map,mix_len];exact hk)
  have tn:=take_no (p:=pC) hk hnc
  have ta:=any_of_at (p:=pC) hk
  obtain ⟨cb,hcb⟩:∃cb,s.cons[k]=cb:=⟨_,rfl⟩
  rw [hcb] at mg ms mk tn ta
  cases hT:sEq cb.table t.name with
  | false =>
   have hT':¬ cb.table.toList=t.name.toList:=by simpa [sEq] using hT
   have mk:=mk (by unfold splitCon;rw [hT];rfl)
   have tn:=tn (by rw [hpC];simp only [hT,Bool.false_and])
   refine ZW (Z3 @ml @mg @hT') Z0 ?_;repeat' (first|apply Zb|apply Zn|(apply Zk;intro K hK))
   refine ⟨⟨k+1,by omega,tn⟩,by simp only;omega,?_⟩
   exact ZN (Z1 @mk)
  | true =>
   have hT':cb.table.toList=t.name.toList:=by simpa [sEq] using hT
   have cc:=conCols_sat cb
   have ov:=overlap_sat (conCols cb) st.cols (by unfold conCols;split<;>simp) (by omega)
   rcases overlapI_cases (conCols cb) st.cols with e2|e2|e2
   ·have mk:=mk (by unfold splitCon;rw [hT,e2];rfl)
    have tn:=tn (by rw [hpC];simp only [hT,e2];rfl)
    rw [e2] at ov
    refine ZV (Z4 @ml @mg @hT' @eStp.eq_1) (Z2 (cc) (ov)) (Z1 (Zd 26 [(0,1),(2,2)] [(1,[],[(2,2)]),(4,[],[])] [1,4] 8)) Z0 ?_;repeat' (first|apply Zb|apply Zn|(apply Zk;intro K hK))
    refine ⟨⟨k+1,by omega,tn⟩,by simp only;omega,?_⟩
    exact ZN (Z2 @mk @eStp.eq_1)
   ·have ta:=ta (by rw [hpC];simp only [hT,e2];rfl)
    rw [if_pos ta] at spec
    subst spec
    rw [e2] at ov
    unfold oBE oRE rE
    simp only
    refine ZV (Z4 @ml @mg @hT' @eStp.eq_1) (Z2 (cc) (ov)) (Z1 (Zd 26 [(0,1),(2,2)] [(1,[],[(2,2)]),(4,[],[])] [1,4] 8)) Z0 ?_;repeat' (first|apply Zb|apply Zn|(apply Zk;intro K hK))
    refine Gq.done ?_
    exact ZQ (Z1 Tryz.results82)
   ·have tn:=tn (by rw [hpC];simp only [hT,e2];rfl)
    rw [e2] at ov
    have g1:=moved_sat st t.pk.length cb.left (by omega) (by omega)
    have g2:=moved_sat st t.pk.length cb.right (by omega) (by omega)
    unfold MapsAt at g1 g2
    have er:splitCon t st cb={cb with table:=st.other,left:=movedI t.pk.length st.cols cb.left,right:=if 0≤cb.right then movedI t.pk.length st.cols cb.right else cb.right}:=by unfold splitCon;rw [hT,e2];rfl
    by_cases hr:0≤cb.right
    ·rw [if_pos hr] at er
     rw [er] at ms
     simp only [eCon] at ms
     refine ZV (Z5 @ml @mg @gs @hT' @eStp.eq_1) (Z2 (cc) (ov)) (Z2 (Zs 30) (Zd 26 [(0,1),(2,2)] [(1,[],[(2,2)]),(4,[],[])] [1,4] 8)) Z0 ?_;repeat' (first|apply Zb|apply Zn|(apply Zk;intro K hK))
     refine AWP.keep [0,1,5,6,7,9,10,15,16,99,100,101] ?_
     refine ZS Z0 ?_
     refine ZV (Z6 @ml @mg @gs @hT' (@List.set_set.{0}) (@List.length_set.{0})) (Z2 (g1) (g2)) (Z2 (Zd 30 [(0,15)] [(15,[(16,2)],[(0,12)]),(18,[(19,2)],[(9,1)]),(21,[],[])] [15,18,21] 8) (Zd 32 [(0,8)] [(8,[(9,2)],[(0,5)]),(11,[],[])] [8,11] 8)) Z0 ?_;repeat' (first|apply Zb|apply Zn|(apply Zk;intro K hK))
     refine ⟨⟨k+1,by omega,tn⟩,by simp only;omega,?_⟩
     exact ZN (Z2 @ms @eStp.eq_1)
    ·rw [if_neg hr] at er
     rw [er] at ms
     simp only [eCon] at ms
     refine ZV (Z5 @ml @mg @gs @hT' @eStp.eq_1) (Z2 (cc) (ov)) (Z2 (Zs 30) (Zd 26 [(0,1),(2,2)] [(1,[],[(2,2)]),(4,[],[])] [1,4] 8)) Z0 ?_;repeat' (first|apply Zb|apply Zn|(apply Zk;intro K hK))
     refine AWP.keep [0,1,5,6,7,9,10,15,16,99,100,101] ?_
     refine ZS Z0 ?_
     refine ZV (Z6 @ml @mg @gs @hT' (@List.set_set.{0}) (@List.length_set.{0})) (Z1 (g1)) (Z1 (Zd 30 [(0,15)] [(15,[(16,2)],[(0,12)]),(18,[(19,2)],[(9,1)]),(21,[],[])] [15,18,21] 8)) Z0 ?_;repeat' (first|apply Zb|apply Zn|(apply Zk;intro K hK))
     refine ⟨⟨k+1,by omega,tn⟩,by simp only;omega,?_⟩
     exact ZN (Z2 @ms @eStp.eq_1)
 have hk:k=s.cons.length:=by omega
 subst hk
 rw [List.take_length] at hnc
 rw [if_neg (by rw [hnc];simp)] at spec
 rw [mix_all]
 refine ZV Z0 Z0 (Z1 (Zs 34)) Z0 ?_;repeat' (first|apply Zb|apply Zn|(apply Zk;intro K hK))
 have sq:=sequence_sat t.pk.length (by omega)
 refine AWP.keep [0,1,5,6,7,9,10] ?_
 refine ZS Z0 ?_
 refine AWP.mid ⟨206,[(0,.v (.one (.ptr 1000 0))),(1,.v (oI i)),(5,.v (.one (.fz (eStp st)))),(6,.v (oI 0)),(7,.v (.one (.ptr 7 0))),(9,.v (.one (.fz [.int .i64 (t.pk.length:Int)]))),(17,.v (.one (.ptr 17 0)))],[(17,[.str st.other,.nil 3,.sl 1 ((seqI t.pk.length).map eInt1)]),(7,[.str t.name,.ref 2010 0 t.cols.length,.ref 2011 0 t.pk.length]),(1000,[.ref 1000 0 s.tables.length,.ref 1001 0 s.fks.length,.ref 1002 0 s.cons.length])],[(1000,⟨3,s.tables.map eTblO,[(i,2,.ref 2011 0 t.pk.length),(i,1,.ref 2010 0 t.cols.length)]⟩),(2011,⟨1,t.pk.map eInt1,[]⟩),(2010,⟨3,t.cols.map eCol,[]⟩),(1001,⟨3,(s.fks.map (splitFK t st)).map eFKO,[]⟩),(1002,⟨7,(s.cons.map (splitCon t st)).map eCon,[]⟩)]⟩ ?_ ?_
 ·refine dY tyOk mixed [(0,3)] (.cons 3 [(4,1)] [(0,2)] (.cons 5 [] [(0,2),(4,1)] (.cons 6 [] [] .leaf .none) .none) (.cons 5 [] [(0,3)] (.cons 3 [(4,1)] [(0,2)] (.cons 6 [] [] .leaf .none) .none) .none)) [3,5,6] 8 fun K hK=>?_
  simp only [segt_leaf,segt_none,segt_cons,segs,List.drop_succ_cons,List.drop_zero,List.take_succ_cons,List.take_zero,List.getElem?_cons_zero,List.getElem?_cons_succ,List.cons_append,List.nil_append,List.append_nil] at hK ⊢
  refine ZU (Z1 @eStp.eq_1) ?_
  refine ZV (Z1 @eStp.eq_1) (Z1 (sq)) Z0 Z0 ?_;repeat' (first|apply Zb|apply Zn|(apply Zk;intro K hK))
  all_goals refine Gq.done ⟨rfl,?_⟩
  all_goals refine St.le_mk ?_ ?_ ?_<;>simp only [LE,EN,Nat.reduceEqDiff,reduceIte,Nat.reduceSub,eStp,List.map_cons,List.map_nil]
 refine AWP.keep [0,1,5,6,7,9,17] ?_
 refine ZS Z0 ?_
 refine ZV (Z4 @eStp.eq_1 @dropL_nil @dropL_nil' @dropL_cons) Z0 (Z1 (Zd 35 [(0,2),(3,2),(7,1)] [(2,[],[(3,2),(7,1)]),(5,[(6,1)],[(7,1)])] [2,5] 8)) (Z1 (Zi [] [(1000,2011)] [] [(1000,2011),(2,162)] [] [162] [] [2011,2011,162] (cloneIntsR_satM t.pk (by omega)))) ?_;repeat' (first|apply Zb|apply Zn|(apply Zk;intro K hK))
 refine AWP.nilBox 17 1 179 rfl rfl (.inl (by show 179<206;decide)) ?_
 refine ZU (Z3 @nilBoxR_mk (@List.set_cons_zero.{0}) (@List.set_cons_succ.{0})) ?_
 obtain ⟨pc,hpc⟩:∃pc,t.pk++st.cols=pc:=⟨_,rfl⟩
 have epc:t.pk.map eInt1++st.cols.map eInt1=pc.map eInt1:=by rw [←hpc,List.map_append]
 have lpc:t.pk.length+st.cols.length=pc.length:=by rw [←hpc,List.length_append]
 have hpcb:∀c∈pc,0≤c∧c<(t.cols.length:Int):=by
  intro c hc
  rw [←hpc] at hc
  rcases List.mem_append.1 hc with h1|h1
  ·exact hpk c h1
  ·exact c2 c h1
 rw [epc,lpc]
 refine AWP.loop (ι:={k:Nat // k≤pc.length}) (fun k=>⟨206,[(0,.v (.one (.ptr 1000 0))),(1,.v (oI i)),(5,.v (.one (.fz (eStp st)))),(6,.v (oI 0)),(7,.v (.one (.ptr 7 0))),(9,.v (.one (.fz [.int .i64 (t.pk.length:Int)]))),(17,.v (.one (.ptr 17 0))),(165,.v (.one (.ref 165 0 pc.length))),(166,.v (oI pc.length)),(167,.v (oI k.1))],[(17,[.str st.other,.ref 179 0 k.1,.sl 1 ((seqI t.pk.length).map eInt1)]),(7,[.str t.name,.ref 2010 0 t.cols.length,.ref 2011 0 t.pk.length]),(1000,[.ref 1000 0 s.tables.length,.ref 1001 0 s.fks.length,.ref 1002 0 s.cons.length])],[(179,⟨3,(pc.take k.1).map (fun c=>eCol (t.cols.getD c.toNat zCol)),[]⟩),(165,⟨1,pc.map eInt1,[]⟩),(1000,⟨3,s.tables.map eTblO,[(i,2,.ref 2011 0 t.pk.length),(i,1,.ref 2010 0 t.cols.length)]⟩),(2011,⟨1,t.pk.map eInt1,[]⟩),(2010,⟨3,t.cols.map eCol,[]⟩),(1001,⟨3,(s.fks.map (splitFK t st)).map eFKO,[]⟩),(1002,⟨7,(s.cons.map (splitCon t st)).map eCon,[]⟩)]⟩) (fun k=>pc.length - k.1) ⟨0,Nat.zero_le _⟩ ?_ fun ⟨k,hkl⟩=>?_
 ·exact ZN (Z1 @eStp.eq_1)
 simp only at hkl ⊢
 rcases Nat.lt_or_ge k pc.length with hc|hc
 ·have hb:=hpcb pc[k] (List.getElem_mem hc)
  have hlen:(pc.take k).length=k:=by simp;omega
  obtain ⟨q,hq⟩:∃q:Nat,pc[k]=(q:Int):=⟨pc[k].toNat,by omega⟩
  have hq2:q<t.cols.length:=by omega
  have gp:(pc.map eInt1).getD k []=[.int .i64 (q:Int)]:=by rw [getD_map_lt _ _ _ hc,hq];rfl
  have gq:(t.cols.map eCol).getD q []=eCol (t.cols.getD q zCol):=by rw [getD_map_lt _ _ _ hq2,getD_lt _ hq2]
  have es:(pc.take (k+1)).map (fun c=>eCol (t.cols.getD c.toNat zCol))=(pc.take k).map (fun c=>eCol (t.cols.getD c.toNat zCol))++[eCol (t.cols.getD q zCol)]:=by
   rw [List.take_succ_eq_append_getElem hc,List.map_append,List.map_cons,List.map_nil,hq,Int.toNat_natCast]
  simp only [eCol] at es gq
  refine ZV (Z3 @gp @gq @hlen) Z0 (Z1 (Zd 38 [(0,7)] [(7,[],[(0,2)]),(8,[(9,1)],[]),(10,[],[])] [7,8,10] 8)) Z0 ?_;repeat' (first|apply Zb|apply Zn|(apply Zk;intro K hK))
  refine ⟨⟨k+1,by omega⟩,by simp only;omega,?_⟩
  exact ZL (Z2 @es @eStp.eq_1)
 have hk:k=pc.length:=by omega
 subst hk
 rw [List.take_length]
 obtain ⟨oc,hoc⟩:∃oc,pc.map (fun c=>t.cols.getD c.toNat zCol)=oc:=⟨_,rfl⟩
 have eoc:pc.map (fun c=>eCol (t.cols.getD c.toNat zCol))=oc.map eCol:=by rw [←hoc,List.map_map];rfl
 have loc:oc.length=pc.length:=by rw [←hoc,List.length_map]
 have lpc2:pc.length≤12:=by omega
 rw [hpc,hoc] at spec
 rw [eoc,←loc,e0]
 refine ZV Z0 Z0 (Z1 (Zs 40)) Z0 ?_;repeat' (first|apply Zb|apply Zn|(apply Zk;intro K hK))
 refine AWP.keep [0,1,5,6,7,9,17] ?_
 refine ZS Z0 ?_
 refine AWP.close 1000 i 1 2010 rfl rfl (by decide) (by simp [ovGet]) (by rw [rowT_len];exact hi) (by show 1<3;decide) rfl ?_
 refine ZU (Z3 @closeR_mk @ovCut_cons @ovCut_nil) ?_
 rw [rowT_cols _ hi]
 refine AWP.close 1000 i 2 2011 rfl rfl (by decide) (by simp [ovGet]) (by rw [rowT_len];exact hi) (by show 2<3;decide) rfl ?_
 refine ZU (Z3 @closeR_mk @ovCut_cons @ovCut_nil) ?_
 rw [rowT_pk _ hi,show (⟨t.name,t.cols,t.pk⟩:Tbl)=t from rfl,←e0]
 have rc:=split_rc s i t st hi ht sm c1
 obtain ⟨u,hu⟩:∃u,removeC ⟨s.tables,s.fks.map (splitFK t st),s.cons.map (splitCon t st)⟩ i st.cols=u:=⟨_,rfl⟩
 have lu:=split_lens s i t st u hu
 rw [hu] at rc spec
 unfold iB iR at rc
 simp only [List.length_map] at rc
 obtain ⟨u1,u2,u3⟩:=lu
 have it:=insertTable_satM u.tables (u.fks.map eFK) (u.cons.map eCon) u.fks.length u.cons.length ⟨st.other,oc,seqI t.pk.length⟩ (by omega)
 simp only [eTbl,eCols,eInts] at it
 refine ZV (Z5 @okIds_ref @eStp.eq_1 @dropL_nil @dropL_nil' @dropL_cons) Z0 (Z1 (Zs 41)) (Z1 (Zi [(1000,1000)] [(1000,1000),(1001,1001),(1002,1002)] [(1000,1000)] [(1000,1000),(1001,1001),(1002,1002)] [] [] [1000,1000] [1000,1001,1002,1000,1001,1002] (rc))) ?_;repeat' (first|apply Zb|apply Zn|(apply Zk;intro K hK))
 refine AWP.frzR 1000 rfl ?_
 refine ZU (Z3 @frzR_mk @frzTblO @frzFKO) ?_
 refine AWP.frzR 1001 rfl ?_
 refine ZU (Z3 @frzR_mk @frzTblO @frzFKO) ?_
 repeat' (first|((first|((fail_if_success (refine AWP.isRegion 42 ?_));(with_reducible refine qV tyOk fun K hK=>?_))|((with_reducible refine CallJ.is ?_);(refine CallJ.frzThen [1000,7] [1000,1001,1002] ?_);(simp -dsimp (disch:=first|exact D|fail) only [go_sem,↓reduceIte,seval,okIds_ref,Option.getD_none,takeM,dropL_nil,dropL_nil',dropL_cons,RT,St.rest,St.freeze]);refine CallJ.io [(1000,1000)] [(1000,1000),(1001,1001),(1002,1002)] [(1000,1000)] [(11,11),(1001,1001),(1002,1002)] [] [1000,11] [1000,1000] [1000,1001,1002,11,1001,1002] (it) rfl ⟨rfl,rfl,rfl,rfl⟩ ?_ ?_ ?_))<;>simp -dsimp (disch:=first|exact D|fail) only [go_sem,↓reduceIte,seval,okIds_ref,Option.getD_none,takeM,dropL_nil,dropL_nil',dropL_cons])|((with_reducible refine hK _ ?_);clear hK K)|refine Q1 ?_|fail)
 have pl:=(ginsS_perm cmpT 0 (u.tables.length+1) (u.tables++[⟨st.other,oc,seqI t.pk.length⟩])).length_eq
 rw [List.length_append,List.length_singleton] at pl
 subst spec
 unfold oBE oRE oB1 oR1 insertT rE
 simp only [pl,List.length_append,List.length_cons,List.length_nil,Nat.zero_add]
 obtain ⟨NT,hNT⟩:∃NT,ginsS cmpT 0 (u.tables.length+1) (u.tables++[⟨st.other,oc,seqI t.pk.length⟩])=NT:=⟨_,rfl⟩
 rw [hNT]
 refine ZV (Z1 @eStp.eq_1) (Z1 (sq)) (Z1 (Zd 42 [(0,8),(9,2)] [(8,[(11,1)],[(0,7),(9,2)]),(12,[],[(0,5)]),(13,[(14,2)],[(0,1)]),(16,[],[])] [8,12,13,16] 8)) Z0 ?_;repeat' (first|apply Zb|apply Zn|(apply Zk;intro K hK))
 refine Gq.renR 11 1 rfl rfl (by decide) (.inl (Nat.le_of_ble_eq_true rfl)) ?_
 refine ZT Z0 ?_
 refine Gq.renR 203 2 rfl rfl (by decide) (.inl (Nat.le_of_ble_eq_true rfl)) ?_
 refine ZT Z0 ?_
 refine Gq.renR 1002 3 rfl rfl (by decide) (.inl (Nat.le_of_ble_eq_true rfl)) ?_
 refine ZT Z0 ?_
 refine Gq.done ?_
 refine ZR (Z1 Tryz.results82) ?_
 exact congrArg (fun x:List (List L)=>(⟨3,x,[]⟩:RowC)) (by rw [List.map_append];rfl)
end Go.Bw
