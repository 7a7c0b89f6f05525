/-
  WHAT IS PROVED HERE, of this translation: removeColumns_satM, SmallS.rm, goG_ok, verSchemas_ok, goG_par, grOk_of, reverseHops_satM, verSchema_ok, sch0, ver0, par0, path0, cloneEdgs_own, goG_snoc, goG_one, verSchemas_ext.
  A theorem that ends in sat says what the function it names returns, whatever the state it is called in; the bounds on its arguments stand ahead of it.
-/
import Derived.Test.YtjjnchbfjbjemaaGreatWf
import Derived.Test.YtjjnchbfjbjemaaGreatWi
set_option linter.unusedSimpArgs false
set_option linter.unusedVariables false
namespace Go.Bw
open Go.Proofs
set_option maxHeartbeats 32000000 in
theorem removeColumns_satM (s:Sch) (i:Nat) (removed:List Int) (hi:i<s.tables.length) (hr:removed.length≤1048576) (h1:s.tables.length≤1048576) (h2:s.fks.length≤1048576) (h3:s.cons.length≤1048576)
  (hcl:s.tables[i].cols.length≤1048576) (hpl:s.tables[i].pk.length≤1048576) (hp:∀c∈s.tables[i].pk,-1048576≤c∧c≤1048576)
  (hn:∀k∈s.fks,k.cols.length≤1048576) (hf:∀k∈s.fks,sEq k.table s.tables[i].name=true→∀c∈k.cols,-1048576≤c∧c≤1048576) (hc:∀k∈s.cons,sEq k.table s.tables[i].name=true→(-1048576≤k.left∧k.left≤1048576)∧k.right≤1048576) :
  SatM Tryz.prog 125 [.one (.ptr 1000 0),oI i,.one (eInts removed)] (iB s) (iR s) (.tup []) (iB (removeC s i removed)) (iR (removeC s i removed)):=by
 obtain ⟨t,ht⟩:∃t,s.tables[i]=t:=⟨_,rfl⟩
 have htA:tAt s i=t:=by unfold tAt;rw [getD_lt _ hi,ht]
 rw [ht] at hcl hpl hp hf hc
 have rc:=remap_satM ⟨s.tables,s.fks,s.cons⟩ (rowT s.tables i ⟨t.name,dropAt removed t.cols 0,t.pk.map (shiftI removed)⟩) s.tables.length t.name (shiftI removed) 139 [[eInts removed]] h2 h3 hn
  (fun k hk hT c hc'=>shift_sat removed c hr (hf k hk hT c hc').1 (hf k hk hT c hc').2) (fun k hk hT=>⟨shift_sat removed _ hr (hc k hk hT).1.1 (hc k hk hT).1.2,fun h0=>shift_sat removed _ hr (by omega) (hc k hk hT).2⟩)
 simp only [List.map_cons,List.map_nil] at rc
 have spec:removeC s i removed=⟨s.tables.set i ⟨t.name,dropAt removed t.cols 0,t.pk.map (shiftI removed)⟩,s.fks.map (remapFK t.name (shiftI removed)),s.cons.map (remapCon t.name (shiftI removed))⟩:=by
  unfold removeC remapS setT
  rw [htA]
 rw [spec]
 unfold iB iR
 simp only [List.length_map,List.length_set]
 have e0:s.tables.map eTblO=rowT s.tables i t:=by unfold rowT;rw [←ht,List.set_getElem_self]
 have rl:=rowT_len s.tables i t
 have rg:=fun t=>rowT_get (l:=s.tables) (k:=i) t hi
 have dl:=dropAt_len removed t.cols 0
 rw [e0]
 refine sM tyOk [1000] [1000,1001,1002] Tryz.func125 fun w0 m0 F0=>?_
 simp only [Tryz.ntmps125,envOf,Nat.reduceAdd]
 repeat' (first|((((fail_if_success (refine AWP.isRegion 1 ?_));(with_reducible refine qV tyOk fun K hK=>?_)))<;>simp -dsimp (disch:=first|exact D|fail) only [go_sem,↓reduceIte,seval])|((with_reducible refine hK _ ?_);clear hK K)|refine Q1 ?_|fail)
 refine AWP.frz [1000] [1000,1001,1002] ?_
 simp -dsimp (disch:=first|exact D|fail) only [go_sem,↓reduceIte,seval,RT,St.rest,St.freeze]
 refine AWP.openC 1000 i 1 2000 rfl (rowT_cell1 _ hi) rfl (by decide) (by decide) ?_
 simp -dsimp (disch:=first|exact D|fail) only [go_sem,↓reduceIte,seval,openR_mk]
 refine AWP.openC 1000 i 2 2001 rfl (rowT_cell2 _ hi) (by simp [ovGet]) (by decide) (by decide) ?_
 simp -dsimp (disch:=first|exact D|fail) only [go_sem,↓reduceIte,seval,openR_mk]
 repeat' (first|((with_reducible refine qV tyOk fun K hK=>?_)<;>simp -dsimp (disch:=first|exact D|fail) only [go_sem,↓reduceIte,seval,rl,rg,eTblO,Option.getD_none])|((with_reducible refine hK _ ?_);clear hK K)|refine Q1 ?_|fail)
 refine AWP.loop (ι:={k:Nat // k≤t.cols.length}) (fun k=>⟨70,[(0,.v (.one (.ptr 1000 0))),(5,.v (.one (.fz [eInts removed]))),(6,.v (.one (.eptr 1000 i 0))),(7,.v (.one (.clo 139 [.fz [eInts removed]]))),(8,.v (.one (.ref 8 0 (dropAt removed (t.cols.take k.1) 0).length))),(23,.v (.one (.ref 2000 0 t.cols.length))),(24,.v (oI t.cols.length)),(25,.v (oI k.1))],[(1000,[.ref 1000 0 s.tables.length,.ref 1001 0 s.fks.length,.ref 1002 0 s.cons.length])],[(8,⟨3,(dropAt removed (t.cols.take k.1) 0).map eCol,[]⟩),(2000,⟨3,t.cols.map eCol,[]⟩),(2001,⟨1,t.pk.map eInt1,[]⟩),(1000,⟨3,rowT s.tables i t,[(i,2,.ref 2001 0 t.pk.length),(i,1,.ref 2000 0 t.cols.length)]⟩),(1001,⟨3,s.fks.map eFKO,[]⟩),(1002,⟨7,s.cons.map eCon,[]⟩)]⟩) (fun k=>t.cols.length - k.1) ⟨0,Nat.zero_le _⟩ ?_ fun ⟨k,hkl⟩=>?_
 ·refine St.le_mk ?_ ?_ ?_<;>simp only [LE,EN,Nat.reduceEqDiff,reduceIte,Nat.reduceSub,List.take_zero,dropAt,List.length_nil,List.map_nil]
 simp only at hkl ⊢
 have dk:=dropAt_len removed (t.cols.take k) 0
 have tk:(t.cols.take k).length=k:=by simp;omega
 rw [tk] at dk
 rcases Nat.lt_or_ge k t.cols.length with hk|hk
 ·have es:=take_snoc t.cols k hk
  have ds:=dropAt_snoc removed t.cols[k] (t.cols.take k) 0
  rw [←es,tk,Nat.zero_add] at ds
  have cc:=containsInt_sat removed (k:Int) (by omega)
  cases hx:removed.elem (k:Int) with
  | true =>
   rw [hx] at cc ds
   simp only [if_true,List.append_nil] at ds
   repeat' (first|((first|with_reducible refine qV tyOk fun K hK=>?_|((with_reducible refine CallJ.is ?_);(refine CallJ.pure (cc) ?_)))<;>simp -dsimp (disch:=first|exact D|fail) only [go_sem,↓reduceIte,seval,rl,rg,Option.getD_none])|((with_reducible refine hK _ ?_);clear hK K)|refine Q1 ?_|((with_reducible refine qW (T:=TT) (b:=?_) ?_ ?_);rotate_left;exact rfl)|fail)
   refine ⟨⟨k+1,by omega⟩,by simp only;omega,?_⟩
   refine St.le_mk ?_ ?_ ?_<;>simp only [LE,EN,Nat.reduceEqDiff,reduceIte,Nat.reduceSub,ds]
  | false =>
   rw [hx] at cc ds
   simp only [Bool.false_eq_true,if_false] at ds
   repeat' (first|((first|with_reducible refine qV tyOk fun K hK=>?_|((with_reducible refine CallJ.is ?_);(refine CallJ.pure (cc) ?_)))<;>simp -dsimp (disch:=first|exact D|fail) only [go_sem,↓reduceIte,seval,rl,rg,Option.getD_none])|((with_reducible refine hK _ ?_);clear hK K)|refine Q1 ?_|((with_reducible refine qW (T:=TT) (b:=?_) ?_ ?_);rotate_left;exact rfl)|fail)
   refine ⟨⟨k+1,by omega⟩,by simp only;omega,?_⟩
   refine St.le_mk ?_ ?_ ?_<;>simp only [LE,EN,Nat.reduceEqDiff,reduceIte,Nat.reduceSub,ds,eCol,List.map_append,List.map_cons,List.map_nil,List.length_append,List.length_cons,List.length_nil]
 ·rw [List.take_of_length_le hk] at dk ⊢
  repeat' (first|((with_reducible refine qV tyOk fun K hK=>?_)<;>simp -dsimp (disch:=first|exact D|fail) only [go_sem,↓reduceIte,seval,rl,rg,eTblO,Option.getD_none])|((with_reducible refine hK _ ?_);clear hK K)|refine Q1 ?_|((with_reducible refine qW (T:=TT) (b:=?_) ?_ ?_);rotate_left;exact rfl)|fail)
  refine AWP.loop (ι:={j:Nat // j≤t.pk.length}) (fun j=>⟨70,[(0,.v (.one (.ptr 1000 0))),(6,.v (.one (.eptr 1000 i 0))),(7,.v (.one (.clo 139 [.fz [eInts removed]]))),(8,.v (.one (.ref 8 0 (dropAt removed t.cols 0).length))),(42,.v (.one (.ref 2001 0 t.pk.length))),(43,.v (oI t.pk.length)),(44,.v (oI j.1))],[(1000,[.ref 1000 0 s.tables.length,.ref 1001 0 s.fks.length,.ref 1002 0 s.cons.length])],[(8,⟨3,(dropAt removed t.cols 0).map eCol,[]⟩),(2000,⟨3,t.cols.map eCol,[]⟩),(2001,⟨1,(mix (shiftI removed) t.pk j.1).map eInt1,[]⟩),(1000,⟨3,rowT s.tables i t,[(i,2,.ref 2001 0 t.pk.length),(i,1,.ref 2000 0 t.cols.length)]⟩),(1001,⟨3,s.fks.map eFKO,[]⟩),(1002,⟨7,s.cons.map eCon,[]⟩)]⟩) (fun j=>t.pk.length - j.1) ⟨0,Nat.zero_le _⟩ ?_ fun ⟨j,hjl⟩=>?_
  ·refine St.le_mk ?_ ?_ ?_<;>simp only [LE,EN,Nat.reduceEqDiff,reduceIte,Nat.reduceSub,mix_zero]
  simp only at hjl ⊢
  rcases Nat.lt_or_ge j t.pk.length with hj|hj
  ·have ml:=mix_len (shiftI removed) t.pk j
   have mg:=mixr_get eInt1 (shiftI removed) t.pk j hj
   have ms:=mixr_set eInt1 (shiftI removed) t.pk j hj
   simp only [eInt1] at ms
   have hb:=hp t.pk[j] (List.getElem_mem hj)
   have hg:=shift_sat removed t.pk[j] hr hb.1 hb.2
   unfold MapsAt at hg
   simp only [List.map_cons,List.map_nil] at hg
   repeat' (first|((first|with_reducible refine qV tyOk fun K hK=>?_|(refine AWP.isRegion 13 ?_;refine dX tyOk mixed [(0,7)] [(7,[(8,1)],[(0,5)]),(9,[],[])] [7,9] 8 fun K hK=>?_;simp only [SG,segs] at hK ⊢)|((with_reducible refine CallJ.is ?_);(refine CallJ.pure (hg) ?_))|(with_reducible first|refine VCy.some fun K hK=>?_|refine VCy.step fun K hK=>?_))<;>simp -dsimp (disch:=first|exact D|fail) only [go_sem,↓reduceIte,seval,rl,rg,eTblO,ml,mg,Option.getD_none])|((with_reducible refine hK _ ?_);clear hK K)|(with_reducible refine VCy.intro fun K0 hK0=>?_)|((with_reducible refine VCy.fin ?_);(refine hK0 _ ?_);clear hK0 K0)|(with_reducible first|refine VCy.quiet ?_|refine VCy.none ?_)|((with_reducible refine VCy.keep ?_ ?_);focus ((simp -dsimp (disch:=first|exact D|fail) only [go_sem,↓reduceIte,seval,Stable_cons,Stable_nil,sameA_some,sameA_none,rl,rg,eTblO,ml,mg,Option.getD_none]);first|done|exact E|fail))|refine Q1 ?_|((with_reducible refine qW (T:=TT) (b:=?_) ?_ ?_);rotate_left;exact rfl)|fail)
   refine ⟨⟨j+1,by omega⟩,by simp only;omega,?_⟩
   refine St.le_mk ?_ ?_ ?_<;>simp only [LE,EN,Nat.reduceEqDiff,reduceIte,Nat.reduceSub,ms]
  ·have hj:j=t.pk.length:=by omega
   subst hj
   repeat' (first|((((fail_if_success (refine AWP.isRegion 16 ?_));(with_reducible refine qV tyOk fun K hK=>?_)))<;>simp -dsimp (disch:=first|exact D|fail) only [go_sem,↓reduceIte,seval,rl,rg,eTblO,Option.getD_none])|((with_reducible refine hK _ ?_);clear hK K)|refine Q1 ?_|((with_reducible refine qW (T:=TT) (b:=?_) ?_ ?_);rotate_left;exact rfl)|fail)
   refine AWP.close 1000 i 1 8 rfl rfl (by decide) (by simp [ovGet]) (by simp [rl];exact hi) (by show 1<3;decide) rfl ?_
   simp -dsimp (disch:=first|exact D|fail) only [go_sem,↓reduceIte,seval,closeR_mk,ovCut_cons,ovCut_nil]
   rw [setCell_set _ _ _ _ _ (by rw [rl];exact hi)]
   have e1:=rowT_set s.tables i t ⟨t.name,dropAt removed t.cols 0,t.pk⟩
   simp only [eTblO] at e1
   simp only [List.set_cons_succ,List.set_cons_zero,e1]
   refine AWP.close 1000 i 2 2001 rfl rfl (by decide) (by simp [ovGet,mix_len]) (by rw [rowT_len];exact hi) (by show 2<3;decide) rfl ?_
   simp -dsimp (disch:=first|exact D|fail) only [go_sem,↓reduceIte,seval,closeR_mk,ovCut_cons,ovCut_nil]
   rw [rowT_pk _ hi,mix_all]
   have rl2:=rowT_len s.tables i ⟨t.name,dropAt removed t.cols 0,t.pk.map (shiftI removed)⟩
   repeat' (first|((first|with_reducible refine qV tyOk fun K hK=>?_|((with_reducible refine CallJ.is ?_);refine CallJ.io [(1000,1000)] [(1000,1000),(1001,1001),(1002,1002)] [(1000,1000)] [(1000,1000),(1001,1001),(1002,1002)] [] [] [1000,1000] [1000,1001,1002,1000,1001,1002] (rc) rfl ⟨rfl,rfl,rfl,rfl⟩ ?_ ?_ ?_))<;>simp -dsimp (disch:=first|exact D|fail) only [go_sem,↓reduceIte,seval,rl2,rg,eTblO,Option.getD_none,okIds_ref,dropL_nil,dropL_nil',dropL_cons])|((with_reducible refine hK _ ?_);clear hK K)|refine Q1 ?_|fail)
   simp -dsimp (disch:=first|exact D|fail) only [retQ,Tryz.results125,resVals,cellRV,resOf,St.rest,St.freeze,RT,go_sem,↓reduceIte,seval]
   rfl
theorem SmallS.rm {s:Sch} (sm:SmallS s) {i:Nat} (hi:i<s.tables.length) (removed:List Int) (hr:removed.length≤1048576) :
  SatM Tryz.prog 125 [.one (.ptr 1000 0),oI i,.one (eInts removed)] (iB s) (iR s) (.tup []) (iB (removeC s i removed)) (iR (removeC s i removed)):=by
 have b1:=sm.tables
 have b2:=sm.fks
 have b3:=sm.cons
 obtain ⟨t1,t2,t3⟩:=sm.table s.tables[i] (List.getElem_mem hi)
 refine removeColumns_satM s i removed hi hr (by omega) (by omega) (by omega) (by omega) (by omega) (fun c hc=>?_) (fun k hk=>?_) (fun k hk _ c hc=>?_) fun k hk _=>?_
 ·have:=t3 c hc;omega
 ·have:=(sm.fk k hk).1;omega
 ·have:=(sm.fk k hk).2 c hc;omega
 ·have:=sm.con k hk;omega
def verSchema (g:Gr) (v:Int):Res:=match verSchemas g with
 | .error e=>.error e
 | .ok O=>if v<0∨(O.length:Int)≤v then .error 1 else .ok (O.getD v.toNat zSch)
theorem goG_ok:∀{l:List Edg} {acc O:List Sch},(∀x∈acc,schE x=0)→goG acc l=.ok O→(∀x∈O,schE x=0)∧O.length=acc.length+l.length
 | [],acc,O,ha,h=>by injection h with h;subst h;exact ⟨ha,by simp⟩
 | e::r,acc,O,ha,h=>by
  rw [goG] at h
  split at h
  ·cases h
  split at h
  ·cases h
  ·rename_i t q
   obtain ⟨h1,h2⟩:=goG_ok (fun x hx=>by
    rcases List.mem_append.1 hx with hx|hx
    ·exact ha x hx
    ·rw [List.mem_singleton.1 hx];exact scrApply_ok q) h
   exact ⟨h1,by rw [h2];simp;omega⟩
theorem verSchemas_ok {g:Gr} {O:List Sch} (h:verSchemas g=.ok O):g.edges.length<8∧schE g.base=0∧(∀x∈O,schE x=0)∧O.length=1+g.edges.length:=by
 unfold verSchemas at h
 split at h
 ·cases h
 split at h
 ·cases h
 rename_i q0 q
 have q:schE g.base=0:=Decidable.byContradiction q
 have:=goG_ok (fun x hx=>by rw [List.mem_singleton.1 hx];exact q) h
 exact ⟨by omega,q,this.1,this.2⟩
theorem goG_par:∀{l:List Edg} {acc O:List Sch},goG acc l=.ok O→∀j,∀h:j<l.length,0≤l[j].parent∧l[j].parent≤(acc.length:Int)+j - 1
 | [],_,_,_,_,h=>by simp at h
 | e::r,acc,O,hO,j,h=>by
  rw [goG] at hO
  split at hO
  ·cases hO
  rename_i q
  split at hO
  ·cases hO
  ·cases j with
   | zero=>simp only [List.getElem_cons_zero];omega
   | succ j =>
    have:=goG_par hO j (by simpa using h)
    simp only [List.getElem_cons_succ,List.length_append,List.length_singleton] at this ⊢
    omega
theorem grOk_of {g:Gr} {O:List Sch} (h:verSchemas g=.ok O):GrOk g:=by
 unfold verSchemas at h
 split at h
 ·cases h
 split at h
 ·cases h
 have hp:=goG_par h
 refine ⟨fun v h1 h2=>?_,fun k hk=>?_⟩
 ·have:=hp (v - 1) (by omega)
  unfold parN
  rw [getD_lt _ (by omega:v - 1<g.edges.length)]
  simp only [List.length_singleton] at this
  omega
 ·have:=hp k hk
  unfold parN
  rw [Nat.add_sub_cancel,getD_lt _ hk]
  omega
set_option maxHeartbeats 16000000 in
theorem reverseHops_satM (l:List Hp) (h1:l.length≤1048576):SatM Tryz.prog 11 [.one (.ref 1000 0 l.length)] [] [(1000,⟨2,l.map eHp,[]⟩)] (.tup []) [] [(1000,⟨2,l.reverse.map eHp,[]⟩)]:=by
 have lm:∀k,((revTo l k).map eHp).length=l.length:=fun k=>by rw [List.length_map,revTo_len]
 refine sM tyOk [] [1000] Tryz.func11 fun w0 m0 F0=>?_
 simp only [Tryz.ntmps11,envOf,Nat.reduceAdd]
 repeat' (first|((with_reducible refine qV tyOk fun K hK=>?_)<;>simp -dsimp (disch:=first|exact D|fail) only [go_sem,↓reduceIte,seval])|((with_reducible refine hK _ ?_);clear hK K)|refine Q1 ?_|fail)
 refine AWP.loop (ι:={k:Nat // 2 * k≤l.length+1}) (fun k=>⟨28,[(0,.v (.one (.ref 1000 0 l.length))),(2,.v (oI k.1)),(3,.v (oI ((l.length:Int) - 1 - k.1)))],[],[(1000,⟨2,(revTo l k.1).map eHp,[]⟩)]⟩) (fun k=>l.length+1 - k.1) ⟨0,by omega⟩ ?_ fun ⟨k,hk⟩=>?_
 ·refine St.le_mk ?_ ?_ ?_<;>simp only [LE,EN,Nat.reduceEqDiff,reduceIte,Nat.reduceSub,revTo_zero,Int.sub_zero,Int.natCast_zero]
 simp only at hk ⊢
 rcases Nat.lt_or_ge (2 * k+1) l.length with hc|hc
 ·have w1:((l.length:Int) - 1 - k).toNat=l.length - 1 - k:=by omega
  have g1:((revTo l k).map eHp).getD k []=eHp (l.getD k zHp):=by rw [getD_map_lt _ _ _ (by rw [revTo_len];omega),revTo_at (by omega),if_neg (by omega)]
  have g2:((revTo l k).map eHp).getD (l.length - 1 - k) []=eHp (l.getD (l.length - 1 - k) zHp):=by rw [getD_map_lt _ _ _ (by rw [revTo_len];omega),revTo_at (by omega),if_neg (by omega)]
  have g3:∀x,(((revTo l k).map eHp).set k x).getD (l.length - 1 - k) []=eHp (l.getD (l.length - 1 - k) zHp):=fun x=>by rw [List.getD_eq_getElem?_getD,List.getElem?_set_ne (by omega),←List.getD_eq_getElem?_getD,g2]
  have st:(((revTo l k).map eHp).set k (eHp (l.getD (l.length - 1 - k) zHp))).set (l.length - 1 - k) (eHp (l.getD k zHp))=(revTo l (k+1)).map eHp:=by rw [←revTo_succ l hc,List.map_set,List.map_set]
  simp only [eHp] at st
  repeat' (first|((first|with_reducible refine qV tyOk fun K hK=>?_|(refine AWP.isRegion 3 ?_;refine dX tyOk mixed [(0,13)] [(13,[(14,1)],[(2,2)]),(15,[],[])] [13,15] 8 fun K hK=>?_;simp only [SG,segs] at hK ⊢)|(with_reducible first|refine VCy.some fun K hK=>?_|refine VCy.step fun K hK=>?_))<;>simp -dsimp (disch:=first|exact D|fail) only [go_sem,↓reduceIte,seval,w1,g1,g2,g3,lm,eHp,Option.getD_none,List.length_set])|((with_reducible refine hK _ ?_);clear hK K)|(with_reducible refine VCy.intro fun K0 hK0=>?_)|((with_reducible refine VCy.fin ?_);(refine hK0 _ ?_);clear hK0 K0)|(with_reducible first|refine VCy.quiet ?_|refine VCy.none ?_)|((with_reducible refine VCy.keep ?_ ?_);focus ((simp -dsimp (disch:=first|exact D|fail) only [go_sem,↓reduceIte,seval,Stable_cons,Stable_nil,sameA_some,sameA_none,w1,g1,g2,g3,lm,eHp,Option.getD_none,List.length_set]);first|done|exact E|fail))|refine Q1 ?_|((with_reducible refine qW (T:=TT) (b:=?_) ?_ ?_);rotate_left;exact rfl)|fail)
  refine ⟨⟨k+1,by omega⟩,by simp only;omega,?_⟩
  have e3:(l.length:Int) - 1 - k - 1=l.length - 1 - ((k:Int)+1):=by omega
  refine St.le_mk ?_ ?_ ?_<;>simp only [LE,EN,Nat.reduceEqDiff,reduceIte,Nat.reduceSub,st,e3,Int.natCast_add,Int.natCast_one]
 ·repeat' (first|((with_reducible refine qV tyOk fun K hK=>?_)<;>simp -dsimp (disch:=first|exact D|fail) only [go_sem,↓reduceIte,seval,lm])|((with_reducible refine hK _ ?_);clear hK K)|refine Q1 ?_|((with_reducible refine qW (T:=TT) (b:=?_) ?_ ?_);rotate_left;exact rfl)|fail)
  simp -dsimp (disch:=first|exact D|fail) only [retQ,Tryz.results11,resVals,cellRV,resOf,St.rest,St.freeze,RT,go_sem,↓reduceIte,seval]
  rw [revTo_all l (by omega)]
def verPath (g:Gr) (a b:Int):ResH:=match verSchema g a with
 | .error e=>.error e
 | .ok _=>match verSchema g b with
  | .error e=>.error e
  | .ok _=>.ok (pathL (parN g) a.toNat b.toNat)
theorem verSchema_ok {g:Gr} {v:Int} {s:Sch} (h:verSchema g v=.ok s):∃O,verSchemas g=.ok O∧0≤v∧v<(O.length:Int)∧s=O.getD v.toNat zSch:=by
 unfold verSchema at h
 split at h
 ·cases h
 ·rename_i O q
  split at h
  ·cases h
  ·injection h with h
   exact ⟨O,q,by omega,by omega,h.symm⟩
def gr0:Gr:=⟨zSch,[zEdg,zEdg]⟩
theorem sch0:schE zSch=0:=by
 unfold schE zSch
 rfl
theorem ver0:verSchemas gr0=.ok [zSch,zSch,zSch]:=by
 have e1:scrApply zSch []=.ok zSch:=by
  unfold scrApply scrSchemas
  rw [if_neg (by simp),if_neg (by rw [sch0];simp)]
  rfl
 have st:∀(acc:List Sch) (r:List Edg),0<acc.length→acc.getD 0 zSch=zSch→goG acc (zEdg::r)=goG (acc++[zSch]) r:=by
  intro acc r h0 h
  rw [goG,if_neg (by show ¬ ((0:Int)<0∨(acc.length:Int) - 1<0);omega)]
  show (match scrApply (acc.getD 0 zSch) [] with|.error e=>Except.error e|.ok t=>goG (acc++[t]) r)=_
  rw [h,e1]
 have h8:¬ 8≤gr0.edges.length:=by show ¬ 8≤2;omega
 have h9:schE gr0.base=0:=sch0
 unfold verSchemas
 rw [if_neg h8,if_neg (by rw [h9];simp)]
 show goG [zSch] [zEdg,zEdg]=_
 rw [st _ _ (by simp) rfl,st _ _ (by simp) rfl]
 rfl
theorem par0 (v:Nat):parN gr0 v=0:=by
 unfold parN gr0
 simp only
 match v with
 | 0=>rfl
 | 1=>rfl
 | 2=>rfl
 | v+3=>rfl
theorem path0:verPath gr0 1 2=.ok [⟨0,true⟩,⟨1,false⟩]:=by
 have h1:verSchema gr0 1=.ok zSch:=by unfold verSchema;rw [ver0];rfl
 have h2:verSchema gr0 2=.ok zSch:=by unfold verSchema;rw [ver0];rfl
 unfold verPath
 rw [h1,h2]
 simp only
 have a1:anc (parN gr0) 1=[1,0]:=by rw [anc_succ (by omega) (by rw [par0];omega),par0,anc_zero]
 have c1:climb (parN gr0) [1,0] 2=([1],0):=by rw [climb_out (by simp) (by omega) (by rw [par0];omega),par0,climb_in (by simp)]
 have t1:(1:Int).toNat=1:=rfl
 have t2:(2:Int).toNat=2:=rfl
 rw [t1,t2]
 unfold pathL
 rw [a1,c1]
 rfl
set_option maxHeartbeats 8000000 in
theorem cloneEdgs_own (r:List Edg) (h1:r.length≤1099511627776):SatM Tryz.prog 15 [.one (eEdgs r)] [] [] (.v (.one (.ref 2 0 r.length))) [] [(2,⟨2,r.map eEdg,[]⟩)]:=by
 unfold eEdgs
 refine sM tyOk [] [2] Tryz.func15 fun w0 m0 F0=>?_
 simp only [Tryz.ntmps15,envOf,Nat.reduceAdd]
 repeat' (first|((with_reducible refine qV tyOk fun K hK=>?_)<;>simp -dsimp (disch:=first|exact D|fail) only [go_sem,↓reduceIte,seval])|((with_reducible refine hK _ ?_);clear hK K)|refine Q1 ?_|fail)
 intro b hb
 refine hK _ ?_
 clear hK K
 repeat' (first|((with_reducible refine qV tyOk fun K hK=>?_)<;>simp -dsimp (disch:=first|exact D|fail) only [go_sem,↓reduceIte,seval])|((with_reducible refine hK _ ?_);clear hK K)|refine Q1 ?_|((with_reducible refine qW (T:=TT) (b:=?_) ?_ ?_);rotate_left;exact rfl)|((with_reducible refine yS ?_ ?_)<;>(intro h;try simp only [NM] at h))|fail)
 all_goals simp -dsimp (disch:=first|exact D|fail) only [retQ,Tryz.results15,resVals,cellRV,resOf,St.rest,St.freeze,RT,go_sem,↓reduceIte,seval]
 have h2:r=[]:=by
  cases r with
  | nil=>rfl
  | cons x r=>exact absurd ((hb _ rfl (by simp)).symm.trans ‹b=true›) (by decide)
 subst h2
 exact ⟨rfl,rfl⟩
theorem goG_snoc:∀{l:List Edg} {acc O:List Sch} {e:Edg},goG acc l=.ok O→goG acc (l++[e])=goG O [e]
 | [],acc,O,e,h=>by injection h with h;subst h;rfl
 | x::r,acc,O,e,h=>by
  rw [goG] at h
  rw [List.cons_append,goG]
  split at h
  ·cases h
  ·rename_i q
   rw [if_neg q]
   split at h
   ·cases h
   ·exact goG_snoc h
theorem goG_one {O M:List Sch} {e:Edg} (h:goG O [e]=.ok M):∃t,M=O++[t]:=by
 rw [goG] at h
 split at h
 ·cases h
 split at h
 ·cases h
 ·rename_i t _
  rw [goG] at h
  injection h with h
  exact ⟨t,h.symm⟩
def gExt (g:Gr) (p:Int) (steps:List Stp):Gr:=⟨g.base,g.edges++[⟨p,steps⟩]⟩
theorem verSchemas_ext {g:Gr} {p:Int} {steps:List Stp} {O M:List Sch} (h:verSchemas g=.ok O) (h2:verSchemas (gExt g p steps)=.ok M):∃t,M=O++[t]:=by
 unfold verSchemas at h h2
 split at h
 ·cases h
 split at h
 ·cases h
 split at h2
 ·cases h2
 split at h2
 ·cases h2
 have h2:goG [g.base] (g.edges++[⟨p,steps⟩])=.ok M:=h2
 rw [goG_snoc h] at h2
 exact goG_one h2
end Go.Bw
