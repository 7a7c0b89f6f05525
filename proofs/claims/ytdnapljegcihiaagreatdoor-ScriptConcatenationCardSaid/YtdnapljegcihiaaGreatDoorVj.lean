/-
  WHAT IS PROVED HERE, of this translation: removeColumns_satM, SmallS.rm, insertVal_end, setAt_len, setAt_get, setAt_snoc, setAt_same, setAt_set, setOut_satM, setComp_satM, instEmpty_own.
  A theorem that ends in sat says what the function it names returns, whatever the state it is called in; the bounds on its arguments stand ahead of it.
-/
import Derived.Test.YtdnapljegcihiaaGreatDoorVe
import Derived.Test.YtdnapljegcihiaaGreatDoorVf
set_option linter.unusedSimpArgs false
set_option linter.unusedVariables false
namespace Go.Bw
open Go.Proofs
def instTbl (s:Sch) (i:Inst) (name:ByteArray):Tbl×List Row :=
 if tblAt s.tables name<0 then (⟨ByteArray.empty,[],[]⟩,[]) else
 (s.tables.getD (tblAt s.tables name).toNat zTbl,if (i.length:Int)≤tblAt s.tables name then [] else (i.getD (tblAt s.tables name).toNat ⟨ByteArray.empty,[]⟩).rows)
set_option maxHeartbeats 32000000 in
theorem removeColumns_satM (s:Sch) (i:Nat) (removed:List Int) (hi:i<s.tables.length) (hr:removed.length≤1048576) (h1:s.tables.length≤1048576) (h2:s.fks.length≤1048576) (h3:s.cons.length≤1048576)
  (hcl:s.tables[i].cols.length≤1048576) (hpl:s.tables[i].pk.length≤1048576) (hp:∀c∈s.tables[i].pk,-1048576≤c∧c≤1048576)
  (hn:∀k∈s.fks,k.cols.length≤1048576) (hf:∀k∈s.fks,sEq k.table s.tables[i].name=true→∀c∈k.cols,-1048576≤c∧c≤1048576) (hc:∀k∈s.cons,sEq k.table s.tables[i].name=true→(-1048576≤k.left∧k.left≤1048576)∧k.right≤1048576) :
  SatM Tryz.prog 127 [.one (.ptr 1000 0),oI i,.one (eInts removed)] (iB s) (iR s) (.tup []) (iB (removeC s i removed)) (iR (removeC s i removed)):=by
 obtain ⟨t,ht⟩:∃t,s.tables[i]=t:=⟨_,rfl⟩
 have htA:tAt s i=t:=by unfold tAt;rw [getD_lt _ hi,ht]
 rw [ht] at hcl hpl hp hf hc
 have rc:=remap_satM ⟨s.tables,s.fks,s.cons⟩ (rowT s.tables i ⟨t.name,dropAt removed t.cols 0,t.pk.map (shiftI removed)⟩) s.tables.length t.name (shiftI removed) 159 [[eInts removed]] h2 h3 hn
  (fun k hk hT c hc'=>shift_sat removed c hr (hf k hk hT c hc').1 (hf k hk hT c hc').2) (fun k hk hT=>⟨shift_sat removed _ hr (hc k hk hT).1.1 (hc k hk hT).1.2,fun h0=>shift_sat removed _ hr (by omega) (hc k hk hT).2⟩)
 simp only [List.map_cons,List.map_nil] at rc
 have spec:removeC s i removed=⟨s.tables.set i ⟨t.name,dropAt removed t.cols 0,t.pk.map (shiftI removed)⟩,s.fks.map (remapFK t.name (shiftI removed)),s.cons.map (remapCon t.name (shiftI removed))⟩:=by
  unfold removeC remapS setT
  rw [htA]
 rw [spec]
 unfold iB iR
 simp only [List.length_map,List.length_set]
 have e0:s.tables.map eTblO=rowT s.tables i t:=by unfold rowT;rw [←ht,List.set_getElem_self]
 have rl:=rowT_len s.tables i t
 have rg:=fun t=>rowT_get (l:=s.tables) (k:=i) t hi
 have dl:=dropAt_len removed t.cols 0
 rw [e0]
 refine ZM [1000] [1000,1001,1002] Tryz.func127 Tryz.ntmps127 fun w0 m0 F0=>?_
 refine ZV Z0 Z0 (Z1 (Zs 1)) Z0 ?_
 refine AWP.frz [1000] [1000,1001,1002] ?_
 refine ZS Z0 ?_
 refine AWP.openC 1000 i 1 2000 rfl (rowT_cell1 _ hi) rfl (by decide) (by decide) ?_
 refine ZU (Z1 @openR_mk) ?_
 refine AWP.openC 1000 i 2 2001 rfl (rowT_cell2 _ hi) (by simp [ovGet]) (by decide) (by decide) ?_
 refine ZU (Z1 @openR_mk) ?_
 refine ZW (Z3 @rl @rg @eTblO.eq_1) Z0 ?_
 refine AWP.loop (ι:={k:Nat // k≤t.cols.length}) (fun k=>⟨70,[(0,.v (.one (.ptr 1000 0))),(5,.v (.one (.fz [eInts removed]))),(6,.v (.one (.eptr 1000 i 0))),(7,.v (.one (.clo 159 [.fz [eInts removed]]))),(8,.v (.one (.ref 8 0 (dropAt removed (t.cols.take k.1) 0).length))),(23,.v (.one (.ref 2000 0 t.cols.length))),(24,.v (oI t.cols.length)),(25,.v (oI k.1))],[(1000,[.ref 1000 0 s.tables.length,.ref 1001 0 s.fks.length,.ref 1002 0 s.cons.length])],[(8,⟨3,(dropAt removed (t.cols.take k.1) 0).map eCol,[]⟩),(2000,⟨3,t.cols.map eCol,[]⟩),(2001,⟨1,t.pk.map eInt1,[]⟩),(1000,⟨3,rowT s.tables i t,[(i,2,.ref 2001 0 t.pk.length),(i,1,.ref 2000 0 t.cols.length)]⟩),(1001,⟨3,s.fks.map eFKO,[]⟩),(1002,⟨7,s.cons.map eCon,[]⟩)]⟩) (fun k=>t.cols.length - k.1) ⟨0,Nat.zero_le _⟩ ?_ fun ⟨k,hkl⟩=>?_
 ·refine St.le_mk ?_ ?_ ?_<;>simp only [LE,EN,Nat.reduceEqDiff,reduceIte,Nat.reduceSub,List.take_zero,dropAt,List.length_nil,List.map_nil]
 simp only at hkl ⊢
 have dk:=dropAt_len removed (t.cols.take k) 0
 have tk:(t.cols.take k).length=k:=by simp;omega
 rw [tk] at dk
 rcases Nat.lt_or_ge k t.cols.length with hk|hk
 ·have es:=take_snoc t.cols k hk
  have ds:=dropAt_snoc removed t.cols[k] (t.cols.take k) 0
  rw [←es,tk,Nat.zero_add] at ds
  have cc:=containsInt_sat removed (k:Int) (by omega)
  cases hx:removed.elem (k:Int) with
  | true =>
   rw [hx] at cc ds
   simp only [if_true,List.append_nil] at ds
   refine ZW (Z2 @rl @rg) (Z1 (cc)) ?_
   refine ⟨⟨k+1,by omega⟩,by simp only;omega,?_⟩
   exact ZL (Z1 @ds)
  | false =>
   rw [hx] at cc ds
   simp only [Bool.false_eq_true,if_false] at ds
   refine ZW (Z2 @rl @rg) (Z1 (cc)) ?_
   refine ⟨⟨k+1,by omega⟩,by simp only;omega,?_⟩
   exact ZN (Z2 @ds @eCol.eq_1)
 ·rw [List.take_of_length_le hk] at dk ⊢
  refine ZW (Z3 @rl @rg @eTblO.eq_1) Z0 ?_
  refine AWP.loop (ι:={j:Nat // j≤t.pk.length}) (fun j=>⟨70,[(0,.v (.one (.ptr 1000 0))),(6,.v (.one (.eptr 1000 i 0))),(7,.v (.one (.clo 159 [.fz [eInts removed]]))),(8,.v (.one (.ref 8 0 (dropAt removed t.cols 0).length))),(42,.v (.one (.ref 2001 0 t.pk.length))),(43,.v (oI t.pk.length)),(44,.v (oI j.1))],[(1000,[.ref 1000 0 s.tables.length,.ref 1001 0 s.fks.length,.ref 1002 0 s.cons.length])],[(8,⟨3,(dropAt removed t.cols 0).map eCol,[]⟩),(2000,⟨3,t.cols.map eCol,[]⟩),(2001,⟨1,(mix (shiftI removed) t.pk j.1).map eInt1,[]⟩),(1000,⟨3,rowT s.tables i t,[(i,2,.ref 2001 0 t.pk.length),(i,1,.ref 2000 0 t.cols.length)]⟩),(1001,⟨3,s.fks.map eFKO,[]⟩),(1002,⟨7,s.cons.map eCon,[]⟩)]⟩) (fun j=>t.pk.length - j.1) ⟨0,Nat.zero_le _⟩ ?_ fun ⟨j,hjl⟩=>?_
  ·exact ZL (Z1 @mix_zero)
  simp only at hjl ⊢
  rcases Nat.lt_or_ge j t.pk.length with hj|hj
  ·have ml:=mix_len (shiftI removed) t.pk j
   have mg:=mixr_get eInt1 (shiftI removed) t.pk j hj
   have ms:=mixr_set eInt1 (shiftI removed) t.pk j hj
   simp only [eInt1] at ms
   have hb:=hp t.pk[j] (List.getElem_mem hj)
   have hg:=shift_sat removed t.pk[j] hr hb.1 hb.2
   unfold MapsAt at hg
   simp only [List.map_cons,List.map_nil] at hg
   refine ZV (Z5 @rl @rg @eTblO.eq_1 @ml @mg) (Z1 (hg)) (Z1 (Zd 13 [(0,7)] [(7,[(8,1)],[(0,5)]),(9,[],[])] [7,9] 8)) Z0 ?_
   refine ⟨⟨j+1,by omega⟩,by simp only;omega,?_⟩
   exact ZL (Z1 @ms)
  ·have hj:j=t.pk.length:=by omega
   subst hj
   refine ZV (Z3 @rl @rg @eTblO.eq_1) Z0 (Z1 (Zs 16)) Z0 ?_
   refine AWP.close 1000 i 1 8 rfl rfl (by decide) (by simp [ovGet]) (by simp [rl];exact hi) (by show 1<3;decide) rfl ?_
   refine ZU (Z3 @closeR_mk @ovCut_cons @ovCut_nil) ?_
   rw [setCell_set _ _ _ _ _ (by rw [rl];exact hi)]
   have e1:=rowT_set s.tables i t ⟨t.name,dropAt removed t.cols 0,t.pk⟩
   simp only [eTblO] at e1
   simp only [List.set_cons_succ,List.set_cons_zero,e1]
   refine AWP.close 1000 i 2 2001 rfl rfl (by decide) (by simp [ovGet,mix_len]) (by rw [rowT_len];exact hi) (by show 2<3;decide) rfl ?_
   refine ZU (Z3 @closeR_mk @ovCut_cons @ovCut_nil) ?_
   rw [rowT_pk _ hi,mix_all]
   have rl2:=rowT_len s.tables i ⟨t.name,dropAt removed t.cols 0,t.pk.map (shiftI removed)⟩
   refine ZV (Z7 @rl2 @rg @eTblO.eq_1 @okIds_ref @dropL_nil @dropL_nil' @dropL_cons) Z0 Z0 (Z1 (Zi [(1000,1000)] [(1000,1000),(1001,1001),(1002,1002)] [(1000,1000)] [(1000,1000),(1001,1001),(1002,1002)] [] [] [1000,1000] [1000,1001,1002,1000,1001,1002] (rc))) ?_
   refine ZR (Z1 Tryz.results127) ?_
   rfl
theorem SmallS.rm {s:Sch} (sm:SmallS s) {i:Nat} (hi:i<s.tables.length) (removed:List Int) (hr:removed.length≤1048576) :
  SatM Tryz.prog 127 [.one (.ptr 1000 0),oI i,.one (eInts removed)] (iB s) (iR s) (.tup []) (iB (removeC s i removed)) (iR (removeC s i removed)):=by
 have b1:=sm.tables
 have b2:=sm.fks
 have b3:=sm.cons
 obtain ⟨t1,t2,t3⟩:=sm.table s.tables[i] (List.getElem_mem hi)
 refine removeColumns_satM s i removed hi hr (by omega) (by omega) (by omega) (by omega) (by omega) (fun c hc=>?_) (fun k hk=>?_) (fun k hk _ c hc=>?_) fun k hk _=>?_
 ·have:=t3 c hc;omega
 ·have:=(sm.fk k hk).1;omega
 ·have:=(sm.fk k hk).2 c hc;omega
 ·have:=sm.con k hk;omega
set_option maxHeartbeats 8000000 in
theorem insertVal_end (r:Row) (v:Val) (h1:r.length≤1048576) :
  SatM Tryz.prog 174 [.one (.ref 1000 0 r.length),oI r.length,.one (.ref 1001 0 1)] [] [(1000,⟨3,r.map eVal,[]⟩),(1001,⟨3,[eVal v],[]⟩)] (.v (.one (.ref 6 0 (r.length+1)))) [] [(6,⟨3,(r++[v]).map eVal,[]⟩)]:=by
 have c1:((1:Nat):Int)=1:=rfl
 refine ZM [] [6] Tryz.func174 Tryz.ntmps174 fun w0 m0 F0=>?_
 refine ZV (Z1 @c1) Z0 (Z1 (Zs 7)) Z0 ?_;repeat' (first|apply Zb|apply Zn|(apply Zk;intro K hK)|(apply Zx;intro K0 hK0))
 refine AWP.regionX tyOk fun K0 hK0=>?_
 refine VOpsX.step fun K hK=>?_
 refine ZU Z0 ?_
 refine ZW Z0 Z0 ?_;repeat' (first|apply Zb|apply Zn|(apply Zk;intro K hK)|(apply Zx;intro K0 hK0))
 refine VOpsX.step fun K hK=>?_
 refine ZU Z0 ?_
 refine ZW Z0 Z0 ?_;repeat' (first|apply Zb|apply Zn|(apply Zk;intro K hK)|(apply Zx;intro K0 hK0))
 refine VOpsX.sem (SemOp.retype tyOk (ops:=#[]) Tryz.underlying68 Tryz.underlying67 fun K hK=>?_)
 refine ZU Z0 ?_
 refine ZW Z0 Z0 ?_;repeat' (first|apply Zb|apply Zn|(apply Zk;intro K hK)|(apply Zx;intro K0 hK0))
 refine VOpsX.step fun K hK=>?_
 refine ZU Z0 ?_
 refine ZW Z0 Z0 ?_;repeat' (first|apply Zb|apply Zn|(apply Zk;intro K hK)|(apply Zx;intro K0 hK0))
 refine VOpsX.fin (hK0 _ ?_)
 try clear hK0 K0
 refine ZW Z0 Z0 ?_;repeat' (first|apply Zb|apply Zn|(apply Zk;intro K hK)|(apply Zx;intro K0 hK0))
 refine ZR (Z1 Tryz.results174) ?_
 simp [eVal]
def mB (st:Stp) (fwd:Bool) (a b c:Sch) (inn comp:Inst) (no nn:Nat) (err:Int):List L:=eStp st++([.bool fwd]++eSch a++eSch b++eSch c++[eInst inn,eInst comp,.ref 1001 0 no,.ref 1002 0 nn,.int .i64 err])
def setR (o:Inst) (n:ByteArray) (rows:List Row):Inst:=o.map fun r=>if sEq r.table n then ⟨r.table,rows⟩ else r
def setAt (o:Inst) (n:ByteArray) (rows:List Row) (k:Nat):Inst:=setR (o.take k) n rows++o.drop k
theorem setAt_len (o:Inst) (n:ByteArray) (rows:List Row) (k:Nat) (hk:k≤o.length):(setAt o n rows k).length=o.length:=by unfold setAt setR;simp;omega
theorem setAt_get (o:Inst) (n:ByteArray) (rows:List Row) (k:Nat) (hk:k<o.length):((setAt o n rows k).map eRel).getD k []=[.str o[k].table,eRows o[k].rows]:=by
 have hl:=setAt_len o n rows k (by omega)
 rw [getD_map_lt _ _ _ (by omega)]
 unfold setAt setR
 rw [List.getElem_append_right (by simp;omega)]
 simp [eRel,show min k o.length=k by omega]
theorem setAt_snoc (o:Inst) (n:ByteArray) (rows:List Row) (k:Nat) (hk:k<o.length):setAt o n rows (k+1)=setR (o.take k) n rows++(if sEq o[k].table n then ⟨o[k].table,rows⟩ else o[k])::o.drop (k+1):=by
 unfold setAt setR
 rw [take_snoc o k hk,List.map_append]
 simp
theorem setAt_same (o:Inst) (n:ByteArray) (rows:List Row) (k:Nat) (hk:k<o.length) (h:sEq o[k].table n=false):setAt o n rows (k+1)=setAt o n rows k:=by
 rw [setAt_snoc o n rows k hk,h]
 unfold setAt
 rw [List.drop_eq_getElem_cons hk]
 rfl
theorem setAt_set (o:Inst) (n:ByteArray) (rows:List Row) (k:Nat) (hk:k<o.length) (h:sEq o[k].table n=true):((setAt o n rows k).map eRel).set k [.str o[k].table,eRows rows]=(setAt o n rows (k+1)).map eRel:=by
 rw [setAt_snoc o n rows k hk,h]
 unfold setAt
 rw [List.drop_eq_getElem_cons hk,List.map_append,List.map_append,List.set_append_right _ _ (by simp [setR];omega)]
 congr 1
 have e0:k - ((setR (o.take k) n rows).map eRel).length=0:=by simp [setR];omega
 rw [e0]
 rfl
set_option maxHeartbeats 8000000 in
theorem setOut_satM (st:Stp) (fwd:Bool) (a b c:Sch) (inn comp:Inst) (o nw:Inst) (err:Int) (name:ByteArray) (rows:List Row) (ho:o.length≤1048576) :
  SatM Tryz.prog 175 [.one (.ptr 1000 0),oS name,.one (eRows rows)] [(1000,mB st fwd a b c inn comp o.length nw.length err)] [(1001,⟨2,o.map eRel,[]⟩),(1002,⟨2,nw.map eRel,[]⟩)]
   (.tup []) [(1000,mB st fwd a b c inn comp o.length nw.length err)] [(1001,⟨2,(setR o name rows).map eRel,[]⟩),(1002,⟨2,(nw).map eRel,[]⟩)]:=by
 unfold mB eStp eSch
 simp only [List.cons_append,List.nil_append]
 refine ZM [1000] [1001,1002] Tryz.func175 Tryz.ntmps175 fun w0 m0 F0=>?_
 refine ZW Z0 Z0 ?_
 refine AWP.loop (ι:={k:Nat // k≤o.length}) (fun k=>⟨34,[(0,.v (.one (.ptr 1000 0))),(1,.v (oS name)),(2,.v (.one (eRows rows))),(11,.v (oI o.length)),(12,.v (oI k.1))],[(1000,mB st fwd a b c inn comp o.length nw.length err)],[(1001,⟨2,(setAt o name rows k.1).map eRel,[]⟩),(1002,⟨2,(nw).map eRel,[]⟩)]⟩) (fun k=>o.length - k.1) ⟨0,Nat.zero_le _⟩ ?_ fun ⟨k,hk⟩=>?_
 ·refine St.le_mk ?_ ?_ ?_<;>simp only [LE,EN,Nat.reduceEqDiff,reduceIte,Nat.reduceSub,mB,eStp,eSch,List.cons_append,List.nil_append,setAt,setR,List.take_zero,List.drop_zero,List.map_nil,Int.natCast_zero]
 simp only at hk ⊢
 rcases Nat.lt_or_ge k o.length with hc|hc
 ·have g:=setAt_get o name rows k hc
  have sl:=setAt_len o name rows k hk
  obtain ⟨x,hx⟩:∃x,o[k]=x:=⟨_,rfl⟩
  rw [hx] at g
  cases he:sEq x.table name with
  | true =>
   have e1:(x.table.toList==name.toList)=true:=he
   have es:=setAt_set o name rows k hc (by rw [hx];exact he)
   rw [hx] at es
   unfold eRows at es g
   refine ZW (Z5 @mB.eq_1 @eStp.eq_1 @g @sl @e1) Z0 ?_
   refine ⟨⟨k+1,by omega⟩,by simp only;omega,?_⟩
   exact ZN (Z6 @mB.eq_1 @eStp.eq_1 @eSch.eq_1 @es @Int.natCast_add @Int.natCast_one)
  | false =>
   have e1:(x.table.toList==name.toList)=false:=he
   have es:=setAt_same o name rows k hc (by rw [hx];exact he)
   unfold eRows at g
   refine ZW (Z5 @mB.eq_1 @eStp.eq_1 @g @sl @e1) Z0 ?_
   refine ⟨⟨k+1,by omega⟩,by simp only;omega,?_⟩
   exact ZN (Z6 @mB.eq_1 @eStp.eq_1 @eSch.eq_1 @es @Int.natCast_add @Int.natCast_one)
 ·have hk2:k=o.length:=by omega
  subst hk2
  have es:setAt o name rows o.length=setR o name rows:=by unfold setAt;rw [List.take_length,List.drop_length,List.append_nil]
  rw [es]
  refine ZW (Z2 @mB.eq_1 @eStp.eq_1) Z0 ?_
  exact ZQ (Z1 Tryz.results175)
set_option maxHeartbeats 8000000 in
theorem setComp_satM (st:Stp) (fwd:Bool) (a b c:Sch) (inn comp:Inst) (o nw:Inst) (err:Int) (name:ByteArray) (rows:List Row) (ho:nw.length≤1048576) :
  SatM Tryz.prog 176 [.one (.ptr 1000 0),oS name,.one (eRows rows)] [(1000,mB st fwd a b c inn comp o.length nw.length err)] [(1001,⟨2,o.map eRel,[]⟩),(1002,⟨2,nw.map eRel,[]⟩)]
   (.tup []) [(1000,mB st fwd a b c inn comp o.length nw.length err)] [(1001,⟨2,(o).map eRel,[]⟩),(1002,⟨2,(setR nw name rows).map eRel,[]⟩)]:=by
 unfold mB eStp eSch
 simp only [List.cons_append,List.nil_append]
 refine ZM [1000] [1001,1002] Tryz.func176 Tryz.ntmps176 fun w0 m0 F0=>?_
 refine ZW Z0 Z0 ?_
 refine AWP.loop (ι:={k:Nat // k≤nw.length}) (fun k=>⟨34,[(0,.v (.one (.ptr 1000 0))),(1,.v (oS name)),(2,.v (.one (eRows rows))),(11,.v (oI nw.length)),(12,.v (oI k.1))],[(1000,mB st fwd a b c inn comp o.length nw.length err)],[(1001,⟨2,(o).map eRel,[]⟩),(1002,⟨2,(setAt nw name rows k.1).map eRel,[]⟩)]⟩) (fun k=>nw.length - k.1) ⟨0,Nat.zero_le _⟩ ?_ fun ⟨k,hk⟩=>?_
 ·refine St.le_mk ?_ ?_ ?_<;>simp only [LE,EN,Nat.reduceEqDiff,reduceIte,Nat.reduceSub,mB,eStp,eSch,List.cons_append,List.nil_append,setAt,setR,List.take_zero,List.drop_zero,List.map_nil,Int.natCast_zero]
 simp only at hk ⊢
 rcases Nat.lt_or_ge k nw.length with hc|hc
 ·have g:=setAt_get nw name rows k hc
  have sl:=setAt_len nw name rows k hk
  obtain ⟨x,hx⟩:∃x,nw[k]=x:=⟨_,rfl⟩
  rw [hx] at g
  cases he:sEq x.table name with
  | true =>
   have e1:(x.table.toList==name.toList)=true:=he
   have es:=setAt_set nw name rows k hc (by rw [hx];exact he)
   rw [hx] at es
   unfold eRows at es g
   refine ZW (Z5 @mB.eq_1 @eStp.eq_1 @g @sl @e1) Z0 ?_
   refine ⟨⟨k+1,by omega⟩,by simp only;omega,?_⟩
   exact ZN (Z6 @mB.eq_1 @eStp.eq_1 @eSch.eq_1 @es @Int.natCast_add @Int.natCast_one)
  | false =>
   have e1:(x.table.toList==name.toList)=false:=he
   have es:=setAt_same nw name rows k hc (by rw [hx];exact he)
   unfold eRows at g
   refine ZW (Z5 @mB.eq_1 @eStp.eq_1 @g @sl @e1) Z0 ?_
   refine ⟨⟨k+1,by omega⟩,by simp only;omega,?_⟩
   exact ZN (Z6 @mB.eq_1 @eStp.eq_1 @eSch.eq_1 @es @Int.natCast_add @Int.natCast_one)
 ·have hk2:k=nw.length:=by omega
  subst hk2
  have es:setAt nw name rows nw.length=setR nw name rows:=by unfold setAt;rw [List.take_length,List.drop_length,List.append_nil]
  rw [es]
  refine ZW (Z2 @mB.eq_1 @eStp.eq_1) Z0 ?_
  exact ZQ (Z1 Tryz.results176)
set_option maxHeartbeats 8000000 in
theorem instEmpty_own (s:Sch) (h1:s.tables.length≤1048576):SatM Tryz.prog 33 [.agg (eSch s)] [] [] (.v (.one (.ref 2 0 s.tables.length))) [] [(2,⟨2,(emptyI s).map eRel,[]⟩)]:=by
 refine ZM [] [2] Tryz.func33 Tryz.ntmps33 fun w0 m0 F0=>?_
 refine ZW Z0 Z0 ?_
 refine AWP.loop (ι:={k:Nat // k≤s.tables.length}) (fun k=>⟨21,[(3,.v (.one (.ref 3 0 k.1))),(7,.v (.one (.sl 3 (s.tables.map eTbl)))),(8,.v (oI s.tables.length)),(9,.v (oI k.1))],[],[(3,⟨2,((emptyI s).take k.1).map eRel,[]⟩)]⟩) (fun k=>s.tables.length - k.1) ⟨0,Nat.zero_le _⟩ ?_ fun ⟨k,hkl⟩=>?_
 ·exact ZL Z0
 have hl:(emptyI s).length=s.tables.length:=by simp [emptyI]
 have hlen:((emptyI s).take k).length=k:=by rw [List.length_take];omega
 rcases Nat.lt_or_ge k s.tables.length with hc|hc
 ·refine ZW (Z1 @hlen) Z0 ?_
  refine ⟨⟨k+1,by omega⟩,by simp only;omega,?_⟩
  have e:(emptyI s).take (k+1)=(emptyI s).take k++[⟨s.tables[k].name,[]⟩]:=by
   rw [take_snoc _ _ (by omega)]
   simp [emptyI]
  exact ZL (Z3 @e @eRel.eq_1 @eRows.eq_1)
 ·have hk:k=s.tables.length:=by omega
  subst hk
  refine ZW Z0 Z0 ?_
  simp -dsimp (disch:=first|exact D|fail) only [retQ,Tryz.results33,resVals,cellRV,resOf,St.rest,St.freeze,RT,go_sem,↓reduceIte,seval]
  all_goals rw [List.take_of_length_le (by omega)]
end Go.Bw
