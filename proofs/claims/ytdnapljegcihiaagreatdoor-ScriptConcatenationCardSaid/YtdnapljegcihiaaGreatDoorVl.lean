/-
  WHAT IS PROVED HERE, of this translation: instEmpty_sat, sr_of, sr_get, okRel_iff, OkRel.sub, evoE_parts, evoE_ok, tblAt_nat, colAt_nat, keyR_satM, instTable_own, findB_lt, insO_snoc, insC_hit, insC_miss, insO_len, insC_len, lookR_cons, instClone_sat, equalSelfRow_sat, equalSelfRel_sat, evo0, s0f, st0f.
  A theorem that ends in sat says what the function it names returns, whatever the state it is called in; the bounds on its arguments stand ahead of it.
-/
import Derived.Test.YtdnapljegcihiaaGreatDoorVh
import Derived.Test.YtdnapljegcihiaaGreatDoorVi
set_option linter.unusedSimpArgs false
set_option linter.unusedVariables false
namespace Go.Bw
open Go.Proofs
set_option maxHeartbeats 8000000 in
theorem instEmpty_sat (s:Sch) (h1:s.tables.length≤1099511627776):Sat Tryz.prog 33 [.agg (eSch s)] (.v (.one (eInst (emptyI s)))):=by
 refine ZE Tryz.func33 Tryz.ntmps33 fun w0 m0 F0=>?_
 refine ZWpy Z0 Z0 ?_;repeat' (first|apply Zb|apply Zn|(apply Zm;intro h))
 refine AWP.loop (ι:={k:Nat // k≤s.tables.length}) (fun k=>⟨21,[(3,.v (.one (.ref 3 0 k.1))),(7,.v (.one (.sl 3 (s.tables.map eTbl)))),(8,.v (oI s.tables.length)),(9,.v (oI k.1))],[],[(3,⟨2,((emptyI s).take k.1).map eRel,[]⟩)]⟩) (fun k=>s.tables.length - k.1) ⟨0,Nat.zero_le _⟩ ?_ fun ⟨k,hkl⟩=>?_
 ·exact ZL Z0
 have hl:(emptyI s).length=s.tables.length:=by simp [emptyI]
 have hlen:((emptyI s).take k).length=k:=by rw [List.length_take];omega
 rcases Nat.lt_or_ge k s.tables.length with hc|hc
 ·refine ZWpy (Z1 @hlen) Z0 ?_;repeat' (first|apply Zb|apply Zn|(apply Zm;intro h))
  refine ⟨⟨k+1,by omega⟩,by simp only;omega,?_⟩
  have e:(emptyI s).take (k+1)=(emptyI s).take k++[⟨s.tables[k].name,[]⟩]:=by
   rw [take_snoc _ _ (by omega)]
   simp [emptyI]
  exact ZL (Z3 @e @eRel.eq_1 @eRows.eq_1)
 ·have hk:k=s.tables.length:=by omega
  refine ZWpy Z0 Z0 ?_;repeat' (first|apply Zb|apply Zn|(apply Zm;intro h))
  refine ZR (Z1 Tryz.results33) ?_
  try rw [if_pos (by omega)]
  try subst hk
  all_goals try rw [←hl,List.take_length]
def SR (t:Tbl) (rows:List Row):Prop:=rows.Pairwise fun a b=>cmpRows (keyOf t.pk a) (keyOf t.pk b)<0
theorem sr_of {t:Tbl}:∀{rows:List Row},(∀j,∀h:j+1<rows.length,cmpRows (keyOf t.pk rows[j]) (keyOf t.pk rows[j+1])<0)→SR t rows
 | [],_=>.nil
 | x::l,h=>by
  have hl:SR t l:=sr_of fun j hj=>h (j+1) (by simpa using hj)
  refine .cons (fun y hy=>?_) hl
  cases l with
  | nil=>cases hy
  | cons z l =>
   have h0:cmpRows (keyOf t.pk x) (keyOf t.pk z)<0:=by simpa using h 0 (by simp)
   rcases List.mem_cons.1 hy with rfl|hy
   ·exact h0
   ·exact cmpRows_is.trans _ _ _ h0 ((List.pairwise_cons.1 hl).1 y hy)
theorem sr_get {t:Tbl} {rows:List Row} (h:SR t rows):∀j,∀hj:j+1<rows.length,cmpRows (keyOf t.pk rows[j]) (keyOf t.pk rows[j+1])<0 :=
 fun j hj=>List.pairwise_iff_getElem.1 h j (j+1) (by omega) hj (by omega)
theorem okRel_iff (t:Tbl) (rows:List Row):OkRel t rows↔rows.length≤24∧(∀x∈rows,rowE t x=0)∧SR t rows:=by
 constructor
 ·rintro ⟨h1,h2,h3⟩
  refine ⟨h1,fun x hx=>?_,sr_of h3⟩
  obtain ⟨j,hj,rfl⟩:=List.mem_iff_getElem.1 hx
  exact h2 j hj
 ·rintro ⟨h1,h2,h3⟩
  exact ⟨h1,fun j hj=>h2 _ (List.getElem_mem hj),fun j hj=>sr_get h3 j hj⟩
theorem OkRel.sub {t:Tbl} {l rows:List Row} (h:OkRel t rows) (hs:l.Sublist rows):OkRel t l:=by
 obtain ⟨h1,h2,h3⟩:=(okRel_iff _ _).1 h
 exact (okRel_iff _ _).2 ⟨Nat.le_trans hs.length_le h1,fun x hx=>h2 x (hs.subset hx),List.Pairwise.sublist hs h3⟩
theorem evoE_parts {s t:Sch} {st:Stp} (h:evoE s st=.ok t):schE s=0∧evValE st=0∧evApply s st=.ok t∧schE t=0:=by
 unfold evoE at h
 split at h
 ·cases h
 rename_i h1
 split at h
 ·cases h
 rename_i h2
 split at h
 ·cases h
 rename_i u hu
 split at h
 ·cases h
 rename_i h3
 injection h with h
 subst h
 exact ⟨Decidable.byContradiction h1,Decidable.byContradiction h2,hu,Decidable.byContradiction h3⟩
theorem evoE_ok {s t:Sch} {st:Stp} (h:evoE s st=.ok t):schE t=0:=by
 unfold evoE at h
 split at h
 ·cases h
 split at h
 ·cases h
 split at h
 ·cases h
 split at h
 ·cases h
 ·rename_i q
  injection h with h
  subst h
  exact Decidable.byContradiction q
theorem tblAt_nat {ts:List Tbl} {n:ByteArray} {i:Nat} (h:tblAt ts n=(i:Int)):(mx0 (tblAt ts n)).toNat=i:=by rw [h,mx0_nat];omega
theorem colAt_nat (cs:List Col) (n:ByteArray) (h:0<cs.length):∃c,c<cs.length∧mx0 (colAt cs n)=(c:Int):=by
 rcases idx_cases (fun u=>sEq u.name n) cs 0 with ⟨e1,_⟩|⟨z,hz,e1,_,_⟩
 ·exact ⟨0,h,by show mx0 (idx _ cs 0)=_;rw [e1];rfl⟩
 ·exact ⟨z,hz,by show mx0 (idx _ cs 0)=_;rw [e1,Nat.zero_add,mx0_nat]⟩
def K123 (st:Stp):Prop:=st.kind=1∨st.kind=2∨st.kind=3
set_option maxHeartbeats 8000000 in
theorem keyR_satM (t : Tbl) (r : Row) (hpk : t.pk.length ≤ 1048576) (hr : r.length ≤ 1048576) : SatM Tryz.prog 57 [.agg (eTbl t), .one (.ref 1000 0 r.length)] [] [(1000, ⟨3, r.map eVal, []⟩)] (.v (.one (.ref 4 0 t.pk.length))) [] [(1000, ⟨3, r.map eVal, []⟩), (4, ⟨3, (keyOf t.pk r).map eVal, []⟩)] := by
  refine ZM [] [1000, 4] Tryz.func57 Tryz.ntmps57 fun w0 m0 F0 => ?_
  refine ZW Z0 Z0 ?_
  refine AWP.loop (ι := {k : Nat // k ≤ t.pk.length}) (fun k => ⟨35, [(1, .v (.one (.ref 1000 0 r.length))), (5, .v (.one (.ref 5 0 k.1))), (10, .v (.one (eInts t.pk))), (11, .v (oI t.pk.length)), (12, .v (oI k.1))], [], [(1000, ⟨3, r.map eVal, []⟩), (5, ⟨3, (keyOf (t.pk.take k.1) r).map eVal, []⟩)]⟩) (fun k => t.pk.length - k.1) ⟨0, Nat.zero_le _⟩ ?_ fun ⟨k, hkl⟩ => ?_
  · exact ZL (Z1 @keyOf.eq_1)
  have hlen : (keyOf (t.pk.take k) r).length = k := by rw [keyOf_length]; simp; omega
  refine ZWp (Z1 @hlen) Z0 ?_; repeat' (first | apply Zb | apply Zn | (apply Zm; intro h))
  all_goals first
    | (refine ⟨⟨k + 1, by omega⟩, by simp only; omega, ?_⟩
       have hk : k < t.pk.length := by omega
       have e : keyOf (t.pk.take (k + 1)) r = keyOf (t.pk.take k) r ++ [keyCell r t.pk[k]] := by
         unfold keyOf
         rw [take_snoc _ _ hk, List.map_append]
         rfl
       first
         | (have h2 : t.pk[k].toNat < r.length := by omega
            have e2 : keyCell r t.pk[k] = r[t.pk[k].toNat]'h2 := by
              rw [keyCell, if_pos ⟨by omega, by omega⟩]
              exact getD_lt _ h2
            exact ZL (Z2 @e @e2)
            )
         | (have e2 : keyCell r t.pk[k] = zV := by rw [keyCell, if_neg (by omega)]
            exact ZL (Z3 @e @e2 @zV.eq_1)
            )
         )
    | (have hk : k = t.pk.length := by omega
       refine ZR (Z1 Tryz.results57) ?_
       subst hk
       first | rfl | exact ⟨rfl, rfl⟩)
set_option maxHeartbeats 8000000 in
theorem instTable_own (s:Sch) (i:Inst) (name:ByteArray) (j:Nat) (hj:j<s.tables.length) (ej:tblAt s.tables name=(j:Int)) (hji:j<i.length) (h1:s.tables.length≤1048576) (h2:s.tables[j].cols.length≤1048576∧s.tables[j].pk.length≤1048576)
  (h3:i[j].rows.length≤1048576∧∀x∈i[j].rows,x.length≤1048576) :
  SatM Tryz.prog 105 [.agg (eSch s),.one (eInst i),.one (.str name)] [] [] (.tup [.agg (eTbl s.tables[j]),.one (.ref 7 0 i[j].rows.length)]) [] [(7,⟨1,i[j].rows.map eRowO,[]⟩)]:=by
 have ft:=findTable_sat s name (by omega)
 rw [ej,mx0_nat,decide_eq_true (show (0:Int)≤(j:Int) by omega)] at ft
 obtain ⟨t,ht⟩:∃t,s.tables[j]=t:=⟨_,rfl⟩
 obtain ⟨rl,hr⟩:∃rl,i[j]=rl:=⟨_,rfl⟩
 rw [ht] at h2 ⊢
 rw [hr] at h3 ⊢
 have ct:=cloneTable_sat t (by omega) (by omega)
 have cl:=relClone_deep rl.rows h3.1 h3.2
 have gt:(s.tables.map eTbl).getD j []=eTbl t:=by rw [getD_map_lt _ _ _ hj,ht]
 have gi:(i.map eRel).getD j []=[.str rl.table,.sl 1 (rl.rows.map eRow1)]:=by rw [getD_map_lt _ _ _ hji,hr];rfl
 unfold eRows at cl
 refine ZM [] [7] Tryz.func105 Tryz.ntmps105 fun w0 m0 F0=>?_
 refine AWP.gq ?_
 refine ZV (Z5 @gt @gi @dropL_nil @dropL_nil' @dropL_cons) (Z2 (ft) (ct)) (Z1 (Zd 7 [(0,6)] [(6,[],[(0,1)]),(7,[(8,1)],[])] [6,7] 8)) (Z1 (Zi [] [] [] [(2,37)] [] [37] [] [37] (cl))) ?_
 refine Gq.renR 37 7 rfl rfl (by decide) (.inl (Nat.le_of_ble_eq_true rfl)) ?_
 refine ZT Z0 ?_
 refine Gq.done ?_
 exact ZQ (Z1 Tryz.results105)
def lookR (T:Tbl) (rows:List Row) (key:Row):Row:=if findB T rows key=true then (rows.getD (findI T rows key).toNat []).drop T.pk.length else []
theorem findB_lt {T:Tbl} {rows:List Row} {key:Row} (h:findB T rows key=true):∃k,k<rows.length∧findI T rows key=(k:Int):=by
 unfold findB at h
 unfold findI
 split at h
 ·cases h
 rename_i q
 rw [if_neg q]
 rcases idx_cases (atKey T key) rows 0 with ⟨e1,_⟩|⟨z,hz,e1,_,_⟩
 ·exact absurd (show findPos T rows key<0 by show idx _ rows 0<0;rw [e1];decide) q
 ·exact ⟨z,hz,by show idx _ rows 0=_;rw [e1,Nat.zero_add]⟩
def insV (T0:Tbl) (crows:List Row) (T:Tbl) (d:Val) (r:Row):Val:=if findB T0 crows (keyOf T.pk r)=true then (lookR T0 crows (keyOf T.pk r)).getD 0 zV else d
def insO (T0:Tbl) (crows:List Row) (T:Tbl) (d:Val) (rows:List Row):List Row:=rows.map fun r=>r++[insV T0 crows T d r]
def insC (T0:Tbl) (crows:List Row) (T:Tbl) (d:Val) (rows:List Row):List Row:=(rows.filter fun r=>decide (insV T0 crows T d r≠d)).map fun r=>keyOf T.pk r++[insV T0 crows T d r]
theorem insO_snoc (T0:Tbl) (crows:List Row) (T:Tbl) (d:Val) (rows:List Row) (k:Nat) (hk:k<rows.length):insO T0 crows T d (rows.take (k+1))=insO T0 crows T d (rows.take k)++[rows[k]++[insV T0 crows T d rows[k]]]:=by
 unfold insO
 rw [take_snoc rows k hk,List.map_append]
 rfl
theorem insC_hit (T0:Tbl) (crows:List Row) (T:Tbl) (d:Val) (rows:List Row) (k:Nat) (hk:k<rows.length) (h:insV T0 crows T d rows[k]≠d):insC T0 crows T d (rows.take (k+1))=insC T0 crows T d (rows.take k)++[keyOf T.pk rows[k]++[insV T0 crows T d rows[k]]]:=by
 unfold insC
 rw [take_snoc rows k hk,List.filter_append,List.map_append]
 congr 1
 rw [List.filter_cons,if_pos (decide_eq_true h),List.filter_nil,List.map_cons,List.map_nil]
theorem insC_miss (T0:Tbl) (crows:List Row) (T:Tbl) (d:Val) (rows:List Row) (k:Nat) (hk:k<rows.length) (h:insV T0 crows T d rows[k]=d):insC T0 crows T d (rows.take (k+1))=insC T0 crows T d (rows.take k):=by
 unfold insC
 rw [take_snoc rows k hk,List.filter_append,List.map_append,List.filter_cons,if_neg (by rw [h];simp),List.filter_nil,List.map_nil,List.append_nil]
theorem insO_len (T0:Tbl) (crows:List Row) (T:Tbl) (d:Val) (rows:List Row):(insO T0 crows T d rows).length=rows.length:=List.length_map ..
theorem insC_len (T0:Tbl) (crows:List Row) (T:Tbl) (d:Val) (rows:List Row):(insC T0 crows T d rows).length≤rows.length:=by
 unfold insC
 rw [List.length_map]
 exact List.length_filter_le _ _
theorem lookR_cons {T0:Tbl} {crows:List Row} {key:Row} (hw:∀r∈crows,T0.pk.length<r.length) (h:findB T0 crows key=true):∃y l,lookR T0 crows key=y::l:=by
 obtain ⟨k,hk,e⟩:=findB_lt h
 unfold lookR
 rw [if_pos h,e,Int.toNat_natCast,getD_lt _ hk,List.drop_eq_getElem_cons (hw _ (List.getElem_mem hk))]
 exact ⟨_,_,rfl⟩
theorem instClone_sat (i:Inst) (h1:i.length≤1099511627776) (h2:∀r∈i,r.rows.length≤1099511627776∧∀x∈r.rows,x.length≤1099511627776):Sat Tryz.prog 104 [.one (eInst i)] (.v (.one (eInst i))) :=
 (instClone_own i h1 h2).frz (by
  simp -dsimp (disch:=first|exact D|fail) only [go_sem,↓reduceIte,seval,topL_ref,St.rest,roots,dropL_nil,eInst]
  )
set_option maxHeartbeats 8000000 in
theorem equalSelfRow_sat (l:List Row) (g:Nat) (hlen:l.length≤140737488355328) (hp:∀t∈l,Sat Tryz.prog g [.one (eRow t),.one (eRow t)] (.v (oB true))) :
  Sat Tryz.prog 110 [.one (eRows l),.one (eRows l),.one (.clo g [])] (.v (oB true)):=by
 refine ZE Tryz.func110 Tryz.ntmps110 fun w0 m0 F0=>?_
 refine ZWpy Z0 Z0 ?_;repeat' (first|apply Zb|apply Zn|(apply Zm;intro h))
 refine AWP.loop (ι:={k:Nat // k≤l.length}) (fun k=>⟨32,[(1,.v (.one (eRows l))),(2,.v (.one (.clo g []))),(15,.v (.one (eRows l))),(16,.v (oI l.length)),(17,.v (oI k.1))],[],[]⟩) (fun k=>l.length - k.1) ⟨0,Nat.zero_le _⟩ ?_ fun ⟨k,hkl⟩=>?_
 ·exact ZL Z0
 simp only
 rcases Nat.lt_or_ge k l.length with hc|hc
 ·have hk:=hp l[k] (List.getElem_mem _)
  refine ZWpy Z0 (Z1 (hk)) ?_;repeat' (first|apply Zb|apply Zn|(apply Zm;intro h))
  refine ⟨⟨k+1,by omega⟩,by simp only;omega,?_⟩
  exact ZL Z0
 ·refine ZWpy Z0 Z0 ?_;repeat' (first|apply Zb|apply Zn|(apply Zm;intro h))
  exact ZQ (Z1 Tryz.results110)
set_option maxHeartbeats 8000000 in
theorem equalSelfRel_sat (l:List Rel) (g:Nat) (hlen:l.length≤140737488355328) (hp:∀t∈l,Sat Tryz.prog g [.agg (eRel t),.agg (eRel t)] (.v (oB true))) :
  Sat Tryz.prog 63 [.one (eInst l),.one (eInst l),.one (.clo g [])] (.v (oB true)):=by
 refine ZE Tryz.func63 Tryz.ntmps63 fun w0 m0 F0=>?_
 refine ZWpy Z0 Z0 ?_;repeat' (first|apply Zb|apply Zn|(apply Zm;intro h))
 refine AWP.loop (ι:={k:Nat // k≤l.length}) (fun k=>⟨32,[(1,.v (.one (eInst l))),(2,.v (.one (.clo g []))),(15,.v (.one (eInst l))),(16,.v (oI l.length)),(17,.v (oI k.1))],[],[]⟩) (fun k=>l.length - k.1) ⟨0,Nat.zero_le _⟩ ?_ fun ⟨k,hkl⟩=>?_
 ·exact ZL Z0
 simp only
 rcases Nat.lt_or_ge k l.length with hc|hc
 ·have hk:=hp l[k] (List.getElem_mem _)
  refine ZWpy Z0 (Z1 (hk)) ?_;repeat' (first|apply Zb|apply Zn|(apply Zm;intro h))
  refine ⟨⟨k+1,by omega⟩,by simp only;omega,?_⟩
  exact ZL Z0
 ·refine ZWpy Z0 Z0 ?_;repeat' (first|apply Zb|apply Zn|(apply Zm;intro h))
  exact ZQ (Z1 Tryz.results63)
def st0:Stp:=⟨2,bPeople,ByteArray.empty,bName,ByteArray.empty,0,[],ByteArray.empty,⟨0,0,ByteArray.empty⟩,⟨ByteArray.empty,[],[]⟩,⟨ByteArray.empty,0,ByteArray.empty,0,⟨0,0,ByteArray.empty⟩⟩,⟨ByteArray.empty,[],ByteArray.empty⟩⟩
theorem evo0:evoE s0 st0=.ok u0:=by kernel_rfl
theorem s0f:s0.Fits:=⟨by decide,by decide,by decide,by decide,by decide⟩
theorem st0f:st0.Fits:=⟨by decide,by decide,by decide,by decide⟩
structure Edg where
 parent:Int
 steps:List Stp
structure Gr where
 base:Sch
 edges:List Edg
structure Edg.Fits (e:Edg):Prop where
 len:e.steps.length≤140737488355328
 step:∀st∈e.steps,st.Fits
structure Gr.Fits (g:Gr):Prop where
 base:g.base.Fits
 len:g.edges.length≤140737488355328
 edge:∀e∈g.edges,e.Fits
end Go.Bw
