/-
  WHAT IS PROVED HERE, of this translation: compareInts_sat, compare_sat, indexFuncCol_sat, indexFuncFK_sat, findColumn1_sat, findColumn_sat, take_next, equalInts_sat, equalFKs_sat, containsFK_sat, satisfies_sat, validate_sat, .., frzRs_tbl, frzRs_tblT, overlapI_cases, splitFK_cols, splitCon_cols, split_lens, part1_sat, partFK_snoc, partCon_snoc, partFK_len, partCon_len.
  A theorem that ends in sat says what the function it names returns, whatever the state it is called in; the bounds on its arguments stand ahead of it.
-/
import Derived.Test.YtdnapljegcihiaaGreatDoorVd
import Derived.Test.YtdnapljegcihiaaGreatDoorVe
set_option linter.unusedSimpArgs false
set_option linter.unusedVariables false
namespace Go.Bw
open Go.Proofs
theorem compareInts_sat (a b:Int):Sat Tryz.prog 103 [oI a,oI b] (.v (oI (cmpInts a b))):=by
 refine ZE Tryz.func103 Tryz.ntmps103 fun w0 m0 F0=>?_
 refine ZWp Z0 Z0 ?_;repeat' (first|apply Zb|apply Zn|(apply Zm;intro h))
 all_goals simp -dsimp (disch:=first|exact D|fail) only [retQ,Tryz.results103,resVals,cellRV,resOf,St.rest,St.freeze,RT,go_sem,↓reduceIte,seval]
 all_goals simp [cmpInts, *]
 all_goals omega
def satV (a:Val) (op:ByteArray) (b:Val):Bool :=
 if !opOk op then false else if a.kind==0||b.kind==0 then true else
 cmpV a b==0&&!sEq op opLt||decide (cmpV a b<0)&&!sEq op opEq
set_option maxHeartbeats 4000000 in
set_option maxRecDepth 4000 in
theorem compare_sat (a b:Val):Sat Tryz.prog 102 [.agg (eVal a),.agg (eVal b)] (.v (oI (cmpV a b))):=by
 refine ZE Tryz.func102 Tryz.ntmps102 fun w0 m0 F0=>?_
 refine ZWp Z0 (Z2 @compareInts_sat @stringsCompare_sat) ?_;repeat' (first|apply Zb|apply Zn|(apply Zm;intro h))
 all_goals simp -dsimp (disch:=first|exact D|fail) only [retQ,Tryz.results102,resVals,cellRV,resOf,St.rest,St.freeze,RT,go_sem,↓reduceIte,seval]
 all_goals simp_all [cmpV]
set_option maxHeartbeats 4000000 in
theorem indexFuncCol_sat (l : List Col) (f : Nat) (cs : List L) (p : Col → Bool) (hlen : l.length ≤ 140737488355328) (hp : ∀ t ∈ l, Sat Tryz.prog f (.agg (eCol t) :: cs.map .one) (.v (oB (p t)))) :
    Sat Tryz.prog 51 [.one (eCols l), .one (.clo f cs)] (.v (oI (idx p l 0))) := by
  refine ZE Tryz.func51 Tryz.ntmps51 fun w0 m0 F0 => ?_
  refine ZW Z0 Z0 ?_
  refine AWP.loop (ι := {k : Nat // k ≤ l.length ∧ idx p (l.drop k) k = idx p l 0}) (fun k => ⟨19, [(0, .v (.one (eCols l))), (1, .v (.one (.clo f cs))), (7, .v (oI l.length)), (8, .v (oI k.1))], [], []⟩) (fun k => l.length - k.1) ⟨0, Nat.zero_le _, rfl⟩ ?_ fun ⟨k, hkl, hi⟩ => ?_
  · exact ZL Z0
  repeat' (first | ((first | with_reducible refine qV tyOk fun K hK => ?_ | ((with_reducible refine CallJ.is ?_); (refine CallJ.pure (hp _ (List.getElem_mem (by omega))) ?_))) <;> simp -dsimp (disch := first | exact D | fail) only [go_sem, ↓reduceIte, seval]) | ((with_reducible refine hK _ ?_); clear hK K) | refine Q1 ?_ | ((with_reducible refine qW (T := TT) (b := ?_) ?_ ?_); rotate_left; exact rfl) | ((with_reducible refine yS ?_ ?_) <;> (intro h; try simp only [NM] at h)) | fail)
  all_goals first 
    | (have hk : ¬ k < l.length := by omega
       refine ZR (Z1 Tryz.results51) ?_
       rw [← hi, idx_end hk]
       done)
    | (
       refine ZR (Z1 Tryz.results51) ?_
       rw [← hi, idx_hit _ ‹_›])
    | (refine ⟨⟨k + 1, by omega, by rw [idx_step _ ‹_›, hi]⟩, by simp only; omega, ?_⟩
       exact ZL Z0
       )

set_option maxHeartbeats 4000000 in
theorem indexFuncFK_sat (l : List FK) (f : Nat) (cs : List L) (p : FK → Bool) (hlen : l.length ≤ 140737488355328) (hp : ∀ t ∈ l, Sat Tryz.prog f (.agg (eFK t) :: cs.map .one) (.v (oB (p t)))) :
    Sat Tryz.prog 92 [.one (eFKs l), .one (.clo f cs)] (.v (oI (idx p l 0))) := by
  refine ZE Tryz.func92 Tryz.ntmps92 fun w0 m0 F0 => ?_
  refine ZW Z0 Z0 ?_
  refine AWP.loop (ι := {k : Nat // k ≤ l.length ∧ idx p (l.drop k) k = idx p l 0}) (fun k => ⟨19, [(0, .v (.one (eFKs l))), (1, .v (.one (.clo f cs))), (7, .v (oI l.length)), (8, .v (oI k.1))], [], []⟩) (fun k => l.length - k.1) ⟨0, Nat.zero_le _, rfl⟩ ?_ fun ⟨k, hkl, hi⟩ => ?_
  · exact ZL Z0
  repeat' (first | ((first | with_reducible refine qV tyOk fun K hK => ?_ | ((with_reducible refine CallJ.is ?_); (refine CallJ.pure (hp _ (List.getElem_mem (by omega))) ?_))) <;> simp -dsimp (disch := first | exact D | fail) only [go_sem, ↓reduceIte, seval]) | ((with_reducible refine hK _ ?_); clear hK K) | refine Q1 ?_ | ((with_reducible refine qW (T := TT) (b := ?_) ?_ ?_); rotate_left; exact rfl) | ((with_reducible refine yS ?_ ?_) <;> (intro h; try simp only [NM] at h)) | fail)
  all_goals first 
    | (have hk : ¬ k < l.length := by omega
       refine ZR (Z1 Tryz.results92) ?_
       rw [← hi, idx_end hk]
       done)
    | (
       refine ZR (Z1 Tryz.results92) ?_
       rw [← hi, idx_hit _ ‹_›])
    | (refine ⟨⟨k + 1, by omega, by rw [idx_step _ ‹_›, hi]⟩, by simp only; omega, ?_⟩
       exact ZL Z0
       )

theorem findColumn1_sat (t:Col) (name:ByteArray):Sat Tryz.prog 137 [.agg (eCol t),.one (.fz [.str name])] (.v (oB (sEq t.name name))):=by
 refine ZE Tryz.func137 Tryz.ntmps137 fun w0 m0 F0=>?_
 refine ZW Z0 Z0 ?_
 refine ZR (Z1 Tryz.results137) ?_
 rfl
theorem findColumn_sat (s:Tbl) (name:ByteArray) (hlen:s.cols.length≤140737488355328):Sat Tryz.prog 91 [.agg (eTbl s),oS name] (.tup [oI (mx0 (colAt s.cols name)),oB (decide (0≤colAt s.cols name))]):=by
 refine ZE Tryz.func91 Tryz.ntmps91 fun w0 m0 F0=>?_
 repeat' (first|((first|with_reducible refine qV tyOk fun K hK=>?_|((with_reducible refine CallJ.is ?_);(((apply CallJ.lentI);(focus (simp -dsimp (disch:=first|exact D|fail) only [go_sem,↓reduceIte,seval];rfl));(focus (first|exact (indexFuncCol_sat s.cols _ [.fz [.str name]] _ hlen fun t _=>findColumn1_sat t name)))))))<;>simp -dsimp (disch:=first|exact D|fail) only [go_sem,↓reduceIte,seval])|((with_reducible refine hK _ ?_);clear hK K)|refine Q1 ?_|fail)
 refine ZR (Z1 Tryz.results91) ?_
 rfl
theorem take_next {α:Type} {a b:List α} {k:Nat} (h1:k<a.length) (h2:k<b.length) (h:a.take k=b.take k) (he:a[k]=b[k]):a.take (k+1)=b.take (k+1):=by
 rw [take_snoc a k h1,take_snoc b k h2,h,he]
set_option maxHeartbeats 4000000 in
theorem equalInts_sat (a b:List Int) (hl:a.length≤140737488355328):Sat Tryz.prog 93 [.one (eInts a),.one (eInts b)] (.v (oB (decide (a=b)))):=by
 refine ZE Tryz.func93 Tryz.ntmps93 fun w0 m0 F0=>?_
 refine ZWp Z0 Z0 ?_;repeat' (first|apply Zb|apply Zn|(apply Zm;intro h))
 rotate_left
 ·refine ZR (Z1 Tryz.results93) ?_
  simp [ne_of_len ‹_›]
 refine AWP.loop (ι:={k:Nat // k≤a.length∧a.take k=b.take k}) (fun k=>⟨26,[(0,.v (.one (eInts a))),(1,.v (.one (eInts b))),(12,.v (oI a.length)),(13,.v (oI k.1))],[],[]⟩) (fun k=>a.length - k.1) ⟨0,Nat.zero_le _,rfl⟩ ?_ fun ⟨k,hkl,hi⟩=>?_
 ·exact ZL Z0
 refine ZWpy Z0 Z0 ?_;repeat' (first|apply Zb|apply Zn|(apply Zm;intro h))
 ·have ha:k<a.length:=by omega
  have hb:k<b.length:=by omega
  rename_i h1 h2 h
  refine ⟨⟨k+1,by omega,take_next ha hb hi h⟩,by simp only;omega,?_⟩
  exact ZL Z0
 ·have ha:k<a.length:=by omega
  have hb:k<b.length:=by omega
  refine ZR (Z1 Tryz.results93) ?_
  rename_i h1 h
  simp [ne_of_get ha hb h]
 ·have ha:a.length≤k:=by omega
  have hb:b.length≤k:=by omega
  refine ZR (Z1 Tryz.results93) ?_
  simp [eq_of_take ha hb hi]
set_option maxHeartbeats 4000000 in
theorem equalFKs_sat (a b:FK) (hl:a.cols.length≤140737488355328):Sat Tryz.prog 44 [.agg (eFK a),.agg (eFK b)] (.v (oB (fkEq a b))):=by
 refine ZE Tryz.func44 Tryz.ntmps44 fun w0 m0 F0=>?_
 repeat' (first|((first|with_reducible refine qV tyOk fun K hK=>?_|refine Q2 ?_|((with_reducible refine qS ?_ ?_)<;>(intro h;try simp only [NM] at h))|((with_reducible refine CallJ.is ?_);(refine CallJ.pure (equalInts_sat _ _ hl) ?_)))<;>simp -dsimp (disch:=first|exact D|fail) only [go_sem,↓reduceIte,seval])|((with_reducible refine hK _ ?_);clear hK K)|refine Q1 ?_|fail)
 all_goals simp -dsimp (disch:=first|exact D|fail) only [retQ,Tryz.results44,resVals,cellRV,resOf,St.rest,St.freeze,RT,go_sem,↓reduceIte,seval]
 all_goals simp_all [fkEq,sEq]
theorem containsFK_sat (l:List FK) (f:Nat) (cs:List L) (p:FK→Bool) (hlen:l.length≤140737488355328) (hp:∀t∈l,Sat Tryz.prog f (.agg (eFK t)::cs.map .one) (.v (oB (p t)))) :
  Sat Tryz.prog 42 [.one (eFKs l),.one (.clo f cs)] (.v (oB (decide (0≤idx p l 0)))):=by
 refine ZE Tryz.func42 Tryz.ntmps42 fun w0 m0 F0=>?_
 repeat' (first|((first|with_reducible refine qV tyOk fun K hK=>?_|((with_reducible refine CallJ.is ?_);(refine CallJ.pure (indexFuncFK_sat l _ _ _ hlen hp) ?_)))<;>simp -dsimp (disch:=first|exact D|fail) only [go_sem,↓reduceIte,seval])|((with_reducible refine hK _ ?_);clear hK K)|refine Q1 ?_|fail)
 exact ZQ (Z1 Tryz.results42)
set_option maxHeartbeats 4000000 in
theorem satisfies_sat (a b:Val) (op:ByteArray):Sat Tryz.prog 94 [.agg (eVal a),oS op,.agg (eVal b)] (.tup [oB (satV a op b),oI (satE op)]):=by
 refine sS tyOk Tryz.func94 fun w0 m0 F0=>?_
 simp only [Tryz.ntmps94,envOf,Nat.reduceAdd]
 repeat' (first|((first|with_reducible refine qV tyOk fun K hK=>?_|refine Q2 ?_|((with_reducible refine qS ?_ ?_)<;>(intro h;try simp only [NM] at h))|((with_reducible refine CallJ.is ?_);(refine CallJ.pure (compare_sat _ _) ?_)))<;>simp -dsimp (disch:=first|exact D|fail) only [go_sem,↓reduceIte,seval])|((with_reducible refine hK _ ?_);clear hK K)|refine Q1 ?_|((with_reducible refine qW (T:=TT) (b:=?_) ?_ ?_);rotate_left;exact rfl)|((with_reducible refine yS ?_ ?_)<;>(intro h;try simp only [NM] at h))|fail)
 all_goals try simp -dsimp (disch:=first|exact D|fail) only [retQ,Tryz.results94,resVals,cellRV,resOf,St.rest,St.freeze,RT,go_sem,↓reduceIte,seval]
 all_goals try simp_all [satV,satE,sEq,opOk,opEq,opLt,opLe]
set_option maxHeartbeats 4000000 in
theorem validate_sat (v:Val):Sat Tryz.prog 95 [.agg (eVal v)] (.v (oI (valE v))):=by
 refine sS tyOk Tryz.func95 fun w0 m0 F0=>?_
 simp only [Tryz.ntmps95,envOf,Nat.reduceAdd]
 repeat' (first|((first|with_reducible refine qV tyOk fun K hK=>?_|refine Q2 ?_|((with_reducible refine qS ?_ ?_)<;>(intro h;try simp only [NM] at h)))<;>simp -dsimp (disch:=first|exact D|fail) only [go_sem,↓reduceIte,seval])|((with_reducible refine hK _ ?_);clear hK K)|refine Q1 ?_|((with_reducible refine qW (T:=TT) (b:=?_) ?_ ?_);rotate_left;exact rfl)|((with_reducible refine yS ?_ ?_)<;>(intro h;try simp only [NM] at h))|fail)
 all_goals simp -dsimp (disch:=first|exact D|fail) only [retQ,Tryz.results95,resVals,cellRV,resOf,St.rest,St.freeze,RT,go_sem,↓reduceIte,seval]
 all_goals simp_all [valE,sEq]
 all_goals omega
theorem val_eq {a b:Val}:a=b↔a.kind=b.kind∧a.int=b.int∧a.text.toList=b.text.toList:=by
 constructor
 ·rintro rfl;exact ⟨rfl,rfl,rfl⟩
 ·rintro ⟨h1,h2,h3⟩
  cases a;cases b
  simp only at h1 h2 h3
  rw [h1,h2,toList_inj h3]
theorem take_eq_succ {α:Type} {a b:List α} {k:Nat} (ha:k<a.length) (hb:k<b.length) (h:a.take k=b.take k) (e:a[k]=b[k]):a.take (k+1)=b.take (k+1):=by
 rw [take_snoc a k ha,take_snoc b k hb,h,e]
theorem con_eq {a b:Con}:a=b↔a.table.toList=b.table.toList∧a.left=b.left∧a.op.toList=b.op.toList∧a.right=b.right∧a.value.kind=b.value.kind∧a.value.int=b.value.int∧a.value.text.toList=b.value.text.toList:=by
 constructor
 ·rintro rfl;exact ⟨rfl,rfl,rfl,rfl,rfl,rfl,rfl⟩
 ·rintro ⟨h1,h2,h3,h4,h5,h6,h7⟩
  cases a;cases b
  simp only at h1 h2 h3 h4 h5 h6 h7
  rw [toList_inj h1,h2,toList_inj h3,h4,val_eq.2 ⟨h5,h6,h7⟩]
theorem fkEq_eq (a b:FK):fkEq a b=decide (a=b):=by
 rw [Bool.eq_iff_iff]
 simp only [fkEq,Bool.and_eq_true,sEq_iff,decide_eq_true_eq]
 constructor
 ·rintro ⟨⟨h1,h2⟩,h3⟩;cases a;cases b;simp_all
 ·rintro rfl;exact ⟨⟨rfl,rfl⟩,rfl⟩
set_option maxHeartbeats 8000000 in
theorem equalCons_sat (a b:List Con) (h1:a.length≤140737488355328) (h2:b.length≤140737488355328):Sat Tryz.prog 69 [.one (eCons a),.one (eCons b)] (.v (oB (decide (a=b)))):=by
 refine ZE Tryz.func69 Tryz.ntmps69 fun w0 m0 F0=>?_
 refine ZWp Z0 Z0 ?_;repeat' (first|apply Zb|apply Zn|(apply Zm;intro h))
 rotate_left
 ·refine ZR (Z1 Tryz.results69) ?_
  have hn:¬ a=b:=fun e=>by rw [e] at h;exact h rfl
  simp [hn]
 have hl:a.length=b.length:=by omega
 refine AWP.loop (ι:={k:Nat // k≤a.length∧a.take k=b.take k}) (fun k=>⟨26,[(0,.v (.one (eCons a))),(1,.v (.one (eCons b))),(12,.v (oI a.length)),(13,.v (oI k.1))],[],[]⟩) (fun k=>a.length - k.1) ⟨0,Nat.zero_le _,rfl⟩ ?_ fun ⟨k,hkl,hi⟩=>?_
 ·exact ZL Z0
 rcases Nat.lt_or_ge k a.length with hc|hc
 ·have hb:k<b.length:=by omega
  refine ZWpy Z0 Z0 ?_;repeat' (first|apply Zb|apply Zn|(apply Zm;intro h))
  ·refine ⟨⟨k+1,by omega,take_eq_succ hc hb hi (con_eq.2 h)⟩,by simp only;omega,?_⟩
   exact ZL Z0
  ·refine ZR (Z1 Tryz.results69) ?_
   have hn:¬ a=b:=fun e=>by
    obtain ⟨e1,e2,e3,e4,e5,e6,e7⟩:=con_eq.1 (get_of_eq hc hb e)
    simp_all
   simp [hn]
 ·have hk:a=b:=by
   rw [List.take_of_length_le (by omega),List.take_of_length_le (by omega)] at hi
   exact hi
  refine ZW Z0 Z0 ?_
  refine ZR (Z1 Tryz.results69) ?_
  simp [hk]
theorem equalFKs2_sat (a b:FK) (hl:a.cols.length≤140737488355328):Sat Tryz.prog 44 [.agg (eFK a),.agg (eFK b)] (.v (oB (decide (a=b)))):=by
 rw [←fkEq_eq]
 exact equalFKs_sat a b hl
set_option maxHeartbeats 8000000 in
theorem equalFuncFK_sat (a b : List FK) (h1 : a.length ≤ 140737488355328) (h2 : b.length ≤ 140737488355328) (h3 : ∀ t ∈ a, t.cols.length ≤ 140737488355328) :
    Sat Tryz.prog 68 [.one (eFKs a), .one (eFKs b), .one (.clo 44 [])] (.v (oB (decide (a = b)))) := by
  refine ZE Tryz.func68 Tryz.ntmps68 fun w0 m0 F0 => ?_
  refine ZWp Z0 Z0 ?_; repeat' (first | apply Zb | apply Zn | (apply Zm; intro h))
  rotate_left
  · refine ZR (Z1 Tryz.results68) ?_
    have hn : ¬ a = b := fun e => by rw [e] at h; exact h rfl
    simp [hn]
  have hl : a.length = b.length := by omega
  refine AWP.loop (ι := {k : Nat // k ≤ a.length ∧ a.take k = b.take k}) (fun k => ⟨32, [(1, .v (.one (eFKs b))), (2, .v (.one (.clo 44 []))), (15, .v (.one (eFKs a))), (16, .v (oI a.length)), (17, .v (oI k.1))], [], []⟩) (fun k => a.length - k.1) ⟨0, Nat.zero_le _, rfl⟩ ?_ fun ⟨k, hkl, hi⟩ => ?_
  · exact ZL Z0
  rcases Nat.lt_or_ge k a.length with hc | hc
  · have hb : k < b.length := by omega
    repeat' (first | ((first | with_reducible refine qV tyOk fun K hK => ?_ | ((with_reducible refine CallJ.is ?_); (refine CallJ.pure (equalFKs2_sat a[k] b[k] (h3 _ (List.getElem_mem hc))) ?_))) <;> simp -dsimp (disch := first | exact D | fail) only [go_sem, ↓reduceIte, seval]) | ((with_reducible refine hK _ ?_); clear hK K) | refine Q1 ?_ | ((with_reducible refine qW (T := TT) (b := ?_) ?_ ?_); rotate_left; exact rfl) | ((with_reducible refine yS ?_ ?_) <;> (intro h; try simp only [NM] at h)) | fail)
    all_goals first
      | (refine ⟨⟨k + 1, by omega, take_eq_succ hc hb hi ‹_›⟩, by simp only; omega, ?_⟩
         exact ZL Z0
         done)
      | (have hn : ¬ a = b := fun e => ‹¬ _› (get_of_eq hc hb e)
         refine ZR (Z1 Tryz.results68) ?_
         simp [hn])
  · have hk : a = b := by
      rw [List.take_of_length_le (by omega), List.take_of_length_le (by omega)] at hi
      exact hi
    refine ZW Z0 Z0 ?_
    refine ZR (Z1 Tryz.results68) ?_
    simp [hk]

theorem idx_anyB {α:Type} (p:α→Bool):∀(l:List α) (k:Nat),decide (0≤idx p l k)=l.any p
 | [],k=>by simp [idx]
 | x::l,k=>by
  rw [idx,List.any_cons]
  cases hx:p x with
  | true=>simp
  | false=>simpa using idx_anyB p l (k+1)
theorem containsFFK_sat (l:List FK) (f:Nat) (cs:List L) (p:FK→Bool) (hlen:l.length≤140737488355328) (hp:∀t∈l,Sat Tryz.prog f (.agg (eFK t)::cs.map .one) (.v (oB (p t)))) :
  Sat Tryz.prog 42 [.one (eFKs l),.one (.clo f cs)] (.v (oB (l.any p))):=by
 rw [←idx_anyB p l 0]
 exact containsFK_sat l f cs p hlen hp
theorem sequence_sat (n:Nat) (h:n≤1048576):Sat Tryz.prog 126 [oI n] (.v (.one (eInts (seqI n)))) :=
 (sequence_own n h).frz (by
  have sl:=seqI_len n
  simp -dsimp (disch:=first|exact D|fail) only [go_sem,↓reduceIte,seval,topL_ref,St.rest,roots,dropL_nil,eInts,sl]
  )
theorem conCols_sat (c:Con):Sat Tryz.prog 125 [.agg (eCon c)] (.v (.one (eInts (conCols c)))):=by
 refine ZE Tryz.func125 Tryz.ntmps125 fun w0 m0 F0=>?_
 refine ZWp Z0 Z0 ?_;repeat' (first|apply Zb|apply Zn|(apply Zm;intro h))
 all_goals simp -dsimp (disch:=first|exact D|fail) only [retQ,Tryz.results125,resVals,cellRV,resOf,St.rest,St.freeze,RT,go_sem,↓reduceIte,seval]
 all_goals first
  | (rw [conCols,if_pos (by omega)];rfl)
  | (rw [conCols,if_neg (by omega)];rfl)
theorem rowT_cols {l:List Tbl} {k:Nat} (t:Tbl) (h:k<l.length) (c:List Col):setCell (rowT l k t) k 1 (.own 3 (c.map eCol))=rowT l k ⟨t.name,c,t.pk⟩:=by
 unfold setCell
 rw [rowT_get t h]
 exact rowT_set l k t ⟨t.name,c,t.pk⟩
def oBE:Res→Boxes
 | .error _=>[]
 | .ok s=>oB1 s
def oRE:Res→Rows
 | .error _=>[]
 | .ok s=>oR1 s
theorem frz_eTblO (l:List Tbl):(l.map eTblO).map (fun x=>x.map (L.frzN 4))=l.map eTbl:=by
 rw [List.map_map]
 refine List.map_congr_left fun t _=>?_
 show [L.str t.name,L.sl 3 ((t.cols.map eCol).map fun x=>x.map (L.frzN 3)),L.sl 1 ((t.pk.map eInt1).map fun x=>x.map (L.frzN 3))]=eTbl t
 rw [frz3 (e:=eCol) fun _=>rfl,frz3 (e:=eInt1) fun _=>rfl]
 rfl
theorem frz_eFKO (l:List FK):(l.map eFKO).map (fun x=>x.map (L.frzN 4))=l.map eFK:=by
 rw [List.map_map]
 refine List.map_congr_left fun t _=>?_
 show [L.str t.table,L.sl 1 ((t.cols.map eInt1).map fun x=>x.map (L.frzN 3)),L.str t.ref]=eFK t
 rw [frz3 (e:=eInt1) fun _=>rfl]
 rfl
theorem frzTblO (l:List Tbl):frzXs (l.map eTblO)=l.map eTbl:=frz_eTblO l
theorem frzFKO (l:List FK):frzXs (l.map eFKO)=l.map eFK:=frz_eFKO l
set_option maxHeartbeats 16000000 in
theorem insertTable_satM (ts:List Tbl) (F C:List (List L)) (nf nc:Nat) (t:Tbl) (hl:ts.length<19) :
  SatM Tryz.prog 119 [.one (.ptr 1000 0),.agg (eTbl t)] [(1000,[.ref 1000 0 ts.length,.ref 1001 0 nf,.ref 1002 0 nc])] [(1000,⟨3,ts.map eTbl,[]⟩),(1001,⟨3,F,[]⟩),(1002,⟨7,C,[]⟩)]
   (.tup []) [(1000,[.ref 11 0 (ts.length+1),.ref 1001 0 nf,.ref 1002 0 nc])] [(11,⟨3,(ginsS cmpT 0 (ts.length+1) (ts++[t])).map eTbl,[]⟩),(1001,⟨3,F,[]⟩),(1002,⟨7,C,[]⟩)]:=by
 have st:=sortT_satM (ts++[t]) (by simp;omega)
 rw [List.length_append,List.length_singleton] at st
 unfold rowTb at st
 refine ZM [1000] [11,1001,1002] Tryz.func119 Tryz.ntmps119 fun w0 m0 F0=>?_
 refine ZV (Z4 (@List.map_append.{0,0}) @dropL_nil @dropL_nil' @dropL_cons) Z0 (Z1 (Zd 1 [(0,6)] [(6,[],[(0,5)]),(7,[(8,2)],[(0,1)]),(10,[],[])] [6,7,10] 8)) (Z1 (Zi [] [(1000,11)] [] [(1000,11)] [] [] [] [11,11] (st))) ?_
 exact ZQ (Z1 Tryz.results119)
theorem take_ext {α:Type} {p:α→Prop} {l:List α} {k:Nat} (hk:k<l.length) (h:∀x∈l.take k,p x) (hx:p l[k]):∀x∈l.take (k+1),p x:=by
 rw [take_snoc l k hk]
 intro x h'
 rcases List.mem_append.1 h' with q|q
 ·exact h x q
 ·rw [List.mem_singleton.1 q];exact hx
set_option maxHeartbeats 8000000 in
theorem cloneIntsR_satM (l:List Int) (h1:l.length≤1048576):SatM Tryz.prog 77 [.one (.ref 1000 0 l.length)] [] [(1000,⟨1,l.map eInt1,[]⟩)] (.v (.one (.ref 2 0 l.length))) [] [(1000,⟨1,l.map eInt1,[]⟩),(2,⟨1,l.map eInt1,[]⟩)]:=by
 refine ZM [] [1000,2] Tryz.func77 Tryz.ntmps77 fun w0 m0 F0=>?_
 refine ZW Z0 Z0 ?_;repeat' (first|apply Zb|apply Zn|(apply Zk;intro K hK))
 intro b hb
 refine hK _ ?_
 try clear hK K
 refine ZWp Z0 Z0 ?_;repeat' (first|apply Zb|apply Zn|(apply Zm;intro h)|(apply Zk;intro K hK))
 all_goals simp -dsimp (disch:=first|exact D|fail) only [retQ,Tryz.results77,resVals,cellRV,resOf,St.rest,St.freeze,RT,go_sem,↓reduceIte,seval]
 have h2:l=[]:=by
  cases l with
  | nil=>rfl
  | cons x r=>exact absurd ((hb _ rfl (by simp)).symm.trans ‹b=true›) (by decide)
 subst h2
 exact ⟨rfl,rfl⟩
theorem moved_sat (st:Stp) (n:Nat) (c:Int) (hn:n≤1048576) (hl:st.cols.length≤1048576):MapsAt Tryz.prog 122 ([[.int .i64 (n:Int)],eStp st].map L.fz) (movedI n st.cols) c:=by
 have ix:=indexInt_sat st.cols c (by omega)
 have hb:-1≤idx (fun x=>x==c) st.cols 0∧idx (fun x=>x==c) st.cols 0<st.cols.length+1:=by
  rcases idx_cases (fun x=>x==c) st.cols 0 with ⟨e1,_⟩|⟨j,hj,e1,_,_⟩
  ·omega
  ·omega
 unfold MapsAt movedI
 generalize idx (fun x=>x==c) st.cols 0=q at ix hb ⊢
 simp only [List.map_cons,List.map_nil]
 refine ZE Tryz.func122 Tryz.ntmps122 fun w0 m0 F0=>?_
 refine ZV (Z1 @eStp.eq_1) (Z1 (ix)) (Z1 (Zd 1 [(0,4)] [(4,[(5,2)],[(0,1)])] [4] 8)) Z0 ?_
 exact ZQ (Z1 Tryz.results122)
theorem filter_take_succ {α:Type} (p:α→Bool) (l:List α) (k:Nat) (h:k<l.length):(l.take (k+1)).filter p=(l.take k).filter p++(if p l[k] then [l[k]] else []):=by
 rw [take_snoc l k h,List.filter_append]
 cases hp:p l[k]<;>simp [hp]
theorem filter_take_len {α:Type} (p:α→Bool) (l:List α) (k:Nat):((l.take k).filter p).length≤l.length:=Nat.le_trans (List.length_filter_le _ _) (by simp;omega)
set_option maxHeartbeats 32000000 in
theorem same_satX (X:List (List L)) (s:Sch) (table other:ByteArray) (h2:s.fks.length≤1048576) (h3:∀f∈s.fks,f.cols.length≤1048576) (h4:s.cons.length≤1048576) :
  Sat Tryz.prog 132 [.agg [.sl 3 X,eFKs s.fks,eCons s.cons],oS table,oS other] (.v (oI (sameE s table other))):=by
 have spec0:sameE s table other=if s.fks.any fun f=>sEq f.ref table||sEq f.ref other then 10
   else if (s.fks.filter fun f=>sEq f.table table)≠((s.fks.filter fun f=>!sEq f.table table&&sEq f.table other).map (updT table)) then 10
   else if (s.cons.filter fun c=>sEq c.table table)≠((s.cons.filter fun c=>!sEq c.table table&&sEq c.table other).map (updC table)) then 11
   else 0:=rfl
 rw [spec0]
 clear spec0
 refine ZE Tryz.func132 Tryz.ntmps132 fun w0 m0 F0=>?_
 refine ZW Z0 Z0 ?_
 refine AWP.loop (ι:={k:Nat // k≤s.fks.length∧∀f∈s.fks.take k,(sEq f.ref table||sEq f.ref other)=false}) (fun k=>⟨85,[(1,.v (oS table)),(2,.v (oS other)),(3,.v (.one (.ptr 3 0))),(7,.v (.one (.ref 7 0 ((s.fks.take k.1).filter fun f=>sEq f.table table).length))),(8,.v (.one (.ref 8 0 ((s.fks.take k.1).filter fun f=>!sEq f.table table&&sEq f.table other).length))),(16,.v (.one (eFKs s.fks))),(17,.v (oI s.fks.length)),(18,.v (oI k.1))],[(3,[.sl 3 X,eFKs s.fks,eCons s.cons])],[(7,⟨3,((s.fks.take k.1).filter fun f=>sEq f.table table).map eFK,[]⟩),(8,⟨3,(((s.fks.take k.1).filter fun f=>!sEq f.table table&&sEq f.table other).map (updT table)).map eFK,[]⟩)]⟩) (fun k=>s.fks.length - k.1) ⟨0,Nat.zero_le _,by simp⟩ ?_ fun ⟨k,hkl,hr⟩=>?_
 ·refine St.le_mk ?_ ?_ ?_<;>simp only [LE,EN,Nat.reduceEqDiff,reduceIte,Nat.reduceSub,List.take_zero,List.filter_nil,List.map_nil,List.length_nil]
 simp only at hkl hr ⊢
 rcases Nat.lt_or_ge k s.fks.length with hk|hk
 ·have f1:=filter_take_succ (fun f=>sEq f.table table) s.fks k hk
  have f2:=filter_take_succ (fun f=>!sEq f.table table&&sEq f.table other) s.fks k hk
  have l1:=filter_take_len (fun f=>sEq f.table table) s.fks k
  have l2:=filter_take_len (fun f=>!sEq f.table table&&sEq f.table other) s.fks k
  cases hq:sEq s.fks[k].ref table||sEq s.fks[k].ref other with
  | true =>
   have hany:(s.fks.any fun f=>sEq f.ref table||sEq f.ref other)=true:=List.any_eq_true.2 ⟨_,List.getElem_mem hk,hq⟩
   rw [if_pos hany]
   rcases Bool.or_eq_true _ _▸hq with hq|hq
   ·have hq':s.fks[k].ref.toList=table.toList:=by simpa [sEq] using hq
    refine ZW (Z1 @hq') Z0 ?_
    exact ZQ (Z1 Tryz.results132)
   ·have hq':s.fks[k].ref.toList=other.toList:=by simpa [sEq] using hq
    refine ZWp (Z1 @hq') Z0 ?_;repeat' (first|apply Zb|apply Zn|(apply Zm;intro h))
    all_goals simp -dsimp (disch:=first|exact D|fail) only [retQ,Tryz.results132,resVals,cellRV,resOf,St.rest,St.freeze,RT,go_sem,↓reduceIte,seval]
  | false =>
   obtain ⟨q1,q2⟩:=Bool.or_eq_false_iff.1 hq
   have q1':¬ s.fks[k].ref.toList=table.toList:=by simpa [sEq] using q1
   have q2':¬ s.fks[k].ref.toList=other.toList:=by simpa [sEq] using q2
   have hr':=take_ext hk hr hq
   cases hT:sEq s.fks[k].table table with
   | true =>
    have hT':s.fks[k].table.toList=table.toList:=by simpa [sEq] using hT
    simp only [hT,if_true,Bool.not_true,Bool.false_and,Bool.false_eq_true,if_false,List.append_nil] at f1 f2
    refine ZW (Z3 @q1' @q2' @hT') Z0 ?_
    refine ⟨⟨k+1,by omega,hr'⟩,by simp only;omega,?_⟩
    exact ZN (Z3 @f1 @f2 @eFK.eq_1)
   | false =>
    have hT':¬ s.fks[k].table.toList=table.toList:=by simpa [sEq] using hT
    cases hO:sEq s.fks[k].table other with
    | true =>
     have hO':s.fks[k].table.toList=other.toList:=by simpa [sEq] using hO
     have hot:¬ other.toList=table.toList:=fun q=>hT' (hO'.trans q)
     simp only [hT,hO,if_true,Bool.not_false,Bool.and_self,Bool.false_eq_true,if_false,List.append_nil] at f1 f2
     refine ZW (Z5 @q1' @q2' @hT' @hO' @hot) Z0 ?_
     refine ⟨⟨k+1,by omega,hr'⟩,by simp only;omega,?_⟩
     exact ZN (Z4 @f1 @f2 @eFK.eq_1 @updT.eq_1)
    | false =>
     have hO':¬ s.fks[k].table.toList=other.toList:=by simpa [sEq] using hO
     simp only [hT,hO,Bool.not_false,Bool.and_false,Bool.false_eq_true,if_false,List.append_nil] at f1 f2
     refine ZW (Z4 @q1' @q2' @hT' @hO') Z0 ?_
     refine ⟨⟨k+1,by omega,hr'⟩,by simp only;omega,?_⟩
     exact ZL (Z2 @f1 @f2)
 rw [List.take_of_length_le hk] at hr ⊢
 have hany:(s.fks.any fun f=>sEq f.ref table||sEq f.ref other)=false:=by
  rw [List.any_eq_false]
  intro f hf
  simp [hr f hf]
 rw [hany]
 simp only [Bool.false_eq_true,if_false]
 have lA:(s.fks.filter fun f=>sEq f.table table).length≤s.fks.length:=List.length_filter_le _ _
 have lB:(s.fks.filter fun f=>!sEq f.table table&&sEq f.table other).length≤s.fks.length:=List.length_filter_le _ _
 have mA:∀f∈s.fks.filter (fun f=>sEq f.table table),f.cols.length≤140737488355328:=fun f hf=>by have:=h3 f (List.mem_filter.1 hf).1;omega
 have eqf:=equalFuncFK_sat (s.fks.filter fun f=>sEq f.table table) ((s.fks.filter fun f=>!sEq f.table table&&sEq f.table other).map (updT table)) (by omega) (by rw [List.length_map];omega) mA
 obtain ⟨A,hA⟩:∃A,(s.fks.filter fun f=>sEq f.table table)=A:=⟨_,rfl⟩
 obtain ⟨B,hB⟩:∃B,((s.fks.filter fun f=>!sEq f.table table&&sEq f.table other).map (updT table))=B:=⟨_,rfl⟩
 have hBl:(s.fks.filter fun f=>!sEq f.table table&&sEq f.table other).length=B.length:=by rw [←hB,List.length_map]
 rw [hBl] at lB ⊢
 rw [hA] at eqf lA ⊢
 rw [hB] at eqf ⊢
 by_cases hAB:A=B
 case neg =>
  simp only [hAB,decide_false] at eqf
  rw [if_pos hAB]
  refine ZW Z0 (Z1 (eqf)) ?_
  exact ZQ (Z1 Tryz.results132)
 rw [if_neg (by simpa using hAB)]
 simp only [hAB,decide_true] at eqf
 rw [hAB]
 refine ZW Z0 (Z1 (eqf)) ?_
 refine AWP.loop (ι:={k:Nat // k≤s.cons.length}) (fun k=>⟨85,[(1,.v (oS table)),(2,.v (oS other)),(11,.v (.one (.ref 11 0 ((s.cons.take k.1).filter fun f=>sEq f.table table).length))),(12,.v (.one (.ref 12 0 ((s.cons.take k.1).filter fun f=>!sEq f.table table&&sEq f.table other).length))),(56,.v (.one (eCons s.cons))),(57,.v (oI s.cons.length)),(58,.v (oI k.1))],[],[(11,⟨7,((s.cons.take k.1).filter fun f=>sEq f.table table).map eCon,[]⟩),(12,⟨7,(((s.cons.take k.1).filter fun f=>!sEq f.table table&&sEq f.table other).map (updC table)).map eCon,[]⟩)]⟩) (fun k=>s.cons.length - k.1) ⟨0,Nat.zero_le _⟩ ?_ fun ⟨k,hkl⟩=>?_
 ·refine St.le_mk ?_ ?_ ?_<;>simp only [LE,EN,Nat.reduceEqDiff,reduceIte,Nat.reduceSub,List.take_zero,List.filter_nil,List.map_nil,List.length_nil]
 simp only at hkl ⊢
 rcases Nat.lt_or_ge k s.cons.length with hk|hk
 ·have f1:=filter_take_succ (fun f=>sEq f.table table) s.cons k hk
  have f2:=filter_take_succ (fun f=>!sEq f.table table&&sEq f.table other) s.cons k hk
  have l1:=filter_take_len (fun f=>sEq f.table table) s.cons k
  have l2:=filter_take_len (fun f=>!sEq f.table table&&sEq f.table other) s.cons k
  cases hT:sEq s.cons[k].table table with
  | true =>
   have hT':s.cons[k].table.toList=table.toList:=by simpa [sEq] using hT
   simp only [hT,if_true,Bool.not_true,Bool.false_and,Bool.false_eq_true,if_false,List.append_nil] at f1 f2
   refine ZW (Z1 @hT') Z0 ?_
   refine ⟨⟨k+1,by omega⟩,by simp only;omega,?_⟩
   exact ZN (Z3 @f1 @f2 @eCon.eq_1)
  | false =>
   have hT':¬ s.cons[k].table.toList=table.toList:=by simpa [sEq] using hT
   cases hO:sEq s.cons[k].table other with
   | true =>
    have hO':s.cons[k].table.toList=other.toList:=by simpa [sEq] using hO
    have hot:¬ other.toList=table.toList:=fun q=>hT' (hO'.trans q)
    simp only [hT,hO,if_true,Bool.not_false,Bool.and_self,Bool.false_eq_true,if_false,List.append_nil] at f1 f2
    refine ZW (Z3 @hT' @hO' @hot) Z0 ?_
    refine ⟨⟨k+1,by omega⟩,by simp only;omega,?_⟩
    exact ZN (Z4 @f1 @f2 @eCon.eq_1 @updC.eq_1)
   | false =>
    have hO':¬ s.cons[k].table.toList=other.toList:=by simpa [sEq] using hO
    simp only [hT,hO,Bool.not_false,Bool.and_false,Bool.false_eq_true,if_false,List.append_nil] at f1 f2
    refine ZW (Z2 @hT' @hO') Z0 ?_
    refine ⟨⟨k+1,by omega⟩,by simp only;omega,?_⟩
    exact ZL (Z2 @f1 @f2)
 rw [List.take_of_length_le hk]
 have lA2:(s.cons.filter fun f=>sEq f.table table).length≤s.cons.length:=List.length_filter_le _ _
 have lB2:(s.cons.filter fun f=>!sEq f.table table&&sEq f.table other).length≤s.cons.length:=List.length_filter_le _ _
 have eqc:=equalCons_sat (s.cons.filter fun f=>sEq f.table table) ((s.cons.filter fun f=>!sEq f.table table&&sEq f.table other).map (updC table)) (by omega) (by rw [List.length_map];omega)
 obtain ⟨A2,hA2⟩:∃A,(s.cons.filter fun f=>sEq f.table table)=A:=⟨_,rfl⟩
 obtain ⟨B2,hB2⟩:∃B,((s.cons.filter fun f=>!sEq f.table table&&sEq f.table other).map (updC table))=B:=⟨_,rfl⟩
 have hBl2:(s.cons.filter fun f=>!sEq f.table table&&sEq f.table other).length=B2.length:=by rw [←hB2,List.length_map]
 rw [hBl2] at lB2 ⊢
 rw [hA2] at eqc lA2 ⊢
 rw [hB2] at eqc ⊢
 by_cases hAB2:A2=B2
 ·rw [if_neg (by simpa using hAB2)]
  simp only [hAB2,decide_true] at eqc
  rw [hAB2]
  refine ZW Z0 (Z1 (eqc)) ?_
  exact ZQ (Z1 Tryz.results132)
 ·simp only [hAB2,decide_false] at eqc
  rw [if_pos hAB2]
  refine ZW Z0 (Z1 (eqc)) ?_
  exact ZQ (Z1 Tryz.results132)
theorem splitE_cols {s:Sch} {t:Tbl} {st:Stp} (h:splitE s t st=0):st.cols.length≤t.cols.length∧∀c∈st.cols,0≤c∧c<(t.cols.length:Int):=by
 unfold splitE at h
 generalize hp:(fun (k:Nat) (c:Int)=>if c<0∨(t.cols.length:Int)≤c∨(0<(k:Int)∧c≤st.cols.getD ((k:Int) - 1).toNat 0) then some (3:Int) else none)=p at h
 have hn:scan p st.cols 0=none:=by
  cases hs:scan p st.cols 0 with
  | none=>rfl
  | some e =>
   rw [hs] at h
   simp only at h
   exfalso
   have h3:∀(l:List Int) (i:Nat) (e:Int),scan p l i=some e→e≠0:=fun l i e=>scan_ne fun k x e hx=>by
    rw [←hp] at hx
    simp only at hx
    split at hx
    ·simp only [Option.some.injEq] at hx;omega
    ·cases hx
   exact h3 _ _ _ hs h
 have key:∀k (hk:k<st.cols.length),0≤st.cols[k]∧st.cols[k]<(t.cols.length:Int)∧(0<k→st.cols.getD (k - 1) 0<st.cols[k]):=by
  intro k hk
  have h1:=scan_none hn k hk
  rw [Nat.zero_add,←hp] at h1
  simp only at h1
  split at h1
  ·cases h1
  ·rename_i h2
   refine ⟨by omega,by omega,fun h3=>?_⟩
   have:¬ (st.cols[k]≤st.cols.getD ((k:Int) - 1).toNat 0):=fun h4=>h2 (.inr (.inr ⟨by omega,h4⟩))
   rw [show ((k:Int) - 1).toNat=k - 1 by omega] at this
   omega
 have grow:∀k (hk:k<st.cols.length),(k:Int)≤st.cols[k]:=by
  intro k
  induction k with
  | zero=>intro hk;have:=(key 0 hk).1;omega
  | succ k ih =>
   intro hk
   have h1:=ih (by omega)
   have h2:=(key (k+1) hk).2.2 (by omega)
   rw [Nat.add_sub_cancel,List.getD_eq_getElem?_getD,List.getElem?_eq_getElem (by omega),Option.getD_some] at h2
   omega
 refine ⟨?_,fun c hc=>?_⟩
 ·rcases Nat.eq_zero_or_pos st.cols.length with h0|h0
  ·omega
  ·have h1:=grow (st.cols.length - 1) (by omega)
   have h2:=(key (st.cols.length - 1) (by omega)).2.1
   omega
 ·obtain ⟨k,hk,rfl⟩:=List.getElem_of_mem hc
  exact ⟨(key k hk).1,(key k hk).2.1⟩
theorem movedI_bound (n:Nat) (cols:List Int) (c:Int):(n:Int) - 1≤movedI n cols c∧movedI n cols c≤n+cols.length:=by
 unfold movedI
 rcases idx_cases (fun x=>x==c) cols 0 with ⟨e1,_⟩|⟨j,hj,e1,_,_⟩
 ·omega
 ·omega
theorem frzRs_tbl {fr:L→L} {i:Nat} {a b:L} {t:Tbl} (ha:fr a=.sl 1 (t.pk.map eInt1)) (hb:fr b=.sl 3 (t.cols.map eCol)):∀(l:List Tbl) (k:Nat),(∀(_:k≤i) (h:i - k<l.length),l[i - k]=t)→frzRs fr [(i,2,a),(i,1,b)] k (l.map eTblO)=l.map eTbl
 | [],_,_=>rfl
 | x::r,k,h=>by
  rw [List.map_cons,frzRs_cons,frzRs_tbl ha hb r (k+1) fun h1 h2=>by
   have h3:=h (by omega) (by rw [List.length_cons];omega)
   rw [←h3]
   have h4:i - k=(i - (k+1))+1:=by omega
   simp only [h4,List.getElem_cons_succ]]
  congr 1
  by_cases hk:k=i
  ·subst hk
   have h3:=h (Nat.le_refl _) (by rw [List.length_cons];omega)
   simp only [Nat.sub_self,List.getElem_cons_zero] at h3
   subst h3
   simp [eTbl,eTblO,eCols,eInts,frzCs_cons,frzCs_nil,frzO,ovGet,ha,hb,L.frzN]
  ·have hk':¬ i=k:=fun e=>hk e.symm
   simp [eTbl,eTblO,eCols,eInts,frzCs_cons,frzCs_nil,frzO,ovGet,hk,hk',L.frzN]
   exact ⟨fun _ _=>rfl,fun _ _=>rfl⟩
theorem frzRs_tblT {fr:L→L} {i:Nat} {a b:L} {t:Tbl} (l:List Tbl) (hi:i<l.length) (ht:l[i]=t) (ha:fr a=.sl 1 (t.pk.map eInt1)) (hb:fr b=.sl 3 (t.cols.map eCol)):List.take l.length (frzRs fr [(i,2,a),(i,1,b)] 0 (l.map eTblO))=l.map eTbl:=by
 rw [frzRs_tbl ha hb l 0 (fun _ h=>by simpa using ht)]
 exact List.take_of_length_le (by simp)
theorem overlapI_cases (a b:List Int):overlapI a b=0∨overlapI a b=1∨overlapI a b=2:=by
 unfold overlapI
 simp only
 split
 ·exact .inl rfl
 ·split
  ·exact .inr (.inr rfl)
  ·exact .inr (.inl rfl)
theorem splitFK_cols {t:Tbl} {st:Stp} {f:FK} (h:∀c∈f.cols,0≤c∧c≤6) (ht:t.pk.length≤6) (hst:st.cols.length≤6):(splitFK t st f).cols.length=f.cols.length∧∀c∈(splitFK t st f).cols,-1048576≤c∧c≤1048576:=by
 unfold splitFK
 split
 ·refine ⟨by simp,fun c hc=>?_⟩
  simp only [List.mem_map] at hc
  obtain ⟨x,_,rfl⟩:=hc
  have:=movedI_bound t.pk.length st.cols x
  omega
 ·exact ⟨rfl,fun c hc=>by have:=h c hc;omega⟩
theorem splitCon_cols {t:Tbl} {st:Stp} {c:Con} (h:0≤c.left∧c.left≤6∧-1≤c.right∧c.right≤6) (ht:t.pk.length≤6) (hst:st.cols.length≤6):(-1048576≤(splitCon t st c).left∧(splitCon t st c).left≤1048576)∧(splitCon t st c).right≤1048576:=by
 unfold splitCon
 split
 ·have h1:=movedI_bound t.pk.length st.cols c.left
  have h2:=movedI_bound t.pk.length st.cols c.right
  refine ⟨⟨by simp only;omega,by simp only;omega⟩,?_⟩
  simp only
  split<;>omega
 ·omega
theorem split_lens (s:Sch) (i:Nat) (t:Tbl) (st:Stp) (u:Sch) (h:removeC ⟨s.tables,s.fks.map (splitFK t st),s.cons.map (splitCon t st)⟩ i st.cols=u):u.tables.length=s.tables.length∧u.fks.length=s.fks.length∧u.cons.length=s.cons.length:=by
 rw [←h]
 simp [removeC,remapS,setT]
theorem part1_sat (f:FK) (t:Tbl):Sat Tryz.prog 131 [.agg (eFK f),.one (.fz (eTbl t))] (.v (oB (sEq f.ref t.name))):=by
 refine ZE Tryz.func131 Tryz.ntmps131 fun w0 m0 F0=>?_
 refine ZW Z0 Z0 ?_
 all_goals simp -dsimp (disch:=first|exact D|fail) only [retQ,Tryz.results131,resVals,cellRV,resOf,St.rest,St.freeze,RT,go_sem,↓reduceIte,seval]
 all_goals rfl
def partFK (t:Tbl) (st:Stp) (l:List FK):List FK:=(l.filter fun f=>sEq f.table t.name).map fun f=>{f with table:=st.other}
def partCon (t:Tbl) (st:Stp) (l:List Con):List Con:=(l.filter fun c=>sEq c.table t.name).map fun c=>{c with table:=st.other}
theorem partFK_snoc (t:Tbl) (st:Stp) (l:List FK) (k:Nat) (h:k<l.length):partFK t st (l.take (k+1))=partFK t st (l.take k)++(if sEq l[k].table t.name then [{l[k] with table:=st.other}] else []):=by
 rw [List.take_succ_eq_append_getElem h]
 unfold partFK
 rw [List.filter_append,List.map_append]
 congr 1
 cases hx:sEq l[k].table t.name<;>simp [hx]
theorem partCon_snoc (t:Tbl) (st:Stp) (l:List Con) (k:Nat) (h:k<l.length):partCon t st (l.take (k+1))=partCon t st (l.take k)++(if sEq l[k].table t.name then [{l[k] with table:=st.other}] else []):=by
 rw [List.take_succ_eq_append_getElem h]
 unfold partCon
 rw [List.filter_append,List.map_append]
 congr 1
 cases hx:sEq l[k].table t.name<;>simp [hx]
theorem partFK_len (t:Tbl) (st:Stp) (l:List FK):(partFK t st l).length≤l.length:=by
 unfold partFK
 rw [List.length_map]
 exact List.length_filter_le _ _
theorem partCon_len (t:Tbl) (st:Stp) (l:List Con):(partCon t st l).length≤l.length:=by
 unfold partCon
 rw [List.length_map]
 exact List.length_filter_le _ _
end Go.Bw
