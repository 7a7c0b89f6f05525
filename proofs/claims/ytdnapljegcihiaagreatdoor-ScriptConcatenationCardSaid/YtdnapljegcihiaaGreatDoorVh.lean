/-
  WHAT IS PROVED HERE, of this translation: validName_sat, indexCon_sat, col_eq, indexFuncCon_sat, unused1_sat, unused2_sat, deleteTbls_own, kept_le, keptR_len, keptR_get, keptR_drop, keptR_keep, .., rm2_sat, rm3_sat, drop1_sat, concatL_eq, all_snoc, deleteFKs_ownO, join1_sat, join2_sat, dropFK_len, seq_le, joinF_of.
  A theorem that ends in sat says what the function it names returns, whatever the state it is called in; the bounds on its arguments stand ahead of it.
-/
import Derived.Test.YtdnapljegcihiaaGreatDoorVd
import Derived.Test.YtdnapljegcihiaaGreatDoorVe
set_option linter.unusedSimpArgs false
set_option linter.unusedVariables false
namespace Go.Bw
open Go.Proofs
set_option maxHeartbeats 4000000 in
theorem validName_sat (s : ByteArray) : Sat Tryz.prog 90 [oS s] (.v (oB (validName s))) := by
  obtain ⟨⟨bs⟩⟩ := s
  have hsz : (ByteArray.mk (Array.mk bs)).size = bs.length := rfl
  have hdt : (ByteArray.mk (Array.mk bs)).data.toList = bs := rfl
  have e1 : chunks 1 bs.length (bs.map fun b => L.int .u8 (b.toNat : Int)) = bs.map fun b => [L.int .u8 (b.toNat : Int)] := chunks_one _ bs
  unfold validName
  rw [hsz, hdt]
  refine ZE Tryz.func90 Tryz.ntmps90 fun w0 m0 F0 => ?_
  refine ZWp (Z3 @hsz @hdt @e1) Z0 ?_; repeat' (first | apply Zb | apply Zn | (apply Zm; intro h))
  all_goals first
    | (
       refine ZR (Z1 Tryz.results90) ?_
       simp only [digit]
       first
         | (have : bs.length < 1 := by omega
            simp [this]
            done)
         | (have : 12 < bs.length := by omega
            simp [this]
            done)
         | (have h1 : (48 : Int) ≤ ((bs.getD 0 0).toNat : Int) := by omega
            have h2 : ((bs.getD 0 0).toNat : Int) ≤ 57 := by omega
            simp only [h1, h2, decide_true, Bool.and_true, Bool.or_true, Bool.not_true, Bool.false_and]
            done))
    | (have hd : digit (bs.getD 0 0) = false := by
         simp only [digit, Bool.and_eq_false_imp, decide_eq_true_eq, decide_eq_false_iff_not]
         omega
       have hb : ¬ bs.length < 1 := by omega
       have h12 : ¬ 12 < bs.length := by omega
       refine AWP.loop (ι := {k : Nat // k ≤ bs.length ∧ (bs.drop k).all okByte = bs.all okByte}) (fun k => ⟨45, [(24, .v (.one (.sl 1 (bs.map fun b => [L.int .u8 (b.toNat : Int)])))), (25, .v (oI bs.length)), (26, .v (oI k.1))], [], []⟩) (fun k => bs.length - k.1) ⟨0, Nat.zero_le _, rfl⟩ ?_ fun ⟨k, hkl, hi⟩ => ?_
       · exact ZL Z0
       refine ZWp Z0 Z0 ?_; repeat' (first | apply Zb | apply Zn | (apply Zm; intro h))
       all_goals first
         | (have hk : ¬ k < bs.length := by omega
            refine ZR (Z1 Tryz.results90) ?_
            rw [← hi, List.drop_of_length_le (by omega), hd]
            simp [hb, h12]
            done)
         | (have hk : k < bs.length := by omega
            have hstep : (bs.drop k).all okByte = (okByte bs[k] && (bs.drop (k + 1)).all okByte) := by rw [List.drop_eq_getElem_cons hk, List.all_cons]
            first
              | (have hok : okByte bs[k] = true := by
                   simp only [okByte, Bool.not_eq_true', Bool.and_eq_false_imp, Bool.or_eq_true, Bool.or_eq_false_iff, decide_eq_true_eq, decide_eq_false_iff_not]
                   omega
                 refine ⟨⟨k + 1, by omega, by rw [← hi, hstep, hok]; rfl⟩, by simp only; omega, ?_⟩
                 exact ZL Z0
                 done)
              | (have hok : okByte bs[k] = false := by
                   simp only [okByte, Bool.not_eq_false', Bool.and_eq_true, Bool.or_eq_true, decide_eq_true_eq]
                   omega
                 refine ZR (Z1 Tryz.results90) ?_
                 rw [← hi, hstep, hok]
                 simp)))

set_option maxHeartbeats 4000000 in
theorem indexCon_sat (l : List Con) (c : Con) (hlen : l.length ≤ 140737488355328) :
    Sat Tryz.prog 96 [.one (eCons l), .agg (eCon c)] (.v (oI (idx (conEq c) l 0))) := by
  refine ZE Tryz.func96 Tryz.ntmps96 fun w0 m0 F0 => ?_
  refine ZW Z0 Z0 ?_
  refine AWP.loop (ι := {k : Nat // k ≤ l.length ∧ idx (conEq c) (l.drop k) k = idx (conEq c) l 0}) (fun k => ⟨19, [(0, .v (.one (eCons l))), (3, .v (.one (.ptr 3 0))), (7, .v (oI l.length)), (8, .v (oI k.1))], [(3, eCon c)], []⟩) (fun k => l.length - k.1) ⟨0, Nat.zero_le _, rfl⟩ ?_ fun ⟨k, hkl, hi⟩ => ?_
  · exact ZL Z0
  refine ZWpy Z0 Z0 ?_; repeat' (first | apply Zb | apply Zn | (apply Zm; intro h))
  all_goals first
    | (have hk : ¬ k < l.length := by omega
       refine ZR (Z1 Tryz.results96) ?_
       rw [← hi, idx_end hk]
       done)
    | (have hk : k < l.length := by omega
       have he : conEq c l[k] = true := by simp_all [conEq, sEq]
       refine ZR (Z1 Tryz.results96) ?_
       rw [← hi, idx_hit hk he]
       done)
    | (have hk : k < l.length := by omega
       have he : conEq c l[k] = false := by simp_all [conEq, sEq]
       refine ⟨⟨k + 1, by omega, by rw [idx_step hk he, hi]⟩, by simp only; omega, ?_⟩
       exact ZL Z0
       )

theorem col_eq {a b:Col}:a=b↔a.name.toList=b.name.toList∧a.kind=b.kind∧a.nullable=b.nullable:=by
 constructor
 ·rintro rfl;exact ⟨rfl,rfl,rfl⟩
 ·rintro ⟨h1,h2,h3⟩
  cases a;cases b
  simp only at h1 h2 h3
  rw [toList_inj h1,h2,h3]
structure Stp.Fits (s:Stp):Prop where
 cols:s.cols.length * 8≤140737488355328
 ncols:s.newTable.cols.length * 32≤140737488355328
 npk:s.newTable.pk.length * 8≤140737488355328
 fk:s.fk.cols.length * 8≤140737488355328
set_option maxHeartbeats 4000000 in
theorem indexFuncCon_sat (l : List Con) (f : Nat) (cs : List L) (p : Con → Bool) (hlen : l.length ≤ 140737488355328) (hp : ∀ t ∈ l, Sat Tryz.prog f (.agg (eCon t) :: cs.map .one) (.v (oB (p t)))) :
    Sat Tryz.prog 196 [.one (eCons l), .one (.clo f cs)] (.v (oI (idx p l 0))) := by
  refine ZE Tryz.func196 Tryz.ntmps196 fun w0 m0 F0 => ?_
  refine ZW Z0 Z0 ?_
  refine AWP.loop (ι := {k : Nat // k ≤ l.length ∧ idx p (l.drop k) k = idx p l 0}) (fun k => ⟨19, [(0, .v (.one (eCons l))), (1, .v (.one (.clo f cs))), (7, .v (oI l.length)), (8, .v (oI k.1))], [], []⟩) (fun k => l.length - k.1) ⟨0, Nat.zero_le _, rfl⟩ ?_ fun ⟨k, hkl, hi⟩ => ?_
  · exact ZL Z0
  repeat' (first | ((first | with_reducible refine qV tyOk fun K hK => ?_ | ((with_reducible refine CallJ.is ?_); (refine CallJ.pure (hp _ (List.getElem_mem (by omega))) ?_))) <;> simp -dsimp (disch := first | exact D | fail) only [go_sem, ↓reduceIte, seval]) | ((with_reducible refine hK _ ?_); clear hK K) | refine Q1 ?_ | ((with_reducible refine qW (T := TT) (b := ?_) ?_ ?_); rotate_left; exact rfl) | ((with_reducible refine yS ?_ ?_) <;> (intro h; try simp only [NM] at h)) | fail)
  all_goals first
    | (have hk : ¬ k < l.length := by omega
       refine ZR (Z1 Tryz.results196) ?_
       rw [← hi, idx_end hk]
       done)
    | (
       refine ZR (Z1 Tryz.results196) ?_
       rw [← hi, idx_hit _ ‹_›])
    | (refine ⟨⟨k + 1, by omega, by rw [idx_step _ ‹_›, hi]⟩, by simp only; omega, ?_⟩
       exact ZL Z0
       )
theorem unused1_sat (f:FK) (t:Tbl) (c:Int) (hl:f.cols.length≤140737488355328):Sat Tryz.prog 166 [.agg (eFK f),.one (.fz (eTbl t)),.one (.fz [.int .i64 c])] (.v (oB (sEq f.table t.name&&f.cols.elem c))):=by
 refine ZE Tryz.func166 Tryz.ntmps166 fun w0 m0 F0=>?_
 refine ZWp Z0 (Z1 (containsInt_sat f.cols c hl)) ?_;repeat' (first|apply Zb|apply Zn|(apply Zm;intro h))
 all_goals simp -dsimp (disch:=first|exact D|fail) only [retQ,Tryz.results166,resVals,cellRV,resOf,St.rest,St.freeze,RT,go_sem,↓reduceIte,seval]
 all_goals simp_all [sEq]
theorem unused2_sat (k:Con) (t:Tbl) (c:Int):Sat Tryz.prog 168 [.agg (eCon k),.one (.fz (eTbl t)),.one (.fz [.int .i64 c])] (.v (oB (sEq k.table t.name&&(k.left==c||k.right==c)))):=by
 refine ZE Tryz.func168 Tryz.ntmps168 fun w0 m0 F0=>?_
 refine ZWp Z0 Z0 ?_;repeat' (first|apply Zb|apply Zn|(apply Zm;intro h))
 all_goals simp -dsimp (disch:=first|exact D|fail) only [retQ,Tryz.results168,resVals,cellRV,resOf,St.rest,St.freeze,RT,go_sem,↓reduceIte,seval]
 all_goals simp_all [sEq]
set_option maxHeartbeats 8000000 in
theorem deleteTbls_own (xs:List (List L)) (k:Nat) (hk:k<xs.length) (h1:xs.length≤1099511627776) (hno:noOwn xs):SatM Tryz.prog 120 [.one (.ref 1000 0 xs.length),oI k,oI ((k:Int)+1)] [] [(1000,⟨3,xs,[]⟩)] (.v (.one (.ref 6 0 (xs.length - 1)))) [] [(6,⟨3,xs.take k++xs.drop (k+1)++[[.str ByteArray.empty,.sl 3 [],.sl 1 []]],[]⟩)]:=by
 have w1:((k:Int)+1).toNat=k+1:=by omega
 refine ZM [] [6] Tryz.func120 Tryz.ntmps120 fun w0 m0 F0=>?_
 refine ZW (Z1 @w1) Z0 ?_;repeat' (first|apply Zb|apply Zn|(apply Zk;intro K hK))
 refine AWP.drawT tyOk mixed 6 8 (by kernel_rfl) rfl rfl fun K hK=>?_
 refine ZU (Z1 @w1) ?_
 refine ZW Z0 Z0 ?_;repeat' (first|apply Zb|apply Zn|(apply Zk;intro K hK))
 intro K hK
 refine ZU (Z1 @w1) ?_
 refine ZW (Z1 @w1) Z0 ?_;repeat' (first|apply Zb|apply Zn|(apply Zk;intro K hK))
 have e1:k - 0+(xs.length - (k+1))=xs.length - 1:=by omega
 have e2:xs.length - (xs.length - 1)=1:=by omega
 have e3:(xs.take (k - 0)++xs.drop (k+1)++xs.drop (xs.length - 1)).take (xs.length - 1)=xs.take k++xs.drop (k+1):=List.take_left' (by simp;omega)
 have e4:(xs.take (k - 0)++xs.drop (k+1)++xs.drop (xs.length - 1)).drop (xs.length - 1+1)=[]:=List.drop_of_length_le (by simp;omega)
 simp only [e1,e2,e3,e4,List.replicate_succ,List.replicate_zero,List.append_nil]
 exact ZQ (Z1 Tryz.results120)
theorem kept_le {α:Type} (p:α→Bool) (l:List α) (j:Nat) (h:j≤l.length):((l.take j).filter fun x=>!p x).length≤j:=Nat.le_trans (List.length_filter_le _ _) (by simp;omega)
theorem keptR_len {α:Type} (e:α→List L) (p:α→Bool) (l:List α) (j:Nat) (h:j≤l.length):(keptR e p l j).length=l.length:=by
 have:=kept_le p l j h
 simp only [keptR,List.length_map,List.length_append,List.length_drop]
 omega
theorem keptR_get {α:Type} (e:α→List L) (p:α→Bool) (l:List α) (j:Nat) (h:j<l.length):(keptR e p l j).getD j []=e l[j]:=by
 have:=kept_le p l j (by omega)
 rw [keptR,List.getD_eq_getElem?_getD,List.getElem?_map,List.getElem?_append_right (by omega),List.getElem?_drop]
 rw [show ((l.take j).filter fun x=>!p x).length+(j - ((l.take j).filter fun x=>!p x).length)=j by omega,List.getElem?_eq_getElem h]
 rfl
theorem keptR_drop {α:Type} (e:α→List L) (p:α→Bool) (l:List α) (j:Nat) (h:j<l.length) (hp:p l[j]=true):keptR e p l (j+1)=keptR e p l j:=by
 unfold keptR
 rw [take_snoc l j h,List.filter_append]
 simp [hp]
theorem keptR_keep {α:Type} (e:α→List L) (p:α→Bool) (l:List α) (j:Nat) (h:j<l.length) (hp:p l[j]=false):(keptR e p l j).set ((l.take j).filter fun x=>!p x).length (e l[j])=keptR e p l (j+1):=by
 have hle:=kept_le p l j (by omega)
 have hk:((l.take (j+1)).filter fun x=>!p x)=((l.take j).filter fun x=>!p x)++[l[j]]:=by
  rw [take_snoc l j h,List.filter_append]
  simp [hp]
 unfold keptR
 rw [hk,←List.map_set,List.set_append_right _ _ (Nat.le_refl _),Nat.sub_self,List.drop_eq_getElem_cons (show ((l.take j).filter fun x=>!p x).length<l.length by omega),List.set_cons_zero,List.length_append]
 simp
theorem kept_keep_len {α:Type} (p:α→Bool) (l:List α) (j:Nat) (h:j<l.length) (hp:p l[j]=false):((l.take (j+1)).filter fun x=>!p x).length=((l.take j).filter fun x=>!p x).length+1:=by
 rw [take_snoc l j h,List.filter_append]
 simp [hp]
theorem kept_drop_len {α:Type} (p:α→Bool) (l:List α) (j:Nat) (h:j<l.length) (hp:p l[j]=true):((l.take (j+1)).filter fun x=>!p x).length=((l.take j).filter fun x=>!p x).length:=by
 rw [take_snoc l j h,List.filter_append]
 simp [hp]
theorem kept_setL {α:Type} (e:α→List L) (sz:Nat) (he:∀x,(e x).length=sz) (p:α→Bool) (l:List α) (j:Nat) (h:j<l.length) (x:α):setL 0 (e x) ((keptR e p l j).getD ((l.take j).filter fun x=>!p x).length [])=e x:=by
 refine setL_all' _ _ ?_
 have hle:=kept_le p l j (by omega)
 have hl:=keptR_len e p l j (by omega)
 rw [he,List.getD_eq_getElem?_getD,List.getElem?_eq_getElem (by omega),Option.getD_some]
 unfold keptR
 rw [List.getElem_map,he]
theorem kept_first {α:Type} (p:α→Bool) (l:List α) {j:Nat} (hj:j<l.length) (h1:p l[j]=true) (h2:∀i,∀hi:i<j,p (l[i]'(by omega))=false):((l.take (j+1)).filter fun x=>!p x)=l.take j:=by
 rw [take_snoc l j hj,List.filter_append]
 simp only [List.filter_cons,h1,Bool.not_true,Bool.false_eq_true,if_false,List.filter_nil,List.append_nil]
 refine List.filter_eq_self.2 fun x hx=>?_
 obtain ⟨i,hi,rfl⟩:=List.mem_take_iff_getElem.1 hx
 simp [h2 i (by omega)]
set_option maxHeartbeats 16000000 in
theorem deleteFuncTbls_satM (l:List Tbl) (f:FuncId) (q:L) (p:Tbl→Bool) (hp:∀x∈l,Sat Tryz.prog f [.agg (eTbl x),.one (.fz [q])] (.v (oB (p x)))) (hl:l.length≤1048576) :
  SatM Tryz.prog 160 [.one (.ref 1000 0 l.length),.one (.clo f [.fz [q]])] [] [(1000,⟨3,l.map eTbl,[]⟩)] (.v (.one (.ref 4 0 (l.filter fun x=>!p x).length))) [] [(4,⟨3,(l.filter fun x=>!p x).map eTbl++List.replicate (l.length - (l.filter fun x=>!p x).length) zTbls,[]⟩)]:=by
 have ci:=indexFuncTbl_sat l f [.fz [q]] p (by omega) hp
 rcases idx_cases p l 0 with ⟨e1,e2⟩|⟨j0,hj0,e1,e2,e3⟩
 ·rw [e1] at ci
  have ef:(l.filter fun x=>!p x)=l:=List.filter_eq_self.2 fun x hx=>by simp [e2 x hx]
  rw [ef,Nat.sub_self,List.replicate_zero,List.append_nil]
  refine ZM [] [4] Tryz.func160 Tryz.ntmps160 fun w0 m0 F0=>?_
  refine ZW Z0 (Z1 (ci)) ?_
  all_goals simp -dsimp (disch:=first|exact D|fail) only [retQ,Tryz.results160,resVals,cellRV,resOf,St.rest,St.freeze,RT,go_sem,↓reduceIte,seval]
 have e1:idx p l 0=(j0:Int):=by simpa using e1
 rw [e1] at ci
 have k0:=kept_first p l hj0 e2 e3
 have l0:((l.take (j0+1)).filter fun x=>!p x).length=j0:=by rw [k0];simp;omega
 have r0:keptR eTbl p l (j0+1)=l.map eTbl:=by
  unfold keptR
  rw [k0,List.length_take,Nat.min_eq_left (by omega),List.take_append_drop]
 have hne:¬ (j0:Int)=-1:=by omega
 refine ZM [] [4] Tryz.func160 Tryz.ntmps160 fun w0 m0 F0=>?_
 refine ZW (Z1 @hne) (Z1 (ci)) ?_
 refine AWP.loop (ι:={j:Nat // j0+1≤j∧j≤l.length}) (fun j=>⟨42,[(0,.v (.one (.ref 1000 0 l.length))),(1,.v (.one (.clo f [.fz [q]]))),(5,.v (oI ((l.take j.1).filter fun x=>!p x).length)),(6,.v (oI j.1))],[],[(1000,⟨3,keptR eTbl p l j.1,[]⟩)]⟩) (fun j=>l.length - j.1) ⟨j0+1,Nat.le_refl _,hj0⟩ ?_ fun ⟨j,hj1,hj2⟩=>?_
 ·exact ZL (Z4 @r0 @l0 @Int.natCast_add @Int.natCast_one)
 simp only at hj1 hj2 ⊢
 have kl:=kept_le p l j hj2
 have kn:=keptR_len eTbl p l j hj2
 rcases Nat.lt_or_ge j l.length with hc|hc
 ·have kg:=keptR_get eTbl p l j hc
  have cc:=hp l[j] (List.getElem_mem hc)
  cases hx:p l[j] with
  | true =>
   rw [hx] at cc
   have q1:=keptR_drop eTbl p l j hc hx
   have q2:=kept_drop_len p l j hc hx
   refine ZW (Z2 @kn @kg) (Z1 (cc)) ?_
   refine ⟨⟨j+1,by omega,by omega⟩,by simp only;omega,?_⟩
   exact ZL (Z4 @q1 @q2 @Int.natCast_add @Int.natCast_one)
  | false =>
   rw [hx] at cc
   have q1:=keptR_keep eTbl p l j hc hx
   have q2:=kept_keep_len p l j hc hx
   have q3:=kept_setL eTbl 3 (fun _=>rfl) p l j hc l[j]
   simp only [eTbl,eCols,eInts] at q1 q3
   refine ZW (Z3 @kn @kg @q3) (Z1 (cc)) ?_
   refine ⟨⟨j+1,by omega,by omega⟩,by simp only;omega,?_⟩
   exact ZL (Z4 @q1 @q2 @Int.natCast_add @Int.natCast_one)
 ·have hj:j=l.length:=by omega
  subst hj
  have kf:keptR eTbl p l l.length=(l.filter fun x=>!p x).map eTbl++(l.drop (l.filter fun x=>!p x).length).map eTbl:=by
   unfold keptR
   rw [List.take_length,List.map_append]
  rw [List.take_length] at kl ⊢
  have t1:List.take (l.filter fun x=>!p x).length ((l.filter fun x=>!p x).map eTbl++(l.drop (l.filter fun x=>!p x).length).map eTbl)=(l.filter fun x=>!p x).map eTbl:=List.take_left' (by simp)
  have t2:List.drop ((l.filter fun x=>!p x).length+(l.length - (l.filter fun x=>!p x).length)) ((l.filter fun x=>!p x).map eTbl++(l.drop (l.filter fun x=>!p x).length).map eTbl)=[]:=List.drop_of_length_le (by simp)
  refine ZW (Z1 @kn) Z0 ?_
  all_goals simp -dsimp (disch:=first|exact D|fail) only [retQ,Tryz.results160,resVals,cellRV,resOf,St.rest,St.freeze,RT,go_sem,↓reduceIte,seval]
  rw [kf]
  simp only [Nat.sub_zero,t1,t2,List.append_nil]
  exact ⟨trivial,rfl⟩
set_option maxHeartbeats 16000000 in
theorem deleteFuncCons_satM (l:List Con) (f:FuncId) (q:L) (p:Con→Bool) (hp:∀x∈l,Sat Tryz.prog f [.agg (eCon x),.one (.fz [q])] (.v (oB (p x)))) (hl:l.length≤1048576) :
  SatM Tryz.prog 164 [.one (.ref 1000 0 l.length),.one (.clo f [.fz [q]])] [] [(1000,⟨7,l.map eCon,[]⟩)] (.v (.one (.ref 4 0 (l.filter fun x=>!p x).length))) [] [(4,⟨7,(l.filter fun x=>!p x).map eCon++List.replicate (l.length - (l.filter fun x=>!p x).length) zCons,[]⟩)]:=by
 have ci:=indexFuncCon_sat l f [.fz [q]] p (by omega) hp
 rcases idx_cases p l 0 with ⟨e1,e2⟩|⟨j0,hj0,e1,e2,e3⟩
 ·rw [e1] at ci
  have ef:(l.filter fun x=>!p x)=l:=List.filter_eq_self.2 fun x hx=>by simp [e2 x hx]
  rw [ef,Nat.sub_self,List.replicate_zero,List.append_nil]
  refine ZM [] [4] Tryz.func164 Tryz.ntmps164 fun w0 m0 F0=>?_
  refine ZW Z0 (Z1 (ci)) ?_
  all_goals simp -dsimp (disch:=first|exact D|fail) only [retQ,Tryz.results164,resVals,cellRV,resOf,St.rest,St.freeze,RT,go_sem,↓reduceIte,seval]
 have e1:idx p l 0=(j0:Int):=by simpa using e1
 rw [e1] at ci
 have k0:=kept_first p l hj0 e2 e3
 have l0:((l.take (j0+1)).filter fun x=>!p x).length=j0:=by rw [k0];simp;omega
 have r0:keptR eCon p l (j0+1)=l.map eCon:=by
  unfold keptR
  rw [k0,List.length_take,Nat.min_eq_left (by omega),List.take_append_drop]
 have hne:¬ (j0:Int)=-1:=by omega
 refine ZM [] [4] Tryz.func164 Tryz.ntmps164 fun w0 m0 F0=>?_
 refine ZW (Z1 @hne) (Z1 (ci)) ?_
 refine AWP.loop (ι:={j:Nat // j0+1≤j∧j≤l.length}) (fun j=>⟨42,[(0,.v (.one (.ref 1000 0 l.length))),(1,.v (.one (.clo f [.fz [q]]))),(5,.v (oI ((l.take j.1).filter fun x=>!p x).length)),(6,.v (oI j.1))],[],[(1000,⟨7,keptR eCon p l j.1,[]⟩)]⟩) (fun j=>l.length - j.1) ⟨j0+1,Nat.le_refl _,hj0⟩ ?_ fun ⟨j,hj1,hj2⟩=>?_
 ·exact ZL (Z4 @r0 @l0 @Int.natCast_add @Int.natCast_one)
 simp only at hj1 hj2 ⊢
 have kl:=kept_le p l j hj2
 have kn:=keptR_len eCon p l j hj2
 rcases Nat.lt_or_ge j l.length with hc|hc
 ·have kg:=keptR_get eCon p l j hc
  have cc:=hp l[j] (List.getElem_mem hc)
  cases hx:p l[j] with
  | true =>
   rw [hx] at cc
   have q1:=keptR_drop eCon p l j hc hx
   have q2:=kept_drop_len p l j hc hx
   refine ZW (Z2 @kn @kg) (Z1 (cc)) ?_
   refine ⟨⟨j+1,by omega,by omega⟩,by simp only;omega,?_⟩
   exact ZL (Z4 @q1 @q2 @Int.natCast_add @Int.natCast_one)
  | false =>
   rw [hx] at cc
   have q1:=keptR_keep eCon p l j hc hx
   have q2:=kept_keep_len p l j hc hx
   have q3:=kept_setL eCon 7 (fun _=>rfl) p l j hc l[j]
   simp only [eCon,eCols,eInts] at q1 q3
   refine ZW (Z3 @kn @kg @q3) (Z1 (cc)) ?_
   refine ⟨⟨j+1,by omega,by omega⟩,by simp only;omega,?_⟩
   exact ZL (Z4 @q1 @q2 @Int.natCast_add @Int.natCast_one)
 ·have hj:j=l.length:=by omega
  subst hj
  have kf:keptR eCon p l l.length=(l.filter fun x=>!p x).map eCon++(l.drop (l.filter fun x=>!p x).length).map eCon:=by
   unfold keptR
   rw [List.take_length,List.map_append]
  rw [List.take_length] at kl ⊢
  have t1:List.take (l.filter fun x=>!p x).length ((l.filter fun x=>!p x).map eCon++(l.drop (l.filter fun x=>!p x).length).map eCon)=(l.filter fun x=>!p x).map eCon:=List.take_left' (by simp)
  have t2:List.drop ((l.filter fun x=>!p x).length+(l.length - (l.filter fun x=>!p x).length)) ((l.filter fun x=>!p x).map eCon++(l.drop (l.filter fun x=>!p x).length).map eCon)=[]:=List.drop_of_length_le (by simp)
  refine ZW (Z1 @kn) Z0 ?_
  all_goals simp -dsimp (disch:=first|exact D|fail) only [retQ,Tryz.results164,resVals,cellRV,resOf,St.rest,St.freeze,RT,go_sem,↓reduceIte,seval]
  rw [kf]
  simp only [Nat.sub_zero,t1,t2,List.append_nil]
  exact ⟨trivial,rfl⟩
theorem rm1_sat (t:Tbl) (name:ByteArray):Sat Tryz.prog 161 [.agg (eTbl t),.one (.fz [.str name])] (.v (oB (sEq t.name name))):=by
 refine ZE Tryz.func161 Tryz.ntmps161 fun w0 m0 F0=>?_
 refine ZW Z0 Z0 ?_
 refine ZR (Z1 Tryz.results161) ?_
 rfl
theorem rm2_sat (t:FK) (name:ByteArray):Sat Tryz.prog 163 [.agg (eFK t),.one (.fz [.str name])] (.v (oB (sEq t.table name))):=by
 refine ZE Tryz.func163 Tryz.ntmps163 fun w0 m0 F0=>?_
 refine ZW Z0 Z0 ?_
 refine ZR (Z1 Tryz.results163) ?_
 rfl
theorem rm3_sat (t:Con) (name:ByteArray):Sat Tryz.prog 165 [.agg (eCon t),.one (.fz [.str name])] (.v (oB (sEq t.table name))):=by
 refine ZE Tryz.func165 Tryz.ntmps165 fun w0 m0 F0=>?_
 refine ZW Z0 Z0 ?_
 refine ZR (Z1 Tryz.results165) ?_
 rfl
theorem drop1_sat (t:FK) (name:ByteArray):Sat Tryz.prog 134 [.agg (eFK t),.one (.fz [.str name])] (.v (oB (sEq t.ref name&&!sEq t.table name))):=by
 refine ZE Tryz.func134 Tryz.ntmps134 fun w0 m0 F0=>?_
 refine ZWp Z0 Z0 ?_;repeat' (first|apply Zb|apply Zn|(apply Zm;intro h))
 all_goals simp -dsimp (disch:=first|exact D|fail) only [retQ,Tryz.results134,resVals,cellRV,resOf,St.rest,St.freeze,RT,go_sem,↓reduceIte,seval]
 all_goals simp_all [sEq]
def colOf (t:Tbl) (c:Int):Col:=t.cols.getD c.toNat zCol
def concatL (s:Sch) (i:Nat) (st:Stp):Res :=
 let t:=tAt s i
 if st.cols.length≠2 then .error 3
 else if st.cols.getD 0 0<0∨st.cols.getD 1 0≤st.cols.getD 0 0∨(t.cols.length:Int)≤st.cols.getD 1 0 then .error 3
 else if st.cols.any fun c=>!((colOf t c).kind==3) then .error 7
 else match st.cols.find? fun c=>!(unusedE s t c==0) with
  | some c=>.error (unusedE s t c)
  | none=>.ok (setT (removeC s i st.cols) i {tAt (removeC s i st.cols) i with cols:=(tAt (removeC s i st.cols) i).cols++[⟨st.column,3,st.cols.all fun c=>(colOf t c).nullable⟩]})
theorem concatL_eq (s:Sch) (i:Nat) (st:Stp):concatC s i st=concatL s i st:=by
 unfold concatC concatL
 obtain ⟨cols,hcols⟩:∃cols,st.cols=cols:=⟨_,rfl⟩
 rw [hcols]
 match cols with
 | []=>simp
 | [a]=>simp
 | a::b::c::r=>simp
 | [a,b] =>
  simp only [List.length_cons,List.length_nil,Nat.reduceAdd,ne_eq,not_true_eq_false,if_false,List.getD_cons_zero,List.getD_cons_succ,List.any_cons,List.any_nil,Bool.or_false,List.all_cons,List.all_nil,Bool.and_true,List.find?_cons,List.find?_nil,colOf]
  split
  ·rfl
  ·generalize (tAt s i).cols.getD a.toNat zCol=x
   generalize (tAt s i).cols.getD b.toNat zCol=y
   generalize tAt s i=t
   cases u1:unusedE s t a==0 with
   | false =>
    have v1:¬ unusedE s t a=0:=by simpa using u1
    by_cases h1:x.kind=3<;>by_cases h2:y.kind=3<;>simp [h1,h2,v1]
   | true =>
    have v1:unusedE s t a=0:=by simpa using u1
    cases u2:unusedE s t b==0 with
    | false =>
     have v2:¬ unusedE s t b=0:=by simpa using u2
     by_cases h1:x.kind=3<;>by_cases h2:y.kind=3<;>simp [h1,h2,v1,v2]
    | true =>
     have v2:unusedE s t b=0:=by simpa using u2
     by_cases h1:x.kind=3<;>by_cases h2:y.kind=3<;>simp [h1,h2,v1,v2]
theorem all_snoc {α:Type} (p:α→Bool) (l:List α) (k:Nat) (h:k<l.length):(l.take (k+1)).all p=((l.take k).all p&&p l[k]):=by
 rw [take_snoc l k h,List.all_append]
 simp
def renFK (old name:ByteArray) (f:FK):FK:={f with table:=ren old name f.table,ref:=ren old name f.ref}
def renCon (old name:ByteArray) (c:Con):Con:={c with table:=ren old name c.table}
set_option maxHeartbeats 8000000 in
theorem deleteFKs_ownO (xs:List (List L)) (k:Nat) (hk:k<xs.length) (h1:xs.length≤1099511627776):SatM Tryz.prog 118 [.one (.ref 1000 0 xs.length),oI k,oI ((k:Int)+1)] [] [(1000,⟨3,xs,[]⟩)] (.v (.one (.ref 6 0 (xs.length - 1)))) [] [(6,⟨3,xs.take k++xs.drop (k+1)++[[.str ByteArray.empty,.sl 1 [],.str ByteArray.empty]],[]⟩)]:=by
 have w1:((k:Int)+1).toNat=k+1:=by omega
 refine ZM [] [6] Tryz.func118 Tryz.ntmps118 fun w0 m0 F0=>?_
 refine ZVo (Z3 @w1 @peekXs_len @appOK_rr) Z0 (Z1 (Zd 5 [(0,6)] [(6,[],[]),(7,[],[])] [6,7] 8)) Z0 ?_;repeat' (first|apply Zb|apply Zn)
 have e1:k - 0+(xs.length - (k+1))=xs.length - 1:=by omega
 have e2:xs.length - (xs.length - 1)=1:=by omega
 have e3:(xs.take (k - 0)++xs.drop (k+1)++peekXs (xs.drop (xs.length - 1))).take (xs.length - 1)=xs.take k++xs.drop (k+1):=List.take_left' (by simp;omega)
 have e4:(xs.take (k - 0)++xs.drop (k+1)++peekXs (xs.drop (xs.length - 1))).drop (xs.length - 1+1)=[]:=List.drop_of_length_le (by simp [peekXs];omega)
 simp only [e1,e2,e3,e4,List.replicate_succ,List.replicate_zero,List.append_nil]
 exact ZQ (Z1 Tryz.results118)
theorem join1_sat (t:FK) (name:ByteArray):Sat Tryz.prog 128 [.agg (eFK t),.one (.fz [.str name])] (.v (oB (sEq t.ref name))):=by
 refine ZE Tryz.func128 Tryz.ntmps128 fun w0 m0 F0=>?_
 refine ZW Z0 Z0 ?_
 all_goals simp -dsimp (disch:=first|exact D|fail) only [retQ,Tryz.results128,resVals,cellRV,resOf,St.rest,St.freeze,RT,go_sem,↓reduceIte,seval]
 all_goals rfl
theorem join2_sat (t:Tbl) (x:L) (c:Int) (h0:0≤c) (h1:c≤1048576) (h2:t.cols.length≤1048576) (h3:t.pk.length≤1048576):MapsAt Tryz.prog 130 ([[.int .i64 (t.pk.length:Int)],[.str t.name,x,.sl 1 (t.pk.map eInt1)],[.int .i64 (t.cols.length:Int)]].map L.fz) (joinG t) c:=by
 unfold MapsAt
 simp only [List.map_cons,List.map_nil]
 rcases Int.lt_or_le c (t.pk.length:Int) with hc|hc
 ·obtain ⟨q,rfl⟩:∃q:Nat,c=(q:Int):=⟨c.toNat,by omega⟩
  have hq:q<t.pk.length:=by omega
  have gp:(t.pk.map eInt1).getD q []=[.int .i64 (t.pk.getD q 0)]:=by rw [getD_map_lt _ _ _ hq,getD_lt _ hq];rfl
  have spec:joinG t (q:Int)=t.pk.getD q 0:=by unfold joinG;rw [if_pos hc,Int.toNat_natCast]
  rw [spec]
  refine ZE Tryz.func130 Tryz.ntmps130 fun w0 m0 F0=>?_
  refine ZW (Z1 @gp) Z0 ?_
  exact ZQ (Z1 Tryz.results130)
 ·have spec:joinG t c=(t.cols.length:Int)+c - t.pk.length:=by unfold joinG;rw [if_neg (by omega)]
  rw [spec]
  refine ZE Tryz.func130 Tryz.ntmps130 fun w0 m0 F0=>?_
  refine ZW Z0 Z0 ?_
  exact ZQ (Z1 Tryz.results130)
def joinK (t o:Tbl) (k:Nat) (c:Int):Option Int:=if (t.cols.getD c.toNat zCol).kind≠(o.cols.getD k zCol).kind then some 9 else none
def joinS (s1:Sch) (i j:Nat) (t o:Tbl) (name:ByteArray):Sch :=
 let s2:=remapS s1 name (joinG t)
 ⟨let ts:=s2.tables.set i {t with cols:=t.cols++o.cols.drop t.pk.length};ts.take j++ts.drop (j+1),
  s2.fks.map fun f=>{f with table:=ren name t.name f.table},s2.cons.map fun c=>{c with table:=ren name t.name c.table}⟩
def joinR (s:Sch) (i j:Nat) (t o:Tbl) (name:ByteArray):Res :=
 match scan (joinK t o) t.pk 0 with
 | some e=>.error e
 | none=>match dropFK s ⟨name,seqI t.pk.length,t.name⟩ with
  | .error _=>.error 10
  | .ok s1=>if s1.fks.any fun f=>sEq f.ref name then .error 10 else .ok (joinS s1 i j t o name)
theorem dropFK_len {s s1:Sch} {f:FK} (h:dropFK s f=.ok s1):s1.fks.length≤s.fks.length:=by
 unfold dropFK at h
 simp only at h
 split at h
 ·cases h
 ·injection h with h
  subst h
  simp
  omega
theorem seq_le {o:Tbl} {n:Nat} (h:PkOk o) (he:o.pk=seqI n):n≤o.cols.length:=by
 rcases Nat.eq_zero_or_pos n with h0|h0
 ·omega
 ·have:=(h ((n - 1:Nat):Int) (by rw [he];unfold seqI;exact List.mem_map.2 ⟨n - 1,List.mem_range.2 (by omega),rfl⟩)).2
  omega
def joinFK (name tn:ByteArray) (f:FK):FK:={f with table:=ren name tn f.table}
def joinCon (name tn:ByteArray) (c:Con):Con:={c with table:=ren name tn c.table}
structure JoinF (s:Sch) (i:Nat) (name:ByteArray) (R:Sch) (j q:Nat):Prop where
 hj:j<s.tables.length
 hq:q<s.fks.length
 at':tblAt s.tables name=(j:Int)
 ne:i≠j
 pk:(tAt s j).pk=seqI (tAt s i).pk.length
 kinds:scan (joinK (tAt s i) (tAt s j)) (tAt s i).pk 0=none
 fk:idx (fun o=>fkEq o ⟨name,seqI (tAt s i).pk.length,(tAt s i).name⟩) s.fks 0=(q:Int)
 free:((s.fks.take q++s.fks.drop (q+1)).any fun f=>sEq f.ref name)=false
 res:R=joinS {s with fks:=s.fks.take q++s.fks.drop (q+1)} i j (tAt s i) (tAt s j) name
theorem joinF_of {s:Sch} {i:Nat} {name:ByteArray} {R:Sch} (h:joinT s i name=.ok R):∃j q,JoinF s i name R j q:=by
 unfold joinT at h
 rcases idx_cases (fun u=>sEq u.name name) s.tables 0 with ⟨e1,_⟩|⟨j,hj,e1,_,_⟩
 ·have e1:tblAt s.tables name=-1:=e1
  simp only [e1] at h
  rw [if_pos (by omega)] at h
  cases h
 have e1:tblAt s.tables name=(j:Int):=by unfold tblAt;simpa using e1
 simp only [e1,Int.toNat_natCast] at h
 rw [if_neg (by omega)] at h
 by_cases hc:(i:Int)=(j:Int)∨(tAt s j).pk≠seqI (tAt s i).pk.length
 ·rw [if_pos hc] at h
  cases h
 rw [if_neg hc] at h
 have hc1:i≠j:=fun e=>hc (.inl (by omega))
 have hc2:(tAt s j).pk=seqI (tAt s i).pk.length:=Decidable.byContradiction fun e=>hc (.inr e)
 have h:joinR s i j (tAt s i) (tAt s j) name=.ok R:=h
 unfold joinR at h
 cases hs:scan (joinK (tAt s i) (tAt s j)) (tAt s i).pk 0 with
 | some e=>rw [hs] at h;cases h
 | none =>
  rw [hs] at h
  simp only at h
  unfold dropFK at h
  simp only at h
  rcases idx_cases (fun o=>fkEq o ⟨name,seqI (tAt s i).pk.length,(tAt s i).name⟩) s.fks 0 with ⟨e2,_⟩|⟨q,hq,e2,_,_⟩
  ·rw [e2,if_pos (by omega)] at h
   cases h
  ·have e2:idx (fun o=>fkEq o ⟨name,seqI (tAt s i).pk.length,(tAt s i).name⟩) s.fks 0=(q:Int):=by simpa using e2
   rw [e2,if_neg (by omega),Int.toNat_natCast] at h
   simp only at h
   split at h
   ·cases h
   ·rename_i hx
    injection h with h
    exact ⟨j,q,hj,hq,e1,hc1,hc2,hs,e2,any_false_of hx,h.symm⟩
end Go.Bw
