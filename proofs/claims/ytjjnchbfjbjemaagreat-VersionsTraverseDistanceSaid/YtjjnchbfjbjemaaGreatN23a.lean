/-
  WHAT IS PROVED HERE, of this translation: anc_self, anc_pos, anc_parent, anc_next, anc_tw, path_fwd, path_bwd, get_snoc, TInv.snoc, TInv.step, stepK_get, rowK_get, .., sub_len, nodup_len, TInv.all, TInv.count, trav_inv, trav_stop, getD_natI, eHp_snoc, traverse_sat, hops_ok, versionsTraverseDistance_sat.
  A theorem that ends in sat says what the function it names returns, whatever the state it is called in; the bounds on its arguments stand ahead of it.
-/
import Derived.Test.YtjjnchbfjbjemaaGreatVv
set_option linter.unusedSimpArgs false
set_option linter.unusedVariables false
namespace Go.Bw
section
variable (c:Chg→Chg→Int)
def swp (ds:List Chg) (i j:Nat):List Chg :=
 match ds[i]?,ds[j]? with
 | some x,some y=>(ds.set i y).set j x
 | _,_=>ds
def lessAt (ds:List Chg) (i j:Nat):Bool :=
 match ds[i]?,ds[j]? with
 | some x,some y=>decide (c x y<0)
 | _,_=>false
def down (a:Nat):Nat→List Chg→List Chg
 | 0,ds=>ds
 | j+1,ds=>if a<j+1∧lessAt c ds (j+1) j=true then down a j (swp ds (j+1) j) else ds
end
end Go.Bw
namespace Go.Bw
theorem anc_self (P:Nat→Nat) (v:Nat):v∈anc P v:=by
 rw [anc]
 split
 ·exact List.mem_cons_self ..
 ·exact List.mem_singleton.2 rfl
theorem anc_pos {P:Nat→Nat} {v q:Nat} (h:q∈anc P v) (h0:0<q) (hP:P v<v):anc P v=v::anc P (P v):=anc_succ (by have:=anc_le h;omega) hP
theorem anc_parent {P:Nat→Nat} {n v q:Nat} (hP:Falls P n) (hv:v≤n) (h:q∈anc P v) (h0:0<q):P q∈anc P v:=by
 induction v using Nat.strongRecOn with
 | _ v ih =>
  have hq:=anc_le h
  have hp:=hP v (by omega) hv
  have ea:=anc_pos h h0 hp
  rw [ea] at h ⊢
  rcases List.mem_cons.1 h with rfl|h
  ·exact List.mem_cons_of_mem _ (anc_self P _)
  ·exact List.mem_cons_of_mem _ (ih _ hp (by omega) h)
theorem anc_next {P:Nat→Nat} {n v q x:Nat} (hP:Falls P n) (hv:v≤n) (h:q∈anc P v) (h0:0<q) (hx:x∈anc P v) (hlt:P q<x):q≤x:=by
 induction v using Nat.strongRecOn with
 | _ v ih =>
  have hq:=anc_le h
  have hp:=hP v (by omega) hv
  have ea:=anc_pos h h0 hp
  rw [ea] at h hx
  rcases List.mem_cons.1 h with rfl|h
  ·rcases List.mem_cons.1 hx with rfl|hx
   ·exact Nat.le_refl _
   ·have:=anc_le hx;omega
  ·rcases List.mem_cons.1 hx with rfl|hx
   ·have:=anc_le h;omega
   ·exact ih _ hp (by omega) h hx
theorem anc_tw {P:Nat→Nat} {n v q:Nat} (hP:Falls P n) (hv:v≤n) (h:q∈anc P v) (h0:0<q):((anc P v).takeWhile fun w=>w != P q)=((anc P v).takeWhile fun w=>w != q)++[q]:=by
 induction v using Nat.strongRecOn with
 | _ v ih =>
  have hq:=anc_le h
  have hp:=hP v (by omega) hv
  have hpq:=hP q h0 (by omega)
  have ea:=anc_pos h h0 hp
  rw [ea] at h ⊢
  by_cases e:v=q
  ·subst e
   have e1:(anc P (P v)).takeWhile (fun w=>w != P v)=[]:=by
    rw [anc]
    split<;>simp [List.takeWhile_cons]
   rw [List.takeWhile_cons,if_pos (by simp;omega),List.takeWhile_cons,if_neg (by simp),e1]
   rfl
  ·have h:q∈anc P (P v):=by
    rcases List.mem_cons.1 h with h|h
    ·exact absurd h.symm e
    ·exact h
   rw [List.takeWhile_cons,if_pos (by simp;omega),List.takeWhile_cons,if_pos (by simpa using e),ih _ hp (by omega) h]
   rfl
theorem path_fwd {P:Nat→Nat} {v u:Nat} (h:u ∉ anc P v) (h0:0<u) (hp:P u<u):pathL P v u=pathL P v (P u)++[⟨u - 1,false⟩]:=by
 unfold pathL
 rw [climb_out h h0 hp]
 simp
theorem path_bwd {P:Nat→Nat} {n v q:Nat} (hP:Falls P n) (hv:v≤n) (h:q∈anc P v) (h0:0<q):pathL P v (P q)=pathL P v q++[⟨q - 1,true⟩]:=by
 unfold pathL
 rw [climb_in h,climb_in (anc_parent hP hv h h0)]
 simp only [List.reverse_nil,List.map_nil,List.append_nil]
 rw [anc_tw hP hv h h0,List.map_append]
 rfl
def toV (P:Nat→Nat) (h:Hp):Nat:=if h.back then P (h.edge+1) else h.edge+1
abbrev TSt:=List Nat×List Hp
def stepK (P:Nat→Nat) (q k:Nat) (st:TSt):TSt :=
 if P (k+1)=q∧k+1 ∉ st.1 then (st.1++[k+1],st.2++[⟨k,false⟩])
 else if k+1=q∧P (k+1) ∉ st.1 then (st.1++[P (k+1)],st.2++[⟨k,true⟩]) else st
def rowK (P:Nat→Nat) (q:Nat):Nat→TSt→TSt
 | 0,st=>st
 | k+1,st=>stepK P q k (rowK P q k st)
def trav (P:Nat→Nat) (E:Nat):Nat→Nat→TSt→TSt
 | 0,_,st=>st
 | f+1,i,st=>match st.1[i]? with
  | none=>st
  | some q=>trav P E f (i+1) (rowK P q E st)
def dst (P:Nat→Nat) (v w:Nat):Nat:=(pathL P v w).length
structure TInv (P:Nat→Nat) (E v i k:Nat) (st:TSt):Prop where
 hd:st.1[0]?=some v
 nodup:st.1.Nodup
 le:∀w∈st.1,w≤E
 len:st.1.length=st.2.length+1
 hop:∀(j:Nat) (h:Hp),st.2[j]?=some h→st.1[j+1]?=some (toV P h)∧h.edge<E∧(pathL P v (toV P h)).getLast?=some h
 up:∀w∈st.1,w∈anc P v→∀x∈anc P v,w<x→x∈st.1
 down:∀w∈st.1,w ∉ anc P v→P w∈st.1
 sorted:∀(a b x y:Nat),a<b→st.1[a]?=some x→st.1[b]?=some y→dst P v x≤dst P v y
 bound:∀q,st.1[i]?=some q→∀w∈st.1,dst P v w≤dst P v q+1
 seen:∀(j q:Nat),st.1[j]?=some q→∀k',k'<E→(j<i∨(j=i∧k'<k))→(P (k'+1)=q→k'+1∈st.1)∧(k'+1=q→P (k'+1)∈st.1)
theorem get_snoc {α:Type} {l:List α} {x y:α} {j:Nat} (h:(l++[x])[j]?=some y):l[j]?=some y∨(j=l.length∧y=x):=by
 rcases Nat.lt_or_ge j l.length with hj|hj
 ·rw [List.getElem?_append_left hj] at h;exact .inl h
 ·rw [List.getElem?_append_right hj] at h
  rcases Nat.eq_zero_or_pos (j - l.length) with h0|h0
  ·rw [h0] at h
   exact .inr ⟨by omega,by simpa using h.symm⟩
  ·rw [List.getElem?_eq_none (by simp;omega)] at h
   cases h
theorem TInv.snoc {P:Nat→Nat} {E v i k:Nat} {st:TSt} {q u:Nat} {h:Hp} (I:TInv P E v i k st) (hq:st.1[i]?=some q) (hu:u ∉ st.1) (hE:u≤E) (ht:toV P h=u) (he:h.edge<E) (hp:pathL P v u=pathL P v q++[h])
  (hup:u∈anc P v→∀x∈anc P v,u<x→x∈st.1) (hdn:u ∉ anc P v→P u∈st.1) (hs:(P (k+1)=q→k+1∈st.1++[u])∧(k+1=q→P (k+1)∈st.1++[u])):TInv P E v i (k+1) (st.1++[u],st.2++[h]):=by
 have hqm:=List.mem_of_getElem? hq
 have hil:i<st.1.length:=(List.getElem?_eq_some_iff.1 hq).1
 have d1:dst P v u=dst P v q+1:=by unfold dst;rw [hp];simp
 have old:∀{j x:Nat},st.1[j]?=some x→(st.1++[u])[j]?=some x:=fun {j x} hx=>by rw [List.getElem?_append_left (List.getElem?_eq_some_iff.1 hx).1];exact hx
 refine ⟨old I.hd,?_,fun w hw=>?_,?_,fun j h' hj=>?_,fun w hw ha x hx hlt=>?_,fun w hw ha=>?_,fun a b x y hab hx hy=>?_,fun q' hq' w hw=>?_,fun j q' hq' k' hk' hc=>?_⟩
 ·refine List.nodup_append.2 ⟨I.nodup,by simp,fun a ha b hb=>?_⟩
  rw [List.mem_singleton.1 hb]
  rintro rfl
  exact hu ha
 ·rcases List.mem_append.1 hw with hw|hw
  ·exact I.le w hw
  ·rw [List.mem_singleton.1 hw];exact hE
 ·simp only [List.length_append,List.length_singleton]
  have:=I.len
  omega
 ·rcases get_snoc hj with hj|⟨rfl,rfl⟩
  ·obtain ⟨h1,h2,h3⟩:=I.hop j h' hj
   exact ⟨old h1,h2,h3⟩
  ·refine ⟨?_,he,?_⟩
   ·show (st.1++[u])[st.2.length+1]?=_
    rw [←I.len,ht,List.getElem?_append_right (Nat.le_refl _)]
    simp
   ·rw [ht,hp]
    simp
 ·rcases List.mem_append.1 hw with hw|hw
  ·exact List.mem_append_left _ (I.up w hw ha x hx hlt)
  ·rw [List.mem_singleton.1 hw] at ha hlt
   exact List.mem_append_left _ (hup ha x hx hlt)
 ·rcases List.mem_append.1 hw with hw|hw
  ·exact List.mem_append_left _ (I.down w hw ha)
  ·rw [List.mem_singleton.1 hw] at ha ⊢
   exact List.mem_append_left _ (hdn ha)
 ·rcases get_snoc hx with kx|⟨kx,kx2⟩
  ·rcases get_snoc hy with ky|⟨ky,ky2⟩
   ·exact I.sorted a b x y hab kx ky
   ·have:=I.bound q hq x (List.mem_of_getElem? kx)
    rw [ky2]
    omega
  ·rcases get_snoc hy with ky|⟨ky,ky2⟩
   ·have:=(List.getElem?_eq_some_iff.1 ky).1;omega
   ·rw [kx2,ky2];exact Nat.le_refl _
 ·rcases get_snoc hq' with hq'|⟨hq1,_⟩
  ·rcases List.mem_append.1 hw with hw|hw
   ·exact I.bound q' hq' w hw
   ·rw [List.mem_singleton.1 hw]
    rw [hq] at hq'
    injection hq' with hq'
    subst hq'
    omega
  ·omega
 ·rcases get_snoc hq' with hq'|⟨hq1,_⟩
  ·by_cases hk:j=i∧k'=k
   ·obtain ⟨rfl,rfl⟩:=hk
    rw [hq] at hq'
    injection hq' with hq'
    subst hq'
    exact hs
   ·have:=I.seen j q' hq' k' hk' (by omega)
    exact ⟨fun e=>List.mem_append_left _ (this.1 e),fun e=>List.mem_append_left _ (this.2 e)⟩
  ·have h1:j=st.1.length:=hq1
   omega
theorem TInv.step {P:Nat→Nat} {E v i k:Nat} {st:TSt} {q:Nat} (hP:Falls P E) (hv:v≤E) (I:TInv P E v i k st) (hq:st.1[i]?=some q) (hk:k<E):TInv P E v i (k+1) (stepK P q k st):=by
 have hqm:=List.mem_of_getElem? hq
 have hpk:=hP (k+1) (by omega) (by omega)
 unfold stepK
 by_cases h1:P (k+1)=q∧k+1 ∉ st.1
 ·rw [if_pos h1]
  have hna:k+1 ∉ anc P v:=fun ha=>by
   have hpa:=anc_parent hP hv ha (by omega)
   rw [h1.1] at hpa
   exact h1.2 (I.up q hqm hpa (k+1) ha (by omega))
  refine I.snoc hq h1.2 (by omega) (by simp [toV]) hk ?_ (fun ha=>absurd ha hna) (fun _=>by rw [h1.1];exact hqm) ⟨fun _=>by simp,fun e=>by omega⟩
  rw [path_fwd hna (by omega) hpk,h1.1]
  rfl
 rw [if_neg h1]
 by_cases h2:k+1=q∧P (k+1) ∉ st.1
 ·rw [if_pos h2]
  obtain ⟨rfl,h2⟩:=h2
  have ha:k+1∈anc P v:=Decidable.byContradiction fun hn=>h2 (I.down _ hqm hn)
  have hpa:=anc_parent hP hv ha (by omega)
  refine I.snoc hq h2 (by omega) (by simp [toV]) hk ?_ (fun _ x hx hlt=>?_) (fun hn=>absurd hpa hn) ⟨fun e=>by omega,fun _=>by simp⟩
  ·rw [path_bwd hP hv ha (by omega)]
   rfl
  ·have:=anc_next hP hv ha (by omega) hx hlt
   by_cases e:x=k+1
   ·rw [e];exact hqm
   ·exact I.up _ hqm ha x hx (by omega)
 rw [if_neg h2]
 refine ⟨I.hd,I.nodup,I.le,I.len,I.hop,I.up,I.down,I.sorted,I.bound,fun j q' hq' k' hk' hc=>?_⟩
 by_cases hkk:j=i∧k'=k
 ·obtain ⟨rfl,rfl⟩:=hkk
  rw [hq] at hq'
  injection hq' with hq'
  subst hq'
  exact ⟨fun e=>Decidable.byContradiction fun hn=>h1 ⟨e,hn⟩,fun e=>Decidable.byContradiction fun hn=>h2 ⟨e,hn⟩⟩
 ·exact I.seen j q' hq' k' hk' (by omega)
theorem stepK_get {P:Nat→Nat} {q k i x:Nat} {st:TSt} (h:st.1[i]?=some x):(stepK P q k st).1[i]?=some x:=by
 unfold stepK
 split
 ·rw [List.getElem?_append_left (List.getElem?_eq_some_iff.1 h).1];exact h
 ·split
  ·rw [List.getElem?_append_left (List.getElem?_eq_some_iff.1 h).1];exact h
  ·exact h
theorem rowK_get {P:Nat→Nat} {q i x:Nat} {st:TSt} (h:st.1[i]?=some x):∀k,(rowK P q k st).1[i]?=some x
 | 0=>h
 | k+1=>stepK_get (rowK_get h k)
theorem TInv.row {P:Nat→Nat} {E v i:Nat} {st:TSt} {q:Nat} (hP:Falls P E) (hv:v≤E) (I:TInv P E v i 0 st) (hq:st.1[i]?=some q):∀k,k≤E→TInv P E v i k (rowK P q k st)
 | 0,_=>I
 | k+1,hk=>(TInv.row hP hv I hq k (by omega)).step hP hv (rowK_get hq k) (by omega)
theorem TInv.next {P:Nat→Nat} {E v i:Nat} {st:TSt} {q:Nat} (I:TInv P E v i E st) (hq:st.1[i]?=some q):TInv P E v (i+1) 0 st :=
 ⟨I.hd,I.nodup,I.le,I.len,I.hop,I.up,I.down,I.sorted,fun q' hq' w hw=>by
  have h1:=I.bound q hq w hw
  have h2:=I.sorted i (i+1) q q' (by omega) hq hq'
  omega,fun j q' hq' k' hk' hc=>I.seen j q' hq' k' hk' (by omega)⟩
theorem TInv.first (P:Nat→Nat) {E v:Nat} (hv:v≤E):TInv P E v 0 0 ([v],[]):=by
 refine ⟨rfl,by simp,fun w hw=>by rw [List.mem_singleton.1 hw];exact hv,rfl,fun j h hj=>by simp at hj,fun w hw _ x hx hlt=>?_,fun w hw hn=>?_,fun a b x y hab hx hy=>?_,fun q hq w hw=>?_,fun j q _ k' _ hc=>by omega⟩
 ·rw [List.mem_singleton.1 hw] at hlt
  have:=anc_le hx
  omega
 ·rw [List.mem_singleton.1 hw] at hn
  exact absurd (anc_self P v) hn
 ·have:=(List.getElem?_eq_some_iff.1 hy).1
  simp at this
  omega
 ·have h0:q=v:=by
   have:=List.mem_of_getElem? hq
   exact List.mem_singleton.1 this
  rw [h0,List.mem_singleton.1 hw]
  omega
theorem sub_len {α:Type} [DecidableEq α]:∀{l r:List α},l.Nodup→(∀x∈l,x∈r)→l.length≤r.length
 | [],_,_,_=>Nat.zero_le _
 | x::l,r,h,hs=>by
  obtain ⟨h1,h2⟩:=List.nodup_cons.1 h
  have:=sub_len (l:=l) (r:=r.erase x) h2 fun y hy=>(List.mem_erase_of_ne (by rintro rfl;exact h1 hy)).2 (hs y (List.mem_cons_of_mem _ hy))
  have hx:=hs x (List.mem_cons_self ..)
  have h3:=List.length_erase_of_mem hx
  have:=List.length_pos_of_mem hx
  simp only [List.length_cons]
  omega
theorem nodup_len {l:List Nat} {n:Nat} (h:l.Nodup) (hl:∀w∈l,w≤n):l.length≤n+1:=by
 have:l.length≤(List.range (n+1)).length:=sub_len h fun w hw=>List.mem_range.2 (by have:=hl w hw;omega)
 simpa using this
theorem TInv.all {P:Nat→Nat} {E v i:Nat} {st:TSt} (hP:Falls P E) (I:TInv P E v i 0 st) (hi:st.1.length≤i):∀w,w≤E→w∈st.1:=by
 have hs:∀q∈st.1,∀k',k'<E→(P (k'+1)=q→k'+1∈st.1)∧(k'+1=q→P (k'+1)∈st.1):=fun q hq k' hk'=>by
  obtain ⟨j,hj,rfl⟩:=List.mem_iff_getElem.1 hq
  exact I.seen j _ (List.getElem?_eq_getElem hj) k' hk' (.inl (by omega))
 have h0:∀w,w∈st.1→0∈st.1:=by
  intro w
  induction w using Nat.strongRecOn with
  | _ w ih =>
   intro hw
   rcases Nat.eq_zero_or_pos w with e|e
   ·rw [←e];exact hw
   ·have hE:=I.le w hw
    have h1:=(hs w hw (w - 1) (by omega)).2 (by omega)
    rw [show w - 1+1=w by omega] at h1
    exact ih _ (hP w e hE) h1
 have z:=h0 v (List.mem_of_getElem? I.hd)
 intro w
 induction w using Nat.strongRecOn with
 | _ w ih =>
  intro hw
  rcases Nat.eq_zero_or_pos w with e|e
  ·rw [e];exact z
  ·have h1:=ih _ (hP w e hw) (by have:=hP w e hw;omega)
   have h2:=(hs _ h1 (w - 1) (by omega)).1 (by rw [show w - 1+1=w by omega])
   rw [show w - 1+1=w by omega] at h2
   exact h2
theorem TInv.count {P:Nat→Nat} {E v i:Nat} {st:TSt} (hP:Falls P E) (I:TInv P E v i 0 st) (hi:st.1.length≤i):st.2.length=E:=by
 have h1:=nodup_len I.nodup I.le
 have h2:(List.range (E+1)).length≤st.1.length:=sub_len List.nodup_range fun w hw=>I.all hP hi w (by have:=List.mem_range.1 hw;omega)
 have:=I.len
 simp only [List.length_range] at h2
 omega
theorem trav_inv {P:Nat→Nat} {E v:Nat} (hP:Falls P E) (hv:v≤E):∀(f i:Nat) (st:TSt),TInv P E v i 0 st→E+1≤i+f→∃i',TInv P E v i' 0 (trav P E f i st)∧(trav P E f i st).1.length≤i'
 | 0,i,st,I,hf=>⟨i,I,by have:=nodup_len I.nodup I.le;show st.1.length≤i;omega⟩
 | f+1,i,st,I,hf=>by
  rw [trav]
  cases hq:st.1[i]? with
  | none=>exact ⟨i,I,by simpa using hq⟩
  | some q=>exact trav_inv hP hv f (i+1) _ ((I.row hP hv hq E (Nat.le_refl _)).next (rowK_get hq E)) (by omega)
end Go.Bw
namespace Go.Bw
open Go.Proofs
attribute [local go_sem ↓] VOps_nil VOps_cons VOp_callJ VVal_callH VOps_guard GOn_tt GOn_ff GOn_tf GOn_ft GOn_not GOn_none HOn_none HOn_tt HOn_ff HOn_tf HOn_ft HOn_not VHead_nil VHead_cons VHead_guard VVal_move VVal_assign VVal_pickE pickK_true pickK_false VVal_not VVal_neg negK_int VVal_load loadK_fz loadK_ptr loadK_eptr VVal_fieldAddr VVal_field VVal_indexAddr idxK_sl idxK_ref VVal_index indexK_str VVal_extract VVal_binOp binK_one binK_agg VVal_build VVal_buildSlice VVal_makeFunc VVal_slice sliceK_str sliceK_sl sliceK_nil sliceK_ref VVal_slice3 VVal_nilCheck VVal_convert convKk_int convKk_str VVal_len VVal_max VVal_min VOp_assign assignK_int assignK_bool assignK_str assignK_clo assignK_sl assignK_nil assignK_ref assignK_agg assignK_fz assignK_ptr assignK_eptr assignK_any VOp_box VOp_alloc VOp_store storeK_ptr storeK_eptr VOp_buildSlice VOp_append appK_rr appK_rs appK_rn appK_ri appK_nr appK_ns appK_nn appK_ni appStd_eq VOp_copy copyK_ref VOp_clear clearK_ref VOp_cap VOp_eqNil VOp_move VOp_pick VOp_not VOp_neg VOp_load VOp_fieldAddr VOp_field VOp_indexAddr VOp_index VOp_extract VOp_binTmp VOp_binInt VOp_binStr VOp_binPtr VOp_build VOp_makeFunc VOp_slice VOp_nilCheck VOp_convert VOp_len VOp_max VOp_min mO_some mT_some pk_some pk_none look_cons del_cons
attribute [local go_sem] guardB gOf int_bne beq_true beq_false Bool.not_not gSlot pickK_true pickK_false negK_int loadK_fz loadK_ptr loadK_eptr idxK_sl idxK_ref indexK_str binK_one binK_agg sliceK_str sliceK_sl sliceK_nil sliceK_ref convKk_int convKk_str maxL minL assignK_int assignK_bool assignK_str assignK_clo assignK_sl assignK_nil assignK_ref assignK_agg assignK_fz assignK_ptr assignK_eptr assignK_any nilRow_eq takeRow_eq appended_eq storeK_ptr storeK_eptr store_mk appIn_eq appMk_eq marked_eq ovOut_nil ovOut_cons ovIn_nil ovIn_cons padRow_eq ysC capK_nil capK_ref ioSt_mk outB_nil outR_nil outB outR inB_nil inB_cons inR_nil inR_cons L.kl L.kl0 L.ids L.ids0 Option.getD_some evalO constA mO_some mT_some put_mk putO_some putO_none okD_some okD_none pk_some pk_none look_nil del_nil sput noBox_mk noRow_mk newBox_eq newRow0_eq St.killRow RowC.kill rowMap_mk rowOf ovAll ovAdd ovDel ovGet ovShift dstOf ysOf overlay_nil overlay_nil' overlay A.map V.map L.noPtr L.noPtr0 L.noRow L.noRow0 L.peek L.norm L.flat clos_int clos_bool clos_str clos_sl clos_nil clos_any clos_fz L.clos L.isFz L.kd moveL fieldOff eqCells eqCell eqOp oneOf boolOf intOfA tupOf vOf aggOf isPtrLike isSlice lenKind lenL nL elemTI loadV asV binL intBin intDivL shrL boolBin strBin strAdd ptrNil boundN partCells fillL placesOf setL chunks repL capsOf capL callOf argsOf frzV_int frzV_bool frzV_str frzV_sl frzV_nil frzV_fz frzV_any frzV_own frzV_clo frzV_ref frzV_eptr frzV_ptr frzRow_nil frzRow_ov frzRs_nil frzRs_cons frzCs_nil frzCs_cons frzO_some frzO_none frzN_int frzN_bool frzN_str frzN_sl frzN_nil frzN_any frzN_own List.map_cons List.map_nil List.cons_append List.nil_append List.append_nil List.length_cons List.length_nil List.length_map List.length_append List.headD_cons List.tail_cons List.getElem?_cons_zero List.getElem?_cons_succ List.drop_zero List.drop_succ_cons List.drop_nil List.take_succ_cons List.take_zero List.take_nil List.take_length List.filter_cons List.filter_nil List.elem_cons List.elem_nil List.all_cons List.all_nil Option.bind_some Option.map_some Option.some.injEq bne_self_eq_false beq_self_eq_true if_true if_false Bool.false_eq_true true_and and_true and_self Nat.zero_add Nat.add_zero Nat.zero_le Int.toNat_natCast Int.toNat_zero Option.isSome_some List.getElem?_toArray decide_true decide_false ge_iff_le gt_iff_lt Bool.not_true Bool.not_false Nat.le_refl Bool.and_true Bool.true_and Bool.and_false Bool.false_and eVal eRow eRow1 eRows eInt1 eInts eCol eCols eTbl eTbls eFK eFKs eCon eCons eSch eRel eInst eChg eChgs szOf getD_map_lt wrap_nat wrap_in List.take_of_length_le frz_eVal frz_eRow1 frz_eInt1 frz_eCol frz_eTbl frz_eFK frz_eCon frz_eRel frz_eChg noOwn_nil noOwn_cons noOwn_append L.isOwn noOwn_eVal noOwn_eRow1 noOwn_eInt1 noOwn_eCol noOwn_eTbl noOwn_eFK noOwn_eCon noOwn_eRel noOwn_eChg convK_2 convK_3 convK_5 convK_12 convK_21 convK_32 convK_95 convK_119 convK_122 convK_152 convK_169 TT_2 TT_3 TT_4 TT_5 TT_9 TT_12 TT_13 TT_21 TT_22 TT_23 TT_24 TT_25 TT_26 TT_27 TT_28 TT_29 TT_31 TT_32 TT_36 TT_37 TT_42 TT_43 TT_44 TT_48 TT_49 TT_56 TT_61 TT_72 TT_73 TT_74 TT_85 TT_86 TT_89 TT_90 TT_91 TT_92 TT_95 TT_98 TT_113 TT_114 TT_116 TT_117 TT_119 TT_122 TT_145 TT_152 TT_169 boolTy_4 eqK_37 eqK_90 eqK_92 eqK_114
attribute [local congr] VOps.congr VHead.congr VOp.congr VVal.congr pk.congr assignK.congr appK.congr appStd.congr copyK.congr clearK.congr storeK.congr loadK.congr idxK.congr sliceK.congr indexK.congr binK.congr convKk.congr
def verTraverse (g:Gr) (v:Int):ResH:=match verSchema g v with
 | .error e=>.error e
 | .ok _=>.ok (trav (parN g) g.edges.length (g.edges.length+1) 0 ([v.toNat],[])).2
theorem trav_stop {P:Nat→Nat} {Ne f i:Nat} {st:TSt} (h:st.1.length≤i):trav P Ne f i st=st:=by
 cases f with
 | zero=>rfl
 | succ f =>
  rw [trav,List.getElem?_eq_none h]
theorem getD_natI {l:List Nat} {k q:Nat} (h:l[k]?=some q):((natI l).map eInt1).getD k []=[.int .i64 (q:Int)]:=by
 obtain ⟨h1,h2⟩:=List.getElem?_eq_some_iff.1 h
 rw [getD_map_lt _ _ _ (by rw [natI_len];exact h1)]
 simp only [natI,List.getElem_map,h2]
 rfl
theorem eHp_snoc (l:List Hp) (h:Hp):(l++[h]).map eHp=l.map eHp++[[.int .i64 (h.edge:Int),.bool h.back]]:=by
 rw [List.map_append]
 rfl
set_option maxHeartbeats 32000000 in
theorem traverse_sat (g:Gr) (v:Int) (hg:g.Fits):Sat Tryz.prog 19 [.agg (eGr g),oI v] (.tup [.one (eHps (hOut (verTraverse g v))),oI (rE (verTraverse g v))]):=by
 have cv:=verSchema_sat g v hg
 unfold eHps
 cases hv:verSchema g v with
 | error e =>
  have spec:verTraverse g v=.error e:=by unfold verTraverse;rw [hv]
  have he:=verSchema_ne hv
  rw [hv] at cv
  rw [spec]
  unfold sOut rE at cv
  unfold hOut rE
  simp only at cv ⊢
  refine sS tyOk Tryz.func19 fun w0 m0 F0=>?_
  simp only [Tryz.ntmps19,envOf,Nat.reduceAdd]
  repeat' (first|((first|with_reducible refine qV tyOk fun K hK=>?_|((with_reducible refine CallJ.is ?_);(refine CallJ.pure (cv) ?_)))<;>simp -dsimp (disch:=first|exact D|fail) only [go_sem,↓reduceIte,seval,eGr,eEdgs,eSch,he])|((with_reducible refine hK _ ?_);clear hK K)|refine Q1 ?_|((with_reducible refine qW (T:=TT) (b:=?_) ?_ ?_);rotate_left;exact rfl)|fail)
  simp -dsimp (disch:=first|exact D|fail) only [retQ,Tryz.results19,resVals,cellRV,resOf,St.rest,St.freeze,RT,go_sem,↓reduceIte,seval]
 | ok sv =>
 obtain ⟨O,hO,v0,v1,_⟩:=verSchema_ok hv
 obtain ⟨hlt,_,_,lO⟩:=verSchemas_ok hO
 obtain ⟨x,rfl⟩:∃x:Nat,v=(x:Int):=⟨v.toNat,by omega⟩
 have ok:=grOk_of hO
 have hP:Falls (parN g) g.edges.length:=ok.par
 obtain ⟨Ne,hE⟩:∃Ne,g.edges.length=Ne:=⟨_,rfl⟩
 rw [hE] at hlt lO hP
 have hx:x≤Ne:=by omega
 obtain ⟨fin,hfin⟩:∃fin,trav (parN g) Ne (Ne+1) 0 ([x],[])=fin:=⟨_,rfl⟩
 have spec:verTraverse g (x:Int)=.ok fin.2:=by unfold verTraverse;rw [hv];simp only [Int.toNat_natCast];rw [hE,hfin]
 rw [hv] at cv
 rw [spec]
 unfold sOut rE at cv
 unfold hOut rE
 simp only at cv ⊢
 refine sS tyOk Tryz.func19 fun w0 m0 F0=>?_
 simp only [Tryz.ntmps19,envOf,Nat.reduceAdd]
 repeat' (first|((first|with_reducible refine qV tyOk fun K hK=>?_|((with_reducible refine CallJ.is ?_);(refine CallJ.pure (cv) ?_)))<;>simp -dsimp (disch:=first|exact D|fail) only [go_sem,↓reduceIte,seval,eGr,eEdgs,eSch])|((with_reducible refine hK _ ?_);clear hK K)|refine Q1 ?_|((with_reducible refine qW (T:=TT) (b:=?_) ?_ ?_);rotate_left;exact rfl)|fail)
 refine AWP.loop (ι:={p:Nat×TSt // TInv (parN g) Ne x p.1 0 p.2∧trav (parN g) Ne (Ne+1 - p.1) p.1 p.2=fin}) (fun p=>⟨90,[(2,.v (.one (.ptr 2 0))),(5,.v (oI 0)),(8,.v (.one (.ref 8 0 p.1.2.1.length))),(9,.v (.one (.ref 9 0 p.1.2.2.length))),(10,.v (oI p.1.1))],[(2,eGr g)],[(8,⟨1,(natI p.1.2.1).map eInt1,[]⟩),(9,⟨2,p.1.2.2.map eHp,[]⟩)]⟩) (fun p=>Ne+1 - p.1.1) ⟨(0,([x],[])),TInv.first _ hx,by simpa using hfin⟩ ?_ fun ⟨⟨i,Q,H⟩,I,hI⟩=>?_
 ·refine St.le_mk ?_ ?_ ?_<;>simp only [LE,EN,Nat.reduceEqDiff,reduceIte,Nat.reduceSub,eGr,eEdgs,natI,List.map_cons,List.map_nil,List.length_cons,List.length_nil,Int.natCast_zero,Nat.zero_add]
 simp only at I hI ⊢
 have lQ:=nodup_len I.nodup I.le
 have lH:=I.len
 simp only at lQ lH
 have lnQ:=natI_len Q
 rcases Nat.lt_or_ge i Q.length with hi|hi
 ·obtain ⟨q,hq⟩:∃q,Q[i]?=some q:=⟨_,List.getElem?_eq_getElem hi⟩
  have hf:Ne+1 - i=(Ne - i)+1:=by omega
  rw [hf,trav] at hI
  simp only [hq] at hI
  have R:=fun k hk=>I.row (q:=q) hP hx hq k hk
  repeat' (first|((with_reducible refine qV tyOk fun K hK=>?_)<;>simp -dsimp (disch:=first|exact D|fail) only [go_sem,↓reduceIte,seval,eGr,eEdgs,hE])|((with_reducible refine hK _ ?_);clear hK K)|refine Q1 ?_|((with_reducible refine qW (T:=TT) (b:=?_) ?_ ?_);rotate_left;exact rfl)|fail)
  refine AWP.loop (ι:={k:Nat // k≤Ne}) (fun k=>⟨90,[(2,.v (.one (.ptr 2 0))),(5,.v (oI 0)),(8,.v (.one (.ref 8 0 (rowK (parN g) q k.1 (Q,H)).1.length))),(9,.v (.one (.ref 9 0 (rowK (parN g) q k.1 (Q,H)).2.length))),(10,.v (oI i)),(31,.v (.one (.sl 2 (g.edges.map eEdg)))),(32,.v (oI Ne)),(33,.v (oI k.1))],[(2,eGr g)],[(8,⟨1,(natI (rowK (parN g) q k.1 (Q,H)).1).map eInt1,[]⟩),(9,⟨2,(rowK (parN g) q k.1 (Q,H)).2.map eHp,[]⟩)]⟩) (fun k=>Ne - k.1) ⟨0,Nat.zero_le _⟩ ?_ fun ⟨k,hk⟩=>?_
  ·refine St.le_mk ?_ ?_ ?_<;>simp only [LE,EN,Nat.reduceEqDiff,reduceIte,Nat.reduceSub,eGr,eEdgs,rowK,Int.natCast_zero]
  simp only at hk ⊢
  rcases Nat.lt_or_ge k Ne with hc|hc
  ·obtain ⟨⟨Q',H'⟩,hst⟩:∃st,rowK (parN g) q k (Q,H)=st:=⟨_,rfl⟩
   have Ik:=R k (by omega)
   rw [hst] at Ik ⊢
   have nx:rowK (parN g) q (k+1) (Q,H)=stepK (parN g) q k (Q',H'):=by rw [rowK,hst]
   have hq':Q'[i]?=some q:=by
    have:=rowK_get (P:=parN g) (q:=q) (st:=(Q,H)) hq k
    rw [hst] at this
    exact this
   have gq:=getD_natI hq'
   have lQ':=nodup_len Ik.nodup Ik.le
   have lH':=Ik.len
   simp only at lQ' lH'
   have iQ':i<Q'.length:=(List.getElem?_eq_some_iff.1 hq').1
   have lnQ':=natI_len Q'
   have hpi:=ok.int k (by omega)
   have gs:(g.edges.map eEdg).getD k []=[.int .i64 (parN g (k+1):Int),eScr (g.edges.getD k zEdg).steps]:=by
    have:=getD_edge ok (v:=k+1) (by omega) (by omega)
    simpa using this
   have c1:=containsInt_sat (natI Q') ((k:Int)+1) (by omega)
   rw [show ((k:Int)+1)=((k+1:Nat):Int) by omega,elem_natI] at c1
   have c2:=containsInt_sat (natI Q') (parN g (k+1)) (by omega)
   rw [elem_natI] at c2
   have hk1:(((k+1:Nat)):Int)=(k:Int)+1:=by omega
   rw [hk1] at c1
   have pb:parN g (k+1)<k+1:=ok.par (k+1) (by omega) (by omega)
   by_cases e1:parN g (k+1)=q
   ·by_cases m1:k+1∈Q'
    ·-- already there
     rw [decide_eq_true m1] at c1
     have e1':(parN g (k+1):Int)=(q:Int):=by omega
     have n2:¬ (k:Int)+1=(q:Int):=by omega
     have sx:stepK (parN g) q k (Q',H')=(Q',H'):=by
      unfold stepK
      rw [if_neg (fun h=>h.2 m1),if_neg (fun h=>by omega)]
     repeat' (first|((first|with_reducible refine qV tyOk fun K hK=>?_|(refine AWP.isRegion 12 ?_;refine dX tyOk mixed [(0,11)] [(11,[(12,3)],[])] [11] 8 fun K hK=>?_;simp only [SG,segs] at hK ⊢)|refine Q2 ?_|((with_reducible refine CallJ.is ?_);(((apply CallJ.lentI);(focus (simp -dsimp (disch:=first|exact D|fail) only [go_sem,↓reduceIte,seval,gs,gq,lnQ',e1',n2,Option.getD_none];rfl));(focus (first|exact (c1)|exact (c2))))))|(with_reducible first|refine VCy.some fun K hK=>?_|refine VCy.step fun K hK=>?_))<;>simp -dsimp (disch:=first|exact D|fail) only [go_sem,↓reduceIte,seval,gs,gq,lnQ',e1',n2,Option.getD_none])|((with_reducible refine hK _ ?_);clear hK K)|(with_reducible refine VCy.intro fun K0 hK0=>?_)|((with_reducible refine VCy.fin ?_);(refine hK0 _ ?_);clear hK0 K0)|(with_reducible refine VCy.quiet ?_)|refine Q1 ?_|((with_reducible refine qW (T:=TT) (b:=?_) ?_ ?_);rotate_left;exact rfl)|fail)
     refine ⟨⟨k+1,by omega⟩,by simp only;omega,?_⟩
     simp only [nx,sx]
     refine St.le_mk ?_ ?_ ?_<;>simp only [LE,EN,Nat.reduceEqDiff,reduceIte,Nat.reduceSub,L.noPtr,L.noPtr0,L.noRow,L.noRow0,eHp,eGr,eEdgs,hk1]
    ·rw [decide_eq_false m1] at c1
     have e1':(parN g (k+1):Int)=(q:Int):=by omega
     have sx:stepK (parN g) q k (Q',H')=(Q'++[k+1],H'++[⟨k,false⟩]):=by
      unfold stepK
      rw [if_pos ⟨e1,m1⟩]
     repeat' (first|((first|with_reducible refine qV tyOk fun K hK=>?_|(refine AWP.isRegion 12 ?_;refine dX tyOk mixed [(0,11)] [(11,[(12,3)],[])] [11] 8 fun K hK=>?_;simp only [SG,segs] at hK ⊢)|((with_reducible refine CallJ.is ?_);(((apply CallJ.lentI);(focus (simp -dsimp (disch:=first|exact D|fail) only [go_sem,↓reduceIte,seval,gs,gq,lnQ',e1',Option.getD_none];rfl));(focus (first|exact (c1)|exact (c2))))))|(with_reducible first|refine VCy.some fun K hK=>?_|refine VCy.step fun K hK=>?_))<;>simp -dsimp (disch:=first|exact D|fail) only [go_sem,↓reduceIte,seval,gs,gq,lnQ',e1',Option.getD_none])|((with_reducible refine hK _ ?_);clear hK K)|(with_reducible refine VCy.intro fun K0 hK0=>?_)|((with_reducible refine VCy.fin ?_);(refine hK0 _ ?_);clear hK0 K0)|(with_reducible refine VCy.quiet ?_)|refine Q1 ?_|((with_reducible refine qW (T:=TT) (b:=?_) ?_ ?_);rotate_left;exact rfl)|fail)
     refine ⟨⟨k+1,by omega⟩,by simp only;omega,?_⟩
     simp only [nx,sx]
     refine St.le_mk ?_ ?_ ?_<;>simp only [LE,EN,Nat.reduceEqDiff,reduceIte,Nat.reduceSub,L.noPtr,L.noPtr0,L.noRow,L.noRow0,eHp,eGr,eEdgs,hk1,natI_snoc,eHp_snoc,List.length_append,List.length_cons,List.length_nil,Nat.zero_add]
   ·have e1':¬ (parN g (k+1):Int)=(q:Int):=by omega
    by_cases e2:k+1=q
    ·have e2':(k:Int)+1=(q:Int):=by omega
     by_cases m2:parN g (k+1)∈Q'
     ·rw [decide_eq_true m2] at c2
      have sx:stepK (parN g) q k (Q',H')=(Q',H'):=by
       unfold stepK
       rw [if_neg (fun h=>e1 h.1),if_neg (fun h=>h.2 m2)]
      repeat' (first|((first|with_reducible refine qV tyOk fun K hK=>?_|refine Q2 ?_|with_reducible refine yD tyOk mixed 6 (by kernel_rfl) fun K hK=>?_|((with_reducible refine CallJ.is ?_);(((apply CallJ.lentI);(focus (simp -dsimp (disch:=first|exact D|fail) only [go_sem,↓reduceIte,seval,gs,gq,lnQ',e1',e2',Option.getD_none];rfl));(focus (first|exact (c2)))))))<;>simp -dsimp (disch:=first|exact D|fail) only [go_sem,↓reduceIte,seval,gs,gq,lnQ',e1',e2',Option.getD_none])|((with_reducible refine hK _ ?_);clear hK K)|refine Q1 ?_|((with_reducible refine qW (T:=TT) (b:=?_) ?_ ?_);rotate_left;exact rfl)|fail)
      refine ⟨⟨k+1,by omega⟩,by simp only;omega,?_⟩
      simp only [nx,sx]
      refine St.le_mk ?_ ?_ ?_<;>simp only [LE,EN,Nat.reduceEqDiff,reduceIte,Nat.reduceSub,L.noPtr,L.noPtr0,L.noRow,L.noRow0,eHp,eGr,eEdgs,hk1,e2']
     ·rw [decide_eq_false m2] at c2
      have sx:stepK (parN g) q k (Q',H')=(Q'++[parN g (k+1)],H'++[⟨k,true⟩]):=by
       unfold stepK
       rw [if_neg (fun h=>e1 h.1),if_pos ⟨e2,m2⟩]
      repeat' (first|((first|with_reducible refine qV tyOk fun K hK=>?_|refine Q2 ?_|with_reducible refine yD tyOk mixed 6 (by kernel_rfl) fun K hK=>?_|((with_reducible refine CallJ.is ?_);(((apply CallJ.lentI);(focus (simp -dsimp (disch:=first|exact D|fail) only [go_sem,↓reduceIte,seval,gs,gq,lnQ',e1',e2',Option.getD_none];rfl));(focus (first|exact (c2)))))))<;>simp -dsimp (disch:=first|exact D|fail) only [go_sem,↓reduceIte,seval,gs,gq,lnQ',e1',e2',Option.getD_none])|((with_reducible refine hK _ ?_);clear hK K)|refine Q1 ?_|((with_reducible refine qW (T:=TT) (b:=?_) ?_ ?_);rotate_left;exact rfl)|fail)
      refine ⟨⟨k+1,by omega⟩,by simp only;omega,?_⟩
      simp only [nx,sx]
      refine St.le_mk ?_ ?_ ?_<;>simp only [LE,EN,Nat.reduceEqDiff,reduceIte,Nat.reduceSub,L.noPtr,L.noPtr0,L.noRow,L.noRow0,eHp,eGr,eEdgs,hk1,e2',natI_snoc,eHp_snoc,List.length_append,List.length_cons,List.length_nil,Nat.zero_add]
    ·have e2':¬ (k:Int)+1=(q:Int):=by omega
     have sx:stepK (parN g) q k (Q',H')=(Q',H'):=by
      unfold stepK
      rw [if_neg (fun h=>e1 h.1),if_neg (fun h=>e2 h.1)]
     repeat' (first|((first|with_reducible refine qV tyOk fun K hK=>?_|refine Q2 ?_|with_reducible refine yD tyOk mixed 6 (by kernel_rfl) fun K hK=>?_)<;>simp -dsimp (disch:=first|exact D|fail) only [go_sem,↓reduceIte,seval,gs,gq,lnQ',e1',e2',Option.getD_none])|((with_reducible refine hK _ ?_);clear hK K)|refine Q1 ?_|((with_reducible refine qW (T:=TT) (b:=?_) ?_ ?_);rotate_left;exact rfl)|fail)
     refine ⟨⟨k+1,by omega⟩,by simp only;omega,?_⟩
     simp only [nx,sx]
     refine St.le_mk ?_ ?_ ?_<;>simp only [LE,EN,Nat.reduceEqDiff,reduceIte,Nat.reduceSub,L.noPtr,L.noPtr0,L.noRow,L.noRow0,eHp,eGr,eEdgs,hk1]
  ·have hk2:k=Ne:=by omega
   subst hk2
   repeat' (first|((with_reducible refine qV tyOk fun K hK=>?_)<;>simp -dsimp (disch:=first|exact D|fail) only [go_sem,↓reduceIte,seval])|((with_reducible refine hK _ ?_);clear hK K)|refine Q1 ?_|((with_reducible refine qW (T:=TT) (b:=?_) ?_ ?_);rotate_left;exact rfl)|fail)
   refine ⟨⟨(i+1,rowK (parN g) q k (Q,H)),(R k (Nat.le_refl _)).next (rowK_get hq k),by simp only;rw [show k+1 - (i+1)=k - i by omega];exact hI⟩,by simp only;omega,?_⟩
   refine St.le_mk ?_ ?_ ?_<;>simp only [LE,EN,Nat.reduceEqDiff,reduceIte,Nat.reduceSub,eGr,eEdgs,Int.natCast_add,Int.natCast_one]
 ·have hs:=trav_stop (P:=parN g) (Ne:=Ne) (f:=Ne+1 - i) (i:=i) (st:=(Q,H)) hi
  rw [hs] at hI
  subst hI
  repeat' (first|((with_reducible refine qV tyOk fun K hK=>?_)<;>simp -dsimp (disch:=first|exact D|fail) only [go_sem,↓reduceIte,seval])|((with_reducible refine hK _ ?_);clear hK K)|refine Q1 ?_|((with_reducible refine qW (T:=TT) (b:=?_) ?_ ?_);rotate_left;exact rfl)|fail)
  simp -dsimp (disch:=first|exact D|fail) only [retQ,Tryz.results19,resVals,cellRV,resOf,St.rest,St.freeze,RT,go_sem,↓reduceIte,seval]
  rw [frz_eHp]
theorem hops_ok {P:Nat→Nat} {Ne v:Nat} (hP:Falls P Ne) (hv:v≤Ne) {fin:TSt} (h:trav P Ne (Ne+1) 0 ([v],[])=fin):fin.2.length=Ne∧(∀j,∀hj:j<fin.2.length,fin.2[j].edge<Ne∧toV P fin.2[j]≤Ne∧(pathL P v (toV P fin.2[j])).getLast?=some fin.2[j]) ∧
  ∀j,∀hj:j+1<fin.2.length,(pathL P v (toV P (fin.2[j]'(by omega)))).length≤(pathL P v (toV P fin.2[j+1])).length:=by
 obtain ⟨i,I,hi⟩:=trav_inv hP hv (Ne+1) 0 ([v],[]) (TInv.first P hv) (by omega)
 rw [h] at I hi
 refine ⟨I.count hP hi,fun j hj=>?_,fun j hj=>?_⟩
 ·obtain ⟨h1,h2,h3⟩:=I.hop j _ (List.getElem?_eq_getElem hj)
  exact ⟨h2,I.le _ (List.mem_of_getElem? h1),h3⟩
 ·obtain ⟨h1,_,_⟩:=I.hop j _ (List.getElem?_eq_getElem (by omega))
  obtain ⟨h2,_,_⟩:=I.hop (j+1) _ (List.getElem?_eq_getElem hj)
  exact I.sorted (j+1) (j+1+1) _ _ (by omega) h1 h2
set_option maxHeartbeats 32000000 in
theorem versionsTraverseDistance_sat (g:Gr) (v:Int) (hg:g.Fits):Sat Tryz.prog 5 [.agg (eGr g),oI v] (.v (oB true)):=by
 have c0:=graphsWork_sat
 have c1:=traverse_sat g v hg
 unfold eHps at c1
 cases hv:verSchema g v with
 | error e =>
  have spec:verTraverse g v=.error e:=by unfold verTraverse;rw [hv]
  have he:=verSchema_ne hv
  rw [spec] at c1
  unfold hOut rE at c1
  simp only at c1
  refine sS tyOk Tryz.func5 fun w0 m0 F0=>?_
  simp only [Tryz.ntmps5,envOf,Nat.reduceAdd]
  repeat' (first|((first|with_reducible refine qV tyOk fun K hK=>?_|((with_reducible refine CallJ.is ?_);(first|refine CallJ.pure (c0) ?_|refine CallJ.pure (c1) ?_)))<;>simp -dsimp (disch:=first|exact D|fail) only [go_sem,↓reduceIte,seval,eGr,eEdgs,he])|((with_reducible refine hK _ ?_);clear hK K)|refine Q1 ?_|((with_reducible refine qW (T:=TT) (b:=?_) ?_ ?_);rotate_left;exact rfl)|fail)
  simp -dsimp (disch:=first|exact D|fail) only [retQ,Tryz.results5,resVals,cellRV,resOf,St.rest,St.freeze,RT,go_sem,↓reduceIte,seval]
 | ok sv =>
 obtain ⟨O,hO,v0,v1,_⟩:=verSchema_ok hv
 obtain ⟨hlt,_,_,lO⟩:=verSchemas_ok hO
 obtain ⟨x,rfl⟩:∃x:Nat,v=(x:Int):=⟨v.toNat,by omega⟩
 have ok:=grOk_of hO
 have hP:Falls (parN g) g.edges.length:=ok.par
 obtain ⟨Ne,hE⟩:∃Ne,g.edges.length=Ne:=⟨_,rfl⟩
 rw [hE] at hlt lO hP
 have hx:x≤Ne:=by omega
 obtain ⟨fin,hfin⟩:∃fin,trav (parN g) Ne (Ne+1) 0 ([x],[])=fin:=⟨_,rfl⟩
 have spec:verTraverse g (x:Int)=.ok fin.2:=by unfold verTraverse;rw [hv];simp only [Int.toNat_natCast];rw [hE,hfin]
 obtain ⟨H1,H2,H3⟩:=hops_ok hP hx hfin
 obtain ⟨H,hH⟩:∃H,fin.2=H:=⟨_,rfl⟩
 rw [hH] at spec
 simp only [hH] at H1 H2 H3
 rw [spec] at c1
 unfold hOut rE at c1
 simp only at c1
 refine sS tyOk Tryz.func5 fun w0 m0 F0=>?_
 simp only [Tryz.ntmps5,envOf,Nat.reduceAdd]
 repeat' (first|((first|with_reducible refine qV tyOk fun K hK=>?_|((with_reducible refine CallJ.is ?_);(first|refine CallJ.pure (c0) ?_|refine CallJ.pure (c1) ?_)))<;>simp -dsimp (disch:=first|exact D|fail) only [go_sem,↓reduceIte,seval,eGr,eEdgs,hE,H1])|((with_reducible refine hK _ ?_);clear hK K)|refine Q1 ?_|((with_reducible refine qW (T:=TT) (b:=?_) ?_ ?_);rotate_left;exact rfl)|fail)
 refine AWP.loop (ι:={k:Nat // k≤Ne}) (fun k=>⟨94,[(1,.v (oI x)),(2,.v (.one (.ptr 2 0))),(7,.v (oI (if k.1=0 then 0 else ((pathL (parN g) x (toV (parN g) (H.getD (k.1 - 1) zHp))).length:Int)))),(32,.v (.one (.sl 2 (H.map eHp)))),(33,.v (oI Ne)),(34,.v (oI k.1))],[(2,eGr g)],[]⟩) (fun k=>Ne - k.1) ⟨0,Nat.zero_le _⟩ ?_ fun ⟨k,hk⟩=>?_
 ·refine St.le_mk ?_ ?_ ?_<;>simp only [LE,EN,Nat.reduceEqDiff,reduceIte,Nat.reduceSub,eGr,eEdgs,if_true,Int.natCast_zero]
 simp only at hk ⊢
 rcases Nat.lt_or_ge k Ne with hc|hc
 ·have hkH:k<H.length:=by omega
  obtain ⟨e1,e2,e3⟩:=H2 k hkH
  obtain ⟨h,hh⟩:∃h,H[k]=h:=⟨_,rfl⟩
  have gh:(H.map eHp).getD k []=eHp h:=by rw [getD_map_lt _ _ _ hkH,hh]
  rw [hh] at e1 e2 e3
  obtain ⟨W,hW⟩:∃W,pathL (parN g) x (toV (parN g) h)=W:=⟨_,rfl⟩
  rw [hW] at e3
  have W0:0<W.length:=by
   cases W with
   | nil=>cases e3
   | cons a r=>simp
  have Wl:W.length≤16:=by
   rw [←hW]
   unfold pathL
   have t1:=(List.takeWhile_sublist (l:=anc (parN g) x) (fun v=>v != (climb (parN g) (anc (parN g) x) (toV (parN g) h)).2)).length_le
   have t2:=anc_len (parN g) x
   have t3:=climb_len (P:=parN g) (u:=anc (parN g) x) (toV (parN g) h)
   simp only [List.length_append,List.length_map,List.length_reverse]
   omega
  have gW:(W.map eHp).getD (W.length - 1) []=eHp h:=by
   rw [getD_map_lt _ _ _ (by omega)]
   congr 1
   rw [List.getLast?_eq_getElem?,List.getElem?_eq_getElem (by omega)] at e3
   injection e3
  have w1:((W.length:Int) - 1).toNat=W.length - 1:=by omega
  obtain ⟨L0,hL0⟩:∃L0:Int,(if k=0 then 0 else ((pathL (parN g) x (toV (parN g) (H.getD (k - 1) zHp))).length:Int))=L0:=⟨_,rfl⟩
  have hL:L0≤(W.length:Int)∧0≤L0:=by
   rw [←hL0]
   by_cases k0:k=0
   ·rw [if_pos k0];omega
   ·rw [if_neg k0,getD_lt _ (by omega)]
    have:=H3 (k - 1) (by omega)
    simp only [show k - 1+1=k by omega,hh,hW] at this
    omega
  rw [hL0]
  have cp:=path_sat g x (toV (parN g) h) hg
  have sp:verPath g x (toV (parN g) h)=.ok W:=by
   have q1:verSchema g (toV (parN g) h:Nat)=.ok (O.getD (toV (parN g) h) zSch):=by
    unfold verSchema
    rw [hO]
    simp only [Int.toNat_natCast]
    rw [if_neg (by omega)]
   unfold verPath
   rw [hv]
   simp only
   rw [q1]
   simp only [Int.toNat_natCast,hW]
  rw [sp] at cp
  unfold hOut rE eHps at cp
  simp only at cp
  have nL:¬ (W.length:Int)<L0:=by omega
  have nW:¬ (W.length:Int)=0:=by omega
  have ge:=getD_edge ok (v:=h.edge+1) (by omega) (by omega)
  simp only [Nat.add_sub_cancel] at ge
  have n1:¬ (Ne:Int)≤(h.edge:Int):=by omega
  cases hb:h.back with
  | false =>
   have tv:toV (parN g) h=h.edge+1:=by unfold toV;rw [hb];rfl
   rw [tv,show ((h.edge+1:Nat):Int)=(h.edge:Int)+1 by omega] at cp
   repeat' (first|((first|with_reducible refine qV tyOk fun K hK=>?_|refine Q2 ?_|with_reducible refine yD tyOk mixed 6 (by kernel_rfl) fun K hK=>?_|((with_reducible refine CallJ.is ?_);(refine CallJ.pure (cp) ?_)))<;>simp -dsimp (disch:=first|exact D|fail) only [go_sem,↓reduceIte,seval,gh,eHp,hb,hE,n1,eGr,eEdgs,gW,w1,nL,nW,Option.getD_none])|((with_reducible refine hK _ ?_);clear hK K)|refine Q1 ?_|((with_reducible refine qW (T:=TT) (b:=?_) ?_ ?_);rotate_left;exact rfl)|fail)
   refine ⟨⟨k+1,by omega⟩,by simp only;omega,?_⟩
   have z1:(if k+1=0 then 0 else ((pathL (parN g) x (toV (parN g) (H.getD (k+1 - 1) zHp))).length:Int))=(W.length:Int):=by rw [if_neg (by omega),Nat.add_sub_cancel,getD_lt _ hkH,hh,hW]
   simp only [z1]
   refine St.le_mk ?_ ?_ ?_<;>simp only [LE,EN,Nat.reduceEqDiff,reduceIte,Nat.reduceSub,eGr,eEdgs]
  | true =>
   have tv:toV (parN g) h=parN g (h.edge+1):=by unfold toV;rw [hb];rfl
   rw [tv] at cp
   repeat' (first|((first|with_reducible refine qV tyOk fun K hK=>?_|refine Q2 ?_|with_reducible refine yD tyOk mixed 6 (by kernel_rfl) fun K hK=>?_|((with_reducible refine CallJ.is ?_);(refine CallJ.pure (cp) ?_)))<;>simp -dsimp (disch:=first|exact D|fail) only [go_sem,↓reduceIte,seval,gh,eHp,hb,hE,n1,eGr,eEdgs,ge,gW,w1,nL,nW,Option.getD_none])|((with_reducible refine hK _ ?_);clear hK K)|refine Q1 ?_|((with_reducible refine qW (T:=TT) (b:=?_) ?_ ?_);rotate_left;exact rfl)|fail)
   refine ⟨⟨k+1,by omega⟩,by simp only;omega,?_⟩
   have z1:(if k+1=0 then 0 else ((pathL (parN g) x (toV (parN g) (H.getD (k+1 - 1) zHp))).length:Int))=(W.length:Int):=by rw [if_neg (by omega),Nat.add_sub_cancel,getD_lt _ hkH,hh,hW]
   simp only [z1]
   refine St.le_mk ?_ ?_ ?_<;>simp only [LE,EN,Nat.reduceEqDiff,reduceIte,Nat.reduceSub,eGr,eEdgs]
 ·repeat' (first|((with_reducible refine qV tyOk fun K hK=>?_)<;>simp -dsimp (disch:=first|exact D|fail) only [go_sem,↓reduceIte,seval])|((with_reducible refine hK _ ?_);clear hK K)|refine Q1 ?_|((with_reducible refine qW (T:=TT) (b:=?_) ?_ ?_);rotate_left;exact rfl)|fail)
  simp -dsimp (disch:=first|exact D|fail) only [retQ,Tryz.results5,resVals,cellRV,resOf,St.rest,St.freeze,RT,go_sem,↓reduceIte,seval]
end Go.Bw
