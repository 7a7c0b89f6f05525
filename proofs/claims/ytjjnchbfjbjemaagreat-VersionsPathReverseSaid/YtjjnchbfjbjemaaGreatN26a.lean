/-
  WHAT IS PROVED HERE, of this translation: int_eval, anc_self, anc_pos, anc_parent, anc_next, anc_tw, path_fwd, path_bwd, get_snoc, TInv.snoc, TInv.step, stepK_get, .., AWPm.region, AWP.makeMap, verPath_err, verPath_ok, pathL_len, path_own, turned_sat, equalTurned_sat, mapTy38, fresh_edge, versionsPathReverse_sat.
  A theorem that ends in sat says what the function it names returns, whatever the state it is called in; the bounds on its arguments stand ahead of it.
-/
import Derived.Laws.MakeOwn
import Derived.Carry
import Derived.MapKept
import Derived.Test.YtjjnchbfjbjemaaGreatWzb
set_option linter.unusedSimpArgs false
set_option linter.unusedVariables false
namespace Go.Bw
section
variable (c:Chg→Chg→Int)
def swp (ds:List Chg) (i j:Nat):List Chg :=
 match ds[i]?,ds[j]? with
 | some x,some y=>(ds.set i y).set j x
 | _,_=>ds
def lessAt (ds:List Chg) (i j:Nat):Bool :=
 match ds[i]?,ds[j]? with
 | some x,some y=>decide (c x y<0)
 | _,_=>false
def down (a:Nat):Nat→List Chg→List Chg
 | 0,ds=>ds
 | j+1,ds=>if a<j+1∧lessAt c ds (j+1) j=true then down a j (swp ds (j+1) j) else ds
end
end Go.Bw
namespace Go.Bw
open Go.RowKit
section
variable {P:Program} {T:TypeId→Option TI} {w0:World} {m0:Mem} {F0:Home} {s s':St} {a:Act} {w:World} {m:Mem} {ω:Wh}
theorem int_eval {x:Operand} {ty:TypeId} {k:IntKind} {n:Int} (h:CI P w0 m0 F0 s a w m ω) (hx:evalO T s ty x=some (.v (.one (.int k n)))):a.eval x=.int k n:=by
 have hv:Rep m (a.eval x) (.int k n):=evalO_sound h hx
 generalize a.eval x=u at hv ⊢
 cases hv
 rfl
end
end Go.Bw
namespace Go.Bw
theorem anc_self (P:Nat→Nat) (v:Nat):v∈anc P v:=by
 rw [anc]
 split
 ·exact List.mem_cons_self ..
 ·exact List.mem_singleton.2 rfl
theorem anc_pos {P:Nat→Nat} {v q:Nat} (h:q∈anc P v) (h0:0<q) (hP:P v<v):anc P v=v::anc P (P v):=anc_succ (by have:=anc_le h;omega) hP
theorem anc_parent {P:Nat→Nat} {n v q:Nat} (hP:Falls P n) (hv:v≤n) (h:q∈anc P v) (h0:0<q):P q∈anc P v:=by
 induction v using Nat.strongRecOn with
 | _ v ih =>
  have hq:=anc_le h
  have hp:=hP v (by omega) hv
  have ea:=anc_pos h h0 hp
  rw [ea] at h ⊢
  rcases List.mem_cons.1 h with rfl|h
  ·exact List.mem_cons_of_mem _ (anc_self P _)
  ·exact List.mem_cons_of_mem _ (ih _ hp (by omega) h)
theorem anc_next {P:Nat→Nat} {n v q x:Nat} (hP:Falls P n) (hv:v≤n) (h:q∈anc P v) (h0:0<q) (hx:x∈anc P v) (hlt:P q<x):q≤x:=by
 induction v using Nat.strongRecOn with
 | _ v ih =>
  have hq:=anc_le h
  have hp:=hP v (by omega) hv
  have ea:=anc_pos h h0 hp
  rw [ea] at h hx
  rcases List.mem_cons.1 h with rfl|h
  ·rcases List.mem_cons.1 hx with rfl|hx
   ·exact Nat.le_refl _
   ·have:=anc_le hx;omega
  ·rcases List.mem_cons.1 hx with rfl|hx
   ·have:=anc_le h;omega
   ·exact ih _ hp (by omega) h hx
theorem anc_tw {P:Nat→Nat} {n v q:Nat} (hP:Falls P n) (hv:v≤n) (h:q∈anc P v) (h0:0<q):((anc P v).takeWhile fun w=>w != P q)=((anc P v).takeWhile fun w=>w != q)++[q]:=by
 induction v using Nat.strongRecOn with
 | _ v ih =>
  have hq:=anc_le h
  have hp:=hP v (by omega) hv
  have hpq:=hP q h0 (by omega)
  have ea:=anc_pos h h0 hp
  rw [ea] at h ⊢
  by_cases e:v=q
  ·subst e
   have e1:(anc P (P v)).takeWhile (fun w=>w != P v)=[]:=by
    rw [anc]
    split<;>simp [List.takeWhile_cons]
   rw [List.takeWhile_cons,if_pos (by simp;omega),List.takeWhile_cons,if_neg (by simp),e1]
   rfl
  ·have h:q∈anc P (P v):=by
    rcases List.mem_cons.1 h with h|h
    ·exact absurd h.symm e
    ·exact h
   rw [List.takeWhile_cons,if_pos (by simp;omega),List.takeWhile_cons,if_pos (by simpa using e),ih _ hp (by omega) h]
   rfl
theorem path_fwd {P:Nat→Nat} {v u:Nat} (h:u ∉ anc P v) (h0:0<u) (hp:P u<u):pathL P v u=pathL P v (P u)++[⟨u - 1,false⟩]:=by
 unfold pathL
 rw [climb_out h h0 hp]
 simp
theorem path_bwd {P:Nat→Nat} {n v q:Nat} (hP:Falls P n) (hv:v≤n) (h:q∈anc P v) (h0:0<q):pathL P v (P q)=pathL P v q++[⟨q - 1,true⟩]:=by
 unfold pathL
 rw [climb_in h,climb_in (anc_parent hP hv h h0)]
 simp only [List.reverse_nil,List.map_nil,List.append_nil]
 rw [anc_tw hP hv h h0,List.map_append]
 rfl
def toV (P:Nat→Nat) (h:Hp):Nat:=if h.back then P (h.edge+1) else h.edge+1
abbrev TSt:=List Nat×List Hp
def stepK (P:Nat→Nat) (q k:Nat) (st:TSt):TSt :=
 if P (k+1)=q∧k+1 ∉ st.1 then (st.1++[k+1],st.2++[⟨k,false⟩])
 else if k+1=q∧P (k+1) ∉ st.1 then (st.1++[P (k+1)],st.2++[⟨k,true⟩]) else st
def rowK (P:Nat→Nat) (q:Nat):Nat→TSt→TSt
 | 0,st=>st
 | k+1,st=>stepK P q k (rowK P q k st)
def dst (P:Nat→Nat) (v w:Nat):Nat:=(pathL P v w).length
structure TInv (P:Nat→Nat) (E v i k:Nat) (st:TSt):Prop where
 hd:st.1[0]?=some v
 nodup:st.1.Nodup
 le:∀w∈st.1,w≤E
 len:st.1.length=st.2.length+1
 hop:∀(j:Nat) (h:Hp),st.2[j]?=some h→st.1[j+1]?=some (toV P h)∧h.edge<E∧(pathL P v (toV P h)).getLast?=some h
 up:∀w∈st.1,w∈anc P v→∀x∈anc P v,w<x→x∈st.1
 down:∀w∈st.1,w ∉ anc P v→P w∈st.1
 sorted:∀(a b x y:Nat),a<b→st.1[a]?=some x→st.1[b]?=some y→dst P v x≤dst P v y
 bound:∀q,st.1[i]?=some q→∀w∈st.1,dst P v w≤dst P v q+1
 seen:∀(j q:Nat),st.1[j]?=some q→∀k',k'<E→(j<i∨(j=i∧k'<k))→(P (k'+1)=q→k'+1∈st.1)∧(k'+1=q→P (k'+1)∈st.1)
theorem get_snoc {α:Type} {l:List α} {x y:α} {j:Nat} (h:(l++[x])[j]?=some y):l[j]?=some y∨(j=l.length∧y=x):=by
 rcases Nat.lt_or_ge j l.length with hj|hj
 ·rw [List.getElem?_append_left hj] at h;exact .inl h
 ·rw [List.getElem?_append_right hj] at h
  rcases Nat.eq_zero_or_pos (j - l.length) with h0|h0
  ·rw [h0] at h
   exact .inr ⟨by omega,by simpa using h.symm⟩
  ·rw [List.getElem?_eq_none (by simp;omega)] at h
   cases h
theorem TInv.snoc {P:Nat→Nat} {E v i k:Nat} {st:TSt} {q u:Nat} {h:Hp} (I:TInv P E v i k st) (hq:st.1[i]?=some q) (hu:u ∉ st.1) (hE:u≤E) (ht:toV P h=u) (he:h.edge<E) (hp:pathL P v u=pathL P v q++[h])
  (hup:u∈anc P v→∀x∈anc P v,u<x→x∈st.1) (hdn:u ∉ anc P v→P u∈st.1) (hs:(P (k+1)=q→k+1∈st.1++[u])∧(k+1=q→P (k+1)∈st.1++[u])):TInv P E v i (k+1) (st.1++[u],st.2++[h]):=by
 have hqm:=List.mem_of_getElem? hq
 have hil:i<st.1.length:=(List.getElem?_eq_some_iff.1 hq).1
 have d1:dst P v u=dst P v q+1:=by unfold dst;rw [hp];simp
 have old:∀{j x:Nat},st.1[j]?=some x→(st.1++[u])[j]?=some x:=fun {j x} hx=>by rw [List.getElem?_append_left (List.getElem?_eq_some_iff.1 hx).1];exact hx
 refine ⟨old I.hd,?_,fun w hw=>?_,?_,fun j h' hj=>?_,fun w hw ha x hx hlt=>?_,fun w hw ha=>?_,fun a b x y hab hx hy=>?_,fun q' hq' w hw=>?_,fun j q' hq' k' hk' hc=>?_⟩
 ·refine List.nodup_append.2 ⟨I.nodup,by simp,fun a ha b hb=>?_⟩
  rw [List.mem_singleton.1 hb]
  rintro rfl
  exact hu ha
 ·rcases List.mem_append.1 hw with hw|hw
  ·exact I.le w hw
  ·rw [List.mem_singleton.1 hw];exact hE
 ·simp only [List.length_append,List.length_singleton]
  have:=I.len
  omega
 ·rcases get_snoc hj with hj|⟨rfl,rfl⟩
  ·obtain ⟨h1,h2,h3⟩:=I.hop j h' hj
   exact ⟨old h1,h2,h3⟩
  ·refine ⟨?_,he,?_⟩
   ·show (st.1++[u])[st.2.length+1]?=_
    rw [←I.len,ht,List.getElem?_append_right (Nat.le_refl _)]
    simp
   ·rw [ht,hp]
    simp
 ·rcases List.mem_append.1 hw with hw|hw
  ·exact List.mem_append_left _ (I.up w hw ha x hx hlt)
  ·rw [List.mem_singleton.1 hw] at ha hlt
   exact List.mem_append_left _ (hup ha x hx hlt)
 ·rcases List.mem_append.1 hw with hw|hw
  ·exact List.mem_append_left _ (I.down w hw ha)
  ·rw [List.mem_singleton.1 hw] at ha ⊢
   exact List.mem_append_left _ (hdn ha)
 ·rcases get_snoc hx with kx|⟨kx,kx2⟩
  ·rcases get_snoc hy with ky|⟨ky,ky2⟩
   ·exact I.sorted a b x y hab kx ky
   ·have:=I.bound q hq x (List.mem_of_getElem? kx)
    rw [ky2]
    omega
  ·rcases get_snoc hy with ky|⟨ky,ky2⟩
   ·have:=(List.getElem?_eq_some_iff.1 ky).1;omega
   ·rw [kx2,ky2];exact Nat.le_refl _
 ·rcases get_snoc hq' with hq'|⟨hq1,_⟩
  ·rcases List.mem_append.1 hw with hw|hw
   ·exact I.bound q' hq' w hw
   ·rw [List.mem_singleton.1 hw]
    rw [hq] at hq'
    injection hq' with hq'
    subst hq'
    omega
  ·omega
 ·rcases get_snoc hq' with hq'|⟨hq1,_⟩
  ·by_cases hk:j=i∧k'=k
   ·obtain ⟨rfl,rfl⟩:=hk
    rw [hq] at hq'
    injection hq' with hq'
    subst hq'
    exact hs
   ·have:=I.seen j q' hq' k' hk' (by omega)
    exact ⟨fun e=>List.mem_append_left _ (this.1 e),fun e=>List.mem_append_left _ (this.2 e)⟩
  ·have h1:j=st.1.length:=hq1
   omega
theorem TInv.step {P:Nat→Nat} {E v i k:Nat} {st:TSt} {q:Nat} (hP:Falls P E) (hv:v≤E) (I:TInv P E v i k st) (hq:st.1[i]?=some q) (hk:k<E):TInv P E v i (k+1) (stepK P q k st):=by
 have hqm:=List.mem_of_getElem? hq
 have hpk:=hP (k+1) (by omega) (by omega)
 unfold stepK
 by_cases h1:P (k+1)=q∧k+1 ∉ st.1
 ·rw [if_pos h1]
  have hna:k+1 ∉ anc P v:=fun ha=>by
   have hpa:=anc_parent hP hv ha (by omega)
   rw [h1.1] at hpa
   exact h1.2 (I.up q hqm hpa (k+1) ha (by omega))
  refine I.snoc hq h1.2 (by omega) (by simp [toV]) hk ?_ (fun ha=>absurd ha hna) (fun _=>by rw [h1.1];exact hqm) ⟨fun _=>by simp,fun e=>by omega⟩
  rw [path_fwd hna (by omega) hpk,h1.1]
  rfl
 rw [if_neg h1]
 by_cases h2:k+1=q∧P (k+1) ∉ st.1
 ·rw [if_pos h2]
  obtain ⟨rfl,h2⟩:=h2
  have ha:k+1∈anc P v:=Decidable.byContradiction fun hn=>h2 (I.down _ hqm hn)
  have hpa:=anc_parent hP hv ha (by omega)
  refine I.snoc hq h2 (by omega) (by simp [toV]) hk ?_ (fun _ x hx hlt=>?_) (fun hn=>absurd hpa hn) ⟨fun e=>by omega,fun _=>by simp⟩
  ·rw [path_bwd hP hv ha (by omega)]
   rfl
  ·have:=anc_next hP hv ha (by omega) hx hlt
   by_cases e:x=k+1
   ·rw [e];exact hqm
   ·exact I.up _ hqm ha x hx (by omega)
 rw [if_neg h2]
 refine ⟨I.hd,I.nodup,I.le,I.len,I.hop,I.up,I.down,I.sorted,I.bound,fun j q' hq' k' hk' hc=>?_⟩
 by_cases hkk:j=i∧k'=k
 ·obtain ⟨rfl,rfl⟩:=hkk
  rw [hq] at hq'
  injection hq' with hq'
  subst hq'
  exact ⟨fun e=>Decidable.byContradiction fun hn=>h1 ⟨e,hn⟩,fun e=>Decidable.byContradiction fun hn=>h2 ⟨e,hn⟩⟩
 ·exact I.seen j q' hq' k' hk' (by omega)
theorem stepK_get {P:Nat→Nat} {q k i x:Nat} {st:TSt} (h:st.1[i]?=some x):(stepK P q k st).1[i]?=some x:=by
 unfold stepK
 split
 ·rw [List.getElem?_append_left (List.getElem?_eq_some_iff.1 h).1];exact h
 ·split
  ·rw [List.getElem?_append_left (List.getElem?_eq_some_iff.1 h).1];exact h
  ·exact h
theorem rowK_get {P:Nat→Nat} {q i x:Nat} {st:TSt} (h:st.1[i]?=some x):∀k,(rowK P q k st).1[i]?=some x
 | 0=>h
 | k+1=>stepK_get (rowK_get h k)
theorem TInv.row {P:Nat→Nat} {E v i:Nat} {st:TSt} {q:Nat} (hP:Falls P E) (hv:v≤E) (I:TInv P E v i 0 st) (hq:st.1[i]?=some q):∀k,k≤E→TInv P E v i k (rowK P q k st)
 | 0,_=>I
 | k+1,hk=>(TInv.row hP hv I hq k (by omega)).step hP hv (rowK_get hq k) (by omega)
theorem TInv.next {P:Nat→Nat} {E v i:Nat} {st:TSt} {q:Nat} (I:TInv P E v i E st) (hq:st.1[i]?=some q):TInv P E v (i+1) 0 st :=
 ⟨I.hd,I.nodup,I.le,I.len,I.hop,I.up,I.down,I.sorted,fun q' hq' w hw=>by
  have h1:=I.bound q hq w hw
  have h2:=I.sorted i (i+1) q q' (by omega) hq hq'
  omega,fun j q' hq' k' hk' hc=>I.seen j q' hq' k' hk' (by omega)⟩
theorem TInv.first (P:Nat→Nat) {E v:Nat} (hv:v≤E):TInv P E v 0 0 ([v],[]):=by
 refine ⟨rfl,by simp,fun w hw=>by rw [List.mem_singleton.1 hw];exact hv,rfl,fun j h hj=>by simp at hj,fun w hw _ x hx hlt=>?_,fun w hw hn=>?_,fun a b x y hab hx hy=>?_,fun q hq w hw=>?_,fun j q _ k' _ hc=>by omega⟩
 ·rw [List.mem_singleton.1 hw] at hlt
  have:=anc_le hx
  omega
 ·rw [List.mem_singleton.1 hw] at hn
  exact absurd (anc_self P v) hn
 ·have:=(List.getElem?_eq_some_iff.1 hy).1
  simp at this
  omega
 ·have h0:q=v:=by
   have:=List.mem_of_getElem? hq
   exact List.mem_singleton.1 this
  rw [h0,List.mem_singleton.1 hw]
  omega
theorem TInv.all {P:Nat→Nat} {E v i:Nat} {st:TSt} (hP:Falls P E) (I:TInv P E v i 0 st) (hi:st.1.length≤i):∀w,w≤E→w∈st.1:=by
 have hs:∀q∈st.1,∀k',k'<E→(P (k'+1)=q→k'+1∈st.1)∧(k'+1=q→P (k'+1)∈st.1):=fun q hq k' hk'=>by
  obtain ⟨j,hj,rfl⟩:=List.mem_iff_getElem.1 hq
  exact I.seen j _ (List.getElem?_eq_getElem hj) k' hk' (.inl (by omega))
 have h0:∀w,w∈st.1→0∈st.1:=by
  intro w
  induction w using Nat.strongRecOn with
  | _ w ih =>
   intro hw
   rcases Nat.eq_zero_or_pos w with e|e
   ·rw [←e];exact hw
   ·have hE:=I.le w hw
    have h1:=(hs w hw (w - 1) (by omega)).2 (by omega)
    rw [show w - 1+1=w by omega] at h1
    exact ih _ (hP w e hE) h1
 have z:=h0 v (List.mem_of_getElem? I.hd)
 intro w
 induction w using Nat.strongRecOn with
 | _ w ih =>
  intro hw
  rcases Nat.eq_zero_or_pos w with e|e
  ·rw [e];exact z
  ·have h1:=ih _ (hP w e hw) (by have:=hP w e hw;omega)
   have h2:=(hs _ h1 (w - 1) (by omega)).1 (by rw [show w - 1+1=w by omega])
   rw [show w - 1+1=w by omega] at h2
   exact h2
def up (P:Nat→Nat) (u v:Nat):List Nat:=(anc P v).takeWhile fun x=>decide (x ∉ anc P u)
theorem climb_eq {P:Nat→Nat} {n:Nat} {u:List Nat} (hP:Falls P n) (u0:0∈u) {m:Nat} (hm:m≤n) :
  (climb P u m).1=((anc P m).takeWhile fun x=>decide (x ∉ u)).map (fun v=>v - 1)∧(climb P u m).2∈anc P m∧∀x∈anc P m,x∈u→x≤(climb P u m).2:=by
 induction m using Nat.strongRecOn with
 | _ m ih =>
  by_cases hin:m∈u
  ·rw [climb_in hin]
   refine ⟨?_,anc_self P m,fun x hx _=>anc_le hx⟩
   have:∃r,anc P m=m::r:=by
    rw [anc]
    split
    ·exact ⟨_,rfl⟩
    ·exact ⟨[],rfl⟩
   obtain ⟨r,hr⟩:=this
   rw [hr,List.takeWhile_cons,if_neg (by simp [hin])]
   rfl
  ·have m0:0<m:=by
    rcases Nat.eq_zero_or_pos m with h0|h0
    ·exact absurd (h0▸u0) hin
    ·exact h0
   have hp:=hP m m0 hm
   obtain ⟨h1,h2,h3⟩:=ih _ hp (by omega)
   rw [climb_out hin m0 hp,anc_succ m0 hp]
   refine ⟨?_,List.mem_cons_of_mem _ h2,fun x hx hu=>?_⟩
   ·rw [List.takeWhile_cons,if_pos (by simp [hin]),List.map_cons,h1]
   ·rcases List.mem_cons.1 hx with rfl|hx
    ·exact absurd hu hin
    ·exact h3 x hx hu
theorem tw_eq {B:List Nat} {c:Nat} (hc:c∈B):∀{l:List Nat},l.Pairwise (· > ·)→c∈l→(∀x∈l,c<x→x ∉ B)→(l.takeWhile fun v=>v != c)=l.takeWhile fun x=>decide (x ∉ B)
 | [],_,h,_=>by cases h
 | x::r,hd,h,hB=>by
  have hd':=List.pairwise_cons.1 hd
  rw [List.takeWhile_cons,List.takeWhile_cons]
  by_cases hx:x=c
  ·subst hx
   rw [if_neg (by simp),if_neg (by simp [hc])]
  ·have hr:c∈r:=by
    rcases List.mem_cons.1 h with h|h
    ·exact absurd h.symm hx
    ·exact h
   have hxc:c<x:=hd'.1 c hr
   rw [if_pos (by simp [hx]),if_pos (by simpa using hB x (List.mem_cons_self ..) hxc),tw_eq hc hd'.2 hr fun y hy=>hB y (List.mem_cons_of_mem _ hy)]
theorem path_eq {P:Nat→Nat} {n a b:Nat} (hP:Falls P n) (ha:a≤n) (hb:b≤n) :
  pathL P a b=(up P b a).map (fun v=>⟨v - 1,true⟩)++((up P a b).map fun v=>(⟨v - 1,false⟩:Hp)).reverse:=by
 have u0:=anc_has0 hP ha
 obtain ⟨h1,h2,h3⟩:=climb_eq hP u0 hb
 have h4:=climb_end hP u0 hb
 unfold pathL
 rw [tw_eq h2 (anc_down a) h4 fun x hx hlt hxb=>by have:=h3 x hxb hx;omega,h1]
 unfold up
 rw [←List.map_reverse,List.map_map,←List.map_reverse]
 rfl
def turn (h:Hp):Hp:=⟨h.edge,!h.back⟩
theorem path_turn {P:Nat→Nat} {n a b:Nat} (hP:Falls P n) (ha:a≤n) (hb:b≤n):(pathL P b a).reverse.map turn=pathL P a b:=by
 rw [path_eq hP ha hb,path_eq hP hb ha]
 simp only [List.reverse_append,List.reverse_reverse,List.map_append,List.map_map,List.map_reverse]
 rfl
theorem up_pos {P:Nat→Nat} {n u v:Nat} (hP:Falls P n) (hu:u≤n) {x:Nat} (h:x∈up P u v):0<x∧x ∉ anc P u:=by
 have h1:x ∉ anc P u:=by
  have:=List.all_takeWhile (p:=fun x=>decide (x ∉ anc P u)) (l:=anc P v)
  have:=List.all_eq_true.1 this x h
  simpa using this
 refine ⟨?_,h1⟩
 rcases Nat.eq_zero_or_pos x with h0|h0
 ·exact absurd (h0▸anc_has0 hP hu) h1
 ·exact h0
theorem up_mem {P:Nat→Nat} {u v x:Nat} (h:x∈up P u v):x∈anc P v:=(List.takeWhile_sublist _).subset h
theorem up_nodup (P:Nat→Nat) (u v:Nat):(up P u v).Nodup:=((anc_down v).imp (fun h=>Nat.ne_of_gt h)).sublist (List.takeWhile_sublist _)
theorem path_nodup {P:Nat→Nat} {n a b:Nat} (hP:Falls P n) (ha:a≤n) (hb:b≤n):((pathL P a b).map Hp.edge).Nodup:=by
 rw [path_eq hP ha hb]
 simp only [List.map_append,List.map_map,List.map_reverse]
 have inj:∀{l:List Nat},l.Nodup→(∀x∈l,0<x)→(l.map fun v=>v - 1).Nodup:=by
  intro l hl h0
  induction l with
  | nil=>simp
  | cons x r ih =>
   rw [List.map_cons,List.nodup_cons]
   rw [List.nodup_cons] at hl
   refine ⟨fun h=>?_,ih hl.2 fun y hy=>h0 y (List.mem_cons_of_mem _ hy)⟩
   obtain ⟨y,hy,e⟩:=List.mem_map.1 h
   have h1:=h0 y (List.mem_cons_of_mem _ hy)
   have h2:=h0 x (List.mem_cons_self ..)
   have:y=x:=by omega
   exact hl.1 (this▸hy)
 refine List.nodup_append.2 ⟨inj (up_nodup P b a) fun x hx=>(up_pos hP hb hx).1,?_,?_⟩
 ·exact List.pairwise_reverse.2 ((inj (up_nodup P a b) fun x hx=>(up_pos hP ha hx).1).imp fun h=>h.symm)
 ·intro x hx y hy e
  obtain ⟨p,hp,rfl⟩:=List.mem_map.1 hx
  obtain ⟨q,hq,rfl⟩:=List.mem_map.1 (List.mem_reverse.1 hy)
  have h1:=up_pos hP hb hp
  have h2:=up_pos hP ha hq
  have e':p - 1=q - 1:=e
  have:p=q:=by omega
  subst this
  exact h1.2 (up_mem hq)
end Go.Bw
namespace Go.Bw
open Go.RowKit
section
variable {P:Program} {T:TypeId→Option TI} {w0:World} {m0:Mem} {F0:Home} {s s':St} {a a':Act} {w w':World} {m m':Mem} {ω ω':Wh} {b:Nat} {ks:List Int}
def nowHome (F0:Home) (s:St) (ω:Wh):Home:=⟨fun k=>∃κ id,s.live κ id∧ω.f κ id k,F0.box,F0.row⟩
theorem CI.nowOwn (h:CI P w0 m0 F0 s a w m ω):∀k,(nowHome F0 s ω).own k→w0.heap.size≤k∨F0 k:=fun k ⟨κ,id,hl,hf⟩=>(h.fresh κ id hl k hf).2.1
theorem CI.now (h:CI P w0 m0 F0 s a w m ω):CI P w m (nowHome F0 s ω) s a w m ω where
 size:=h.size
 defers:=h.defers
 keeps:=Keeps.refl _ _
 mle:=Mem.le_refl _
 mold:=fun _ _ _=>rfl
 ok:=h.ok
 env:=h.env
 box:=h.box
 row:=h.row
 fresh:=fun κ id hl k hk=>⟨(h.fresh κ id hl k hk).1,.inr ⟨κ,id,hl,hk⟩,(h.fresh κ id hl k hk).2.2⟩
 apart:=h.apart
 home:=⟨h.home.big,h.home.box,h.home.row⟩
 good:=h.goodFor h.nowOwn
theorem CI.back (h:CI P w0 m0 F0 s a w m ω) (h':CI P w m (nowHome F0 s ω) s' a' w' m' ω'):CI P w0 m0 F0 s' a' w' m' ω' where
 size:=h'.size
 defers:=h'.defers
 keeps:=h.keeps.chain h'.keeps h.nowOwn
 mle:=Mem.le_trans h.mle h'.mle
 mold:=fun x hx hn=>(h'.mold x (Nat.lt_of_lt_of_le hx h.keeps.size) fun hf=>(h.nowOwn _ hf).elim (by omega) hn).trans (h.mold x hx hn)
 ok:=h'.ok
 env:=h'.env
 box:=h'.box
 row:=h'.row
 fresh:=fun κ id hl k hk=>⟨(h'.fresh κ id hl k hk).1,(h'.fresh κ id hl k hk).2.1.elim (fun q=>.inl (Nat.le_trans h.keeps.size q)) (h.nowOwn k),(h'.fresh κ id hl k hk).2.2⟩
 apart:=h'.apart
 home:=⟨h'.home.big,h'.home.box,h'.home.row⟩
 good:=h.good
def kvs (ks:List Int):List (Value×Value):=ks.map fun k=>(.int .i64 k,.bool true)
structure MapAt (w0:World) (s:St) (w:World) (m:Mem) (ω:Wh) (b:Nat) (ks:List Int):Prop where
 new:w0.heap.size≤b
 holds:∃es clk,w.heap[b]?=some (.map es clk)∧es.toList.map (fun e=>(e.key,e.val))=kvs ks
 own:∀κ id,s.live κ id→¬ ω.f κ id b
 mem:∀x v,m x=some v→x.block≠b
theorem MapAt.lt (h:MapAt w0 s w m ω b ks):b<w.heap.size:=by
 obtain ⟨_,_,h,_⟩:=h.holds
 exact (Array.getElem?_eq_some_iff.1 h).1
theorem MapAt.back (h:CI P w0 m0 F0 s a w m ω) (hM:MapAt w0 s w m ω b ks) (h':CI P w m (nowHome F0 s ω) s' a' w' m' ω'):MapAt w0 s' w' m' ω' b ks:=by
 have nb:¬ (nowHome F0 s ω).own b:=fun ⟨κ,id,hl,hf⟩=>hM.own κ id hl hf
 have lt:=hM.lt
 refine ⟨hM.new,?_,fun κ id hl hf=>(h'.fresh κ id hl b hf).2.1.elim (by omega) nb,fun x v hx hb=>?_⟩
 ·obtain ⟨es,clk,h1,h2⟩:=hM.holds
  exact ⟨es,clk,(h'.keeps.block b lt nb).trans h1,h2⟩
 ·have e:=h'.mold x (by rw [hb];exact lt) (by rw [hb];exact nb)
  exact hM.mem x v (e▸hx) hb
theorem MapAt.put (h:MapAt w0 s w m ω b ks) (d:Option Tmp) (x:A):MapAt w0 (s.putO d x) w m ω b ks:=by
 cases d<;>exact ⟨h.new,h.holds,h.own,h.mem⟩
def ConcM (P:Program) (w0:World) (m0:Mem) (F0:Home) (b:Nat) (ks:List Int) (s:St) (a:Act) (w:World):Prop:=∃m ω,CI P w0 m0 F0 s a w m ω∧MapAt w0 s w m ω b ks
def PostM (P:Program) (w0:World) (m0:Mem) (F0:Home) (b:Nat) (Q:Exit→List Int→St→Prop) (e:Exit) (a:Act) (w:World):Prop:=∃ks s,Q e ks s∧ConcM P w0 m0 F0 b ks s a w
def AWPm (P:Program) (w0:World) (m0:Mem) (F0:Home) (b:Nat) (c:Code) (Q:Exit→List Int→St→Prop) (ks:List Int) (s:St):Prop :=
 ∀a w,ConcM P w0 m0 F0 b ks s a w→c.wp P (PostM P w0 m0 F0 b Q) a w
theorem ConcM.back (h:CI P w0 m0 F0 s a w m ω) (hM:MapAt w0 s w m ω b ks) (h':Conc P w m (nowHome F0 s ω) s' a' w'):ConcM P w0 m0 F0 b ks s' a' w':=by
 obtain ⟨m',ω',h'⟩:=h'
 exact ⟨m',ω',h.back h',hM.back h h'⟩
section rules
variable {Q:Exit→List Int→St→Prop}
theorem AWPm.of {c:Code} (h:∀w1 m1 F1,AWP P w1 m1 F1 c (fun e s'=>Q e ks s') s):AWPm P w0 m0 F0 b c Q ks s:=by
 intro a w ⟨m,ω,hC,hM⟩
 refine wp_mono (h _ _ _ a w ⟨m,ω,hC.now⟩) fun e a' w' ⟨s',hq,hC'⟩=>⟨ks,s',hq,ConcM.back hC hM hC'⟩
def thenM (R:List Int→St→Prop) (Q:Exit→List Int→St→Prop):Exit→List Int→St→Prop
 | .normal,ks,s=>R ks s
 | e,ks,s=>Q e ks s
def blockM (id:Nat) (Q:Exit→List Int→St→Prop):Exit→List Int→St→Prop
 | .exit id',ks,s=>if id'=id then Q .normal ks s else Q (.exit id') ks s
 | e,ks,s=>Q e ks s
theorem AWPm.seq {x y:Code} (h:AWPm P w0 m0 F0 b x (thenM (AWPm P w0 m0 F0 b y Q) Q) ks s):AWPm P w0 m0 F0 b (.seq x y) Q ks s:=by
 intro a w hc
 refine wp_seq (wp_mono (h a w hc) fun e a' w' he=>?_)
 obtain ⟨ks',s',h1,h2⟩:=he
 cases e with
 | normal=>exact h1 a' w' h2
 | _=>exact ⟨ks',s',h1,h2⟩
theorem AWPm.block {id:Nat} {c:Code} (h:AWPm P w0 m0 F0 b c (blockM id Q) ks s):AWPm P w0 m0 F0 b (.block id c) Q ks s:=by
 intro a w hc
 refine wp_block (wp_mono (h a w hc) fun e a' w' he=>?_)
 obtain ⟨ks',s',h1,h2⟩:=he
 cases e with
 | exit id' =>
  simp only [blockM] at h1
  simp only [Exit.inBlock]
  split at h1
  ·rename_i hid;rw [if_pos hid];exact ⟨ks',s',h1,h2⟩
  ·rename_i hid;rw [if_neg hid];exact ⟨ks',s',h1,h2⟩
 | _=>exact ⟨ks',s',h1,h2⟩
theorem AWPm.skip (h:Q .normal ks s):AWPm P w0 m0 F0 b .skip Q ks s:=fun _ _ hc=>wp_skip ⟨ks,s,h,hc⟩
theorem AWPm.exit {id:Nat} (h:Q (.exit id) ks s):AWPm P w0 m0 F0 b (.exit id) Q ks s:=fun _ _ hc=>wp_exit ⟨ks,s,h,hc⟩
theorem AWPm.cond {c:Operand} {x y:Code} (v:Bool) (hv:boolOf (evalO T s 0 c)=some v) (h1:v=true→AWPm P w0 m0 F0 b x Q ks s) (h2:v=false→AWPm P w0 m0 F0 b y Q ks s):AWPm P w0 m0 F0 b (.cond c x y) Q ks s:=by
 intro a w hc
 obtain ⟨m,ω,h,hM⟩:=hc
 have he:a.eval c=.bool v:=bool_of h (boolOf_some hv)
 exact wp_cond_split he (fun e=>h1 e a w ⟨m,ω,h,hM⟩) (fun e=>h2 e a w ⟨m,ω,h,hM⟩)
theorem ConcM.le (h:ConcM P w0 m0 F0 b ks s a w) (hl:St.le s' s):ConcM P w0 m0 F0 b ks s' a w:=by
 obtain ⟨m,ω,h,hM⟩:=h
 refine ⟨m,ω,h.weaken hl.1 hl.2.1 hl.2.2.1 hl.2.2.2,hM.new,hM.holds,fun κ id hv=>hM.own κ id ?_,hM.mem⟩
 cases κ with
 | false =>
  obtain ⟨x,hx⟩:=Option.isSome_iff_exists.1 hv
  show (look s.box id).isSome
  rw [hl.2.2.1 _ _ hx]
  rfl
 | true =>
  obtain ⟨x,hx⟩:=Option.isSome_iff_exists.1 hv
  show (look s.row id).isSome
  rw [hl.2.2.2 _ _ hx]
  rfl
theorem AWPm.weak {c:Code} (hl:St.le s' s) (h:AWPm P w0 m0 F0 b c Q ks s'):AWPm P w0 m0 F0 b c Q ks s:=fun a w hc=>h a w (hc.le hl)
theorem AWPm.loop {ι:Type} {c:Code} (I:ι→List Int×St) (μ:ι→Nat) (i0:ι) (hk:(I i0).1=ks) (h0:St.le (I i0).2 s)
  (round:∀i,AWPm P w0 m0 F0 b c (thenM (fun ks' s'=>∃j,μ j<μ i∧(I j).1=ks'∧St.le (I j).2 s') Q) (I i).1 (I i).2):AWPm P w0 m0 F0 b (.loop c) Q ks s:=by
 intro a w hc
 have key:∀n i a w,μ i=n→ConcM P w0 m0 F0 b (I i).1 (I i).2 a w→∀(f:Frame) (k:List Item) (cs:List Frame),
   ∃e a' w',PostM P w0 m0 F0 b Q e a' w'∧Arrives P (lone (f.at a (.code c::.inLoop c::k)) cs w) f k cs e a' w':=by
  intro n
  induction n using Nat.strongRecOn with
  | _ n ih =>
   intro i a w hn hC f k cs
   obtain ⟨e,a₁,w₁,⟨ks1,s1,hq,hc1⟩,harr⟩:=round i a w hC f (.inLoop c::k) cs
   cases e with
   | normal =>
    obtain ⟨j,hlt,hks,hle⟩:=hq
    subst hks
    obtain ⟨e₂,a₂,w₂,hq₂,harr₂⟩:=ih (μ j) (hn▸hlt) j a₁ w₁ rfl (hc1.le hle) f k cs
    exact ⟨e₂,a₂,w₂,hq₂,.of_steps (Steps.trans harr (.one step_inLoop)) harr₂⟩
   | exit id=>exact ⟨_,a₁,w₁,⟨ks1,s1,hq,hc1⟩,.pass (x:=.inLoop c) rfl (fun _ _=>.inl (by simp)) harr⟩
   | goto l=>exact ⟨_,a₁,w₁,⟨ks1,s1,hq,hc1⟩,.pass (x:=.inLoop c) rfl (fun _ _=>.inl (by simp)) harr⟩
   | ret=>exact ⟨_,a₁,w₁,⟨ks1,s1,hq,hc1⟩,.pass (x:=.inLoop c) rfl (fun _ _=>.inl (by simp)) harr⟩
   | panic ch=>exact ⟨_,a₁,w₁,⟨ks1,s1,hq,hc1⟩,.pass (x:=.inLoop c) rfl (fun _ _=>.inl (by simp)) harr⟩
   | outgrown=>exact ⟨_,a₁,w₁,⟨ks1,s1,hq,hc1⟩,.pass (x:=.inLoop c) rfl (fun _ _=>.inl (by simp)) harr⟩
 intro f k cs
 obtain ⟨e,a',w',hq,harr⟩:=key _ i0 a w rfl (hk▸hc.le h0) f k cs
 exact ⟨e,a',w',hq,.of_steps (.one step_loop) harr⟩
theorem thenM_exit {R:List Int→St→Prop} {id:Nat} (h:Q (.exit id) ks s):thenM R Q (.exit id) ks s:=h
theorem blockM_exit {id:Nat} (h:Q .normal ks s):blockM id Q (.exit id) ks s:=by
 show (if id=id then Q .normal ks s else Q (.exit id) ks s)
 rw [if_pos rfl]
 exact h
theorem AWPm.at {c:Code} (e0:Exit) (s2:St) (h1:∀w1 m1 F1,AWP P w1 m1 F1 c (Gq P w1 m1 F1 fun e s'=>e=e0∧St.le s2 s') s) (h2:Q e0 ks s2):AWPm P w0 m0 F0 b c Q ks s:=by
 intro a w ⟨m,ω,hC,hM⟩
 refine wp_mono (h1 _ _ _ a w ⟨m,ω,hC.now⟩) fun e a' w' ⟨s',hq,hC'⟩=>?_
 obtain ⟨s'',⟨he,hs⟩,hC2⟩:=hq a' w' hC'
 subst he
 exact ⟨ks,s2,h2,(ConcM.back hC hM hC2).le hs⟩
end rules
def MapTy (P:Program) (t:TypeId):Prop:=∃kt et inf,P.underlying t=some (.map kt et)∧P.underlying kt=some (.int .i64)∧P.info? et=some inf∧inf.zero=some (.bool false)
theorem isKey_i64 (n:Int):MapKept.IsKey (.int .i64) (.int .i64 n):=by simp [MapKept.IsKey]
theorem kvs_keys {es:List MapEntry} (h:es.map (fun e=>(e.key,e.val))=kvs ks):∀x∈es,(∃n∈ks,x.key=.int .i64 n)∧x.val=.bool true:=by
 intro x hx
 have:(x.key,x.val)∈kvs ks:=h▸List.mem_map.2 ⟨x,hx,rfl⟩
 obtain ⟨n,hn,e⟩:=List.mem_map.1 this
 injection e with e1 e2
 exact ⟨⟨n,hn,e1.symm⟩,e2.symm⟩
theorem kvs_has {es:List MapEntry} (h:es.map (fun e=>(e.key,e.val))=kvs ks) {n:Int} (hn:n∈ks):∃x∈es,x.key=.int .i64 n:=by
 have:((.int .i64 n,.bool true):Value×Value)∈kvs ks:=List.mem_map.2 ⟨n,hn,rfl⟩
 rw [←h] at this
 obtain ⟨x,hx,e⟩:=List.mem_map.1 this
 injection e with e1 e2
 exact ⟨x,hx,e1⟩
theorem kvs_find {es:List MapEntry} (h:es.map (fun e=>(e.key,e.val))=kvs ks) (n:Int) :
  (n ∉ ks∧Instr.findNow (.int .i64) (.int .i64 n) es 0=some none)∨(n∈ks∧∃j e,Instr.findNow (.int .i64) (.int .i64 n) es 0=some (some (j,.bool true))∧es[j]?=some e∧e.key=.int .i64 n∧e.val=.bool true):=by
 have hk:=kvs_keys h
 rcases MapKept.findNow_spec (isKey_i64 n) es 0 (fun x hx=>by obtain ⟨⟨q,_,e⟩,_⟩:=hk x hx;rw [e];exact isKey_i64 q) with ⟨h1,h2⟩|⟨j,e,h1,h2,h3⟩
 ·exact .inl ⟨fun hn=>by obtain ⟨x,hx,e⟩:=kvs_has h hn;exact h2 x hx e,h1⟩
 ·obtain ⟨⟨q,hq,e1⟩,e2⟩:=hk e (List.mem_of_getElem? h2)
  rw [h3] at e1
  injection e1 with _ e1
  subst e1
  exact .inr ⟨hq,j,e,by rw [h1,e2,Nat.zero_add],h2,h3,e2⟩
theorem run_look {t:TypeId} (hT:MapTy P t) {es:Array MapEntry} {clk:Nat} (hb:w.heap[b]?=some (.map es clk)) (he:es.toList.map (fun e=>(e.key,e.val))=kvs ks) (n:Int) :
  (Instr.lookup t (.map (some b)) (.int .i64 n) false).run P w=.ok (.bool (decide (n∈ks))) w:=by
 obtain ⟨kt,et,inf,h1,h2,h3,h4⟩:=hT
 rcases kvs_find he n with ⟨hn,hf⟩|⟨hn,j,e,hf,_,_,_⟩
 ·simp [Instr.lookup,run_underlying h1,MapKept.run_getObj_map hb,MapKept.run_checkKey h2 (isKey_i64 n),MapKept.run_findKey h2 hf,Result.andThen,zeroValue,typeInfo,h3,h4,hn]
 ·simp [Instr.lookup,run_underlying h1,MapKept.run_getObj_map hb,MapKept.run_checkKey h2 (isKey_i64 n),MapKept.run_findKey h2 hf,Result.andThen,hn]
def ins (ks:List Int) (n:Int):List Int:=if n∈ks then ks else ks++[n]
theorem raw_eval {ty:TypeId} {x:Operand} {v:Value} (h:CI P w0 m0 F0 s a w m ω) (hx:evalO T s ty x=some (.v (.one (.raw v)))):a.eval x=v:=by
 have hv:Rep m (a.eval x) (.raw v):=evalO_sound h hx
 generalize a.eval x=u at hv ⊢
 cases hv
 rfl
theorem bool_eval {ty:TypeId} {x:Operand} {v:Bool} (h:CI P w0 m0 F0 s a w m ω) (hx:evalO T s ty x=some (.v (.one (.bool v)))):a.eval x=.bool v:=by
 have hv:Rep m (a.eval x) (.bool v):=evalO_sound h hx
 generalize a.eval x=u at hv ⊢
 cases hv
 rfl
theorem run_upd {t:TypeId} (hT:MapTy P t) {es:Array MapEntry} {clk:Nat} (hb:w.heap[b]?=some (.map es clk)) (he:es.toList.map (fun e=>(e.key,e.val))=kvs ks) (n:Int) :
  ∃es' clk',(Instr.mapUpdate t (.map (some b)) (.int .i64 n) (.bool true)).run P w=.ok () {w with heap:=w.heap.setIfInBounds b (.map es' clk')}∧es'.toList.map (fun e=>(e.key,e.val))=kvs (ins ks n):=by
 obtain ⟨kt,et,inf,h1,h2,h3,h4⟩:=hT
 rcases kvs_find he n with ⟨hn,hf⟩|⟨hn,j,e,hf,hj,hk,hv⟩
 ·refine ⟨es.push ⟨.int .i64 n,.bool true,clk⟩,clk+1,?_,?_⟩
  ·simp [Instr.mapUpdate,run_underlying h1,MapKept.run_getObj_map hb,MapKept.run_checkKey h2 (isKey_i64 n),MapKept.run_findKey h2 hf,MapKept.run_setObj_map _ hb,Result.andThen]
  ·unfold ins
   rw [if_neg hn]
   simp [kvs] at he ⊢
   exact he
 ·have hj':es[j]?=some e:=by simpa using hj
  refine ⟨es.modify j fun e=>{e with key:=.int .i64 n,val:=.bool true},clk,?_,?_⟩
  ·simp [Instr.mapUpdate,run_underlying h1,MapKept.run_getObj_map hb,MapKept.run_checkKey h2 (isKey_i64 n),MapKept.run_findKey h2 hf,hj',hk,MapKept.run_keyThatStays (isKey_i64 n),MapKept.run_setObj_map _ hb,Result.andThen]
  ·unfold ins
   rw [if_pos hn,←he]
   apply List.ext_getElem?
   intro i
   simp only [List.getElem?_map,Array.getElem?_toList,Array.getElem?_modify]
   by_cases hij:j=i
   ·subst hij
    rw [if_pos rfl,hj']
    simp [hk,hv]
   ·rw [if_neg hij]
theorem assignK_raw {n:Nat} {K:St→Prop} (v:Value):assignK s (some n) K (some (.v (.one (.raw v))))=(n<s.n∧K (s.put n (.v (.one (.raw v))))):=rfl
def IsLook (P:Program) (T:TypeId→Option TI) (b:Nat) (o:Oper) (s:St) (d:Nat) (n:Int):Prop :=
 o.guard=none∧o.dst=some d∧d<s.n∧∃t x y ty,o.op=.lookup t x y false∧MapTy P t∧evalO T s 0 x=some (.v (.one (.raw (.map (some b)))))∧evalO T s ty y=some (.v (.one (.int .i64 n)))
def IsUpd (P:Program) (T:TypeId→Option TI) (b:Nat) (o:Oper) (s:St) (n:Int):Prop :=
 o.guard=none∧o.dst=none∧∃t x y z ty ty',o.op=.mapUpdate t x y z∧MapTy P t∧evalO T s 0 x=some (.v (.one (.raw (.map (some b)))))∧evalO T s ty y=some (.v (.one (.int .i64 n)))∧evalO T s ty' z=some (.v (.one (.bool true)))
def VOpsM (P:Program) (T:TypeId→Option TI) (b:Nat) (ops:Array Oper):List Oper→List Int→St→(List Int→St→Prop)→Prop
 | [],ks,s,K=>K ks s
 | o::l,ks,s,K=>VOps P T ops [o] s (fun s'=>VOpsM P T b ops l ks s' K)∨(∃d n,IsLook P T b o s d n∧VOpsM P T b ops l ks (s.put d (.v (.one (.bool (decide (n∈ks)))))) K)∨∃n,IsUpd P T b o s n∧VOpsM P T b ops l (ins ks n) s K
theorem VOpsM.step {ops:Array Oper} {o:Oper} {l:List Oper} {K:List Int→St→Prop} (h:∀K2:St→Prop,(∀s',VOpsM P T b ops l ks s' K→K2 s')→VOps P T ops [o] s K2):VOpsM P T b ops (o::l) ks s K:=.inl (h _ fun _ h=>h)
theorem VOpsM.look {ops:Array Oper} {l:List Oper} {K:List Int→St→Prop} {t ty ty':TypeId} {x y:Operand} {d:Nat} {pos:String} {af:Array Edge} (n:Int) (hT:MapTy P t) (hx:evalO T s 0 x=some (.v (.one (.raw (.map (some b))))))
  (hy:evalO T s ty' y=some (.v (.one (.int .i64 n)))) (hd:d<s.n) (h:VOpsM P T b ops l ks (s.put d (.v (.one (.bool (decide (n∈ks)))))) K):VOpsM P T b ops (⟨some d,.lookup t x y false,ty,pos,af,Option.none⟩::l) ks s K :=
 .inr (.inl ⟨d,n,⟨rfl,rfl,hd,t,x,y,ty',rfl,hT,hx,hy⟩,h⟩)
theorem VOpsM.upd {ops:Array Oper} {l:List Oper} {K:List Int→St→Prop} {t ty ty1 ty2:TypeId} {x y z:Operand} {pos:String} {af:Array Edge} (n:Int) (hT:MapTy P t) (hx:evalO T s 0 x=some (.v (.one (.raw (.map (some b))))))
  (hy:evalO T s ty1 y=some (.v (.one (.int .i64 n)))) (hz:evalO T s ty2 z=some (.v (.one (.bool true)))) (h:VOpsM P T b ops l (ins ks n) s K):VOpsM P T b ops (⟨Option.none,.mapUpdate t x y z,ty,pos,af,Option.none⟩::l) ks s K :=
 .inr (.inr ⟨n,⟨rfl,rfl,t,x,y,z,ty1,ty2,rfl,hT,hx,hy,hz⟩,h⟩)
theorem VOpsM.fin {ops:Array Oper} {K:List Int→St→Prop} (h:K ks s):VOpsM P T b ops [] ks s K:=h
theorem VOpsM_sound (hT:TabOk P T) {ops:Array Oper} {K:List Int→St→Prop} {Q:Exit→Act→World→Prop} (hQ:∀ks s a w,K ks s→ConcM P w0 m0 F0 b ks s a w→Q .normal a w) :
  ∀(l:List Oper) (k:Nat) (ks:List Int) (s:St) (a:Act) (w:World),ops.toList.drop k=l→VOpsM P T b ops l ks s K→ConcM P w0 m0 F0 b ks s a w→wpOps P ops Q (List.range' k l.length) a w
 | [],k,ks,s,a,w,_,hV,hC=>hQ ks s a w hV hC
 | o::l,k,ks,s,a,w,hl,hV,hC=>by
  have hk:ops[k]?=some o:=by
   have:(ops.toList.drop k)[0]?=some o:=by rw [hl];rfl
   simpa [List.getElem?_drop] using this
  have hl':ops.toList.drop (k+1)=l:=by
   have:(ops.toList.drop k).drop 1=l:=by rw [hl];rfl
   simpa [List.drop_drop] using this
  obtain ⟨m,ω,h,hM⟩:=hC
  simp only [List.length_cons,List.range'_succ,wpOps,hk]
  rcases hV with hV|⟨d,n,⟨hg,hd,hdn,t,x,y,ty,hop,hTy,hx,hy⟩,hV⟩|⟨n,⟨hg,hd,t,x,y,z,ty,ty',hop,hTy,hx,hy,hz⟩,hV⟩
  ·simp only [VOps] at hV
   split at hV
   ·rename_i hg
    rw [if_pos (guardOf_sound h hg)]
    exact .inl (VOp_sound hT hV h.now _ _ fun s' a' w' hK hc=>VOpsM_sound hT hQ l (k+1) ks s' a' w' hl' hK (ConcM.back h hM hc))
   ·rename_i hg
    rw [if_neg (by rw [guardOf_sound h hg];simp)]
    obtain ⟨h1,h2⟩:=pk_elim hV
    exact VOpsM_sound hT hQ l (k+1) ks _ _ w hl' h2 ⟨m,ω,h.putO h1 arep_undef,hM.put _ _⟩
   ·cases hV
  ·have hw:Region.wanted o (yielded ops a.tmps)=true:=by simp [Region.wanted,hg]
   rw [if_pos hw]
   obtain ⟨es,clk,hb,he⟩:=hM.holds
   have hrun:(execOp a.eval o).run P w=.ok (.value (.bool (decide (n∈ks)))) w:=by
    unfold execOp
    simp only [hop,raw_eval h hx,int_eval h hy,Sem.run_bind,run_look hTy hb he n,Result.andThen_ok,Sem.run_pure]
   exact .inl (gives_of_run (R:=fun v w'=>v=.bool (decide (n∈ks))∧w'=w) hrun ⟨rfl,rfl⟩ _ _ fun v w' ⟨hv,hw'⟩=>by
    subst hv hw'
    rw [hd]
    exact VOpsM_sound hT hQ l (k+1) ks _ _ _ hl' hV ⟨m,ω,h.put hdn (Rep.bool _),hM.put (some d) _⟩)
  ·have hw:Region.wanted o (yielded ops a.tmps)=true:=by simp [Region.wanted,hg]
   rw [if_pos hw]
   obtain ⟨es,clk,hb,he⟩:=hM.holds
   obtain ⟨es',clk',hr,he'⟩:=run_upd hTy hb he n
   have lt:=hM.lt
   have hgr:w.grownBy {w with heap:=w.heap.setIfInBounds b (.map es' clk')} (some b) :=
    ⟨rfl,rfl,rfl,by simp,fun k hk hne=>(MapKept.heap_set hb).2 k (fun e=>hne (by rw [e]))⟩
   have hM':∀u:Unit,MapAt w0 s {w with heap:=w.heap.setIfInBounds b (.map es' clk')} m ω b (ins ks n):=fun _=>⟨hM.new,⟨es',clk',(MapKept.heap_set hb).1,he'⟩,hM.own,hM.mem⟩
   have hC':=h.touch hgr (.inl hM.new) hM.own hM.mem
   refine .inl ?_
   unfold Oper.wp
   have hrun:(execOp a.eval o).run P w=.ok .skip {w with heap:=w.heap.setIfInBounds b (.map es' clk')}:=by
    unfold execOp
    simp only [hop,raw_eval h hx,int_eval h hy,bool_eval h hz,Sem.run_bind,hr,Result.andThen_ok,Sem.run_pure]
   rw [hrun,Oper.upon_skip]
   rw [hd]
   exact VOpsM_sound hT hQ l (k+1) _ _ _ _ hl' hV ⟨m,ω,hC',hM' ()⟩
theorem AWPm.region (hT:TabOk P T) {id:Nat} {Q:Exit→List Int→St→Prop} {l:List Oper} (h:∀K:List Int→St→Prop,(∀ks' s',Q .normal ks' s'→K ks' s')→VOpsM P T b l.toArray l ks s K):AWPm P w0 m0 F0 b (.region id l.toArray false) Q ks s:=by
 intro a w hc
 refine wp_region ?_
 have:=VOpsM_sound hT (ops:=l.toArray) (K:=Q .normal) (Q:=PostM P w0 m0 F0 b Q) (fun ks s a w h1 h2=>⟨ks,s,h1,h2⟩) l 0 ks s a w (by simp) (h _ fun _ _ h=>h) hc
 have hlen:l.length=l.toArray.size:=by simp
 rwa [←List.range_eq_range',hlen] at this
theorem AWP.makeMap (hT:TabOk P T) {id d:Nat} {t ty:TypeId} {pos:String} {af:Array Edge} {l:List Oper} {c:Code} {Q:Exit→St→Prop} (hd:d<s.n)
  (h:∀b,VOpsM P T b (⟨some d,.makeMap t Option.none,ty,pos,af,Option.none⟩::l).toArray l [] (s.put d (.v (.one (.raw (.map (some b)))))) fun ks s'=>AWPm P w0 m0 F0 b c (fun e _ s=>Q e s) ks s') :
  AWP P w0 m0 F0 (.seq (.region id (⟨some d,.makeMap t Option.none,ty,pos,af,Option.none⟩::l).toArray false) c) Q s:=by
 intro a w ⟨m,ω,hC⟩
 refine wp_seq (wp_region ?_)
 have hsz:(⟨some d,.makeMap t Option.none,ty,pos,af,Option.none⟩::l:List Oper).toArray.size=l.length+1:=by simp
 rw [hsz,List.range_eq_range',List.range'_succ]
 simp only [wpOps,List.getElem?_toArray,List.getElem?_cons_zero]
 rw [if_pos (by simp [Region.wanted])]
 have hrun:(execOp a.eval ⟨some d,.makeMap t Option.none,ty,pos,af,Option.none⟩).run P w=.ok (.value (.map (some w.heap.size))) (w.alloc (.map #[] 0)):=by
  unfold execOp
  simp only [Option.map_none,Sem.run_bind,run_makeMap,Result.andThen_ok,Sem.run_pure]
 refine .inl (gives_of_run (R:=fun v w'=>v=.map (some w.heap.size)∧w'=w.alloc (.map #[] 0)) hrun ⟨rfl,rfl⟩ _ _ fun v w' ⟨hv,hw'⟩=>?_)
 subst hv hw'
 have hbl:Below w.heap.size w (w.alloc (.map #[] 0)):=(Below.refl _ w).alloc (Nat.le_refl _) _
 have hC1:=hC.grow (m':=m) hbl (Mem.le_refl _) (fun _ _=>rfl) (fun x v hx=>by
  have:=hC.ok x v hx
  have hlt:=World.block_lt_of_cell? w x this
  rw [←this]
  exact World.cell?_of_block (hbl.block _ hlt))
 have hM:MapAt w0 (s.put d (.v (.one (.raw (.map (some w.heap.size)))))) (w.alloc (.map #[] 0)) m ω w.heap.size []:=by
  refine ⟨hC.keeps.size,⟨#[],0,heap_alloc_new w _,rfl⟩,fun κ id hl hf=>?_,fun x v hx hb=>?_⟩
  ·have:=(hC.fresh κ id (by cases κ<;>exact hl) _ hf).1
   omega
  ·have:=World.block_lt_of_cell? w x (hC.ok x v hx)
   omega
 refine VOpsM_sound hT ?_ l 1 [] _ _ _ rfl (h w.heap.size) ⟨m,ω,hC1.put hd (Rep.raw _ rfl),hM⟩
 intro ks s' a' w' hK hc
 exact wp_mono (hK a' w' hc) fun e a2 w2 ⟨ks2,s2,h1,m2,ω2,h2,_⟩=>⟨s2,h1,m2,ω2,h2⟩
end
end Go.Bw
namespace Go.Bw
open Go.Proofs
theorem verPath_err {g:Gr} {a b:Int} {e:Int} (h:verPath g a b=.error e):e≠0∧∃e',verPath g b a=.error e':=by
 unfold verPath at h ⊢
 cases ha:verSchema g a with
 | error q =>
  rw [ha] at h
  simp only at h
  injection h with h
  refine ⟨h▸verSchema_ne ha,?_⟩
  cases hb:verSchema g b with
  | error q'=>exact ⟨q',rfl⟩
  | ok s=>exact ⟨q,rfl⟩
 | ok s =>
  rw [ha] at h
  simp only at h
  cases hb:verSchema g b with
  | error q' =>
   rw [hb] at h
   simp only at h
   injection h with h
   exact ⟨h▸verSchema_ne hb,q',rfl⟩
  | ok s'=>rw [hb] at h;cases h
theorem verPath_ok {g:Gr} {a b:Int} {p:List Hp} (h:verPath g a b=.ok p):∃O x y,verSchemas g=.ok O∧a=((x:Nat):Int)∧b=((y:Nat):Int)∧x<O.length∧y<O.length∧p=pathL (parN g) x y:=by
 unfold verPath at h
 cases ha:verSchema g a with
 | error q=>rw [ha] at h;cases h
 | ok s =>
  rw [ha] at h
  simp only at h
  cases hb:verSchema g b with
  | error q=>rw [hb] at h;cases h
  | ok s' =>
   rw [hb] at h
   simp only at h
   injection h with h
   obtain ⟨O,hO,a0,a1,_⟩:=verSchema_ok ha
   obtain ⟨O',hO',b0,b1,_⟩:=verSchema_ok hb
   rw [hO] at hO'
   injection hO' with hO'
   subst hO'
   exact ⟨O,a.toNat,b.toNat,hO,by omega,by omega,by omega,by omega,h.symm⟩
theorem pathL_len (P:Nat→Nat) (x y:Nat):(pathL P x y).length≤x+1+y:=by
 unfold pathL
 have t1:=(List.takeWhile_sublist (l:=anc P x) (fun v=>v != (climb P (anc P x) y).2)).length_le
 have t2:=anc_len P x
 have t3:=climb_len (P:=P) (u:=anc P x) y
 simp only [List.length_append,List.length_map,List.length_reverse]
 omega
set_option maxHeartbeats 32000000 in
theorem path_own (g:Gr) (x y:Nat) {O:List Sch} (hg:g.Fits) (hO:verSchemas g=.ok O) (hxO:x<O.length) (hyO:y<O.length) :
  SatM Tryz.prog 10 [.agg (eGr g),oI x,oI y] [] [] (.tup [.one (.ref 6 0 (pathL (parN g) x y).length),oI 0]) [] [(6,⟨2,(pathL (parN g) x y).map eHp,[]⟩)]:=by
 have ca:=verSchema_sat g x hg
 have cb:=verSchema_sat g y hg
 obtain ⟨hlt,_,_,lO⟩:=verSchemas_ok hO
 have ha:verSchema g (x:Int)=.ok (O.getD x zSch):=by
  unfold verSchema
  rw [hO]
  simp only [Int.toNat_natCast]
  rw [if_neg (by omega)]
 have hb:verSchema g (y:Int)=.ok (O.getD y zSch):=by
  unfold verSchema
  rw [hO]
  simp only [Int.toNat_natCast]
  rw [if_neg (by omega)]
 have hx:x≤g.edges.length:=by omega
 have hy:y≤g.edges.length:=by omega
 have ok:=grOk_of hO
 have hP:Falls (parN g) g.edges.length:=ok.par
 rw [ha] at ca
 rw [hb] at cb
 unfold sOut rE at ca cb
 simp only at ca cb
 have an:=ancestors_sat g x ok hx (by omega)
 obtain ⟨u,hu⟩:∃u,anc (parN g) x=u:=⟨_,rfl⟩
 have u0:0∈u:=by rw [←hu];exact anc_has0 hP hx
 have lu:u.length≤8:=by have:=anc_len (parN g) x;rw [hu] at this;omega
 have ule:∀v∈u,v≤x:=fun v hv=>anc_le (hu▸hv)
 obtain ⟨Dw,hD⟩:∃Dw,(climb (parN g) u y).1=Dw:=⟨_,rfl⟩
 obtain ⟨M,hM⟩:∃M,(climb (parN g) u y).2=M:=⟨_,rfl⟩
 have Min:M∈u:=by rw [←hM];exact climb_end hP u0 hy
 have lD:Dw.length≤8:=by have:=climb_len (P:=parN g) (u:=u) y;rw [hD] at this;omega
 have ud:u.Pairwise (· > ·):=by rw [←hu];exact anc_down x
 obtain ⟨Dn,hDn⟩:∃Dn,(Dw.map fun e=>(⟨e,false⟩:Hp))=Dn:=⟨_,rfl⟩
 have lDn:Dn.length=Dw.length:=by rw [←hDn,List.length_map]
 unfold pathL
 rw [hu,hD,hM]
 rw [hu] at an
 have lnu:(natI u).length=u.length:=natI_len u
 refine sM tyOk [] [6] Tryz.func10 fun w0 m0 F0=>?_
 simp only [Tryz.ntmps10,envOf,Nat.reduceAdd]
 repeat' (first|((first|with_reducible refine qV tyOk fun K hK=>?_|refine Q2 ?_|((with_reducible first|refine qS ?_ ?_|refine qT ?_ ?_|refine qU ?_ ?_)<;>(intro h;try simp only [NM] at h)))<;>simp -dsimp (disch:=first|exact D|fail) only [go_sem,↓reduceIte,seval,eGr,eEdgs])|((with_reducible refine hK _ ?_);clear hK K)|refine Q1 ?_|((with_reducible refine qW (T:=TT) (b:=?_) ?_ ?_);rotate_left;exact rfl)|((with_reducible refine yS ?_ ?_)<;>(intro h;try simp only [NM] at h)))
 refine AWP.midB ⟨78,[(1,.v (oI x)),(2,.v (oI y)),(3,.v (.one (.ptr 3 0))),(7,.v (oI 0))],[(3,eGr g)],[]⟩ ?_ ?_
 ·refine AWP.loop (ι:={k:Nat // k≤2}) (fun k=>⟨78,[(1,.v (oI x)),(2,.v (oI y)),(3,.v (.one (.ptr 3 0))),(7,.v (oI 0)),(20,.v (.one (.ref 20 0 2))),(21,.v (oI 2)),(22,.v (oI k.1))],[(3,eGr g)],[(20,⟨1,[[.int .i64 x],[.int .i64 y]],[]⟩)]⟩) (fun k=>2 - k.1) ⟨0,by omega⟩ ?_ fun ⟨k,hk⟩=>?_
  ·refine St.le_mk ?_ ?_ ?_<;>simp only [LE,EN,Nat.reduceEqDiff,reduceIte,Nat.reduceSub,eGr,eEdgs,Int.natCast_zero]
  have g0:([[.int .i64 x],[.int .i64 y]]:List (List L)).getD 0 []=[.int .i64 x]:=rfl
  have g1:([[.int .i64 x],[.int .i64 y]]:List (List L)).getD 1 []=[.int .i64 y]:=rfl
  have c2:((2:Nat):Int)=2:=rfl
  simp only at hk ⊢
  rcases (show k=0∨k=1∨k=2 by omega) with rfl|rfl|rfl
  ·repeat' (first|((first|with_reducible refine qV tyOk fun K hK=>?_|refine Q2 ?_|((with_reducible first|refine qS ?_ ?_|refine qT ?_ ?_|refine qU ?_ ?_)<;>(intro h;try simp only [NM] at h))|((with_reducible refine CallJ.is ?_);(first|refine CallJ.pure (ca) ?_|((apply CallJ.lentI);(focus (simp -dsimp (disch:=first|exact D|fail) only [go_sem,↓reduceIte,seval,eGr,eEdgs,eSch,g0,Option.getD_none,Int.natCast_zero];rfl));(focus (first|exact (ca)))))))<;>simp -dsimp (disch:=first|exact D|fail) only [go_sem,↓reduceIte,seval,eGr,eEdgs,eSch,g0,Option.getD_none,Int.natCast_zero])|((with_reducible refine hK _ ?_);clear hK K)|refine Q1 ?_|((with_reducible refine qW (T:=TT) (b:=?_) ?_ ?_);rotate_left;exact rfl)|((with_reducible refine yS ?_ ?_)<;>(intro h;try simp only [NM] at h)))
   refine ⟨⟨1,by omega⟩,by simp only;omega,?_⟩
   refine St.le_mk ?_ ?_ ?_<;>simp only [LE,EN,Nat.reduceEqDiff,reduceIte,Nat.reduceSub,eGr,eEdgs,Int.natCast_one]
  ·repeat' (first|((first|with_reducible refine qV tyOk fun K hK=>?_|refine Q2 ?_|((with_reducible first|refine qS ?_ ?_|refine qT ?_ ?_|refine qU ?_ ?_)<;>(intro h;try simp only [NM] at h))|((with_reducible refine CallJ.is ?_);(first|refine CallJ.pure (cb) ?_|((apply CallJ.lentI);(focus (simp -dsimp (disch:=first|exact D|fail) only [go_sem,↓reduceIte,seval,eGr,eEdgs,eSch,g1,Option.getD_none,Int.natCast_one];rfl));(focus (first|exact (cb)))))))<;>simp -dsimp (disch:=first|exact D|fail) only [go_sem,↓reduceIte,seval,eGr,eEdgs,eSch,g1,Option.getD_none,Int.natCast_one])|((with_reducible refine hK _ ?_);clear hK K)|refine Q1 ?_|((with_reducible refine qW (T:=TT) (b:=?_) ?_ ?_);rotate_left;exact rfl)|((with_reducible refine yS ?_ ?_)<;>(intro h;try simp only [NM] at h)))
   refine ⟨⟨2,by omega⟩,by simp only;omega,?_⟩
   refine St.le_mk ?_ ?_ ?_<;>simp only [LE,EN,Nat.reduceEqDiff,reduceIte,Nat.reduceSub,eGr,eEdgs,c2]
  ·repeat' (first|((first|with_reducible refine qV tyOk fun K hK=>?_|refine Q2 ?_|((with_reducible first|refine qS ?_ ?_|refine qT ?_ ?_|refine qU ?_ ?_)<;>(intro h;try simp only [NM] at h)))<;>simp -dsimp (disch:=first|exact D|fail) only [go_sem,↓reduceIte,seval,c2])|((with_reducible refine hK _ ?_);clear hK K)|refine Q1 ?_|((with_reducible refine qW (T:=TT) (b:=?_) ?_ ?_);rotate_left;exact rfl)|((with_reducible refine yS ?_ ?_)<;>(intro h;try simp only [NM] at h)))
   refine Gq.done ⟨rfl,?_⟩
   refine St.le_mk ?_ ?_ ?_<;>simp only [LE,EN,Nat.reduceEqDiff,reduceIte,Nat.reduceSub,eGr,eEdgs]
 repeat' (first|((first|with_reducible refine qV tyOk fun K hK=>?_|refine Q2 ?_|((with_reducible first|refine qS ?_ ?_|refine qT ?_ ?_|refine qU ?_ ?_)<;>(intro h;try simp only [NM] at h))|((with_reducible refine CallJ.is ?_);(first|refine CallJ.pure (an) ?_|((apply CallJ.lentI);(focus (simp -dsimp (disch:=first|exact D|fail) only [go_sem,↓reduceIte,seval,eGr,eEdgs];rfl));(focus (first|exact (an)))))))<;>simp -dsimp (disch:=first|exact D|fail) only [go_sem,↓reduceIte,seval,eGr,eEdgs])|((with_reducible refine hK _ ?_);clear hK K)|refine Q1 ?_|((with_reducible refine qW (T:=TT) (b:=?_) ?_ ?_);rotate_left;exact rfl)|((with_reducible refine yS ?_ ?_)<;>(intro h;try simp only [NM] at h)))
 refine AWP.midB ⟨78,[(7,.v (oI 0)),(12,.v (.one (.sl 1 ((natI u).map eInt1)))),(13,.v (.one (.ref 13 0 0))),(14,.v (.one (.ref 14 0 Dw.length))),(15,.v (oI M))],[(3,eGr g)],[(13,⟨2,[],[]⟩),(14,⟨2,(Dw.map fun e=>(⟨e,false⟩:Hp)).map eHp,[]⟩)]⟩ ?_ ?_
 ·refine AWP.loop (ι:={p:Nat×List Nat // p.1≤y∧p.2.length+p.1≤y∧p.2++(climb (parN g) u p.1).1=Dw∧(climb (parN g) u p.1).2=M}) (fun p=>⟨78,[(3,.v (.one (.ptr 3 0))),(7,.v (oI 0)),(12,.v (.one (.sl 1 ((natI u).map eInt1)))),(13,.v (.one (.ref 13 0 0))),(14,.v (.one (.ref 14 0 p.1.2.length))),(15,.v (oI p.1.1))],[(3,eGr g)],[(13,⟨2,[],[]⟩),(14,⟨2,(p.1.2.map fun e=>(⟨e,false⟩:Hp)).map eHp,[]⟩)]⟩) (fun p=>p.1.1) ⟨(y,[]),Nat.le_refl _,by simp,hD,hM⟩ ?_ fun ⟨⟨m,d⟩,hm,hd,hmD,hmM⟩=>?_
  ·refine St.le_mk ?_ ?_ ?_<;>simp only [LE,EN,Nat.reduceEqDiff,reduceIte,Nat.reduceSub,eGr,eEdgs,List.length_nil,List.map_nil]
  simp only at hm hd hmD hmM ⊢
  have ct:=containsInt_sat (natI u) m (by omega)
  rw [elem_natI] at ct
  by_cases hin:m∈u
  ·rw [decide_eq_true hin] at ct
   rw [climb_in hin] at hmD hmM
   simp only [List.append_nil] at hmD hmM
   subst hmD hmM
   repeat' (first|((first|with_reducible refine qV tyOk fun K hK=>?_|refine Q2 ?_|((with_reducible first|refine qS ?_ ?_|refine qT ?_ ?_|refine qU ?_ ?_)<;>(intro h;try simp only [NM] at h))|((with_reducible refine CallJ.is ?_);(first|refine CallJ.pure (ct) ?_|((apply CallJ.lentI);(focus (simp -dsimp (disch:=first|exact D|fail) only [go_sem,↓reduceIte,seval];rfl));(focus (first|exact (ct)))))))<;>simp -dsimp (disch:=first|exact D|fail) only [go_sem,↓reduceIte,seval])|((with_reducible refine hK _ ?_);clear hK K)|refine Q1 ?_|((with_reducible refine qW (T:=TT) (b:=?_) ?_ ?_);rotate_left;exact rfl)|((with_reducible refine yS ?_ ?_)<;>(intro h;try simp only [NM] at h)))
   refine Gq.done ⟨rfl,?_⟩
   refine St.le_mk ?_ ?_ ?_<;>simp only [LE,EN,Nat.reduceEqDiff,reduceIte,Nat.reduceSub,eGr,eEdgs]
  ·rw [decide_eq_false hin] at ct
   have m0:0<m:=by
    rcases Nat.eq_zero_or_pos m with h0|h0
    ·exact absurd (h0▸u0) hin
    ·exact h0
   have hp:=ok.par m m0 (by omega)
   rw [climb_out hin m0 hp] at hmD hmM
   simp only at hmD hmM
   have ge:=getD_edge ok m0 (by omega)
   have w1:((m:Int) - 1).toNat=m - 1:=by omega
   have w2:(m:Int) - 1=((m - 1:Nat):Int):=by omega
   repeat' (first|((first|with_reducible refine qV tyOk fun K hK=>?_|refine Q2 ?_|((with_reducible first|refine qS ?_ ?_|refine qT ?_ ?_|refine qU ?_ ?_)<;>(intro h;try simp only [NM] at h))|((with_reducible refine CallJ.is ?_);(first|refine CallJ.pure (ct) ?_|((apply CallJ.lentI);(focus (simp -dsimp (disch:=first|exact D|fail) only [go_sem,↓reduceIte,seval,eGr,eEdgs,ge,w2,Int.toNat_natCast,Option.getD_none];rfl));(focus (first|exact (ct)))))))<;>simp -dsimp (disch:=first|exact D|fail) only [go_sem,↓reduceIte,seval,eGr,eEdgs,ge,w2,Int.toNat_natCast,Option.getD_none])|((with_reducible refine hK _ ?_);clear hK K)|refine Q1 ?_|((with_reducible refine qW (T:=TT) (b:=?_) ?_ ?_);rotate_left;exact rfl)|((with_reducible refine yS ?_ ?_)<;>(intro h;try simp only [NM] at h)))
   refine ⟨⟨(parN g m,d++[m - 1]),by simp only;omega,by simp;omega,by simpa using hmD,hmM⟩,by simp only;omega,?_⟩
   refine St.le_mk ?_ ?_ ?_<;>simp only [LE,EN,Nat.reduceEqDiff,reduceIte,Nat.reduceSub,eGr,eEdgs,eHp,List.map_append,List.map_cons,List.map_nil,List.length_append,List.length_cons,List.length_nil,Nat.zero_add]
 repeat' (first|((first|with_reducible refine qV tyOk fun K hK=>?_|refine Q2 ?_|((with_reducible first|refine qS ?_ ?_|refine qT ?_ ?_|refine qU ?_ ?_)<;>(intro h;try simp only [NM] at h)))<;>simp -dsimp (disch:=first|exact D|fail) only [go_sem,↓reduceIte,seval])|((with_reducible refine hK _ ?_);clear hK K)|refine Q1 ?_|((with_reducible refine qW (T:=TT) (b:=?_) ?_ ?_);rotate_left;exact rfl)|((with_reducible refine yS ?_ ?_)<;>(intro h;try simp only [NM] at h)))
 have tw:∀k,(∀j,∀q:j<k,∀r:j<u.length,u[j]≠M)→∀j,∀q:j<k,∀r:j<u.length,(u[j] != M)=true:=fun k h j q r=>by simpa using h j q r
 refine AWP.midB ⟨78,[(7,.v (oI 0)),(13,.v (.one (.ref 13 0 (u.takeWhile fun v=>v != M).length))),(14,.v (.one (.ref 14 0 Dw.length)))],[],[(13,⟨2,((u.takeWhile fun v=>v != M).map fun v=>(⟨v - 1,true⟩:Hp)).map eHp,[]⟩),(14,⟨2,(Dw.map fun e=>(⟨e,false⟩:Hp)).map eHp,[]⟩)]⟩ ?_ ?_
 ·refine AWP.loop (ι:={k:Nat // k≤u.length∧∀j,∀q:j<k,∀r:j<u.length,u[j]≠M}) (fun k=>⟨78,[(7,.v (oI 0)),(13,.v (.one (.ref 13 0 k.1))),(14,.v (.one (.ref 14 0 Dw.length))),(15,.v (oI M)),(57,.v (.one (.sl 1 ((natI u).map eInt1)))),(58,.v (oI u.length)),(59,.v (oI k.1))],[],[(13,⟨2,((u.take k.1).map fun v=>(⟨v - 1,true⟩:Hp)).map eHp,[]⟩),(14,⟨2,(Dw.map fun e=>(⟨e,false⟩:Hp)).map eHp,[]⟩)]⟩) (fun k=>u.length - k.1) ⟨0,Nat.zero_le _,fun j q=>by omega⟩ ?_ fun ⟨k,hk,hkj⟩=>?_
  ·refine St.le_mk ?_ ?_ ?_<;>simp only [LE,EN,Nat.reduceEqDiff,reduceIte,Nat.reduceSub,List.take_zero,List.map_nil,lnu]
  simp only at hk hkj ⊢
  rcases Nat.lt_or_ge k u.length with hc|hc
  ·obtain ⟨v,hv⟩:∃v,u[k]=v:=⟨_,rfl⟩
   have gv:((natI u).map eInt1).getD k []=[.int .i64 (v:Int)]:=by
    rw [getD_map_lt _ _ _ (by omega)]
    simp only [natI,List.getElem_map,hv]
    rfl
   have ltk:(u.take k).length=k:=by simp;omega
   have vle:v≤x:=ule v (hv▸List.getElem_mem hc)
   by_cases hvM:v=M
   ·subst hvM
    have e1:(u.takeWhile fun w=>w != v)=u.take k:=takeWhile_stop hc (fun j q=>tw k hkj j q (by omega)) (by rw [hv];simp)
    rw [e1,ltk]
    repeat' (first|((first|with_reducible refine qV tyOk fun K hK=>?_|refine Q2 ?_|((with_reducible first|refine qS ?_ ?_|refine qT ?_ ?_|refine qU ?_ ?_)<;>(intro h;try simp only [NM] at h)))<;>simp -dsimp (disch:=first|exact D|fail) only [go_sem,↓reduceIte,seval,gv,Option.getD_none])|((with_reducible refine hK _ ?_);clear hK K)|refine Q1 ?_|((with_reducible refine qW (T:=TT) (b:=?_) ?_ ?_);rotate_left;exact rfl)|((with_reducible refine yS ?_ ?_)<;>(intro h;try simp only [NM] at h)))
    refine Gq.done ⟨rfl,?_⟩
    refine St.le_mk ?_ ?_ ?_<;>simp only [LE,EN,Nat.reduceEqDiff,reduceIte,Nat.reduceSub]
   ·have hvM':¬ (v:Int)=(M:Int):=by omega
    have v0:0<v:=by
     rcases Nat.eq_zero_or_pos v with h0|h0
     ·exfalso
      obtain ⟨j,hj,hjM⟩:=List.mem_iff_getElem.1 Min
      rcases Nat.lt_or_ge j k with h1|h1
      ·exact hkj j h1 hj hjM
      ·rcases Nat.lt_or_ge k j with h2|h2
       ·have:=List.pairwise_iff_getElem.1 ud k j hc hj h2
        omega
       ·have:j=k:=by omega
        subst this
        exact hvM (hv▸hjM)
     ·exact h0
    have w2:(v:Int) - 1=((v - 1:Nat):Int):=by omega
    have es:((u.take (k+1)).map fun w=>(⟨w - 1,true⟩:Hp)).map eHp=((u.take k).map fun w=>(⟨w - 1,true⟩:Hp)).map eHp++[[.int .i64 ((v - 1:Nat):Int),.bool true]]:=by
     rw [List.take_succ_eq_append_getElem hc,List.map_append,List.map_append,hv]
     rfl
    repeat' (first|((first|with_reducible refine qV tyOk fun K hK=>?_|refine Q2 ?_|((with_reducible first|refine qS ?_ ?_|refine qT ?_ ?_|refine qU ?_ ?_)<;>(intro h;try simp only [NM] at h)))<;>simp -dsimp (disch:=first|exact D|fail) only [go_sem,↓reduceIte,seval,gv,hvM',w2,ltk,Option.getD_none])|((with_reducible refine hK _ ?_);clear hK K)|refine Q1 ?_|((with_reducible refine qW (T:=TT) (b:=?_) ?_ ?_);rotate_left;exact rfl)|((with_reducible refine yS ?_ ?_)<;>(intro h;try simp only [NM] at h)))
    refine ⟨⟨k+1,by omega,fun j q r=>by
     rcases Nat.lt_or_ge j k with h1|h1
     ·exact hkj j h1 r
     ·have:j=k:=by omega
      subst this
      rw [hv];exact hvM⟩,by simp only;omega,?_⟩
    refine St.le_mk ?_ ?_ ?_<;>simp only [LE,EN,Nat.reduceEqDiff,reduceIte,Nat.reduceSub,es]
  ·have e1:(u.takeWhile fun w=>w != M)=u:=takeWhile_all fun j q=>tw k hkj j (by omega) q
   rw [e1]
   have hk2:k=u.length:=by omega
   subst hk2
   rw [List.take_length]
   repeat' (first|((first|with_reducible refine qV tyOk fun K hK=>?_|refine Q2 ?_|((with_reducible first|refine qS ?_ ?_|refine qT ?_ ?_|refine qU ?_ ?_)<;>(intro h;try simp only [NM] at h)))<;>simp -dsimp (disch:=first|exact D|fail) only [go_sem,↓reduceIte,seval])|((with_reducible refine hK _ ?_);clear hK K)|refine Q1 ?_|((with_reducible refine qW (T:=TT) (b:=?_) ?_ ?_);rotate_left;exact rfl)|((with_reducible refine yS ?_ ?_)<;>(intro h;try simp only [NM] at h)))
   refine Gq.done ⟨rfl,?_⟩
   refine St.le_mk ?_ ?_ ?_<;>simp only [LE,EN,Nat.reduceEqDiff,reduceIte,Nat.reduceSub]
 have rv:=reverseHops_satM Dn (by omega)
 have e1:(Dw.reverse.map fun e=>(⟨e,false⟩:Hp))=Dn.reverse:=by rw [←hDn,List.map_reverse]
 have lW:(u.takeWhile fun v=>v != M).length≤u.length:=(List.takeWhile_sublist _).length_le
 obtain ⟨W,hW⟩:∃W,(u.takeWhile fun v=>v != M).map (fun v=>(⟨v - 1,true⟩:Hp))=W:=⟨_,rfl⟩
 have lW2:W.length=(u.takeWhile fun v=>v != M).length:=by rw [←hW,List.length_map]
 rw [e1,hDn,←lDn,hW,←lW2]
 have tk:List.take Dn.length (Dn.reverse.map eHp)=Dn.reverse.map eHp:=List.take_of_length_le (by simp)
 repeat' (first|((first|with_reducible refine qV tyOk fun K hK=>?_|refine Q2 ?_|((with_reducible first|refine qS ?_ ?_|refine qT ?_ ?_|refine qU ?_ ?_)<;>(intro h;try simp only [NM] at h))|((with_reducible refine CallJ.is ?_);refine CallJ.io [] [(1000,14)] [] [(1000,14)] [] [] [] [14,14] (rv) rfl ⟨rfl,rfl,rfl,rfl⟩ ?_ ?_ ?_))<;>simp -dsimp (disch:=first|exact D|fail) only [go_sem,↓reduceIte,seval,noOwn_eHp,tk,List.length_reverse,dropL_nil,dropL_nil',dropL_cons])|((with_reducible refine hK _ ?_);clear hK K)|refine Q1 ?_|((with_reducible refine qW (T:=TT) (b:=?_) ?_ ?_);rotate_left;exact rfl)|((with_reducible refine yS ?_ ?_)<;>(intro h;try simp only [NM] at h)))
 simp -dsimp (disch:=first|exact D|fail) only [retQ,Tryz.results10,resVals,cellRV,resOf,St.rest,St.freeze,RT,go_sem,↓reduceIte,seval]
 rw [List.map_append,List.length_reverse]
 exact ⟨rfl,rfl⟩
set_option maxHeartbeats 4000000 in
theorem turned_sat (x:Hp):Sat Tryz.prog 13 [.agg (eHp x),.agg (eHp (turn x))] (.v (oB true)):=by
 obtain ⟨e,b⟩:=x
 cases b with
 | true =>
  unfold turn eHp
  simp only [Bool.not_true]
  refine sS tyOk Tryz.func13 fun w0 m0 F0=>?_
  simp only [Tryz.ntmps13,envOf,Nat.reduceAdd]
  repeat' (first|((first|with_reducible refine qV tyOk fun K hK=>?_|refine Q2 ?_|((with_reducible first|refine qS ?_ ?_|refine qT ?_ ?_|refine qU ?_ ?_)<;>(intro h;try simp only [NM] at h))|with_reducible refine yD tyOk mixed 6 (by kernel_rfl) fun K hK=>?_)<;>simp -dsimp (disch:=first|exact D|fail) only [go_sem,↓reduceIte,seval])|((with_reducible refine hK _ ?_);clear hK K)|refine Q1 ?_|((with_reducible refine qW (T:=TT) (b:=?_) ?_ ?_);rotate_left;exact rfl)|((with_reducible refine yS ?_ ?_)<;>(intro h;try simp only [NM] at h)))
  simp -dsimp (disch:=first|exact D|fail) only [retQ,Tryz.results13,resVals,cellRV,resOf,St.rest,St.freeze,RT,go_sem,↓reduceIte,seval]
 | false =>
  unfold turn eHp
  simp only [Bool.not_false]
  refine sS tyOk Tryz.func13 fun w0 m0 F0=>?_
  simp only [Tryz.ntmps13,envOf,Nat.reduceAdd]
  repeat' (first|((first|with_reducible refine qV tyOk fun K hK=>?_|refine Q2 ?_|((with_reducible first|refine qS ?_ ?_|refine qT ?_ ?_|refine qU ?_ ?_)<;>(intro h;try simp only [NM] at h))|with_reducible refine yD tyOk mixed 6 (by kernel_rfl) fun K hK=>?_)<;>simp -dsimp (disch:=first|exact D|fail) only [go_sem,↓reduceIte,seval])|((with_reducible refine hK _ ?_);clear hK K)|refine Q1 ?_|((with_reducible refine qW (T:=TT) (b:=?_) ?_ ?_);rotate_left;exact rfl)|((with_reducible refine yS ?_ ?_)<;>(intro h;try simp only [NM] at h)))
  simp -dsimp (disch:=first|exact D|fail) only [retQ,Tryz.results13,resVals,cellRV,resOf,St.rest,St.freeze,RT,go_sem,↓reduceIte,seval]
set_option maxHeartbeats 8000000 in
theorem equalTurned_sat (a:List Hp) (h1:a.length≤1048576) :
  Sat Tryz.prog 12 [.one (eHps a),.one (eHps (a.map turn)),.one (.clo 13 [])] (.v (oB true)):=by
 unfold eHps
 have lt:(a.map turn).length=a.length:=List.length_map ..
 refine sS tyOk Tryz.func12 fun w0 m0 F0=>?_
 simp only [Tryz.ntmps12,envOf,Nat.reduceAdd]
 repeat' (first|((first|with_reducible refine qV tyOk fun K hK=>?_|refine Q2 ?_|((with_reducible first|refine qS ?_ ?_|refine qT ?_ ?_|refine qU ?_ ?_)<;>(intro h;try simp only [NM] at h))|with_reducible refine yD tyOk mixed 6 (by kernel_rfl) fun K hK=>?_)<;>simp -dsimp (disch:=first|exact D|fail) only [go_sem,↓reduceIte,seval])|((with_reducible refine hK _ ?_);clear hK K)|refine Q1 ?_|((with_reducible refine qW (T:=TT) (b:=?_) ?_ ?_);rotate_left;exact rfl)|((with_reducible refine yS ?_ ?_)<;>(intro h;try simp only [NM] at h)))
 refine AWP.loop (ι:={k:Nat // k≤a.length}) (fun k=>⟨32,[(1,.v (.one (.sl 2 ((a.map turn).map eHp)))),(2,.v (.one (.clo 13 []))),(15,.v (.one (.sl 2 (a.map eHp)))),(16,.v (oI a.length)),(17,.v (oI k.1))],[],[]⟩) (fun k=>a.length - k.1) ⟨0,Nat.zero_le _⟩ ?_ fun ⟨k,hkl⟩=>?_
 ·refine St.le_mk ?_ ?_ ?_<;>simp only [LE,EN,Nat.reduceEqDiff,reduceIte,Nat.reduceSub,Int.natCast_zero]
 simp only at hkl ⊢
 rcases Nat.lt_or_ge k a.length with hc|hc
 ·have g1:(a.map eHp).getD k []=eHp a[k]:=getD_map_lt _ _ _ hc
  have g2:((a.map turn).map eHp).getD k []=eHp (turn a[k]):=by rw [getD_map_lt _ _ _ (by omega)];simp
  have c:=turned_sat a[k]
  obtain ⟨x,hx⟩:∃x,a[k]=x:=⟨_,rfl⟩
  rw [hx] at g1 g2 c
  repeat' (first|((first|with_reducible refine qV tyOk fun K hK=>?_|refine Q2 ?_|((with_reducible first|refine qS ?_ ?_|refine qT ?_ ?_|refine qU ?_ ?_)<;>(intro h;try simp only [NM] at h))|with_reducible refine yD tyOk mixed 6 (by kernel_rfl) fun K hK=>?_|((with_reducible refine CallJ.is ?_);(first|refine CallJ.pure (c) ?_|((apply CallJ.lentI);(focus (simp -dsimp (disch:=first|exact D|fail) only [go_sem,↓reduceIte,seval,g1,g2,eHp,Option.getD_none];rfl));(focus (first|exact (c))))))|((with_reducible refine CallH.is ?_);(first|refine CallH.intro (c) ?_)))<;>simp -dsimp (disch:=first|exact D|fail) only [go_sem,↓reduceIte,seval,g1,g2,eHp,Option.getD_none])|((with_reducible refine hK _ ?_);clear hK K)|refine Q1 ?_|((with_reducible refine qW (T:=TT) (b:=?_) ?_ ?_);rotate_left;exact rfl)|((with_reducible refine yS ?_ ?_)<;>(intro h;try simp only [NM] at h)))
  refine ⟨⟨k+1,by omega⟩,by simp only;omega,?_⟩
  refine St.le_mk ?_ ?_ ?_<;>simp only [LE,EN,Nat.reduceEqDiff,reduceIte,Nat.reduceSub]
 ·repeat' (first|((first|with_reducible refine qV tyOk fun K hK=>?_|refine Q2 ?_|((with_reducible first|refine qS ?_ ?_|refine qT ?_ ?_|refine qU ?_ ?_)<;>(intro h;try simp only [NM] at h))|with_reducible refine yD tyOk mixed 6 (by kernel_rfl) fun K hK=>?_)<;>simp -dsimp (disch:=first|exact D|fail) only [go_sem,↓reduceIte,seval])|((with_reducible refine hK _ ?_);clear hK K)|refine Q1 ?_|((with_reducible refine qW (T:=TT) (b:=?_) ?_ ?_);rotate_left;exact rfl)|((with_reducible refine yS ?_ ?_)<;>(intro h;try simp only [NM] at h)))
  simp -dsimp (disch:=first|exact D|fail) only [retQ,Tryz.results12,resVals,cellRV,resOf,St.rest,St.freeze,RT,go_sem,↓reduceIte,seval]
theorem mapTy38:MapTy Tryz.prog 38 :=
 ⟨3,4,(Tryz.prog.info? 4).get (by kernel_rfl),by kernel_rfl,by kernel_rfl,(Option.some_get _).symm,by kernel_rfl⟩
theorem fresh_edge {p:List Hp} (hn:(p.map Hp.edge).Nodup) {k:Nat} (hk:k<p.length):((p[k].edge:Int)∈(p.take k).map fun h=>(h.edge:Int))→False:=by
 intro h
 obtain ⟨x,hx,e⟩:=List.mem_map.1 h
 obtain ⟨j,hj,rfl⟩:=List.mem_iff_getElem.1 hx
 have hj':j<k:=by simp at hj;omega
 have e':p[j].edge=p[k].edge:=by
  have:(p.take k)[j]=p[j]:=List.getElem_take
  rw [this] at e
  exact Int.ofNat.inj e
 have:=(List.getElem_inj (xs:=p.map Hp.edge) (i:=j) (j:=k) (h₀:=by simp;omega) (h₁:=by simpa using hk) hn).1 (by simpa using e')
 omega
set_option maxHeartbeats 32000000 in
theorem versionsPathReverse_sat (g:Gr) (a b:Int) (hg:g.Fits):Sat Tryz.prog 3 [.agg (eGr g),oI a,oI b] (.v (oB true)):=by
 have c0:=graphsWork_sat
 have ca:=path_sat g a b hg
 unfold eHps at ca
 cases h1:verPath g a b with
 | error e =>
  obtain ⟨he,e',h2⟩:=verPath_err h1
  have cb:=path_sat g b a hg
  unfold eHps at cb
  rw [h1] at ca
  rw [h2] at cb
  unfold hOut rE at ca cb
  simp only [List.map_nil] at ca cb
  refine sS tyOk Tryz.func3 fun w0 m0 F0=>?_
  simp only [Tryz.ntmps3,envOf,Nat.reduceAdd]
  repeat' (first|((first|with_reducible refine qV tyOk fun K hK=>?_|refine Q2 ?_|((with_reducible first|refine qS ?_ ?_|refine qT ?_ ?_|refine qU ?_ ?_)<;>(intro h;try simp only [NM] at h))|((with_reducible refine CallJ.is ?_);(first|refine CallJ.pure (c0) ?_|refine CallJ.pure (ca) ?_|refine CallJ.pure (cb) ?_|((apply CallJ.lentI);(focus (simp -dsimp (disch:=first|exact D|fail) only [go_sem,↓reduceIte,seval,eGr,eEdgs,he];rfl));(focus (first|exact (c0)|exact (ca)|exact (cb)))))))<;>simp -dsimp (disch:=first|exact D|fail) only [go_sem,↓reduceIte,seval,eGr,eEdgs,he])|((with_reducible refine hK _ ?_);clear hK K)|refine Q1 ?_|((with_reducible refine qW (T:=TT) (b:=?_) ?_ ?_);rotate_left;exact rfl)|((with_reducible refine yS ?_ ?_)<;>(intro h;try simp only [NM] at h)))
  simp -dsimp (disch:=first|exact D|fail) only [retQ,Tryz.results3,resVals,cellRV,resOf,St.rest,St.freeze,RT,go_sem,↓reduceIte,seval]
 | ok p =>
 obtain ⟨O,x,y,hO,rfl,rfl,hx,hy,hp⟩:=verPath_ok h1
 obtain ⟨hlt,_,_,lO⟩:=verSchemas_ok hO
 have ok:=grOk_of hO
 have hP:Falls (parN g) g.edges.length:=ok.par
 have cb:=path_own g y x hg hO hy hx
 have tn:=path_turn hP (a:=x) (b:=y) (by omega) (by omega)
 have nd:=path_nodup hP (a:=x) (b:=y) (by omega) (by omega)
 have lp:=pathL_len (parN g) x y
 have lq:=pathL_len (parN g) y x
 rw [←hp] at tn nd lp
 obtain ⟨q,hq⟩:∃q,pathL (parN g) y x=q:=⟨_,rfl⟩
 rw [hq] at cb tn lq
 have eq:q.reverse=p.map turn:=by
  rw [←tn,List.map_map]
  have:turn∘turn=id:=by funext h;simp [turn]
  rw [this,List.map_id]
 rw [h1] at ca
 unfold hOut rE at ca
 simp only at ca
 have rv:=reverseHops_satM q (by omega)
 have ce:=equalTurned_sat p (by omega)
 unfold eHps at ce
 refine sS tyOk Tryz.func3 fun w0 m0 F0=>?_
 simp only [Tryz.ntmps3,envOf,Nat.reduceAdd]
 repeat' (first|((first|((fail_if_success (refine AWP.isRegion 4 ?_));(with_reducible refine qV tyOk fun K hK=>?_))|refine Q2 ?_|((with_reducible first|refine qS ?_ ?_|refine qT ?_ ?_|refine qU ?_ ?_)<;>(intro h;try simp only [NM] at h))|((with_reducible refine CallJ.is ?_);(first|refine CallJ.pure (c0) ?_|refine CallJ.pure (ca) ?_|((apply CallJ.lentI);(focus (simp -dsimp (disch:=first|exact D|fail) only [go_sem,↓reduceIte,seval,eGr,eEdgs];rfl));(focus (first|exact (c0)|exact (ca)))))))<;>simp -dsimp (disch:=first|exact D|fail) only [go_sem,↓reduceIte,seval,eGr,eEdgs])|((with_reducible refine hK _ ?_);clear hK K)|refine Q1 ?_|((with_reducible refine qW (T:=TT) (b:=?_) ?_ ?_);rotate_left;exact rfl)|((with_reducible refine yS ?_ ?_)<;>(intro h;try simp only [NM] at h)))
 repeat' (first|((first|((fail_if_success (refine AWP.isRegion 7 ?_));(with_reducible refine qV tyOk fun K hK=>?_))|refine Q2 ?_|((with_reducible first|refine qS ?_ ?_|refine qT ?_ ?_|refine qU ?_ ?_)<;>(intro h;try simp only [NM] at h))|((with_reducible refine CallJ.is ?_);refine CallJ.io [] [] [] [(6,27)] [] [27] [] [27] (cb) rfl ⟨rfl,rfl,rfl,rfl⟩ ?_ ?_ ?_))<;>simp -dsimp (disch:=first|exact D|fail) only [go_sem,↓reduceIte,seval,eGr,eEdgs,dropL_nil,dropL_nil',dropL_cons])|((with_reducible refine hK _ ?_);clear hK K)|refine Q1 ?_|((with_reducible refine qW (T:=TT) (b:=?_) ?_ ?_);rotate_left;exact rfl)|((with_reducible refine yS ?_ ?_)<;>(intro h;try simp only [NM] at h)))
 refine AWP.mid ⟨62,[(7,.v (.one (.sl 2 (p.map eHp)))),(9,.v (.one (.ref 9 0 q.length)))],[],[(9,⟨2,q.reverse.map eHp,[]⟩)]⟩ ?_ ?_
 ·repeat' (first|((first|with_reducible refine qV tyOk fun K hK=>?_|refine Q2 ?_|((with_reducible first|refine qS ?_ ?_|refine qT ?_ ?_|refine qU ?_ ?_)<;>(intro h;try simp only [NM] at h))|((with_reducible refine CallJ.is ?_);refine CallJ.io [] [(1000,9)] [] [(1000,9)] [] [] [] [9,9] (rv) rfl ⟨rfl,rfl,rfl,rfl⟩ ?_ ?_ ?_))<;>simp -dsimp (disch:=first|exact D|fail) only [go_sem,↓reduceIte,seval,eGr,eEdgs,dropL_nil,dropL_nil',dropL_cons])|((with_reducible refine hK _ ?_);clear hK K)|refine Q1 ?_|((with_reducible refine qW (T:=TT) (b:=?_) ?_ ?_);rotate_left;exact rfl)|((with_reducible refine yS ?_ ?_)<;>(intro h;try simp only [NM] at h)))
  refine Gq.done ⟨rfl,?_⟩
  refine St.le_mk ?_ ?_ ?_<;>simp only [LE,EN,Nat.reduceEqDiff,reduceIte,Nat.reduceSub,eGr,eEdgs]
 have lrv:(q.reverse.map eHp).length=q.length:=by simp
 refine AWP.frz [] [] ?_
 simp -dsimp (disch:=first|exact D|fail) only [go_sem,↓reduceIte,seval,RT,St.rest,St.freeze,frz_eHp,lrv,Nat.le_refl]
 refine AWP.makeMap tyOk (Nat.le_of_ble_eq_true rfl) fun b=>?_
 refine VOpsM.step fun K2 h2=>?_
 simp -dsimp (disch:=first|exact D|fail) only [go_sem,↓reduceIte,seval,assignK_raw]
 refine h2 _ ?_
 clear h2 K2
 refine VOpsM.fin ?_
 refine AWPm.weak (s':=⟨62,[(7,.v (.one (.sl 2 (p.map eHp)))),(9,.v (.one (.sl 2 (q.reverse.map eHp)))),(11,.v (.one (.raw (.map (some b)))))],[],[]⟩) ?_ ?_
 ·refine St.le_mk ?_ ?_ ?_<;>simp only [LE,EN,Nat.reduceEqDiff,reduceIte,Nat.reduceSub]
 refine AWPm.seq ?_
 refine AWPm.seq ?_
 refine AWPm.at .normal ⟨62,[(7,.v (.one (.sl 2 (p.map eHp)))),(9,.v (.one (.sl 2 (q.reverse.map eHp)))),(11,.v (.one (.raw (.map (some b))))),(45,.v (.one (.sl 2 (p.map eHp)))),(46,.v (oI p.length)),(47,.v (oI 0))],[],[]⟩ (fun w1 m1 F1=>?_) ?_
 ·repeat' (first|((first|with_reducible refine qV tyOk fun K hK=>?_|refine Q2 ?_|((with_reducible first|refine qS ?_ ?_|refine qT ?_ ?_|refine qU ?_ ?_)<;>(intro h;try simp only [NM] at h)))<;>simp -dsimp (disch:=first|exact D|fail) only [go_sem,↓reduceIte,seval])|((with_reducible refine hK _ ?_);clear hK K)|refine Q1 ?_|((with_reducible refine qW (T:=TT) (b:=?_) ?_ ?_);rotate_left;exact rfl)|((with_reducible refine yS ?_ ?_)<;>(intro h;try simp only [NM] at h)))
  refine Gq.done ⟨rfl,?_⟩
  refine St.le_mk ?_ ?_ ?_<;>simp only [LE,EN,Nat.reduceEqDiff,reduceIte,Nat.reduceSub]
 change AWPm _ _ _ _ _ _ _ _ _
 refine AWPm.block ?_
 refine AWPm.loop (ι:={k:Nat // k≤p.length}) (fun k=>((p.take k.1).map (fun h=>(h.edge:Int)),⟨62,[(7,.v (.one (.sl 2 (p.map eHp)))),(9,.v (.one (.sl 2 (q.reverse.map eHp)))),(11,.v (.one (.raw (.map (some b))))),(45,.v (.one (.sl 2 (p.map eHp)))),(46,.v (oI p.length)),(47,.v (oI k.1))],[],[]⟩)) (fun k=>p.length - k.1) ⟨0,Nat.zero_le _⟩ rfl ?_ fun ⟨k,hk⟩=>?_
 ·refine St.le_mk ?_ ?_ ?_<;>simp only [LE,EN,Nat.reduceEqDiff,reduceIte,Nat.reduceSub,Int.natCast_zero]
 simp only at hk ⊢
 rcases Nat.lt_or_ge k p.length with hc|hc
 ·have hlt1:decide ((k:Int)<(p.length:Int))=true:=decide_eq_true (by omega)
  have gh:(p.map eHp).getD k []=eHp p[k]:=getD_map_lt _ _ _ hc
  have nf:decide ((p[k].edge:Int)∈(p.take k).map fun h=>(h.edge:Int))=false:=decide_eq_false (fresh_edge nd hc)
  have ks:(p.take (k+1)).map (fun h=>(h.edge:Int))=ins ((p.take k).map fun h=>(h.edge:Int)) p[k].edge:=by
   unfold ins
   rw [if_neg (fresh_edge nd hc),List.take_succ_eq_append_getElem hc,List.map_append]
   rfl
  obtain ⟨h,hh⟩:∃h,p[k]=h:=⟨_,rfl⟩
  rw [hh] at gh nf ks
  refine AWPm.seq ?_
  refine AWPm.at .normal ⟨62,[(7,.v (.one (.sl 2 (p.map eHp)))),(9,.v (.one (.sl 2 (q.reverse.map eHp)))),(11,.v (.one (.raw (.map (some b))))),(45,.v (.one (.sl 2 (p.map eHp)))),(46,.v (oI p.length)),(47,.v (oI k)),(48,.v (oB true))],[],[]⟩ (fun w1 m1 F1=>?_) ?_
  ·repeat' (first|((first|with_reducible refine qV tyOk fun K hK=>?_|refine Q2 ?_|((with_reducible first|refine qS ?_ ?_|refine qT ?_ ?_|refine qU ?_ ?_)<;>(intro h;try simp only [NM] at h)))<;>simp -dsimp (disch:=first|exact D|fail) only [go_sem,↓reduceIte,seval])|((with_reducible refine hK _ ?_);clear hK K)|refine Q1 ?_|((with_reducible refine qW (T:=TT) (b:=?_) ?_ ?_);rotate_left;exact rfl)|((with_reducible refine yS ?_ ?_)<;>(intro h;try simp only [NM] at h)))
   refine Gq.done ⟨rfl,?_⟩
   refine St.le_mk ?_ ?_ ?_<;>simp only [LE,EN,Nat.reduceEqDiff,reduceIte,Nat.reduceSub,hlt1]
  change AWPm _ _ _ _ _ _ _ _ _
  refine AWPm.seq ?_
  refine AWPm.cond (T:=TT) true rfl (fun _=>AWPm.skip ?_) (fun h=>by cases h)
  change AWPm _ _ _ _ _ _ _ _ _
  refine AWPm.seq ?_
  refine AWPm.block ?_
  refine AWPm.seq ?_
  refine AWPm.at .normal ⟨62,[(7,.v (.one (.sl 2 (p.map eHp)))),(9,.v (.one (.sl 2 (q.reverse.map eHp)))),(11,.v (.one (.raw (.map (some b))))),(45,.v (.one (.sl 2 (p.map eHp)))),(46,.v (oI p.length)),(47,.v (oI k)),(13,.v (.one (.ptr 13 0)))],[(13,[.int .i64 (h.edge:Int),.bool h.back])],[]⟩ (fun w1 m1 F1=>?_) ?_
  ·repeat' (first|((first|with_reducible refine qV tyOk fun K hK=>?_|refine Q2 ?_|((with_reducible first|refine qS ?_ ?_|refine qT ?_ ?_|refine qU ?_ ?_)<;>(intro h;try simp only [NM] at h)))<;>simp -dsimp (disch:=first|exact D|fail) only [go_sem,↓reduceIte,seval,gh,eHp,Option.getD_none])|((with_reducible refine hK _ ?_);clear hK K)|refine Q1 ?_|((with_reducible refine qW (T:=TT) (b:=?_) ?_ ?_);rotate_left;exact rfl)|((with_reducible refine yS ?_ ?_)<;>(intro h;try simp only [NM] at h)))
   refine Gq.done ⟨rfl,?_⟩
   refine St.le_mk ?_ ?_ ?_<;>simp only [LE,EN,Nat.reduceEqDiff,reduceIte,Nat.reduceSub]
  change AWPm _ _ _ _ _ _ _ _ _
  refine AWPm.seq ?_
  refine AWPm.seq ?_
  refine AWPm.region tyOk fun K hK=>?_
  refine VOpsM.step fun K2 h2=>?_
  simp -dsimp (disch:=first|exact D|fail) only [go_sem,↓reduceIte,seval,assignK_raw]
  refine h2 _ ?_
  clear h2 K2
  refine VOpsM.step fun K2 h2=>?_
  simp -dsimp (disch:=first|exact D|fail) only [go_sem,↓reduceIte,seval,assignK_raw]
  refine h2 _ ?_
  clear h2 K2
  refine VOpsM.step fun K2 h2=>?_
  simp -dsimp (disch:=first|exact D|fail) only [go_sem,↓reduceIte,seval,assignK_raw]
  refine h2 _ ?_
  clear h2 K2
  refine VOpsM.look (h.edge:Int) mapTy38 rfl (ty':=3) rfl (Nat.le_of_ble_eq_true rfl) ?_
  refine VOpsM.fin (hK _ _ ?_)
  clear hK K
  change AWPm _ _ _ _ _ _ _ _ _
  rw [nf]
  refine AWPm.cond (T:=TT) false rfl (fun h=>by cases h) (fun _=>AWPm.skip ?_)
  change AWPm _ _ _ _ _ _ _ _ _
  refine AWPm.weak (s':=⟨62,[(7,.v (.one (.sl 2 (p.map eHp)))),(9,.v (.one (.sl 2 (q.reverse.map eHp)))),(11,.v (.one (.raw (.map (some b))))),(45,.v (.one (.sl 2 (p.map eHp)))),(46,.v (oI p.length)),(47,.v (oI k)),(13,.v (.one (.ptr 13 0)))],[(13,[.int .i64 (h.edge:Int),.bool h.back])],[]⟩) ?_ ?_
  ·refine St.le_mk ?_ ?_ ?_<;>simp only [LE,EN,Nat.reduceEqDiff,reduceIte,Nat.reduceSub,St.put]
  refine AWPm.region tyOk fun K hK=>?_
  refine VOpsM.step fun K2 h2=>?_
  simp -dsimp (disch:=first|exact D|fail) only [go_sem,↓reduceIte,seval,assignK_raw]
  refine h2 _ ?_
  clear h2 K2
  refine VOpsM.step fun K2 h2=>?_
  simp -dsimp (disch:=first|exact D|fail) only [go_sem,↓reduceIte,seval,assignK_raw]
  refine h2 _ ?_
  clear h2 K2
  refine VOpsM.step fun K2 h2=>?_
  simp -dsimp (disch:=first|exact D|fail) only [go_sem,↓reduceIte,seval,assignK_raw]
  refine h2 _ ?_
  clear h2 K2
  refine VOpsM.upd (h.edge:Int) mapTy38 rfl (ty1:=3) rfl (ty2:=4) rfl ?_
  refine VOpsM.fin (hK _ _ ?_)
  clear hK K
  change AWPm _ _ _ _ _ _ _ _ _
  refine AWPm.at .normal ⟨62,[(7,.v (.one (.sl 2 (p.map eHp)))),(9,.v (.one (.sl 2 (q.reverse.map eHp)))),(11,.v (.one (.raw (.map (some b))))),(45,.v (.one (.sl 2 (p.map eHp)))),(46,.v (oI p.length)),(47,.v (oI (k+1)))],[],[]⟩ (fun w1 m1 F1=>?_) ?_
  ·repeat' (first|((first|with_reducible refine qV tyOk fun K hK=>?_|refine Q2 ?_|((with_reducible first|refine qS ?_ ?_|refine qT ?_ ?_|refine qU ?_ ?_)<;>(intro h;try simp only [NM] at h)))<;>simp -dsimp (disch:=first|exact D|fail) only [go_sem,↓reduceIte,seval])|((with_reducible refine hK _ ?_);clear hK K)|refine Q1 ?_|((with_reducible refine qW (T:=TT) (b:=?_) ?_ ?_);rotate_left;exact rfl)|((with_reducible refine yS ?_ ?_)<;>(intro h;try simp only [NM] at h)))
   refine Gq.done ⟨rfl,?_⟩
   refine St.le_mk ?_ ?_ ?_<;>simp only [LE,EN,Nat.reduceEqDiff,reduceIte,Nat.reduceSub]
  refine ⟨⟨k+1,by omega⟩,by simp only;omega,ks,?_⟩
  refine St.le_mk ?_ ?_ ?_<;>simp only [LE,EN,Nat.reduceEqDiff,reduceIte,Nat.reduceSub,Int.natCast_add,Int.natCast_one]
 ·have hge1:decide ((k:Int)<(p.length:Int))=false:=decide_eq_false (by omega)
  refine AWPm.seq ?_
  refine AWPm.at .normal ⟨62,[(7,.v (.one (.sl 2 (p.map eHp)))),(9,.v (.one (.sl 2 (q.reverse.map eHp)))),(11,.v (.one (.raw (.map (some b))))),(45,.v (.one (.sl 2 (p.map eHp)))),(46,.v (oI p.length)),(47,.v (oI k)),(48,.v (oB false))],[],[]⟩ (fun w1 m1 F1=>?_) ?_
  ·repeat' (first|((first|with_reducible refine qV tyOk fun K hK=>?_|refine Q2 ?_|((with_reducible first|refine qS ?_ ?_|refine qT ?_ ?_|refine qU ?_ ?_)<;>(intro h;try simp only [NM] at h)))<;>simp -dsimp (disch:=first|exact D|fail) only [go_sem,↓reduceIte,seval])|((with_reducible refine hK _ ?_);clear hK K)|refine Q1 ?_|((with_reducible refine qW (T:=TT) (b:=?_) ?_ ?_);rotate_left;exact rfl)|((with_reducible refine yS ?_ ?_)<;>(intro h;try simp only [NM] at h)))
   refine Gq.done ⟨rfl,?_⟩
   refine St.le_mk ?_ ?_ ?_<;>simp only [LE,EN,Nat.reduceEqDiff,reduceIte,Nat.reduceSub,hge1]
  change AWPm _ _ _ _ _ _ _ _ _
  refine AWPm.seq ?_
  refine AWPm.cond (T:=TT) false rfl (fun h=>by cases h) (fun _=>AWPm.exit ?_)
  repeat refine thenM_exit ?_
  refine blockM_exit ?_
  change AWPm _ _ _ _ _ _ _ _ _
  rw [eq]
  refine AWPm.of fun w1 m1 F1=>?_
  repeat' (first|((first|with_reducible refine qV tyOk fun K hK=>?_|refine Q2 ?_|((with_reducible first|refine qS ?_ ?_|refine qT ?_ ?_|refine qU ?_ ?_)<;>(intro h;try simp only [NM] at h))|((with_reducible refine CallJ.is ?_);(first|refine CallJ.pure (ce) ?_|((apply CallJ.lentI);(focus (simp -dsimp (disch:=first|exact D|fail) only [go_sem,↓reduceIte,seval];rfl));(focus (first|exact (ce)))))))<;>simp -dsimp (disch:=first|exact D|fail) only [go_sem,↓reduceIte,seval])|((with_reducible refine hK _ ?_);clear hK K)|refine Q1 ?_|((with_reducible refine qW (T:=TT) (b:=?_) ?_ ?_);rotate_left;exact rfl)|((with_reducible refine yS ?_ ?_)<;>(intro h;try simp only [NM] at h)))
  simp -dsimp (disch:=first|exact D|fail) only [retQ,Tryz.results3,resVals,cellRV,resOf,St.rest,St.freeze,RT,go_sem,↓reduceIte,seval]
end Go.Bw
