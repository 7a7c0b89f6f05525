/- Proved: contracts of functions of this translation, for every state, and what they rest on; bounds stand ahead. -/
import Derived.Test.YtmnpdfeocknafaaGreatDoorVt
import Derived.Test.YtmnpdfeocknafaaGreatDoorVu
set_option maxHeartbeats 64000000
set_option linter.unusedSimpArgs false
set_option linter.unusedVariables false
namespace Go.Bw
open Go.Proofs
theorem Ey (s:aG) (h:s.Fits):Sat Tryz.prog 33 [.agg (aj s)] (.v (.agg (aj s))):=by
 have h1:=h.ae
 have h2:=h.BT
 have h3:=h.CQ
 have h4:=h.fk
 have c2:=QB s.pZ h2 h3
 simp only [ap] at c2
 refine ZE Tryz.func33 Tryz.ntmps33 fun w0 m0 F0=>?_
 refine ZW (Z1 @aj.eq_1) (Z3 (Gd s.ae h1) (c2) (Gd s.fk.ae h4)) ?_
 refine ZR (Z1 Tryz.results33) ?_
 simp only [aj,bj,cS]
theorem Ve {c:Prop} [Decidable c] {a b:aG} (ha:a.Fits) (hb:b.Fits):(if c then a else b).Fits:=by
 by_cases h:c
 ·rw [if_pos h];exact ha
 ·rw [if_neg h];exact hb
theorem Vf {s:aG} (h:s.Fits):(uz s).Fits:=by
 have z1:rQ.ae.length * 8≤140737488355328:=by show 0 * 8≤_;decide
 have z2:rQ.pZ.ae.length * 32≤140737488355328:=by show 0 * 32≤_;decide
 have z3:rQ.pZ.pk.length * 8≤140737488355328:=by show 0 * 8≤_;decide
 have z4:rQ.fk.ae.length * 8≤140737488355328:=by show 0 * 8≤_;decide
 unfold uz
 repeat' refine Ve ?_ ?_
 all_goals exact ⟨by first|exact h.ae|exact z1,by first|exact h.BT|exact z2,by first|exact h.CQ|exact z3,by first|exact h.fk|exact z4⟩
theorem Vl (s:aq) (st:aG) (sm:sR s) (hf:st.Fits) (hk:st.kind≠13∧st.kind≠14∧st.kind≠15∧st.kind≠16∧st.kind≠10) (h0:aY s.tables st.table=-1) :
  db Tryz.prog 44 [.one (.ptr 1000 0),.agg (aj st)] (iB s) (iR s) (.v (oI (rE (dD s st)))) (dh (dD s st)) (di (dD s st)):=by
 have b1:=sm.tables
 have b3:=sm.ak
 have b4:=sm.cons
 have b5:∀f∈s.ak,f.ae.length≤1048576:=fun f hf=>by have:=(sm.fk f hf).1;omega
 have hc:=hf.ae
 have spec:dD s st=.error 4:=by unfold dD;rw [if_neg hk.1,if_neg hk.2.1,if_neg hk.2.2.1,if_neg hk.2.2.2.1,if_neg hk.2.2.2.2,h0];rfl
 have fs:=qP s st.table (by omega)
 rw [h0,ux] at fs
 obtain ⟨n1,n2,n3,n4,n5⟩:=hk
 rw [spec]
 unfold iB iR dh di rE
 simp only
 refine ZM [1000] [1,2,3] Tryz.func44 Tryz.ntmps44 fun w0 m0 F0=>?_
 refine ZV (Z3 @aj.eq_1 @sU @pW) (Z1 (fs)) (Z1 (Zd 14 [(0,5)] [(5,[(6,5)],[])] [5] 8)) Z0 ?_
 exact ZQ (Z1 Tryz.results44)
theorem Vp (s:aq) (st:aG) (sm:sR s) (hf:st.Fits) (hpk:∀t∈s.tables,xW t) (hk:st.kind≠13∧st.kind≠14∧st.kind≠15∧st.kind≠16∧st.kind≠10) (j:Nat) (hj:j<s.tables.length) (h0:aY s.tables st.table=(j:Int)) (hq:st.kind=12∨st.kind=1) :
  db Tryz.prog 44 [.one (.ptr 1000 0),.agg (aj st)] (iB s) (iR s) (.v (oI (rE (dD s st)))) (dh (dD s st)) (di (dD s st)):=by
 have b1:=sm.tables
 have b3:=sm.ak
 have b4:=sm.cons
 have b5:∀f∈s.ak,f.ae.length≤1048576:=fun f hf=>by have:=(sm.fk f hf).1;omega
 have hc:=hf.ae
 have fs:=qP s st.table (by omega)
 rw [h0,rZ,sB (show (0:Int)≤(j:Int) by omega)] at fs
 have s0:dD s st=(if st.kind=4 then tV s j st.cW else if st.kind=6 then td s j st else if st.kind=7 then uc s j st.other else if st.kind=8 then vY s j st else if st.kind=9 then tg s j st else if st.kind=11 then vZ s st.table else if st.kind=12 then vG s j st else if st.kind=1 then vC s j st else rF s j st):=by
  unfold dD;rw [if_neg hk.1,if_neg hk.2.1,if_neg hk.2.2.1,if_neg hk.2.2.2.1,if_neg hk.2.2.2.2];simp only [h0,bG];rw [if_neg (by omega)]
 obtain ⟨n1,n2,n3,n4,n5⟩:=hk
 rcases hq with hq|hq
 ·have spec:dD s st=vG s j st:=by rw [s0,if_neg (by omega),if_neg (by omega),if_neg (by omega),if_neg (by omega),if_neg (by omega),if_neg (by omega),if_pos hq]
  have C:=UM s j st hj sm (by omega)
  rw [spec]
  generalize vG s j st=r at C ⊢
  unfold iB iR at C ⊢
  refine ZM [1000] [1,2,3] Tryz.func44 Tryz.ntmps44 fun w0 m0 F0=>?_
  refine rC (Z3 @aj.eq_1 @sU @pW) (Z1 (fs)) (Z2 (Zs 31) (Zd 14 [(0,5)] [(5,[(6,5)],[])] [5] 8)) Z0 ?_;repeat' (first|apply Zb|apply Zn|(apply Zm;intro h))
  cases r with
  | error e =>
   unfold dh di rE at C ⊢
   simp only [aj] at C ⊢
   refine rC (Z5 @dz @aj.eq_1 @bh @bt @bu) Z0 Z0 (Z1 (Zi [(1000,1000)] [(1000,1000),(1001,1001),(1002,1002)] [] [] [1000] [1000,1001,1002] [1000] [1000,1001,1002] (C))) ?_;repeat' (first|apply Zb|apply Zn|(apply Zm;intro h))
   exact ZQ (Z1 Tryz.results44)
  | ok R =>
   unfold dh di qw qx rE at C ⊢
   simp only [aj] at C ⊢
   refine rC (Z5 @dz @aj.eq_1 @bh @bt @bu) Z0 Z0 (Z1 (Zi [(1000,1000)] [(1000,1000),(1001,1001),(1002,1002)] [(1000,1000)] [(1,1),(2,2),(3,3)] [] [1000,1001,1002,1,2,3] [1000,1000] [1000,1001,1002,1,2,3] (C))) ?_;repeat' (first|apply Zb|apply Zn|(apply Zm;intro h))
   exact ZQ (Z1 Tryz.results44)
 ·have spec:dD s st=vC s j st:=by rw [s0,if_neg (by omega),if_neg (by omega),if_neg (by omega),if_neg (by omega),if_neg (by omega),if_neg (by omega),if_neg (by omega),if_pos hq]
  have C:=Vq s j st hj sm
  rw [spec]
  generalize vC s j st=r at C ⊢
  unfold iB iR at C ⊢
  refine ZM [1000] [1,2,3] Tryz.func44 Tryz.ntmps44 fun w0 m0 F0=>?_
  refine rC (Z3 @aj.eq_1 @sU @pW) (Z1 (fs)) (Z2 (Zs 33) (Zd 14 [(0,5)] [(5,[(6,5)],[])] [5] 8)) Z0 ?_;repeat' (first|apply Zb|apply Zn|(apply Zm;intro h))
  cases r with
  | error e =>
   unfold dh di rE at C ⊢
   simp only [aj] at C ⊢
   refine rC (Z5 @dz @aj.eq_1 @bh @bt @bu) Z0 Z0 (Z1 (Zi [(1000,1000)] [(1000,1000),(1001,1001),(1002,1002)] [] [] [1000] [1000,1001,1002] [1000] [1000,1001,1002] (C))) ?_;repeat' (first|apply Zb|apply Zn|(apply Zm;intro h))
   exact ZQ (Z1 Tryz.results44)
  | ok R =>
   unfold dh di qw qx rE at C ⊢
   simp only [aj] at C ⊢
   refine rC (Z5 @dz @aj.eq_1 @bh @bt @bu) Z0 Z0 (Z1 (Zi [(1000,1000)] [(1000,1000),(1001,1001),(1002,1002)] [(1000,1000)] [(1,1),(2,2),(3,3)] [] [1000,1001,1002,1,2,3] [1000,1000] [1000,1001,1002,1,2,3] (C))) ?_;repeat' (first|apply Zb|apply Zn|(apply Zm;intro h))
   exact ZQ (Z1 Tryz.results44)
theorem Vr (s:aq) (st:aG) (sm:sR s) (hf:st.Fits) (hpk:∀t∈s.tables,xW t) (hk:st.kind≠13∧st.kind≠14∧st.kind≠15∧st.kind≠16∧st.kind≠10) (j:Nat) (hj:j<s.tables.length) (h0:aY s.tables st.table=(j:Int)) (hq:st.kind≠4∧st.kind≠6∧st.kind≠7∧st.kind≠8∧st.kind≠9∧st.kind≠11∧st.kind≠12∧st.kind≠1) :
  db Tryz.prog 44 [.one (.ptr 1000 0),.agg (aj st)] (iB s) (iR s) (.v (oI (rE (dD s st)))) (dh (dD s st)) (di (dD s st)):=by
 have b1:=sm.tables
 have b3:=sm.ak
 have b4:=sm.cons
 have b5:∀f∈s.ak,f.ae.length≤1048576:=fun f hf=>by have:=(sm.fk f hf).1;omega
 have hc:=hf.ae
 have fs:=qP s st.table (by omega)
 rw [h0,rZ,sB (show (0:Int)≤(j:Int) by omega)] at fs
 have s0:dD s st=(if st.kind=4 then tV s j st.cW else if st.kind=6 then td s j st else if st.kind=7 then uc s j st.other else if st.kind=8 then vY s j st else if st.kind=9 then tg s j st else if st.kind=11 then vZ s st.table else if st.kind=12 then vG s j st else if st.kind=1 then vC s j st else rF s j st):=by
  unfold dD;rw [if_neg hk.1,if_neg hk.2.1,if_neg hk.2.2.1,if_neg hk.2.2.2.1,if_neg hk.2.2.2.2];simp only [h0,bG];rw [if_neg (by omega)]
 obtain ⟨n1,n2,n3,n4,n5⟩:=hk
 have spec:dD s st=rF s j st:=by rw [s0,if_neg (by omega),if_neg (by omega),if_neg (by omega),if_neg (by omega),if_neg (by omega),if_neg (by omega),if_neg (by omega),if_neg (by omega)]
 have C:=UI s j st hj sm
 rw [spec]
 generalize rF s j st=r at C ⊢
 unfold iB iR at C ⊢
 refine ZM [1000] [1,2,3] Tryz.func44 Tryz.ntmps44 fun w0 m0 F0=>?_
 refine ZV (Z3 @aj.eq_1 @sU @pW) (Z1 (fs)) (Z2 (Zs 34) (Zd 14 [(0,5)] [(5,[(6,5)],[])] [5] 8)) Z0 ?_
 cases r with
 | error e =>
  unfold dh di rE at C ⊢
  simp only [aj] at C ⊢
  refine ZV (Z5 @dz @aj.eq_1 @bh @bt @bu) Z0 Z0 (Z1 (Zi [(1000,1000)] [(1000,1000),(1001,1001),(1002,1002)] [] [] [1000] [1000,1001,1002] [1000] [1000,1001,1002] (C))) ?_
  exact ZQ (Z1 Tryz.results44)
 | ok R =>
  unfold dh di qw qx rE at C ⊢
  simp only [aj] at C ⊢
  refine ZV (Z5 @dz @aj.eq_1 @bh @bt @bu) Z0 Z0 (Z1 (Zi [(1000,1000)] [(1000,1000),(1001,1001),(1002,1002)] [(1000,1000)] [(1,1),(2,2),(3,3)] [] [1000,1001,1002,1,2,3] [1000,1000] [1000,1001,1002,1,2,3] (C))) ?_
  exact ZQ (Z1 Tryz.results44)
structure Sz (s:aq) (a b:Nat):Prop where
 tables:s.tables.length≤a
 table:∀t∈s.tables,t.ae.length≤b∧t.pk.length≤b
 ak:s.ak.length≤a
 fk:∀f∈s.ak,f.ae.length≤b
 cons:s.cons.length≤a
theorem Sz.mono {s:aq} {a b a' b':Nat} (h:Sz s a b) (ha:a≤a') (hb:b≤b'):Sz s a' b' :=
 ⟨pU h.tables ha,fun t ht=>⟨pU (h.table t ht).1 hb,pU (h.table t ht).2 hb⟩,pU h.ak ha,fun f hf=>pU (h.fk f hf) hb,pU h.cons ha⟩
theorem sR.sz {s:aq} (h:sR s):Sz s 8 6 :=
 ⟨pU h.tables (by decide),fun t ht=>⟨(h.table t ht).1,(h.table t ht).2.1⟩,h.ak,fun f hf=>(h.fk f hf).1,h.cons⟩
theorem Sz.fits {s:aq} {a b:Nat} (h:Sz s a b) (ha:a≤140737488355328) (hb:b≤140737488355328):s.Fits :=
 ⟨pU h.tables ha,fun t ht=>⟨pU (h.table t ht).1 hb,pU (h.table t ht).2 hb⟩,pU h.ak ha,fun f hf=>pU (h.fk f hf) hb,pU h.cons ha⟩
theorem Sz.bq {s:aq} {a b:Nat} (h:Sz s a b) (i:Nat):(bq s i).ae.length≤b∧(bq s i).pk.length≤b:=by
 unfold Go.Bw.bq
 rw [rM]
 cases hx:s.tables[i]? with
 | none=>exact ⟨bg _,bg _⟩
 | some t=>exact h.table t (rX hx)
theorem Sz.fh {s:aq} {a b:Nat} (h:Sz s a b) (i:Nat) {t:au} (ht:t.ae.length≤b∧t.pk.length≤b):Sz (fh s i t) a b :=
 ⟨by show (s.tables.set i t).length≤a;rw [tw];exact h.tables,fun x hx=>by
  rcases LC (show x∈s.tables.set i t from hx) with hx|rfl
  ·exact h.table x hx
  ·exact ht,h.ak,h.fk,h.cons⟩
theorem Sz.sX {s:aq} {a b:Nat} (h:Sz s a b) (n:ByteArray) (g:Int→Int):Sz (vM s n g) a b :=
 ⟨h.tables,h.table,by show (s.ak.map _).length≤a;rw [bw];exact h.ak,fun f hf=>by
  obtain ⟨x,hx,rfl⟩:=List.mem_map.1 (show f∈s.ak.map (rH n g) from hf)
  have:=h.fk x hx
  unfold rH
  split
  ·simpa using this
  ·exact this,by show (s.cons.map _).length≤a;rw [bw];exact h.cons⟩
theorem Sz.rL {s:aq} {a b:Nat} (h:Sz s a b) (i:Nat) (r:List Int):Sz (rL s i r) a b:=by
 unfold Go.Bw.rL
 refine (h.fh i ?_).sX _ _
 have:=h.bq i
 exact ⟨pU (DU r _ 0) this.1,by simpa using this.2⟩
theorem Sz.tq {s:aq} {a b:Nat} (h:Sz s a b) {t:au} (ht:t.ae.length≤b∧t.pk.length≤b):Sz (tq s t) (a+1) b:=by
 have hp:=DW qp 0 (s.tables.length+1) (s.tables++[t])
 refine ⟨?_,fun x hx=>?_,XX h.ak,h.fk,XX h.cons⟩
 ·show (vA qp 0 (s.tables.length+1) (s.tables++[t])).length≤a+1
  rw [hp.length_eq,bA,z7]
  exact Nat.succ_le_succ h.tables
 ·have:=hp.mem_iff.1 (show x∈vA qp 0 (s.tables.length+1) (s.tables++[t]) from hx)
  rcases List.mem_append.1 this with hx|hx
  ·exact h.table x hx
  ·rw [List.mem_singleton.1 hx];exact ht
theorem Sz.xV {s:aq} {a b:Nat} (h:Sz s a b) (n:ByteArray):Sz (xV s n) a b :=
 ⟨pU (vl _ _) h.tables,fun t ht=>h.table t (List.mem_filter.1 (show t∈s.tables.filter _ from ht)).1,pU (vl _ _) h.ak,fun f hf=>h.fk f (List.mem_filter.1 (show f∈s.ak.filter _ from hf)).1,pU (vl _ _) h.cons⟩
theorem Gh {α:Type} {l:List α} {k:Nat} {x:α} (h:x∈l.take k++l.drop (k+1)):x∈l:=by
 rcases List.mem_append.1 h with h|h
 ·exact tv h
 ·exact zB h
theorem Eb {α:Type} (l:List α) (k:Nat):(l.take k++l.drop (k+1)).length≤l.length:=by simp;omega
theorem Sz.Jq {s:aq} {a b:Nat} (h:Sz s a b) (g:FK→FK) (g':dN→dN) (hg:∀f,(g f).ae.length=f.ae.length):Sz ⟨s.tables,s.ak.map g,s.cons.map g'⟩ a b :=
 ⟨h.tables,h.table,by simpa using h.ak,fun f hf=>by
  obtain ⟨x,hx,rfl⟩:=List.mem_map.1 hf
  rw [hg]
  exact h.fk x hx,by simpa using h.cons⟩
theorem Sz.Oq {s:aq} {a b:Nat} (h:Sz s a b) {ts:List au} (h1:ts.length≤a) (h2:∀t∈ts,t.ae.length≤b∧t.pk.length≤b):Sz ⟨ts,s.ak,s.cons⟩ a b:=⟨h1,h2,h.ak,h.fk,h.cons⟩
theorem Sz.Gi {s:aq} {a b:Nat} (h:Sz s a b) {l:List FK} {l':List dN} (h1:l.length≤8) (h2:∀f∈l,f.ae.length≤b) (h3:l'.length≤8):Sz ⟨s.tables,s.ak++l,s.cons++l'⟩ (a+8) b:=by
 have:=h.tables
 have:=h.ak
 have:=h.cons
 refine ⟨by simp only;omega,h.table,by simp only [bA];omega,fun f hf=>?_,by simp only [bA];omega⟩
 rcases List.mem_append.1 hf with hf|hf
 ·exact h.fk f hf
 ·exact h2 f hf
theorem Vu {s:aq} {st:aG} {R:aq} (sm:sR s) (h1:st.ae.length≤17592186044416) (h2:st.pZ.ae.length≤17592186044416) (h3:st.pZ.pk.length≤17592186044416) (h4:st.fk.ae.length≤17592186044416) (h:dD s st=.ok R):Sz R 32 17592186044448:=by
 have z:=sm.sz
 have z0:Sz s 8 17592186044448:=z.mono (br _) (by decide)
 unfold dD at h
 by_cases k0:st.kind=13
 ·rw [if_pos k0] at h
  injection h with h;subst h
  have:=z0.Gi (l:=[]) (l':=[st.qH]) (by simp) (fun f hf=>by cases hf) (by simp)
  rw [bM] at this
  exact this.mono (by decide) (br _)
 rw [if_neg k0] at h
 by_cases k1:st.kind=14
 ·rw [if_pos k1] at h
  unfold wH at h
  simp only at h
  split at h
  ·cases h
  injection h with h;subst h
  exact ⟨pU z0.tables (by decide),z0.table,pU z0.ak (by decide),z0.fk,pU (Eb _ _) (pU z0.cons (by decide))⟩
 rw [if_neg k1] at h
 by_cases k2:st.kind=15
 ·rw [if_pos k2] at h
  injection h with h;subst h
  have:=z0.Gi (l:=[st.fk]) (l':=[]) (by simp) (fun f hf=>by rw [List.mem_singleton.1 hf];omega) (by simp)
  rw [bM] at this
  exact this.mono (by decide) (br _)
 rw [if_neg k2] at h
 by_cases k3:st.kind=16
 ·rw [if_pos k3] at h
  unfold se at h
  simp only at h
  split at h
  ·cases h
  injection h with h;subst h
  exact ⟨pU z0.tables (by decide),z0.table,pU (Eb _ _) (pU z0.ak (by decide)),fun f hf=>z0.fk f (Gh hf),pU z0.cons (by decide)⟩
 rw [if_neg k3] at h
 by_cases k4:st.kind=10
 ·rw [if_pos k4] at h
  unfold wI at h
  split at h
  ·cases h
  injection h with h;subst h
  exact (z0.tq ⟨by omega,by omega⟩).mono (by decide) (br _)
 rw [if_neg k4] at h
 simp only at h
 by_cases k5:aY s.tables st.table<0
 ·rw [if_pos k5] at h
  cases h
 rw [if_neg k5] at h
 generalize (aY s.tables st.table).toNat=i at h
 have ta:=z.bq i
 by_cases k6:st.kind=4
 ·rw [if_pos k6] at h
  unfold tV at h
  simp only at h
  split at h
  ·cases h
  injection h with h;subst h
  have:=(((z0.Oq (ts:=s.tables.take i++s.tables.drop (i+1)) (pU (Eb _ _) z0.tables) (fun t ht=>z0.table t (Gh ht))).tq (t:={bq s i with name:=st.cW}) ⟨by simp only;omega,by simp only;omega⟩).Jq (fun f=>{f with table:=c7 (bq s i).name st.cW f.table,ref:=c7 (bq s i).name st.cW f.ref}) (fun c=>{c with table:=c7 (bq s i).name st.cW c.table}) fun f=>rfl)
  exact this.mono (by decide) (br _)
 rw [if_neg k6] at h
 by_cases k7:st.kind=6
 ·rw [if_pos k7] at h
  unfold td at h
  simp only at h
  split at h
  ·cases h
  split at h
  ·cases h
  split at h
  ·cases h
  injection h with h;subst h
  have a1:=(z0.Jq (qy (bq s i) st) (sk (bq s i) st) (fun f=>by unfold qy;split<;>simp)).rL i st.ae
  have a2:=a1.tq (t:=⟨st.other,((bq s i).pk++st.ae).map fun c=>(bq s i).ae.getD c.toNat dF,ew (bq s i).pk.length⟩) ⟨by simp only [bw,bA];omega,by simp only [De];omega⟩
  have a3:=a2.Gi (l:=[⟨st.other,ew (bq s i).pk.length,(bq s i).name⟩]) (l':=[]) (by simp) (fun f hf=>by rw [List.mem_singleton.1 hf];simp only [De];omega) (by simp)
  rw [bM] at a3
  exact a3.mono (by decide) (br _)
 rw [if_neg k7] at h
 by_cases k8:st.kind=7
 ·rw [if_pos k8] at h
  unfold uc at h
  simp only at h
  split at h
  ·cases h
  split at h
  ·cases h
  split at h
  ·cases h
  split at h
  ·cases h
  rename_i s1 hd
  split at h
  ·cases h
  injection h with h;subst h
  have zd:Sz s1 8 17592186044448:=by
   unfold se at hd
   simp only at hd
   split at hd
   ·cases hd
   injection hd with hd;subst hd
   exact ⟨z0.tables,z0.table,pU (Eb _ _) z0.ak,fun f hf=>z0.fk f (Gh hf),z0.cons⟩
  have tb:=z.bq (aY s.tables st.other).toNat
  have a1:=zd.sX st.other (wm (bq s i))
  have a2:=a1.fh i (t:={bq s i with ae:=(bq s i).ae++(bq s (aY s.tables st.other).toNat).ae.drop (bq s i).pk.length}) ⟨by simp only [bA,wu];omega,by simp only;omega⟩
  have a3:=(a2.Oq (pU (Eb _ (aY s.tables st.other).toNat) a2.tables) (fun t ht=>a2.table t (Gh ht))).Jq (fun f=>{f with table:=c7 st.other (bq s i).name f.table}) (fun c=>{c with table:=c7 st.other (bq s i).name c.table}) fun f=>rfl
  exact a3.mono (by decide) (br _)
 rw [if_neg k8] at h
 by_cases k9:st.kind=8
 ·rw [if_pos k9] at h
  unfold vY at h
  simp only at h
  split at h
  ·cases h
  split at h
  ·cases h
  split at h
  ·cases h
  split at h
  ·cases h
  split at h
  ·cases h
  split at h
  ·cases h
  injection h with h;subst h
  have f1:((s.ak.filter fun f=>aw f.table (bq s i).name).map fun f=>{f with table:=st.other}).length≤8:=by rw [bw];exact pU (vl _ _) z0.ak
  have f2:((s.cons.filter fun c=>aw c.table (bq s i).name).map fun c=>{c with table:=st.other}).length≤8:=by rw [bw];exact pU (vl _ _) z0.cons
  have a1:=z0.Gi f1 (fun f hf=>by
   obtain ⟨x,hx,rfl⟩:=List.mem_map.1 hf
   exact z0.fk x (List.mem_filter.1 hx).1) f2
  exact (a1.tq (t:={bq s i with name:=st.other}) ⟨by simp only;omega,by simp only;omega⟩).mono (by decide) (br _)
 rw [if_neg k9] at h
 by_cases k10:st.kind=9
 ·rw [if_pos k10] at h
  unfold tg at h
  simp only at h
  split at h
  ·cases h
  split at h
  ·cases h
  split at h
  ·cases h
  injection h with h;subst h
  exact ((z0.fh i ⟨by simp only [bA,bP,bI];omega,by simp only [bA,bP,bI];omega⟩).xV _).mono (by decide) (br _)
 rw [if_neg k10] at h
 by_cases k11:st.kind=11
 ·rw [if_pos k11] at h
  unfold vZ at h
  split at h
  ·cases h
  injection h with h;subst h
  exact (z0.xV _).mono (by decide) (br _)
 rw [if_neg k11] at h
 by_cases k12:st.kind=12
 ·rw [if_pos k12] at h
  unfold vG at h
  split at h
  ·simp only at h
   split at h
   ·cases h
   split at h
   ·cases h
   split at h
   ·cases h
   split at h
   ·cases h
   injection h with h;subst h
   rename_i x y _ _ _ _ _
   have a1:=z.rL i [x,y]
   have ta1:=a1.bq i
   exact ((a1.mono (br _) (by decide:6≤17592186044448)).fh i ⟨by simp only [bA,bP,bI];omega,by simp only;omega⟩).mono (by decide) (br _)
  ·cases h
 rw [if_neg k12] at h
 by_cases k13:st.kind=1
 ·rw [if_pos k13] at h
  unfold vC at h
  simp only at h
  split at h
  ·cases h
  injection h with h;subst h
  exact (z0.fh i ⟨by simp only [bA,bP,bI];omega,by simp only;omega⟩).mono (by decide) (br _)
 ·rw [if_neg k13] at h
  unfold rF at h
  simp only at h
  split at h
  ·cases h
  split at h
  ·split at h
   ·cases h
   injection h with h;subst h
   exact (z0.fh i ⟨by simp only [qi,tw];omega,by simp only [qi];omega⟩).mono (by decide) (br _)
  split at h
  ·cases h
  split at h
  ·injection h with h;subst h
   exact (z0.fh i ⟨by simp only [qi,tw];omega,by simp only [qi];omega⟩).mono (by decide) (br _)
  split at h
  ·cases h
  injection h with h;subst h
  exact (z0.rL i _).mono (by decide) (br _)
theorem W1 {t o:au} {e:Int}:∀{l:List Int} {k:Nat},scan (fun j c=>if (t.ae.getD c.toNat dF).kind≠(o.ae.getD j dF).kind then some 9 else none) l k=some e→e≠0:=by
 intro l k h
 exact Dl (fun k x e he=>by
  split at he
  ·injection he with he;omega
  ·cases he) h
theorem Nu {s:aq} {st:aG} {e:Int} (h:dD s st=.error e):e≠0:=by
 unfold dD at h
 by_cases k0:st.kind=13
 ·rw [if_pos k0] at h;cases h
 rw [if_neg k0] at h
 by_cases k1:st.kind=14
 ·rw [if_pos k1] at h
  unfold wH at h
  simp only at h
  split at h
  ·injection h with h;omega
  ·cases h
 rw [if_neg k1] at h
 by_cases k2:st.kind=15
 ·rw [if_pos k2] at h;cases h
 rw [if_neg k2] at h
 by_cases k3:st.kind=16
 ·rw [if_pos k3] at h
  unfold se at h
  simp only at h
  split at h
  ·injection h with h;omega
  ·cases h
 rw [if_neg k3] at h
 by_cases k4:st.kind=10
 ·rw [if_pos k4] at h
  unfold wI at h
  split at h
  ·injection h with h;omega
  ·cases h
 rw [if_neg k4] at h
 simp only at h
 by_cases k5:aY s.tables st.table<0
 ·rw [if_pos k5] at h;injection h with h;omega
 rw [if_neg k5] at h
 generalize (aY s.tables st.table).toNat=i at h
 by_cases k6:st.kind=4
 ·rw [if_pos k6] at h
  unfold tV at h
  simp only at h
  split at h
  ·injection h with h;omega
  ·cases h
 rw [if_neg k6] at h
 by_cases k7:st.kind=6
 ·rw [if_pos k7] at h
  unfold td at h
  simp only at h
  split at h
  ·rename_i q;injection h with h;omega
  split at h
  ·injection h with h;omega
  split at h
  ·injection h with h;omega
  ·cases h
 rw [if_neg k7] at h
 by_cases k8:st.kind=7
 ·rw [if_pos k8] at h
  unfold uc at h
  simp only at h
  split at h
  ·injection h with h;omega
  split at h
  ·injection h with h;omega
  split at h
  ·rename_i q;injection h with h;subst h;exact W1 q
  split at h
  ·injection h with h;omega
  split at h
  ·injection h with h;omega
  ·cases h
 rw [if_neg k8] at h
 by_cases k9:st.kind=8
 ·rw [if_pos k9] at h
  unfold vY at h
  simp only at h
  split at h
  ·injection h with h;omega
  split at h
  ·rename_i q;injection h with h;omega
  split at h
  ·rename_i q;injection h with h;omega
  split at h
  ·injection h with h;omega
  split at h
  ·injection h with h;omega
  split at h
  ·injection h with h;omega
  ·cases h
 rw [if_neg k9] at h
 by_cases k10:st.kind=9
 ·rw [if_pos k10] at h
  unfold tg at h
  simp only at h
  split at h
  ·injection h with h;omega
  split at h
  ·injection h with h;omega
  split at h
  ·rename_i q;injection h with h;omega
  ·cases h
 rw [if_neg k10] at h
 by_cases k11:st.kind=11
 ·rw [if_pos k11] at h
  unfold vZ at h
  split at h
  ·injection h with h;omega
  ·cases h
 rw [if_neg k11] at h
 by_cases k12:st.kind=12
 ·rw [if_pos k12] at h
  unfold vG at h
  split at h
  ·simp only at h
   split at h
   ·injection h with h;omega
   split at h
   ·injection h with h;omega
   split at h
   ·rename_i q;injection h with h;omega
   split at h
   ·rename_i q;injection h with h;omega
   ·cases h
  ·injection h with h;omega
 rw [if_neg k12] at h
 by_cases k13:st.kind=1
 ·rw [if_pos k13] at h
  unfold vC at h
  simp only at h
  split at h
  ·rename_i q;injection h with h;omega
  ·cases h
 rw [if_neg k13] at h
 unfold rF at h
 simp only at h
 split at h
 ·injection h with h;omega
 split at h
 ·split at h
  ·injection h with h;omega
  ·cases h
 split at h
 ·rename_i q;injection h with h;omega
 split at h
 ·cases h
 split at h
 ·rename_i q;injection h with h;omega
 ·cases h
def sZ:sY→aq
 | .error _=>⟨[],[],[]⟩
 | .ok t=>t
theorem pJ (st:aG) (fwd:Bool) (a b c:aq) (aU comp:cZ) (no nn:Nat) (err:Int):mB st fwd a b c aU comp no nn err=aj st++([.bool fwd]++aC a++aC b++aC c++[.sl 2 (aU.map aH),.sl 2 (comp.map aH),.ref 1001 0 no,.ref 1002 0 nn,.int .i64 err]):=rfl
theorem GU (st:aG) (fwd:Bool) (a b c:aq) (aU comp:cZ) (O N:List (List L)) (err:Int) (name:ByteArray) (j:Nat) (hj:j<a.tables.length) (ej:aY a.tables name=(j:Int)) (hji:j<aU.length) (h1:a.tables.length≤1048576) (h2:a.tables[j].ae.length≤1048576∧a.tables[j].pk.length≤1048576)
  (h3:aU[j].rows.length≤1048576∧∀x∈aU[j].rows,x.length≤1048576) :
  db Tryz.prog 159 [.one (.ptr 1000 0),oS name] [(1000,mB st fwd a b c aU comp O.length N.length err)] [(1001,⟨2,O,[]⟩),(1002,⟨2,N,[]⟩)]
   (.cR [.agg (ap a.tables[j]),.one (.ref 5 0 aU[j].rows.length)]) [(1000,mB st fwd a b c aU comp O.length N.length err)] [(1001,⟨2,O,[]⟩),(1002,⟨2,N,[]⟩),(5,⟨1,aU[j].rows.map xm,[]⟩)]:=by
 have ct:=VE a aU name j hj ej hji h1 h2 h3
 obtain ⟨t,ht⟩:∃t,a.tables[j]=t:=⟨_,rfl⟩
 obtain ⟨rl,hr⟩:∃rl,aU[j]=rl:=⟨_,rfl⟩
 rw [ht,hr] at ct
 rw [ht,hr]
 unfold bp at ct
 rw [cM] at ct
 rw [pJ,cM,cM,cM]
 unfold aj
 simp only [aW,aZ]
 refine ZM [1000] [1001,1002,5] Tryz.func159 Tryz.ntmps159 fun w0 m0 F0=>?_
 refine ab.gq ?_
 refine ZV (Z4 @dq @bh @bt @bu) Z0 (Z1 (Zd 1 [(0,9)] [(9,[(10,2)],[]),(12,[(13,1)],[])] [9,12] 8)) (Z1 (Zi [] [] [] [(7,15)] [] [15] [] [15] (ct))) ?_
 refine Gq.iN 15 5 rfl rfl (by decide) (.inl (gQ rfl)) ?_
 refine ZT Z0 ?_
 refine Gq.done ?_
 exact ZQ (Z1 Tryz.results159)
theorem VF (st:aG) (fwd:Bool) (a b c:aq) (aU comp:cZ) (O N:List (List L)) (err:Int) (name:ByteArray) (j:Nat) (hj:j<b.tables.length) (ej:aY b.tables name=(j:Int)) (h1:b.tables.length≤1048576) :
  db Tryz.prog 160 [.one (.ptr 1000 0),oS name] [(1000,mB st fwd a b c aU comp O.length N.length err)] [(1001,⟨2,O,[]⟩),(1002,⟨2,N,[]⟩)]
   (.v (.agg (ap b.tables[j]))) [(1000,mB st fwd a b c aU comp O.length N.length err)] [(1001,⟨2,O,[]⟩),(1002,⟨2,N,[]⟩)]:=by
 have ft:=qP b name (by omega)
 rw [ej,rZ,sB (show (0:Int)≤(j:Int) by omega)] at ft
 obtain ⟨t,ht⟩:∃t,b.tables[j]=t:=⟨_,rfl⟩
 have gt:(b.tables.map ap).getD j []=[.str t.name,.sl 3 (t.ae.map aT),.sl 1 (t.pk.map aX)]:=by rw [bJ _ _ _ hj,ht];rfl
 rw [ht]
 rw [cM] at ft
 rw [pJ,cM,cM,cM]
 unfold aj
 simp only [aW,aZ]
 refine ZM [1000] [1001,1002] Tryz.func160 Tryz.ntmps160 fun w0 m0 F0=>?_
 refine ZW (Z2 @gt @dq) (Z1 (ft)) ?_
 exact ZQ (Z1 Tryz.results160)
def wK (T:au) (rows:List Row) (key:Row):Row:=if te T rows key=true then (rows.getD (xP T rows key).toNat []).drop T.pk.length else []
theorem NL {T:au} {rows:List Row} {key:Row} (h:te T rows key=true):∃k,k<rows.length∧xP T rows key=(k:Int):=by
 unfold te at h
 unfold xP
 split at h
 ·cases h
 rename_i q
 rw [if_neg q]
 rcases qn (atKey T key) rows 0 with ⟨e1,_⟩|⟨z,hz,e1,_,_⟩
 ·exact absurd (show yv T rows key<0 by show idx _ rows 0<0;rw [e1];decide) q
 ·exact ⟨z,hz,by show idx _ rows 0=_;rw [e1,cN]⟩
theorem J7 (st:aG) (fwd:Bool) (a b:aq) (T:au) (aU:cZ) (tn:ByteArray) (rows:List Row) (O N:List (List L)) (err:Int) (key:Row) (hk:key.length≤1048576) (hp:T.pk.length≤1048576) (hr:rows.length≤1048576) (hw:∀r∈rows,T.pk.length≤r.length∧r.length≤1048576) :
  db Tryz.prog 161 [.one (.ptr 1000 0),.one (.ref 1003 0 key.length)] [(1000,mB st fwd a b ⟨[T],[],[]⟩ aU [⟨tn,rows⟩] O.length N.length err)] [(1001,⟨2,O,[]⟩),(1002,⟨2,N,[]⟩),(1003,⟨3,key.map bd,[]⟩)]
   (.cR [.one (cT (wK T rows key)),oB (te T rows key)]) [(1000,mB st fwd a b ⟨[T],[],[]⟩ aU [⟨tn,rows⟩] O.length N.length err)] [(1001,⟨2,O,[]⟩),(1002,⟨2,N,[]⟩),(1003,⟨3,key.map bd,[]⟩)]:=by
 have fd:=AB T rows key (by omega) (by omega) (by omega)
 rw [dq] at fd
 unfold bm cT at fd
 rw [pJ,cM,cM,cM]
 unfold aj
 simp only [aW,aZ,aJ,aI,aH,bm,dq]
 cases hb:te T rows key with
 | false =>
  have sp:wK T rows key=[]:=by unfold wK;rw [hb];rfl
  rw [hb] at fd
  rw [sp]
  refine ZM [1000] [1001,1002,1003] Tryz.func161 Tryz.ntmps161 fun w0 m0 F0=>?_
  refine ZW (Z1 (@List.getD_cons_zero.{0})) (Z1 (fd)) ?_
  exact ZQ (Z1 Tryz.results161)
 | true =>
  obtain ⟨k,hkl,ek⟩:=NL hb
  obtain ⟨x,hx⟩:∃x,rows[k]=x:=⟨_,rfl⟩
  obtain ⟨w1,w2⟩:=hw _ (bl hkl)
  rw [hx] at w1 w2
  have sp:wK T rows key=x.drop T.pk.length:=by unfold wK;rw [if_pos hb,ek,bG,bE _ hkl,hx]
  rw [hb,ek] at fd
  rw [sp]
  have gx:(rows.map cU).getD k []=[.sl 3 (x.map bd)]:=by rw [bJ _ _ _ hkl,hx];rfl
  have cl:=zq (x.drop T.pk.length) (by rw [wu];omega)
  have dl:((x.map bd).drop T.pk.length)=(x.drop T.pk.length).map bd:=List.map_drop.symm
  unfold cT at cl
  refine ZM [1000] [1001,1002,1003] Tryz.func161 Tryz.ntmps161 fun w0 m0 F0=>?_
  refine ZV (Z3 @gx @dl (@List.getD_cons_zero.{0})) (Z2 (cl) (fd)) (Z1 (Zd 6 [(0,8)] [(8,[(9,2)],[])] [8] 8)) Z0 ?_
  exact ZQ (Z1 Tryz.results161)
end Go.Bw
