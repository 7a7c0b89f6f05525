/- Proved: contracts of functions of this translation, for every state, and what they rest on; bounds stand ahead. -/
import Derived.Test.YtmnpdfeocknafaaGreatDoorVs
import Derived.Test.YtmnpdfeocknafaaGreatDoorVt
set_option maxRecDepth 100000
set_option maxHeartbeats 64000000
set_option linter.unusedSimpArgs false
set_option linter.unusedVariables false
namespace Go.Bw
open Go.Proofs
theorem GO (s : aq) (hf : s.Fits) : Sat Tryz.prog 42 [.agg (aC s)] (.v (oI (dC s))) := by
  by_cases h0 : 6 < s.tables.length ∨ 8 < s.ak.length ∨ 8 < s.cons.length
  · refine ZE Tryz.func42 Tryz.ntmps42 fun w0 m0 F0 => ?_
    refine rj Z0 Z0 ?_; repeat' (first | apply Zb | apply Zn | (apply Zm; intro h))
    all_goals first
      | (exfalso; omega)
      | (
         refine ZR (Z1 Tryz.results42) ?_
         rw [dC, if_pos h0])
  have spec : dC s = match scan (uN s.tables) s.tables 0 with
    | some e => e
    | none => match scan (uZ s) s.ak 0 with
      | some e => e
      | none => match scan (vj s) s.cons 0 with
        | some e => e
        | none => 0 := by rw [dC, if_neg h0] <;> rfl
  rw [spec]
  refine ZE Tryz.func42 Tryz.ntmps42 fun w0 m0 F0 => ?_
  refine rj Z0 Z0 ?_; repeat' (first | apply Zb | apply Zn | (apply Zm; intro h))
  refine ab.loop (ι := {k : Nat // k ≤ s.tables.length ∧ scan (uN s.tables) (s.tables.drop k) k = scan (uN s.tables) s.tables 0}) (fun k => ⟨98, [(1, .v (.one (.ptr 1 0))), (29, .v (.one (.sl 3 (s.tables.map ap)))), (30, .v (oI s.tables.length)), (31, .v (oI k.1))], [(1, aC s)], []⟩) (fun k => s.tables.length - k.1) ⟨0, bg _, rfl⟩ ?_ fun ⟨k, hkl, hi⟩ => ?_
  · exact ZL (Z1 @aC.eq_1)
  rcases cV k s.tables.length with hc | hc
  · obtain ⟨b1, b2⟩ := hf.table s.tables[k] (bl hc)
    repeat' (first | ((first | with_reducible refine qV ah fun K hK => ?_ | refine Q2 ?_ | ((with_reducible first | refine qS ?_ ?_ | refine qT ?_ ?_ | refine qU ?_ ?_) <;> (intro h; try simp only [NM] at h)) | with_reducible refine yD ah mixed 6 (by kernel_rfl) fun K hK => ?_ | ((with_reducible refine ai.is ?_); (first | refine ai.pure (I4 _ b1 b2) ?_ | ((apply ai.cO); (focus (simp -dsimp (disch := first | exact D | fail) only [go_sem, ↓reduceIte, seval]; rfl)); (focus (first | exact (I4 _ b1 b2)))))) | ((with_reducible refine bH.is ?_); (first | refine bH.intro (I4 _ b1 b2) ?_))) <;> simp -dsimp (disch := first | exact D | fail) only [go_sem, ↓reduceIte, seval]) | ((with_reducible refine hK _ ?_); clear hK K) | refine Q1 ?_ | ((with_reducible refine qW (T := TT) (b := ?_) ?_ ?_); rotate_left; exact rfl) | ((with_reducible refine yS ?_ ?_) <;> (intro h; try simp only [NM] at h)))
    all_goals
      first
        | (have hs : (uN s.tables) k s.tables[k] = none := by
             (simp (disch := omega) only [uN, bE]; (repeat' split) <;> first | rfl | with_reducible assumption | omega | (exfalso; omega) | (simp_all; done) | (simp_all; omega))
           refine ⟨⟨k + 1, by omega, by rw [wG (by omega) hs, hi]⟩, by simp only; omega, ?_⟩
           exact ZL (Z1 @aC.eq_1)
           done)
        | (simp -dsimp (disch := first | exact D | fail) only [aR, Tryz.results42, aQ, aS, aO, St.rest, St.freeze, RT, go_sem, ↓reduceIte, seval]
           rw [vB (by omega) ?_ hi]
           all_goals first | with_reducible rfl | ((simp (disch := omega) only [uN, bE]; (repeat' split) <;> first | rfl | with_reducible assumption | omega | (exfalso; omega) | (simp_all; done) | (simp_all; omega)); done) | rfl
           done)
  · rw [xL (by omega)] at hi
    have hi0 := hi.symm
    have hok : ∀ t ∈ s.tables, uD t := by
      intro t ht
      obtain ⟨j, hj, rfl⟩ := List.mem_iff_getElem.1 ht
      have h5 := BH hi.symm j hj
      rw [cN, uN] at h5
      split at h5
      · cases h5
      · rename_i h6
        exact KU (by simpa using h6)
    clear hi
    refine rj Z0 Z0 ?_; repeat' (first | apply Zb | apply Zn | (apply Zm; intro h))
    rw [hi0]
    simp only
    clear hi0
    refine ab.loop (ι := {k : Nat // k ≤ s.ak.length ∧ scan (uZ s) (s.ak.drop k) k = scan (uZ s) s.ak 0}) (fun k => ⟨98, [(1, .v (.one (.ptr 1 0))), (57, .v (.one (.sl 3 (s.ak.map aL)))), (58, .v (oI s.ak.length)), (59, .v (oI k.1))], [(1, aC s)], []⟩) (fun k => s.ak.length - k.1) ⟨0, bg _, rfl⟩ ?_ fun ⟨k, hkl, hi⟩ => ?_
    · exact ZL (Z1 @aC.eq_1)
    rcases cV k s.ak.length with hc | hc
    · have b1 := hf.fk s.ak[k] (bl hc)
      have b2 := hf.ak
      have b3 := hf.tables
      repeat' (first | ((first | with_reducible refine qV ah fun K hK => ?_ | refine Q2 ?_ | ((with_reducible first | refine qS ?_ ?_ | refine qT ?_ ?_ | refine qU ?_ ?_) <;> (intro h; try simp only [NM] at h)) | with_reducible refine yD ah mixed 6 (by kernel_rfl) fun K hK => ?_ | ((with_reducible refine ai.is ?_); (first | refine ai.pure (IS s _ b3 b1 hok) ?_ | refine ai.pure (F4 (s.ak.take k) _ [.fz (aL s.ak[k])] (fun o => sK o s.ak[k]) (by rw [rV]; omega) fun t ht => Iw t s.ak[k] (hf.fk t (tv ht))) ?_ | ((first | refine ai.wy (IS s _ b3 b1 hok) ?_ ?_; focus (simp -dsimp (disch := first | exact D | fail) only [go_sem, ↓reduceIte, seval, yF]; done) | refine ai.wy (F4 (s.ak.take k) _ [.fz (aL s.ak[k])] (fun o => sK o s.ak[k]) (by rw [rV]; omega) fun t ht => Iw t s.ak[k] (hf.fk t (tv ht))) ?_ ?_; focus (simp -dsimp (disch := first | exact D | fail) only [go_sem, ↓reduceIte, seval, yF]; done))))) | ((with_reducible refine bH.is ?_); (first | refine bH.intro (IS s _ b3 b1 hok) ?_ | refine bH.intro (F4 (s.ak.take k) _ [.fz (aL s.ak[k])] (fun o => sK o s.ak[k]) (by rw [rV]; omega) fun t ht => Iw t s.ak[k] (hf.fk t (tv ht))) ?_))) <;> simp -dsimp (disch := first | exact D | fail) only [go_sem, ↓reduceIte, seval, yF]) | ((with_reducible refine hK _ ?_); clear hK K) | refine Q1 ?_ | ((with_reducible refine qW (T := TT) (b := ?_) ?_ ?_); rotate_left; exact rfl) | ((with_reducible refine yS ?_ ?_) <;> (intro h; try simp only [NM] at h)))
      all_goals
        first
          | (have hs : (uZ s) k s.ak[k] = none := by
               (simp (disch := omega) only [uZ, bE]; (repeat' split) <;> first | rfl | with_reducible assumption | omega | (exfalso; omega) | (simp_all; done) | (simp_all; omega))
             refine ⟨⟨k + 1, by omega, by rw [wG (by omega) hs, hi]⟩, by simp only; omega, ?_⟩
             exact ZL (Z1 @aC.eq_1)
             done)
          | (simp -dsimp (disch := first | exact D | fail) only [aR, Tryz.results42, aQ, aS, aO, St.rest, St.freeze, RT, go_sem, ↓reduceIte, seval]
             rw [vB (by omega) ?_ hi]
             all_goals first | with_reducible rfl | ((simp (disch := omega) only [uZ, bE]; (repeat' split) <;> first | rfl | with_reducible assumption | omega | (exfalso; omega) | (simp_all; done) | (simp_all; omega)); done) | rfl
             done)
    rw [xL (by omega)] at hi
    have hi0 := hi.symm
    clear hi
    refine rj Z0 Z0 ?_; repeat' (first | apply Zb | apply Zn | (apply Zm; intro h))
    rw [hi0]
    simp only
    clear hi0
    refine ab.loop (ι := {k : Nat // k ≤ s.cons.length ∧ scan (vj s) (s.cons.drop k) k = scan (vj s) s.cons 0}) (fun k => ⟨98, [(1, .v (.one (.ptr 1 0))), (78, .v (.one (.sl 7 (s.cons.map aK)))), (79, .v (oI s.cons.length)), (80, .v (oI k.1))], [(1, aC s)], []⟩) (fun k => s.cons.length - k.1) ⟨0, bg _, rfl⟩ ?_ fun ⟨k, hkl, hi⟩ => ?_
    · exact ZL (Z1 @aC.eq_1)
    rcases cV k s.cons.length with hc | hc
    · have b2 := hf.cons
      have b3 := hf.tables
      have b4 : ∀ t ∈ s.tables, t.ae.length ≤ 140737488355328 := fun t ht => (hf.table t ht).1
      repeat' (first | ((first | with_reducible refine qV ah fun K hK => ?_ | refine Q2 ?_ | ((with_reducible first | refine qS ?_ ?_ | refine qT ?_ ?_ | refine qU ?_ ?_) <;> (intro h; try simp only [NM] at h)) | with_reducible refine yD ah mixed 6 (by kernel_rfl) fun K hK => ?_ | ((with_reducible refine ai.is ?_); (first | refine ai.pure (IZ s _ b3 b4) ?_ | refine ai.pure (I3 s.cons k s.cons[k] b2) ?_ | ((first | refine ai.wy (IZ s _ b3 b4) ?_ ?_; focus (simp -dsimp (disch := first | exact D | fail) only [go_sem, ↓reduceIte, seval, yF]; done) | refine ai.wy (I3 s.cons k s.cons[k] b2) ?_ ?_; focus (simp -dsimp (disch := first | exact D | fail) only [go_sem, ↓reduceIte, seval, yF]; done))))) | ((with_reducible refine bH.is ?_); (first | refine bH.intro (IZ s _ b3 b4) ?_ | refine bH.intro (I3 s.cons k s.cons[k] b2) ?_))) <;> simp -dsimp (disch := first | exact D | fail) only [go_sem, ↓reduceIte, seval, yF]) | ((with_reducible refine hK _ ?_); clear hK K) | refine Q1 ?_ | ((with_reducible refine qW (T := TT) (b := ?_) ?_ ?_); rotate_left; exact rfl) | ((with_reducible refine yS ?_ ?_) <;> (intro h; try simp only [NM] at h)))
      all_goals
        first
          | (have hs : (vj s) k s.cons[k] = none := by
               (simp (disch := omega) only [vj, bE]; (repeat' split) <;> first | rfl | with_reducible assumption | omega | (exfalso; omega) | (simp_all; done) | (simp_all; omega))
             refine ⟨⟨k + 1, by omega, by rw [wG (by omega) hs, hi]⟩, by simp only; omega, ?_⟩
             exact ZL (Z1 @aC.eq_1)
             done)
          | (simp -dsimp (disch := first | exact D | fail) only [aR, Tryz.results42, aQ, aS, aO, St.rest, St.freeze, RT, go_sem, ↓reduceIte, seval]
             rw [vB (by omega) ?_ hi]
             all_goals first | with_reducible rfl | ((simp (disch := omega) only [vj, bE]; (repeat' split) <;> first | rfl | with_reducible assumption | omega | (exfalso; omega) | (simp_all; done) | (simp_all; omega)); done) | rfl
             done)
    rw [xL (by omega)] at hi
    have hi0 := hi.symm
    clear hi
    refine rj Z0 Z0 ?_; repeat' (first | apply Zb | apply Zn | (apply Zm; intro h))
    rw [hi0]
    exact ZQ (Z1 Tryz.results42)
theorem IR (a b:au) (h1:a.ae.length≤140737488355328) (h2:b.ae.length≤140737488355328) (h3:a.pk.length≤140737488355328):Sat Tryz.prog 52 [.agg (ap a),.agg (ap b)] (.v (oB (decide (a=b)))):=by
 have sp:decide (a=b)=(aw a.name b.name&&(decide (a.ae=b.ae)&&decide (a.pk=b.pk))):=by
  rw [EM]
  simp only [qa,qo,uv]
  constructor
  ·rintro rfl;exact ⟨rfl,rfl,rfl⟩
  ·rintro ⟨h1,h2,h3⟩;cases a;cases b;simp_all
 rw [sp]
 refine ZE Tryz.func52 Tryz.ntmps52 fun w0 m0 F0=>?_
 refine pK Z0 (Z2 (J0 a.ae b.ae h1 h2) (Be a.pk b.pk h3)) ?_;repeat' (first|apply Zb|apply Zn|(apply Zm;intro h))
 all_goals simp -dsimp (disch:=first|exact D|fail) only [aR,Tryz.results52,aQ,aS,aO,St.rest,St.freeze,RT,go_sem,↓reduceIte,seval]
 all_goals simp_all [aw]
theorem KT (a b:aG) (ha:a.Fits) (hb:b.Fits):Sat Tryz.prog 57 [.agg (aj a),.agg (aj b)] (.v (oB (decide (a=b)))):=by
 have a1:=ha.ae
 have a2:=ha.BT
 have a3:=ha.CQ
 have a4:=ha.fk
 have b2:=hb.BT
 have c1:=Be a.ae b.ae (by omega)
 have c2:=IR a.pZ b.pZ (by omega) (by omega) (by omega)
 have c3:=Kc a.fk b.fk (by omega)
 have c4:Sat Tryz.prog 99 [.agg (ap a.pZ),.agg (ap b.pZ)] (.v (oB (decide (a.pZ=b.pZ)))):=by
  refine ZE Tryz.func99 Tryz.ntmps99 fun w0 m0 F0=>?_
  refine ZW Z0 (Z1 (c2)) ?_;repeat' (first|apply Zb|apply Zn|(apply Zk;intro K hK))
  exact ZQ (Z1 Tryz.results99)
 simp only [ap] at c4
 simp only [aL] at c3
 refine ZE Tryz.func57 Tryz.ntmps57 fun w0 m0 F0=>?_
 refine qA ?_
 refine qV ah fun K hK=>?_
 refine ZU (Z1 @aj.eq_1) ?_
 refine hK _ (qB ?_)
 try clear hK K
 refine qA ?_
 refine qV ah fun K hK=>?_
 simp only [List.append_eq,aW,aZ]
 refine ZU (Z1 @aj.eq_1) ?_
 refine pK (Z1 @aj.eq_1) (Z3 (c1) (c4) (c3)) ?_;repeat' (first|apply Zb|apply Zn|(apply Zm;intro h)|(apply Zk;intro K hK))
 all_goals simp -dsimp (disch:=first|exact D|fail) only [aR,Tryz.results57,aQ,aS,aO,St.rest,St.freeze,RT,go_sem,↓reduceIte,seval]
 all_goals
  by_cases he:a=b
  ·have he':=Ob.1 he
   simp only [he,fO]
   all_goals simp_all
  ·have he':=fun q=>he (Ob.2 q)
   simp only [he,gL]
   all_goals simp_all
theorem U9 (s:aq) (i:Nat) (name:ByteArray) (hi:i<s.tables.length) (sm:sR s) (hpk:∀t∈s.tables,xW t) :
  db Tryz.prog 86 [.one (.ptr 1000 0),oI i,oS name] (iB s) (iR s) (.v (oI (rE (uc s i name)))) (dh (uc s i name)) (di (uc s i name)):=by
 cases hE:uc s i name with
 | error e=>exact U4 s i name e hi sm hpk hE
 | ok R=>exact U8 s i name R hi sm hpk hE
def xo (a b:List Bool):Prop:=a.length=b.length∧∀i,a.getD i false=true→b.getD i false=true
theorem xo.refl (a:List Bool):xo a a:=⟨rfl,fun _ h=>h⟩
theorem G5 (l:List Bool) (i j:Nat) (x:Bool):(l.set i x).getD j false=if i=j∧i<l.length then x else l.getD j false:=by
 rw [rM,rM,Ce]
 by_cases h:i=j
 ·subst h
  by_cases hi:i<l.length
  ·simp [hi]
  ·simp [hi]
 ·simp [h]
theorem xo.set {a b:List Bool} (h:xo a b) (i:Nat):xo (a.set i true) (b.set i true):=by
 refine ⟨by simp [h.1],fun j hj=>?_⟩
 rw [G5] at hj ⊢
 rw [←h.1]
 split at hj
 ·rename_i q;rw [if_pos q]
 ·rename_i q;rw [if_neg q];exact h.2 j hj
theorem xo.trans {a b c:List Bool} (h:xo a b) (k:xo b c):xo a c:=⟨h.1.trans k.1,fun i hi=>k.2 i (h.2 i hi)⟩
theorem NK (o:cZ) (n:ByteArray) (rows:List Row) (k:Nat) (hk:k<o.length) (h:aw o[k].table n=true):((setAt o n rows k).map aH).set k [.str o[k].table,bm rows]=(setAt o n rows (k+1)).map aH:=by
 rw [NI o n rows k hk,h]
 unfold setAt
 rw [uV hk,dn,dn,z8 _ _ (by simp [qu];omega)]
 congr 1
 have e0:k - ((qu (o.take k) n rows).map aH).length=0:=by simp [qu];omega
 rw [e0]
 rfl
theorem EY (st:aG) (fwd:Bool) (a b c:aq) (aU comp:cZ) (o nw:cZ) (err:Int) (name:ByteArray) (rows:List Row) (ho:o.length≤1048576) :
  db Tryz.prog 163 [.one (.ptr 1000 0),oS name,.one (bm rows)] [(1000,mB st fwd a b c aU comp o.length nw.length err)] [(1001,⟨2,o.map aH,[]⟩),(1002,⟨2,nw.map aH,[]⟩)]
   (.cR []) [(1000,mB st fwd a b c aU comp o.length nw.length err)] [(1001,⟨2,(qu o name rows).map aH,[]⟩),(1002,⟨2,(nw).map aH,[]⟩)]:=by
 unfold mB aj aC
 simp only [aW,aZ]
 refine ZM [1000] [1001,1002] Tryz.func163 Tryz.ntmps163 fun w0 m0 F0=>?_
 refine ZW Z0 Z0 ?_
 refine ab.loop (ι:={k:Nat // k≤o.length}) (fun k=>⟨34,[(0,.v (.one (.ptr 1000 0))),(1,.v (oS name)),(2,.v (.one (bm rows))),(11,.v (oI o.length)),(12,.v (oI k.1))],[(1000,mB st fwd a b c aU comp o.length nw.length err)],[(1001,⟨2,(setAt o name rows k.1).map aH,[]⟩),(1002,⟨2,(nw).map aH,[]⟩)]⟩) (fun k=>o.length - k.1) ⟨0,bg _⟩ ?_ fun ⟨k,hk⟩=>?_
 ·refine St.bN ?_ ?_ ?_<;>simp only [LE,EN,Nat.reduceEqDiff,reduceIte,Nat.reduceSub,mB,aj,aC,aW,aZ,setAt,qu,c9,dA,aI,s9]
 simp only at hk ⊢
 rcases cV k o.length with hc|hc
 ·have g:=NH o name rows k hc
  have sl:=IU o name rows k hk
  obtain ⟨x,hx⟩:∃x,o[k]=x:=⟨_,rfl⟩
  rw [hx] at g
  cases he:aw x.table name with
  | true =>
   have e1:(x.table.toList==name.toList)=true:=he
   have es:=NK o name rows k hc (by rw [hx];exact he)
   rw [hx] at es
   unfold bm at es g
   refine ZW (Z5 @mB.eq_1 @aj.eq_1 @g @sl @e1) Z0 ?_
   refine ⟨⟨k+1,by omega⟩,by simp only;omega,?_⟩
   exact ZN (Z6 @mB.eq_1 @aj.eq_1 @aC.eq_1 @es @iy @pO)
  | false =>
   have e1:(x.table.toList==name.toList)=false:=he
   have es:=NJ o name rows k hc (by rw [hx];exact he)
   unfold bm at g
   refine ZW (Z5 @mB.eq_1 @aj.eq_1 @g @sl @e1) Z0 ?_
   refine ⟨⟨k+1,by omega⟩,by simp only;omega,?_⟩
   exact ZN (Z6 @mB.eq_1 @aj.eq_1 @aC.eq_1 @es @iy @pO)
 ·have hk2:k=o.length:=by omega
  subst hk2
  have es:setAt o name rows o.length=qu o name rows:=by unfold setAt;rw [dw,Hd,bM]
  rw [es]
  refine ZW (Z2 @mB.eq_1 @aj.eq_1) Z0 ?_
  exact ZQ (Z1 Tryz.results163)
theorem GS (st:aG) (fwd:Bool) (a b c:aq) (aU comp:cZ) (o nw:cZ) (err:Int) (name:ByteArray) (rows:List Row) (ho:nw.length≤1048576) :
  db Tryz.prog 164 [.one (.ptr 1000 0),oS name,.one (bm rows)] [(1000,mB st fwd a b c aU comp o.length nw.length err)] [(1001,⟨2,o.map aH,[]⟩),(1002,⟨2,nw.map aH,[]⟩)]
   (.cR []) [(1000,mB st fwd a b c aU comp o.length nw.length err)] [(1001,⟨2,(o).map aH,[]⟩),(1002,⟨2,(qu nw name rows).map aH,[]⟩)]:=by
 unfold mB aj aC
 simp only [aW,aZ]
 refine ZM [1000] [1001,1002] Tryz.func164 Tryz.ntmps164 fun w0 m0 F0=>?_
 refine ZW Z0 Z0 ?_
 refine ab.loop (ι:={k:Nat // k≤nw.length}) (fun k=>⟨34,[(0,.v (.one (.ptr 1000 0))),(1,.v (oS name)),(2,.v (.one (bm rows))),(11,.v (oI nw.length)),(12,.v (oI k.1))],[(1000,mB st fwd a b c aU comp o.length nw.length err)],[(1001,⟨2,(o).map aH,[]⟩),(1002,⟨2,(setAt nw name rows k.1).map aH,[]⟩)]⟩) (fun k=>nw.length - k.1) ⟨0,bg _⟩ ?_ fun ⟨k,hk⟩=>?_
 ·refine St.bN ?_ ?_ ?_<;>simp only [LE,EN,Nat.reduceEqDiff,reduceIte,Nat.reduceSub,mB,aj,aC,aW,aZ,setAt,qu,c9,dA,aI,s9]
 simp only at hk ⊢
 rcases cV k nw.length with hc|hc
 ·have g:=NH nw name rows k hc
  have sl:=IU nw name rows k hk
  obtain ⟨x,hx⟩:∃x,nw[k]=x:=⟨_,rfl⟩
  rw [hx] at g
  cases he:aw x.table name with
  | true =>
   have e1:(x.table.toList==name.toList)=true:=he
   have es:=NK nw name rows k hc (by rw [hx];exact he)
   rw [hx] at es
   unfold bm at es g
   refine ZW (Z5 @mB.eq_1 @aj.eq_1 @g @sl @e1) Z0 ?_
   refine ⟨⟨k+1,by omega⟩,by simp only;omega,?_⟩
   exact ZN (Z6 @mB.eq_1 @aj.eq_1 @aC.eq_1 @es @iy @pO)
  | false =>
   have e1:(x.table.toList==name.toList)=false:=he
   have es:=NJ nw name rows k hc (by rw [hx];exact he)
   unfold bm at g
   refine ZW (Z5 @mB.eq_1 @aj.eq_1 @g @sl @e1) Z0 ?_
   refine ⟨⟨k+1,by omega⟩,by simp only;omega,?_⟩
   exact ZN (Z6 @mB.eq_1 @aj.eq_1 @aC.eq_1 @es @iy @pO)
 ·have hk2:k=nw.length:=by omega
  subst hk2
  have es:setAt nw name rows nw.length=qu nw name rows:=by unfold setAt;rw [dw,Hd,bM]
  rw [es]
  refine ZW (Z2 @mB.eq_1 @aj.eq_1) Z0 ?_
  exact ZQ (Z1 Tryz.results164)
end Go.Bw
