/- Proved: contracts of functions of this translation, for every state, and what they rest on; bounds stand ahead. -/
import Derived.Test.YtmnpdfeocknafaaGreatDoorVg
import Derived.Test.YtmnpdfeocknafaaGreatDoorVh
import Derived.Test.YtmnpdfeocknafaaGreatDoorVk
set_option maxHeartbeats 64000000
set_option linter.unusedSimpArgs false
set_option linter.unusedVariables false
namespace Go.Bw
open Go.Proofs
theorem IZ (s : aq) (c : dN) (h1 : s.tables.length ≤ 140737488355328) (h2 : ∀ t ∈ s.tables, t.ae.length ≤ 140737488355328) :
    Sat Tryz.prog 78 [.agg (aC s), .agg (aK c)] (.v (oI (yJ s c))) := by
  rcases qn (fun t => aw t.name c.table) s.tables 0 with ⟨e1, _⟩ | ⟨i, hi, e1, _⟩
  · have e1 : aY s.tables c.table = -1 := e1
    refine ZE Tryz.func78 Tryz.ntmps78 fun w0 m0 F0 => ?_
    repeat' (first | ((first | with_reducible refine qV ah fun K hK => ?_ | ((with_reducible refine ai.is ?_); (refine ai.pure (qP _ _ h1) ?_))) <;> simp -dsimp (disch := first | exact D | fail) only [go_sem, ↓reduceIte, seval, e1, ux]) | ((with_reducible refine hK _ ?_); clear hK K) | refine Q1 ?_ | ((with_reducible refine qW (T := TT) (b := ?_) ?_ ?_); rotate_left; exact rfl) | fail)
    refine ZR (Z1 Tryz.results78) ?_
    simp [yJ, e1]
  have e1 : aY s.tables c.table = (i : Int) := by unfold aY; simpa using e1
  have g1 : s.tables.getD i tL = s.tables[i] := by simp [List.getD, hi]
  have spec : yJ s c = if c.left < 0 ∨ (s.tables[i].ae.length : Int) ≤ c.left ∨ Ai c.op = false ∨ c.right < -1 ∨ (s.tables[i].ae.length : Int) ≤ c.right ∨ (0 ≤ c.right ∧ c.value ≠ zV) then 3
      else if 0 ≤ c.right then (if (s.tables[i].ae.getD c.left.toNat dF).kind ≠ (s.tables[i].ae.getD c.right.toNat dF).kind then 7 else 0)
      else if c.value.kind ≠ (s.tables[i].ae.getD c.left.toNat dF).kind then 7 else tK c.value := by
    simp only [yJ, e1, bG, g1]
    rw [if_neg (by omega)]
  rw [spec]
  cases ho : Ai c.op with
  | false =>
    have e3 : xX c.op = 3 := by simp [xX, ho]
    refine ZE Tryz.func78 Tryz.ntmps78 fun w0 m0 F0 => ?_
    repeat' (first | ((first | with_reducible refine qV ah fun K hK => ?_ | refine Q2 ?_ | ((with_reducible refine qS ?_ ?_) <;> (intro h; try simp only [NM] at h)) | ((with_reducible refine ai.is ?_); (first | refine ai.pure (qP _ _ h1) ?_ | refine ai.pure (Bi zV zV _) ?_))) <;> simp -dsimp (disch := first | exact D | fail) only [go_sem, ↓reduceIte, seval, e1, ux, rZ, e3]) | ((with_reducible refine hK _ ?_); clear hK K) | refine Q1 ?_ | ((with_reducible refine qW (T := TT) (b := ?_) ?_ ?_); rotate_left; exact rfl) | fail)
    all_goals simp -dsimp (disch := first | exact D | fail) only [aR, Tryz.results78, aQ, aS, aO, St.rest, St.freeze, RT, go_sem, ↓reduceIte, seval]
    all_goals
      (simp (disch := omega) only [ho, ne_eq, NQ, bE]
       (repeat' split) <;> first
         | rfl
         | omega
         | (exfalso; omega)
         | (exfalso; simp_all; done)
         | (simp_all; done)
         | (simp_all; omega)
         | (exfalso; simp_all; omega))
  | true =>
    have e3 : xX c.op = 0 := by simp [xX, ho]
    refine ZE Tryz.func78 Tryz.ntmps78 fun w0 m0 F0 => ?_
    repeat' (first | ((first | with_reducible refine qV ah fun K hK => ?_ | refine Q2 ?_ | ((with_reducible refine qS ?_ ?_) <;> (intro h; try simp only [NM] at h)) | with_reducible refine yD ah mixed 6 (by kernel_rfl) fun K hK => ?_ | ((with_reducible refine ai.is ?_); (first | refine ai.pure (qP _ _ h1) ?_ | refine ai.pure (Bi zV zV _) ?_ | refine ai.pure (u7 _) ?_))) <;> simp -dsimp (disch := first | exact D | fail) only [go_sem, ↓reduceIte, seval, e1, ux, rZ, e3]) | ((with_reducible refine hK _ ?_); clear hK K) | refine Q1 ?_ | ((with_reducible refine qW (T := TT) (b := ?_) ?_ ?_); rotate_left; exact rfl) | ((with_reducible refine yS ?_ ?_) <;> (intro h; try simp only [NM] at h)) | fail)
    all_goals simp -dsimp (disch := first | exact D | fail) only [aR, Tryz.results78, aQ, aS, aO, St.rest, St.freeze, RT, go_sem, ↓reduceIte, seval]
    all_goals
      (simp (disch := omega) only [ho, ne_eq, NQ, bE]
       (repeat' split) <;> first
         | rfl
         | omega
         | (exfalso; omega)
         | (exfalso; simp_all; done)
         | (simp_all; done)
         | (simp_all; omega)
         | (exfalso; simp_all; omega))
theorem FV (l:List au) (i:Nat) (t:au):tF (qk l i t)=(l.set i t).map ap:=eW _
theorem UN (s:aq) (i:Nat) (name:ByteArray) (hi:i<s.tables.length) (sm:sR s) :
  db Tryz.prog 84 [.one (.ptr 1000 0),oI i,oS name] (iB s) (iR s) (.v (oI (rE (tV s i name)))) (dh (tV s i name)) (di (tV s i name)):=by
 have b1:=sm.tables
 have b3:=sm.ak
 have b4:=sm.cons
 obtain ⟨t,ht⟩:∃t,s.tables[i]=t:=⟨_,rfl⟩
 have htA:bq s i=t:=by unfold bq;rw [bE _ hi,ht]
 have fs:=qP s name (by omega)
 rcases qn (fun u=>aw u.name name) s.tables 0 with ⟨e1,_⟩|⟨j,hj,e1,_,_⟩
 case inr =>
  have e1:aY s.tables name=(j:Int):=by unfold aY;simpa using e1
  rw [e1,rZ] at fs
  have spec:tV s i name=.error 5:=by unfold tV;rw [if_pos (by omega)]
  rw [spec]
  unfold iB iR dh di rE
  simp only
  refine ZM [1000] [1,2,3] Tryz.func84 Tryz.ntmps84 fun w0 m0 F0=>?_
  refine ab.eM 1000 rfl ?_
  refine ZU (Z3 @fG @eW @fH) ?_
  refine ab.eM 1001 rfl ?_
  refine ZU (Z3 @fG @eW @fH) ?_
  refine ZW Z0 (Z1 (fs)) ?_
  exact ZQ (Z1 Tryz.results84)
 have e1:aY s.tables name=-1:=e1
 rw [e1,ux] at fs
 obtain ⟨cut,hcut⟩:∃cut,s.tables.take i++s.tables.drop (i+1)=cut:=⟨_,rfl⟩
 have spec:tV s i name=.ok ⟨vA qp 0 (cut.length+1) (cut++[{t with name:=name}]),s.ak.map (vX t.name name),s.cons.map (zM t.name name)⟩:=by
  unfold tV tq
  rw [if_neg (by omega),htA,hcut]
  rfl
 rw [spec]
 have cl:=Cz s.tables i hi
 rw [hcut] at cl
 have dl:=M7 (s.tables.map ap) i (by simpa using hi) (by simp;omega) (by rw [ie];trivial)
 rw [bw] at dl
 have cm:=CA ap s.tables i hi [.str ByteArray.empty,.sl 3 [],.sl 1 []]
 rw [hcut] at cm
 have it:=FW cut (s.ak.map aL) (s.cons.map aK) s.ak.length s.cons.length {t with name:=name} (by omega)
 have pl:=(DW qp 0 (cut.length+1) (cut++[{t with name:=name}])).length_eq
 rw [bA,z7] at pl
 obtain ⟨NT,hNT⟩:∃NT,vA qp 0 (cut.length+1) (cut++[{t with name:=name}])=NT:=⟨_,rfl⟩
 rw [hNT] at it pl ⊢
 have gi:(s.tables.map ap).getD i []=ap t:=by rw [bJ _ _ _ hi,ht]
 unfold iB iR dh di qw qx rE
 simp only [bw,pl]
 rw [cl] at it ⊢
 refine ZM [1000] [1,2,3] Tryz.func84 Tryz.ntmps84 fun w0 m0 F0=>?_
 refine ab.gq ?_
 refine ab.eM 1000 rfl ?_
 refine ZU (Z3 @fG @eW @fH) ?_
 refine ab.eM 1001 rfl ?_
 refine ZU (Z3 @fG @eW @fH) ?_
 refine ZV (Z4 @gi @bh @bt @bu) (Z1 (fs)) (Z1 (Zs 7)) (Z1 (Zi [] [(1000,1000)] [] [(6,39)] [] [1000,39] [] [1000,39] (dl))) ?_
 refine ab.wW 39 (s.tables.length - 1) rfl rfl (by simp;omega) ?_
 refine ZU Z0 ?_
 rw [cm]
 refine ZV (Z4 @dz @bh @bt @bu) Z0 Z0 (Z1 (Zi [(1000,1000)] [(1000,39),(1001,1001),(1002,1002)] [(1000,1000)] [(11,46),(1001,1001),(1002,1002)] [] [39,46] [1000,1000] [39,1001,1002,46,1001,1002] (it))) ?_
 refine ab.loop (ι:={k:Nat // k≤s.ak.length}) (fun k=>⟨119,[(0,.v (.one (.ptr 1000 0))),(2,.v (oS name)),(10,.v (oS t.name)),(51,.v (oI s.ak.length)),(52,.v (oI k.1))],[(1000,[.ref 46 0 (s.tables.length - 1+1),.ref 1001 0 s.ak.length,.ref 1002 0 s.cons.length])],[(46,⟨3,NT.map ap,[]⟩),(1001,⟨3,(pQ (vX t.name name) s.ak k.1).map aL,[]⟩),(1002,⟨7,s.cons.map aK,[]⟩)]⟩) (fun k=>s.ak.length - k.1) ⟨0,bg _⟩ ?_ fun ⟨k,hkl⟩=>?_
 ·exact ZL (Z1 @uK)
 simp only at hkl ⊢
 rcases cV k s.ak.length with hk|hk
 ·have ml:=tW (vX t.name name) s.ak k
  have mg:=zN aL (vX t.name name) s.ak k hk
  have ms:=zO aL (vX t.name name) s.ak k hk
  have mk:=AE (vX t.name name) s.ak k hk
  have gs:=fun x=>FX ((pQ (vX t.name name) s.ak k).map aL) k x [] (by rw [bw,tW];exact hk)
  obtain ⟨fb,hfb⟩:∃fb,s.ak[k]=fb:=⟨_,rfl⟩
  rw [hfb] at mg ms mk
  cases h1:aw fb.table t.name<;>cases h2:aw fb.ref t.name
  ·have h1':¬ fb.table.toList=t.name.toList:=by simpa [aw] using h1
   have h2':¬ fb.ref.toList=t.name.toList:=by simpa [aw] using h2
   have mk:=mk (by unfold vX c7;rw [h1,h2];rfl)
   refine ZW (Z4 @ml @mg @h1' @h2') Z0 ?_
   refine ⟨⟨k+1,by omega⟩,by simp only;omega,?_⟩
   exact ZL (Z1 @mk)
  ·have h1':¬ fb.table.toList=t.name.toList:=by simpa [aw] using h1
   have h2':fb.ref.toList=t.name.toList:=by simpa [aw] using h2
   have er:vX t.name name fb={fb with ref:=name}:=by unfold vX c7;rw [h1,h2];rfl
   rw [er] at ms
   simp only [aL,bj] at ms
   refine ZW (Z7 @ml @mg @gs @h1' @h2' (@List.set_set.{0}) (@List.length_set.{0})) Z0 ?_
   refine ⟨⟨k+1,by omega⟩,by simp only;omega,?_⟩
   exact ZL (Z1 @ms)
  ·have h1':fb.table.toList=t.name.toList:=by simpa [aw] using h1
   have h2':¬ fb.ref.toList=t.name.toList:=by simpa [aw] using h2
   have er:vX t.name name fb={fb with table:=name}:=by unfold vX c7;rw [h1,h2];rfl
   rw [er] at ms
   simp only [aL,bj] at ms
   refine ZW (Z7 @ml @mg @gs @h1' @h2' (@List.set_set.{0}) (@List.length_set.{0})) Z0 ?_
   refine ⟨⟨k+1,by omega⟩,by simp only;omega,?_⟩
   exact ZL (Z1 @ms)
  ·have h1':fb.table.toList=t.name.toList:=by simpa [aw] using h1
   have h2':fb.ref.toList=t.name.toList:=by simpa [aw] using h2
   have er:vX t.name name fb={fb with table:=name,ref:=name}:=by unfold vX c7;rw [h1,h2];rfl
   rw [er] at ms
   simp only [aL,bj] at ms
   refine ZW (Z7 @ml @mg @gs @h1' @h2' (@List.set_set.{0}) (@List.length_set.{0})) Z0 ?_
   refine ⟨⟨k+1,by omega⟩,by simp only;omega,?_⟩
   exact ZL (Z1 @ms)
 have hk:k=s.ak.length:=by omega
 subst hk
 rw [yu]
 refine ZW Z0 Z0 ?_
 refine ab.loop (ι:={k:Nat // k≤s.cons.length}) (fun k=>⟨119,[(0,.v (.one (.ptr 1000 0))),(2,.v (oS name)),(10,.v (oS t.name)),(96,.v (oI s.cons.length)),(97,.v (oI k.1))],[(1000,[.ref 46 0 (s.tables.length - 1+1),.ref 1001 0 s.ak.length,.ref 1002 0 s.cons.length])],[(46,⟨3,NT.map ap,[]⟩),(1001,⟨3,(s.ak.map (vX t.name name)).map aL,[]⟩),(1002,⟨7,(pQ (zM t.name name) s.cons k.1).map aK,[]⟩)]⟩) (fun k=>s.cons.length - k.1) ⟨0,bg _⟩ ?_ fun ⟨k,hkl⟩=>?_
 ·exact ZL (Z1 @uK)
 simp only at hkl ⊢
 rcases cV k s.cons.length with hk|hk
 ·have ml:=tW (zM t.name name) s.cons k
  have mg:=zN aK (zM t.name name) s.cons k hk
  have ms:=zO aK (zM t.name name) s.cons k hk
  have mk:=AE (zM t.name name) s.cons k hk
  obtain ⟨fb,hfb⟩:∃fb,s.cons[k]=fb:=⟨_,rfl⟩
  rw [hfb] at mg ms mk
  cases h1:aw fb.table t.name
  ·have h1':¬ fb.table.toList=t.name.toList:=by simpa [aw] using h1
   have mk:=mk (by unfold zM c7;rw [h1];rfl)
   refine ZW (Z3 @ml @mg @h1') Z0 ?_
   refine ⟨⟨k+1,by omega⟩,by simp only;omega,?_⟩
   exact ZL (Z1 @mk)
  ·have h1':fb.table.toList=t.name.toList:=by simpa [aw] using h1
   have er:zM t.name name fb={fb with table:=name}:=by unfold zM c7;rw [h1];rfl
   rw [er] at ms
   simp only [aK] at ms
   refine ZW (Z3 @ml @mg @h1') Z0 ?_
   refine ⟨⟨k+1,by omega⟩,by simp only;omega,?_⟩
   exact ZL (Z1 @ms)
 have hk:k=s.cons.length:=by omega
 subst hk
 rw [yu]
 refine ZW Z0 Z0 ?_
 refine Gq.iN 46 1 rfl rfl (by decide) (.inl (gQ rfl)) ?_
 refine ZT Z0 ?_
 refine Gq.iN 1001 2 rfl rfl (by decide) (.inl (gQ rfl)) ?_
 refine ZT Z0 ?_
 refine Gq.iN 1002 3 rfl rfl (by decide) (.inl (gQ rfl)) ?_
 refine ZT Z0 ?_
 refine Gq.done ?_
 exact ZQ (Z1 Tryz.results84)
theorem UT (s:aq) (i:Nat) (t:au) (st:aG) (hi:i<s.tables.length) (ht:s.tables[i]=t) (sm:sR s) (hst:st.ae.length≤t.ae.length) :
  db Tryz.prog 140 [.one (.ptr 1000 0),oI i,.one (bj st.ae)] (iB ⟨s.tables,s.ak.map (qy t st),s.cons.map (sk t st)⟩) (iR ⟨s.tables,s.ak.map (qy t st),s.cons.map (sk t st)⟩) (.cR []) (iB (rL ⟨s.tables,s.ak.map (qy t st),s.cons.map (sk t st)⟩ i st.ae)) (iR (rL ⟨s.tables,s.ak.map (qy t st),s.cons.map (sk t st)⟩ i st.ae)):=by
 have b1:=sm.tables
 have b2:=sm.table s.tables[i] (bl hi)
 have b3:=sm.ak
 have b4:=sm.cons
 rw [ht] at b2
 obtain ⟨b6,b7,b8⟩:=b2
 refine M5 _ i st.ae hi (by omega) (by show s.tables.length≤_;omega) (by show (s.ak.map _).length≤_;rw [bw];omega) (by show (s.cons.map _).length≤_;rw [bw];omega) ?_ ?_ ?_ ?_ ?_ ?_
 ·show s.tables[i].ae.length≤_;rw [ht];omega
 ·show s.tables[i].pk.length≤_;rw [ht];omega
 ·show ∀c∈s.tables[i].pk,_;rw [ht];intro c hc;have:=b8 c hc;omega
 ·intro k hk
  obtain ⟨f,hf,rfl⟩:=List.mem_map.1 (show k∈s.ak.map (qy t st) from hk)
  have h1:=sm.fk f hf
  have:=(Ng h1.2 b7 (by omega) (st:=st)).1
  omega
 ·intro k hk _
  obtain ⟨f,hf,rfl⟩:=List.mem_map.1 (show k∈s.ak.map (qy t st) from hk)
  exact (Ng (sm.fk f hf).2 b7 (by omega)).2
 ·intro k hk _
  obtain ⟨f,hf,rfl⟩:=List.mem_map.1 (show k∈s.cons.map (sk t st) from hk)
  exact UR (sm.qH f hf) b7 (by omega)
end Go.Bw
