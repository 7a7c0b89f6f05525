/- Proved: contracts of functions of this translation, for every state, and what they rest on; bounds stand ahead. -/
import Derived.Test.YtmnpdfeocknafaaGreatDoorVm
set_option maxHeartbeats 64000000
set_option linter.unusedSimpArgs false
set_option linter.unusedVariables false
namespace Go.Bw
open Go.Proofs
theorem Vi (s:aq) (st:aG) (sm:sR s) (hf:st.Fits) (hk:st.kind=13∨st.kind=14∨st.kind=15∨st.kind=16∨st.kind=10) :
  db Tryz.prog 44 [.one (.ptr 1000 0),.agg (aj st)] (iB s) (iR s) (.v (oI (rE (dD s st)))) (dh (dD s st)) (di (dD s st)):=by
 have b1:=sm.tables
 have b3:=sm.ak
 have b4:=sm.cons
 have b5:∀f∈s.ak,f.ae.length≤1048576:=fun f hf=>by have:=(sm.fk f hf).1;omega
 have hc:=hf.ae
 rcases hk with hk|hk|hk|hk|hk
 ·have spec:dD s st=.ok {s with cons:=s.cons++[st.qH]}:=by unfold dD;rw [if_pos hk]
  rw [spec]
  unfold iB iR dh di qw qx rE
  simp only [bA,bP,bI,cN]
  refine ZM [1000] [1,2,3] Tryz.func44 Tryz.ntmps44 fun w0 m0 F0=>?_
  refine ab.gq ?_
  refine ab.eM 1000 rfl ?_
  refine ZU (Z3 @fG @eW @fH) ?_
  refine ab.eM 1001 rfl ?_
  refine ZU (Z3 @fG @eW @fH) ?_
  refine ZV (Z1 @aj.eq_1) Z0 (Z1 (Zd 3 [(0,7)] [(7,[],[(0,5)]),(8,[(9,2)],[(0,1)]),(11,[],[])] [7,8,11] 8)) Z0 ?_
  refine Gq.iN 1000 1 rfl rfl (by decide) (.inl (gQ rfl)) ?_
  refine ZT Z0 ?_
  refine Gq.iN 1001 2 rfl rfl (by decide) (.inl (gQ rfl)) ?_
  refine ZT Z0 ?_
  refine Gq.iN 19 3 rfl rfl (by decide) (.inl (gQ rfl)) ?_
  refine ZT Z0 ?_
  refine Gq.done ?_
  refine ZR (Z1 Tryz.results44) ?_
  exact congrArg (fun x:List (List L)=>(⟨7,x,[]⟩:aN)) (by rw [dn];rfl)
 ·have spec:dD s st=wH s st.qH:=by unfold dD;rw [if_neg (by omega),if_pos hk]
  have C:=Vj s st.qH (by omega) (by omega) (by omega)
  rw [spec]
  generalize wH s st.qH=r at C ⊢
  unfold iB iR at C ⊢
  refine ZM [1000] [1,2,3] Tryz.func44 Tryz.ntmps44 fun w0 m0 F0=>?_
  refine ZV (Z3 @aj.eq_1 @sU @pW) Z0 (Z1 (Zs 6)) Z0 ?_
  cases r with
  | error e =>
   unfold dh di rE at C ⊢
   simp only [aj] at C ⊢
   refine ZV (Z5 @dz @aj.eq_1 @bh @bt @bu) Z0 Z0 (Z1 (Zi [(1000,1000)] [(1000,1000),(1001,1001),(1002,1002)] [] [] [1000] [1000,1001,1002] [1000] [1000,1001,1002] (C))) ?_
   exact ZQ (Z1 Tryz.results44)
  | ok R =>
   unfold dh di qw qx rE at C ⊢
   simp only [aj] at C ⊢
   refine ZV (Z5 @dz @aj.eq_1 @bh @bt @bu) Z0 Z0 (Z1 (Zi [(1000,1000)] [(1000,1000),(1001,1001),(1002,1002)] [(1000,1000)] [(1,1),(2,2),(3,3)] [] [1000,1001,1002,1,2,3] [1000,1000] [1000,1001,1002,1,2,3] (C))) ?_
   exact ZQ (Z1 Tryz.results44)
 ·have spec:dD s st=.ok {s with ak:=s.ak++[st.fk]}:=by unfold dD;rw [if_neg (by omega),if_neg (by omega),if_pos hk]
  rw [spec]
  unfold iB iR dh di qw qx rE
  simp only [bA,bP,bI,cN]
  refine ZM [1000] [1,2,3] Tryz.func44 Tryz.ntmps44 fun w0 m0 F0=>?_
  refine ab.gq ?_
  refine ab.eM 1000 rfl ?_
  refine ZU (Z3 @fG @eW @fH) ?_
  refine ab.eM 1001 rfl ?_
  refine ZU (Z3 @fG @eW @fH) ?_
  refine ZV (Z1 @aj.eq_1) Z0 (Z1 (Zd 8 [(0,7)] [(7,[],[(0,5)]),(8,[(9,2)],[(0,1)]),(11,[],[])] [7,8,11] 8)) Z0 ?_
  refine Gq.iN 1000 1 rfl rfl (by decide) (.inl (gQ rfl)) ?_
  refine ZT Z0 ?_
  refine Gq.iN 38 2 rfl rfl (by decide) (.inl (gQ rfl)) ?_
  refine ZT Z0 ?_
  refine Gq.iN 1002 3 rfl rfl (by decide) (.inl (gQ rfl)) ?_
  refine ZT Z0 ?_
  refine Gq.done ?_
  refine ZR (Z1 Tryz.results44) ?_
  exact congrArg (fun x:List (List L)=>(⟨3,x,[]⟩:aN)) (by rw [dn];rfl)
 ·have spec:dD s st=se s st.fk:=by unfold dD;rw [if_neg (by omega),if_neg (by omega),if_neg (by omega),if_pos hk]
  have C:=UQ s st.fk (by omega) (by omega) (by omega) b5
  rw [spec]
  generalize se s st.fk=r at C ⊢
  unfold iB iR at C ⊢
  refine ZM [1000] [1,2,3] Tryz.func44 Tryz.ntmps44 fun w0 m0 F0=>?_
  refine ZV (Z3 @aj.eq_1 @sU @pW) Z0 (Z1 (Zs 11)) Z0 ?_
  cases r with
  | error e =>
   unfold dh di rE at C ⊢
   simp only [aj] at C ⊢
   refine ZV (Z5 @dz @aj.eq_1 @bh @bt @bu) Z0 Z0 (Z1 (Zi [(1000,1000)] [(1000,1000),(1001,1001),(1002,1002)] [] [] [1000] [1000,1001,1002] [1000] [1000,1001,1002] (C))) ?_
   exact ZQ (Z1 Tryz.results44)
  | ok R =>
   unfold dh di qw qx rE at C ⊢
   simp only [aj] at C ⊢
   refine ZV (Z5 @dz @aj.eq_1 @bh @bt @bu) Z0 Z0 (Z1 (Zi [(1000,1000)] [(1000,1000),(1001,1001),(1002,1002)] [(1000,1000)] [(1,1),(2,2),(3,3)] [] [1000,1001,1002,1,2,3] [1000,1000] [1000,1001,1002,1,2,3] (C))) ?_
   exact ZQ (Z1 Tryz.results44)
 ·have spec:dD s st=wI s st.pZ:=by unfold dD;rw [if_neg (by omega),if_neg (by omega),if_neg (by omega),if_neg (by omega),if_pos hk]
  have C:=Vk s st.pZ (by omega) (by omega) (by omega)
  rw [spec]
  generalize wI s st.pZ=r at C ⊢
  unfold iB iR at C ⊢
  refine ZM [1000] [1,2,3] Tryz.func44 Tryz.ntmps44 fun w0 m0 F0=>?_
  refine ZV (Z3 @aj.eq_1 @sU @pW) Z0 (Z1 (Zs 13)) Z0 ?_
  cases r with
  | error e =>
   unfold dh di rE at C ⊢
   simp only [aj] at C ⊢
   refine ZV (Z5 @dz @aj.eq_1 @bh @bt @bu) Z0 Z0 (Z1 (Zi [(1000,1000)] [(1000,1000),(1001,1001),(1002,1002)] [] [] [1000] [1000,1001,1002] [1000] [1000,1001,1002] (C))) ?_
   exact ZQ (Z1 Tryz.results44)
  | ok R =>
   unfold dh di qw qx rE at C ⊢
   simp only [aj] at C ⊢
   refine ZV (Z5 @dz @aj.eq_1 @bh @bt @bu) Z0 Z0 (Z1 (Zi [(1000,1000)] [(1000,1000),(1001,1001),(1002,1002)] [(1000,1000)] [(1,1),(2,2),(3,3)] [] [1000,1001,1002,1,2,3] [1000,1000] [1000,1001,1002,1,2,3] (C))) ?_
   exact ZQ (Z1 Tryz.results44)
end Go.Bw
