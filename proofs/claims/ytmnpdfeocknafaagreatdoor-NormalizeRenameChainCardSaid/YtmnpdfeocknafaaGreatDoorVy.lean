/- Proved: contracts of functions of this translation, for every state, and what they rest on; bounds stand ahead. -/
import Derived.Test.YtmnpdfeocknafaaGreatDoorVl
import Derived.Test.YtmnpdfeocknafaaGreatDoorVp
set_option maxHeartbeats 64000000
set_option linter.unusedSimpArgs false
set_option linter.unusedVariables false
namespace Go.Bw
open Go.Proofs
theorem Vn (s:aq) (st:aG) (sm:sR s) (hf:st.Fits) (hpk:∀t∈s.tables,xW t) (hk:st.kind≠13∧st.kind≠14∧st.kind≠15∧st.kind≠16∧st.kind≠10) (j:Nat) (hj:j<s.tables.length) (h0:aY s.tables st.table=(j:Int)) (hq:st.kind=8∨st.kind=9∨st.kind=11) :
  db Tryz.prog 44 [.one (.ptr 1000 0),.agg (aj st)] (iB s) (iR s) (.v (oI (rE (dD s st)))) (dh (dD s st)) (di (dD s st)):=by
 have b1:=sm.tables
 have b3:=sm.ak
 have b4:=sm.cons
 have b5:∀f∈s.ak,f.ae.length≤1048576:=fun f hf=>by have:=(sm.fk f hf).1;omega
 have hc:=hf.ae
 have fs:=qP s st.table (by omega)
 rw [h0,rZ,sB (show (0:Int)≤(j:Int) by omega)] at fs
 have s0:dD s st=(if st.kind=4 then tV s j st.cW else if st.kind=6 then td s j st else if st.kind=7 then uc s j st.other else if st.kind=8 then vY s j st else if st.kind=9 then tg s j st else if st.kind=11 then vZ s st.table else if st.kind=12 then vG s j st else if st.kind=1 then vC s j st else rF s j st):=by
  unfold dD;rw [if_neg hk.1,if_neg hk.2.1,if_neg hk.2.2.1,if_neg hk.2.2.2.1,if_neg hk.2.2.2.2];simp only [h0,bG];rw [if_neg (by omega)]
 obtain ⟨n1,n2,n3,n4,n5⟩:=hk
 rcases hq with hq|hq|hq
 ·have spec:dD s st=vY s j st:=by rw [s0,if_neg (by omega),if_neg (by omega),if_neg (by omega),if_pos hq]
  have C:=Vd s j st hj sm
  rw [spec]
  generalize vY s j st=r at C ⊢
  unfold iB iR at C ⊢
  refine ZM [1000] [1,2,3] Tryz.func44 Tryz.ntmps44 fun w0 m0 F0=>?_
  refine rC (Z3 @aj.eq_1 @sU @pW) (Z1 (fs)) (Z2 (Zs 25) (Zd 14 [(0,5)] [(5,[(6,5)],[])] [5] 8)) Z0 ?_;repeat' (first|apply Zb|apply Zn|(apply Zm;intro h))
  cases r with
  | error e =>
   unfold dh di rE at C ⊢
   simp only [aj] at C ⊢
   refine rC (Z5 @dz @aj.eq_1 @bh @bt @bu) Z0 Z0 (Z1 (Zi [(1000,1000)] [(1000,1000),(1001,1001),(1002,1002)] [] [] [1000] [1000,1001,1002] [1000] [1000,1001,1002] (C))) ?_;repeat' (first|apply Zb|apply Zn|(apply Zm;intro h))
   exact ZQ (Z1 Tryz.results44)
  | ok R =>
   unfold dh di qw qx rE at C ⊢
   simp only [aj] at C ⊢
   refine rC (Z5 @dz @aj.eq_1 @bh @bt @bu) Z0 Z0 (Z1 (Zi [(1000,1000)] [(1000,1000),(1001,1001),(1002,1002)] [(1000,1000)] [(1,1),(2,2),(3,3)] [] [1000,1001,1002,1,2,3] [1000,1000] [1000,1001,1002,1,2,3] (C))) ?_;repeat' (first|apply Zb|apply Zn|(apply Zm;intro h))
   exact ZQ (Z1 Tryz.results44)
 ·have spec:dD s st=tg s j st:=by rw [s0,if_neg (by omega),if_neg (by omega),if_neg (by omega),if_neg (by omega),if_pos hq]
  have C:=UO s j st hj sm
  rw [spec]
  generalize tg s j st=r at C ⊢
  unfold iB iR at C ⊢
  refine ZM [1000] [1,2,3] Tryz.func44 Tryz.ntmps44 fun w0 m0 F0=>?_
  refine rC (Z3 @aj.eq_1 @sU @pW) (Z1 (fs)) (Z2 (Zs 27) (Zd 14 [(0,5)] [(5,[(6,5)],[])] [5] 8)) Z0 ?_;repeat' (first|apply Zb|apply Zn|(apply Zm;intro h))
  cases r with
  | error e =>
   unfold dh di rE at C ⊢
   simp only [aj] at C ⊢
   refine rC (Z5 @dz @aj.eq_1 @bh @bt @bu) Z0 Z0 (Z1 (Zi [(1000,1000)] [(1000,1000),(1001,1001),(1002,1002)] [] [] [1000] [1000,1001,1002] [1000] [1000,1001,1002] (C))) ?_;repeat' (first|apply Zb|apply Zn|(apply Zm;intro h))
   exact ZQ (Z1 Tryz.results44)
  | ok R =>
   unfold dh di qw qx rE at C ⊢
   simp only [aj] at C ⊢
   refine rC (Z5 @dz @aj.eq_1 @bh @bt @bu) Z0 Z0 (Z1 (Zi [(1000,1000)] [(1000,1000),(1001,1001),(1002,1002)] [(1000,1000)] [(1,1),(2,2),(3,3)] [] [1000,1001,1002,1,2,3] [1000,1000] [1000,1001,1002,1,2,3] (C))) ?_;repeat' (first|apply Zb|apply Zn|(apply Zm;intro h))
   exact ZQ (Z1 Tryz.results44)
 ·have spec:dD s st=vZ s st.table:=by rw [s0,if_neg (by omega),if_neg (by omega),if_neg (by omega),if_neg (by omega),if_neg (by omega),if_pos hq]
  have C:=Vo s st.table (by omega) (by omega) (by omega)
  rw [spec]
  generalize vZ s st.table=r at C ⊢
  unfold iB iR at C ⊢
  refine ZM [1000] [1,2,3] Tryz.func44 Tryz.ntmps44 fun w0 m0 F0=>?_
  refine rC (Z3 @aj.eq_1 @sU @pW) (Z1 (fs)) (Z2 (Zs 29) (Zd 14 [(0,5)] [(5,[(6,5)],[])] [5] 8)) Z0 ?_;repeat' (first|apply Zb|apply Zn|(apply Zm;intro h))
  cases r with
  | error e =>
   unfold dh di rE at C ⊢
   simp only [aj] at C ⊢
   refine rC (Z5 @dz @aj.eq_1 @bh @bt @bu) Z0 Z0 (Z1 (Zi [(1000,1000)] [(1000,1000),(1001,1001),(1002,1002)] [] [] [1000] [1000,1001,1002] [1000] [1000,1001,1002] (C))) ?_;repeat' (first|apply Zb|apply Zn|(apply Zm;intro h))
   exact ZQ (Z1 Tryz.results44)
  | ok R =>
   unfold dh di qw qx rE at C ⊢
   simp only [aj] at C ⊢
   refine rC (Z5 @dz @aj.eq_1 @bh @bt @bu) Z0 Z0 (Z1 (Zi [(1000,1000)] [(1000,1000),(1001,1001),(1002,1002)] [(1000,1000)] [(1,1),(2,2),(3,3)] [] [1000,1001,1002,1,2,3] [1000,1000] [1000,1001,1002,1,2,3] (C))) ?_;repeat' (first|apply Zb|apply Zn|(apply Zm;intro h))
   exact ZQ (Z1 Tryz.results44)
end Go.Bw
