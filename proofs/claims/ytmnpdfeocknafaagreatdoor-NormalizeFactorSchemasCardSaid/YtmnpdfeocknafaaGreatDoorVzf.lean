/- Proved: contracts of functions of this translation, for every state, and what they rest on; bounds stand ahead. -/
import Derived.Test.YtmnpdfeocknafaaGreatDoorVq
import Derived.Test.YtmnpdfeocknafaaGreatDoorVr
import Derived.Test.YtmnpdfeocknafaaGreatDoorVy
import Derived.Test.YtmnpdfeocknafaaGreatDoorVzd
set_option maxHeartbeats 64000000
set_option linter.unusedSimpArgs false
set_option linter.unusedVariables false
namespace Go.Bw
open Go.Proofs
theorem UZ (s:aq) (i:Nat) (st:aG) (hi:i<s.tables.length) (sm:sR s) (hst:st.ae.length≤140737488355328) (hpk:∀c∈s.tables[i].pk,0≤c∧c<(s.tables[i].ae.length:Int)) :
  db Tryz.prog 85 [.one (.ptr 1000 0),oI i,.agg (aj st)] (iB s) (iR s) (.v (oI (rE (td s i st)))) (dh (td s i st)) (di (td s i st)):=by
 by_cases hE:xg s (bq s i) st=0
 ·exact UW s i st hi sm hst hE hpk
 ·exact UU s i st hi sm hst hE
theorem Vm (s:aq) (st:aG) (sm:sR s) (hf:st.Fits) (hpk:∀t∈s.tables,xW t) (hk:st.kind≠13∧st.kind≠14∧st.kind≠15∧st.kind≠16∧st.kind≠10) (j:Nat) (hj:j<s.tables.length) (h0:aY s.tables st.table=(j:Int)) (hq:st.kind=4∨st.kind=6∨st.kind=7) :
  db Tryz.prog 44 [.one (.ptr 1000 0),.agg (aj st)] (iB s) (iR s) (.v (oI (rE (dD s st)))) (dh (dD s st)) (di (dD s st)):=by
 have b1:=sm.tables
 have b3:=sm.ak
 have b4:=sm.cons
 have b5:∀f∈s.ak,f.ae.length≤1048576:=fun f hf=>by have:=(sm.fk f hf).1;omega
 have hc:=hf.ae
 have fs:=qP s st.table (by omega)
 rw [h0,rZ,sB (show (0:Int)≤(j:Int) by omega)] at fs
 have s0:dD s st=(if st.kind=4 then tV s j st.cW else if st.kind=6 then td s j st else if st.kind=7 then uc s j st.other else if st.kind=8 then vY s j st else if st.kind=9 then tg s j st else if st.kind=11 then vZ s st.table else if st.kind=12 then vG s j st else if st.kind=1 then vC s j st else rF s j st):=by
  unfold dD;rw [if_neg hk.1,if_neg hk.2.1,if_neg hk.2.2.1,if_neg hk.2.2.2.1,if_neg hk.2.2.2.2];simp only [h0,bG];rw [if_neg (by omega)]
 obtain ⟨n1,n2,n3,n4,n5⟩:=hk
 rcases hq with hq|hq|hq
 ·have spec:dD s st=tV s j st.cW:=by rw [s0,if_pos hq]
  have C:=UN s j st.cW hj sm
  rw [spec]
  generalize tV s j st.cW=r at C ⊢
  unfold iB iR at C ⊢
  refine ZM [1000] [1,2,3] Tryz.func44 Tryz.ntmps44 fun w0 m0 F0=>?_
  refine rC (Z3 @aj.eq_1 @sU @pW) (Z1 (fs)) (Z2 (Zs 19) (Zd 14 [(0,5)] [(5,[(6,5)],[])] [5] 8)) Z0 ?_;repeat' (first|apply Zb|apply Zn|(apply Zm;intro h))
  cases r with
  | error e =>
   unfold dh di rE at C ⊢
   simp only [aj] at C ⊢
   refine rC (Z5 @dz @aj.eq_1 @bh @bt @bu) Z0 Z0 (Z1 (Zi [(1000,1000)] [(1000,1000),(1001,1001),(1002,1002)] [] [] [1000] [1000,1001,1002] [1000] [1000,1001,1002] (C))) ?_;repeat' (first|apply Zb|apply Zn|(apply Zm;intro h))
   exact ZQ (Z1 Tryz.results44)
  | ok R =>
   unfold dh di qw qx rE at C ⊢
   simp only [aj] at C ⊢
   refine rC (Z5 @dz @aj.eq_1 @bh @bt @bu) Z0 Z0 (Z1 (Zi [(1000,1000)] [(1000,1000),(1001,1001),(1002,1002)] [(1000,1000)] [(1,1),(2,2),(3,3)] [] [1000,1001,1002,1,2,3] [1000,1000] [1000,1001,1002,1,2,3] (C))) ?_;repeat' (first|apply Zb|apply Zn|(apply Zm;intro h))
   exact ZQ (Z1 Tryz.results44)
 ·have spec:dD s st=td s j st:=by rw [s0,if_neg (by omega),if_pos hq]
  have C:=UZ s j st hj sm (by omega) (hpk _ (bl hj))
  rw [spec]
  generalize td s j st=r at C ⊢
  unfold iB iR at C ⊢
  refine ZM [1000] [1,2,3] Tryz.func44 Tryz.ntmps44 fun w0 m0 F0=>?_
  refine rC (Z3 @aj.eq_1 @sU @pW) (Z1 (fs)) (Z2 (Zs 21) (Zd 14 [(0,5)] [(5,[(6,5)],[])] [5] 8)) Z0 ?_;repeat' (first|apply Zb|apply Zn|(apply Zm;intro h))
  cases r with
  | error e =>
   unfold dh di rE at C ⊢
   simp only [aj] at C ⊢
   refine rC (Z5 @dz @aj.eq_1 @bh @bt @bu) Z0 Z0 (Z1 (Zi [(1000,1000)] [(1000,1000),(1001,1001),(1002,1002)] [] [] [1000] [1000,1001,1002] [1000] [1000,1001,1002] (C))) ?_;repeat' (first|apply Zb|apply Zn|(apply Zm;intro h))
   exact ZQ (Z1 Tryz.results44)
  | ok R =>
   unfold dh di qw qx rE at C ⊢
   simp only [aj] at C ⊢
   refine rC (Z5 @dz @aj.eq_1 @bh @bt @bu) Z0 Z0 (Z1 (Zi [(1000,1000)] [(1000,1000),(1001,1001),(1002,1002)] [(1000,1000)] [(1,1),(2,2),(3,3)] [] [1000,1001,1002,1,2,3] [1000,1000] [1000,1001,1002,1,2,3] (C))) ?_;repeat' (first|apply Zb|apply Zn|(apply Zm;intro h))
   exact ZQ (Z1 Tryz.results44)
 ·have spec:dD s st=uc s j st.other:=by rw [s0,if_neg (by omega),if_neg (by omega),if_pos hq]
  have C:=U9 s j st.other hj sm hpk
  rw [spec]
  generalize uc s j st.other=r at C ⊢
  unfold iB iR at C ⊢
  refine ZM [1000] [1,2,3] Tryz.func44 Tryz.ntmps44 fun w0 m0 F0=>?_
  refine rC (Z3 @aj.eq_1 @sU @pW) (Z1 (fs)) (Z2 (Zs 23) (Zd 14 [(0,5)] [(5,[(6,5)],[])] [5] 8)) Z0 ?_;repeat' (first|apply Zb|apply Zn|(apply Zm;intro h))
  cases r with
  | error e =>
   unfold dh di rE at C ⊢
   simp only [aj] at C ⊢
   refine rC (Z5 @dz @aj.eq_1 @bh @bt @bu) Z0 Z0 (Z1 (Zi [(1000,1000)] [(1000,1000),(1001,1001),(1002,1002)] [] [] [1000] [1000,1001,1002] [1000] [1000,1001,1002] (C))) ?_;repeat' (first|apply Zb|apply Zn|(apply Zm;intro h))
   exact ZQ (Z1 Tryz.results44)
  | ok R =>
   unfold dh di qw qx rE at C ⊢
   simp only [aj] at C ⊢
   refine rC (Z5 @dz @aj.eq_1 @bh @bt @bu) Z0 Z0 (Z1 (Zi [(1000,1000)] [(1000,1000),(1001,1001),(1002,1002)] [(1000,1000)] [(1,1),(2,2),(3,3)] [] [1000,1001,1002,1,2,3] [1000,1000] [1000,1001,1002,1,2,3] (C))) ?_;repeat' (first|apply Zb|apply Zn|(apply Zm;intro h))
   exact ZQ (Z1 Tryz.results44)
theorem Vs (s:aq) (st:aG) (sm:sR s) (hf:st.Fits) (hpk:∀t∈s.tables,xW t) :
  db Tryz.prog 44 [.one (.ptr 1000 0),.agg (aj st)] (iB s) (iR s) (.v (oI (rE (dD s st)))) (dh (dD s st)) (di (dD s st)):=by
 by_cases hk:st.kind=13∨st.kind=14∨st.kind=15∨st.kind=16∨st.kind=10
 ·exact Vi s st sm hf hk
 have hk:st.kind≠13∧st.kind≠14∧st.kind≠15∧st.kind≠16∧st.kind≠10:=by omega
 rcases qn (fun u=>aw u.name st.table) s.tables 0 with ⟨e1,_⟩|⟨j,hj,e1,_,_⟩
 ·exact Vl s st sm hf hk e1
 have e1:aY s.tables st.table=(j:Int):=by unfold aY;simpa using e1
 by_cases h3:st.kind=4∨st.kind=6∨st.kind=7
 ·exact Vm s st sm hf hpk hk j hj e1 h3
 by_cases h4:st.kind=8∨st.kind=9∨st.kind=11
 ·exact Vn s st sm hf hpk hk j hj e1 h4
 by_cases h5:st.kind=12∨st.kind=1
 ·exact Vp s st sm hf hpk hk j hj e1 h5
 ·exact Vr s st sm hf hpk hk j hj e1 (by omega)
theorem Eu (s:aq) (st:aG) (hs:s.Fits) (hf:st.Fits):Sat Tryz.prog 18 [.agg (aC s),.agg (aj st)] (.cR [.agg (aC (sZ (dU s st))),oI (rE (dU s st))]):=by
 have c1:=GO s hs
 have c2:=Vg st hf
 have c3:=Ey st hf
 obtain ⟨f1,f2,f3,f4⟩:=hf
 by_cases h1:dC s=0
 case neg =>
  have spec:dU s st=.error (dC s):=by unfold dU;rw [if_pos h1]
  rw [spec]
  unfold sZ rE
  simp only
  refine ZE Tryz.func18 Tryz.ntmps18 fun w0 m0 F0=>?_
  refine pK (Z1 @h1) (Z1 (c1)) ?_;repeat' (first|apply Zb|apply Zn|(apply Zm;intro h))
  exact ZQ (Z1 Tryz.results18)
 rw [h1] at c1
 by_cases h2:s5 st=0
 case neg =>
  have spec:dU s st=.error (s5 st):=by unfold dU;rw [if_neg (by rw [h1];simp),if_pos h2]
  rw [spec]
  unfold sZ rE
  simp only
  obtain ⟨es,hes⟩:∃es,aj st=es:=⟨_,rfl⟩
  refine ZE Tryz.func18 Tryz.ntmps18 fun w0 m0 F0=>?_
  refine pK (Z2 @aj.eq_1 @h2) (Z2 (c1) (c2)) ?_;repeat' (first|apply Zb|apply Zn|(apply Zm;intro h))
  exact ZQ (Z1 Tryz.results18)
 rw [h2] at c2
 have sm:=Vt h1
 have b1:=sm.tables
 have b3:=sm.ak
 have b4:=sm.cons
 have cl:=Nt s (by omega) (by omega) (by omega) (fun t ht=>by have:=sm.table t ht;omega) (fun f hf=>by have:=(sm.fk f hf).1;omega)
 have C:=Vs s st sm ⟨f1,f2,f3,f4⟩ (Bj h1)
 cases hr:dD s st with
 | error e =>
  have spec:dU s st=.error e:=by unfold dU;rw [if_neg (by rw [h1];simp),if_neg (by rw [h2];simp),hr]
  have he:=Nu hr
  rw [hr] at C
  rw [spec]
  unfold iB iR dh di rE at C
  unfold sZ rE
  simp only [aj] at C ⊢
  refine ZE Tryz.func18 Tryz.ntmps18 fun w0 m0 F0=>?_
  refine rC (Z6 @dz @aj.eq_1 @he @bh @bt @bu) (Z3 (c1) (c2) (c3)) Z0 (Z2 (Zi [] [] [] [(24,36),(42,37),(10,35)] [] [36,37,35] [] [36,37,35] (cl)) (Zi [(1000,8)] [(1000,36),(1001,37),(1002,35)] [] [] [8] [36,37,35] [8] [36,37,35] (C))) ?_;repeat' (first|apply Zb|apply Zn|(apply Zm;intro h))
  exact ZQ (Z1 Tryz.results18)
 | ok R =>
  have sz:=Vu sm (by omega) (by omega) (by omega) (by omega) hr
  have c4:=GO R (sz.fits (by decide) (by decide))
  rw [hr] at C
  unfold iB iR dh di qw qx rE at C
  simp only [aj] at C
  by_cases h4:dC R=0
  case neg =>
   have spec:dU s st=.error (dC R):=by unfold dU;rw [if_neg (by rw [h1];simp),if_neg (by rw [h2];simp),hr];simp only;rw [if_pos h4]
   rw [spec]
   unfold sZ rE
   simp only
   refine ZE Tryz.func18 Tryz.ntmps18 fun w0 m0 F0=>?_
   refine rC (Z6 @dz @aj.eq_1 @h4 @bh @bt @bu) (Z4 (c1) (c2) (c3) (c4)) Z0 (Z2 (Zi [] [] [] [(24,36),(42,37),(10,35)] [] [36,37,35] [] [36,37,35] (cl)) (Zi [(1000,8)] [(1000,36),(1001,37),(1002,35)] [(1000,8)] [(1,30),(2,31),(3,33)] [] [36,37,35,30,31,33] [8,8] [36,37,35,30,31,33] (C))) ?_;repeat' (first|apply Zb|apply Zn|(apply Zm;intro h))
   exact ZQ (Z1 Tryz.results18)
  have spec:dU s st=.ok R:=by unfold dU;rw [if_neg (by rw [h1];simp),if_neg (by rw [h2];simp),hr];simp only;rw [if_neg (by rw [h4];simp)]
  rw [spec]
  unfold sZ rE
  simp only
  refine ZE Tryz.func18 Tryz.ntmps18 fun w0 m0 F0=>?_
  rw [h4] at c4
  refine rC (Z5 @dz @aj.eq_1 @bh @bt @bu) (Z4 (c1) (c2) (c3) (c4)) Z0 (Z2 (Zi [] [] [] [(24,36),(42,37),(10,35)] [] [36,37,35] [] [36,37,35] (cl)) (Zi [(1000,8)] [(1000,36),(1001,37),(1002,35)] [(1000,8)] [(1,30),(2,31),(3,33)] [] [36,37,35,30,31,33] [8,8] [36,37,35,30,31,33] (C))) ?_;repeat' (first|apply Zb|apply Zn|(apply Zm;intro h))
  exact ZQ (Z1 Tryz.results18)
theorem VC (s:aq) (st:aG) (hs:s.Fits) (hf:st.Fits) (hk:CW st):Sat Tryz.prog 60 [.agg (aC s),.agg (aj st)] (.cR [.agg (aC (sZ (ud s st))),oI (rE (ud s st))]):=by
 have c1:=Eu s st hs hf
 cases hv:dU s st with
 | error e =>
  have sp:ud s st=.error e:=by unfold ud;rw [hv]
  have he:=EX hv
  rw [hv] at c1
  rw [sp]
  unfold sZ rE at c1 ⊢
  simp only at c1 ⊢
  refine ZE Tryz.func60 Tryz.ntmps60 fun w0 m0 F0=>?_
  refine ZW (Z2 @aj.eq_1 @he) (Z1 (c1)) ?_
  exact ZQ (Z1 Tryz.results60)
 | ok u =>
  rw [hv] at c1
  unfold sZ rE at c1
  simp only at c1
  by_cases h3:st.kind=3
  ·have sp:ud s st=.ok ⟨[],[],[]⟩:=by unfold ud;rw [hv];simp only;rw [if_neg (by omega),if_pos (.inl h3)]
   have e3:(st.kind==3)=true:=by simp [h3]
   have n1:(st.kind==13)=false:=by simp [h3]
   have n2:(st.kind==14)=false:=by simp [h3]
   have n3:(st.kind==15)=false:=by simp [h3]
   have n4:(st.kind==16)=false:=by simp [h3]
   rw [sp]
   unfold sZ rE
   try simp only
   refine ZE Tryz.func60 Tryz.ntmps60 fun w0 m0 F0=>?_
   refine ZW (Z6 @aj.eq_1 @e3 @n1 @n2 @n3 @n4) (Z1 (c1)) ?_
   exact ZQ (Z1 Tryz.results60)
  ·have h12:st.kind=1∨st.kind=2:=by unfold CW at hk;omega
   have sp:ud s st=.ok ⟨[vH s u st],[],[]⟩:=by unfold ud;rw [hv];simp only;rw [if_neg (by omega),if_neg (by omega)]
   obtain ⟨i,k,hi,hk2,ei,ek⟩:=VB hv h12
   have ct:=Qz s u st (uj hv).1 (BU hv) h12 hi ei hk2 ek
   have n1:(st.kind==13)=false:=by simp;omega
   have n2:(st.kind==14)=false:=by simp;omega
   have n3:(st.kind==15)=false:=by simp;omega
   have n4:(st.kind==16)=false:=by simp;omega
   have n5:(st.kind==3)=false:=by simp;omega
   have n6:(st.kind==4)=false:=by simp;omega
   have n7:(st.kind==9)=false:=by simp;omega
   rw [sp]
   unfold sZ rE
   simp only [dq,dW,dI,dy,aJ,aI,aC] at ct ⊢
   refine ZE Tryz.func60 Tryz.ntmps60 fun w0 m0 F0=>?_
   refine ZW (Z8 @aj.eq_1 @n1 @n2 @n3 @n4 @n5 @n6 @n7) (Z2 (c1) (ct)) ?_
   exact ZQ (Z1 Tryz.results60)
theorem J5 (s:aq) (st:aG) (hs:s.Fits) (hf:st.Fits) (hk:CW st) {u v:aq} (h:dU s st=.ok u) (h2:ud s st=.ok v) :
  Sat Tryz.prog 31 [.agg (aC s),.agg (aj st)] (.cR [.agg (aC u),.agg (aC v),oI 0]):=by
 have c1:=Eu s st hs hf
 have c2:=VC s st hs hf hk
 rw [h] at c1
 rw [h2] at c2
 unfold sZ rE at c1 c2
 simp only at c1 c2
 refine ZE Tryz.func31 Tryz.ntmps31 fun w0 m0 F0=>?_
 refine ZV (Z1 @aj.eq_1) (Z2 (c1) (c2)) (Z1 (Zd 5 [(0,3)] [(3,[],[(1,2)]),(4,[(5,1)],[(2,1)])] [3,4] 8)) Z0 ?_
 exact ZQ (Z1 Tryz.results31)
end Go.Bw
