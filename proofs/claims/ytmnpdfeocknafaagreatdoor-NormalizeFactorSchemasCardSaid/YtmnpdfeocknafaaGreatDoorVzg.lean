/- Proved: contracts of functions of this translation, for every state, and what they rest on; bounds stand ahead. -/
import Derived.Test.YtmnpdfeocknafaaGreatDoorVze
import Derived.Test.YtmnpdfeocknafaaGreatDoorVzf
set_option maxHeartbeats 64000000
set_option linter.unusedSimpArgs false
set_option linter.unusedVariables false
namespace Go.Bw
open Go.Proofs
theorem Nx (s:aq) (l:List aG) (hs:s.Fits) (hl:l.length≤140737488355328) (hf:∀st∈l,st.Fits):Sat Tryz.prog 50 [.agg (aC s),.one (qv l)] (.cR [.one (v7 (xN (uC s l))),oI (rE (uC s l))]):=by
 have c1:=GO s hs
 unfold qv
 by_cases h0:6<l.length
 ·have spec:uC s l=.error 2:=by unfold uC;rw [if_pos h0]
  rw [spec]
  unfold xN rE v7
  refine ZE Tryz.func50 Tryz.ntmps50 fun w0 m0 F0=>?_
  refine pK Z0 Z0 ?_;repeat' (first|apply Zb|apply Zn|(apply Zm;intro h)|(apply Zk;intro K hK))
  exact ZQ (Z1 Tryz.results50)
 by_cases h1:dC s=0
 case neg =>
  have spec:uC s l=.error (dC s):=by unfold uC;rw [if_neg h0,if_pos h1]
  rw [spec]
  unfold xN rE v7
  refine ZE Tryz.func50 Tryz.ntmps50 fun w0 m0 F0=>?_
  refine pK (Z1 @h1) (Z1 (c1)) ?_;repeat' (first|apply Zb|apply Zn|(apply Zm;intro h)|(apply Zk;intro K hK))
  exact ZQ (Z1 Tryz.results50)
 rw [h1] at c1
 have c2:=EV s (yY h1)
 obtain ⟨R,hR⟩:∃R,xh [s] l=R:=⟨_,rfl⟩
 have spec:uC s l=R:=by unfold uC;rw [if_neg h0,if_neg (by rw [h1];simp),hR]
 rw [spec]
 refine ZE Tryz.func50 Tryz.ntmps50 fun w0 m0 F0=>?_
 refine pK Z0 (Z2 (c1) (c2)) ?_;repeat' (first|apply Zb|apply Zn|(apply Zm;intro h)|(apply Zk;intro K hK))
 refine ab.loop (ι:={p:Nat×List aq // p.1≤l.length∧p.2.length=p.1+1∧(∀x∈p.2,dC x=0)∧xh p.2 (l.drop p.1)=R}) (fun p=>⟨48,[(5,.v (oI 0)),(7,.v (.one (.ref 7 0 p.1.2.length))),(23,.v (.one (.sl 24 (l.map aj)))),(24,.v (oI l.length)),(25,.v (oI p.1.1))],[],[(7,⟨3,p.1.2.map aC,[]⟩)]⟩) (fun p=>l.length - p.1.1) ⟨(0,[s]),bg _,rfl,fun x hx=>by rw [List.mem_singleton.1 hx];exact h1,hR⟩ ?_ fun ⟨⟨k,acc⟩,hkl,hka,hkz,hkR⟩=>?_
 ·exact ZN (Z1 @aC.eq_1)
 simp only at hkl hka hkz hkR ⊢
 rcases cV k l.length with hk|hk
 ·obtain ⟨st,hst⟩:∃st,l[k]=st:=⟨_,rfl⟩
  have gs:(l.map aj).getD k []=aj st:=by rw [bJ _ _ _ hk,hst]
  have fst:=hf l[k] (bl hk)
  rw [uV hk,xh,hka,C5] at hkR
  rw [hst] at hkR fst
  obtain ⟨c,hc⟩:∃c,acc.getD k sA=c:=⟨_,rfl⟩
  have hk2:k<acc.length:=by omega
  have ga:(acc.map aC).getD k []=aC c:=by rw [bJ _ _ _ hk2,←hc,bE _ hk2]
  have zc:dC c=0:=by rw [←hc,bE _ hk2];exact hkz _ (bl hk2)
  have ev:=Eu c st (yY zc).fits fst
  rw [hc] at hkR
  obtain ⟨r0,hv⟩:∃r0,dU c st=r0:=⟨_,rfl⟩
  rw [hv] at hkR ev
  refine pK (Z2 @gs @aj.eq_1) Z0 ?_;repeat' (first|apply Zb|apply Zn|(apply Zm;intro h)|(apply Zk;intro K hK))
  refine ab.we ⟨48,[(5,.v (oI 0)),(7,.v (.one (.ref 7 0 acc.length))),(23,.v (.one (.sl 24 (l.map aj)))),(24,.v (oI l.length)),(25,.v (oI k)),(10,.v (.one (.ptr 10 0))),(11,.v (oI (rE r0)))],[(10,aC (sZ r0))],[(7,⟨3,acc.map aC,[]⟩)]⟩ ?_ ?_
  ·refine dY ah mixed [(0,5)] (.cons 5 [(6,3)] [] (.cons 9 [] [(6,3)] (.cons 10 [(11,1)] [(8,1)] .leaf .none) .none) (.cons 9 [] [(0,5)] (.cons 5 [(6,3)] [] (.cons 10 [(11,1)] [(8,1)] .leaf .none) .none) .none)) [5,9,10] 8 fun K hK=>?_
   simp only [vT,vU,vV,bb,eo,dA,dV,c9,c8,dr,aW,aZ,bM] at hK ⊢
   refine ZU (Z1 @ga) ?_
   refine rC (Z2 @ga @aj.eq_1) (Z1 (ev)) (Z1 (Zs 11)) Z0 ?_;repeat' (first|apply Zb|apply Zn|(apply Zm;intro h)|(apply Zk;intro K hK))
   all_goals refine Gq.done ⟨rfl,?_⟩
   all_goals refine St.bN ?_ ?_ ?_<;>simp only [LE,EN,Nat.reduceEqDiff,reduceIte,Nat.reduceSub,aC]
  cases r0 with
  | error e =>
   simp only at hkR
   subst hkR
   have he:=EX hv
   unfold xN rE v7 sZ
   simp only
   refine pK (Z1 @he) Z0 ?_;repeat' (first|apply Zb|apply Zn|(apply Zm;intro h)|(apply Zk;intro K hK))
   exact ZQ (Z1 Tryz.results50)
  | ok u =>
   simp only at hkR
   unfold sZ rE
   simp only
   refine pK Z0 Z0 ?_;repeat' (first|apply Zb|apply Zn|(apply Zm;intro h)|(apply Zk;intro K hK))
   refine ⟨⟨(k+1,acc++[u]),by simp only;omega,by simp;omega,fun x hx=>by
    rcases List.mem_append.1 hx with hx|hx
    ·exact hkz x hx
    ·rw [List.mem_singleton.1 hx];exact BU hv,hkR⟩,by simp only;omega,?_⟩
   exact ZN (Z1 @aC.eq_1)
 ·have hk:k=l.length:=by omega
  subst hk
  rw [Hd,xh] at hkR
  subst hkR
  unfold xN rE v7
  simp only
  refine pK Z0 Z0 ?_;repeat' (first|apply Zb|apply Zn|(apply Zm;intro h)|(apply Zk;intro K hK))
  refine ZR (Z1 Tryz.results50) ?_
  rw [Px]
theorem J3 (s:aq) (l:List aG) (hs:s.Fits) (hl:l.length≤140737488355328) (hf:∀st∈l,st.Fits):Sat Tryz.prog 23 [.agg (aC s),.one (qv l)] (.cR [.agg (aC (sZ (sC s l))),oI (rE (sC s l))]):=by
 have c1:=Nx s l hs hl hf
 unfold qv at c1 ⊢
 cases hR:uC s l with
 | error e =>
  have spec:sC s l=.error e:=by unfold sC;rw [hR]
  have he:=Nz hR
  rw [hR] at c1
  rw [spec]
  unfold xN rE v7 at c1
  unfold sZ rE
  simp only at c1 ⊢
  refine ZE Tryz.func23 Tryz.ntmps23 fun w0 m0 F0=>?_
  refine pK (Z1 @he) (Z1 (c1)) ?_;repeat' (first|apply Zb|apply Zn|(apply Zm;intro h))
  exact ZQ (Z1 Tryz.results23)
 | ok O =>
  have spec:sC s l=.ok (O.getD (O.length - 1) sA):=by unfold sC;rw [hR]
  obtain ⟨_,lO⟩:=Ny hR
  rw [hR] at c1
  rw [spec]
  unfold xN rE v7 at c1
  unfold sZ rE
  simp only at c1 ⊢
  have gO:(O.map aC).getD (O.length - 1) []=aC (O.getD (O.length - 1) sA):=by rw [bJ _ _ _ (by omega),bE _ (by omega)]
  have w1:((O.length:Int) - 1).toNat=O.length - 1:=by omega
  refine ZE Tryz.func23 Tryz.ntmps23 fun w0 m0 F0=>?_
  refine pK (Z2 @gO @w1) (Z1 (c1)) ?_;repeat' (first|apply Zb|apply Zn|(apply Zm;intro h))
  exact ZQ (Z1 Tryz.results23)
theorem J6 (s:aq) (st:aG) (hs:s.Fits) (hf:st.Fits) (hk:CW st) {u v:aq} (h:dU s st=.ok u) (h2:ud s st=.ok v) (hv:v.tables.length≤1048576) :
  Sat Tryz.prog 11 [.agg (aC s),.agg (aj st)] (.cR [.one (bp (qI v)),oI 0]):=by
 have c1:=J5 s st hs hf hk h h2
 have c2:=MW v (by omega)
 refine ZE Tryz.func11 Tryz.ntmps11 fun w0 m0 F0=>?_
 refine ZW (Z1 @aj.eq_1) (Z2 (c1) (c2)) ?_
 exact ZQ (Z1 Tryz.results11)
def AV (s:aq) (l:List aG):Except Int (List aG):=match sC s l with
 | .error e=>.error e
 | .ok _=>.ok (uU l.length l)
theorem V4 (s:aq) (l:List aG) (hs:s.Fits) (hl:l.length≤140737488355328) (hf:∀st∈l,st.Fits):Sat Tryz.prog 22 [.agg (aC s),.one (qv l)] (.cR [.one (qv (IP (AV s l))),oI (rE (AV s l))]):=by
 have c1:=J3 s l hs hl hf
 cases h:sC s l with
 | error e =>
  have he:=Ht h
  have spec:AV s l=.error e:=by unfold AV;rw [h]
  rw [h] at c1
  rw [spec]
  unfold sZ rE at c1
  unfold IP rE
  simp only at c1 ⊢
  unfold qv at c1 ⊢
  refine ZE Tryz.func22 Tryz.ntmps22 fun w0 m0 F0=>?_
  refine pK (Z1 @he) (Z1 (c1)) ?_;repeat' (first|apply Zb|apply Zn|(apply Zm;intro h))
  exact ZQ (Z1 Tryz.results22)
 | ok u =>
  have spec:AV s l=.ok (uU l.length l):=by unfold AV;rw [h]
  have l6:=aa0 h
  have c2:=Pu l (by omega) hf
  rw [h] at c1
  rw [spec]
  unfold sZ rE at c1
  unfold IP rE
  simp only at c1 ⊢
  unfold qv at c1 c2 ⊢
  refine ZE Tryz.func22 Tryz.ntmps22 fun w0 m0 F0=>?_
  refine pK Z0 (Z2 (c1) (c2)) ?_;repeat' (first|apply Zb|apply Zn|(apply Zm;intro h))
  refine ab.loop (ι:={p:Bool×Nat×List aG // p.2.2.length≤p.2.1∧p.2.1≤6∧(∀x∈p.2.2,x.Fits)∧uU p.2.1 p.2.2=uU l.length l∧(p.1=false→s4 p.2.2=none)}) (fun p=>⟨28,[(8,.v (.one (.sl 24 (p.1.2.2.map aj)))),(9,.v (oB p.1.1))],[],[]⟩) (fun p=>2 * p.1.2.1+p.1.1.toNat) ⟨(true,l.length,l),br _,l6,hf,rfl,fun q=>by cases q⟩ ?_ fun ⟨⟨fl,n,m⟩,hn,h6,hm,hN,hr⟩=>?_
  ·exact ZL Z0
  simp only at hn h6 hm hN hr ⊢
  cases fl with
  | false =>
   rw [V5 (hr rfl)] at hN
   refine pK Z0 Z0 ?_;repeat' (first|apply Zb|apply Zn|(apply Zm;intro h))
   refine ZR (Z1 Tryz.results22) ?_
   rw [hN]
  | true =>
   have c3:=abr m (by omega) hm
   cases hq:s4 m with
   | none =>
    rw [hq] at c3
    simp only [av,HK] at c3
    unfold qv at c3
    refine pK Z0 (Z1 (c3)) ?_;repeat' (first|apply Zb|apply Zn|(apply Zm;intro h))
    refine ⟨⟨(false,n,m),hn,h6,hm,hN,fun _=>hq⟩,by simp,?_⟩
    exact ZL Z0
   | some m2 =>
    rw [hq] at c3
    simp only [eE,gU] at c3
    unfold qv at c3
    have q2:=abq hq
    cases n with
    | zero=>omega
    | succ n =>
     rw [uU,hq] at hN
     refine pK Z0 (Z1 (c3)) ?_;repeat' (first|apply Zb|apply Zn|(apply Zm;intro h))
     refine ⟨⟨(true,n,m2),by simp only;omega,by simp only;omega,PO hq hm,hN,fun q=>by cases q⟩,by simp,?_⟩
     exact ZL Z0
theorem Ho (s:aq) (st:aG) (aU comp o' nw':cZ) (hs:s.Fits) (hf:st.Fits) (hk:CW st) {u v:aq} (h:dU s st=.ok u) (h2:ud s st=.ok v)
  (R:db Tryz.prog 35 [.one (.ptr 1000 0),.one (bp aU),.one (bp comp)] [(1000,Df st true s u v)] [] (.cR [.one (bp o'),.one (bp nw'),oI 0]) [] []) :
  Sat Tryz.prog 14 [.agg (aC s),.agg (aj st),.one (bp aU),.one (bp comp)] (.cR [.one (bp o'),.one (bp nw'),oI 0]):=by
 have c1:=J5 s st hs hf hk h h2
 have c2:=Ey st hf
 have c3:=EV s (yY (uj h).1)
 unfold Df at R
 unfold aj at R c1 c2 ⊢
 simp only [cM,aW,aZ] at R c1 c2 c3 ⊢
 refine ZE Tryz.func14 Tryz.ntmps14 fun w0 m0 F0=>?_
 refine ZV Z0 (Z3 (c1) (c2) (c3)) (Z2 (Zs 5) (Zd 4 [(0,1),(2,1),(4,2)] [(1,[],[(2,1),(4,2)]),(3,[(6,1)],[(4,2)]),(7,[(8,1)],[])] [1,3,7] 8)) Z0 ?_
 refine ZV (Z6 @dz @si @PH @bh @bt @bu) Z0 Z0 (Z1 (Zi [(1000,32)] [] [] [] [32] [] [32] [] (R))) ?_
 exact ZQ (Z1 Tryz.results14)
end Go.Bw
