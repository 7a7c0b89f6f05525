/- Proved: contracts of functions of this translation, for every state, and what they rest on; bounds stand ahead. -/
import Derived.Test.YtmnpdfeocknafaaGreatDoorVm
set_option maxHeartbeats 64000000
set_option linter.unusedSimpArgs false
set_option linter.unusedVariables false
namespace Go.Bw
open Go.Proofs
theorem U4 (s:aq) (i:Nat) (name:ByteArray) (e:Int) (hi:i<s.tables.length) (sm:sR s) (hpk:∀t∈s.tables,xW t) (hE:uc s i name=.error e) :
  db Tryz.prog 86 [.one (.ptr 1000 0),oI i,oS name] (iB s) (iR s) (.v (oI e)) [] []:=by
 have b1:=sm.tables
 have b2:=sm.table s.tables[i] (bl hi)
 have b3:=sm.ak
 have b4:=sm.cons
 have b5:∀f∈s.ak,f.ae.length≤1048576:=fun f hf=>by have:=(sm.fk f hf).1;omega
 have p1:=hpk s.tables[i] (bl hi)
 obtain ⟨t,ht⟩:∃t,s.tables[i]=t:=⟨_,rfl⟩
 have htA:bq s i=t:=by unfold bq;rw [bE _ hi,ht]
 rw [ht] at b2 p1
 obtain ⟨b6,b7,_⟩:=b2
 have fs:=qP s name (by omega)
 have lm:(s.tables.map ap).length=s.tables.length:=bw ..
 have gi:(s.tables.map ap).getD i []=ap t:=by rw [bJ _ _ _ hi,ht]
 unfold uc at hE
 rcases qn (fun u=>aw u.name name) s.tables 0 with ⟨e1,_⟩|⟨j,hj,e1,_,_⟩
 ·have e1:aY s.tables name=-1:=e1
  rw [e1,ux] at fs
  simp only [e1] at hE
  rw [if_pos (by omega)] at hE
  injection hE with hE
  subst hE
  unfold iB iR
  refine ZM [1000] [1,2,3] Tryz.func86 Tryz.ntmps86 fun w0 m0 F0=>?_
  refine ab.eM 1000 rfl ?_
  refine ZU (Z3 @fG @eW @fH) ?_
  refine ab.eM 1001 rfl ?_
  refine ZU (Z3 @fG @eW @fH) ?_
  refine ZV Z0 (Z1 (fs)) (Z1 (Zd 1 [(0,4)] [(4,[(5,5)],[])] [4] 8)) Z0 ?_;repeat' (first|apply Zb|apply Zn|(apply Zk;intro K hK))
  exact ZQ (Z1 Tryz.results86)
 have e1:aY s.tables name=(j:Int):=by unfold aY;simpa using e1
 rw [e1,rZ,sB (show (0:Int)≤(j:Int) by omega)] at fs
 have j0:¬ (j:Int)<0:=by omega
 obtain ⟨o,ho⟩:∃o,s.tables[j]=o:=⟨_,rfl⟩
 have hoA:bq s j=o:=by unfold bq;rw [bE _ hj,ho]
 have gj:(s.tables.map ap).getD j []=ap o:=by rw [bJ _ _ _ hj,ho]
 have b8:=sm.table s.tables[j] (bl hj)
 have p2:=hpk s.tables[j] (bl hj)
 rw [ho] at b8 p2
 obtain ⟨b9,b10,_⟩:=b8
 simp only [e1,if_neg j0,bG,htA,hoA] at hE
 have sq:=IK t.pk.length (by omega)
 have ep:=Be o.pk (ew t.pk.length) (by omega)
 unfold iB iR
 refine ZM [1000] [1,2,3] Tryz.func86 Tryz.ntmps86 fun w0 m0 F0=>?_
 refine ab.eM 1000 rfl ?_
 refine ZU (Z3 @fG @eW @fH) ?_
 refine ab.eM 1001 rfl ?_
 refine ZU (Z3 @fG @eW @fH) ?_
 refine ZV (Z3 @lm @gi @gj) (Z1 (fs)) (Z2 (Zs 4) (Zd 1 [(0,4)] [(4,[(5,5)],[])] [4] 8)) Z0 ?_;repeat' (first|apply Zb|apply Zn|(apply Zk;intro K hK))
 refine ab.we ⟨188,[(0,.v (.one (.ptr 1000 0))),(1,.v (oI i)),(5,.v (.one (.ptr 5 0))),(6,.v (oI 0)),(7,.v (oI j)),(9,.v (.one (.ptr 9 0))),(10,.v (.one (.ptr 10 0)))],[(9,ap t),(10,ap o),(5,[.str name]),(1000,[.ref 1000 0 s.tables.length,.ref 1001 0 s.ak.length,.ref 1002 0 s.cons.length])],[(1000,⟨3,s.tables.map ap,[]⟩),(1001,⟨3,s.ak.map aL,[]⟩),(1002,⟨7,s.cons.map aK,[]⟩)]⟩ ?_ ?_
 ·refine dY ah mixed [(0,14)] (.cons 14 [] [(0,14)] (.cons 15 [] [(0,14)] (.cons 16 [] [(7,7)] (.cons 17 [] [] .leaf .none) .none) .none) (.cons 15 [] [(0,14)] (.cons 14 [] [(0,14)] (.cons 16 [] [(7,7)] (.cons 17 [] [] .leaf .none) .none) .none) .none)) [14,15,16,17] 8 fun K hK=>?_
  simp only [vT,vU,vV,bb,eo,dA,dV,c9,c8,dr,aW,aZ,bM] at hK ⊢
  refine ZU (Z3 @gi @gj @lm) ?_
  refine ZV (Z3 @gi @gj @lm) Z0 Z0 Z0 ?_;repeat' (first|apply Zb|apply Zn|(apply Zk;intro K hK))
  all_goals refine Gq.done ⟨rfl,?_⟩
  all_goals refine St.bN ?_ ?_ ?_<;>simp only [LE,EN,Nat.reduceEqDiff,reduceIte,Nat.reduceSub,ap]
 by_cases hij:i=j
 ·subst hij
  rw [if_pos (.inl rfl)] at hE
  injection hE with hE
  subst hE
  refine CK Z0 Z0 ?_;repeat' (first|apply Zb|apply Zn|(apply Zk;intro K hK))
  exact ZQ (Z1 Tryz.results86)
 have hij':¬ (i:Int)=(j:Int):=by omega
 by_cases hpq:o.pk=ew t.pk.length
 case neg =>
  rw [if_pos (.inr hpq)] at hE
  injection hE with hE
  subst hE
  rw [yG hpq] at ep
  refine CK (Z1 @hij') (Z2 (sq) (ep)) ?_;repeat' (first|apply Zb|apply Zn|(apply Zk;intro K hK))
  exact ZQ (Z1 Tryz.results86)
 rw [sB hpq] at ep
 rw [if_neg (by rintro (h|h);exact hij' h;exact h hpq)] at hE
 have ol:=No p2 hpq
 refine CK (Z1 @hij') (Z2 (sq) (ep)) ?_;repeat' (first|apply Zb|apply Zn|(apply Zk;intro K hK))
 have hE:F3 s i j t o name=.error e:=hE
 unfold F3 at hE
 refine ab.loop (ι:={k:Nat // k≤t.pk.length∧scan (yW t o) (t.pk.drop k) k=scan (yW t o) t.pk 0}) (fun k=>⟨188,[(0,.v (.one (.ptr 1000 0))),(1,.v (oI i)),(5,.v (.one (.ptr 5 0))),(6,.v (oI 0)),(7,.v (oI j)),(9,.v (.one (.ptr 9 0))),(10,.v (.one (.ptr 10 0))),(11,.v (.one (.ptr 11 0))),(57,.v (.one (.sl 1 (t.pk.map aX)))),(58,.v (oI t.pk.length)),(59,.v (oI k.1))],[(11,[.int .i64 (t.pk.length:Int)]),(9,ap t),(10,ap o),(5,[.str name]),(1000,[.ref 1000 0 s.tables.length,.ref 1001 0 s.ak.length,.ref 1002 0 s.cons.length])],[(1000,⟨3,s.tables.map ap,[]⟩),(1001,⟨3,s.ak.map aL,[]⟩),(1002,⟨7,s.cons.map aK,[]⟩)]⟩) (fun k=>t.pk.length - k.1) ⟨0,bg _,rfl⟩ ?_ fun ⟨k,hkl,hki⟩=>?_
 ·exact ZL (Z1 @ap.eq_1)
 simp only at hkl hki ⊢
 rcases cV k t.pk.length with hc|hc
 ·obtain ⟨q,hq,q1⟩:∃q:Nat,t.pk[k]=(q:Int)∧q<t.ae.length:=⟨t.pk[k].toNat,by have:=p1 t.pk[k] (bl hc);omega,by have:=p1 t.pk[k] (bl hc);omega⟩
  have gp:(t.pk.map aX).getD k []=[.int .i64 (q:Int)]:=by rw [bJ _ _ _ hc,hq];rfl
  have g1:(t.ae.map aT).getD q []=aT (t.ae.getD q dF):=by rw [bJ _ _ _ q1,bE _ q1]
  have g2:(o.ae.map aT).getD k []=aT (o.ae.getD k dF):=by rw [bJ _ _ _ (by omega),bE _ (by omega)]
  have sp:yW t o k t.pk[k]=if (t.ae.getD q dF).kind=(o.ae.getD k dF).kind then none else some 9:=by unfold yW;rw [hq,bG,ite_not]
  by_cases hx:(t.ae.getD q dF).kind=(o.ae.getD k dF).kind
  ·rw [if_pos hx] at sp
   refine CK (Z4 @gp @g1 @g2 @hx) Z0 ?_;repeat' (first|apply Zb|apply Zn|(apply Zk;intro K hK))
   refine ⟨⟨k+1,by omega,by rw [wG (by omega) sp,hki]⟩,by simp only;omega,?_⟩
   exact ZL (Z1 @ap.eq_1)
  ·rw [if_neg hx] at sp
   rw [vB (by omega) sp hki] at hE
   injection hE with hE
   subst hE
   refine CK (Z4 @gp @g1 @g2 @hx) Z0 ?_;repeat' (first|apply Zb|apply Zn|(apply Zk;intro K hK))
   exact ZQ (Z1 Tryz.results86)
 rw [xL (by omega)] at hki
 rw [←hki] at hE
 simp only at hE
 have df:=U2 s ⟨name,ew t.pk.length,t.name⟩ (by omega) (by omega) (by omega) b5
 have ek:aL ⟨name,ew t.pk.length,t.name⟩=[.str name,.sl 1 ((ew t.pk.length).map aX),.str t.name]:=rfl
 rw [ek] at df
 cases hd:se s ⟨name,ew t.pk.length,t.name⟩ with
 | error e' =>
  rw [hd] at hE df
  injection hE with hE
  subst hE
  have h4:e'≠0:=by
   unfold se at hd
   simp only at hd
   split at hd
   ·injection hd with hd;omega
   ·cases hd
  unfold iB fR dh di rE at df
  simp only at df
  refine ZV (Z5 @dz @h4 @bh @bt @bu) (Z1 (sq)) (Z1 (Zd 14 [(0,3),(4,2)] [(3,[(6,1)],[(0,2),(4,2)]),(7,[(8,1)],[])] [3,7] 8)) (Z1 (Zi [(1000,1000)] [(1000,1000),(1001,1001),(1002,1002)] [] [] [1000] [1000,1001,1002] [1000] [1000,1001,1002] (df))) ?_;repeat' (first|apply Zb|apply Zn|(apply Zk;intro K hK))
  exact ZQ (Z1 Tryz.results86)
 | ok s1 =>
  rw [hd] at hE df
  simp only at hE
  have cf:=DY s1.ak 141 [.fz [.str name]] _ (by
   have:=U3 hd
   omega) fun t _=>Nk t name
  cases hx:(s1.ak.any fun f=>aw f.ref name) with
  | false=>rw [hx] at hE;simp at hE
  | true =>
   rw [hx] at hE cf
   rw [if_pos rfl] at hE
   injection hE with hE
   subst hE
   unfold iB fR dh di qw qx rE at df
   simp only at df
   refine ZV (Z4 @dz @bh @bt @bu) (Z2 (sq) (cf)) (Z1 (Zd 14 [(0,3),(4,2)] [(3,[(6,1)],[(0,2),(4,2)]),(7,[(8,1)],[])] [3,7] 8)) (Z1 (Zi [(1000,1000)] [(1000,1000),(1001,1001),(1002,1002)] [(1000,1000)] [(1,1),(2,2),(3,3)] [] [1000,1001,1002,1,2,3] [1000,1000] [1000,1001,1002,1,2,3] (df))) ?_;repeat' (first|apply Zb|apply Zn|(apply Zk;intro K hK))
   exact ZQ (Z1 Tryz.results86)
end Go.Bw
