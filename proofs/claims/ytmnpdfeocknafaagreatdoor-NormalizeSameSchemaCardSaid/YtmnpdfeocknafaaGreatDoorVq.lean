/- Proved: contracts of functions of this translation, for every state, and what they rest on; bounds stand ahead. -/
import Derived.Test.YtmnpdfeocknafaaGreatDoorVn
set_option maxHeartbeats 64000000
set_option linter.unusedSimpArgs false
set_option linter.unusedVariables false
namespace Go.Bw
open Go.Proofs
theorem UW (s:aq) (i:Nat) (st:aG) (hi:i<s.tables.length) (sm:sR s) (hst:st.ae.length≤140737488355328) (hE:xg s (bq s i) st=0) (hpk:∀c∈s.tables[i].pk,0≤c∧c<(s.tables[i].ae.length:Int)) :
  db Tryz.prog 85 [.one (.ptr 1000 0),oI i,.agg (aj st)] (iB s) (iR s) (.v (oI (rE (td s i st)))) (dh (td s i st)) (di (td s i st)):=by
 have b1:=sm.tables
 have b2:=sm.table s.tables[i] (bl hi)
 have b3:=sm.ak
 have b4:=sm.cons
 obtain ⟨t,ht⟩:∃t,s.tables[i]=t:=⟨_,rfl⟩
 have htA:bq s i=t:=by unfold bq;rw [bE _ hi,ht]
 rw [ht] at b2 hpk
 rw [htA] at hE
 obtain ⟨b6,b7,b8⟩:=b2
 obtain ⟨c1,c2⟩:=UX hE
 have cs:=M' s t st (by omega) (by omega) (by omega) hst
 rw [hE] at cs
 have lm:(s.tables.map ap).length=s.tables.length:=bw ..
 have gi:(s.tables.map ap).getD i []=ap t:=by rw [bJ _ _ _ hi,ht]
 have e0:s.tables.map eh=qk s.tables i t:=by unfold qk;rw [←ht,Bm]
 have ef:tF (qk s.tables i t)=s.tables.map ap:=by rw [←e0];exact eW _
 obtain ⟨R,hR⟩:∃R,td s i st=R:=⟨_,rfl⟩
 have spec:=hR
 unfold td at spec
 simp only [htA] at spec
 rw [if_neg (by rw [hE];simp)] at spec
 rw [hR]
 unfold iB iR
 refine ZM [1000] [1,2,3] Tryz.func85 Tryz.ntmps85 fun w0 m0 F0=>?_
 refine ab.gq ?_
 rw [e0]
 refine ab.rD 1000 i 1 2010 rfl (vW _ hi) rfl (by decide) (by decide) ?_
 refine ZU (Z1 @rP) ?_
 refine ab.rD 1000 i 2 2011 rfl (xJ _ hi) (by simp [aP]) (by decide) (by decide) ?_
 refine ZU (Z1 @rP) ?_
 rw [←e0]
 repeat' (first|((first|((fail_if_success (refine ab.bC 7 ?_));(with_reducible refine qV ah fun K hK=>?_))|(refine ab.bC 2 ?_;refine dX ah mixed [(0,5)] [(5,[(6,1)],[])] [5] 8 fun K hK=>?_;simp only [SG,bb] at hK ⊢)|((with_reducible refine ai.is ?_);(((apply ai.cO);(focus (simp -dsimp (disch:=first|exact D|fail) only [go_sem,↓reduceIte,seval,aj,eh,ht,av,gi,lm,pW];rfl));(focus (first|exact (by rw [Qp s.tables hi ht (by simp -dsimp (disch:=omega) only [go_sem,↓reduceIte,seval,Ev]) (by simp -dsimp (disch:=omega) only [go_sem,↓reduceIte,seval,Ev])];exact cs))))))|(with_reducible first|refine an.some fun K hK=>?_|refine an.step fun K hK=>?_))<;>simp -dsimp (disch:=first|exact D|fail) only [go_sem,↓reduceIte,seval,aj,eh,ht,av,gi,lm,pW])|((with_reducible refine hK _ ?_);clear hK K)|(with_reducible refine an.intro fun K0 hK0=>?_)|((with_reducible refine an.fin ?_);(refine hK0 _ ?_);clear hK0 K0)|(with_reducible refine an.quiet ?_)|refine Q1 ?_|((with_reducible refine qW (T:=TT) (b:=?_) ?_ ?_);rotate_left;exact rfl)|fail)
 refine ab.keep [0,1,5,6,7,9,10] ?_
 refine ZS Z0 ?_
 refine ab.rN [1000,7] [1000,1001,1002,2010,2011] ?_
 refine ZS (Z1 @S0) ?_
 refine ZW Z0 Z0 ?_;repeat' (first|apply Zb|apply Zn|(apply Zk;intro K hK))
 have FKl:∃pB:FK→Bool,pB=fun f=>aw f.table t.name&&ub f.ae st.ae==1:=⟨_,rfl⟩
 obtain ⟨pB,hpB⟩:=FKl
 rw [←hpB] at spec
 refine ab.loop (ι:={k:Nat // k≤s.ak.length∧(s.ak.take k).any pB=false}) (fun k=>⟨206,[(0,.v (.one (.ptr 1000 0))),(1,.v (oI i)),(5,.v (.one (.fz (aj st)))),(6,.v (oI 0)),(7,.v (.one (.ptr 7 0))),(9,.v (.one (.fz [.int .i64 (t.pk.length:Int)]))),(10,.v (.one (.bD 135 ([[.int .i64 (t.pk.length:Int)],aj st].map L.fz)))),(43,.v (.one (.ref 1001 0 s.ak.length))),(44,.v (oI s.ak.length)),(45,.v (oI k.1))],[(7,[.str t.name,.ref 2010 0 t.ae.length,.ref 2011 0 t.pk.length]),(1000,[.ref 1000 0 s.tables.length,.ref 1001 0 s.ak.length,.ref 1002 0 s.cons.length])],[(1000,⟨3,s.tables.map eh,[(i,2,.ref 2011 0 t.pk.length),(i,1,.ref 2010 0 t.ae.length)]⟩),(2011,⟨1,t.pk.map aX,[]⟩),(2010,⟨3,t.ae.map aT,[]⟩),(1001,⟨3,(pQ (qy t st) s.ak k.1).map pS,[]⟩),(1002,⟨7,s.cons.map aK,[]⟩)]⟩) (fun k=>s.ak.length - k.1) ⟨0,bg _,rfl⟩ ?_ fun ⟨k,hkl,hnb⟩=>?_
 ·exact ZN (Z2 @uK @aj.eq_1)
 simp only at hkl hnb ⊢
 rcases cV k s.ak.length with hk|hk
 ·have hl:k<(pQ (qy t st) s.ak k).length:=by rw [tW];exact hk
  have e1:(pQ (qy t st) s.ak k).map pS=tI (pQ (qy t st) s.ak k) k s.ak[k]:=by unfold tI;rw [IG _ s.ak k hk]
  have rl:=Nh (pQ (qy t st) s.ak k) k
  have rg:=fun t'=>IH (l:=pQ (qy t st) s.ak k) (k:=k) t' hl
  rw [tW] at rl
  have d1:=(sm.fk s.ak[k] (bl hk)).1
  have ms:=Ew (qy t st) s.ak k hk
  have mk:=AE (qy t st) s.ak k hk
  have tn:=Nf (p:=pB) hk hnb
  have ta:=Nd (p:=pB) hk
  obtain ⟨fb,hfb⟩:∃fb,s.ak[k]=fb:=⟨_,rfl⟩
  rw [hfb] at d1 ms mk e1 tn ta
  cases hT:aw fb.table t.name with
  | false =>
   have hT':¬ fb.table.toList=t.name.toList:=by simpa [aw] using hT
   have mk:=mk (by unfold qy;rw [hT];rfl)
   have tn:=tn (by rw [hpB];simp only [hT,fN])
   rw [e1]
   refine ZW (Z5 @rl @rg @pS.eq_1 @hT' @aj.eq_1) Z0 ?_;repeat' (first|apply Zb|apply Zn|(apply Zk;intro K hK))
   refine ⟨⟨k+1,by omega,tn⟩,by simp only;omega,?_⟩
   rw [←e1]
   exact ZL (Z2 @mk @aj.eq_1)
  | true =>
   have hT':fb.table.toList=t.name.toList:=by simpa [aw] using hT
   have ov:=ID fb.ae st.ae (by omega) (by omega)
   rw [e1]
   refine ab.rD 1001 k 1 2000 rfl (Ni _ hl) rfl (by decide) (by decide) ?_
   refine ZU (Z1 @rP) ?_
   rcases Nc fb.ae st.ae with e2|e2|e2
   ·have mk:=mk (by unfold qy;rw [hT,e2];rfl)
    have tn:=tn (by rw [hpB];simp only [hT,e2];rfl)
    rw [e2] at ov
    refine ZV (Z5 @rl @rg @pS.eq_1 @hT' @aj.eq_1) (Z1 (ov)) (Z1 (Zs 21)) Z0 ?_;repeat' (first|apply Zb|apply Zn|(apply Zk;intro K hK))
    refine ab.close 1001 k 1 2000 rfl rfl (by decide) (by simp [aP]) (by rw [rl];exact hk) (by show 1<3;decide) rfl ?_
    refine ZU (Z3 @rG @rv @ru) ?_
    rw [IJ _ hl,show (⟨fb.table,fb.ae,fb.ref⟩:FK)=fb from rfl,←e1]
    refine ZW Z0 Z0 ?_;repeat' (first|apply Zb|apply Zn|(apply Zk;intro K hK))
    refine ⟨⟨k+1,by omega,tn⟩,by simp only;omega,?_⟩
    exact ZL (Z2 @mk @aj.eq_1)
   ·have ta:=ta (by rw [hpB];simp only [hT,e2];rfl)
    rw [if_pos ta] at spec
    subst spec
    rw [e2] at ov
    unfold dh di rE
    simp only
    refine ZW (Z5 @rl @rg @pS.eq_1 @hT' @aj.eq_1) (Z1 (ov)) ?_;repeat' (first|apply Zb|apply Zn|(apply Zk;intro K hK))
    refine Gq.done ?_
    exact ZQ (Z1 Tryz.results85)
   ·have tn:=tn (by rw [hpB];simp only [hT,e2];rfl)
    rw [e2] at ov
    have e3:=Nj (pQ (qy t st) s.ak k) k fb {fb with table:=st.other}
    simp only [pS] at e3
    have done:tI (pQ (qy t st) s.ak k) k {fb with table:=st.other,ae:=fb.ae.map (uL t.pk.length st.ae)}=(pQ (qy t st) s.ak (k+1)).map pS:=by
     unfold tI
     rw [←ms]
     unfold qy
     rw [hT,e2]
     rfl
    refine ZV (Z5 @rl @rg @pS.eq_1 @hT' @aj.eq_1) (Z1 (ov)) (Z1 (Zd 15 [(0,9)] [(9,[],[])] [9] 8)) Z0 ?_;repeat' (first|apply Zb|apply Zn|(apply Zk;intro K hK))
    refine ab.loop (ι:={j:Nat // j≤fb.ae.length}) (fun j=>⟨206,[(0,.v (.one (.ptr 1000 0))),(1,.v (oI i)),(5,.v (.one (.fz (aj st)))),(6,.v (oI 0)),(7,.v (.one (.ptr 7 0))),(9,.v (.one (.fz [.int .i64 (t.pk.length:Int)]))),(10,.v (.one (.bD 135 ([[.int .i64 (t.pk.length:Int)],aj st].map L.fz)))),(43,.v (.one (.ref 1001 0 s.ak.length))),(44,.v (oI s.ak.length)),(45,.v (oI k)),(11,.v (oI k)),(74,.v (.one (.ref 2000 0 fb.ae.length))),(75,.v (oI fb.ae.length)),(76,.v (oI j.1))],[(7,[.str t.name,.ref 2010 0 t.ae.length,.ref 2011 0 t.pk.length]),(1000,[.ref 1000 0 s.tables.length,.ref 1001 0 s.ak.length,.ref 1002 0 s.cons.length])],[(1001,⟨3,tI (pQ (qy t st) s.ak k) k {fb with table:=st.other},[(k,1,.ref 2000 0 fb.ae.length)]⟩),(2000,⟨1,(pQ (uL t.pk.length st.ae) fb.ae j.1).map aX,[]⟩),(1000,⟨3,s.tables.map eh,[(i,2,.ref 2011 0 t.pk.length),(i,1,.ref 2010 0 t.ae.length)]⟩),(2011,⟨1,t.pk.map aX,[]⟩),(2010,⟨3,t.ae.map aT,[]⟩),(1002,⟨7,s.cons.map aK,[]⟩)]⟩) (fun j=>fb.ae.length - j.1) ⟨0,bg _⟩ ?_ fun ⟨j,hjl⟩=>?_
    ·exact ZN (Z3 @uK @aj.eq_1 @e3)
    simp only at hjl ⊢
    rcases cV j fb.ae.length with hcj|hcj
    ·have ml:=tW (uL t.pk.length st.ae) fb.ae j
     have mg:=zN aX (uL t.pk.length st.ae) fb.ae j hcj
     have ms2:=zO aX (uL t.pk.length st.ae) fb.ae j hcj
     simp only [aX] at ms2
     have hg:=IC st t.pk.length fb.ae[j] (by omega) (by omega)
     unfold wF at hg
     refine ZV (Z5 @rl @rg @pS.eq_1 @ml @mg) (Z1 (hg)) (Z1 (Zd 19 [(0,11)] [(11,[(12,1)],[(0,9)]),(13,[],[])] [11,13] 8)) Z0 ?_;repeat' (first|apply Zb|apply Zn|(apply Zk;intro K hK))
     refine ⟨⟨j+1,by omega⟩,by simp only;omega,?_⟩
     exact ZN (Z1 @ms2)
    ·have hj:j=fb.ae.length:=by omega
     subst hj
     refine ZV (Z3 @rl @rg @pS.eq_1) Z0 (Z1 (Zs 21)) Z0 ?_;repeat' (first|apply Zb|apply Zn|(apply Zk;intro K hK))
     refine ab.close 1001 k 1 2000 rfl rfl (by decide) (by simp [aP,tW]) (by rw [rl];exact hk) (by show 1<3;decide) rfl ?_
     refine ZU (Z3 @rG @rv @ru) ?_
     rw [IJ _ hl,yu,done]
     refine ZW Z0 Z0 ?_;repeat' (first|apply Zb|apply Zn|(apply Zk;intro K hK))
     refine ⟨⟨k+1,by omega,tn⟩,by simp only;omega,?_⟩
     exact ZN Z0
 have hk:k=s.ak.length:=by omega
 subst hk
 rw [dw] at hnb
 rw [if_neg (by rw [hnb];simp)] at spec
 rw [yu]
 refine ZW Z0 Z0 ?_;repeat' (first|apply Zb|apply Zn|(apply Zk;intro K hK))
 obtain ⟨pC,hpC⟩:∃pC:dN→Bool,pC=fun c=>aw c.table t.name&&ub (yd c) st.ae==1:=⟨_,rfl⟩
 rw [←hpC] at spec
 refine ab.loop (ι:={k:Nat // k≤s.cons.length∧(s.cons.take k).any pC=false}) (fun k=>⟨206,[(0,.v (.one (.ptr 1000 0))),(1,.v (oI i)),(5,.v (.one (.fz (aj st)))),(6,.v (oI 0)),(7,.v (.one (.ptr 7 0))),(9,.v (.one (.fz [.int .i64 (t.pk.length:Int)]))),(10,.v (.one (.bD 135 ([[.int .i64 (t.pk.length:Int)],aj st].map L.fz)))),(99,.v (.one (.ref 1002 0 s.cons.length))),(100,.v (oI s.cons.length)),(101,.v (oI k.1))],[(7,[.str t.name,.ref 2010 0 t.ae.length,.ref 2011 0 t.pk.length]),(1000,[.ref 1000 0 s.tables.length,.ref 1001 0 s.ak.length,.ref 1002 0 s.cons.length])],[(1000,⟨3,s.tables.map eh,[(i,2,.ref 2011 0 t.pk.length),(i,1,.ref 2010 0 t.ae.length)]⟩),(2011,⟨1,t.pk.map aX,[]⟩),(2010,⟨3,t.ae.map aT,[]⟩),(1001,⟨3,(s.ak.map (qy t st)).map pS,[]⟩),(1002,⟨7,(pQ (sk t st) s.cons k.1).map aK,[]⟩)]⟩) (fun k=>s.cons.length - k.1) ⟨0,bg _,rfl⟩ ?_ fun ⟨k,hkl,hnc⟩=>?_
 ·exact ZN (Z1 @uK)
 simp only at hkl hnc ⊢
 rcases cV k s.cons.length with hk|hk
 ·have ml:=tW (sk t st) s.cons k
  have mg:=zN aK (sk t st) s.cons k hk
  have ms:=zO aK (sk t st) s.cons k hk
  have mk:=AE (sk t st) s.cons k hk
  have gs:=fun x=>FX ((pQ (sk t st) s.cons k).map aK) k x [] (by rw [bw,tW];exact hk)
  have tn:=Nf (p:=pC) hk hnc
  have ta:=Nd (p:=pC) hk
  obtain ⟨cb,hcb⟩:∃cb,s.cons[k]=cb:=⟨_,rfl⟩
  rw [hcb] at mg ms mk tn ta
  cases hT:aw cb.table t.name with
  | false =>
   have hT':¬ cb.table.toList=t.name.toList:=by simpa [aw] using hT
   have mk:=mk (by unfold sk;rw [hT];rfl)
   have tn:=tn (by rw [hpC];simp only [hT,fN])
   refine ZW (Z3 @ml @mg @hT') Z0 ?_;repeat' (first|apply Zb|apply Zn|(apply Zk;intro K hK))
   refine ⟨⟨k+1,by omega,tn⟩,by simp only;omega,?_⟩
   exact ZN (Z1 @mk)
  | true =>
   have hT':cb.table.toList=t.name.toList:=by simpa [aw] using hT
   have cc:=UY cb
   have ov:=ID (yd cb) st.ae (by unfold yd;split<;>simp) (by omega)
   rcases Nc (yd cb) st.ae with e2|e2|e2
   ·have mk:=mk (by unfold sk;rw [hT,e2];rfl)
    have tn:=tn (by rw [hpC];simp only [hT,e2];rfl)
    rw [e2] at ov
    refine ZV (Z4 @ml @mg @hT' @aj.eq_1) (Z2 (cc) (ov)) (Z1 (Zd 26 [(0,1),(2,2)] [(1,[],[(2,2)]),(4,[],[])] [1,4] 8)) Z0 ?_;repeat' (first|apply Zb|apply Zn|(apply Zk;intro K hK))
    refine ⟨⟨k+1,by omega,tn⟩,by simp only;omega,?_⟩
    exact ZN (Z2 @mk @aj.eq_1)
   ·have ta:=ta (by rw [hpC];simp only [hT,e2];rfl)
    rw [if_pos ta] at spec
    subst spec
    rw [e2] at ov
    unfold dh di rE
    simp only
    refine ZV (Z4 @ml @mg @hT' @aj.eq_1) (Z2 (cc) (ov)) (Z1 (Zd 26 [(0,1),(2,2)] [(1,[],[(2,2)]),(4,[],[])] [1,4] 8)) Z0 ?_;repeat' (first|apply Zb|apply Zn|(apply Zk;intro K hK))
    refine Gq.done ?_
    exact ZQ (Z1 Tryz.results85)
   ·have tn:=tn (by rw [hpC];simp only [hT,e2];rfl)
    rw [e2] at ov
    have g1:=IC st t.pk.length cb.left (by omega) (by omega)
    have g2:=IC st t.pk.length cb.right (by omega) (by omega)
    unfold wF at g1 g2
    have er:sk t st cb={cb with table:=st.other,left:=uL t.pk.length st.ae cb.left,right:=if 0≤cb.right then uL t.pk.length st.ae cb.right else cb.right}:=by unfold sk;rw [hT,e2];rfl
    by_cases hr:0≤cb.right
    ·rw [if_pos hr] at er
     rw [er] at ms
     simp only [aK] at ms
     refine ZV (Z5 @ml @mg @gs @hT' @aj.eq_1) (Z2 (cc) (ov)) (Z2 (Zs 30) (Zd 26 [(0,1),(2,2)] [(1,[],[(2,2)]),(4,[],[])] [1,4] 8)) Z0 ?_;repeat' (first|apply Zb|apply Zn|(apply Zk;intro K hK))
     refine ab.keep [0,1,5,6,7,9,10,15,16,99,100,101] ?_
     refine ZS Z0 ?_
     refine ZV (Z6 @ml @mg @gs @hT' (@List.set_set.{0}) (@List.length_set.{0})) (Z2 (g1) (g2)) (Z2 (Zd 30 [(0,15)] [(15,[(16,2)],[(0,12)]),(18,[(19,2)],[(9,1)]),(21,[],[])] [15,18,21] 8) (Zd 32 [(0,8)] [(8,[(9,2)],[(0,5)]),(11,[],[])] [8,11] 8)) Z0 ?_;repeat' (first|apply Zb|apply Zn|(apply Zk;intro K hK))
     refine ⟨⟨k+1,by omega,tn⟩,by simp only;omega,?_⟩
     exact ZN (Z2 @ms @aj.eq_1)
    ·rw [if_neg hr] at er
     rw [er] at ms
     simp only [aK] at ms
     refine ZV (Z5 @ml @mg @gs @hT' @aj.eq_1) (Z2 (cc) (ov)) (Z2 (Zs 30) (Zd 26 [(0,1),(2,2)] [(1,[],[(2,2)]),(4,[],[])] [1,4] 8)) Z0 ?_;repeat' (first|apply Zb|apply Zn|(apply Zk;intro K hK))
     refine ab.keep [0,1,5,6,7,9,10,15,16,99,100,101] ?_
     refine ZS Z0 ?_
     refine ZV (Z6 @ml @mg @gs @hT' (@List.set_set.{0}) (@List.length_set.{0})) (Z1 (g1)) (Z1 (Zd 30 [(0,15)] [(15,[(16,2)],[(0,12)]),(18,[(19,2)],[(9,1)]),(21,[],[])] [15,18,21] 8)) Z0 ?_;repeat' (first|apply Zb|apply Zn|(apply Zk;intro K hK))
     refine ⟨⟨k+1,by omega,tn⟩,by simp only;omega,?_⟩
     exact ZN (Z2 @ms @aj.eq_1)
 have hk:k=s.cons.length:=by omega
 subst hk
 rw [dw] at hnc
 rw [if_neg (by rw [hnc];simp)] at spec
 rw [yu]
 refine ZV Z0 Z0 (Z1 (Zs 34)) Z0 ?_;repeat' (first|apply Zb|apply Zn|(apply Zk;intro K hK))
 have sq:=IK t.pk.length (by omega)
 refine ab.keep [0,1,5,6,7,9,10] ?_
 refine ZS Z0 ?_
 refine ab.we ⟨206,[(0,.v (.one (.ptr 1000 0))),(1,.v (oI i)),(5,.v (.one (.fz (aj st)))),(6,.v (oI 0)),(7,.v (.one (.ptr 7 0))),(9,.v (.one (.fz [.int .i64 (t.pk.length:Int)]))),(17,.v (.one (.ptr 17 0)))],[(17,[.str st.other,.nil 3,.sl 1 ((ew t.pk.length).map aX)]),(7,[.str t.name,.ref 2010 0 t.ae.length,.ref 2011 0 t.pk.length]),(1000,[.ref 1000 0 s.tables.length,.ref 1001 0 s.ak.length,.ref 1002 0 s.cons.length])],[(1000,⟨3,s.tables.map eh,[(i,2,.ref 2011 0 t.pk.length),(i,1,.ref 2010 0 t.ae.length)]⟩),(2011,⟨1,t.pk.map aX,[]⟩),(2010,⟨3,t.ae.map aT,[]⟩),(1001,⟨3,(s.ak.map (qy t st)).map pS,[]⟩),(1002,⟨7,(s.cons.map (sk t st)).map aK,[]⟩)]⟩ ?_ ?_
 ·refine dY ah mixed [(0,3)] (.cons 3 [(4,1)] [(0,2)] (.cons 5 [] [(0,2),(4,1)] (.cons 6 [] [] .leaf .none) .none) (.cons 5 [] [(0,3)] (.cons 3 [(4,1)] [(0,2)] (.cons 6 [] [] .leaf .none) .none) .none)) [3,5,6] 8 fun K hK=>?_
  simp only [vT,vU,vV,bb,eo,dA,dV,c9,c8,dr,aW,aZ,bM] at hK ⊢
  refine ZU (Z1 @aj.eq_1) ?_
  refine ZV (Z1 @aj.eq_1) (Z1 (sq)) Z0 Z0 ?_;repeat' (first|apply Zb|apply Zn|(apply Zk;intro K hK))
  all_goals refine Gq.done ⟨rfl,?_⟩
  all_goals refine St.bN ?_ ?_ ?_<;>simp only [LE,EN,Nat.reduceEqDiff,reduceIte,Nat.reduceSub,aj,aJ,aI]
 refine ab.keep [0,1,5,6,7,9,17] ?_
 refine ZS Z0 ?_
 refine ZV (Z4 @aj.eq_1 @bh @bt @bu) Z0 (Z1 (Zd 35 [(0,2),(3,2),(7,1)] [(2,[],[(3,2),(7,1)]),(5,[(6,1)],[(7,1)])] [2,5] 8)) (Z1 (Zi [] [(1000,2011)] [] [(1000,2011),(2,162)] [] [162] [] [2011,2011,162] (UP t.pk (by omega)))) ?_;repeat' (first|apply Zb|apply Zn|(apply Zk;intro K hK))
 refine ab.BB 17 1 179 rfl rfl (.inl (by show 179<206;decide)) ?_
 refine ZU (Z3 @DL (@List.set_cons_zero.{0}) (@List.set_cons_succ.{0})) ?_
 obtain ⟨pc,hpc⟩:∃pc,t.pk++st.ae=pc:=⟨_,rfl⟩
 have epc:t.pk.map aX++st.ae.map aX=pc.map aX:=by rw [←hpc,dn]
 have lpc:t.pk.length+st.ae.length=pc.length:=by rw [←hpc,bA]
 have hpcb:∀c∈pc,0≤c∧c<(t.ae.length:Int):=by
  intro c hc
  rw [←hpc] at hc
  rcases List.mem_append.1 hc with h1|h1
  ·exact hpk c h1
  ·exact c2 c h1
 rw [epc,lpc]
 refine ab.loop (ι:={k:Nat // k≤pc.length}) (fun k=>⟨206,[(0,.v (.one (.ptr 1000 0))),(1,.v (oI i)),(5,.v (.one (.fz (aj st)))),(6,.v (oI 0)),(7,.v (.one (.ptr 7 0))),(9,.v (.one (.fz [.int .i64 (t.pk.length:Int)]))),(17,.v (.one (.ptr 17 0))),(165,.v (.one (.ref 165 0 pc.length))),(166,.v (oI pc.length)),(167,.v (oI k.1))],[(17,[.str st.other,.ref 179 0 k.1,.sl 1 ((ew t.pk.length).map aX)]),(7,[.str t.name,.ref 2010 0 t.ae.length,.ref 2011 0 t.pk.length]),(1000,[.ref 1000 0 s.tables.length,.ref 1001 0 s.ak.length,.ref 1002 0 s.cons.length])],[(179,⟨3,(pc.take k.1).map (fun c=>aT (t.ae.getD c.toNat dF)),[]⟩),(165,⟨1,pc.map aX,[]⟩),(1000,⟨3,s.tables.map eh,[(i,2,.ref 2011 0 t.pk.length),(i,1,.ref 2010 0 t.ae.length)]⟩),(2011,⟨1,t.pk.map aX,[]⟩),(2010,⟨3,t.ae.map aT,[]⟩),(1001,⟨3,(s.ak.map (qy t st)).map pS,[]⟩),(1002,⟨7,(s.cons.map (sk t st)).map aK,[]⟩)]⟩) (fun k=>pc.length - k.1) ⟨0,bg _⟩ ?_ fun ⟨k,hkl⟩=>?_
 ·exact ZN (Z1 @aj.eq_1)
 simp only at hkl ⊢
 rcases cV k pc.length with hc|hc
 ·have hb:=hpcb pc[k] (bl hc)
  have hlen:(pc.take k).length=k:=by simp;omega
  obtain ⟨q,hq⟩:∃q:Nat,pc[k]=(q:Int):=⟨pc[k].toNat,by omega⟩
  have hq2:q<t.ae.length:=by omega
  have gp:(pc.map aX).getD k []=[.int .i64 (q:Int)]:=by rw [bJ _ _ _ hc,hq];rfl
  have gq:(t.ae.map aT).getD q []=aT (t.ae.getD q dF):=by rw [bJ _ _ _ hq2,bE _ hq2]
  have es:(pc.take (k+1)).map (fun c=>aT (t.ae.getD c.toNat dF))=(pc.take k).map (fun c=>aT (t.ae.getD c.toNat dF))++[aT (t.ae.getD q dF)]:=by
   rw [GA hc,dn,aJ,aI,hq,bG]
  simp only [aT] at es gq
  refine ZV (Z3 @gp @gq @hlen) Z0 (Z1 (Zd 38 [(0,7)] [(7,[],[(0,2)]),(8,[(9,1)],[]),(10,[],[])] [7,8,10] 8)) Z0 ?_;repeat' (first|apply Zb|apply Zn|(apply Zk;intro K hK))
  refine ⟨⟨k+1,by omega⟩,by simp only;omega,?_⟩
  exact ZL (Z2 @es @aj.eq_1)
 have hk:k=pc.length:=by omega
 subst hk
 rw [dw]
 obtain ⟨oc,hoc⟩:∃oc,pc.map (fun c=>t.ae.getD c.toNat dF)=oc:=⟨_,rfl⟩
 have eoc:pc.map (fun c=>aT (t.ae.getD c.toNat dF))=oc.map aT:=by rw [←hoc,wP];rfl
 have loc:oc.length=pc.length:=by rw [←hoc,bw]
 have lpc2:pc.length≤12:=by omega
 rw [hpc,hoc] at spec
 rw [eoc,←loc,e0]
 refine ZV Z0 Z0 (Z1 (Zs 40)) Z0 ?_;repeat' (first|apply Zb|apply Zn|(apply Zk;intro K hK))
 refine ab.keep [0,1,5,6,7,9,17] ?_
 refine ZS Z0 ?_
 refine ab.close 1000 i 1 2010 rfl rfl (by decide) (by simp [aP]) (by rw [xe];exact hi) (by show 1<3;decide) rfl ?_
 refine ZU (Z3 @rG @rv @ru) ?_
 rw [DT _ hi]
 refine ab.close 1000 i 2 2011 rfl rfl (by decide) (by simp [aP]) (by rw [xe];exact hi) (by show 2<3;decide) rfl ?_
 refine ZU (Z3 @rG @rv @ru) ?_
 rw [Cy _ hi,show (⟨t.name,t.ae,t.pk⟩:au)=t from rfl,←e0]
 have rc:=UT s i t st hi ht sm c1
 obtain ⟨u,hu⟩:∃u,rL ⟨s.tables,s.ak.map (qy t st),s.cons.map (sk t st)⟩ i st.ae=u:=⟨_,rfl⟩
 have lu:=US s i t st u hu
 rw [hu] at rc spec
 unfold iB iR at rc
 simp only [bw] at rc
 obtain ⟨u1,u2,u3⟩:=lu
 have it:=FW u.tables (u.ak.map aL) (u.cons.map aK) u.ak.length u.cons.length ⟨st.other,oc,ew t.pk.length⟩ (by omega)
 simp only [ap,cS,bj] at it
 refine ZV (Z5 @dz @aj.eq_1 @bh @bt @bu) Z0 (Z1 (Zs 41)) (Z1 (Zi [(1000,1000)] [(1000,1000),(1001,1001),(1002,1002)] [(1000,1000)] [(1000,1000),(1001,1001),(1002,1002)] [] [] [1000,1000] [1000,1001,1002,1000,1001,1002] (rc))) ?_;repeat' (first|apply Zb|apply Zn|(apply Zk;intro K hK))
 refine ab.eM 1000 rfl ?_
 refine ZU (Z3 @fG @eW @fH) ?_
 refine ab.eM 1001 rfl ?_
 refine ZU (Z3 @fG @eW @fH) ?_
 repeat' (first|((first|((fail_if_success (refine ab.bC 42 ?_));(with_reducible refine qV ah fun K hK=>?_))|((with_reducible refine ai.is ?_);(refine ai.Mv [1000,7] [1000,1001,1002] ?_);(simp -dsimp (disch:=first|exact D|fail) only [go_sem,↓reduceIte,seval,dz,av,Ev,bh,bt,bu,RT,St.rest,St.freeze]);refine ai.io [(1000,1000)] [(1000,1000),(1001,1001),(1002,1002)] [(1000,1000)] [(11,11),(1001,1001),(1002,1002)] [] [1000,11] [1000,1000] [1000,1001,1002,11,1001,1002] (it) rfl ⟨rfl,rfl,rfl,rfl⟩ ?_ ?_ ?_))<;>simp -dsimp (disch:=first|exact D|fail) only [go_sem,↓reduceIte,seval,dz,av,Ev,bh,bt,bu])|((with_reducible refine hK _ ?_);clear hK K)|refine Q1 ?_|fail)
 have pl:=(DW qp 0 (u.tables.length+1) (u.tables++[⟨st.other,oc,ew t.pk.length⟩])).length_eq
 rw [bA,z7] at pl
 subst spec
 unfold dh di qw qx tq rE
 simp only [pl,bA,bP,bI,cN]
 obtain ⟨NT,hNT⟩:∃NT,vA qp 0 (u.tables.length+1) (u.tables++[⟨st.other,oc,ew t.pk.length⟩])=NT:=⟨_,rfl⟩
 rw [hNT]
 refine ZV (Z1 @aj.eq_1) (Z1 (sq)) (Z1 (Zd 42 [(0,8),(9,2)] [(8,[(11,1)],[(0,7),(9,2)]),(12,[],[(0,5)]),(13,[(14,2)],[(0,1)]),(16,[],[])] [8,12,13,16] 8)) Z0 ?_;repeat' (first|apply Zb|apply Zn|(apply Zk;intro K hK))
 refine Gq.iN 11 1 rfl rfl (by decide) (.inl (gQ rfl)) ?_
 refine ZT Z0 ?_
 refine Gq.iN 203 2 rfl rfl (by decide) (.inl (gQ rfl)) ?_
 refine ZT Z0 ?_
 refine Gq.iN 1002 3 rfl rfl (by decide) (.inl (gQ rfl)) ?_
 refine ZT Z0 ?_
 refine Gq.done ?_
 refine ZR (Z1 Tryz.results85) ?_
 exact congrArg (fun x:List (List L)=>(⟨3,x,[]⟩:aN)) (by rw [dn];rfl)
end Go.Bw
