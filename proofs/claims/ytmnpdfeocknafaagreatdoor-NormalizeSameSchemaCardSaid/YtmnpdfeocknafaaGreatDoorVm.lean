/- Proved: contracts of functions of this translation, for every state, and what they rest on; bounds stand ahead. -/
import Derived.Test.YtmnpdfeocknafaaGreatDoorVg
import Derived.Test.YtmnpdfeocknafaaGreatDoorVh
set_option maxHeartbeats 64000000
set_option linter.unusedSimpArgs false
set_option linter.unusedVariables false
namespace Go.Bw
open Go.Proofs
theorem J0 (a b:List gK) (h1:a.length≤140737488355328) (h2:b.length≤140737488355328):Sat Tryz.prog 97 [.one (cS a),.one (cS b)] (.v (oB (decide (a=b)))):=by
 refine ZE Tryz.func97 Tryz.ntmps97 fun w0 m0 F0=>?_
 refine pK Z0 Z0 ?_;repeat' (first|apply Zb|apply Zn|(apply Zm;intro h))
 rotate_left
 ·refine ZR (Z1 Tryz.results97) ?_
  have hn:¬ a=b:=fun e=>by rw [e] at h;exact h rfl
  simp [hn]
 have hl:a.length=b.length:=by omega
 refine ab.loop (ι:={k:Nat // k≤a.length∧a.take k=b.take k}) (fun k=>⟨26,[(0,.v (.one (cS a))),(1,.v (.one (cS b))),(12,.v (oI a.length)),(13,.v (oI k.1))],[],[]⟩) (fun k=>a.length - k.1) ⟨0,bg _,rfl⟩ ?_ fun ⟨k,hkl,hi⟩=>?_
 ·exact ZL Z0
 rcases cV k a.length with hc|hc
 ·have hb:k<b.length:=by omega
  refine rj Z0 Z0 ?_;repeat' (first|apply Zb|apply Zn|(apply Zm;intro h))
  ·refine ⟨⟨k+1,by omega,Cx hc hb hi (N4.2 h)⟩,by simp only;omega,?_⟩
   exact ZL Z0
  ·refine ZR (Z1 Tryz.results97) ?_
   have hn:¬ a=b:=fun e=>by
    obtain ⟨e1,e2,e3⟩:=N4.1 (get_of_eq hc hb e)
    simp_all
   simp [hn]
 ·have hk:a=b:=by
   rw [du (by omega),du (by omega)] at hi
   exact hi
  refine ZW Z0 Z0 ?_
  refine ZR (Z1 Tryz.results97) ?_
  simp [hk]
theorem Wr (l:List dN) (f:Nat) (cs:List L) (p:dN→Bool) (hlen:l.length≤140737488355328) (hp:∀t∈l,Sat Tryz.prog f (.agg (aK t)::cs.map .one) (.v (oB (p t)))) :
  Sat Tryz.prog 196 [.one (dy l),.one (.bD f cs)] (.v (oB (l.any p))):=by
 rw [←Jf p l 0]
 refine ZE Tryz.func196 Tryz.ntmps196 fun w0 m0 F0=>?_
 repeat' (first|((first|with_reducible refine qV ah fun K hK=>?_|((with_reducible refine ai.is ?_);(refine ai.pure (Kq l _ _ _ hlen hp) ?_)))<;>simp -dsimp (disch:=first|exact D|fail) only [go_sem,↓reduceIte,seval])|((with_reducible refine hK _ ?_);clear hK K)|refine Q1 ?_|fail)
 exact ZQ (Z1 Tryz.results196)
theorem Ah (X:List (List L)) (s:aq) (t:au) (c:Int) (h1:t.pk.length≤140737488355328) (h2:s.ak.length≤140737488355328) (h3:∀f∈s.ak,f.ae.length≤140737488355328) (h4:s.cons.length≤140737488355328) :
  Sat Tryz.prog 148 [.agg [.sl 3 X,dI s.ak,dy s.cons],.agg (ap t),oI c] (.v (oI (s6 s t c))):=by
 have c1:=D5 t.pk c h1
 have c2:=DY s.ak 195 [.fz (ap t),.fz [.int .i64 c]] _ h2 fun f hf=>Ws f t c (h3 f hf)
 have c3:=Wr s.cons 197 [.fz (ap t),.fz [.int .i64 c]] _ h4 fun k hk=>Wt k t c
 unfold s6
 generalize t.pk.elem c=x at c1 ⊢
 generalize (s.ak.any fun f=>aw f.table t.name&&f.ae.elem c)=y at c2 ⊢
 generalize (s.cons.any fun k=>aw k.table t.name&&(k.left==c||k.right==c))=z at c3 ⊢
 refine ZE Tryz.func148 Tryz.ntmps148 fun w0 m0 F0=>?_
 refine pK Z0 (Z3 (c1) (c2) (c3)) ?_;repeat' (first|apply Zb|apply Zn|(apply Zm;intro h))
 all_goals simp -dsimp (disch:=first|exact D|fail) only [aR,Tryz.results148,aQ,aS,aO,St.rest,St.freeze,RT,go_sem,↓reduceIte,seval]
 all_goals simp_all
theorem WG (l:List FK) (f:FuncId) (q:L) (p:FK→Bool) (hp:∀x∈l,Sat Tryz.prog f [.agg (aL x),.one (.fz [q])] (.v (oB (p x)))) (hl:l.length≤1048576) :
  db Tryz.prog 191 [.one (.ref 1000 0 l.length),.one (.bD f [.fz [q]])] [] [(1000,⟨3,l.map aL,[]⟩)] (.v (.one (.ref 4 0 (l.filter fun x=>!p x).length))) [] [(4,⟨3,(l.filter fun x=>!p x).map aL++List.replicate (l.length - (l.filter fun x=>!p x).length) WE,[]⟩)]:=by
 have ci:=CV l f [.fz [q]] p (by omega) hp
 rcases qn p l 0 with ⟨e1,e2⟩|⟨j0,hj0,e1,e2,e3⟩
 ·rw [e1] at ci
  have ef:(l.filter fun x=>!p x)=l:=List.filter_eq_self.2 fun x hx=>by simp [e2 x hx]
  rw [ef,xB,AM,bM]
  refine ZM [] [4] Tryz.func191 Tryz.ntmps191 fun w0 m0 F0=>?_
  refine ZW Z0 (Z1 (ci)) ?_
  all_goals simp -dsimp (disch:=first|exact D|fail) only [aR,Tryz.results191,aQ,aS,aO,St.rest,St.freeze,RT,go_sem,↓reduceIte,seval]
 have e1:idx p l 0=(j0:Int):=by simpa using e1
 rw [e1] at ci
 have k0:=Jn p l hj0 e2 e3
 have l0:((l.take (j0+1)).filter fun x=>!p x).length=j0:=by rw [k0];simp;omega
 have r0:sF aL p l (j0+1)=l.map aL:=by
  unfold sF
  rw [k0,rV,HL (by omega),yK]
 have hne:¬ (j0:Int)=-1:=by omega
 refine ZM [] [4] Tryz.func191 Tryz.ntmps191 fun w0 m0 F0=>?_
 refine ZW (Z1 @hne) (Z1 (ci)) ?_
 refine ab.loop (ι:={j:Nat // j0+1≤j∧j≤l.length}) (fun j=>⟨42,[(0,.v (.one (.ref 1000 0 l.length))),(1,.v (.one (.bD f [.fz [q]]))),(5,.v (oI ((l.take j.1).filter fun x=>!p x).length)),(6,.v (oI j.1))],[],[(1000,⟨3,sF aL p l j.1,[]⟩)]⟩) (fun j=>l.length - j.1) ⟨j0+1,br _,hj0⟩ ?_ fun ⟨j,hj1,hj2⟩=>?_
 ·exact ZL (Z4 @r0 @l0 @iy @pO)
 simp only at hj1 hj2 ⊢
 have kl:=BL p l j hj2
 have kn:=Ge aL p l j hj2
 rcases cV j l.length with hc|hc
 ·have kg:=Jh aL p l j hc
  have cc:=hp l[j] (bl hc)
  cases hx:p l[j] with
  | true =>
   rw [hx] at cc
   have q1:=Ji aL p l j hc hx
   have q2:=Jl p l j hc hx
   refine ZW (Z2 @kn @kg) (Z1 (cc)) ?_
   refine ⟨⟨j+1,by omega,by omega⟩,by simp only;omega,?_⟩
   exact ZL (Z4 @q1 @q2 @iy @pO)
  | false =>
   rw [hx] at cc
   have q1:=Jj aL p l j hc hx
   have q2:=Jk p l j hc hx
   have q3:=Jm aL 3 (fun _=>rfl) p l j hc l[j]
   simp only [aL,cS,bj] at q1 q3
   refine ZW (Z3 @kn @kg @q3) (Z1 (cc)) ?_
   refine ⟨⟨j+1,by omega,by omega⟩,by simp only;omega,?_⟩
   exact ZL (Z4 @q1 @q2 @iy @pO)
 ·have hj:j=l.length:=by omega
  subst hj
  have kf:sF aL p l l.length=(l.filter fun x=>!p x).map aL++(l.drop (l.filter fun x=>!p x).length).map aL:=by
   unfold sF
   rw [dw,dn]
  rw [dw] at kl ⊢
  have t1:List.take (l.filter fun x=>!p x).length ((l.filter fun x=>!p x).map aL++(l.drop (l.filter fun x=>!p x).length).map aL)=(l.filter fun x=>!p x).map aL:=ve (by simp)
  have t2:List.drop ((l.filter fun x=>!p x).length+(l.length - (l.filter fun x=>!p x).length)) ((l.filter fun x=>!p x).map aL++(l.drop (l.filter fun x=>!p x).length).map aL)=[]:=xy (by simp)
  refine ZW (Z1 @kn) Z0 ?_
  all_goals simp -dsimp (disch:=first|exact D|fail) only [aR,Tryz.results191,aQ,aS,aO,St.rest,St.freeze,RT,go_sem,↓reduceIte,seval]
  rw [kf]
  simp only [wc,t1,t2,bM]
  exact ⟨trivial,rfl⟩
theorem M8 (s:aq) (name:ByteArray) (h1:s.tables.length≤1048576) (h2:s.ak.length≤1048576) (h3:s.cons.length≤1048576) :
  db Tryz.prog 146 [.one (.ptr 1000 0),oS name] (iB s) (fR s) (.cR []) (qw (xV s name)) (qx (xV s name)):=by
 have d1:=WD s.tables 190 (.str name) _ (fun t _=>WJ t name) h1
 have d2:=WG s.ak 192 (.str name) _ (fun t _=>WK t name) h2
 have d3:=WI s.cons 194 (.str name) _ (fun t _=>WL t name) h3
 unfold iB fR qw qx xV
 simp only
 generalize hA:(s.tables.filter fun t=>!aw t.name name)=A at d1 ⊢
 generalize hB:(s.ak.filter fun t=>!aw t.table name)=B at d2 ⊢
 generalize hC:(s.cons.filter fun t=>!aw t.table name)=C at d3 ⊢
 refine ZM [1000] [1,2,3] Tryz.func146 Tryz.ntmps146 fun w0 m0 F0=>?_
 refine ab.gq ?_
 refine ZV Z0 Z0 (Z1 (Zs 1)) Z0 ?_
 refine ab.rN [1000] [1000,1001,1002] ?_
 refine ZS Z0 ?_
 refine ZV (Z3 @bh @bt @bu) Z0 Z0 (Z3 (Zi [] [(1000,1000)] [] [(4,10)] [] [1000,10] [] [1000,10] (d1)) (Zi [] [(1000,1001)] [] [(4,19)] [] [1001,19] [] [1001,19] (d2)) (Zi [] [(1000,1002)] [] [(4,28)] [] [1002,28] [] [1002,28] (d3))) ?_
 refine Gq.wW 10 (A.length) rfl rfl (by simp) ?_
 refine ZU Z0 ?_
 refine Gq.wW 19 (B.length) rfl rfl (by simp) ?_
 refine ZU Z0 ?_
 refine Gq.wW 28 (C.length) rfl rfl (by simp) ?_
 refine ZU Z0 ?_
 refine Gq.iN 10 1 rfl rfl (by decide) (.inl (gQ rfl)) ?_
 refine ZT Z0 ?_
 refine Gq.iN 19 2 rfl rfl (by decide) (.inl (gQ rfl)) ?_
 refine ZT Z0 ?_
 refine Gq.iN 28 3 rfl rfl (by decide) (.inl (gQ rfl)) ?_
 refine ZT Z0 ?_
 refine Gq.done ?_
 refine ZR (Z1 Tryz.results146) ?_
 rw [ve (by simp),ve (by simp),ve (by simp)]
 exact ⟨rfl,rfl,rfl⟩
theorem Vk (s:aq) (t:au) (h1:s.tables.length≤6) (h2:s.ak.length≤1048576) (h3:s.cons.length≤1048576) :
  db Tryz.prog 83 [.one (.ptr 1000 0),.agg (ap t)] (iB s) (iR s) (.v (oI (rE (wI s t)))) (dh (wI s t)) (di (wI s t)):=by
 have fs:=qP s t.name (by omega)
 rcases qn (fun u=>aw u.name t.name) s.tables 0 with ⟨e1,_⟩|⟨j,hj,e1,_,_⟩
 ·have e1:aY s.tables t.name=-1:=e1
  rw [e1,ux] at fs
  have spec:wI s t=.ok (tq s t):=by unfold wI;rw [if_neg (by omega)]
  rw [spec]
  have it:=FW s.tables (s.ak.map aL) (s.cons.map aK) s.ak.length s.cons.length t (by omega)
  unfold iB iR dh di qw qx tq rE
  simp only
  rw [(DW qp 0 (s.tables.length+1) (s.tables++[t])).length_eq,bA,z7]
  refine ZM [1000] [1,2,3] Tryz.func83 Tryz.ntmps83 fun w0 m0 F0=>?_
  refine ab.gq ?_
  refine ab.eM 1000 rfl ?_
  refine ZU (Z3 @fG @eW @fH) ?_
  refine ab.eM 1001 rfl ?_
  refine ZU (Z3 @fG @eW @fH) ?_
  refine ZV (Z4 @dz @bh @bt @bu) (Z1 (fs)) (Z1 (Zd 1 [(0,5)] [(5,[(6,5)],[])] [5] 8)) (Z1 (Zi [(1000,1000)] [(1000,1000),(1001,1001),(1002,1002)] [(1000,1000)] [(11,11),(1001,1001),(1002,1002)] [] [1000,11] [1000,1000] [1000,1001,1002,11,1001,1002] (it))) ?_
  refine Gq.iN 11 1 rfl rfl (by decide) (.inl (gQ rfl)) ?_
  refine ZT Z0 ?_
  refine Gq.iN 1001 2 rfl rfl (by decide) (.inl (gQ rfl)) ?_
  refine ZT Z0 ?_
  refine Gq.iN 1002 3 rfl rfl (by decide) (.inl (gQ rfl)) ?_
  refine ZT Z0 ?_
  refine Gq.done ?_
  exact ZQ (Z1 Tryz.results83)
 ·have e1:aY s.tables t.name=(j:Int):=by unfold aY;simpa using e1
  rw [e1,rZ] at fs
  have spec:wI s t=.error 5:=by unfold wI;rw [if_pos (by omega)]
  rw [spec]
  unfold iB iR dh di rE
  simp only
  refine ZM [1000] [1,2,3] Tryz.func83 Tryz.ntmps83 fun w0 m0 F0=>?_
  refine ab.eM 1000 rfl ?_
  refine ZU (Z3 @fG @eW @fH) ?_
  refine ab.eM 1001 rfl ?_
  refine ZU (Z3 @fG @eW @fH) ?_
  refine ZV Z0 (Z1 (fs)) (Z1 (Zd 1 [(0,5)] [(5,[(6,5)],[])] [5] 8)) Z0 ?_
  exact ZQ (Z1 Tryz.results83)
theorem Vo (s:aq) (name:ByteArray) (h1:s.tables.length≤1048576) (h2:s.ak.length≤1048576) (h3:s.cons.length≤1048576) :
  db Tryz.prog 89 [.one (.ptr 1000 0),oS name] (iB s) (iR s) (.v (oI (rE (vZ s name)))) (dh (vZ s name)) (di (vZ s name)):=by
 have cf:=DY s.ak 147 [.fz [.str name]] _ (by omega) fun t _=>WM t name
 have rm:=M8 s name h1 h2 h3
 unfold vZ
 cases hx:(s.ak.any fun f=>aw f.ref name&&!aw f.table name) with
 | true =>
  rw [hx] at cf
  rw [if_pos rfl]
  unfold iB iR dh di rE
  simp only
  refine ZM [1000] [1,2,3] Tryz.func89 Tryz.ntmps89 fun w0 m0 F0=>?_
  refine ab.eM 1000 rfl ?_
  refine ZU (Z3 @fG @eW @fH) ?_
  refine ab.eM 1001 rfl ?_
  refine ZU (Z3 @fG @eW @fH) ?_
  refine ZW Z0 (Z1 (cf)) ?_
  exact ZQ (Z1 Tryz.results89)
 | false =>
  rw [hx] at cf
  rw [if_neg (by simp)]
  unfold iB fR qw qx at rm
  unfold iB iR dh di qw qx rE
  simp only
  refine ZM [1000] [1,2,3] Tryz.func89 Tryz.ntmps89 fun w0 m0 F0=>?_
  refine ab.eM 1000 rfl ?_
  refine ZU (Z3 @fG @eW @fH) ?_
  refine ab.eM 1001 rfl ?_
  refine ZU (Z3 @fG @eW @fH) ?_
  refine ZV (Z4 @dz @bh @bt @bu) (Z1 (cf)) Z0 (Z1 (Zi [(1000,1000)] [(1000,1000),(1001,1001),(1002,1002)] [(1000,1000)] [(1,1),(2,2),(3,3)] [] [1000,1001,1002,1,2,3] [1000,1000] [1000,1001,1002,1,2,3] (rm))) ?_
  exact ZQ (Z1 Tryz.results89)
theorem Vj (s:aq) (c:dN) (h1:s.tables.length≤1048576) (h2:s.ak.length≤1048576) (h3:s.cons.length≤1048576) :
  db Tryz.prog 81 [.one (.ptr 1000 0),.agg (aK c)] (iB s) (iR s) (.v (oI (rE (wH s c)))) (dh (wH s c)) (di (wH s c)):=by
 have ic:=J2 s.cons c (by omega)
 rcases qn (vg c) s.cons 0 with ⟨e1,_⟩|⟨j,hj,e1,_,_⟩
 ·rw [e1] at ic
  have spec:wH s c=.error 4:=by unfold wH;rw [e1];rfl
  rw [spec]
  unfold iB iR dh di rE
  simp only
  refine ZM [1000] [1,2,3] Tryz.func81 Tryz.ntmps81 fun w0 m0 F0=>?_
  refine ZV Z0 (Z1 (ic)) (Z1 (Zd 1 [(0,5)] [(5,[(6,1)],[])] [5] 8)) Z0 ?_
  exact ZQ (Z1 Tryz.results81)
 ·have e1:idx (vg c) s.cons 0=(j:Int):=by simpa using e1
  rw [e1] at ic
  have spec:wH s c=.ok {s with cons:=s.cons.take j++s.cons.drop (j+1)}:=by
   unfold wH
   rw [e1]
   simp only [bG]
   rw [if_neg (by omega)]
  rw [spec]
  have dl:=V8 (s.cons.map aK) j (by simpa using hj) (by simp;omega) (by rw [iw];trivial)
  rw [bw] at dl
  have cl:=Cz s.cons j hj
  have cm:=CA aK s.cons j hj [.str ByteArray.empty,.int .i64 0,.str ByteArray.empty,.int .i64 0,.int .i64 0,.int .i64 0,.str ByteArray.empty]
  unfold iB iR dh di qw qx rE
  simp only [cl]
  refine ZM [1000] [1,2,3] Tryz.func81 Tryz.ntmps81 fun w0 m0 F0=>?_
  refine ab.gq ?_
  refine ab.eM 1000 rfl ?_
  refine ZU (Z3 @fG @eW @fH) ?_
  refine ab.eM 1001 rfl ?_
  refine ZU (Z3 @fG @eW @fH) ?_
  refine ZV (Z3 @bh @bt @bu) (Z1 (ic)) (Z1 (Zd 1 [(0,5)] [(5,[(6,1)],[])] [5] 8)) (Z1 (Zi [] [(1000,1002)] [] [(6,22)] [] [1002,22] [] [1002,22] (dl))) ?_
  refine Gq.wW 22 (s.cons.length - 1) rfl rfl (by simp;omega) ?_
  refine ZU Z0 ?_
  refine Gq.iN 1000 1 rfl rfl (by decide) (.inl (gQ rfl)) ?_
  refine ZT Z0 ?_
  refine Gq.iN 1001 2 rfl rfl (by decide) (.inl (gQ rfl)) ?_
  refine ZT Z0 ?_
  refine Gq.iN 22 3 rfl rfl (by decide) (.inl (gQ rfl)) ?_
  refine ZT Z0 ?_
  refine Gq.done ?_
  refine ZR (Z1 Tryz.results81) ?_
  exact congrArg (fun x:List (List L)=>(⟨7,x,[]⟩:aN)) cm
theorem IE (a f:FK) (ha:a.ae.length≤140737488355328):Sat Tryz.prog 130 [.agg (aL a),.one (.fz (aL f))] (.v (oB (sK a f))):=by
 refine ZE Tryz.func130 Tryz.ntmps130 fun w0 m0 F0=>?_
 refine ZW Z0 (Z1 (FU a f ha)) ?_
 exact ZQ (Z1 Tryz.results130)
theorem UQ (s:aq) (f:FK) (h1:s.tables.length≤1048576) (h2:s.ak.length≤1048576) (h3:s.cons.length≤1048576) (h4:∀f∈s.ak,f.ae.length≤1048576) :
  db Tryz.prog 82 [.one (.ptr 1000 0),.agg (aL f)] (iB s) (iR s) (.v (oI (rE (se s f)))) (dh (se s f)) (di (se s f)):=by
 have ic:=CV s.ak 130 [.fz (aL f)] (fun o=>sK o f) (by omega) fun o ho=>IE o f (by have:=h4 o ho;omega)
 rcases qn (fun o=>sK o f) s.ak 0 with ⟨e1,_⟩|⟨j,hj,e1,_,_⟩
 ·rw [e1] at ic
  have spec:se s f=.error 4:=by unfold se;simp only [e1];rfl
  rw [spec]
  unfold iB iR dh di rE
  simp only
  refine ZM [1000] [1,2,3] Tryz.func82 Tryz.ntmps82 fun w0 m0 F0=>?_
  refine ab.eM 1001 rfl ?_
  refine ZU (Z3 @fG @eW @fH) ?_
  refine ZW Z0 (Z1 (ic)) ?_
  exact ZQ (Z1 Tryz.results82)
 ·have e1:idx (fun o=>sK o f) s.ak 0=(j:Int):=by simpa using e1
  rw [e1] at ic
  have spec:se s f=.ok {s with ak:=s.ak.take j++s.ak.drop (j+1)}:=by
   unfold se
   simp only [e1,bG]
   rw [if_neg (by omega)]
  rw [spec]
  have dl:=Na (s.ak.map aL) j (by simpa using hj) (by simp;omega) (by rw [gW];trivial)
  rw [bw] at dl
  have cl:=Cz s.ak j hj
  have cm:=CA aL s.ak j hj [.str ByteArray.empty,.sl 1 [],.str ByteArray.empty]
  unfold iB iR dh di qw qx rE
  simp only [cl]
  refine ZM [1000] [1,2,3] Tryz.func82 Tryz.ntmps82 fun w0 m0 F0=>?_
  refine ab.gq ?_
  refine ab.eM 1000 rfl ?_
  refine ZU (Z3 @fG @eW @fH) ?_
  refine ab.eM 1001 rfl ?_
  refine ZU (Z3 @fG @eW @fH) ?_
  refine ZV (Z3 @bh @bt @bu) (Z1 (ic)) Z0 (Z1 (Zi [] [(1000,1001)] [] [(6,22)] [] [1001,22] [] [1001,22] (dl))) ?_
  refine Gq.wW 22 (s.ak.length - 1) rfl rfl (by simp;omega) ?_
  refine ZU Z0 ?_
  refine Gq.iN 1000 1 rfl rfl (by decide) (.inl (gQ rfl)) ?_
  refine ZT Z0 ?_
  refine Gq.iN 22 2 rfl rfl (by decide) (.inl (gQ rfl)) ?_
  refine ZT Z0 ?_
  refine Gq.iN 1002 3 rfl rfl (by decide) (.inl (gQ rfl)) ?_
  refine ZT Z0 ?_
  refine Gq.done ?_
  refine ZR (Z1 Tryz.results82) ?_
  exact congrArg (fun x:List (List L)=>(⟨3,x,[]⟩:aN)) cm
theorem U1 (s:aq) (f:FK) (j:Nat) (T:List (List L)) (nt:Nat) (hj:j<s.ak.length) (e1:idx (fun o=>sK o f) s.ak 0=(j:Int)) (h2:s.ak.length≤1048576) (h4:∀f∈s.ak,f.ae.length≤1048576) :
  db Tryz.prog 82 [.one (.ptr 1000 0),.agg (aL f)] [(1000,[.ref 1000 0 nt,.ref 1001 0 s.ak.length,.ref 1002 0 s.cons.length])] [(1000,⟨3,T,[]⟩),(1001,⟨3,s.ak.map pS,[]⟩),(1002,⟨7,s.cons.map aK,[]⟩)] (.v (oI 0))
   [(1000,[.ref 1000 0 nt,.ref 22 0 (s.ak.length - 1),.ref 1002 0 s.cons.length])] [(1000,⟨3,T,[]⟩),(22,⟨3,(s.ak.take j++s.ak.drop (j+1)).map pS,[]⟩),(1002,⟨7,s.cons.map aK,[]⟩)]:=by
 have ic:=CV s.ak 130 [.fz (aL f)] (fun o=>sK o f) (by omega) fun o ho=>IE o f (by have:=h4 o ho;omega)
 rw [e1] at ic
 have dl:=U0 (s.ak.map pS) j (by simpa using hj) (by simp;omega)
 rw [bw] at dl
 have cm:=CA pS s.ak j hj [.str ByteArray.empty,.sl 1 [],.str ByteArray.empty]
 refine ZM [1000] [1000,22,1002] Tryz.func82 Tryz.ntmps82 fun w0 m0 F0=>?_
 refine ab.gq ?_
 refine ZV (Z5 @pW @EW @bh @bt @bu) (Z1 (ic)) Z0 (Z1 (Zi [] [(1000,1001)] [] [(6,22)] [] [1001,22] [] [1001,22] (dl))) ?_
 refine Gq.wW 22 (s.ak.length - 1) rfl rfl (by simp;omega) ?_
 refine ZU Z0 ?_
 refine Gq.done ?_
 refine ZR (Z1 Tryz.results82) ?_
 exact congrArg (fun x:List (List L)=>(⟨3,x,[]⟩:aN)) cm
theorem U2 (s:aq) (f:FK) (h1:s.tables.length≤1048576) (h2:s.ak.length≤1048576) (h3:s.cons.length≤1048576) (h4:∀f∈s.ak,f.ae.length≤1048576) :
  db Tryz.prog 82 [.one (.ptr 1000 0),.agg (aL f)] (iB s) (fR s) (.v (oI (rE (se s f)))) (dh (se s f)) (di (se s f)):=by
 have ic:=CV s.ak 130 [.fz (aL f)] (fun o=>sK o f) (by omega) fun o ho=>IE o f (by have:=h4 o ho;omega)
 rcases qn (fun o=>sK o f) s.ak 0 with ⟨e1,_⟩|⟨j,hj,e1,_,_⟩
 ·rw [e1] at ic
  have spec:se s f=.error 4:=by unfold se;simp only [e1];rfl
  rw [spec]
  unfold iB fR dh di rE
  simp only
  refine ZM [1000] [1,2,3] Tryz.func82 Tryz.ntmps82 fun w0 m0 F0=>?_
  refine ZW Z0 (Z1 (ic)) ?_
  exact ZQ (Z1 Tryz.results82)
 ·have e1:idx (fun o=>sK o f) s.ak 0=(j:Int):=by simpa using e1
  rw [e1] at ic
  have spec:se s f=.ok {s with ak:=s.ak.take j++s.ak.drop (j+1)}:=by
   unfold se
   simp only [e1,bG]
   rw [if_neg (by omega)]
  rw [spec]
  have dl:=Na (s.ak.map aL) j (by simpa using hj) (by simp;omega) (by rw [gW];trivial)
  rw [bw] at dl
  have cl:=Cz s.ak j hj
  have cm:=CA aL s.ak j hj [.str ByteArray.empty,.sl 1 [],.str ByteArray.empty]
  unfold iB fR dh di qw qx rE
  simp only [cl]
  refine ZM [1000] [1,2,3] Tryz.func82 Tryz.ntmps82 fun w0 m0 F0=>?_
  refine ab.gq ?_
  refine ZV (Z3 @bh @bt @bu) (Z1 (ic)) Z0 (Z1 (Zi [] [(1000,1001)] [] [(6,22)] [] [1001,22] [] [1001,22] (dl))) ?_
  refine Gq.wW 22 (s.ak.length - 1) rfl rfl (by simp;omega) ?_
  refine ZU Z0 ?_
  refine Gq.iN 1000 1 rfl rfl (by decide) (.inl (gQ rfl)) ?_
  refine ZT Z0 ?_
  refine Gq.iN 22 2 rfl rfl (by decide) (.inl (gQ rfl)) ?_
  refine ZT Z0 ?_
  refine Gq.iN 1002 3 rfl rfl (by decide) (.inl (gQ rfl)) ?_
  refine ZT Z0 ?_
  refine Gq.done ?_
  refine ZR (Z1 Tryz.results82) ?_
  exact congrArg (fun x:List (List L)=>(⟨3,x,[]⟩:aN)) cm
structure U6 (s:aq) (i:Nat) (name:ByteArray) (R:aq) (j q:Nat):Prop where
 hj:j<s.tables.length
 hq:q<s.ak.length
 at':aY s.tables name=(j:Int)
 ne:i≠j
 pk:(bq s j).pk=ew (bq s i).pk.length
 kinds:scan (yW (bq s i) (bq s j)) (bq s i).pk 0=none
 fk:idx (fun o=>sK o ⟨name,ew (bq s i).pk.length,(bq s i).name⟩) s.ak 0=(q:Int)
 free:((s.ak.take q++s.ak.drop (q+1)).any fun f=>aw f.ref name)=false
 res:R=Nm {s with ak:=s.ak.take q++s.ak.drop (q+1)} i j (bq s i) (bq s j) name
theorem U7 {s:aq} {i:Nat} {name:ByteArray} {R:aq} (h:uc s i name=.ok R):∃j q,U6 s i name R j q:=by
 unfold uc at h
 rcases qn (fun u=>aw u.name name) s.tables 0 with ⟨e1,_⟩|⟨j,hj,e1,_,_⟩
 ·have e1:aY s.tables name=-1:=e1
  simp only [e1] at h
  rw [if_pos (by omega)] at h
  cases h
 have e1:aY s.tables name=(j:Int):=by unfold aY;simpa using e1
 simp only [e1,bG] at h
 rw [if_neg (by omega)] at h
 by_cases hc:(i:Int)=(j:Int)∨(bq s j).pk≠ew (bq s i).pk.length
 ·rw [if_pos hc] at h
  cases h
 rw [if_neg hc] at h
 have hc1:i≠j:=fun e=>hc (.inl (by omega))
 have hc2:(bq s j).pk=ew (bq s i).pk.length:=vu fun e=>hc (.inr e)
 have h:F3 s i j (bq s i) (bq s j) name=.ok R:=h
 unfold F3 at h
 cases hs:scan (yW (bq s i) (bq s j)) (bq s i).pk 0 with
 | some e=>rw [hs] at h;cases h
 | none =>
  rw [hs] at h
  simp only at h
  unfold se at h
  simp only at h
  rcases qn (fun o=>sK o ⟨name,ew (bq s i).pk.length,(bq s i).name⟩) s.ak 0 with ⟨e2,_⟩|⟨q,hq,e2,_,_⟩
  ·rw [e2,if_pos (by omega)] at h
   cases h
  ·have e2:idx (fun o=>sK o ⟨name,ew (bq s i).pk.length,(bq s i).name⟩) s.ak 0=(q:Int):=by simpa using e2
   rw [e2,if_neg (by omega),bG] at h
   simp only at h
   split at h
   ·cases h
   ·rename_i hx
    injection h with h
    exact ⟨j,q,hj,hq,e1,hc1,hc2,hs,e2,U5 hx,h.symm⟩
end Go.Bw
