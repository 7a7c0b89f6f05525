/- Proved: contracts of functions of this translation, for every state, and what they rest on; bounds stand ahead. -/
import Derived.Test.YtmnpdfeocknafaaGreatDoorVw
import Derived.Test.YtmnpdfeocknafaaGreatDoorVx
set_option maxHeartbeats 64000000
set_option linter.unusedSimpArgs false
set_option linter.unusedVariables false
namespace Go.Bw
open Go.Proofs
theorem Pu (s:List aG) (h1:s.length≤1048576) (h2:∀st∈s,st.Fits):Sat Tryz.prog 48 [.one (qv s)] (.v (.one (qv s))):=by
 unfold qv
 refine ZE Tryz.func48 Tryz.ntmps48 fun w0 m0 F0=>?_
 refine pK Z0 Z0 ?_;repeat' (first|apply Zb|apply Zn|(apply Zm;intro h))
 refine ab.loop (ι:={k:Nat // k≤s.length}) (fun k=>⟨19,[(3,.v (.one (.ref 3 0 k.1))),(6,.v (.one (.sl 24 (s.map aj)))),(7,.v (oI s.length)),(8,.v (oI k.1))],[],[(3,⟨24,(s.take k.1).map aj,[]⟩)]⟩) (fun k=>s.length - k.1) ⟨0,bg _⟩ ?_ fun ⟨k,hkl⟩=>?_
 ·exact ZN Z0
 simp only at hkl ⊢
 have hlen:(s.take k).length=k:=by simp;omega
 rcases cV k s.length with hc|hc
 ·have c:=Ey s[k] (h2 _ (bl hc))
  have gs:(s.map aj).getD k []=aj s[k]:=bJ _ _ _ hc
  refine pK (Z3 @gs @hlen @aj.eq_1) (Z1 (c)) ?_;repeat' (first|apply Zb|apply Zn|(apply Zm;intro h))
  refine ⟨⟨k+1,by omega⟩,by simp only;omega,?_⟩
  have e:=qd s k hc
  exact ZN (Z3 @e @aj.eq_1 @ap.eq_1)
 ·have hk:k=s.length:=by omega
  subst hk
  refine pK Z0 Z0 ?_;repeat' (first|apply Zb|apply Zn|(apply Zm;intro h))
  refine ZR (Z1 Tryz.results48) ?_
  rw [KX]
theorem Ut (s:List aG) (h1:s.length≤1048576) (h2:∀st∈s,st.Fits):db Tryz.prog 48 [.one (qv s)] [] [] (.v (.one (.ref 2 0 s.length))) [] [(2,⟨24,s.map aj,[]⟩)]:=by
 unfold qv
 refine ZM [] [2] Tryz.func48 Tryz.ntmps48 fun w0 m0 F0=>?_
 refine pK Z0 Z0 ?_;repeat' (first|apply Zb|apply Zn|(apply Zm;intro h))
 refine ab.loop (ι:={k:Nat // k≤s.length}) (fun k=>⟨19,[(3,.v (.one (.ref 3 0 k.1))),(6,.v (.one (.sl 24 (s.map aj)))),(7,.v (oI s.length)),(8,.v (oI k.1))],[],[(3,⟨24,(s.take k.1).map aj,[]⟩)]⟩) (fun k=>s.length - k.1) ⟨0,bg _⟩ ?_ fun ⟨k,hkl⟩=>?_
 ·exact ZN Z0
 simp only at hkl ⊢
 have hlen:(s.take k).length=k:=by simp;omega
 rcases cV k s.length with hc|hc
 ·have c:=Ey s[k] (h2 _ (bl hc))
  have gs:(s.map aj).getD k []=aj s[k]:=bJ _ _ _ hc
  refine pK (Z3 @gs @hlen @aj.eq_1) (Z1 (c)) ?_;repeat' (first|apply Zb|apply Zn|(apply Zm;intro h))
  refine ⟨⟨k+1,by omega⟩,by simp only;omega,?_⟩
  have e:=qd s k hc
  exact ZN (Z3 @e @aj.eq_1 @ap.eq_1)
 ·have hk:k=s.length:=by omega
  subst hk
  refine pK Z0 Z0 ?_;repeat' (first|apply Zb|apply Zn|(apply Zm;intro h))
  exact ZQ (Z1 Tryz.results48)
def Df (st:aG) (fwd:Bool) (a b c:aq):List L:=aj st++([.bool fwd]++aC a++aC b++aC c++[.nil 2,.nil 2,.nil 2,.nil 2,.int .i64 0])
set_option pp.maxSteps 10000000 in
set_option pp.deepTerms true in
theorem FR (st:aG) (fwd:Bool) (a b c:aq) (aU comp o' nw':cZ) (za:sD a aU=0) (zc:sD c comp=0) (ba:yI a aU) (bc:yI c comp) (ha:a.tables.length≤1048576) (hb:b.tables.length≤1048576) (hc:c.tables.length≤1048576) (hi:aU.length≤1048576) (hp:comp.length≤1048576)
  (hia:∀r∈aU,r.rows.length≤1048576∧∀x∈r.rows,x.length≤1048576) (hca:∀r∈comp,r.rows.length≤1048576∧∀x∈r.rows,x.length≤1048576) (hta:∀t∈a.tables,t.ae.length≤1048576∧t.pk.length≤1048576)
  (lo:o'.length=b.tables.length) (ln:nw'.length=c.tables.length) (ro:∀r∈o',r.rows.length≤24) (rn:∀r∈nw',r.rows.length≤24)
  (hD:db Tryz.prog 68 [.one (.ptr 1000 0)] [(1000,mB st fwd a b c aU comp b.tables.length c.tables.length 0)] [(1001,⟨2,(zf a b aU).map aH,[]⟩),(1002,⟨2,(qI c).map aH,[]⟩)]
   (.cR []) [(1000,mB st fwd a b c aU comp b.tables.length c.tables.length 0)] [(1001,⟨2,o'.map aH,[]⟩),(1002,⟨2,nw'.map aH,[]⟩)]) :
  db Tryz.prog 35 [.one (.ptr 1000 0),.one (bp aU),.one (bp comp)] [(1000,Df st fwd a b c)] [] (.cR [.one (bp o'),.one (bp nw'),oI 0]) [] []:=by
 have c1:=IX a aU ba (by omega)
 have c2:=IX c comp bc (by omega)
 rw [za] at c1
 rw [zc] at c2
 have k1:=GL aU (by omega) (fun r hr=>by obtain ⟨q1,q2⟩:=hia r hr;exact ⟨by omega,fun x hx=>by have:=q2 x hx;omega⟩)
 have k2:=GL comp (by omega) (fun r hr=>by obtain ⟨q1,q2⟩:=hca r hr;exact ⟨by omega,fun x hx=>by have:=q2 x hx;omega⟩)
 have e1:=NN b hb
 have e2:=NN c hc
 rw [pJ] at hD
 unfold Df
 unfold aj at hD ⊢
 simp only [cM,aW,aZ] at hD c1 c2 e1 e2 ⊢
 unfold bp at c1 c2 k1 k2 ⊢
 refine ZM [] [] Tryz.func35 Tryz.ntmps35 fun w0 m0 F0=>?_
 refine ZV Z0 (Z4 (c1) (c2) (k1) (k2)) (Z1 (Zs 8)) Z0 ?_;repeat' (first|apply Zb|apply Zn|(apply Zk;intro K hK))
 refine dX ah mixed [(0,6),(7,4)] [(6,[],[(0,2),(7,4)]),(11,[(12,2)],[(0,2)]),(14,[(15,2)],[(1,1)]),(17,[],[])] [6,11,14,17] 8 fun K hK=>?_
 simp only [SG,bb] at hK ⊢
 refine ZU Z0 ?_
 repeat' (first|((first|((with_reducible refine ai.is ?_);refine ai.io [] [] [] [(2,51)] [] [51] [] [51] (e1) rfl ⟨rfl,rfl,rfl,rfl⟩ ?_ ?_ ?_;(focus (simp -dsimp (disch:=first|exact D|fail) only [go_sem,↓reduceIte,seval,av,bh,bt,bu];done));(focus (simp -dsimp (disch:=first|exact D|fail) only [go_sem,↓reduceIte,seval,av,bh,bt,bu];done)))|((with_reducible refine ai.is ?_);refine ai.io [] [] [] [(2,56)] [] [56] [] [56] (e2) rfl ⟨rfl,rfl,rfl,rfl⟩ ?_ ?_ ?_;(focus (simp -dsimp (disch:=first|exact D|fail) only [go_sem,↓reduceIte,seval,av,bh,bt,bu];done));(focus (simp -dsimp (disch:=first|exact D|fail) only [go_sem,↓reduceIte,seval,av,bh,bt,bu];done)))|(with_reducible first|refine an.some fun K hK=>?_|refine an.step fun K hK=>?_))<;>simp -dsimp (disch:=first|exact D|fail) only [go_sem,↓reduceIte,seval,av,bh,bt,bu])|((with_reducible refine hK _ ?_);clear hK K)|(with_reducible refine an.intro fun K0 hK0=>?_)|((with_reducible refine an.fin ?_);(refine hK0 _ ?_);clear hK0 K0)|(with_reducible first|refine an.quiet ?_|refine an.none ?_)|((with_reducible refine an.keep ?_ ?_);focus ((simp -dsimp (disch:=first|exact D|fail) only [go_sem,↓reduceIte,seval,gE,gD,gF,gG,av,bh,bt,bu]);first|done|exact E|fail))|refine Q1 ?_|fail)
 have ok0:vE a b aU 0=qI b:=by unfold vE qI;simp
 have lm:((qI b).map aH).length=b.tables.length:=by simp [qI]
 refine ZW (Z1 @lm) Z0 ?_;repeat' (first|apply Zb|apply Zn|(apply Zk;intro K hK))
 refine ab.BC ⟨150,[(0,.v (.one (.ptr 1000 0))),(8,.v (oI 0))],[(1000,xu st fwd a b c aU comp b.tables.length c.tables.length)],[(51,⟨2,(vE a b aU b.tables.length).map aH,[]⟩),(56,⟨2,(qI c).map aH,[]⟩)]⟩ ?_ ?_
 ·refine ab.loop (ι:={k:Nat // k≤b.tables.length}) (fun k=>⟨150,[(0,.v (.one (.ptr 1000 0))),(1,.v (.one (.sl 2 (aU.map aH)))),(8,.v (oI 0)),(64,.v (.one (.ref 51 0 b.tables.length))),(65,.v (oI b.tables.length)),(66,.v (oI k.1))],[(1000,xu st fwd a b c aU comp b.tables.length c.tables.length)],[(51,⟨2,(vE a b aU k.1).map aH,[]⟩),(56,⟨2,(qI c).map aH,[]⟩)]⟩) (fun k=>b.tables.length - k.1) ⟨0,bg _⟩ ?_ fun ⟨k,hk⟩=>?_
  ·exact ZN (Z6 @xu.eq_1 @cM @dq @aj.eq_1 @ok0 @s9)
  simp only at hk ⊢
  have lK:=NO a b aU k hk
  rcases cV k b.tables.length with hc2|hc2
  ·have g:=VL a b aU k hc2
   have es:=VM a b aU k hc2
   have ss:=VN a b aU k hc2
   obtain ⟨nm,hnm⟩:∃nm,b.tables[k].name=nm:=⟨_,rfl⟩
   have ef:aH (AF a aU b.tables[k])=[.str nm,bm (if 0≤aY a.tables nm then (tD a aU nm).2 else [])]:=by unfold AF;rw [hnm];rfl
   rw [ef] at es
   rw [hnm] at g ss
   have ft:=qP a nm (by omega)
   have it:=JW a aU nm (by omega) (fun t ht=>by have:=hta t ht;omega) (fun r hr=>by obtain ⟨q1,q2⟩:=hia r hr;exact ⟨by omega,fun x hx=>by have:=q2 x hx;omega⟩)
   unfold bp bm at it
   simp only [cM,dq] at ft it
   obtain ⟨z,hz⟩:∃z,sI (aY a.tables nm)=z:=⟨_,rfl⟩
   rw [hz] at ft
   by_cases h0:0≤aY a.tables nm
   ·rw [sB h0] at ft
    rw [if_pos h0] at es
    unfold bm at es
    refine ZU (Z4 @xu.eq_1 @cM @dq @aj.eq_1) ?_
    refine ZV (Z2 @g @lK) (Z2 (ft) (it)) (Z3 (Zs 15) (Zd 12 [(0,6)] [(6,[(7,5)],[])] [6] 8) (Zd 14 [(0,12)] [(12,[(13,5)],[(0,5)]),(18,[],[])] [12,18] 8)) Z0 ?_;repeat' (first|apply Zb|apply Zn|(apply Zk;intro K hK))
    refine ZW Z0 Z0 ?_;repeat' (first|apply Zb|apply Zn|(apply Zk;intro K hK))
    refine ⟨⟨k+1,by omega⟩,by simp only;omega,?_⟩
    exact ZN (Z7 @xu.eq_1 @cM @dq @aj.eq_1 @es @iy @pO)
   ·rw [yG h0] at ft
    refine ZU (Z4 @xu.eq_1 @cM @dq @aj.eq_1) ?_
    refine ZV (Z2 @g @lK) (Z1 (ft)) (Z2 (Zs 15) (Zd 12 [(0,6)] [(6,[(7,5)],[])] [6] 8)) Z0 ?_;repeat' (first|apply Zb|apply Zn|(apply Zk;intro K hK))
    refine ZW Z0 Z0 ?_;repeat' (first|apply Zb|apply Zn|(apply Zk;intro K hK))
    refine ⟨⟨k+1,by omega⟩,by simp only;omega,?_⟩
    exact ZN (Z7 @xu.eq_1 @cM @dq @aj.eq_1 (@ss h0) @iy @pO)
  ·have hk2:k=b.tables.length:=by omega
   subst hk2
   refine ZU (Z4 @xu.eq_1 @cM @dq @aj.eq_1) ?_
   refine ZW Z0 Z0 ?_;repeat' (first|apply Zb|apply Zn|(apply Zk;intro K hK))
   refine Gq.done ⟨rfl,?_⟩
   exact ZN (Z4 @xu.eq_1 @cM @dq @aj.eq_1)
 have okE:vE a b aU b.tables.length=zf a b aU:=by unfold vE zf;simp
 rw [okE]
 refine ZU (Z4 @xu.eq_1 @cM @dq @aj.eq_1) ?_
 refine ZV (Z5 @dz @si @bh @bt @bu) Z0 (Z1 (Zs 17)) (Z1 (Zi [(1000,1000)] [(1001,51),(1002,56)] [(1000,1000)] [(1001,51),(1002,56)] [] [] [1000,1000] [51,56,51,56] (hD))) ?_;repeat' (first|apply Zb|apply Zn|(apply Zk;intro K hK))
 refine ab.rN [1000] [] ?_
 refine ZS Z0 ?_
 rw [if_pos (show b.tables.length≤o'.length by omega),if_pos (show c.tables.length≤nw'.length by omega)]
 have ci:=VK o' (by omega)
 unfold bp at ci
 refine dX ah mixed [(0,4),(5,4),(11,1)] [(4,[],[(5,4),(11,1)]),(9,[(10,1)],[(11,1)])] [4,9] 8 fun K hK=>?_
 simp only [SG,bb] at hK ⊢
 refine ZU Z0 ?_
 refine ZV (Z3 @bh @bt @bu) Z0 Z0 (Z1 (Zi [] [] [] [(2,107)] [] [107] [] [107] (ci))) ?_;repeat' (first|apply Zb|apply Zn|(apply Zk;intro K hK))
 have eall:o'.map aH++nw'.map aH=(o'++nw').map aH:=List.map_append.symm
 have la:(o'++nw').length=o'.length+nw'.length:=bA
 have ra:∀r∈o'++nw',r.rows.length≤24:=fun r hr=>(List.mem_append.1 hr).elim (ro r) (rn r)
 rw [eall,←la]
 obtain ⟨al,hal⟩:∃al,o'++nw'=al:=⟨_,rfl⟩
 rw [hal] at la ra ⊢
 have lal:al.length≤2097152:=by omega
 refine ab.BC ⟨150,[(0,.v (.one (.ptr 1000 0))),(8,.v (oI 0))],[(1000,y0 st fwd a b c aU comp o' nw')],[]⟩ ?_ ?_
 ·refine ab.loop (ι:={k:Nat // k≤al.length}) (fun k=>⟨150,[(0,.v (.one (.ptr 1000 0))),(8,.v (oI 0)),(112,.v (.one (.ref 112 0 al.length))),(113,.v (oI al.length)),(114,.v (oI k.1))],[(1000,y0 st fwd a b c aU comp o' nw')],[(112,⟨2,al.map aH,[]⟩)]⟩) (fun k=>al.length - k.1) ⟨0,bg _⟩ ?_ fun ⟨k,hk⟩=>?_
  ·exact ZN (Z5 @y0.eq_1 @cM @dq @aj.eq_1 @s9)
  simp only at hk ⊢
  rcases cV k al.length with hc2|hc2
  ·have g:(al.map aH).getD k []=[.str al[k].table,.sl 1 (al[k].rows.map cU)]:=by rw [bJ _ _ _ hc2];rfl
   have r24:=ra _ (bl hc2)
   obtain ⟨rw9,hrw9⟩:∃rw9,al[k].rows=rw9:=⟨_,rfl⟩
   obtain ⟨tn9,htn9⟩:∃tn9,al[k].table=tn9:=⟨_,rfl⟩
   rw [hrw9] at r24 g
   rw [htn9] at g
   refine ZU (Z4 @y0.eq_1 @cM @dq @aj.eq_1) ?_
   refine ZW (Z1 @g) Z0 ?_;repeat' (first|apply Zb|apply Zn|(apply Zk;intro K hK))
   refine ⟨⟨k+1,by omega⟩,by simp only;omega,?_⟩
   exact ZN (Z6 @y0.eq_1 @cM @dq @aj.eq_1 @iy @pO)
  ·have hk2:k=al.length:=by omega
   subst hk2
   refine ZU (Z4 @y0.eq_1 @cM @dq @aj.eq_1) ?_
   refine ZW Z0 Z0 ?_;repeat' (first|apply Zb|apply Zn|(apply Zk;intro K hK))
   refine Gq.done ⟨rfl,?_⟩
   exact ZN (Z4 @y0.eq_1 @cM @dq @aj.eq_1)
 refine ZU (Z4 @y0.eq_1 @cM @dq @aj.eq_1) ?_
 refine ZW Z0 Z0 ?_;repeat' (first|apply Zb|apply Zn|(apply Zk;intro K hK))
 refine CK Z0 Z0 ?_;repeat' (first|apply Zb|apply Zn|(apply Zk;intro K hK))
 exact ZQ (Z1 Tryz.results35)
end Go.Bw
