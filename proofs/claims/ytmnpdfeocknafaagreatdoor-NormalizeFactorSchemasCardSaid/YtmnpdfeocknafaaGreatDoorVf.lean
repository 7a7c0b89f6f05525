/- Proved: contracts of functions of this translation, for every state, and what they rest on; bounds stand ahead. -/
import Derived.Test.YtmnpdfeocknafaaGreatDoorVd
set_option maxHeartbeats 64000000
set_option linter.unusedSimpArgs false
set_option linter.unusedVariables false
namespace Go.Bw
open Go.Proofs
theorem Nq (s:aq) (T:List (List L)) (nt:Nat) (table:ByteArray) (g:Int→Int) (f:FuncId) (z:List (List L)) (h2:s.ak.length≤1048576) (h3:s.cons.length≤1048576) (hn:∀k∈s.ak,k.ae.length≤1048576)
  (hf:∀k∈s.ak,aw k.table table=true→∀c∈k.ae,wF Tryz.prog f (z.map L.fz) g c) (hc:∀k∈s.cons,aw k.table table=true→wF Tryz.prog f (z.map L.fz) g k.left∧(0≤k.right→wF Tryz.prog f (z.map L.fz) g k.right)) :
  db Tryz.prog 142 [.one (.ptr 1000 0),oS table,.one (.bD f (z.map L.fz))] [(1000,[.ref 1000 0 nt,.ref 1001 0 s.ak.length,.ref 1002 0 s.cons.length])] [(1000,⟨3,T,[]⟩),(1001,⟨3,s.ak.map pS,[]⟩),(1002,⟨7,s.cons.map aK,[]⟩)]
   (.cR []) [(1000,[.ref 1000 0 nt,.ref 1001 0 s.ak.length,.ref 1002 0 s.cons.length])] [(1000,⟨3,T,[]⟩),(1001,⟨3,(s.ak.map (rH table g)).map pS,[]⟩),(1002,⟨7,(s.cons.map (tJ table g)).map aK,[]⟩)]:=by
 refine ZM [1000] [1000,1001,1002] Tryz.func142 Tryz.ntmps142 fun w0 m0 F0=>?_
 refine ZW Z0 Z0 ?_
 refine ab.loop (ι:={k:Nat // k≤s.ak.length}) (fun k=>⟨89,[(0,.v (.one (.ptr 1000 0))),(1,.v (oS table)),(2,.v (.one (.bD f (z.map L.fz)))),(15,.v (.one (.ref 1001 0 s.ak.length))),(16,.v (oI s.ak.length)),(17,.v (oI k.1))],[(1000,[.ref 1000 0 nt,.ref 1001 0 s.ak.length,.ref 1002 0 s.cons.length])],[(1000,⟨3,T,[]⟩),(1001,⟨3,(pQ (rH table g) s.ak k.1).map pS,[]⟩),(1002,⟨7,s.cons.map aK,[]⟩)]⟩) (fun k=>s.ak.length - k.1) ⟨0,bg _⟩ ?_ fun ⟨k,hkl⟩=>?_
 ·exact ZL (Z1 @uK)
 simp only at hkl ⊢
 rcases cV k s.ak.length with hk|hk
 ·have hl:k<(pQ (rH table g) s.ak k).length:=by rw [tW];exact hk
  have e0:(pQ (rH table g) s.ak k).map pS=tI (pQ (rH table g) s.ak k) k s.ak[k]:=by unfold tI;rw [IG _ s.ak k hk]
  have rl:=Nh (pQ (rH table g) s.ak k) k
  have rg:=fun t=>IH (l:=pQ (rH table g) s.ak k) (k:=k) t hl
  rw [tW] at rl
  have b1:=hn s.ak[k] (bl hk)
  have hf1:=hf s.ak[k] (bl hk)
  have ms:=Ew (rH table g) s.ak k hk
  have mk:=AE (rH table g) s.ak k hk
  obtain ⟨fb,hfb⟩:∃fb,s.ak[k]=fb:=⟨_,rfl⟩
  rw [hfb] at b1 hf1 ms mk e0
  cases hT:aw fb.table table with
  | false =>
   have hT':¬ fb.table.toList=table.toList:=by simpa [aw] using hT
   have mk:=mk (by unfold rH;rw [hT];rfl)
   rw [e0]
   refine ZW (Z6 @rl @rg @pS.eq_1 @hT' @z6 @yy) Z0 ?_
   refine ⟨⟨k+1,by omega⟩,by simp only;omega,?_⟩
   rw [←e0]
   exact ZL (Z1 @mk)
  | true =>
   have hT':fb.table.toList=table.toList:=by simpa [aw] using hT
   have hf1:=hf1 hT
   have done:tI (pQ (rH table g) s.ak k) k {fb with ae:=fb.ae.map g}=(pQ (rH table g) s.ak (k+1)).map pS:=by
    unfold tI
    rw [←ms]
    unfold rH
    rw [hT]
    rfl
   rw [e0]
   refine ab.rD 1001 k 1 2000 rfl (Ni _ hl) rfl (by decide) (by decide) ?_
   refine ZU (Z2 @rP @yy) ?_
   refine ZW (Z6 @rl @rg @pS.eq_1 @hT' @z6 @yy) Z0 ?_
   refine ab.loop (ι:={j:Nat // j≤fb.ae.length}) (fun j=>⟨89,[(0,.v (.one (.ptr 1000 0))),(1,.v (oS table)),(2,.v (.one (.bD f (z.map L.fz)))),(15,.v (.one (.ref 1001 0 s.ak.length))),(16,.v (oI s.ak.length)),(17,.v (oI k)),(6,.v (oI k)),(27,.v (.one (.ref 2000 0 fb.ae.length))),(28,.v (oI fb.ae.length)),(29,.v (oI j.1))],[(1000,[.ref 1000 0 nt,.ref 1001 0 s.ak.length,.ref 1002 0 s.cons.length])],[(1000,⟨3,T,[]⟩),(2000,⟨1,(pQ g fb.ae j.1).map aX,[]⟩),(1001,⟨3,tI (pQ (rH table g) s.ak k) k fb,[(k,1,.ref 2000 0 fb.ae.length)]⟩),(1002,⟨7,s.cons.map aK,[]⟩)]⟩) (fun j=>fb.ae.length - j.1) ⟨0,bg _⟩ ?_ fun ⟨j,hjl⟩=>?_
   ·exact ZL (Z1 @uK)
   simp only at hjl ⊢
   rcases cV j fb.ae.length with hcj|hcj
   ·have ml:=tW g fb.ae j
    have mg:=zN aX g fb.ae j hcj
    have ms2:=zO aX g fb.ae j hcj
    simp only [aX] at ms2
    have hg:=hf1 fb.ae[j] (bl hcj)
    unfold wF at hg
    refine ZV (Z7 @rl @rg @pS.eq_1 @ml @mg @z6 @yy) (Z1 (hg)) (Z1 (Zd 7 [(0,11)] [(11,[(12,1)],[(0,9)]),(13,[],[])] [11,13] 8)) Z0 ?_
    refine ⟨⟨j+1,by omega⟩,by simp only;omega,?_⟩
    exact ZL (Z1 @ms2)
   ·have hj:j=fb.ae.length:=by omega
    subst hj
    refine ZV (Z5 @rl @rg @pS.eq_1 @z6 @yy) Z0 (Z1 (Zs 9)) Z0 ?_
    refine ab.close 1001 k 1 2000 rfl rfl (by decide) (by simp [aP,tW]) (by rw [rl];exact hk) (by show 1<3;decide) rfl ?_
    refine ZU (Z4 @rG @rv @ru @yy) ?_
    rw [IJ _ hl,yu,done]
    refine ZW Z0 Z0 ?_
    refine ⟨⟨k+1,by omega⟩,by simp only;omega,?_⟩
    exact ZL Z0
 have hk:k=s.ak.length:=by omega
 subst hk
 rw [yu]
 refine ZW Z0 Z0 ?_
 refine ab.loop (ι:={k:Nat // k≤s.cons.length}) (fun k=>⟨89,[(0,.v (.one (.ptr 1000 0))),(1,.v (oS table)),(2,.v (.one (.bD f (z.map L.fz)))),(52,.v (.one (.ref 1002 0 s.cons.length))),(53,.v (oI s.cons.length)),(54,.v (oI k.1))],[(1000,[.ref 1000 0 nt,.ref 1001 0 s.ak.length,.ref 1002 0 s.cons.length])],[(1000,⟨3,T,[]⟩),(1001,⟨3,(s.ak.map (rH table g)).map pS,[]⟩),(1002,⟨7,(pQ (tJ table g) s.cons k.1).map aK,[]⟩)]⟩) (fun k=>s.cons.length - k.1) ⟨0,bg _⟩ ?_ fun ⟨k,hkl⟩=>?_
 ·exact ZL (Z1 @uK)
 simp only at hkl ⊢
 rcases cV k s.cons.length with hk|hk
 ·have ml:=tW (tJ table g) s.cons k
  have mg:=zN aK (tJ table g) s.cons k hk
  have ms:=zO aK (tJ table g) s.cons k hk
  have mk:=AE (tJ table g) s.cons k hk
  have hc0:=hc s.cons[k] (bl hk)
  have gs:=fun x=>FX ((pQ (tJ table g) s.cons k).map aK) k x [] (by rw [bw,tW];exact hk)
  obtain ⟨cb,hcb⟩:∃cb,s.cons[k]=cb:=⟨_,rfl⟩
  rw [hcb] at hc0 mg ms mk
  cases hT:aw cb.table table with
  | false =>
   have hT':¬ cb.table.toList=table.toList:=by simpa [aw] using hT
   have mk:=mk (by unfold tJ;rw [hT];rfl)
   refine ZW (Z5 @ml @mg @hT' @z6 @yy) Z0 ?_
   refine ⟨⟨k+1,by omega⟩,by simp only;omega,?_⟩
   exact ZL (Z1 @mk)
  | true =>
   have hT':cb.table.toList=table.toList:=by simpa [aw] using hT
   obtain ⟨g1,g2⟩:=hc0 hT
   unfold wF at g1 g2
   by_cases hr:0≤cb.right
   ·have g2:=g2 hr
    have er:tJ table g cb={cb with left:=g cb.left,right:=g cb.right}:=by unfold tJ;rw [if_pos hT,if_pos hr]
    rw [er] at ms
    simp only [aK] at ms
    refine ZV (Z8 @ml @mg @gs @hT' @z6 @yy (@List.set_set.{0}) (@List.length_set.{0})) (Z2 (g1) (g2)) (Z2 (Zd 14 [(0,8)] [(8,[(9,2)],[(0,5)]),(11,[],[])] [8,11] 8) (Zd 16 [(0,8)] [(8,[(9,2)],[(0,5)]),(11,[],[])] [8,11] 8)) Z0 ?_
    refine ⟨⟨k+1,by omega⟩,by simp only;omega,?_⟩
    exact ZL (Z1 @ms)
   ·have er:tJ table g cb={cb with left:=g cb.left}:=by unfold tJ;rw [if_pos hT,if_neg hr]
    rw [er] at ms
    simp only [aK] at ms
    refine ZV (Z8 @ml @mg @gs @hT' @z6 @yy (@List.set_set.{0}) (@List.length_set.{0})) (Z1 (g1)) (Z1 (Zd 14 [(0,8)] [(8,[(9,2)],[(0,5)]),(11,[],[])] [8,11] 8)) Z0 ?_
    refine ⟨⟨k+1,by omega⟩,by simp only;omega,?_⟩
    exact ZL (Z1 @ms)
 ·have hk:k=s.cons.length:=by omega
  subst hk
  rw [yu]
  refine ZW Z0 Z0 ?_
  exact ZQ (Z1 Tryz.results142)
end Go.Bw
