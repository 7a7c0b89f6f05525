/-
  WHAT IS PROVED HERE, of this translation: remap_satM.
  A theorem that ends in sat says what the function it names returns, whatever the state it is called in; the bounds on its arguments stand ahead of it.
-/
import Derived.Test.YtdnapljegcihiaaGreatDoorVd
set_option linter.unusedSimpArgs false
set_option linter.unusedVariables false
namespace Go.Bw
open Go.Proofs
set_option maxHeartbeats 16000000 in
theorem remap_satM (s:Sch) (T:List (List L)) (nt:Nat) (table:ByteArray) (g:Int→Int) (f:FuncId) (z:List (List L)) (h2:s.fks.length≤1048576) (h3:s.cons.length≤1048576) (hn:∀k∈s.fks,k.cols.length≤1048576)
  (hf:∀k∈s.fks,sEq k.table table=true→∀c∈k.cols,MapsAt Tryz.prog f (z.map L.fz) g c) (hc:∀k∈s.cons,sEq k.table table=true→MapsAt Tryz.prog f (z.map L.fz) g k.left∧(0≤k.right→MapsAt Tryz.prog f (z.map L.fz) g k.right)) :
  SatM Tryz.prog 129 [.one (.ptr 1000 0),oS table,.one (.clo f (z.map L.fz))] [(1000,[.ref 1000 0 nt,.ref 1001 0 s.fks.length,.ref 1002 0 s.cons.length])] [(1000,⟨3,T,[]⟩),(1001,⟨3,s.fks.map eFKO,[]⟩),(1002,⟨7,s.cons.map eCon,[]⟩)]
   (.tup []) [(1000,[.ref 1000 0 nt,.ref 1001 0 s.fks.length,.ref 1002 0 s.cons.length])] [(1000,⟨3,T,[]⟩),(1001,⟨3,(s.fks.map (remapFK table g)).map eFKO,[]⟩),(1002,⟨7,(s.cons.map (remapCon table g)).map eCon,[]⟩)]:=by
 refine ZM [1000] [1000,1001,1002] Tryz.func129 Tryz.ntmps129 fun w0 m0 F0=>?_
 refine ZW Z0 Z0 ?_
 refine AWP.loop (ι:={k:Nat // k≤s.fks.length}) (fun k=>⟨89,[(0,.v (.one (.ptr 1000 0))),(1,.v (oS table)),(2,.v (.one (.clo f (z.map L.fz)))),(15,.v (.one (.ref 1001 0 s.fks.length))),(16,.v (oI s.fks.length)),(17,.v (oI k.1))],[(1000,[.ref 1000 0 nt,.ref 1001 0 s.fks.length,.ref 1002 0 s.cons.length])],[(1000,⟨3,T,[]⟩),(1001,⟨3,(mix (remapFK table g) s.fks k.1).map eFKO,[]⟩),(1002,⟨7,s.cons.map eCon,[]⟩)]⟩) (fun k=>s.fks.length - k.1) ⟨0,Nat.zero_le _⟩ ?_ fun ⟨k,hkl⟩=>?_
 ·exact ZL (Z1 @mix_zero)
 simp only at hkl ⊢
 rcases Nat.lt_or_ge k s.fks.length with hk|hk
 ·have hl:k<(mix (remapFK table g) s.fks k).length:=by rw [mix_len];exact hk
  have e0:(mix (remapFK table g) s.fks k).map eFKO=rowF (mix (remapFK table g) s.fks k) k s.fks[k]:=by unfold rowF;rw [mix_self _ s.fks k hk]
  have rl:=rowF_len (mix (remapFK table g) s.fks k) k
  have rg:=fun t=>rowF_get (l:=mix (remapFK table g) s.fks k) (k:=k) t hl
  rw [mix_len] at rl
  have b1:=hn s.fks[k] (List.getElem_mem hk)
  have hf1:=hf s.fks[k] (List.getElem_mem hk)
  have ms:=mix_succ (remapFK table g) s.fks k hk
  have mk:=mix_keep (remapFK table g) s.fks k hk
  obtain ⟨fb,hfb⟩:∃fb,s.fks[k]=fb:=⟨_,rfl⟩
  rw [hfb] at b1 hf1 ms mk e0
  cases hT:sEq fb.table table with
  | false =>
   have hT':¬ fb.table.toList=table.toList:=by simpa [sEq] using hT
   have mk:=mk (by unfold remapFK;rw [hT];rfl)
   rw [e0]
   refine ZW (Z6 @rl @rg @eFKO.eq_1 @hT' @fzs_noPtr @fzs_noRow) Z0 ?_
   refine ⟨⟨k+1,by omega⟩,by simp only;omega,?_⟩
   rw [←e0]
   exact ZL (Z1 @mk)
  | true =>
   have hT':fb.table.toList=table.toList:=by simpa [sEq] using hT
   have hf1:=hf1 hT
   have done:rowF (mix (remapFK table g) s.fks k) k {fb with cols:=fb.cols.map g}=(mix (remapFK table g) s.fks (k+1)).map eFKO:=by
    unfold rowF
    rw [←ms]
    unfold remapFK
    rw [hT]
    rfl
   rw [e0]
   refine AWP.openC 1001 k 1 2000 rfl (rowF_cell1 _ hl) rfl (by decide) (by decide) ?_
   refine ZU (Z2 @openR_mk @fzs_noRow) ?_
   refine ZW (Z6 @rl @rg @eFKO.eq_1 @hT' @fzs_noPtr @fzs_noRow) Z0 ?_
   refine AWP.loop (ι:={j:Nat // j≤fb.cols.length}) (fun j=>⟨89,[(0,.v (.one (.ptr 1000 0))),(1,.v (oS table)),(2,.v (.one (.clo f (z.map L.fz)))),(15,.v (.one (.ref 1001 0 s.fks.length))),(16,.v (oI s.fks.length)),(17,.v (oI k)),(6,.v (oI k)),(27,.v (.one (.ref 2000 0 fb.cols.length))),(28,.v (oI fb.cols.length)),(29,.v (oI j.1))],[(1000,[.ref 1000 0 nt,.ref 1001 0 s.fks.length,.ref 1002 0 s.cons.length])],[(1000,⟨3,T,[]⟩),(2000,⟨1,(mix g fb.cols j.1).map eInt1,[]⟩),(1001,⟨3,rowF (mix (remapFK table g) s.fks k) k fb,[(k,1,.ref 2000 0 fb.cols.length)]⟩),(1002,⟨7,s.cons.map eCon,[]⟩)]⟩) (fun j=>fb.cols.length - j.1) ⟨0,Nat.zero_le _⟩ ?_ fun ⟨j,hjl⟩=>?_
   ·exact ZL (Z1 @mix_zero)
   simp only at hjl ⊢
   rcases Nat.lt_or_ge j fb.cols.length with hcj|hcj
   ·have ml:=mix_len g fb.cols j
    have mg:=mixr_get eInt1 g fb.cols j hcj
    have ms2:=mixr_set eInt1 g fb.cols j hcj
    simp only [eInt1] at ms2
    have hg:=hf1 fb.cols[j] (List.getElem_mem hcj)
    unfold MapsAt at hg
    refine ZV (Z7 @rl @rg @eFKO.eq_1 @ml @mg @fzs_noPtr @fzs_noRow) (Z1 (hg)) (Z1 (Zd 7 [(0,11)] [(11,[(12,1)],[(0,9)]),(13,[],[])] [11,13] 8)) Z0 ?_
    refine ⟨⟨j+1,by omega⟩,by simp only;omega,?_⟩
    exact ZL (Z1 @ms2)
   ·have hj:j=fb.cols.length:=by omega
    subst hj
    refine ZV (Z5 @rl @rg @eFKO.eq_1 @fzs_noPtr @fzs_noRow) Z0 (Z1 (Zs 9)) Z0 ?_
    refine AWP.close 1001 k 1 2000 rfl rfl (by decide) (by simp [ovGet,mix_len]) (by rw [rl];exact hk) (by show 1<3;decide) rfl ?_
    refine ZU (Z4 @closeR_mk @ovCut_cons @ovCut_nil @fzs_noRow) ?_
    rw [rowF_cols _ hl,mix_all,done]
    refine ZW Z0 Z0 ?_
    refine ⟨⟨k+1,by omega⟩,by simp only;omega,?_⟩
    exact ZL Z0
 have hk:k=s.fks.length:=by omega
 subst hk
 rw [mix_all]
 refine ZW Z0 Z0 ?_
 refine AWP.loop (ι:={k:Nat // k≤s.cons.length}) (fun k=>⟨89,[(0,.v (.one (.ptr 1000 0))),(1,.v (oS table)),(2,.v (.one (.clo f (z.map L.fz)))),(52,.v (.one (.ref 1002 0 s.cons.length))),(53,.v (oI s.cons.length)),(54,.v (oI k.1))],[(1000,[.ref 1000 0 nt,.ref 1001 0 s.fks.length,.ref 1002 0 s.cons.length])],[(1000,⟨3,T,[]⟩),(1001,⟨3,(s.fks.map (remapFK table g)).map eFKO,[]⟩),(1002,⟨7,(mix (remapCon table g) s.cons k.1).map eCon,[]⟩)]⟩) (fun k=>s.cons.length - k.1) ⟨0,Nat.zero_le _⟩ ?_ fun ⟨k,hkl⟩=>?_
 ·exact ZL (Z1 @mix_zero)
 simp only at hkl ⊢
 rcases Nat.lt_or_ge k s.cons.length with hk|hk
 ·have ml:=mix_len (remapCon table g) s.cons k
  have mg:=mixr_get eCon (remapCon table g) s.cons k hk
  have ms:=mixr_set eCon (remapCon table g) s.cons k hk
  have mk:=mix_keep (remapCon table g) s.cons k hk
  have hc0:=hc s.cons[k] (List.getElem_mem hk)
  have gs:=fun x=>getD_setL ((mix (remapCon table g) s.cons k).map eCon) k x [] (by rw [List.length_map,mix_len];exact hk)
  obtain ⟨cb,hcb⟩:∃cb,s.cons[k]=cb:=⟨_,rfl⟩
  rw [hcb] at hc0 mg ms mk
  cases hT:sEq cb.table table with
  | false =>
   have hT':¬ cb.table.toList=table.toList:=by simpa [sEq] using hT
   have mk:=mk (by unfold remapCon;rw [hT];rfl)
   refine ZW (Z5 @ml @mg @hT' @fzs_noPtr @fzs_noRow) Z0 ?_
   refine ⟨⟨k+1,by omega⟩,by simp only;omega,?_⟩
   exact ZL (Z1 @mk)
  | true =>
   have hT':cb.table.toList=table.toList:=by simpa [sEq] using hT
   obtain ⟨g1,g2⟩:=hc0 hT
   unfold MapsAt at g1 g2
   by_cases hr:0≤cb.right
   ·have g2:=g2 hr
    have er:remapCon table g cb={cb with left:=g cb.left,right:=g cb.right}:=by unfold remapCon;rw [if_pos hT,if_pos hr]
    rw [er] at ms
    simp only [eCon] at ms
    refine ZV (Z8 @ml @mg @gs @hT' @fzs_noPtr @fzs_noRow (@List.set_set.{0}) (@List.length_set.{0})) (Z2 (g1) (g2)) (Z2 (Zd 14 [(0,8)] [(8,[(9,2)],[(0,5)]),(11,[],[])] [8,11] 8) (Zd 16 [(0,8)] [(8,[(9,2)],[(0,5)]),(11,[],[])] [8,11] 8)) Z0 ?_
    refine ⟨⟨k+1,by omega⟩,by simp only;omega,?_⟩
    exact ZL (Z1 @ms)
   ·have er:remapCon table g cb={cb with left:=g cb.left}:=by unfold remapCon;rw [if_pos hT,if_neg hr]
    rw [er] at ms
    simp only [eCon] at ms
    refine ZV (Z8 @ml @mg @gs @hT' @fzs_noPtr @fzs_noRow (@List.set_set.{0}) (@List.length_set.{0})) (Z1 (g1)) (Z1 (Zd 14 [(0,8)] [(8,[(9,2)],[(0,5)]),(11,[],[])] [8,11] 8)) Z0 ?_
    refine ⟨⟨k+1,by omega⟩,by simp only;omega,?_⟩
    exact ZL (Z1 @ms)
 ·have hk:k=s.cons.length:=by omega
  subst hk
  rw [mix_all]
  refine ZW Z0 Z0 ?_
  exact ZQ (Z1 Tryz.results129)
end Go.Bw
