/- Proved: contracts of functions of this translation, for every state, and what they rest on; bounds stand ahead. -/
import Derived.Test.YtmnpdfeocknafaaGreatDoorVzb
import Derived.Test.YtmnpdfeocknafaaGreatDoorVzc
set_option maxHeartbeats 64000000
set_option linter.unusedSimpArgs false
set_option linter.unusedVariables false
namespace Go.Bw
open Go.Proofs
theorem abl (a b:aG):Sat Tryz.prog 95 [.agg (aj a),.agg (aj b)] (.v (oB (B8 a b))):=by
 have hv:=Hq a.value b.value
 obtain ⟨vb,hvb⟩:∃vb,decide (a.value=b.value)=vb:=⟨_,rfl⟩
 rw [hvb] at hv
 refine sS ah Tryz.func95 fun w0 m0 F0=>?_
 simp only [Tryz.ntmps95,bK,Nat.reduceAdd]
 repeat' (first|((first|with_reducible refine qV ah fun K hK=>?_|refine Q2 ?_|((with_reducible first|refine qS ?_ ?_|refine qT ?_ ?_|refine qU ?_ ?_)<;>(intro h;try simp only [NM] at h)))<;>simp -dsimp (disch:=first|exact D|fail) only [go_sem,↓reduceIte,seval,aj,hv])|((with_reducible refine hK _ ?_);clear hK K)|refine Q1 ?_|((with_reducible refine qW (T:=TT) (b:=?_) ?_ ?_);rotate_left;exact rfl)|((with_reducible refine yS ?_ ?_)<;>(intro h;try simp only [NM] at h)))
 all_goals simp -dsimp (disch:=first|exact D|fail) only [aR,Tryz.results95,aQ,aS,aO,St.rest,St.freeze,RT,go_sem,↓reduceIte,seval]
 all_goals
  unfold B8 aw
  simp_all
theorem abn {a b c:aG} (h:combine a b=some c):c.Fits:=by
 unfold combine at h
 split at h
 ·cases h
 split at h
 ·injection h with h
  rw [←h]
  exact ⟨Dg.ae,Dg.BT,Dg.CQ,Dg.fk⟩
 split at h
 ·injection h with h
  rw [←h]
  exact ⟨Dg.ae,Dg.BT,Dg.CQ,Dg.fk⟩
 ·cases h
theorem PO:∀{l m:List aG},s4 l=some m→(∀x∈l,x.Fits)→∀x∈m,x.Fits
 | [],_,h,_=>by cases h
 | [_],_,h,_=>by cases h
 | a::b::r,m,h,hf=>by
  rw [s4] at h
  split at h
  ·injection h with h
   subst h
   exact fun x hx=>hf x (by simp [hx])
  split at h
  ·rename_i c hc
   injection h with h
   subst h
   intro x hx
   rcases List.mem_cons.1 hx with rfl|hx
   ·exact abn hc
   ·exact hf x (by simp [hx])
  ·cases hr:s4 (b::r) with
   | none=>rw [hr] at h;cases h
   | some q =>
    rw [hr] at h
    simp only [dv,Option.some.injEq] at h
    subst h
    intro x hx
    rcases List.mem_cons.1 hx with rfl|hx
    ·exact hf x (by simp)
    ·exact PO hr (fun y hy=>hf y (uW _ hy)) x hx
theorem abo {l:List aG} {k:Nat} (h:k+1<l.length):s4 (l.drop k)=if B8 l[k] l[k+1] then some (l.drop (k+2)) else match combine l[k] l[k+1] with
  | some c=>some (c::l.drop (k+2))
  | none=>(s4 (l.drop (k+1))).map (l[k]::·):=by
 rw [uV (show k<l.length by omega),uV h,s4]
 rfl
theorem abp {l:List aG} {k:Nat} (h:¬ k+1<l.length):s4 (l.drop k)=none:=by
 have:(l.drop k).length≤1:=by rw [wu];omega
 match l.drop k,this with
 | [],_=>rfl
 | [_],_=>rfl
theorem abq {l m:List aG} (h:s4 l=some m):m.length<l.length:=by
 induction l generalizing m with
 | nil=>cases h
 | cons a r ih =>
  cases r with
  | nil=>cases h
  | cons b r =>
   rw [s4] at h
   split at h
   ·injection h with h
    subst h
    simp only [bP]
    omega
   split at h
   ·injection h with h
    subst h
    simp only [bP]
    omega
   ·cases hr:s4 (b::r) with
    | none=>rw [hr] at h;cases h
    | some q =>
     rw [hr] at h
     simp only [dv,Option.some.injEq] at h
     subst h
     have:=ih hr
     simp only [bP] at this ⊢
     omega
theorem abr (l:List aG) (h1:l.length≤1048576) (h2:∀st∈l,st.Fits):Sat Tryz.prog 49 [.one (qv l)] (.cR [.one (qv ((s4 l).getD l)),oB (s4 l).isSome]):=by
 unfold qv
 refine ZE Tryz.func49 Tryz.ntmps49 fun w0 m0 F0=>?_
 refine pK Z0 Z0 ?_;repeat' (first|apply Zb|apply Zn|(apply Zm;intro h)|(apply Zk;intro K hK))
 refine ab.loop (ι:={k:Nat // k≤l.length∧s4 l=(s4 (l.drop k)).map (l.take k++·)}) (fun k=>⟨62,[(0,.v (.one (.sl 24 (l.map aj)))),(4,.v (oI k.1))],[],[]⟩) (fun k=>l.length - k.1) ⟨0,bg _,by simp⟩ ?_ fun ⟨k,hkl,hi⟩=>?_
 ·exact ZL (Z1 @s9)
 simp only at hkl hi ⊢
 rcases cV (k+1) l.length with hc|hc
 ·have q:=abo hc
  have w1:((k:Int)+1).toNat=k+1:=by omega
  have w2:((k:Int)+2).toNat=k+2:=by omega
  have lm:(l.map aj).length=l.length:=bw ..
  have g1:(l.map aj).getD k []=aj l[k]:=bJ _ _ _ (by omega)
  have g2:(l.map aj).getD (k+1) []=aj l[k+1]:=bJ _ _ _ hc
  obtain ⟨x,hx⟩:∃x,l[k]=x:=⟨_,rfl⟩
  obtain ⟨y,hy⟩:∃y,l[k+1]=y:=⟨_,rfl⟩
  rw [hx] at g1
  rw [hy] at g2
  rw [hx,hy] at q
  have c1:=abl x y
  have c2:=combine_sat x y
  have c3:=Ut (l.take k) (by rw [rV];omega) (fun st h=>h2 st (tv h))
  have c4:=Pu (l.drop (k+2)) (by rw [wu];omega) (fun st h=>h2 st (zB h))
  have lk:(l.take k).length=k:=by simp;omega
  rw [lk] at c3
  unfold qv at c3 c4
  have et:(l.map aj).take k=(l.take k).map aj:=List.map_take.symm
  have ed:(l.map aj).drop (k+2)=(l.drop (k+2)).map aj:=List.map_drop.symm
  cases hb:B8 x y with
  | true =>
   rw [hb,if_pos rfl] at q
   rw [q] at hi
   rw [hb] at c1
   rw [hi]
   repeat' (first|((first|with_reducible refine qV ah fun K hK=>?_|(refine ab.bC 4 ?_;refine dX ah mixed [(0,9)] [(9,[],[])] [9] 8 fun K hK=>?_;simp only [SG,bb] at hK ⊢)|(refine ab.bC 5 ?_;refine dX ah mixed [(0,3),(4,4)] [(3,[],[(4,4)]),(8,[],[]),(9,[],[]),(10,[(11,1)],[])] [3,8,9,10] 8 fun K hK=>?_;simp only [SG,bb] at hK ⊢)|refine Q2 ?_|((with_reducible first|refine qS ?_ ?_|refine qT ?_ ?_|refine qU ?_ ?_)<;>(intro h;try simp only [NM] at h))|((with_reducible refine ai.is ?_);refine ai.io [] [] [] [(2,27)] [] [27] [] [27] (c3) rfl ⟨rfl,rfl,rfl,rfl⟩ ?_ ?_ ?_;(focus (simp -dsimp (disch:=first|exact D|fail) only [go_sem,↓reduceIte,seval,aj,g1,g2,w1,w2,lm,lk,et,ed,av,bh,bt,bu];done));(focus (simp -dsimp (disch:=first|exact D|fail) only [go_sem,↓reduceIte,seval,aj,g1,g2,w1,w2,lm,lk,et,ed,av,bh,bt,bu];done)))|((with_reducible refine ai.is ?_);(first|refine ai.pure (c1) ?_|refine ai.pure (c4) ?_|((apply ai.cO);(focus (simp -dsimp (disch:=first|exact D|fail) only [go_sem,↓reduceIte,seval,aj,g1,g2,w1,w2,lm,lk,et,ed,av,bh,bt,bu];rfl));(focus (first|exact (c1)|exact (c4))))))|(with_reducible first|refine an.some fun K hK=>?_|refine an.step fun K hK=>?_))<;>simp -dsimp (disch:=first|exact D|fail) only [go_sem,↓reduceIte,seval,aj,g1,g2,w1,w2,lm,lk,et,ed,av,bh,bt,bu])|((with_reducible refine hK _ ?_);clear hK K)|(with_reducible refine an.intro fun K0 hK0=>?_)|((with_reducible refine an.fin ?_);(refine hK0 _ ?_);clear hK0 K0)|(with_reducible first|refine an.quiet ?_|refine an.none ?_)|((with_reducible refine an.keep ?_ ?_);focus ((simp -dsimp (disch:=first|exact D|fail) only [go_sem,↓reduceIte,seval,gE,gD,gF,gG,aj,g1,g2,w1,w2,lm,lk,et,ed,av,bh,bt,bu]);first|done|exact E|fail))|refine Q1 ?_|((with_reducible refine qW (T:=TT) (b:=?_) ?_ ?_);rotate_left;exact rfl)|((with_reducible refine yS ?_ ?_)<;>(intro h;try simp only [NM] at h)))
   refine ZR (Z1 Tryz.results49) ?_
   simp only [dv,eE,gU,dn,aJ,sV,aW,aZ,lk,br,if_true,KX]
  | false =>
   rw [hb] at q c1
   simp only [de,if_false] at q
   cases hm:combine x y with
   | some c =>
    rw [hm] at q c2
    have hj:s4 l=some (l.take k++c::l.drop (k+2)):=by rw [hi,q];rfl
    rw [hj]
    simp only [Ld,eE,gU] at c2
    refine rC (Z5 @aj.eq_1 @g1 @g2 @w1 @lm) (Z1 (c1)) (Z2 (Zs 6) (Zd 4 [(0,9)] [(9,[],[])] [9] 8)) Z0 ?_;repeat' (first|apply Zb|apply Zn|(apply Zm;intro h)|(apply Zk;intro K hK))
    refine ab.we ⟨62,[(0,.v (.one (.sl 24 (l.map aj)))),(4,.v (oI k)),(5,.v (.one (.ptr 5 0))),(6,.v (oB true))],[(5,aj c)],[]⟩ ?_ ?_
    ·refine dY ah mixed [(0,9)] (.cons 9 [(10,3)] [] (.cons 13 [] [(10,3)] (.cons 14 [(15,1)] [(12,1)] .leaf .none) .none) (.cons 13 [] [(0,9)] (.cons 9 [(10,3)] [] (.cons 14 [(15,1)] [(12,1)] .leaf .none) .none) .none)) [9,13,14] 8 fun K hK=>?_
     simp only [vT,vU,vV,bb,eo,dA,dV,c9,c8,dr,aW,aZ,bM] at hK ⊢
     refine ZU (Z5 @aj.eq_1 @g1 @g2 @w1 @lm) ?_
     refine rC (Z5 @aj.eq_1 @g1 @g2 @w1 @lm) (Z1 (c2)) (Z1 (Zs 7)) Z0 ?_;repeat' (first|apply Zb|apply Zn|(apply Zm;intro h)|(apply Zk;intro K hK))
     all_goals refine Gq.done ⟨rfl,?_⟩
     all_goals refine St.bN ?_ ?_ ?_<;>simp only [LE,EN,Nat.reduceEqDiff,reduceIte,Nat.reduceSub,aj]
    refine rC (Z1 @aj.eq_1) Z0 (Z1 (Zs 8)) Z0 ?_;repeat' (first|apply Zb|apply Zn|(apply Zm;intro h)|(apply Zk;intro K hK))
    refine ab.we ⟨62,[(2,.v (.one (.ref 2 0 (k+1+(l.drop (k+2)).length)))),(3,.v (oB true))],[],[(2,⟨24,(l.take k).map aj++aj c::(l.drop (k+2)).map aj,[]⟩)]⟩ ?_ ?_
    ·refine dY ah mixed [(0,3),(4,1),(7,4)] (.cons 3 [] [(4,1),(7,4)] (.cons 5 [] [(7,4)] (.cons 6 [] [(7,4)] (.cons 11 [] [] (.cons 12 [] [] (.cons 13 [(14,1)] [] .leaf .none) .none) .none) .none) .none) (.cons 5 [] [(0,3),(7,4)] (.cons 3 [] [(7,4)] (.cons 6 [] [(7,4)] (.cons 11 [] [] (.cons 12 [] [] (.cons 13 [(14,1)] [] .leaf .none) .none) .none) .none) .none) .none)) [3,5,6,11,12,13] 8 fun K hK=>?_
     simp only [vT,vU,vV,bb,eo,dA,dV,c9,c8,dr,aW,aZ,bM] at hK ⊢
     refine ZU (Z9 @aj.eq_1 @g1 @g2 @w1 @w2 @lm @lk @et @ed) ?_
     repeat' (first|((first|((fail_if_success (refine ab.bC 9 ?_));(with_reducible refine qV ah fun K hK=>?_))|refine Q2 ?_|((with_reducible first|refine qS ?_ ?_|refine qT ?_ ?_|refine qU ?_ ?_)<;>(intro h;try simp only [NM] at h))|((with_reducible refine ai.is ?_);refine ai.io [] [] [] [(2,51)] [] [51] [] [51] (c3) rfl ⟨rfl,rfl,rfl,rfl⟩ ?_ ?_ ?_;(focus (simp -dsimp (disch:=first|exact D|fail) only [go_sem,↓reduceIte,seval,aj,g1,g2,w1,w2,lm,lk,et,ed,av,bh,bt,bu];done));(focus (simp -dsimp (disch:=first|exact D|fail) only [go_sem,↓reduceIte,seval,aj,g1,g2,w1,w2,lm,lk,et,ed,av,bh,bt,bu];done)))|((with_reducible refine ai.is ?_);(first|refine ai.pure (c4) ?_|((apply ai.cO);(focus (simp -dsimp (disch:=first|exact D|fail) only [go_sem,↓reduceIte,seval,aj,g1,g2,w1,w2,lm,lk,et,ed,av,bh,bt,bu];rfl));(focus (first|exact (c4))))))|(with_reducible first|refine c6.some fun K hK=>?_|refine c6.step fun K hK=>?_))<;>simp -dsimp (disch:=first|exact D|fail) only [go_sem,↓reduceIte,seval,aj,g1,g2,w1,w2,lm,lk,et,ed,av,bh,bt,bu])|((with_reducible refine hK _ ?_);clear hK K)|(with_reducible refine c6.intro fun K0 hK0=>?_)|((with_reducible refine c6.fin ?_);(refine hK0 _ ?_);clear hK0 K0)|(with_reducible first|refine an.quiet ?_|refine c6.none ?_)|((with_reducible refine an.keep ?_ ?_);focus ((simp -dsimp (disch:=first|exact D|fail) only [go_sem,↓reduceIte,seval,gE,gD,gF,gG,aj,g1,g2,w1,w2,lm,lk,et,ed,av,bh,bt,bu]);first|done|exact E|fail))|((with_reducible refine c6.fork (fun K hK=>?_) ?_);(focus (simp -dsimp (disch:=first|exact D|fail) only [go_sem,↓reduceIte,seval,aj,g1,g2,w1,w2,lm,lk,et,ed,av,bh,bt,bu])))|refine Q1 ?_|((with_reducible refine qW (T:=TT) (b:=?_) ?_ ?_);rotate_left;exact rfl)|((with_reducible refine yS ?_ ?_)<;>(intro h;try simp only [NM] at h)))
     all_goals refine Gq.done ⟨rfl,?_⟩
     all_goals refine St.bN ?_ ?_ ?_<;>simp only [LE,EN,Nat.reduceEqDiff,reduceIte,Nat.reduceSub,aj,sV,aW,aZ]
    refine pK Z0 Z0 ?_;repeat' (first|apply Zb|apply Zn|(apply Zm;intro h)|(apply Zk;intro K hK))
    refine ZR (Z1 Tryz.results49) ?_
    rw [if_pos (by simp;omega)]
    simp only [dv,eE,gU,dn,aJ,KX]
    rfl
   | none =>
    rw [hm] at q c2
    have hj:s4 l=(s4 (l.drop (k+1))).map (l.take (k+1)++·):=by
     rw [hi,q]
     simp only [Option.map_map]
     congr 1
     funext m
     show l.take k++x::m=_
     rw [qd l k (by omega),sV,hx]
     rfl
    simp only [Ld,av,HK] at c2
    refine rC (Z5 @aj.eq_1 @g1 @g2 @w1 @lm) (Z1 (c1)) (Z2 (Zs 6) (Zd 4 [(0,9)] [(9,[],[])] [9] 8)) Z0 ?_;repeat' (first|apply Zb|apply Zn|(apply Zm;intro h)|(apply Zk;intro K hK))
    refine ab.we ⟨62,[(0,.v (.one (.sl 24 (l.map aj)))),(4,.v (oI k)),(5,.v (.one (.ptr 5 0))),(6,.v (oB false))],[(5,aj rQ)],[]⟩ ?_ ?_
    ·refine dY ah mixed [(0,9)] (.cons 9 [(10,3)] [] (.cons 13 [] [(10,3)] (.cons 14 [(15,1)] [(12,1)] .leaf .none) .none) (.cons 13 [] [(0,9)] (.cons 9 [(10,3)] [] (.cons 14 [(15,1)] [(12,1)] .leaf .none) .none) .none)) [9,13,14] 8 fun K hK=>?_
     simp only [vT,vU,vV,bb,eo,dA,dV,c9,c8,dr,aW,aZ,bM] at hK ⊢
     refine ZU (Z5 @aj.eq_1 @g1 @g2 @w1 @lm) ?_
     refine rC (Z5 @aj.eq_1 @g1 @g2 @w1 @lm) (Z1 (c2)) (Z1 (Zs 7)) Z0 ?_;repeat' (first|apply Zb|apply Zn|(apply Zm;intro h)|(apply Zk;intro K hK))
     all_goals refine Gq.done ⟨rfl,?_⟩
     all_goals refine St.bN ?_ ?_ ?_<;>simp only [LE,EN,Nat.reduceEqDiff,reduceIte,Nat.reduceSub,aj]
    refine pK Z0 Z0 ?_;repeat' (first|apply Zb|apply Zn|(apply Zm;intro h)|(apply Zk;intro K hK))
    refine ⟨⟨k+1,by omega,hj⟩,by simp only;omega,?_⟩
    exact ZL (Z2 @iy @pO)
 ·have q:=abp (l:=l) (k:=k) (by omega)
  rw [q] at hi
  have hi:s4 l=none:=hi
  rw [hi]
  refine pK Z0 Z0 ?_;repeat' (first|apply Zb|apply Zn|(apply Zm;intro h)|(apply Zk;intro K hK))
  refine ZR (Z1 Tryz.results49) ?_
  rfl
theorem V6:∀{n:Nat} {l:List aG},(∀x∈l,x.Fits)→∀x∈uU n l,x.Fits
 | 0,l,h=>h
 | n+1,l,h=>by
  rw [uU]
  split
  ·rename_i m hm
   exact V6 (PO hm h)
  ·exact h
end Go.Bw
