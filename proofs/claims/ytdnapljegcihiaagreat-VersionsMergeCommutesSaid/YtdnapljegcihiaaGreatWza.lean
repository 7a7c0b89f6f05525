/-
  WHAT IS PROVED HERE, of this translation: verSchema_sat, path_sat.
  A theorem that ends in sat says what the function it names returns, whatever the state it is called in; the bounds on its arguments stand ahead of it.
-/
import Derived.Test.YtdnapljegcihiaaGreatWy
set_option linter.unusedSimpArgs false
set_option linter.unusedVariables false
namespace Go.Bw
open Go.Proofs
set_option maxHeartbeats 16000000 in
theorem verSchema_sat (g:Gr) (v:Int) (hg:g.Fits):Sat Tryz.prog 17 [.agg (eGr g),oI v] (.tup [.agg (eSch (sOut (verSchema g v))),oI (rE (verSchema g v))]):=by
 have c:=verSchemas_sat g hg
 unfold eSchs at c
 cases hR:verSchemas g with
 | error e =>
  have spec:verSchema g v=.error e:=by unfold verSchema;rw [hR]
  have he:=verSchemas_ne hR
  rw [hR] at c
  rw [spec]
  unfold lOut rE at c
  unfold sOut rE
  simp only at c ⊢
  refine sS tyOk Tryz.func17 fun w0 m0 F0=>?_
  simp only [Tryz.ntmps17,envOf,Nat.reduceAdd]
  repeat' (first|((first|with_reducible refine qV tyOk fun K hK=>?_|refine Q2 ?_|((with_reducible first|refine qS ?_ ?_|refine qT ?_ ?_|refine qU ?_ ?_)<;>(intro h;try simp only [NM] at h))|with_reducible refine yD tyOk mixed 6 (by kernel_rfl) fun K hK=>?_|((with_reducible refine CallJ.is ?_);(first|refine CallJ.pure (c) ?_|((apply CallJ.lentI);(focus (simp -dsimp (disch:=first|exact D|fail) only [go_sem,↓reduceIte,seval,eGr,eEdgs,eSch,he];rfl));(focus (first|exact (c))))))|((with_reducible refine CallH.is ?_);(first|refine CallH.intro (c) ?_)))<;>simp -dsimp (disch:=first|exact D|fail) only [go_sem,↓reduceIte,seval,eGr,eEdgs,eSch,he])|((with_reducible refine hK _ ?_);clear hK K)|refine Q1 ?_|((with_reducible refine qW (T:=TT) (b:=?_) ?_ ?_);rotate_left;exact rfl)|((with_reducible refine yS ?_ ?_)<;>(intro h;try simp only [NM] at h)))
  simp -dsimp (disch:=first|exact D|fail) only [retQ,Tryz.results17,resVals,cellRV,resOf,St.rest,St.freeze,RT,go_sem,↓reduceIte,seval]
 | ok O =>
  obtain ⟨_,_,hz,lO⟩:=verSchemas_ok hR
  rw [hR] at c
  unfold lOut rE at c
  simp only at c
  by_cases h1:v<0
  ·have spec:verSchema g v=.error 1:=by unfold verSchema;rw [hR];simp only;rw [if_pos (.inl h1)]
   rw [spec]
   unfold sOut rE
   simp only
   refine sS tyOk Tryz.func17 fun w0 m0 F0=>?_
   simp only [Tryz.ntmps17,envOf,Nat.reduceAdd]
   repeat' (first|((first|with_reducible refine qV tyOk fun K hK=>?_|refine Q2 ?_|((with_reducible first|refine qS ?_ ?_|refine qT ?_ ?_|refine qU ?_ ?_)<;>(intro h;try simp only [NM] at h))|with_reducible refine yD tyOk mixed 6 (by kernel_rfl) fun K hK=>?_|((with_reducible refine CallJ.is ?_);(first|refine CallJ.pure (c) ?_|((apply CallJ.lentI);(focus (simp -dsimp (disch:=first|exact D|fail) only [go_sem,↓reduceIte,seval,eGr,eEdgs,eSch];rfl));(focus (first|exact (c))))))|((with_reducible refine CallH.is ?_);(first|refine CallH.intro (c) ?_)))<;>simp -dsimp (disch:=first|exact D|fail) only [go_sem,↓reduceIte,seval,eGr,eEdgs,eSch])|((with_reducible refine hK _ ?_);clear hK K)|refine Q1 ?_|((with_reducible refine qW (T:=TT) (b:=?_) ?_ ?_);rotate_left;exact rfl)|((with_reducible refine yS ?_ ?_)<;>(intro h;try simp only [NM] at h)))
   simp -dsimp (disch:=first|exact D|fail) only [retQ,Tryz.results17,resVals,cellRV,resOf,St.rest,St.freeze,RT,go_sem,↓reduceIte,seval]
  by_cases h2:(O.length:Int)≤v
  ·have spec:verSchema g v=.error 1:=by unfold verSchema;rw [hR];simp only;rw [if_pos (.inr h2)]
   rw [spec]
   unfold sOut rE
   simp only
   refine sS tyOk Tryz.func17 fun w0 m0 F0=>?_
   simp only [Tryz.ntmps17,envOf,Nat.reduceAdd]
   repeat' (first|((first|with_reducible refine qV tyOk fun K hK=>?_|refine Q2 ?_|((with_reducible first|refine qS ?_ ?_|refine qT ?_ ?_|refine qU ?_ ?_)<;>(intro h;try simp only [NM] at h))|with_reducible refine yD tyOk mixed 6 (by kernel_rfl) fun K hK=>?_|((with_reducible refine CallJ.is ?_);(first|refine CallJ.pure (c) ?_|((apply CallJ.lentI);(focus (simp -dsimp (disch:=first|exact D|fail) only [go_sem,↓reduceIte,seval,eGr,eEdgs,eSch];rfl));(focus (first|exact (c))))))|((with_reducible refine CallH.is ?_);(first|refine CallH.intro (c) ?_)))<;>simp -dsimp (disch:=first|exact D|fail) only [go_sem,↓reduceIte,seval,eGr,eEdgs,eSch])|((with_reducible refine hK _ ?_);clear hK K)|refine Q1 ?_|((with_reducible refine qW (T:=TT) (b:=?_) ?_ ?_);rotate_left;exact rfl)|((with_reducible refine yS ?_ ?_)<;>(intro h;try simp only [NM] at h)))
   simp -dsimp (disch:=first|exact D|fail) only [retQ,Tryz.results17,resVals,cellRV,resOf,St.rest,St.freeze,RT,go_sem,↓reduceIte,seval]
  obtain ⟨q,rfl⟩:∃q:Nat,v=(q:Int):=⟨v.toNat,by omega⟩
  have hq:q<O.length:=by omega
  have spec:verSchema g (q:Int)=.ok (O.getD q zSch):=by unfold verSchema;rw [hR];simp only;rw [if_neg (by omega),Int.toNat_natCast]
  have gO:(O.map eSch).getD q []=eSch (O.getD q zSch):=by rw [getD_map_lt _ _ _ hq,getD_lt _ hq]
  rw [spec]
  unfold sOut rE
  simp only
  refine sS tyOk Tryz.func17 fun w0 m0 F0=>?_
  simp only [Tryz.ntmps17,envOf,Nat.reduceAdd]
  repeat' (first|((first|with_reducible refine qV tyOk fun K hK=>?_|refine Q2 ?_|((with_reducible first|refine qS ?_ ?_|refine qT ?_ ?_|refine qU ?_ ?_)<;>(intro h;try simp only [NM] at h))|with_reducible refine yD tyOk mixed 6 (by kernel_rfl) fun K hK=>?_|((with_reducible refine CallJ.is ?_);(first|refine CallJ.pure (c) ?_|((apply CallJ.lentI);(focus (simp -dsimp (disch:=first|exact D|fail) only [go_sem,↓reduceIte,seval,eGr,eEdgs,eSch,gO,Option.getD_none];rfl));(focus (first|exact (c))))))|((with_reducible refine CallH.is ?_);(first|refine CallH.intro (c) ?_)))<;>simp -dsimp (disch:=first|exact D|fail) only [go_sem,↓reduceIte,seval,eGr,eEdgs,eSch,gO,Option.getD_none])|((with_reducible refine hK _ ?_);clear hK K)|refine Q1 ?_|((with_reducible refine qW (T:=TT) (b:=?_) ?_ ?_);rotate_left;exact rfl)|((with_reducible refine yS ?_ ?_)<;>(intro h;try simp only [NM] at h)))
  simp -dsimp (disch:=first|exact D|fail) only [retQ,Tryz.results17,resVals,cellRV,resOf,St.rest,St.freeze,RT,go_sem,↓reduceIte,seval]
set_option maxHeartbeats 32000000 in
theorem path_sat (g:Gr) (a b:Int) (hg:g.Fits):Sat Tryz.prog 9 [.agg (eGr g),oI a,oI b] (.tup [.one (eHps (hOut (verPath g a b))),oI (rE (verPath g a b))]):=by
 have ca:=verSchema_sat g a hg
 have cb:=verSchema_sat g b hg
 unfold eHps
 cases ha:verSchema g a with
 | error e =>
  have spec:verPath g a b=.error e:=by unfold verPath;rw [ha]
  have he:=verSchema_ne ha
  rw [ha] at ca
  rw [spec]
  unfold sOut rE at ca
  unfold hOut rE
  simp only at ca ⊢
  refine sS tyOk Tryz.func9 fun w0 m0 F0=>?_
  simp only [Tryz.ntmps9,envOf,Nat.reduceAdd]
  repeat' (first|((first|with_reducible refine qV tyOk fun K hK=>?_|refine Q2 ?_|((with_reducible first|refine qS ?_ ?_|refine qT ?_ ?_|refine qU ?_ ?_)<;>(intro h;try simp only [NM] at h)))<;>simp -dsimp (disch:=first|exact D|fail) only [go_sem,↓reduceIte,seval,eGr,eEdgs])|((with_reducible refine hK _ ?_);clear hK K)|refine Q1 ?_|((with_reducible refine qW (T:=TT) (b:=?_) ?_ ?_);rotate_left;exact rfl)|((with_reducible refine yS ?_ ?_)<;>(intro h;try simp only [NM] at h)))
  refine AWP.loop (ι:=Unit) (fun _=>⟨78,[(3,.v (.one (.ptr 3 0))),(7,.v (oI 0)),(20,.v (.one (.ref 20 0 2))),(21,.v (oI 2)),(22,.v (oI 0))],[(3,eGr g)],[(20,⟨1,[[.int .i64 a],[.int .i64 b]],[]⟩)]⟩) (fun _=>0) () ?_ fun _=>?_
  ·refine St.le_mk ?_ ?_ ?_<;>simp only [LE,EN,Nat.reduceEqDiff,reduceIte,Nat.reduceSub,eGr,eEdgs]
  have g0:([[.int .i64 a],[.int .i64 b]]:List (List L)).getD 0 []=[.int .i64 a]:=rfl
  repeat' (first|((first|with_reducible refine qV tyOk fun K hK=>?_|refine Q2 ?_|((with_reducible first|refine qS ?_ ?_|refine qT ?_ ?_|refine qU ?_ ?_)<;>(intro h;try simp only [NM] at h))|((with_reducible refine CallJ.is ?_);(first|refine CallJ.pure (ca) ?_|((apply CallJ.lentI);(focus (simp -dsimp (disch:=first|exact D|fail) only [go_sem,↓reduceIte,seval,eGr,eEdgs,eSch,g0,he,Option.getD_none];rfl));(focus (first|exact (ca)))))))<;>simp -dsimp (disch:=first|exact D|fail) only [go_sem,↓reduceIte,seval,eGr,eEdgs,eSch,g0,he,Option.getD_none])|((with_reducible refine hK _ ?_);clear hK K)|refine Q1 ?_|((with_reducible refine qW (T:=TT) (b:=?_) ?_ ?_);rotate_left;exact rfl)|((with_reducible refine yS ?_ ?_)<;>(intro h;try simp only [NM] at h)))
  simp -dsimp (disch:=first|exact D|fail) only [retQ,Tryz.results9,resVals,cellRV,resOf,St.rest,St.freeze,RT,go_sem,↓reduceIte,seval]
 | ok sa =>
 cases hb:verSchema g b with
 | error e =>
  have spec:verPath g a b=.error e:=by unfold verPath;rw [ha];simp only;rw [hb]
  have he:=verSchema_ne hb
  rw [ha] at ca
  rw [hb] at cb
  rw [spec]
  unfold sOut rE at ca cb
  unfold hOut rE
  simp only at ca cb ⊢
  refine sS tyOk Tryz.func9 fun w0 m0 F0=>?_
  simp only [Tryz.ntmps9,envOf,Nat.reduceAdd]
  repeat' (first|((first|with_reducible refine qV tyOk fun K hK=>?_|refine Q2 ?_|((with_reducible first|refine qS ?_ ?_|refine qT ?_ ?_|refine qU ?_ ?_)<;>(intro h;try simp only [NM] at h)))<;>simp -dsimp (disch:=first|exact D|fail) only [go_sem,↓reduceIte,seval,eGr,eEdgs])|((with_reducible refine hK _ ?_);clear hK K)|refine Q1 ?_|((with_reducible refine qW (T:=TT) (b:=?_) ?_ ?_);rotate_left;exact rfl)|((with_reducible refine yS ?_ ?_)<;>(intro h;try simp only [NM] at h)))
  refine AWP.loop (ι:=Bool) (fun k=>⟨78,[(3,.v (.one (.ptr 3 0))),(7,.v (oI 0)),(20,.v (.one (.ref 20 0 2))),(21,.v (oI 2)),(22,.v (oI (if k then 1 else 0)))],[(3,eGr g)],[(20,⟨1,[[.int .i64 a],[.int .i64 b]],[]⟩)]⟩) (fun k=>if k then 0 else 1) false ?_ fun k=>?_
  ·refine St.le_mk ?_ ?_ ?_<;>simp only [LE,EN,Nat.reduceEqDiff,reduceIte,Nat.reduceSub,eGr,eEdgs,Bool.false_eq_true,if_false]
  have g0:([[.int .i64 a],[.int .i64 b]]:List (List L)).getD 0 []=[.int .i64 a]:=rfl
  have g1:([[.int .i64 a],[.int .i64 b]]:List (List L)).getD 1 []=[.int .i64 b]:=rfl
  cases k with
  | false =>
   simp only [Bool.false_eq_true,if_false]
   repeat' (first|((first|with_reducible refine qV tyOk fun K hK=>?_|refine Q2 ?_|((with_reducible first|refine qS ?_ ?_|refine qT ?_ ?_|refine qU ?_ ?_)<;>(intro h;try simp only [NM] at h))|((with_reducible refine CallJ.is ?_);(first|refine CallJ.pure (ca) ?_|((apply CallJ.lentI);(focus (simp -dsimp (disch:=first|exact D|fail) only [go_sem,↓reduceIte,seval,eGr,eEdgs,eSch,g0,Option.getD_none];rfl));(focus (first|exact (ca)))))))<;>simp -dsimp (disch:=first|exact D|fail) only [go_sem,↓reduceIte,seval,eGr,eEdgs,eSch,g0,Option.getD_none])|((with_reducible refine hK _ ?_);clear hK K)|refine Q1 ?_|((with_reducible refine qW (T:=TT) (b:=?_) ?_ ?_);rotate_left;exact rfl)|((with_reducible refine yS ?_ ?_)<;>(intro h;try simp only [NM] at h)))
   refine ⟨true,by simp,?_⟩
   refine St.le_mk ?_ ?_ ?_<;>simp only [LE,EN,Nat.reduceEqDiff,reduceIte,Nat.reduceSub,eGr,eEdgs,if_true]
  | true =>
   simp only [if_true]
   repeat' (first|((first|with_reducible refine qV tyOk fun K hK=>?_|refine Q2 ?_|((with_reducible first|refine qS ?_ ?_|refine qT ?_ ?_|refine qU ?_ ?_)<;>(intro h;try simp only [NM] at h))|((with_reducible refine CallJ.is ?_);(first|refine CallJ.pure (cb) ?_|((apply CallJ.lentI);(focus (simp -dsimp (disch:=first|exact D|fail) only [go_sem,↓reduceIte,seval,eGr,eEdgs,eSch,g1,he,Option.getD_none];rfl));(focus (first|exact (cb)))))))<;>simp -dsimp (disch:=first|exact D|fail) only [go_sem,↓reduceIte,seval,eGr,eEdgs,eSch,g1,he,Option.getD_none])|((with_reducible refine hK _ ?_);clear hK K)|refine Q1 ?_|((with_reducible refine qW (T:=TT) (b:=?_) ?_ ?_);rotate_left;exact rfl)|((with_reducible refine yS ?_ ?_)<;>(intro h;try simp only [NM] at h)))
   simp -dsimp (disch:=first|exact D|fail) only [retQ,Tryz.results9,resVals,cellRV,resOf,St.rest,St.freeze,RT,go_sem,↓reduceIte,seval]
 | ok sb =>
 obtain ⟨O,hO,a0,a1,_⟩:=verSchema_ok ha
 obtain ⟨O',hO',b0,b1,_⟩:=verSchema_ok hb
 rw [hO] at hO'
 injection hO' with hO'
 subst hO'
 obtain ⟨hlt,_,_,lO⟩:=verSchemas_ok hO
 obtain ⟨x,rfl⟩:∃x:Nat,a=(x:Int):=⟨a.toNat,by omega⟩
 obtain ⟨y,rfl⟩:∃y:Nat,b=(y:Int):=⟨b.toNat,by omega⟩
 have hx:x≤g.edges.length:=by omega
 have hy:y≤g.edges.length:=by omega
 have ok:=grOk_of hO
 have hP:Falls (parN g) g.edges.length:=ok.par
 have spec:verPath g x y=.ok (pathL (parN g) x y):=by unfold verPath;rw [ha];simp only;rw [hb];simp only [Int.toNat_natCast]
 rw [ha] at ca
 rw [hb] at cb
 rw [spec]
 unfold sOut rE at ca cb
 unfold hOut rE
 simp only at ca cb ⊢
 have an:=ancestors_sat g x ok hx (by omega)
 obtain ⟨u,hu⟩:∃u,anc (parN g) x=u:=⟨_,rfl⟩
 have u0:0∈u:=by rw [←hu];exact anc_has0 hP hx
 have lu:u.length≤8:=by have:=anc_len (parN g) x;rw [hu] at this;omega
 have ule:∀v∈u,v≤x:=fun v hv=>anc_le (hu▸hv)
 obtain ⟨Dw,hD⟩:∃Dw,(climb (parN g) u y).1=Dw:=⟨_,rfl⟩
 obtain ⟨M,hM⟩:∃M,(climb (parN g) u y).2=M:=⟨_,rfl⟩
 have Min:M∈u:=by rw [←hM];exact climb_end hP u0 hy
 have lD:Dw.length≤8:=by have:=climb_len (P:=parN g) (u:=u) y;rw [hD] at this;omega
 have ud:u.Pairwise (· > ·):=by rw [←hu];exact anc_down x
 obtain ⟨Dn,hDn⟩:∃Dn,(Dw.map fun e=>(⟨e,false⟩:Hp))=Dn:=⟨_,rfl⟩
 have lDn:Dn.length=Dw.length:=by rw [←hDn,List.length_map]
 unfold pathL
 rw [hu,hD,hM]
 rw [hu] at an
 have lnu:(natI u).length=u.length:=natI_len u
 refine sS tyOk Tryz.func9 fun w0 m0 F0=>?_
 simp only [Tryz.ntmps9,envOf,Nat.reduceAdd]
 repeat' (first|((first|with_reducible refine qV tyOk fun K hK=>?_|refine Q2 ?_|((with_reducible first|refine qS ?_ ?_|refine qT ?_ ?_|refine qU ?_ ?_)<;>(intro h;try simp only [NM] at h)))<;>simp -dsimp (disch:=first|exact D|fail) only [go_sem,↓reduceIte,seval,eGr,eEdgs])|((with_reducible refine hK _ ?_);clear hK K)|refine Q1 ?_|((with_reducible refine qW (T:=TT) (b:=?_) ?_ ?_);rotate_left;exact rfl)|((with_reducible refine yS ?_ ?_)<;>(intro h;try simp only [NM] at h)))
 refine AWP.midB ⟨78,[(1,.v (oI x)),(2,.v (oI y)),(3,.v (.one (.ptr 3 0))),(7,.v (oI 0))],[(3,eGr g)],[]⟩ ?_ ?_
 ·refine AWP.loop (ι:={k:Nat // k≤2}) (fun k=>⟨78,[(1,.v (oI x)),(2,.v (oI y)),(3,.v (.one (.ptr 3 0))),(7,.v (oI 0)),(20,.v (.one (.ref 20 0 2))),(21,.v (oI 2)),(22,.v (oI k.1))],[(3,eGr g)],[(20,⟨1,[[.int .i64 x],[.int .i64 y]],[]⟩)]⟩) (fun k=>2 - k.1) ⟨0,by omega⟩ ?_ fun ⟨k,hk⟩=>?_
  ·refine St.le_mk ?_ ?_ ?_<;>simp only [LE,EN,Nat.reduceEqDiff,reduceIte,Nat.reduceSub,eGr,eEdgs,Int.natCast_zero]
  have g0:([[.int .i64 x],[.int .i64 y]]:List (List L)).getD 0 []=[.int .i64 x]:=rfl
  have g1:([[.int .i64 x],[.int .i64 y]]:List (List L)).getD 1 []=[.int .i64 y]:=rfl
  have c2:((2:Nat):Int)=2:=rfl
  simp only at hk ⊢
  rcases (show k=0∨k=1∨k=2 by omega) with rfl|rfl|rfl
  ·repeat' (first|((first|with_reducible refine qV tyOk fun K hK=>?_|refine Q2 ?_|((with_reducible first|refine qS ?_ ?_|refine qT ?_ ?_|refine qU ?_ ?_)<;>(intro h;try simp only [NM] at h))|((with_reducible refine CallJ.is ?_);(first|refine CallJ.pure (ca) ?_|((apply CallJ.lentI);(focus (simp -dsimp (disch:=first|exact D|fail) only [go_sem,↓reduceIte,seval,eGr,eEdgs,eSch,g0,Option.getD_none,Int.natCast_zero];rfl));(focus (first|exact (ca)))))))<;>simp -dsimp (disch:=first|exact D|fail) only [go_sem,↓reduceIte,seval,eGr,eEdgs,eSch,g0,Option.getD_none,Int.natCast_zero])|((with_reducible refine hK _ ?_);clear hK K)|refine Q1 ?_|((with_reducible refine qW (T:=TT) (b:=?_) ?_ ?_);rotate_left;exact rfl)|((with_reducible refine yS ?_ ?_)<;>(intro h;try simp only [NM] at h)))
   refine ⟨⟨1,by omega⟩,by simp only;omega,?_⟩
   refine St.le_mk ?_ ?_ ?_<;>simp only [LE,EN,Nat.reduceEqDiff,reduceIte,Nat.reduceSub,eGr,eEdgs,Int.natCast_one]
  ·repeat' (first|((first|with_reducible refine qV tyOk fun K hK=>?_|refine Q2 ?_|((with_reducible first|refine qS ?_ ?_|refine qT ?_ ?_|refine qU ?_ ?_)<;>(intro h;try simp only [NM] at h))|((with_reducible refine CallJ.is ?_);(first|refine CallJ.pure (cb) ?_|((apply CallJ.lentI);(focus (simp -dsimp (disch:=first|exact D|fail) only [go_sem,↓reduceIte,seval,eGr,eEdgs,eSch,g1,Option.getD_none,Int.natCast_one];rfl));(focus (first|exact (cb)))))))<;>simp -dsimp (disch:=first|exact D|fail) only [go_sem,↓reduceIte,seval,eGr,eEdgs,eSch,g1,Option.getD_none,Int.natCast_one])|((with_reducible refine hK _ ?_);clear hK K)|refine Q1 ?_|((with_reducible refine qW (T:=TT) (b:=?_) ?_ ?_);rotate_left;exact rfl)|((with_reducible refine yS ?_ ?_)<;>(intro h;try simp only [NM] at h)))
   refine ⟨⟨2,by omega⟩,by simp only;omega,?_⟩
   refine St.le_mk ?_ ?_ ?_<;>simp only [LE,EN,Nat.reduceEqDiff,reduceIte,Nat.reduceSub,eGr,eEdgs,c2]
  ·repeat' (first|((first|with_reducible refine qV tyOk fun K hK=>?_|refine Q2 ?_|((with_reducible first|refine qS ?_ ?_|refine qT ?_ ?_|refine qU ?_ ?_)<;>(intro h;try simp only [NM] at h)))<;>simp -dsimp (disch:=first|exact D|fail) only [go_sem,↓reduceIte,seval,c2])|((with_reducible refine hK _ ?_);clear hK K)|refine Q1 ?_|((with_reducible refine qW (T:=TT) (b:=?_) ?_ ?_);rotate_left;exact rfl)|((with_reducible refine yS ?_ ?_)<;>(intro h;try simp only [NM] at h)))
   refine Gq.done ⟨rfl,?_⟩
   refine St.le_mk ?_ ?_ ?_<;>simp only [LE,EN,Nat.reduceEqDiff,reduceIte,Nat.reduceSub,eGr,eEdgs]
 repeat' (first|((first|with_reducible refine qV tyOk fun K hK=>?_|refine Q2 ?_|((with_reducible first|refine qS ?_ ?_|refine qT ?_ ?_|refine qU ?_ ?_)<;>(intro h;try simp only [NM] at h))|((with_reducible refine CallJ.is ?_);(first|refine CallJ.pure (an) ?_|((apply CallJ.lentI);(focus (simp -dsimp (disch:=first|exact D|fail) only [go_sem,↓reduceIte,seval,eGr,eEdgs];rfl));(focus (first|exact (an)))))))<;>simp -dsimp (disch:=first|exact D|fail) only [go_sem,↓reduceIte,seval,eGr,eEdgs])|((with_reducible refine hK _ ?_);clear hK K)|refine Q1 ?_|((with_reducible refine qW (T:=TT) (b:=?_) ?_ ?_);rotate_left;exact rfl)|((with_reducible refine yS ?_ ?_)<;>(intro h;try simp only [NM] at h)))
 refine AWP.midB ⟨78,[(7,.v (oI 0)),(12,.v (.one (.sl 1 ((natI u).map eInt1)))),(13,.v (.one (.ref 13 0 0))),(14,.v (.one (.ref 14 0 Dw.length))),(15,.v (oI M))],[(3,eGr g)],[(13,⟨2,[],[]⟩),(14,⟨2,(Dw.map fun e=>(⟨e,false⟩:Hp)).map eHp,[]⟩)]⟩ ?_ ?_
 ·refine AWP.loop (ι:={p:Nat×List Nat // p.1≤y∧p.2.length+p.1≤y∧p.2++(climb (parN g) u p.1).1=Dw∧(climb (parN g) u p.1).2=M}) (fun p=>⟨78,[(3,.v (.one (.ptr 3 0))),(7,.v (oI 0)),(12,.v (.one (.sl 1 ((natI u).map eInt1)))),(13,.v (.one (.ref 13 0 0))),(14,.v (.one (.ref 14 0 p.1.2.length))),(15,.v (oI p.1.1))],[(3,eGr g)],[(13,⟨2,[],[]⟩),(14,⟨2,(p.1.2.map fun e=>(⟨e,false⟩:Hp)).map eHp,[]⟩)]⟩) (fun p=>p.1.1) ⟨(y,[]),Nat.le_refl _,by simp,hD,hM⟩ ?_ fun ⟨⟨m,d⟩,hm,hd,hmD,hmM⟩=>?_
  ·refine St.le_mk ?_ ?_ ?_<;>simp only [LE,EN,Nat.reduceEqDiff,reduceIte,Nat.reduceSub,eGr,eEdgs,List.length_nil,List.map_nil]
  simp only at hm hd hmD hmM ⊢
  have ct:=containsInt_sat (natI u) m (by omega)
  rw [elem_natI] at ct
  by_cases hin:m∈u
  ·rw [decide_eq_true hin] at ct
   rw [climb_in hin] at hmD hmM
   simp only [List.append_nil] at hmD hmM
   subst hmD hmM
   repeat' (first|((first|with_reducible refine qV tyOk fun K hK=>?_|refine Q2 ?_|((with_reducible first|refine qS ?_ ?_|refine qT ?_ ?_|refine qU ?_ ?_)<;>(intro h;try simp only [NM] at h))|((with_reducible refine CallJ.is ?_);(first|refine CallJ.pure (ct) ?_|((apply CallJ.lentI);(focus (simp -dsimp (disch:=first|exact D|fail) only [go_sem,↓reduceIte,seval];rfl));(focus (first|exact (ct)))))))<;>simp -dsimp (disch:=first|exact D|fail) only [go_sem,↓reduceIte,seval])|((with_reducible refine hK _ ?_);clear hK K)|refine Q1 ?_|((with_reducible refine qW (T:=TT) (b:=?_) ?_ ?_);rotate_left;exact rfl)|((with_reducible refine yS ?_ ?_)<;>(intro h;try simp only [NM] at h)))
   refine Gq.done ⟨rfl,?_⟩
   refine St.le_mk ?_ ?_ ?_<;>simp only [LE,EN,Nat.reduceEqDiff,reduceIte,Nat.reduceSub,eGr,eEdgs]
  ·rw [decide_eq_false hin] at ct
   have m0:0<m:=by
    rcases Nat.eq_zero_or_pos m with h0|h0
    ·exact absurd (h0▸u0) hin
    ·exact h0
   have hp:=ok.par m m0 (by omega)
   rw [climb_out hin m0 hp] at hmD hmM
   simp only at hmD hmM
   have ge:=getD_edge ok m0 (by omega)
   have w1:((m:Int) - 1).toNat=m - 1:=by omega
   have w2:(m:Int) - 1=((m - 1:Nat):Int):=by omega
   repeat' (first|((first|with_reducible refine qV tyOk fun K hK=>?_|refine Q2 ?_|((with_reducible first|refine qS ?_ ?_|refine qT ?_ ?_|refine qU ?_ ?_)<;>(intro h;try simp only [NM] at h))|((with_reducible refine CallJ.is ?_);(first|refine CallJ.pure (ct) ?_|((apply CallJ.lentI);(focus (simp -dsimp (disch:=first|exact D|fail) only [go_sem,↓reduceIte,seval,eGr,eEdgs,ge,w2,Int.toNat_natCast,Option.getD_none];rfl));(focus (first|exact (ct)))))))<;>simp -dsimp (disch:=first|exact D|fail) only [go_sem,↓reduceIte,seval,eGr,eEdgs,ge,w2,Int.toNat_natCast,Option.getD_none])|((with_reducible refine hK _ ?_);clear hK K)|refine Q1 ?_|((with_reducible refine qW (T:=TT) (b:=?_) ?_ ?_);rotate_left;exact rfl)|((with_reducible refine yS ?_ ?_)<;>(intro h;try simp only [NM] at h)))
   refine ⟨⟨(parN g m,d++[m - 1]),by simp only;omega,by simp;omega,by simpa using hmD,hmM⟩,by simp only;omega,?_⟩
   refine St.le_mk ?_ ?_ ?_<;>simp only [LE,EN,Nat.reduceEqDiff,reduceIte,Nat.reduceSub,eGr,eEdgs,eHp,List.map_append,List.map_cons,List.map_nil,List.length_append,List.length_cons,List.length_nil,Nat.zero_add]
 repeat' (first|((first|with_reducible refine qV tyOk fun K hK=>?_|refine Q2 ?_|((with_reducible first|refine qS ?_ ?_|refine qT ?_ ?_|refine qU ?_ ?_)<;>(intro h;try simp only [NM] at h)))<;>simp -dsimp (disch:=first|exact D|fail) only [go_sem,↓reduceIte,seval])|((with_reducible refine hK _ ?_);clear hK K)|refine Q1 ?_|((with_reducible refine qW (T:=TT) (b:=?_) ?_ ?_);rotate_left;exact rfl)|((with_reducible refine yS ?_ ?_)<;>(intro h;try simp only [NM] at h)))
 have tw:∀k,(∀j,∀q:j<k,∀r:j<u.length,u[j]≠M)→∀j,∀q:j<k,∀r:j<u.length,(u[j] != M)=true:=fun k h j q r=>by simpa using h j q r
 refine AWP.midB ⟨78,[(7,.v (oI 0)),(13,.v (.one (.ref 13 0 (u.takeWhile fun v=>v != M).length))),(14,.v (.one (.ref 14 0 Dw.length)))],[],[(13,⟨2,((u.takeWhile fun v=>v != M).map fun v=>(⟨v - 1,true⟩:Hp)).map eHp,[]⟩),(14,⟨2,(Dw.map fun e=>(⟨e,false⟩:Hp)).map eHp,[]⟩)]⟩ ?_ ?_
 ·refine AWP.loop (ι:={k:Nat // k≤u.length∧∀j,∀q:j<k,∀r:j<u.length,u[j]≠M}) (fun k=>⟨78,[(7,.v (oI 0)),(13,.v (.one (.ref 13 0 k.1))),(14,.v (.one (.ref 14 0 Dw.length))),(15,.v (oI M)),(57,.v (.one (.sl 1 ((natI u).map eInt1)))),(58,.v (oI u.length)),(59,.v (oI k.1))],[],[(13,⟨2,((u.take k.1).map fun v=>(⟨v - 1,true⟩:Hp)).map eHp,[]⟩),(14,⟨2,(Dw.map fun e=>(⟨e,false⟩:Hp)).map eHp,[]⟩)]⟩) (fun k=>u.length - k.1) ⟨0,Nat.zero_le _,fun j q=>by omega⟩ ?_ fun ⟨k,hk,hkj⟩=>?_
  ·refine St.le_mk ?_ ?_ ?_<;>simp only [LE,EN,Nat.reduceEqDiff,reduceIte,Nat.reduceSub,List.take_zero,List.map_nil,lnu]
  simp only at hk hkj ⊢
  rcases Nat.lt_or_ge k u.length with hc|hc
  ·obtain ⟨v,hv⟩:∃v,u[k]=v:=⟨_,rfl⟩
   have gv:((natI u).map eInt1).getD k []=[.int .i64 (v:Int)]:=by
    rw [getD_map_lt _ _ _ (by omega)]
    simp only [natI,List.getElem_map,hv]
    rfl
   have ltk:(u.take k).length=k:=by simp;omega
   have vle:v≤x:=ule v (hv▸List.getElem_mem hc)
   by_cases hvM:v=M
   ·subst hvM
    have e1:(u.takeWhile fun w=>w != v)=u.take k:=takeWhile_stop hc (fun j q=>tw k hkj j q (by omega)) (by rw [hv];simp)
    rw [e1,ltk]
    repeat' (first|((first|with_reducible refine qV tyOk fun K hK=>?_|refine Q2 ?_|((with_reducible first|refine qS ?_ ?_|refine qT ?_ ?_|refine qU ?_ ?_)<;>(intro h;try simp only [NM] at h)))<;>simp -dsimp (disch:=first|exact D|fail) only [go_sem,↓reduceIte,seval,gv,Option.getD_none])|((with_reducible refine hK _ ?_);clear hK K)|refine Q1 ?_|((with_reducible refine qW (T:=TT) (b:=?_) ?_ ?_);rotate_left;exact rfl)|((with_reducible refine yS ?_ ?_)<;>(intro h;try simp only [NM] at h)))
    refine Gq.done ⟨rfl,?_⟩
    refine St.le_mk ?_ ?_ ?_<;>simp only [LE,EN,Nat.reduceEqDiff,reduceIte,Nat.reduceSub]
   ·have hvM':¬ (v:Int)=(M:Int):=by omega
    have v0:0<v:=by
     rcases Nat.eq_zero_or_pos v with h0|h0
     ·exfalso
      obtain ⟨j,hj,hjM⟩:=List.mem_iff_getElem.1 Min
      rcases Nat.lt_or_ge j k with h1|h1
      ·exact hkj j h1 hj hjM
      ·rcases Nat.lt_or_ge k j with h2|h2
       ·have:=List.pairwise_iff_getElem.1 ud k j hc hj h2
        omega
       ·have:j=k:=by omega
        subst this
        exact hvM (hv▸hjM)
     ·exact h0
    have w2:(v:Int) - 1=((v - 1:Nat):Int):=by omega
    have es:((u.take (k+1)).map fun w=>(⟨w - 1,true⟩:Hp)).map eHp=((u.take k).map fun w=>(⟨w - 1,true⟩:Hp)).map eHp++[[.int .i64 ((v - 1:Nat):Int),.bool true]]:=by
     rw [List.take_succ_eq_append_getElem hc,List.map_append,List.map_append,hv]
     rfl
    repeat' (first|((first|with_reducible refine qV tyOk fun K hK=>?_|refine Q2 ?_|((with_reducible first|refine qS ?_ ?_|refine qT ?_ ?_|refine qU ?_ ?_)<;>(intro h;try simp only [NM] at h)))<;>simp -dsimp (disch:=first|exact D|fail) only [go_sem,↓reduceIte,seval,gv,hvM',w2,ltk,Option.getD_none])|((with_reducible refine hK _ ?_);clear hK K)|refine Q1 ?_|((with_reducible refine qW (T:=TT) (b:=?_) ?_ ?_);rotate_left;exact rfl)|((with_reducible refine yS ?_ ?_)<;>(intro h;try simp only [NM] at h)))
    refine ⟨⟨k+1,by omega,fun j q r=>by
     rcases Nat.lt_or_ge j k with h1|h1
     ·exact hkj j h1 r
     ·have:j=k:=by omega
      subst this
      rw [hv];exact hvM⟩,by simp only;omega,?_⟩
    refine St.le_mk ?_ ?_ ?_<;>simp only [LE,EN,Nat.reduceEqDiff,reduceIte,Nat.reduceSub,es]
  ·have e1:(u.takeWhile fun w=>w != M)=u:=takeWhile_all fun j q=>tw k hkj j (by omega) q
   rw [e1]
   have hk2:k=u.length:=by omega
   subst hk2
   rw [List.take_length]
   repeat' (first|((first|with_reducible refine qV tyOk fun K hK=>?_|refine Q2 ?_|((with_reducible first|refine qS ?_ ?_|refine qT ?_ ?_|refine qU ?_ ?_)<;>(intro h;try simp only [NM] at h)))<;>simp -dsimp (disch:=first|exact D|fail) only [go_sem,↓reduceIte,seval])|((with_reducible refine hK _ ?_);clear hK K)|refine Q1 ?_|((with_reducible refine qW (T:=TT) (b:=?_) ?_ ?_);rotate_left;exact rfl)|((with_reducible refine yS ?_ ?_)<;>(intro h;try simp only [NM] at h)))
   refine Gq.done ⟨rfl,?_⟩
   refine St.le_mk ?_ ?_ ?_<;>simp only [LE,EN,Nat.reduceEqDiff,reduceIte,Nat.reduceSub]
 have rv:=reverseHops_satM Dn (by omega)
 have e1:(Dw.reverse.map fun e=>(⟨e,false⟩:Hp))=Dn.reverse:=by rw [←hDn,List.map_reverse]
 have lW:(u.takeWhile fun v=>v != M).length≤u.length:=(List.takeWhile_sublist _).length_le
 obtain ⟨W,hW⟩:∃W,(u.takeWhile fun v=>v != M).map (fun v=>(⟨v - 1,true⟩:Hp))=W:=⟨_,rfl⟩
 have lW2:W.length=(u.takeWhile fun v=>v != M).length:=by rw [←hW,List.length_map]
 rw [e1,hDn,←lDn,hW,←lW2]
 have tk:List.take Dn.length (Dn.reverse.map eHp)=Dn.reverse.map eHp:=List.take_of_length_le (by simp)
 repeat' (first|((first|with_reducible refine qV tyOk fun K hK=>?_|refine Q2 ?_|((with_reducible first|refine qS ?_ ?_|refine qT ?_ ?_|refine qU ?_ ?_)<;>(intro h;try simp only [NM] at h))|((with_reducible refine CallJ.is ?_);refine CallJ.io [] [(1000,14)] [] [(1000,14)] [] [] [] [14,14] (rv) rfl ⟨rfl,rfl,rfl,rfl⟩ ?_ ?_ ?_))<;>simp -dsimp (disch:=first|exact D|fail) only [go_sem,↓reduceIte,seval,noOwn_eHp,tk,List.length_reverse,dropL_nil,dropL_nil',dropL_cons])|((with_reducible refine hK _ ?_);clear hK K)|refine Q1 ?_|((with_reducible refine qW (T:=TT) (b:=?_) ?_ ?_);rotate_left;exact rfl)|((with_reducible refine yS ?_ ?_)<;>(intro h;try simp only [NM] at h)))
 simp -dsimp (disch:=first|exact D|fail) only [retQ,Tryz.results9,resVals,cellRV,resOf,St.rest,St.freeze,RT,go_sem,↓reduceIte,seval]
 rw [if_pos (by simp),←List.map_append,frz_eHp,List.take_of_length_le (by simp)]
end Go.Bw
