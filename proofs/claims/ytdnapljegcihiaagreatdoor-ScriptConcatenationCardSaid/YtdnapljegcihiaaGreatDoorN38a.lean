/-
  WHAT IS PROVED HERE, of this translation: argsRaw_sound, semCall, semCallIo, vrep_one, cells_oneC, equalFuncTbl_sat, schEqual_sat, sEq_refl, frz_eSch, goS_ok, goS_ne, scrSchemas_sat, .., dispatch_ren, fwdB, empA, empB, rTf, scriptsWork_sat, sOut_fits, scriptConcatenation_sat, cells_Step, bytes_Step, rd_scr.
  A theorem that ends in sat says what the function it names returns, whatever the state it is called in; the bounds on its arguments stand ahead of it.
-/
import Derived.Lib.AppendZerosOnto
import Derived.ChangeArms
import Derived.SizedLaws
import Derived.JoinedOf
import Derived.ChangeSame
import Derived.RowKit
import Derived.Carry
import Derived.Laws.MakeOwn
import Derived.Test.YtdnapljegcihiaaGreatDoorVzf
set_option linter.unusedSimpArgs false
set_option linter.unusedVariables false
namespace Go.Bw
open Go.RowKit
section
variable {P:Program} {T:TypeId→Option TI} {w0:World} {m0:Mem} {F0:Home} {s s':St} {a:Act} {w:World} {m:Mem} {ω:Wh}
def argsRaw (T:TypeId→Option TI) (s:St):List Operand→List TypeId→Option (List V)
 | [],_=>some []
 | x::xs,tys=>match evalO T s (tys.headD 0) x,argsRaw T s xs tys.tail with
  | some (.v y),some r=>some (y::r)
  | _,_=>none
theorem argsRaw_sound (h:CI P w0 m0 F0 s a w m ω):∀(l:List Operand) (tys:List TypeId) (xs:List V),argsRaw T s l tys=some xs→ArgsRep m ω (l.map a.eval) xs
 | [],tys,xs,hx=>by simp only [argsRaw,Option.some.injEq] at hx;subst hx;exact ⟨rfl,fun i x h=>by simp at h⟩
 | x::l,tys,xs,hx=>by
  simp only [argsRaw] at hx
  split at hx
  ·rename_i y r hy hr
   simp only [Option.some.injEq] at hx
   subst hx
   obtain ⟨h1,h2⟩:=argsRaw_sound h l tys.tail r hr
   refine ⟨by simpa using h1,fun i x' hi=>?_⟩
   cases i with
   | zero =>
    simp only [List.getElem?_cons_zero,Option.some.injEq] at hi
    subst hi
    have hv:VRep m ω (a.eval x) y:=evalO_sound h hy
    exact ⟨_,rfl,hv⟩
   | succ i=>simpa using h2 i x' (by simpa using hi)
  ·cases hx
theorem semCall {d:Option Tmp} {g:FuncId} {args:Array Operand} {tys:Array TypeId} {ty:TypeId} {pos:String} {af:Array Edge} {xs:List V} {K:St→Prop}
  (hx:argsRaw T s args.toList tys.toList=some xs) (h:CallG P g xs s d K) :
  SemOp P ⟨d,.call ⟨.value (.func g),args,tys⟩,ty,pos,af,Option.none⟩ s K:=by
 intro w0 m0 F0 a w m ω hC
 obtain ⟨s',hM,hK⟩:=h
 have h2:=argsRaw_sound hC _ _ _ hx
 refine Moves.follows (gives_of_callsR (f:=g) (args:=(args.toList.map a.eval).toArray) ?_ (hM _ _ _ a w m ω hC _ h2)) hK
 unfold execOp
 simp only [resolve,Act.eval,Deferred.ofValue,Sem.run_bind,Sem.run_pure,Result.andThen_ok,invoke]
 congr 2
 apply Array.ext'
 simp
theorem semCallIo {d:Option Tmp} {g:FuncId} {args:Array Operand} {tys:Array TypeId} {ty:TypeId} {pos:String} {af:Array Edge} {xs ys:List V} {bx bx':Boxes} {rw rw':Rows} {r:A} {K:St→Prop} (σb σr τb τr:Ids) (kb kr ib ir:List Nat)
  (hraw:argsRaw T s args.toList tys.toList=some xs) (hS:SatM P g ys bx rw r bx' rw') (gs:(goodIds σb&&goodIds σr&&goodIds τb&&goodIds τr&&okIn σb bx&&okIn σr rw&&okOut s.n σb τb bx'&&okOut s.n σr τr rw'&&ys.all (okV σb σr))=true)
  (hd:deadOf σb τb=kb∧deadOf σr τr=kr∧idsOf σb τb=ib∧idsOf σr τr=ir) (hx:ys.map (V.map (L.ids σb σr))=xs) (hin:inB s σb σr bx∧inR s σr rw)
  (hk:s.okD d∧K ((ioSt s kb kr ib ir (outB τb τr bx') (outR τb τr rw')).putO d (r.map (L.ids τb τr)))):SemOp P ⟨d,.call ⟨.value (.func g),args,tys⟩,ty,pos,af,Option.none⟩ s K:=by
 obtain ⟨rfl,rfl,rfl,rfl⟩:=hd
 exact semCall hraw (CallG.io σb σr τb τr hS gs hx hin hk)
end
end Go.Bw
namespace Go.Bw
open Go.RowKit
variable {P:Program} {w:World} {t:TypeId}
theorem vrep_one {v:Value} {l:L} {ω:Wh} (h:CRd w [v] [l]):VRep (memOf w) ω v (.one l):=by
 obtain ⟨v',h1,h2⟩:=h.2 0 l rfl
 simp only [List.getElem?_cons_zero,Option.some.injEq] at h1
 subst h1
 exact h2.erep
section
open Go.ChangeShapes
variable {H:Type} {enc:TypeId×Value→H} {w':World} {base:Nat} {sp:Nat→Bool} {held:Bool}
end
end Go.Bw
namespace Go.Bw
open Go.Proofs
def oneDesc:TypeDesc→Bool
 | .slice _=>true
 | .string=>true
 | .bool=>true
 | .int _=>true
 | _=>false
theorem cells_oneC {P:Program} {w:World} {base:Nat} {t:TypeId} {v:Value} {d:TypeDesc} (hu:P.underlying t=some d) (hd:oneDesc d=true) (h:Value.okWide P w .any base t v):v.cells.toList=[v]:=by
 have hne:∀cs,v≠.agg cs:=by
  rintro cs rfl
  cases d<;>simp [oneDesc] at hd<;>simp [Value.okWide,hu,Cell.okWide,Cell.ok] at h
 cases v with
 | agg cs=>exact absurd rfl (hne cs)
 | _=>rfl
variable {w:World}
end Go.Bw
namespace Go.Bw
open Go.Proofs
set_option maxHeartbeats 8000000 in
theorem equalFuncTbl_sat (a b : List Tbl) (h1 : a.length ≤ 140737488355328) (h2 : b.length ≤ 140737488355328) (h3 : ∀ t ∈ a, t.cols.length ≤ 140737488355328 ∧ t.pk.length ≤ 140737488355328) (h4 : ∀ t ∈ b, t.cols.length ≤ 140737488355328) :
    Sat Tryz.prog 66 [.one (eTbls a), .one (eTbls b), .one (.clo 67 [])] (.v (oB (decide (a = b)))) := by
  refine ZE Tryz.func66 Tryz.ntmps66 fun w0 m0 F0 => ?_
  refine ZWp Z0 Z0 ?_; repeat' (first | apply Zb | apply Zn | (apply Zm; intro h))
  rotate_left
  · refine ZR (Z1 Tryz.results66) ?_
    have hn : ¬ a = b := fun e => by rw [e] at h; exact h rfl
    simp [hn]
  have hl : a.length = b.length := by omega
  refine AWP.loop (ι := {k : Nat // k ≤ a.length ∧ a.take k = b.take k}) (fun k => ⟨32, [(1, .v (.one (eTbls b))), (2, .v (.one (.clo 67 []))), (15, .v (.one (eTbls a))), (16, .v (oI a.length)), (17, .v (oI k.1))], [], []⟩) (fun k => a.length - k.1) ⟨0, Nat.zero_le _, rfl⟩ ?_ fun ⟨k, hkl, hi⟩ => ?_
  · exact ZL Z0
  rcases Nat.lt_or_ge k a.length with hc | hc
  · have hb : k < b.length := by omega
    repeat' (first | ((first | with_reducible refine qV tyOk fun K hK => ?_ | ((with_reducible refine CallJ.is ?_); (refine CallJ.pure (equalTables_sat a[k] b[k] (h3 _ (List.getElem_mem hc)).1 (h4 _ (List.getElem_mem hb)) (h3 _ (List.getElem_mem hc)).2) ?_))) <;> simp -dsimp (disch := first | exact D | fail) only [go_sem, ↓reduceIte, seval]) | ((with_reducible refine hK _ ?_); clear hK K) | refine Q1 ?_ | ((with_reducible refine qW (T := TT) (b := ?_) ?_ ?_); rotate_left; exact rfl) | ((with_reducible refine yS ?_ ?_) <;> (intro h; try simp only [NM] at h)) | fail)
    all_goals first
      | (refine ⟨⟨k + 1, by omega, take_eq_succ hc hb hi ‹_›⟩, by simp only; omega, ?_⟩
         exact ZL Z0
         done)
      | (have hn : ¬ a = b := fun e => ‹¬ _› (get_of_eq hc hb e)
         refine ZR (Z1 Tryz.results66) ?_
         simp [hn])
  · have hk : a = b := by
      rw [List.take_of_length_le (by omega), List.take_of_length_le (by omega)] at hi
      exact hi
    refine ZW Z0 Z0 ?_
    refine ZR (Z1 Tryz.results66) ?_
    simp [hk]

set_option maxHeartbeats 8000000 in
theorem schEqual_sat (a b:Sch) (ha:a.Fits) (hb:b.Fits):Sat Tryz.prog 31 [.agg (eSch a),.agg (eSch b)] (.v (oB (decide (a=b)))):=by
 have sp:decide (a=b)=(decide (a.tables=b.tables)&&(decide (a.fks=b.fks)&&decide (a.cons=b.cons))):=by
  rw [Bool.eq_iff_iff]
  simp only [Bool.and_eq_true,decide_eq_true_eq]
  constructor
  ·rintro rfl;exact ⟨rfl,rfl,rfl⟩
  ·rintro ⟨h1,h2,h3⟩;cases a;cases b;simp_all
 rw [sp]
 refine ZE Tryz.func31 Tryz.ntmps31 fun w0 m0 F0=>?_
 refine ZWp Z0 (Z3 (equalFuncTbl_sat a.tables b.tables ha.tables hb.tables ha.table (fun t ht=>(hb.table t ht).1)) (equalFuncFK_sat a.fks b.fks ha.fks hb.fks ha.fk) (equalCons_sat a.cons b.cons ha.cons hb.cons)) ?_;repeat' (first|apply Zb|apply Zn|(apply Zm;intro h))
 all_goals simp -dsimp (disch:=first|exact D|fail) only [retQ,Tryz.results31,resVals,cellRV,resOf,St.rest,St.freeze,RT,go_sem,↓reduceIte,seval]
 all_goals simp_all
theorem sEq_refl (a:ByteArray):sEq a a=true:=sEq_iff.2 rfl
def eSchs (l:List Sch):L:=.sl 3 (l.map eSch)
def eScr (l:List Stp):L:=.sl 24 (l.map eStp)
theorem frz_eSch (l:List Sch):(l.map eSch).map (fun x=>x.map (L.frzN 4))=l.map eSch:=frz_map (fun _=>rfl) l
def zSch:Sch:=⟨[],[],[]⟩
abbrev ResL:=Except Int (List Sch)
def goS:List Sch→List Stp→ResL
 | acc,[]=>.ok acc
 | acc,st::r=>match evoE (acc.getD (acc.length - 1) zSch) st with
  | .error e=>.error e
  | .ok t=>goS (acc++[t]) r
def scrSchemas (s:Sch) (l:List Stp):ResL:=if 6<l.length then .error 2 else if schE s≠0 then .error (schE s) else goS [s] l
def scrApply (s:Sch) (l:List Stp):Res:=match scrSchemas s l with
 | .error e=>.error e
 | .ok O=>.ok (O.getD (O.length - 1) zSch)
def lOut:ResL→List Sch
 | .error _=>[]
 | .ok l=>l
theorem goS_ok:∀{l:List Stp} {acc O:List Sch},(∀x∈acc,schE x=0)→goS acc l=.ok O→(∀x∈O,schE x=0)∧O.length=acc.length+l.length
 | [],acc,O,ha,h=>by injection h with h;subst h;exact ⟨ha,by simp⟩
 | st::r,acc,O,ha,h=>by
  rw [goS] at h
  split at h
  ·cases h
  ·rename_i t q
   obtain ⟨h1,h2⟩:=goS_ok (fun x hx=>by
    rcases List.mem_append.1 hx with hx|hx
    ·exact ha x hx
    ·rw [List.mem_singleton.1 hx];exact evoE_ok q) h
   exact ⟨h1,by rw [h2];simp;omega⟩
theorem goS_ne:∀{l:List Stp} {acc:List Sch} {e:Int},goS acc l=.error e→e≠0
 | [],acc,e,h=>by cases h
 | st::r,acc,e,h=>by
  rw [goS] at h
  split at h
  ·rename_i q;injection h with h;rw [←h];exact evoE_ne q
  ·exact goS_ne h
set_option maxHeartbeats 16000000 in
theorem scrSchemas_sat (s:Sch) (l:List Stp) (hs:s.Fits) (hl:l.length≤140737488355328) (hf:∀st∈l,st.Fits):Sat Tryz.prog 73 [.agg (eSch s),.one (eScr l)] (.tup [.one (eSchs (lOut (scrSchemas s l))),oI (rE (scrSchemas s l))]):=by
 have c1:=schValidate_sat s hs
 unfold eScr
 by_cases h0:6<l.length
 ·have spec:scrSchemas s l=.error 2:=by unfold scrSchemas;rw [if_pos h0]
  rw [spec]
  unfold lOut rE eSchs
  refine ZE Tryz.func73 Tryz.ntmps73 fun w0 m0 F0=>?_
  refine ZWp Z0 Z0 ?_;repeat' (first|apply Zb|apply Zn|(apply Zm;intro h)|(apply Zk;intro K hK))
  exact ZQ (Z1 Tryz.results73)
 by_cases h1:schE s=0
 case neg =>
  have spec:scrSchemas s l=.error (schE s):=by unfold scrSchemas;rw [if_neg h0,if_pos h1]
  rw [spec]
  unfold lOut rE eSchs
  refine ZE Tryz.func73 Tryz.ntmps73 fun w0 m0 F0=>?_
  refine ZWp (Z1 @h1) (Z1 (c1)) ?_;repeat' (first|apply Zb|apply Zn|(apply Zm;intro h)|(apply Zk;intro K hK))
  exact ZQ (Z1 Tryz.results73)
 rw [h1] at c1
 have c2:=schClone_sat s (small_of h1)
 obtain ⟨R,hR⟩:∃R,goS [s] l=R:=⟨_,rfl⟩
 have spec:scrSchemas s l=R:=by unfold scrSchemas;rw [if_neg h0,if_neg (by rw [h1];simp),hR]
 rw [spec]
 refine ZE Tryz.func73 Tryz.ntmps73 fun w0 m0 F0=>?_
 refine ZWp Z0 (Z2 (c1) (c2)) ?_;repeat' (first|apply Zb|apply Zn|(apply Zm;intro h)|(apply Zk;intro K hK))
 refine AWP.loop (ι:={p:Nat×List Sch // p.1≤l.length∧p.2.length=p.1+1∧(∀x∈p.2,schE x=0)∧goS p.2 (l.drop p.1)=R}) (fun p=>⟨48,[(5,.v (oI 0)),(7,.v (.one (.ref 7 0 p.1.2.length))),(23,.v (.one (.sl 24 (l.map eStp)))),(24,.v (oI l.length)),(25,.v (oI p.1.1))],[],[(7,⟨3,p.1.2.map eSch,[]⟩)]⟩) (fun p=>l.length - p.1.1) ⟨(0,[s]),Nat.zero_le _,rfl,fun x hx=>by rw [List.mem_singleton.1 hx];exact h1,hR⟩ ?_ fun ⟨⟨k,acc⟩,hkl,hka,hkz,hkR⟩=>?_
 ·exact ZN (Z1 @eSch.eq_1)
 simp only at hkl hka hkz hkR ⊢
 rcases Nat.lt_or_ge k l.length with hk|hk
 ·obtain ⟨st,hst⟩:∃st,l[k]=st:=⟨_,rfl⟩
  have gs:(l.map eStp).getD k []=eStp st:=by rw [getD_map_lt _ _ _ hk,hst]
  have fst:=hf l[k] (List.getElem_mem hk)
  rw [List.drop_eq_getElem_cons hk,goS,hka,Nat.add_sub_cancel] at hkR
  rw [hst] at hkR fst
  obtain ⟨c,hc⟩:∃c,acc.getD k zSch=c:=⟨_,rfl⟩
  have hk2:k<acc.length:=by omega
  have ga:(acc.map eSch).getD k []=eSch c:=by rw [getD_map_lt _ _ _ hk2,←hc,getD_lt _ hk2]
  have zc:schE c=0:=by rw [←hc,getD_lt _ hk2];exact hkz _ (List.getElem_mem hk2)
  have ev:=evoApply_sat c st (small_of zc).fits fst
  rw [hc] at hkR
  obtain ⟨r0,hv⟩:∃r0,evoE c st=r0:=⟨_,rfl⟩
  rw [hv] at hkR ev
  refine ZWp (Z2 @gs @eStp.eq_1) Z0 ?_;repeat' (first|apply Zb|apply Zn|(apply Zm;intro h)|(apply Zk;intro K hK))
  refine AWP.mid ⟨48,[(5,.v (oI 0)),(7,.v (.one (.ref 7 0 acc.length))),(23,.v (.one (.sl 24 (l.map eStp)))),(24,.v (oI l.length)),(25,.v (oI k)),(10,.v (.one (.ptr 10 0))),(11,.v (oI (rE r0)))],[(10,eSch (sOut r0))],[(7,⟨3,acc.map eSch,[]⟩)]⟩ ?_ ?_
  ·refine dY tyOk mixed [(0,5)] (.cons 5 [(6,3)] [] (.cons 9 [] [(6,3)] (.cons 10 [(11,1)] [(8,1)] .leaf .none) .none) (.cons 9 [] [(0,5)] (.cons 5 [(6,3)] [] (.cons 10 [(11,1)] [(8,1)] .leaf .none) .none) .none)) [5,9,10] 8 fun K hK=>?_
   simp only [segt_leaf,segt_none,segt_cons,segs,List.drop_succ_cons,List.drop_zero,List.take_succ_cons,List.take_zero,List.getElem?_cons_zero,List.getElem?_cons_succ,List.cons_append,List.nil_append,List.append_nil] at hK ⊢
   refine ZU (Z1 @ga) ?_
   refine ZVp (Z2 @ga @eStp.eq_1) (Z1 (ev)) (Z1 (Zs 11)) Z0 ?_;repeat' (first|apply Zb|apply Zn|(apply Zm;intro h)|(apply Zk;intro K hK))
   all_goals refine Gq.done ⟨rfl,?_⟩
   all_goals refine St.le_mk ?_ ?_ ?_<;>simp only [LE,EN,Nat.reduceEqDiff,reduceIte,Nat.reduceSub,eSch]
  cases r0 with
  | error e =>
   simp only at hkR
   subst hkR
   have he:=evoE_ne hv
   unfold lOut rE eSchs sOut
   simp only
   refine ZWp (Z1 @he) Z0 ?_;repeat' (first|apply Zb|apply Zn|(apply Zm;intro h)|(apply Zk;intro K hK))
   exact ZQ (Z1 Tryz.results73)
  | ok u =>
   simp only at hkR
   unfold sOut rE
   simp only
   refine ZWp Z0 Z0 ?_;repeat' (first|apply Zb|apply Zn|(apply Zm;intro h)|(apply Zk;intro K hK))
   refine ⟨⟨(k+1,acc++[u]),by simp only;omega,by simp;omega,fun x hx=>by
    rcases List.mem_append.1 hx with hx|hx
    ·exact hkz x hx
    ·rw [List.mem_singleton.1 hx];exact evoE_ok hv,hkR⟩,by simp only;omega,?_⟩
   exact ZN (Z1 @eSch.eq_1)
 ·have hk:k=l.length:=by omega
  subst hk
  rw [List.drop_length,goS] at hkR
  subst hkR
  unfold lOut rE eSchs
  simp only
  refine ZWp Z0 Z0 ?_;repeat' (first|apply Zb|apply Zn|(apply Zm;intro h)|(apply Zk;intro K hK))
  refine ZR (Z1 Tryz.results73) ?_
  rw [frz_eSch]
theorem scrSchemas_ok {s:Sch} {l:List Stp} {O:List Sch} (h:scrSchemas s l=.ok O):(∀x∈O,schE x=0)∧O.length=1+l.length:=by
 unfold scrSchemas at h
 split at h
 ·cases h
 split at h
 ·cases h
 rename_i q
 have q:schE s=0:=Decidable.byContradiction q
 exact goS_ok (fun x hx=>by rw [List.mem_singleton.1 hx];exact q) h
theorem scrSchemas_ne {s:Sch} {l:List Stp} {e:Int} (h:scrSchemas s l=.error e):e≠0:=by
 unfold scrSchemas at h
 split at h
 ·injection h with h;omega
 split at h
 ·rename_i q;injection h with h;rw [←h];exact q
 ·exact goS_ne h
theorem scrApply_ok {s u:Sch} {l:List Stp} (h:scrApply s l=.ok u):schE u=0:=by
 unfold scrApply at h
 split at h
 ·cases h
 ·rename_i O q
  obtain ⟨h1,h2⟩:=scrSchemas_ok q
  injection h with h
  rw [getD_lt _ (by omega)] at h
  rw [←h]
  exact h1 _ (List.getElem_mem _)
theorem scrApply_ne {s:Sch} {l:List Stp} {e:Int} (h:scrApply s l=.error e):e≠0:=by
 unfold scrApply at h
 split at h
 ·rename_i q;injection h with h;rw [←h];exact scrSchemas_ne q
 ·cases h
set_option maxHeartbeats 16000000 in
theorem scrApply_sat (s:Sch) (l:List Stp) (hs:s.Fits) (hl:l.length≤140737488355328) (hf:∀st∈l,st.Fits):Sat Tryz.prog 35 [.agg (eSch s),.one (eScr l)] (.tup [.agg (eSch (sOut (scrApply s l))),oI (rE (scrApply s l))]):=by
 have c1:=scrSchemas_sat s l hs hl hf
 unfold eScr at c1 ⊢
 cases hR:scrSchemas s l with
 | error e =>
  have spec:scrApply s l=.error e:=by unfold scrApply;rw [hR]
  have he:=scrSchemas_ne hR
  rw [hR] at c1
  rw [spec]
  unfold lOut rE eSchs at c1
  unfold sOut rE
  simp only at c1 ⊢
  refine ZE Tryz.func35 Tryz.ntmps35 fun w0 m0 F0=>?_
  refine ZWp (Z1 @he) (Z1 (c1)) ?_;repeat' (first|apply Zb|apply Zn|(apply Zm;intro h))
  exact ZQ (Z1 Tryz.results35)
 | ok O =>
  have spec:scrApply s l=.ok (O.getD (O.length - 1) zSch):=by unfold scrApply;rw [hR]
  obtain ⟨_,lO⟩:=scrSchemas_ok hR
  rw [hR] at c1
  rw [spec]
  unfold lOut rE eSchs at c1
  unfold sOut rE
  simp only at c1 ⊢
  have gO:(O.map eSch).getD (O.length - 1) []=eSch (O.getD (O.length - 1) zSch):=by rw [getD_map_lt _ _ _ (by omega),getD_lt _ (by omega)]
  have w1:((O.length:Int) - 1).toNat=O.length - 1:=by omega
  refine ZE Tryz.func35 Tryz.ntmps35 fun w0 m0 F0=>?_
  refine ZWp (Z2 @gO @w1) (Z1 (c1)) ?_;repeat' (first|apply Zb|apply Zn|(apply Zm;intro h))
  exact ZQ (Z1 Tryz.results35)
structure CTab (s u:Sch) (st:Stp) (i k:Nat) (t v:Tbl):Prop where
 zs:schE s=0
 zu:schE u=0
 hi:i<s.tables.length
 hk:k<u.tables.length
 ei:mx0 (tblAt s.tables st.table)=(i:Int)
 ek:mx0 (tblAt u.tables st.table)=(k:Int)
 ht:s.tables[i]=t
 hv:u.tables[k]=v
theorem CTab.uA {s u:Sch} {st:Stp} {i k:Nat} {t v:Tbl} (c:CTab s u st i k t v):tAt u (mx0 (tblAt u.tables st.table)).toNat=v:=by
 rw [c.ek,Int.toNat_natCast];unfold tAt;rw [getD_lt _ c.hk,c.hv]
section
open Go.RowKit
section
variable {P:Program} {T:TypeId→Option TI} {w0:World} {m0:Mem} {F0:Home} {s s':St} {a:Act} {w:World} {m:Mem} {ω:Wh}
theorem moves_make {t e:TypeId} {i j:TI} {x y:Operand} {ty tx:TypeId} {pos:String} {af:Array Edge} {d n:Nat} {k1 k2:IntKind} {z:List L}
  (hn:d<s.n) (hT:tiOk P t i=true) (he:i.elem=some e) (hE:tiOk P e j=true) (hz:j.zero=some z) (hzl:z.length=j.size) (h:CI P w0 m0 F0 s a w m ω)
  (hx:evalO T s tx x=some (.v (.one (.int k1 (n:Int))))) (hy:evalO T s tx y=some (.v (.one (.int k2 (n:Int))))) (hbs:j.bytes * n≤281474976710656) (hm:n≤9223372036854775807) :
  Moves P w0 m0 F0 ⟨some d,.makeSlice t x y,ty,pos,af,Option.none⟩ a w (s.appended Option.none d j.size (List.replicate n (z.map L.clos)) []):=by
 have hu:=(tiFacts hT).elem e he
 obtain ⟨inf,zv,g1,g2,g3,_⟩:=(tiFacts hE).zero z hz
 obtain ⟨inf',g4,g5,g6⟩:=(tiFacts hE).info
 rw [g1] at g4
 injection g4 with g4
 subst g4
 have hzs:zv.cells.size=j.size:=by
  have:=(matchAll_rep (m:=m) zv.cells.toList z g3).1
  simpa [hzl] using this
 have hb':(inf.bytes:Int) * (n:Int)≤281474976710656:=by
  rw [g6]
  have:((j.bytes * n:Nat):Int)≤281474976710656:=by omega
  rwa [Int.natCast_mul] at this
 have hr:=run_make (P:=P) w t e inf zv hu g1 g2 k1 k2 n n (by omega) (Int.le_refl _) hb' (by omega)
 simp only [Int.toNat_natCast] at hr
 have hmc:madeCells zv.cells (n * inf.size)=Builtin.zeroCells zv.cells n:=by
  unfold madeCells Builtin.zeroCells
  rw [g5,hzs]
 rw [hmc] at hr
 obtain ⟨z1,z2,z3⟩:=zeroRd (m:=m) g3 n
 rw [hzl] at z1 z3
 have hbl:Below w.heap.size w (w.alloc (.cells (Builtin.zeroCells zv.cells n) e)):=(Below.refl _ w).alloc (Nat.le_refl _) _
 have hh:(w.alloc (.cells (Builtin.zeroCells zv.cells n) e)).heap[w.heap.size]?=_:=heap_alloc_new w _
 have hsize:=(Array.getElem?_eq_some_iff.1 hh).1
 have hzsz:(Builtin.zeroCells zv.cells n).size=n * j.size:=by rw [←Array.length_toList];exact z1
 obtain ⟨ω',hC,hri,_⟩:=h.rowNew (r:=⟨j.size,List.replicate n (z.map L.clos),[]⟩) Option.none d hn ⟨some w.heap.size,n,j.size⟩ (fun q=>q=w.heap.size) (.inl hbl) (fun q hq=>.inr ⟨by omega,by rw [hq];exact hsize⟩) (by
  refine ⟨rfl,fun x hx=>?_,?_⟩
  ·rw [List.eq_of_mem_replicate hx];simpa using hzl
  ·refine ⟨_,e,hh,hzsz,by simp,⟨by show n≤maxLen;exact hm,fun l hl=>(by cases hl),fun q v hq=>z2 v (by simpa using Array.mem_of_getElem? hq)⟩,rfl,fun _ _ _=>False,(fun i j k hk=>hk.elim),(fun i j i' j' k hk hk'=>hk.elim),fun i' j' u hu=>?_⟩
   show ∃v,_∧CRep m _ _ v u
   obtain ⟨v,h1,h2⟩:=z3 _ j' u hu
   exact ⟨v,by rw [←h1,Array.getElem?_toList],.fr h2⟩)
 have hrun:(execOp a.eval ⟨some d,.makeSlice t x y,ty,pos,af,Option.none⟩).run P w=((Instr.makeSlice t (.int k1 n) (.int k2 n)).run P w).andThen fun v w'=>.ok (.value v) w':=by
  rw [←int_eval h hx,←int_eval h hy]
  unfold execOp
  simp only [Sem.run_bind]
  rfl
 refine gives_of_run (w':=_) (by rw [hrun,hr];rfl) ?_
 refine ⟨m,ω',hC.put (by rw [newRow0_n];exact hn) ?_⟩
 show RefAt (ω'.row d) 0 _ _
 rw [hri,List.length_replicate]
 exact .inr ⟨w.heap.size,⟨w.heap.size,0,none⟩,rfl,by simp,by simp,fun _=>by simp⟩
theorem semMake (hT:TabOk P T) {t ty:TypeId} {x y:Operand} {d n:Nat} {pos:String} {af:Array Edge} {K:St→Prop} {j:TI} {z:List L} {k1 k2:IntKind} (hj:elemTI T t=some j) (hz:j.zero=some z) (hzl:z.length=j.size)
  (hx:evalO T s 3 x=some (.v (.one (.int k1 (n:Int))))) (hy:evalO T s 3 y=some (.v (.one (.int k2 (n:Int))))) (hbs:j.bytes * n≤281474976710656) (hm:n≤9223372036854775807) (hd:d<s.n) (hK:K (s.appended Option.none d j.size (List.replicate n (z.map L.clos)) [])) :
  SemOp P ⟨some d,.makeSlice t x y,ty,pos,af,Option.none⟩ s K:=by
 intro w0 m0 F0 a w m ω hC
 obtain ⟨i,e,hi,he,hje,hio,hjo⟩:=elemTI_some hT hj
 exact (moves_make hd hio he hjo hz hzl hC hx hy hbs hm).follows hK
end
end
theorem colAt_at {t:Tbl} (o:OkTbl t) {k:Nat} (hk:k<t.cols.length):colAt t.cols t.cols[k].name=(k:Int):=by
 rcases idx_cases (fun c=>sEq c.name t.cols[k].name) t.cols 0 with ⟨_,e2⟩|⟨j,hj,e1,e2,e3⟩
 ·have:=e2 _ (List.getElem_mem hk)
  rw [sEq_refl] at this
  cases this
 ·have e:colAt t.cols t.cols[k].name=(j:Int):=by unfold colAt;simpa using e1
  have h1:=(o.col k hk).2.1
  rw [e,mx0_nat] at h1
  rcases Nat.lt_or_ge k j with h|h
  ·have:=e3 k h
   rw [sEq_refl] at this
   cases this
  ·rw [e]
   omega
theorem col_ne {t:Tbl} (o:OkTbl t) {j k:Nat} (hj:j<t.cols.length) (hk:k<t.cols.length) (h:j≠k):t.cols[j].name≠t.cols[k].name:=fun e=>by
 have h1:=colAt_at o hj
 rw [e,colAt_at o hk] at h1
 omega
structure PermT (T T2:Tbl) (π:Int→Int):Prop where
 name:T2.name=T.name
 len:T2.cols.length=T.cols.length
 rng:∀c,0≤c→c<(T.cols.length:Int)→0≤π c∧π c<(T.cols.length:Int)
 inj:∀c d,0≤c→c<(T.cols.length:Int)→0≤d→d<(T.cols.length:Int)→π c=π d→c=d
 sur:∀k,0≤k→k<(T.cols.length:Int)→∃c,0≤c∧c<(T.cols.length:Int)∧π c=k
 col:∀c,0≤c→c<(T.cols.length:Int)→T2.cols.getD (π c).toNat zCol=T.cols.getD c.toNat zCol
 pk:T2.pk=T.pk.map π
 mono:∀k,∀h:k<T.pk.length,∀h0:0<k,π (T.pk[k - 1]'(by omega))<π T.pk[k]
theorem getD_int {l:List Col} {c:Int} (h0:0≤c) (h:c<(l.length:Int)):l.getD c.toNat zCol=l[c.toNat]'(by omega):=getD_lt _ (by omega)
theorem PermT.ok {T T2:Tbl} {π:Int→Int} (p:PermT T T2 π) (o:OkTbl T):OkTbl T2:=by
 have ln:=p.len
 have back:∀k,∀h:k<T2.cols.length,∃c:Nat,∃hc:c<T.cols.length,π c=(k:Int)∧T2.cols[k]=T.cols[c]:=fun k h=>by
  obtain ⟨c,c0,c1,e⟩:=p.sur k (by omega) (by omega)
  refine ⟨c.toNat,by omega,by rw [Int.toNat_of_nonneg c0];exact e,?_⟩
  have:=p.col c c0 c1
  rw [e,getD_int c0 c1,getD_int (by omega) (by omega)] at this
  simpa using this
 refine ⟨by rw [p.name];exact o.name,by rw [p.len];exact o.cols0,by rw [p.len];exact o.cols6,fun k h=>?_,fun k h=>?_,by rw [p.pk,List.length_map];exact o.pk0⟩
 ·obtain ⟨c,hc,e,ec⟩:=back k h
  obtain ⟨h1,_,h3,h4⟩:=o.col c hc
  rw [ec]
  refine ⟨h1,?_,h3,h4⟩
  rcases idx_cases (fun x=>sEq x.name T.cols[c].name) T2.cols 0 with ⟨_,e2⟩|⟨j,hj,e1,e2,e3⟩
  ·have:=e2 _ (List.getElem_mem h)
   rw [ec,sEq_refl] at this
   cases this
  ·have e1:colAt T2.cols T.cols[c].name=(j:Int):=by unfold colAt;simpa using e1
   rw [e1,mx0_nat]
   obtain ⟨d,hd,ed,ecd⟩:=back j hj
   have e4:=sEq_iff.1 e2
   rw [ecd] at e4
   have:d=c:=Decidable.byContradiction fun hne=>col_ne o hd hc hne e4
   subst this
   omega
 ·have hk:k<T.pk.length:=by rw [p.pk,List.length_map] at h;exact h
  have e:T2.pk[k]=π T.pk[k]:=by simp [p.pk]
  obtain ⟨h1,h2,h3,_⟩:=o.key k hk
  obtain ⟨r1,r2⟩:=p.rng _ h1 h2
  rw [e]
  refine ⟨r1,by omega,by rw [p.col _ h1 h2];exact h3,fun h0=>?_⟩
  have e':T2.pk[k - 1]=π (T.pk[k - 1]'(by omega)):=by simp [p.pk]
  rw [e']
  exact p.mono k hk h0
def kp (R:List Int) (c:Int):Bool:=!R.elem c
theorem kp_iff {R:List Int} {c:Int}:kp R c=true↔c ∉ R:=by
 unfold kp
 rw [Bool.not_eq_true',←Bool.not_eq_true,List.elem_iff]
theorem mem_seqI {m:Nat} {c:Int}:c∈seqI m↔0≤c∧c<(m:Int):=by
 unfold seqI
 rw [List.mem_map]
 constructor
 ·rintro ⟨n,hn,rfl⟩
  have:=List.mem_range.1 hn
  omega
 ·rintro ⟨h0,h1⟩
  exact ⟨c.toNat,List.mem_range.2 (by omega),by omega⟩
theorem seqI_nodup (m:Nat):(seqI m).Nodup:=by
 unfold seqI
 refine List.pairwise_map.2 (List.nodup_range.imp fun {a b} h e=>h ?_)
 exact Int.ofNat.inj e
theorem seqI_split {c m:Nat} (h:c<m):∃r,seqI m=seqI c++(c:Int)::r:=by
 obtain ⟨d,rfl⟩:∃d,m=c+1+d:=⟨m - c - 1,by omega⟩
 induction d with
 | zero=>exact ⟨[],by rw [Nat.add_zero,seqI_succ]⟩
 | succ d ih =>
  obtain ⟨r,hr⟩:=ih (by omega)
  exact ⟨r++[((c+1+d:Nat):Int)],by rw [←Nat.add_assoc,seqI_succ,hr];simp⟩
theorem filter_len {α:Type} (f:α→Bool):∀l:List α,l.length=(l.filter f).length+(l.filter fun x=>!f x).length
 | []=>rfl
 | x::r=>by
  have:=filter_len f r
  rw [List.filter_cons,List.filter_cons]
  cases f x<;>simp<;>omega
theorem seqI_len2 (m:Nat):(seqI m).length=m:=by simp [seqI]
theorem perm_len {α:Type} [DecidableEq α] {a b:List α} (ha:a.Nodup) (hb:b.Nodup) (h:∀x,x∈a↔x∈b):a.length=b.length:=((List.perm_ext_iff_of_nodup ha hb).2 h).length_eq
theorem nodup_lt {R:List Int} (h:R.Pairwise (·<·)):R.Nodup:=h.imp fun h=>by omega
theorem shiftI_eq {R:List Int} (hR:R.Pairwise (·<·)) (h0:∀r∈R,0≤r) (c:Nat):shiftI R c=(((seqI c).filter (kp R)).length:Int):=by
 have h1:=filter_len (kp R) (seqI c)
 rw [seqI_len2] at h1
 have h2:((seqI c).filter (fun x=>!kp R x)).length=(R.filter fun r=>decide (r<(c:Int))).length:=by
  refine perm_len ((seqI_nodup c).filter _) ((nodup_lt hR).filter _) fun x=>?_
  rw [List.mem_filter,List.mem_filter,mem_seqI]
  have:(!kp R x)=true↔x∈R:=by
   unfold kp
   rw [Bool.not_not,List.elem_iff]
  rw [this,decide_eq_true_eq]
  constructor
  ·rintro ⟨⟨_,h⟩,hx⟩;exact ⟨hx,h⟩
  ·rintro ⟨hx,h⟩;exact ⟨⟨h0 x hx,h⟩,hx⟩
 unfold shiftI
 omega
def allC (R:List Int) (m:Nat):List Int:=(seqI m).filter (kp R)++R
structure Moved (R:List Int) (m:Nat):Prop where
 lt:R.Pairwise (·<·)
 rng:∀r∈R,0≤r∧r<(m:Int)
theorem Moved.len {R:List Int} {m:Nat} (h:Moved R m):((seqI m).filter (kp R)).length+R.length=m:=by
 have h1:=filter_len (kp R) (seqI m)
 rw [seqI_len2] at h1
 have h2:((seqI m).filter (fun x=>!kp R x)).length=R.length:=by
  refine perm_len ((seqI_nodup m).filter _) (nodup_lt h.lt) fun x=>?_
  rw [List.mem_filter,mem_seqI]
  have:(!kp R x)=true↔x∈R:=by
   unfold kp
   rw [Bool.not_not,List.elem_iff]
  rw [this]
  exact ⟨fun q=>q.2,fun q=>⟨h.rng x q,q⟩⟩
 omega
theorem Moved.mem {R:List Int} {m:Nat} (h:Moved R m) {c:Int} (hc:c∈allC R m):0≤c∧c<(m:Int):=by
 rcases List.mem_append.1 hc with hc|hc
 ·exact mem_seqI.1 (List.mem_filter.1 hc).1
 ·exact h.rng c hc
def posC (R:List Int) (K:Nat) (c:Int):Int:=if R.elem c then (K:Int)+idx (fun x=>x==c) R 0 else shiftI R c
theorem idx_mem {R:List Int} {c:Int} (h:c∈R):∃j,∃hj:j<R.length,idx (fun x=>x==c) R 0=(j:Int)∧R[j]=c:=by
 rcases idx_cases (fun x=>x==c) R 0 with ⟨_,e2⟩|⟨j,hj,e1,e2,_⟩
 ·have:=e2 c h
  simp at this
 ·exact ⟨j,hj,by simpa using e1,by simpa using e2⟩
theorem Moved.pos {R:List Int} {m K:Nat} (h:Moved R m) (hK:K=((seqI m).filter (kp R)).length) {c:Int} (c0:0≤c) (c1:c<(m:Int)):0≤posC R K c∧posC R K c<(m:Int)∧(allC R m)[(posC R K c).toNat]?=some c:=by
 have hl:=h.len
 unfold posC allC
 by_cases e:R.elem c=true
 ·rw [if_pos e]
  obtain ⟨j,hj,ej,ec⟩:=idx_mem (List.elem_iff.1 e)
  rw [ej]
  refine ⟨by omega,by omega,?_⟩
  rw [List.getElem?_append_right (by omega),show ((K:Int)+(j:Int)).toNat - ((seqI m).filter (kp R)).length=j by omega,List.getElem?_eq_getElem hj,ec]
 ·rw [if_neg e]
  obtain ⟨n,rfl⟩:∃n:Nat,c=(n:Int):=⟨c.toNat,by omega⟩
  have hn:n<m:=by omega
  have hkp:kp R (n:Int)=true:=kp_iff.2 fun q=>e (List.elem_iff.2 q)
  obtain ⟨r,hr⟩:=seqI_split hn
  rw [shiftI_eq h.lt (fun r hr=>(h.rng r hr).1)]
  have hf:(seqI m).filter (kp R)=(seqI n).filter (kp R)++(n:Int)::r.filter (kp R):=by
   rw [hr,List.filter_append,List.filter_cons,if_pos hkp]
  have hlen:((seqI m).filter (kp R)).length=((seqI n).filter (kp R)).length+1+(r.filter (kp R)).length:=by rw [hf];simp;omega
  refine ⟨by omega,by omega,?_⟩
  rw [Int.toNat_natCast,List.getElem?_append_left (by omega),hf,List.getElem?_append_right (Nat.le_refl _)]
  simp
theorem Moved.mono {R:List Int} {m K:Nat} (h:Moved R m) {c d:Int} (c0:0≤c) (hcd:c<d) (hc:c ∉ R) (hd:d ∉ R):posC R K c<posC R K d:=by
 unfold posC
 rw [if_neg (fun q=>hc (List.elem_iff.1 q)),if_neg (fun q=>hd (List.elem_iff.1 q))]
 obtain ⟨n,rfl⟩:∃n:Nat,c=(n:Int):=⟨c.toNat,by omega⟩
 obtain ⟨k,rfl⟩:∃n:Nat,d=(n:Int):=⟨d.toNat,by omega⟩
 rw [shiftI_eq h.lt (fun r hr=>(h.rng r hr).1),shiftI_eq h.lt (fun r hr=>(h.rng r hr).1)]
 obtain ⟨r,hr⟩:=seqI_split (c:=n) (m:=k) (by omega)
 rw [hr,List.filter_append,List.filter_cons,if_pos (kp_iff.2 hc),List.length_append,List.length_cons]
 omega
def goL (s:Sch):List Stp→Res
 | []=>.ok s
 | st::r=>match evoE s st with
  | .error e=>.error e
  | .ok t=>goL t r
def lastS (O:List Sch):Sch:=O.getD (O.length - 1) zSch
theorem lastS_snoc (acc:List Sch) (u:Sch):lastS (acc++[u])=u:=by
 unfold lastS
 rw [List.length_append,List.length_singleton,Nat.add_sub_cancel,List.getD_eq_getElem?_getD,List.getElem?_append_right (Nat.le_refl _)]
 simp
def okLast (x:ResL):Res:=match x with
 | .error e=>.error e
 | .ok O=>.ok (lastS O)
theorem goS_last:∀(l:List Stp) (acc:List Sch) (u:Sch),okLast (goS (acc++[u]) l)=goL u l
 | [],acc,u=>by rw [goS,goL,okLast,lastS_snoc]
 | st::r,acc,u=>by
  have h:(acc++[u]).getD ((acc++[u]).length - 1) zSch=u:=lastS_snoc acc u
  rw [goS,goL,h]
  cases evoE u st with
  | error e=>rfl
  | ok t=>exact goS_last r (acc++[u]) t
theorem scrApply_eq (s:Sch) (l:List Stp):scrApply s l=if 6<l.length then .error 2 else if schE s≠0 then .error (schE s) else goL s l:=by
 have h:scrApply s l=okLast (scrSchemas s l):=by
  unfold scrApply okLast lastS
  cases scrSchemas s l<;>rfl
 rw [h]
 unfold scrSchemas
 by_cases h1:6<l.length
 ·rw [if_pos h1,if_pos h1];rfl
 ·rw [if_neg h1,if_neg h1]
  by_cases h2:schE s≠0
  ·rw [if_pos h2,if_pos h2];rfl
  ·rw [if_neg h2,if_neg h2]
   exact goS_last l [] s
theorem goL_append:∀(a b:List Stp) (s:Sch),goL s (a++b)=match goL s a with
  | .error e=>.error e
  | .ok u=>goL u b
 | [],b,s=>rfl
 | st::r,b,s=>by
  rw [List.cons_append,goL,goL]
  cases evoE s st with
  | error e=>rfl
  | ok t=>exact goL_append r b t
theorem goL_ok:∀{l:List Stp} {s u:Sch},schE s=0→goL s l=.ok u→schE u=0
 | [],s,u,h,e=>by rw [goL] at e;injection e with e;rw [←e];exact h
 | st::r,s,u,h,e=>by
  rw [goL] at e
  cases hv:evoE s st with
  | error q=>rw [hv] at e;cases e
  | ok t=>rw [hv] at e;exact goL_ok (evoE_ok hv) e
theorem scr_concat {s:Sch} {a b:List Stp} (h:a.length+b.length≤6):scrApply s (a++b)=match scrApply s a with
  | .error e=>.error e
  | .ok u=>scrApply u b:=by
 have e1:scrApply s (a++b)=if schE s≠0 then .error (schE s) else goL s (a++b):=by rw [scrApply_eq,if_neg (by rw [List.length_append];omega)]
 have e2:scrApply s a=if schE s≠0 then .error (schE s) else goL s a:=by rw [scrApply_eq,if_neg (by omega)]
 rw [e1,e2]
 by_cases h2:schE s≠0
 ·rw [if_pos h2,if_pos h2]
 ·rw [if_neg h2,if_neg h2,goL_append]
  cases hg:goL s a with
  | error e=>rfl
  | ok u =>
   simp only
   rw [scrApply_eq,if_neg (by omega),if_neg (by rw [goL_ok (Decidable.byContradiction h2) hg];simp)]
set_option maxHeartbeats 8000000 in
theorem growScr_zero:SatM Tryz.prog 74 [.one (.nil 24),oI 0] [] [] (.v (.one (.ref 4 0 0))) [] [(4,⟨24,[],[]⟩)]:=by
 refine ZM [] [4] Tryz.func74 Tryz.ntmps74 fun w0 m0 F0=>?_
 refine ZWp Z0 Z0 ?_;repeat' (first|apply Zb|apply Zn|(apply Zm;intro h))
 exact ZQ (Z1 Tryz.results74)
set_option maxHeartbeats 8000000 in
theorem growScr_pos (n:Nat) (h0:0<n) (h:n≤1048576):SatM Tryz.prog 74 [.one (.nil 24),oI n] [] [] (.v (.one (.ref 4 0 0))) [] [(4,⟨24,List.replicate n (eStp zStp),[]⟩)]:=by
 refine ZM [] [4] Tryz.func74 Tryz.ntmps74 fun w0 m0 F0=>?_
 refine ZWp (Z1 @Int.sub_zero) Z0 ?_;repeat' (first|apply Zb|apply Zn|(apply Zm;intro h))
 refine ZR (Z1 Tryz.results74) ?_
 rfl
theorem growScr_own (n:Nat) (h:n≤1048576):SatM Tryz.prog 74 [.one (.nil 24),oI n] [] [] (.v (.one (.ref 4 0 0))) [] [(4,⟨24,List.replicate n (eStp zStp),[]⟩)]:=by
 rcases Nat.eq_zero_or_pos n with h0|h0
 ·subst h0
  exact growScr_zero
 ·exact growScr_pos n h0 h
def catS (ss:List (List Stp)) (k:Nat):List Stp:=(ss.take k).flatten
theorem catS_zero (ss:List (List Stp)):catS ss 0=[]:=rfl
theorem catS_succ {ss:List (List Stp)} {k:Nat} (h:k<ss.length):catS ss (k+1)=catS ss k++ss[k]:=by
 rw [catS,take_snoc ss k h,List.flatten_append]
 simp [catS]
theorem catS_le (ss:List (List Stp)) (k:Nat):(catS ss k).length≤ss.flatten.length:=by
 have h:ss.flatten=catS ss k++(ss.drop k).flatten:=by
  rw [catS,←List.flatten_append,List.take_append_drop]
 rw [h,List.length_append]
 omega
theorem catS_all (ss:List (List Stp)):catS ss ss.length=ss.flatten:=by rw [catS,List.take_length]
def eScr1 (c:List Stp):List L:=[eScr c]
set_option maxRecDepth 100000 in
set_option maxHeartbeats 8000000 in
theorem concatScr_sat (ss:List (List Stp)) (h1:ss.length≤1048576) (h2:ss.flatten.length≤1048576) :
  Sat Tryz.prog 36 [.one (.sl 1 (ss.map eScr1))] (.v (.one (eScr ss.flatten))):=by
 unfold eScr
 refine ZE Tryz.func36 Tryz.ntmps36 fun w0 m0 F0=>?_
 refine ZWp Z0 Z0 ?_;repeat' (first|apply Zb|apply Zn|(apply Zm;intro h)|(apply Zk;intro K hK))
 refine AWP.loop (ι:={k:Nat // k≤ss.length}) (fun k=>⟨36,[(0,.v (.one (.sl 1 (ss.map eScr1)))),(3,.v (oI (catS ss k.1).length)),(9,.v (.one (.sl 1 (ss.map eScr1)))),(10,.v (oI ss.length)),(11,.v (oI k.1))],[],[]⟩) (fun k=>ss.length - k.1) ⟨0,Nat.zero_le _⟩ ?_ fun ⟨k,hkl⟩=>?_
 ·exact ZN (Z1 @catS_zero)
 have hle:=catS_le ss k
 simp only
 rcases Nat.lt_or_ge k ss.length with hc|hc
 ·have es:=catS_succ hc
  have hle2:=catS_le ss (k+1)
  rw [es,List.length_append] at hle2
  refine ZWp (Z2 @eScr1.eq_1 @eScr.eq_1) Z0 ?_;repeat' (first|apply Zb|apply Zn|(apply Zm;intro h)|(apply Zk;intro K hK))
  refine ⟨⟨k+1,by omega⟩,by simp only;omega,?_⟩
  exact ZN (Z1 @es)
 ·have hk:k=ss.length:=by omega
  subst hk
  rw [catS_all] at hle ⊢
  refine ZVp Z0 Z0 (Z1 (Zs 9)) Z0 ?_;repeat' (first|apply Zb|apply Zn|(apply Zm;intro h)|(apply Zk;intro K hK))
  have h2':=h2
  refine AWP.regionX tyOk fun K hK=>?_
  refine VOpsX.step fun K2 h9=>?_
  refine ZU Z0 ?_
  refine h9 _ ?_
  refine VOpsX.sem (semCallIo (T:=TT) (xs:=[.one (.nil 24),oI ss.flatten.length]) [] [] [] [(4,24)] [] [24] [] [24] (by rfl) (growScr_own ss.flatten.length h2') rfl ⟨rfl,rfl,rfl,rfl⟩ rfl ⟨by simp [inB],by simp [inR]⟩ ⟨by simp [St.okD],?_⟩)
  refine VOpsX.step fun K3 h8=>?_
  refine ZU (Z1 @ioSt.eq_1) ?_
  refine h8 _ ?_
  refine VOpsX.fin (hK _ ?_)
  clear h8 h9 hK K3 K2 K
  refine ZWp Z0 Z0 ?_;repeat' (first|apply Zb|apply Zn|(apply Zm;intro h)|(apply Zk;intro K hK))
  refine AWP.loop (ι:={p:Nat×List (List L) // p.1≤ss.length∧p.2.take (catS ss p.1).length=(catS ss p.1).map eStp}) (fun k=>⟨36,[(25,.v (.one (.sl 1 (ss.map eScr1)))),(26,.v (oI ss.length)),(27,.v (oI k.1.1)),(6,.v (.one (.ref 6 0 (catS ss k.1.1).length)))],[],[(6,⟨24,k.1.2,[]⟩)]⟩) (fun p=>ss.length - p.1.1) ⟨(0,List.replicate ss.flatten.length (eStp zStp)),by simp only;omega,rfl⟩ ?_ fun ⟨⟨k,xs⟩,hkl,hx⟩=>?_
  ·exact ZN (Z1 @catS_zero)
  have hle:=catS_le ss k
  simp only at hx hkl ⊢
  have hlx:(catS ss k).length≤xs.length:=by
   have:=congrArg List.length hx
   rw [List.length_take,List.length_map] at this
   omega
  rcases Nat.lt_or_ge k ss.length with hc|hc
  ·have es:=catS_succ hc
   have hle2:=catS_le ss (k+1)
   rw [es,List.length_append] at hle2
   refine ZWp (Z2 @eScr1.eq_1 @eScr.eq_1) Z0 ?_;repeat' (first|apply Zb|apply Zn|(apply Zm;intro h)|(apply Zk;intro K hK))
   refine ⟨⟨(k+1,(catS ss (k+1)).map eStp),by simp only;omega,by simp only;rw [←List.length_map (f:=eStp),List.take_length]⟩,by simp only;omega,?_⟩
   exact ZN (Z2 @es @hx)
  ·have hk:k=ss.length:=by omega
   subst hk
   rw [catS_all] at hx hlx ⊢
   refine ZWp Z0 Z0 ?_;repeat' (first|apply Zb|apply Zn|(apply Zm;intro h)|(apply Zk;intro K hK))
   refine ZR (Z1 Tryz.results36) ?_
   have ef:((fun x:List L=>List.map (L.frzN 4) x)∘eStp)=eStp:=by funext c;rfl
   rw [if_pos hlx,←List.map_take,hx,List.map_map,ef]
def eI1 (i:Inst):List L:=[eInst i]
def eIs (l:List Inst):L:=.sl 1 (l.map eI1)
set_option maxHeartbeats 16000000 in
theorem scrEmpty_ok (s:Sch) (l:List Stp) (O:List Sch) (N:List Inst) (c1:Sat Tryz.prog 73 [.agg (eSch s),.one (eScr l)] (.tup [.one (eSchs O),oI 0])) (hl:l.length≤1048576) (hO:O.length=l.length+1) (hN:N.length=l.length)
  (hE:∀k,∀h:k<l.length,Sat Tryz.prog 22 [.agg (eSch (O.getD k zSch)),.agg (eStp l[k])] (.tup [.one (eInst (N.getD k [])),oI 0])) :
  Sat Tryz.prog 71 [.agg (eSch s),.one (eScr l)] (.tup [.one (eIs N),oI 0]):=by
 unfold eScr eSchs at c1
 unfold eScr eIs
 refine ZE Tryz.func71 Tryz.ntmps71 fun w0 m0 F0=>?_
 refine ZWp Z0 (Z1 (c1)) ?_;repeat' (first|apply Zb|apply Zn|(apply Zm;intro h)|(apply Zk;intro K hK))
 refine AWP.loop (ι:={k:Nat // k≤l.length}) (fun k=>⟨47,[(6,.v (.one (.sl 3 (O.map eSch)))),(8,.v (.one (.ref 8 0 k.1))),(22,.v (.one (.sl 24 (l.map eStp)))),(23,.v (oI l.length)),(24,.v (oI k.1))],[],[(8,⟨1,(N.take k.1).map eI1,[]⟩)]⟩) (fun k=>l.length - k.1) ⟨0,Nat.zero_le _⟩ ?_ fun ⟨k,hkl⟩=>?_
 ·exact ZN (Z1 @Int.natCast_zero)
 simp only at hkl ⊢
 have lt:(N.take k).length=k:=by rw [List.length_take];omega
 rcases Nat.lt_or_ge k l.length with hk|hk
 ·have sn:=take_snoc N k (by omega)
  have ev:=hE k hk
  obtain ⟨st,hst⟩:∃st,l[k]=st:=⟨_,rfl⟩
  rw [hst] at ev
  have gs:(l.map eStp).getD k []=eStp st:=by rw [getD_map_lt _ _ _ hk,hst]
  have hk2:k<O.length:=by omega
  have ga:(O.map eSch).getD k []=eSch (O.getD k zSch):=by rw [getD_map_lt _ _ _ hk2,getD_lt _ hk2]
  have hkN:k<N.length:=by omega
  rw [getD_lt _ hkN] at ev
  obtain ⟨n,hn⟩:∃n,N[k]=n:=⟨_,rfl⟩
  rw [hn] at ev sn
  obtain ⟨c,hc⟩:∃c,O.getD k zSch=c:=⟨_,rfl⟩
  rw [hc] at ga ev
  unfold eInst at ev
  refine ZVp (Z2 @gs @eStp.eq_1) Z0 (Z1 (Zs 8)) Z0 ?_;repeat' (first|apply Zb|apply Zn|(apply Zm;intro h)|(apply Zk;intro K hK))
  refine dX tyOk mixed [(0,5)] [(5,[(6,5)],[])] [5] 8 fun K hK=>?_
  simp only [SG,segs] at hK ⊢
  refine ZU (Z1 @ga) ?_
  refine ZVp (Z2 @ga @lt) (Z1 (ev)) Z0 Z0 ?_;repeat' (first|apply Zb|apply Zn|(apply Zm;intro h)|(apply Zk;intro K hK))
  refine ⟨⟨k+1,by omega⟩,by simp only;omega,?_⟩
  simp only [sn]
  exact ZN (Z4 @eI1.eq_1 @eInst.eq_1 @Int.natCast_add @Int.natCast_one)
 ·have hk2:k=l.length:=by omega
  subst hk2
  rw [←hN,List.take_length]
  refine ZWp Z0 Z0 ?_;repeat' (first|apply Zb|apply Zn|(apply Zm;intro h)|(apply Zk;intro K hK))
  refine ZR (Z1 Tryz.results71) ?_
  have ef:(N.map eI1).map (fun x=>x.map (L.frzN 4))=N.map eI1:=frz_map (fun _=>rfl) N
  rw [ef]
def xr (N:List Inst) (n k:Nat):List Inst:=N.take k++List.replicate (n - k) []
theorem xr_len {N:List Inst} {n k:Nat} (h:k≤n) (hN:N.length=n):(xr N n k).length=n:=by
 unfold xr
 rw [List.length_append,List.length_take,List.length_replicate]
 omega
theorem xr_set {N:List Inst} {n k:Nat} (h:k<n) (hN:N.length=n):((xr N n k).map eI1).set k (eI1 (N[k]'(by omega)))=(xr N n (k+1)).map eI1:=by
 have hk:k<N.length:=by omega
 have lt:(N.take k).length=k:=by rw [List.length_take];omega
 rw [←List.map_set]
 congr 1
 unfold xr
 rw [List.set_append_right _ _ (by omega),lt,Nat.sub_self,take_snoc N k hk]
 have e:n - k=(n - (k+1))+1:=by omega
 rw [e,List.replicate_succ,List.set_cons_zero,List.append_assoc]
 rfl
theorem xr_get {N:List Inst} {n k:Nat} (h:k<n) (hN:N.length=n):((xr N n k).map eI1).getD k []=[.sl 2 []]:=by
 have lt:(N.take k).length=k:=by rw [List.length_take];omega
 have e:(xr N n k)[k]?=some []:=by
  unfold xr
  rw [List.getElem?_append_right (by omega),lt,Nat.sub_self,List.getElem?_replicate]
  rw [if_pos (by omega)]
 rw [List.getD_eq_getElem?_getD,List.getElem?_map,e]
 rfl
set_option maxRecDepth 100000 in
set_option maxHeartbeats 32000000 in
theorem scrForward_ok (s:Sch) (l:List Stp) (src:Inst) (comps:List Inst) (O:List Sch) (I N:List Inst) (c1:Sat Tryz.prog 73 [.agg (eSch s),.one (eScr l)] (.tup [.one (eSchs O),oI 0])) (hl:l.length≤1048576) (hO:O.length=l.length+1) (hc:comps.length=l.length) (hN:N.length=l.length)
  (hI:I.length=l.length+1) (h0:I.getD 0 []=src) (c2:Sat Tryz.prog 23 [.agg (eSch s),.one (eInst src)] (.v (oI 0))) (c3:Sat Tryz.prog 104 [.one (eInst src)] (.v (.one (eInst src))))
  (hF:∀k,∀h:k<l.length,Sat Tryz.prog 27 [.agg (eSch (O.getD k zSch)),.agg (eStp l[k]),.one (eInst (I.getD k [])),.one (eInst (comps.getD k []))] (.tup [.one (eInst (I.getD (k+1) [])),.one (eInst (N.getD k [])),oI 0])) :
  Sat Tryz.prog 72 [.agg (eSch s),.one (eScr l),.one (eInst src),.one (eIs comps)] (.tup [.one (eInst (I.getD l.length [])),.one (eIs N),oI 0]):=by
 unfold eScr eSchs at c1
 unfold eScr eIs
 unfold eInst at c2 c3 ⊢
 refine ZE Tryz.func72 Tryz.ntmps72 fun w0 m0 F0=>?_
 refine ZVp Z0 (Z3 (c1) (c2) (c3)) (Z1 (Zs 10)) Z0 ?_;repeat' (first|apply Zb|apply Zn|(apply Zm;intro h)|(apply Zk;intro K hK))
 refine AWP.regionX tyOk fun K hK=>?_
 refine VOpsX.step fun K2 h9=>?_
 refine ZU Z0 ?_
 refine h9 _ ?_
 refine VOpsX.step fun K4 h7=>?_
 refine ZU Z0 ?_
 refine h7 _ ?_
 refine VOpsX.sem (semMake tyOk (n:=l.length) (k1:=.i64) (k2:=.i64) rfl rfl rfl rfl rfl (by show 24 * l.length≤_;omega) (by omega) (Nat.le_of_ble_eq_true rfl) ?_)
 refine VOpsX.step fun K3 h8=>?_
 refine ZU Z0 ?_
 refine h8 _ ?_
 refine VOpsX.fin (hK _ ?_)
 clear h8 h7 h9 hK K4 K3 K2 K
 refine ZWp Z0 Z0 ?_;repeat' (first|apply Zb|apply Zn|(apply Zm;intro h)|(apply Zk;intro K hK))
 refine AWP.loop (ι:={k:Nat // k≤l.length}) (fun k=>⟨74,[(3,.v (.one (.sl 1 (comps.map eI1)))),(11,.v (.one (.sl 3 (O.map eSch)))),(14,.v (.one (.sl 2 ((I.getD k.1 []).map eRel)))),(15,.v (.one (.ref 15 0 l.length))),(43,.v (.one (.sl 24 (l.map eStp)))),(44,.v (oI l.length)),(45,.v (oI k.1))],[],[(15,⟨1,(xr N l.length k.1).map eI1,[]⟩)]⟩) (fun k=>l.length - k.1) ⟨0,Nat.zero_le _⟩ ?_ fun ⟨k,hkl⟩=>?_
 ·refine St.le_mk ?_ ?_ ?_<;>simp only [LE,EN,Nat.reduceEqDiff,reduceIte,Nat.reduceSub,h0,xr,List.length_replicate,List.take_zero,List.nil_append,Nat.sub_zero,List.map_replicate,eI1,eInst,List.map_nil,Int.natCast_zero]
 simp only at hkl ⊢
 rcases Nat.lt_or_ge k l.length with hk|hk
 ·have xl:=xr_len (N:=N) hkl hN
  have xs:=xr_set (N:=N) hk hN
  have gX:=xr_get (N:=N) hk hN
  have ev:=hF k hk
  obtain ⟨st,hst⟩:∃st,l[k]=st:=⟨_,rfl⟩
  rw [hst] at ev
  have gs:(l.map eStp).getD k []=eStp st:=by rw [getD_map_lt _ _ _ hk,hst]
  have hk2:k<O.length:=by omega
  have ga:(O.map eSch).getD k []=eSch (O.getD k zSch):=by rw [getD_map_lt _ _ _ hk2,getD_lt _ hk2]
  have hkN:k<N.length:=by omega
  have hkc:k<comps.length:=by omega
  rw [getD_lt _ hkN,getD_lt _ hkc] at ev
  obtain ⟨n,hn⟩:∃n,N[k]=n:=⟨_,rfl⟩
  obtain ⟨m,hm⟩:∃m,comps[k]=m:=⟨_,rfl⟩
  have gm:(comps.map eI1).getD k []=[.sl 2 (m.map eRel)]:=by rw [getD_map_lt _ _ _ hkc,hm];rfl
  rw [hn,hm] at ev
  rw [hn] at xs
  obtain ⟨c,hc⟩:∃c,O.getD k zSch=c:=⟨_,rfl⟩
  rw [hc] at ga ev
  obtain ⟨i0,hi0⟩:∃i0,I.getD k []=i0:=⟨_,rfl⟩
  obtain ⟨i1,hi1⟩:∃i1,I.getD (k+1) []=i1:=⟨_,rfl⟩
  rw [hi0,hi1] at ev
  rw [hi0]
  unfold eInst at ev
  obtain ⟨X,hX⟩:∃X,(xr N l.length k).map eI1=X:=⟨_,rfl⟩
  have lX:X.length=l.length:=by rw [←hX,List.length_map,xl]
  rw [hX] at xs gX ⊢
  have xs:X.set k [.sl 2 (n.map eRel)]=(xr N l.length (k+1)).map eI1:=xs
  refine ZVp (Z3 @gs @eStp.eq_1 @lX) Z0 (Z1 (Zs 14)) Z0 ?_;repeat' (first|apply Zb|apply Zn|(apply Zm;intro h)|(apply Zk;intro K hK))
  refine dX tyOk mixed [(0,12)] [(12,[(13,4)],[(0,2)]),(17,[(18,1)],[(0,2),(15,2)]),(19,[(20,1)],[(16,1)])] [12,17,19] 8 fun K hK=>?_
  simp only [SG,segs] at hK ⊢
  refine ZU (Z3 @ga @gm @lX) ?_
  refine ZVp (Z4 @ga @gm @gX @lX) (Z1 (ev)) Z0 Z0 ?_;repeat' (first|apply Zb|apply Zn|(apply Zm;intro h)|(apply Zk;intro K hK))
  refine ⟨⟨k+1,by omega⟩,by simp only;omega,?_⟩
  simp only [hi1]
  exact ZL (Z5 @xs @eI1.eq_1 @eInst.eq_1 @Int.natCast_add @Int.natCast_one)
 ·have hk2:k=l.length:=by omega
  subst hk2
  have e:xr N l.length l.length=N:=by
   unfold xr
   rw [Nat.sub_self,List.take_of_length_le (by omega)]
   simp
  rw [e]
  refine ZWp (Z1 @hN) Z0 ?_;repeat' (first|apply Zb|apply Zn|(apply Zm;intro h)|(apply Zk;intro K hK))
  refine ZR (Z1 Tryz.results72) ?_
  have ef:(N.map eI1).map (fun x=>x.map (L.frzN 4))=N.map eI1:=frz_map (fun _=>rfl) N
  simp [ef,hN]
def bAge:ByteArray:=⟨#[97,103,101]⟩
def bYears:ByteArray:=⟨#[121,101,97,114,115]⟩
def stA:Stp:=⟨1,bPeople,ByteArray.empty,bAge,ByteArray.empty,1,[],ByteArray.empty,⟨1,7,ByteArray.empty⟩,⟨ByteArray.empty,[],[]⟩,⟨ByteArray.empty,0,ByteArray.empty,0,⟨0,0,ByteArray.empty⟩⟩,⟨ByteArray.empty,[],ByteArray.empty⟩⟩
def stB:Stp:=⟨3,bPeople,ByteArray.empty,bAge,bYears,0,[],ByteArray.empty,⟨0,0,ByteArray.empty⟩,⟨ByteArray.empty,[],[]⟩,⟨ByteArray.empty,0,ByteArray.empty,0,⟨0,0,ByteArray.empty⟩⟩,⟨ByteArray.empty,[],ByteArray.empty⟩⟩
def uA:Sch:=⟨[⟨bPeople,[⟨bId,1,false⟩,⟨bName,3,true⟩,⟨bAge,1,false⟩],[0]⟩],[],[]⟩
def uB:Sch:=⟨[⟨bPeople,[⟨bId,1,false⟩,⟨bName,3,true⟩,⟨bYears,1,false⟩],[0]⟩],[],[]⟩
def wAT:Tbl:=⟨bPeople,[⟨k0B,1,false⟩,⟨oldB,1,false⟩],[0]⟩
def wA:Sch:=⟨[wAT],[],[]⟩
def wB:Sch:=⟨[],[],[]⟩
def rSc:Row:=[⟨1,1,ByteArray.empty⟩,⟨0,0,ByteArray.empty⟩]
def rTc:Row:=[⟨1,1,ByteArray.empty⟩,⟨0,0,ByteArray.empty⟩,⟨1,7,ByteArray.empty⟩]
theorem evoA:evoE s0 stA=.ok uA:=by kernel_rfl
theorem evoB:evoE uA stB=.ok uB:=by kernel_rfl
theorem compA:compE s0 stA=.ok wA:=by kernel_rfl
theorem compB:compE uA stB=.ok wB:=by kernel_rfl
theorem schsAB:scrSchemas s0 [stA,stB]=.ok [s0,uA,uB]:=by kernel_rfl
theorem uAf:uA.Fits:=⟨by decide,by decide,by decide,by decide,by decide⟩
theorem stAf:stA.Fits:=⟨by decide,by decide,by decide,by decide⟩
theorem stBf:stB.Fits:=⟨by decide,by decide,by decide,by decide⟩
theorem b0S:Bounds0 s0 (pI [rSc]):=⟨by decide,by decide,by decide,by decide,by decide,by decide⟩
theorem b0A:Bounds0 wA (pI []):=⟨by decide,by decide,by decide,by decide,by decide,by decide⟩
theorem b0T:Bounds0 uA (pI [rTc]):=⟨by decide,by decide,by decide,by decide,by decide,by decide⟩
theorem b0N:Bounds0 wB []:=⟨by decide,by decide,by decide,by decide,by decide,by decide⟩
theorem fwdA:Sat Tryz.prog 27 [.agg (eSch s0),.agg (eStp stA),.one (eInst (pI [rSc])),.one (eInst (pI []))] (.tup [.one (eInst (pI [rTc])),.one (eInst (pI [])),oI 0]):=by
 have D0:=insertColumn_satM stA true s0 uA wAT (pI [rSc]) bPeople [] (out0 s0 uA (pI [rSc])) (emptyI wA) 0 0 0 2 (by decide) (by kernel_rfl) (by decide) (by decide) (by decide) (by decide) (by decide) (by decide) (by decide) (by kernel_rfl) (by decide) (by decide) (by kernel_rfl) (by decide) (by decide) (by decide) (by decide) (by decide)
 have e1:setR (out0 s0 uA (pI [rSc])) stA.table (insO wAT [] s0.tables[0] stA.value (pI [rSc])[0].rows)=pI [rTc]:=by kernel_rfl
 have e2:setR (emptyI wA) stA.table (insC wAT [] s0.tables[0] stA.value (pI [rSc])[0].rows)=pI []:=by kernel_rfl
 rw [e1,e2] at D0
 exact forward_sat s0 stA _ _ _ _ s0f stAf (.inl rfl) evoA compA (run_satM stA true s0 uA wA (pI [rSc]) (pI []) (pI [rTc]) (pI []) (by kernel_rfl) (by kernel_rfl) b0S b0A (by decide) (by decide) (by decide) (by decide) (by decide) (by decide) (by decide) (by decide) (by decide) (by decide) (by decide) (by decide) (dispatch_ins stA true s0 uA wA _ _ _ _ _ _ _ _ (.inl ⟨rfl,rfl⟩) D0))
set_option maxHeartbeats 16000000 in
theorem dispatch_ren (st:Stp) (fwd:Bool) (a b c:Sch) (inn comp:Inst) (no nn:Nat) (X Y:List (List L)) (hk:st.kind=3) :
  SatM Tryz.prog 106 [.one (.ptr 1000 0)] [(1000,mB st fwd a b c inn comp no nn 0)] [(1001,⟨2,X,[]⟩),(1002,⟨2,Y,[]⟩)] (.tup []) [(1000,mB st fwd a b c inn comp no nn 0)] [(1001,⟨2,X,[]⟩),(1002,⟨2,Y,[]⟩)]:=by
 rw [mBX,eSchX,eSchX,eSchX]
 unfold eStp
 simp only [List.cons_append,List.nil_append]
 rw [hk]
 refine ZM [1000] [1001,1002] Tryz.func106 Tryz.ntmps106 fun w0 m0 F0=>?_
 refine ZWp Z0 Z0 ?_;repeat' (first|apply Zb|apply Zn|(apply Zm;intro h))
 exact ZQ (Z1 Tryz.results106)
theorem fwdB:Sat Tryz.prog 27 [.agg (eSch uA),.agg (eStp stB),.one (eInst (pI [rTc])),.one (eInst [])] (.tup [.one (eInst (pI [rTc])),.one (eInst []),oI 0]):=by
 have e1:out0 uA uB (pI [rTc])=pI [rTc]:=by kernel_rfl
 have D0:SatM Tryz.prog 106 [.one (.ptr 1000 0)] [(1000,mB stB true uA uB wB (pI [rTc]) [] uB.tables.length wB.tables.length 0)] [(1001,⟨2,(out0 uA uB (pI [rTc])).map eRel,[]⟩),(1002,⟨2,(emptyI wB).map eRel,[]⟩)]
   (.tup []) [(1000,mB stB true uA uB wB (pI [rTc]) [] uB.tables.length wB.tables.length 0)] [(1001,⟨2,(pI [rTc]).map eRel,[]⟩),(1002,⟨2,(emptyI wB).map eRel,[]⟩)]:=by
  rw [e1]
  exact dispatch_ren stB true uA uB wB (pI [rTc]) [] _ _ _ _ rfl
 exact forward_sat uA stB _ _ _ _ uAf stBf (.inr (.inr rfl)) evoB compB (run_satM stB true uA uB wB (pI [rTc]) [] (pI [rTc]) (emptyI wB) (by kernel_rfl) (by kernel_rfl) b0T b0N (by decide) (by decide) (by decide) (by decide) (by decide) (by decide) (by decide) (by decide) (by decide) (by decide) (by decide) (by decide) D0)
theorem empA:Sat Tryz.prog 22 [.agg (eSch s0),.agg (eStp stA)] (.tup [.one (eInst (pI [])),oI 0]):=emptyComp_ok s0 stA s0f stAf (.inl rfl) evoA compA (by decide)
theorem empB:Sat Tryz.prog 22 [.agg (eSch uA),.agg (eStp stB)] (.tup [.one (eInst []),oI 0]):=emptyComp_ok uA stB uAf stBf (.inr (.inr rfl)) evoB compB (by decide)
theorem rTf:RowFits rTc:=⟨by decide,fun v hv=>by
 rcases List.mem_cons.1 hv with rfl|hv
 ·exact ⟨by decide,by decide,by decide,by decide,by decide⟩
 rcases List.mem_cons.1 hv with rfl|hv
 ·exact ⟨by decide,by decide,by decide,by decide,by decide⟩
 ·rw [List.mem_singleton.1 hv]
  exact ⟨by decide,by decide,by decide,by decide,by decide⟩⟩
set_option maxHeartbeats 16000000 in
theorem scriptsWork_sat:Sat Tryz.prog 34 [] (.v (oB true)):=by
 have q:=scrSchemas_sat s0 [stA,stB] s0f (by decide) (fun st h=>by
  rcases List.mem_cons.1 h with rfl|h
  ·exact stAf
  ·rw [List.mem_singleton.1 h];exact stBf)
 rw [schsAB] at q
 unfold lOut rE at q
 simp only at q
 have c1:=scrEmpty_ok s0 [stA,stB] [s0,uA,uB] [pI [],[]] q (by decide) rfl rfl fun k hk=>by
  match k,hk with
  | 0,_=>exact empA
  | 1,_=>exact empB
  | n+2,hk=>exact absurd hk (by simp)
 have c2:=scrForward_ok s0 [stA,stB] (pI [rSc]) [pI [],[]] [s0,uA,uB] [pI [rSc],pI [rTc],pI [rTc]] [pI [],[]] q (by decide) rfl rfl rfl rfl rfl (by
   have:=conforms_sat s0 (pI [rSc]) b0S (by decide)
   rw [show confE s0 (pI [rSc])=0 from by kernel_rfl] at this
   exact this) (instClone_sat (pI [rSc]) (by decide) (fun r hr=>by
   rw [List.mem_singleton.1 hr]
   exact ⟨by decide,by decide⟩)) fun k hk=>by
  match k,hk with
  | 0,_=>exact fwdA
  | 1,_=>exact fwdB
  | n+2,hk=>exact absurd hk (by simp)
 have c3:=encode_sat rTc rTf
 have e2:([pI [rSc],pI [rTc],pI [rTc]]:List Inst).getD [stA,stB].length []=pI [rTc]:=rfl
 rw [e2] at c2
 simp only [eScr,eIs,eI1,eInst,eSch,eStp,eTbls,eFKs,eCons,pI,List.map_cons,List.map_nil,eRel,eRows,eRow,s0,stA,stB,peopleT,eTbl,eCols,eInts,eCol,eInt1,rSc,rTc,eRow1,eVal] at c1 c2 c3
 refine ZE Tryz.func34 Tryz.ntmps34 fun w0 m0 F0=>?_
 refine ZVp Z0 (Z2 (people_sat) (integer_sat 7)) (Z1 (Zs 3)) Z0 ?_;repeat' (first|apply Zb|apply Zn|(apply Zm;intro h)|(apply Zk;intro K hK))
 refine AWP.frz [1] [] ?_
 refine ZS Z0 ?_
 refine ZVp Z0 (Z1 (c1)) (Z1 (Zs 4)) Z0 ?_;repeat' (first|apply Zb|apply Zn|(apply Zm;intro h)|(apply Zk;intro K hK))
 refine dX tyOk mixed [(0,2),(3,1),(8,1)] [(2,[],[(0,2),(3,1),(8,1)]),(4,[],[(0,2),(8,1)]),(5,[(6,1)],[(0,2),(8,1)]),(7,[],[(0,2),(8,1)]),(9,[(10,7)],[])] [2,4,5,7,9] 8 fun K hK=>?_
 simp only [SG,segs] at hK ⊢
 refine ZU Z0 ?_
 repeat' (first|((first|((fail_if_success (refine AWP.isRegion 5 ?_));(with_reducible refine qV tyOk fun K hK=>?_))|refine Q2 ?_|((with_reducible first|refine qS ?_ ?_|refine qT ?_ ?_|refine qU ?_ ?_)<;>(intro h;try simp only [NM] at h))|((with_reducible refine CallJ.is ?_);(first|refine CallJ.pure (integer_sat 1) ?_|refine CallJ.pure (c2) ?_|((apply CallJ.frozI [1] []);(focus (simp -dsimp (disch:=first|exact D|fail) only [go_sem,↓reduceIte,seval,Option.getD_none,RT,St.rest,St.freeze];rfl));(focus (first|exact (integer_sat 1)|exact (c2))))))|(with_reducible first|refine VCy.some fun K hK=>?_|refine VCy.step fun K hK=>?_))<;>simp -dsimp (disch:=first|exact D|fail) only [go_sem,↓reduceIte,seval,Option.getD_none,RT,St.rest,St.freeze])|((with_reducible refine hK _ ?_);clear hK K)|(with_reducible refine VCy.intro fun K0 hK0=>?_)|((with_reducible refine VCy.fin ?_);(refine hK0 _ ?_);clear hK0 K0)|(with_reducible first|refine VCy.quiet ?_|refine VCy.none ?_)|((with_reducible refine VCy.keep ?_ ?_);focus ((simp -dsimp (disch:=first|exact D|fail) only [go_sem,↓reduceIte,seval,Stable_cons,Stable_nil,sameA_some,sameA_none,Option.getD_none,RT,St.rest,St.freeze]);first|done|exact E|fail))|refine Q1 ?_|((with_reducible refine qW (T:=TT) (b:=?_) ?_ ?_);rotate_left;exact rfl)|((with_reducible refine yS ?_ ?_)<;>(intro h;try simp only [NM] at h)))
 refine ZWp (Z1 (@List.getD_cons_zero.{0})) (Z3 (integer_sat 1) (integer_sat 7) (c3)) ?_;repeat' (first|apply Zb|apply Zn|(apply Zm;intro h)|(apply Zk;intro K hK))
 exact ZQ (Z1 Tryz.results34)
theorem sOut_fits (r:Res) (h:∀u,r=.ok u→schE u=0):(sOut r).Fits:=by
 cases r with
 | error e =>
  show zSch.Fits
  exact ⟨by decide,by decide,by decide,by decide,by decide⟩
 | ok u=>exact (small_of (h u rfl)).fits
set_option maxHeartbeats 16000000 in
theorem scriptConcatenation_sat (s:Sch) (a b:List Stp) (hs:s.Fits) (ha:a.length≤140737488355328) (hb:b.length≤140737488355328) (fa:∀st∈a,st.Fits) (fb:∀st∈b,st.Fits) :
  Sat Tryz.prog 11 [.agg (eSch s),.one (eScr a),.one (eScr b)] (.v (oB true)):=by
 have c0:=scriptsWork_sat
 by_cases hl:6<a.length+b.length
 ·have hl':6<(a.length:Int)+(b.length:Int):=by omega
  unfold eScr
  refine ZE Tryz.func11 Tryz.ntmps11 fun w0 m0 F0=>?_
  refine ZW Z0 (Z1 (c0)) ?_;repeat' (first|apply Zb|apply Zn|(apply Zk;intro K hK))
  exact ZQ (Z1 Tryz.results11)
 have hl':¬ 6<(a.length:Int)+(b.length:Int):=by omega
 have cc:=concatScr_sat [a,b] (by simp) (by simp;omega)
 have ef:[a,b].flatten=a++b:=by simp
 rw [ef] at cc
 have fab:∀st∈a++b,st.Fits:=fun st h=>(List.mem_append.1 h).elim (fa st) (fb st)
 have s1:=scrApply_sat s (a++b) hs (by rw [List.length_append];omega) fab
 have s2:=scrApply_sat s a hs ha fa
 have sc:=scr_concat (s:=s) (a:=a) (b:=b) (by omega)
 rw [sc] at s1
 cases h:scrApply s a with
 | error e =>
  have he:=scrApply_ne h
  rw [h] at s1 s2
  unfold sOut rE at s1 s2
  simp only at s1 s2
  unfold eScr at cc s1 s2 ⊢
  simp only [List.map_cons,List.map_nil,eScr1,eScr] at cc
  refine ZE Tryz.func11 Tryz.ntmps11 fun w0 m0 F0=>?_
  refine ZV Z0 (Z1 (c0)) (Z1 (Zs 5)) Z0 ?_;repeat' (first|apply Zb|apply Zn|(apply Zk;intro K hK))
  refine AWP.mid ⟨55,[(1,.v (.one (.sl 24 (a.map eStp)))),(2,.v (.one (.sl 24 (b.map eStp)))),(3,.v (.one (.ptr 3 0))),(7,.v (.one (.ptr 7 0))),(8,.v (oI e))],[(3,eSch s),(7,eSch zSch)],[]⟩ ?_ ?_
  ·refine dY tyOk mixed [(0,3)] (.cons 3 [] [(0,1)] (.cons 4 [] [(0,1)] (.cons 5 [(6,3)] [] (.cons 9 [] [(6,3)] (.cons 10 [(11,1)] [(8,1)] .leaf .none) .none) (.cons 9 [] [(0,1)] (.cons 5 [(6,3)] [] (.cons 10 [(11,1)] [(8,1)] .leaf .none) .none) .none)) (.cons 9 [] [(0,1)] (.cons 4 [] [(0,1)] (.cons 5 [(6,3)] [] (.cons 10 [(11,1)] [(8,1)] .leaf .none) .none) .none) .none)) (.cons 9 [] [(0,3)] (.cons 3 [] [(0,1)] (.cons 4 [] [(0,1)] (.cons 5 [(6,3)] [] (.cons 10 [(11,1)] [(8,1)] .leaf .none) .none) .none) .none) .none)) [3,4,5,9,10] 8 fun K hK=>?_
   simp only [segt_leaf,segt_none,segt_cons,segs,List.drop_succ_cons,List.drop_zero,List.take_succ_cons,List.take_zero,List.getElem?_cons_zero,List.getElem?_cons_succ,List.cons_append,List.nil_append,List.append_nil] at hK ⊢
   refine ZU Z0 ?_
   repeat' (first|((first|((fail_if_success (refine AWP.isRegion 6 ?_));(with_reducible refine qV tyOk fun K hK=>?_))|refine Q2 ?_|((with_reducible first|refine qS ?_ ?_|refine qT ?_ ?_|refine qU ?_ ?_)<;>(intro h;try simp only [NM] at h))|((with_reducible refine CallJ.is ?_);(first|refine CallJ.pure (cc) ?_|refine CallJ.pure (s1) ?_|((apply CallJ.frozI [3,7] []);(focus (simp -dsimp (disch:=first|exact D|fail) only [go_sem,↓reduceIte,seval,eSch,Option.getD_none,RT,St.rest,St.freeze];rfl));(focus (first|exact (cc)|exact (s1))))))|(with_reducible first|refine VCt.some fun K hK=>?_|refine VCt.step fun K hK=>?_))<;>simp -dsimp (disch:=first|exact D|fail) only [go_sem,↓reduceIte,seval,eSch,Option.getD_none,RT,St.rest,St.freeze])|((with_reducible refine hK _ ?_);clear hK K)|(with_reducible refine VCt.intro fun K0 hK0=>?_)|((with_reducible refine VCt.fin ?_);(refine hK0 _ ?_);clear hK0 K0)|(with_reducible first|refine VCy.quiet ?_|refine VCt.none ?_)|((with_reducible refine VCy.keep ?_ ?_);focus ((simp -dsimp (disch:=first|exact D|fail) only [go_sem,↓reduceIte,seval,Stable_cons,Stable_nil,sameA_some,sameA_none,eSch,Option.getD_none,RT,St.rest,St.freeze]);first|done|exact E|fail))|((with_reducible refine VCt.fork (fun K hK=>?_) ?_);(focus (simp -dsimp (disch:=first|exact D|fail) only [go_sem,↓reduceIte,seval,eSch,Option.getD_none,RT,St.rest,St.freeze])))|refine Q1 ?_|((with_reducible refine qW (T:=TT) (b:=?_) ?_ ?_);rotate_left;exact rfl)|((with_reducible refine yS ?_ ?_)<;>(intro h;try simp only [NM] at h)))
   all_goals refine Gq.done ⟨rfl,?_⟩
   all_goals refine St.le_mk ?_ ?_ ?_<;>simp only [LE,EN,Nat.reduceEqDiff,reduceIte,Nat.reduceSub,eSch,zSch,List.map_nil]
  refine ZWp (Z1 @he) (Z1 (s2)) ?_;repeat' (first|apply Zb|apply Zn|(apply Zm;intro h)|(apply Zk;intro K hK))
  exact ZQ (Z1 Tryz.results11)
 | ok u =>
  have zu:=scrApply_ok h
  have s3:=scrApply_sat u b (small_of zu).fits hb fb
  rw [h] at s1 s2
  simp only at s1
  obtain ⟨R,hR⟩:∃R,scrApply u b=R:=⟨_,rfl⟩
  have fR:=sOut_fits R (fun v hv=>by rw [hv] at hR;exact scrApply_ok hR)
  have s4:=schEqual_sat (sOut R) (sOut R) fR fR
  rw [hR] at s1 s3
  rw [decide_eq_true rfl] at s4
  rw [show sOut (.ok u)=u from rfl,show rE (.ok u)=0 from rfl] at s2
  unfold eScr at cc s1 s2 s3 ⊢
  simp only [List.map_cons,List.map_nil,eScr1,eScr] at cc
  refine ZE Tryz.func11 Tryz.ntmps11 fun w0 m0 F0=>?_
  refine ZV Z0 (Z1 (c0)) (Z1 (Zs 5)) Z0 ?_;repeat' (first|apply Zb|apply Zn|(apply Zk;intro K hK))
  refine AWP.mid ⟨55,[(1,.v (.one (.sl 24 (a.map eStp)))),(2,.v (.one (.sl 24 (b.map eStp)))),(3,.v (.one (.ptr 3 0))),(7,.v (.one (.ptr 7 0))),(8,.v (oI (rE R)))],[(3,eSch s),(7,eSch (sOut R))],[]⟩ ?_ ?_
  ·refine dY tyOk mixed [(0,3)] (.cons 3 [] [(0,1)] (.cons 4 [] [(0,1)] (.cons 5 [(6,3)] [] (.cons 9 [] [(6,3)] (.cons 10 [(11,1)] [(8,1)] .leaf .none) .none) (.cons 9 [] [(0,1)] (.cons 5 [(6,3)] [] (.cons 10 [(11,1)] [(8,1)] .leaf .none) .none) .none)) (.cons 9 [] [(0,1)] (.cons 4 [] [(0,1)] (.cons 5 [(6,3)] [] (.cons 10 [(11,1)] [(8,1)] .leaf .none) .none) .none) .none)) (.cons 9 [] [(0,3)] (.cons 3 [] [(0,1)] (.cons 4 [] [(0,1)] (.cons 5 [(6,3)] [] (.cons 10 [(11,1)] [(8,1)] .leaf .none) .none) .none) .none) .none)) [3,4,5,9,10] 8 fun K hK=>?_
   simp only [segt_leaf,segt_none,segt_cons,segs,List.drop_succ_cons,List.drop_zero,List.take_succ_cons,List.take_zero,List.getElem?_cons_zero,List.getElem?_cons_succ,List.cons_append,List.nil_append,List.append_nil] at hK ⊢
   refine ZU Z0 ?_
   repeat' (first|((first|((fail_if_success (refine AWP.isRegion 6 ?_));(with_reducible refine qV tyOk fun K hK=>?_))|refine Q2 ?_|((with_reducible first|refine qS ?_ ?_|refine qT ?_ ?_|refine qU ?_ ?_)<;>(intro h;try simp only [NM] at h))|((with_reducible refine CallJ.is ?_);(first|refine CallJ.pure (cc) ?_|refine CallJ.pure (s1) ?_|((apply CallJ.frozI [3,7] []);(focus (simp -dsimp (disch:=first|exact D|fail) only [go_sem,↓reduceIte,seval,eSch,Option.getD_none,RT,St.rest,St.freeze];rfl));(focus (first|exact (cc)|exact (s1))))))|(with_reducible first|refine VCt.some fun K hK=>?_|refine VCt.step fun K hK=>?_))<;>simp -dsimp (disch:=first|exact D|fail) only [go_sem,↓reduceIte,seval,eSch,Option.getD_none,RT,St.rest,St.freeze])|((with_reducible refine hK _ ?_);clear hK K)|(with_reducible refine VCt.intro fun K0 hK0=>?_)|((with_reducible refine VCt.fin ?_);(refine hK0 _ ?_);clear hK0 K0)|(with_reducible first|refine VCy.quiet ?_|refine VCt.none ?_)|((with_reducible refine VCy.keep ?_ ?_);focus ((simp -dsimp (disch:=first|exact D|fail) only [go_sem,↓reduceIte,seval,Stable_cons,Stable_nil,sameA_some,sameA_none,eSch,Option.getD_none,RT,St.rest,St.freeze]);first|done|exact E|fail))|((with_reducible refine VCt.fork (fun K hK=>?_) ?_);(focus (simp -dsimp (disch:=first|exact D|fail) only [go_sem,↓reduceIte,seval,eSch,Option.getD_none,RT,St.rest,St.freeze])))|refine Q1 ?_|((with_reducible refine qW (T:=TT) (b:=?_) ?_ ?_);rotate_left;exact rfl)|((with_reducible refine yS ?_ ?_)<;>(intro h;try simp only [NM] at h)))
   all_goals refine Gq.done ⟨rfl,?_⟩
   all_goals refine St.le_mk ?_ ?_ ?_<;>simp only [LE,EN,Nat.reduceEqDiff,reduceIte,Nat.reduceSub,eSch]
  refine ZWp Z0 (Z3 (s2) (s3) (s4)) ?_;repeat' (first|apply Zb|apply Zn|(apply Zm;intro h)|(apply Zk;intro K hK))
  exact ZQ (Z1 Tryz.results11)
section
variable {w:World}
theorem cells_Step:Tryz.prog.cellsOf 38=24:=by kernel_rfl
theorem bytes_Step:Tryz.prog.bytesOf 38=352:=by kernel_rfl
theorem rd_scr:Rd Tryz.prog w 82 (fun l=>[eScr l]) fun l=>l.length * 352≤reachBytes∧∀c∈l,Stp.Ok c :=
 rd_slice Tryz.underlying82 cells_Step bytes_Step (fun _=>rfl) rd_stp
end
end Go.Bw
