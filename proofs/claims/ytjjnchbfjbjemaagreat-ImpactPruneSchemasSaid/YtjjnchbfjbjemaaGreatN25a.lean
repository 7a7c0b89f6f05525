/-
  WHAT IS PROVED HERE, of this translation: CallMoves.froz, CallJ.froz, CallJ.frozI, VOpsX_sound, AWP.regionX, int_eval, moves_make, semMake, LeB.refl, getD_set_b, LeB.set, le_set, .., mul_sat, repeat_sat, goG_prune, prune_facts, prune_ne, prune_fits, prune_again, impactPruneSchemas_sat, bytes_bool, rd_bools, fit_bools.
  A theorem that ends in sat says what the function it names returns, whatever the state it is called in; the bounds on its arguments stand ahead of it.
-/
import Derived.Lib.Overlaps
import Derived.Laws.Externs
import Derived.Lib.AppendZerosOnto
import Derived.Laws.MakeOwn
import Derived.Laws.Bits64b
import Derived.Test.YtjjnchbfjbjemaaGreatWzb
set_option linter.unusedSimpArgs false
set_option linter.unusedVariables false
namespace Go.Bw
theorem CallMoves.froz {P:Program} {f:FuncId} {xs ys:List V} {r:A} {s:St} {d:Option Tmp} (kb kr:List Nat) (hd:s.okD d) (hS:Sat P f ys r) (hy:(xs.map fun x=>x.map (topL kb kr (s.rest kb kr)))=ys):CallMoves P f xs s d ((s.freeze kb kr).putO d (r.map L.clos)):=by
 intro w0 m0 F0 a w m ω h vs hA
 obtain ⟨m',h',hle,hg⟩:=h.freeze kb kr
 have hA':ArgsRep m' ω vs ys:=by
  subst hy
  refine ⟨by simpa using hA.1,fun i x hi=>?_⟩
  rw [List.getElem?_map,Option.map_eq_some_iff] at hi
  obtain ⟨x0,hi,rfl⟩:=hi
  obtain ⟨v,h1,h2⟩:=hA.2 i x0 hi
  exact ⟨v,h1,h2.map hg⟩
 have hd':(s.freeze kb kr).okD d:=by
  cases d with
  | none=>trivial
  | some d=>exact hd
 exact CallMoves.pure hd' hS w0 m0 F0 a w m' ω h' vs hA'
theorem CallJ.froz {P:Program} {T:TypeId→Option TI} {ops:Array Oper} {d:Option Tmp} {l:List Oper} {s:St} {K:St→Prop} {f:FuncId} {xs ys:List V} {r:A} (kb kr:List Nat) (h:Sat P f ys r) (hy:(xs.map fun x=>x.map (topL kb kr (s.rest kb kr)))=ys)
  (hk:s.okD d∧VOps P T ops l ((s.freeze kb kr).putO d (r.map L.clos)) K):CallJ P T ops d l s K (f,xs):=⟨_,.froz kb kr hk.1 h hy,hk.2⟩
theorem CallJ.frozI {P:Program} {T:TypeId→Option TI} {ops:Array Oper} {d:Option Tmp} {l:List Oper} {s:St} {K:St→Prop} {f:FuncId} {xs ys:List V} {r:A} (kb kr:List Nat) (hy:(xs.map fun x=>x.map (topL kb kr (s.rest kb kr)))=ys) (h:Sat P f ys r)
  (hk:s.okD d∧VOps P T ops l ((s.freeze kb kr).putO d (r.map L.clos)) K):CallJ P T ops d l s K (f,xs):=.froz kb kr h hy hk
end Go.Bw
namespace Go.Bw
open Go.RowKit
section
variable {P:Program} {T:TypeId→Option TI} {w0:World} {m0:Mem} {F0:Home} {s s':St} {a:Act} {w:World} {m:Mem} {ω:Wh}
theorem VOpsX_sound (hT:TabOk P T) {ops:Array Oper} {K:St→Prop} {Q:Exit→Act→World→Prop} (hQ:∀s a w,K s→Conc P w0 m0 F0 s a w→Q .normal a w) :
  ∀(l:List Oper) (k:Nat) (s:St) (a:Act) (w:World),ops.toList.drop k=l→VOpsX P T ops l s K→Conc P w0 m0 F0 s a w→wpOps P ops Q (List.range' k l.length) a w
 | [],k,s,a,w,_,hV,hC=>hQ s a w hV hC
 | o::l,k,s,a,w,hl,hV,hC=>by
  have hk:ops[k]?=some o:=by
   have:(ops.toList.drop k)[0]?=some o:=by rw [hl];rfl
   simpa [List.getElem?_drop] using this
  have hl':ops.toList.drop (k+1)=l:=by
   have:(ops.toList.drop k).drop 1=l:=by rw [hl];rfl
   simpa [List.drop_drop] using this
  obtain ⟨m,ω,h⟩:=hC
  simp only [List.length_cons,List.range'_succ,wpOps,hk]
  rcases hV with ⟨hg,hV⟩|hV
  ·have hw:Region.wanted o (yielded ops a.tmps)=true:=by simp [Region.wanted,hg]
   rw [if_pos hw]
   exact .inl (hV _ _ _ a w m ω h _ _ fun s' a' w' hK hc=>VOpsX_sound hT hQ l (k+1) s' a' w' hl' hK hc)
  ·simp only [VOps] at hV
   split at hV
   ·rename_i hg
    rw [if_pos (guardOf_sound h hg)]
    exact .inl (VOp_sound hT hV h _ _ fun s' a' w' hK hc=>VOpsX_sound hT hQ l (k+1) s' a' w' hl' hK hc)
   ·rename_i hg
    rw [if_neg (by rw [guardOf_sound h hg];simp)]
    obtain ⟨h1,h2⟩:=pk_elim hV
    exact VOpsX_sound hT hQ l (k+1) _ _ w hl' h2 ⟨m,ω,h.putO h1 arep_undef⟩
   ·cases hV
theorem AWP.regionX (hT:TabOk P T) {id:Nat} {Q:Exit→St→Prop} {l:List Oper} (h:∀K:St→Prop,(∀s',Q .normal s'→K s')→VOpsX P T l.toArray l s K):AWP P w0 m0 F0 (.region id l.toArray false) Q s:=by
 intro a w hc
 refine wp_region ?_
 have:=VOpsX_sound hT (ops:=l.toArray) (K:=Q .normal) (Q:=PostQ P w0 m0 F0 Q) (fun s a w h1 h2=>⟨s,h1,h2⟩) l 0 s a w (by simp) (h _ fun _ h=>h) hc
 have hlen:l.length=l.toArray.size:=by simp
 rwa [←List.range_eq_range',hlen] at this
end
end Go.Bw
namespace Go.Bw
open Go.RowKit
section
variable {P:Program} {T:TypeId→Option TI} {w0:World} {m0:Mem} {F0:Home} {s s':St} {a:Act} {w:World} {m:Mem} {ω:Wh}
theorem int_eval {x:Operand} {ty:TypeId} {k:IntKind} {n:Int} (h:CI P w0 m0 F0 s a w m ω) (hx:evalO T s ty x=some (.v (.one (.int k n)))):a.eval x=.int k n:=by
 have hv:Rep m (a.eval x) (.int k n):=evalO_sound h hx
 generalize a.eval x=u at hv ⊢
 cases hv
 rfl
theorem moves_make {t e:TypeId} {i j:TI} {x y:Operand} {ty tx:TypeId} {pos:String} {af:Array Edge} {d n:Nat} {k1 k2:IntKind} {z:List L}
  (hn:d<s.n) (hT:tiOk P t i=true) (he:i.elem=some e) (hE:tiOk P e j=true) (hz:j.zero=some z) (hzl:z.length=j.size) (h:CI P w0 m0 F0 s a w m ω)
  (hx:evalO T s tx x=some (.v (.one (.int k1 (n:Int))))) (hy:evalO T s tx y=some (.v (.one (.int k2 (n:Int))))) (hbs:j.bytes * n≤281474976710656) (hm:n≤9223372036854775807) :
  Moves P w0 m0 F0 ⟨some d,.makeSlice t x y,ty,pos,af,Option.none⟩ a w (s.appended Option.none d j.size (List.replicate n (z.map L.clos)) []):=by
 have hu:=(tiFacts hT).elem e he
 obtain ⟨inf,zv,g1,g2,g3,_⟩:=(tiFacts hE).zero z hz
 obtain ⟨inf',g4,g5,g6⟩:=(tiFacts hE).info
 rw [g1] at g4
 injection g4 with g4
 subst g4
 have hzs:zv.cells.size=j.size:=by
  have:=(matchAll_rep (m:=m) zv.cells.toList z g3).1
  simpa [hzl] using this
 have hb':(inf.bytes:Int) * (n:Int)≤281474976710656:=by
  rw [g6]
  have:((j.bytes * n:Nat):Int)≤281474976710656:=by omega
  rwa [Int.natCast_mul] at this
 have hr:=run_make (P:=P) w t e inf zv hu g1 g2 k1 k2 n n (by omega) (Int.le_refl _) hb' (by omega)
 simp only [Int.toNat_natCast] at hr
 have hmc:madeCells zv.cells (n * inf.size)=Builtin.zeroCells zv.cells n:=by
  unfold madeCells Builtin.zeroCells
  rw [g5,hzs]
 rw [hmc] at hr
 obtain ⟨z1,z2,z3⟩:=zeroRd (m:=m) g3 n
 rw [hzl] at z1 z3
 have hbl:Below w.heap.size w (w.alloc (.cells (Builtin.zeroCells zv.cells n) e)):=(Below.refl _ w).alloc (Nat.le_refl _) _
 have hh:(w.alloc (.cells (Builtin.zeroCells zv.cells n) e)).heap[w.heap.size]?=_:=heap_alloc_new w _
 have hsize:=(Array.getElem?_eq_some_iff.1 hh).1
 have hzsz:(Builtin.zeroCells zv.cells n).size=n * j.size:=by rw [←Array.length_toList];exact z1
 obtain ⟨ω',hC,hri,_⟩:=h.rowNew (r:=⟨j.size,List.replicate n (z.map L.clos),[]⟩) Option.none d hn ⟨some w.heap.size,n,j.size⟩ (fun q=>q=w.heap.size) (.inl hbl) (fun q hq=>.inr ⟨by omega,by rw [hq];exact hsize⟩) (by
  refine ⟨rfl,fun x hx=>?_,?_⟩
  ·rw [List.eq_of_mem_replicate hx];simpa using hzl
  ·refine ⟨_,e,hh,hzsz,by simp,⟨by show n≤maxLen;exact hm,fun l hl=>(by cases hl),fun q v hq=>z2 v (by simpa using Array.mem_of_getElem? hq)⟩,rfl,fun _ _ _=>False,(fun i j k hk=>hk.elim),(fun i j i' j' k hk hk'=>hk.elim),fun i' j' u hu=>?_⟩
   show ∃v,_∧CRep m _ _ v u
   obtain ⟨v,h1,h2⟩:=z3 _ j' u hu
   exact ⟨v,by rw [←h1,Array.getElem?_toList],.fr h2⟩)
 have hrun:(execOp a.eval ⟨some d,.makeSlice t x y,ty,pos,af,Option.none⟩).run P w=((Instr.makeSlice t (.int k1 n) (.int k2 n)).run P w).andThen fun v w'=>.ok (.value v) w':=by
  rw [←int_eval h hx,←int_eval h hy]
  unfold execOp
  simp only [Sem.run_bind]
  rfl
 refine gives_of_run (w':=_) (by rw [hrun,hr];rfl) ?_
 refine ⟨m,ω',hC.put (by rw [newRow0_n];exact hn) ?_⟩
 show RefAt (ω'.row d) 0 _ _
 rw [hri,List.length_replicate]
 exact .inr ⟨w.heap.size,⟨w.heap.size,0,none⟩,rfl,by simp,by simp,fun _=>by simp⟩
theorem semMake (hT:TabOk P T) {t ty:TypeId} {x y:Operand} {d n:Nat} {pos:String} {af:Array Edge} {K:St→Prop} {j:TI} {z:List L} {k1 k2:IntKind} (hj:elemTI T t=some j) (hz:j.zero=some z) (hzl:z.length=j.size)
  (hx:evalO T s 3 x=some (.v (.one (.int k1 (n:Int))))) (hy:evalO T s 3 y=some (.v (.one (.int k2 (n:Int))))) (hbs:j.bytes * n≤281474976710656) (hm:n≤9223372036854775807) (hd:d<s.n) (hK:K (s.appended Option.none d j.size (List.replicate n (z.map L.clos)) [])) :
  SemOp P ⟨some d,.makeSlice t x y,ty,pos,af,Option.none⟩ s K:=by
 intro w0 m0 F0 a w m ω hC
 obtain ⟨i,e,hi,he,hje,hio,hjo⟩:=elemTI_some hT hj
 exact (moves_make hd hio he hjo hz hzl hC hx hy hbs hm).follows hK
end
end Go.Bw
namespace Go.Bw
def reqStep (P:Nat→Nat) (used:List Bool) (out:List Bool) (v:Nat):List Bool :=
 if used.getD v false||out.getD v false then (if 0<v then (out.set v true).set (P v) true else out.set v true) else out
def reqGo (P:Nat→Nat) (used:List Bool):Nat→List Bool→List Bool
 | 0,out=>out
 | v+1,out=>reqGo P used v (reqStep P used out v)
def reqL (P:Nat→Nat) (used:List Bool) (n:Nat):List Bool:=(reqGo P used n (List.replicate n false)).set 0 true
def LeB (a b:List Bool):Prop:=a.length=b.length∧∀i,a.getD i false=true→b.getD i false=true
theorem LeB.refl (a:List Bool):LeB a a:=⟨rfl,fun _ h=>h⟩
theorem getD_set_b (l:List Bool) (i j:Nat) (x:Bool):(l.set i x).getD j false=if i=j∧i<l.length then x else l.getD j false:=by
 rw [List.getD_eq_getElem?_getD,List.getD_eq_getElem?_getD,List.getElem?_set]
 by_cases h:i=j
 ·subst h
  by_cases hi:i<l.length
  ·simp [hi]
  ·simp [hi]
 ·simp [h]
theorem LeB.set {a b:List Bool} (h:LeB a b) (i:Nat):LeB (a.set i true) (b.set i true):=by
 refine ⟨by simp [h.1],fun j hj=>?_⟩
 rw [getD_set_b] at hj ⊢
 rw [←h.1]
 split at hj
 ·rename_i q;rw [if_pos q]
 ·rename_i q;rw [if_neg q];exact h.2 j hj
theorem le_set (a:List Bool) (i:Nat):LeB a (a.set i true):=by
 refine ⟨by simp,fun j hj=>?_⟩
 rw [getD_set_b]
 split
 ·rfl
 ·exact hj
theorem LeB.trans {a b c:List Bool} (h:LeB a b) (k:LeB b c):LeB a c:=⟨h.1.trans k.1,fun i hi=>k.2 i (h.2 i hi)⟩
theorem le_step (P:Nat→Nat) (used out:List Bool) (v:Nat):LeB out (reqStep P used out v):=by
 unfold reqStep
 split
 ·split
  ·exact (le_set _ _).trans (le_set _ _)
  ·exact le_set _ _
 ·exact LeB.refl _
theorem reqStep_len (P:Nat→Nat) (used out:List Bool) (v:Nat):(reqStep P used out v).length=out.length:=(le_step P used out v).1.symm
theorem reqGo_len (P:Nat→Nat) (used:List Bool):∀(n:Nat) (out:List Bool),(reqGo P used n out).length=out.length
 | 0,_=>rfl
 | v+1,out=>by rw [reqGo,reqGo_len P used v,reqStep_len]
theorem reqL_len (P:Nat→Nat) (used:List Bool) (n:Nat):(reqL P used n).length=n:=by unfold reqL;rw [List.length_set,reqGo_len,List.length_replicate]
end Go.Bw
namespace Go.Bw
open Go.Proofs
def eBool (b:Bool):List L:=[.bool b]
def eBools (l:List Bool):L:=.sl 1 (l.map eBool)
theorem frz_eBool (l:List Bool):(l.map eBool).map (fun x=>x.map (L.frzN 4))=l.map eBool:=frz_map (fun _=>rfl) l
abbrev ResB:=Except Int (List Bool)
def required (g:Gr) (used:List Bool):ResB:=match verSchemas g with
 | .error e=>.error e
 | .ok O=>if used.length≠O.length then .error 3 else .ok (reqL (parN g) used O.length)
def bOut:ResB→List Bool
 | .error _=>[]
 | .ok l=>l
theorem required_ne {g:Gr} {u:List Bool} {e:Int} (h:required g u=.error e):e≠0:=by
 unfold required at h
 split at h
 ·rename_i q;injection h with h;rw [←h];exact verSchemas_ne q
 ·split at h
  ·injection h with h;omega
  ·cases h
theorem getD_eBool (l:List Bool) (k:Nat) (h:k<l.length):(l.map eBool).getD k []=[.bool (l.getD k false)]:=by rw [getD_map_lt _ _ _ h,getD_lt _ h];rfl
set_option maxRecDepth 100000 in
set_option maxHeartbeats 32000000 in
theorem required_sat (g:Gr) (used:List Bool) (hg:g.Fits) (hu:used.length≤140737488355328):Sat Tryz.prog 20 [.agg (eGr g),.one (eBools used)] (.tup [.one (eBools (bOut (required g used))),oI (rE (required g used))]):=by
 have c1:=verSchemas_sat g hg
 unfold eSchs at c1
 unfold eBools
 cases hR:verSchemas g with
 | error e =>
  have spec:required g used=.error e:=by unfold required;rw [hR]
  have he:=verSchemas_ne hR
  rw [hR] at c1
  rw [spec]
  unfold lOut rE at c1
  unfold bOut rE
  simp only at c1 ⊢
  refine sS tyOk Tryz.func20 fun w0 m0 F0=>?_
  simp only [Tryz.ntmps20,envOf,Nat.reduceAdd]
  repeat' (first|((first|with_reducible refine qV tyOk fun K hK=>?_|((with_reducible refine CallJ.is ?_);(refine CallJ.pure (c1) ?_)))<;>simp -dsimp (disch:=first|exact D|fail) only [go_sem,↓reduceIte,seval,eGr,eEdgs,he])|((with_reducible refine hK _ ?_);clear hK K)|refine Q1 ?_|((with_reducible refine qW (T:=TT) (b:=?_) ?_ ?_);rotate_left;exact rfl)|fail)
  simp -dsimp (disch:=first|exact D|fail) only [retQ,Tryz.results20,resVals,cellRV,resOf,St.rest,St.freeze,RT,go_sem,↓reduceIte,seval]
 | ok O =>
  obtain ⟨l8,_,_,lO⟩:=verSchemas_ok hR
  have ok:=grOk_of hR
  rw [hR] at c1
  unfold lOut rE at c1
  simp only at c1
  by_cases hl:used.length=O.length
  case neg =>
   have spec:required g used=.error 3:=by unfold required;rw [hR];simp only;rw [if_pos hl]
   have hl':¬ (used.length:Int)=(O.length:Int):=by omega
   rw [spec]
   unfold bOut rE
   simp only
   refine sS tyOk Tryz.func20 fun w0 m0 F0=>?_
   simp only [Tryz.ntmps20,envOf,Nat.reduceAdd]
   repeat' (first|((first|with_reducible refine qV tyOk fun K hK=>?_|((with_reducible refine CallJ.is ?_);(refine CallJ.pure (c1) ?_)))<;>simp -dsimp (disch:=first|exact D|fail) only [go_sem,↓reduceIte,seval,eGr,eEdgs,hl'])|((with_reducible refine hK _ ?_);clear hK K)|refine Q1 ?_|((with_reducible refine qW (T:=TT) (b:=?_) ?_ ?_);rotate_left;exact rfl)|fail)
   simp -dsimp (disch:=first|exact D|fail) only [retQ,Tryz.results20,resVals,cellRV,resOf,St.rest,St.freeze,RT,go_sem,↓reduceIte,seval]
  have spec:required g used=.ok (reqL (parN g) used O.length):=by unfold required;rw [hR];simp only;rw [if_neg (by rw [hl];simp)]
  rw [spec]
  unfold bOut rE
  simp only
  obtain ⟨n,hn⟩:∃n,O.length=n:=⟨_,rfl⟩
  rw [hn] at hl lO ⊢
  have lm:(O.map eSch).length=n:=by rw [List.length_map,hn]
  have e0:(List.replicate n ([.bool false]:List L))=(List.replicate n false).map eBool:=by rw [List.map_replicate];rfl
  refine sS tyOk Tryz.func20 fun w0 m0 F0=>?_
  simp only [Tryz.ntmps20,envOf,Nat.reduceAdd]
  repeat' (first|((first|((fail_if_success (refine AWP.isRegion 6 ?_));(with_reducible refine qV tyOk fun K hK=>?_))|((with_reducible refine CallJ.is ?_);(refine CallJ.pure (c1) ?_)))<;>simp -dsimp (disch:=first|exact D|fail) only [go_sem,↓reduceIte,seval,eGr,eEdgs,hl,hn])|((with_reducible refine hK _ ?_);clear hK K)|refine Q1 ?_|((with_reducible refine qW (T:=TT) (b:=?_) ?_ ?_);rotate_left;exact rfl)|fail)
  refine AWP.regionX tyOk fun K hK=>?_
  refine VOpsX.step fun K2 h9=>?_
  simp -dsimp (disch:=first|exact D|fail) only [go_sem,↓reduceIte,seval,hn]
  refine h9 _ ?_
  refine VOpsX.step fun K4 h7=>?_
  simp -dsimp (disch:=first|exact D|fail) only [go_sem,↓reduceIte,seval,hn]
  refine h7 _ ?_
  refine VOpsX.sem (semMake tyOk (n:=n) (k1:=.i64) (k2:=.i64) rfl rfl rfl rfl rfl (by show 1 * n≤_;omega) (by omega) (Nat.le_of_ble_eq_true rfl) ?_)
  refine VOpsX.step fun K3 h8=>?_
  simp -dsimp (disch:=first|exact D|fail) only [go_sem,↓reduceIte,seval]
  refine h8 _ ?_
  refine VOpsX.fin (hK _ ?_)
  clear h8 h7 h9 hK K4 K3 K2 K
  rw [e0]
  obtain ⟨F,hF⟩:∃F,reqGo (parN g) used n (List.replicate n false)=F:=⟨_,rfl⟩
  have e9:reqL (parN g) used n=F.set 0 true:=by unfold reqL;rw [hF]
  rw [e9]
  have n0:0<n:=by omega
  have z1:(0:Int) - 1=-1:=by decide
  repeat' (first|((with_reducible refine qV tyOk fun K hK=>?_)<;>simp -dsimp (disch:=first|exact D|fail) only [go_sem,↓reduceIte,seval,hn])|((with_reducible refine hK _ ?_);clear hK K)|refine Q1 ?_|fail)
  refine AWP.midB ⟨62,[(5,.v (oI 0)),(8,.v (.one (.ref 8 0 n)))],[],[(8,⟨1,F.map eBool,[]⟩)]⟩ ?_ ?_
  ·refine AWP.loop (ι:={p:Nat×List Bool // p.1≤n∧p.2.length=n∧reqGo (parN g) used p.1 p.2=F}) (fun p=>⟨62,[(1,.v (.one (.sl 1 (used.map eBool)))),(2,.v (.one (.ptr 2 0))),(5,.v (oI 0)),(8,.v (.one (.ref 8 0 n))),(9,.v (oI ((p.1.1:Int) - 1)))],[(2,eGr g)],[(8,⟨1,p.1.2.map eBool,[]⟩)]⟩) (fun p=>p.1.1) ⟨(n,List.replicate n false),Nat.le_refl _,by simp,hF⟩ ?_ fun ⟨⟨c,out⟩,hc,ho,hgo⟩=>?_
   ·refine St.le_mk ?_ ?_ ?_<;>simp only [LE,EN,Nat.reduceEqDiff,reduceIte,Nat.reduceSub,eGr,eEdgs,List.length_replicate]
   simp only at hc ho hgo ⊢
   rcases Nat.eq_zero_or_pos c with c0|c0
   ·subst c0
    rw [reqGo] at hgo
    subst hgo
    repeat' (first|((with_reducible refine qV tyOk fun K hK=>?_)<;>simp -dsimp (disch:=first|exact D|fail) only [go_sem,↓reduceIte,seval,Int.natCast_zero])|((with_reducible refine hK _ ?_);clear hK K)|refine Q1 ?_|((with_reducible refine qW (T:=TT) (b:=?_) ?_ ?_);rotate_left;exact rfl)|fail)
    refine Gq.done ⟨rfl,?_⟩
    refine St.le_mk ?_ ?_ ?_<;>simp only [LE,EN,Nat.reduceEqDiff,reduceIte,Nat.reduceSub,eGr,eEdgs]
   ·obtain ⟨v,rfl⟩:∃v,c=v+1:=⟨c - 1,by omega⟩
    rw [reqGo] at hgo
    have w0:((v+1:Nat):Int) - 1=(v:Int):=by omega
    rw [w0]
    have gu:=getD_eBool used v (by omega)
    have go:=getD_eBool out v (by omega)
    have lo:(out.map eBool).length=n:=by rw [List.length_map,ho]
    have s1:(out.map eBool).set v [.bool true]=(out.set v true).map eBool:=by rw [List.map_set];rfl
    cases hu:used.getD v false<;>cases hv:out.getD v false
    ·have sx:reqStep (parN g) used out v=out:=by unfold reqStep;rw [hu,hv];rfl
     rw [sx] at hgo
     rw [hu] at gu
     rw [hv] at go
     repeat' (first|((with_reducible refine qV tyOk fun K hK=>?_)<;>simp -dsimp (disch:=first|exact D|fail) only [go_sem,↓reduceIte,seval,gu,go,lo,Option.getD_none])|((with_reducible refine hK _ ?_);clear hK K)|refine Q1 ?_|((with_reducible refine qW (T:=TT) (b:=?_) ?_ ?_);rotate_left;exact rfl)|fail)
     refine ⟨⟨(v,out),by simp only;omega,ho,hgo⟩,by simp only;omega,?_⟩
     refine St.le_mk ?_ ?_ ?_<;>simp only [LE,EN,Nat.reduceEqDiff,reduceIte,Nat.reduceSub,eGr,eEdgs]
    all_goals
     rw [hu] at gu
     rw [hv] at go
     have sx:reqStep (parN g) used out v=if 0<v then (out.set v true).set (parN g v) true else out.set v true:=by unfold reqStep;rw [hu,hv];rfl
     rcases Nat.eq_zero_or_pos v with v0|v0
     ·subst v0
      rw [if_neg (by omega)] at sx
      rw [sx] at hgo
      repeat' (first|((with_reducible refine qV tyOk fun K hK=>?_)<;>simp -dsimp (disch:=first|exact D|fail) only [go_sem,↓reduceIte,seval,gu,go,lo,Option.getD_none,Int.natCast_zero])|((with_reducible refine hK _ ?_);clear hK K)|refine Q1 ?_|((with_reducible refine qW (T:=TT) (b:=?_) ?_ ?_);rotate_left;exact rfl)|fail)
      refine ⟨⟨(0,out.set 0 true),by simp only;omega,by simpa using ho,hgo⟩,by simp only;omega,?_⟩
      refine St.le_mk ?_ ?_ ?_<;>simp only [LE,EN,Nat.reduceEqDiff,reduceIte,Nat.reduceSub,eGr,eEdgs,s1,Int.natCast_zero,z1]
     ·rw [if_pos v0] at sx
      rw [sx] at hgo
      have pb:=ok.par v v0 (by omega)
      have ge:=getD_edge ok v0 (by omega)
      have w1:((v:Int) - 1).toNat=v - 1:=by omega
      have s2:((out.set v true).map eBool).set (parN g v) [.bool true]=((out.set v true).set (parN g v) true).map eBool:=by rw [List.map_set (f:=eBool) (l:=out.set v true)];rfl
      have g2:=getD_eBool (out.set v true) (parN g v) (by rw [List.length_set];omega)
      have l2:((out.set v true).map eBool).length=n:=by rw [List.length_map,List.length_set,ho]
      repeat' (first|((with_reducible refine qV tyOk fun K hK=>?_)<;>simp -dsimp (disch:=first|exact D|fail) only [go_sem,↓reduceIte,seval,gu,go,lo,ge,w1,s1,g2,l2,eGr,eEdgs,Option.getD_none])|((with_reducible refine hK _ ?_);clear hK K)|refine Q1 ?_|((with_reducible refine qW (T:=TT) (b:=?_) ?_ ?_);rotate_left;exact rfl)|fail)
      refine ⟨⟨(v,(out.set v true).set (parN g v) true),by simp only;omega,by simpa using ho,hgo⟩,by simp only;omega,?_⟩
      refine St.le_mk ?_ ?_ ?_<;>simp only [LE,EN,Nat.reduceEqDiff,reduceIte,Nat.reduceSub,eGr,eEdgs,s2]
  have lF:F.length=n:=by rw [←hF,reqGo_len,List.length_replicate]
  have lF2:(F.map eBool).length=n:=by rw [List.length_map,lF]
  have s3:(F.map eBool).set 0 [.bool true]=(F.set 0 true).map eBool:=by rw [List.map_set];rfl
  repeat' (first|((with_reducible refine qV tyOk fun K hK=>?_)<;>simp -dsimp (disch:=first|exact D|fail) only [go_sem,↓reduceIte,seval,lF2,s3,Option.getD_none])|((with_reducible refine hK _ ?_);clear hK K)|refine Q1 ?_|fail)
  simp -dsimp (disch:=first|exact D|fail) only [retQ,Tryz.results20,resVals,cellRV,resOf,St.rest,St.freeze,RT,go_sem,↓reduceIte,seval]
  have sF:(F.map eBool).set 0 (setL 0 [.bool true] (eBool (F[0]'(by omega))))=(F.set 0 true).map eBool:=s3
  rw [sF,if_pos (by simp [lF]),frz_eBool]
structure PrS where
 edges:List (Nat×Nat)
 num:List Nat
 rem:List Nat
def prStep (P:Nat→Nat) (R:List Bool) (s:PrS) (i:Nat):PrS :=
 if R.getD (i+1) false then ⟨s.edges++[(s.num.getD (P (i+1)) 0,i)],s.num.set (i+1) s.rem.length,s.rem++[i+1]⟩ else s
def prK (P:Nat→Nat) (R:List Bool) (n:Nat):Nat→PrS
 | 0=>⟨[],List.replicate n 0,[0]⟩
 | i+1=>prStep P R (prK P R n i) i
structure PrInv (P:Nat→Nat) (R:List Bool) (n i:Nat) (s:PrS):Prop where
 lnum:s.num.length=n
 lrem:s.rem.length=s.edges.length+1
 lt:s.rem.Pairwise (·<·)
 le:∀v∈s.rem,v≤i
 first:s.rem[0]?=some 0
 num:∀v,v≤i→v=0∨R.getD v false=true→s.rem[s.num.getD v 0]?=some v
 req:∀v∈s.rem,v=0∨R.getD v false=true
def ClosedR (P:Nat→Nat) (R:List Bool) (n:Nat):Prop:=∀v,0<v→v<n→R.getD v false=true→P v=0∨R.getD (P v) false=true
theorem prInv {P:Nat→Nat} {R:List Bool} {n:Nat} (n0:0<n):∀i,i<n→PrInv P R n i (prK P R n i)
 | 0,_=>⟨by simp [prK],by simp [prK],by simp [prK],fun v hv=>by simp [prK] at hv;omega,rfl,fun v hv _=>by
   have:v=0:=by omega
   subst this
   rw [prK]
   simp only
   rw [List.getD_eq_getElem?_getD,List.getElem?_replicate,if_pos n0]
   rfl,fun v hv=>by simp [prK] at hv;exact .inl hv⟩
 | i+1,h=>by
  have I:=prInv (P:=P) (R:=R) n0 i (by omega)
  rw [prK]
  generalize prK P R n i=s at I
  unfold prStep
  by_cases hc:R.getD (i+1) false=true
  ·rw [if_pos hc]
   refine ⟨by simp [I.lnum],by simp [I.lrem],?_,?_,?_,?_,?_⟩
   ·refine List.pairwise_append.2 ⟨I.lt,by simp,fun a ha b hb=>?_⟩
    rw [List.mem_singleton.1 hb]
    have:=I.le a ha
    omega
   ·intro v hv
    rcases List.mem_append.1 hv with hv|hv
    ·have:=I.le v hv;omega
    ·rw [List.mem_singleton.1 hv];omega
   ·simp only
    rw [List.getElem?_append_left (by have:=I.lrem;omega)]
    exact I.first
   ·intro v hv hr
    simp only
    rw [List.getD_eq_getElem?_getD,List.getElem?_set]
    by_cases he:i+1=v
    ·subst he
     rw [if_pos rfl,if_pos (by rw [I.lnum];exact h)]
     simp
    ·rw [if_neg he,←List.getD_eq_getElem?_getD]
     have hx:=I.num v (by omega) hr
     rw [List.getElem?_append_left (List.getElem?_eq_some_iff.1 hx).1]
     exact hx
   ·intro v hv
    rcases List.mem_append.1 hv with hv|hv
    ·exact I.req v hv
    ·rw [List.mem_singleton.1 hv];exact .inr hc
  ·rw [if_neg hc]
   refine ⟨I.lnum,I.lrem,I.lt,fun v hv=>by have:=I.le v hv;omega,I.first,fun v hv hr=>?_,I.req⟩
   rcases Nat.lt_or_ge v (i+1) with hl|hl
   ·exact I.num v (by omega) hr
   ·have:v=i+1:=by omega
    subst this
    rcases hr with hr|hr
    ·omega
    ·exact absurd hr hc
theorem prK_len {P:Nat→Nat} {R:List Bool} {n:Nat} (n0:0<n) {i:Nat} (h:i<n):(prK P R n i).rem.length≤i+1:=by
 induction i with
 | zero=>simp [prK]
 | succ i ih =>
  have:=ih (by omega)
  rw [prK,prStep]
  split
  ·simp only [List.length_append,List.length_singleton];omega
  ·omega
theorem prK_num {P:Nat→Nat} {R:List Bool} {n:Nat} (n0:0<n) {i:Nat} (h:i<n):∀x∈(prK P R n i).num,x≤i:=by
 induction i with
 | zero=>intro x hx;simp [prK] at hx;omega
 | succ i ih =>
  intro x hx
  have h1:=ih (by omega)
  have h2:=prK_len (P:=P) (R:=R) n0 (i:=i) (by omega)
  rw [prK,prStep] at hx
  split at hx
  ·rcases List.mem_or_eq_of_mem_set hx with hx|hx
   ·have:=h1 x hx;omega
   ·omega
  ·have:=h1 x hx;omega
theorem prK_all {P:Nat→Nat} {n:Nat} (R:List Bool) (hR:∀v,v<n→R.getD v false=true):∀i,i<n→(prK P R n i).edges.length=i
 | 0,_=>rfl
 | i+1,h=>by
  rw [prK,prStep,if_pos (hR _ h)]
  simp [prK_all R hR i (by omega)]
theorem sorted_get {l:List Nat} (h:l.Pairwise (·<·)) {i:Nat} (h0:0<i) (hi:i<l.length):l[i - 1]'(by omega)<l[i] :=
 List.pairwise_iff_getElem.1 h (i - 1) i (by omega) hi (by omega)
theorem reqStep_ge {P:Nat→Nat} {used out:List Bool} {v j:Nat} (hP:0<v→P v<v) (hj:v<j):(reqStep P used out v).getD j false=out.getD j false:=by
 unfold reqStep
 split
 ·split
  ·have:=hP ‹_›
   rw [getD_set_b,if_neg (by omega),getD_set_b,if_neg (by omega)]
  ·rw [getD_set_b,if_neg (by omega)]
 ·rfl
structure ReqInv (P:Nat→Nat) (used:List Bool) (n k:Nat) (out:List Bool):Prop where
 len:out.length=n
 cl:∀v,k≤v→0<v→v<n→out.getD v false=true→out.getD (P v) false=true
 us:∀v,k≤v→v<n→used.getD v false=true→out.getD v false=true
theorem reqInv {P:Nat→Nat} {used:List Bool} {n:Nat} (hP:∀v,0<v→v<n→P v<v):∀k out,k≤n→ReqInv P used n k out→ReqInv P used n 0 (reqGo P used k out)
 | 0,_,_,I=>I
 | k+1,out,hk,I=>by
  rw [reqGo]
  refine reqInv hP k _ (by omega) ⟨by rw [reqStep_len];exact I.len,fun v hv v0 vn ho=>?_,fun v hv vn hu=>?_⟩
  ·have mono:=(le_step P used out k).2
   rcases Nat.lt_or_ge k v with hl|hl
   ·rw [reqStep_ge (fun h=>hP k h (by omega)) hl] at ho
    exact mono _ (I.cl v (by omega) v0 vn ho)
   ·have:v=k:=by omega
    subst this
    by_cases hc:(used.getD v false||out.getD v false)=true
    ·unfold reqStep
     rw [if_pos hc,if_pos v0,getD_set_b]
     have:=hP v v0 vn
     rw [if_pos ⟨rfl,by rw [List.length_set,I.len];omega⟩]
    ·unfold reqStep at ho
     rw [if_neg hc] at ho
     rw [ho,Bool.or_true] at hc
     exact absurd rfl hc
  ·have mono:=(le_step P used out k).2
   rcases Nat.lt_or_ge k v with hl|hl
   ·exact mono _ (I.us v (by omega) vn hu)
   ·have:v=k:=by omega
    subst this
    unfold reqStep
    rw [if_pos (by rw [hu];rfl)]
    have ls:v<out.length:=by rw [I.len];exact vn
    split
    ·exact (le_set (out.set v true) (P v)).2 _ (by rw [getD_set_b,if_pos ⟨rfl,ls⟩])
    ·rw [getD_set_b,if_pos ⟨rfl,ls⟩]
theorem reqL_inv {P:Nat→Nat} {used:List Bool} {n:Nat} (hP:∀v,0<v→v<n→P v<v):ReqInv P used n 0 (reqL P used n):=by
 have I:=reqInv (used:=used) hP n (List.replicate n false) (Nat.le_refl _) ⟨by simp,fun v hv _ vn=>by omega,fun v hv vn=>by omega⟩
 unfold reqL
 generalize reqGo P used n (List.replicate n false)=F at I
 refine ⟨by rw [List.length_set];exact I.len,fun v hv v0 vn ho=>?_,fun v hv vn hu=>(le_set F 0).2 _ (I.us v hv vn hu)⟩
 rw [getD_set_b,if_neg (by omega)] at ho
 exact (le_set F 0).2 _ (I.cl v hv v0 vn ho)
theorem reqL_closed {P:Nat→Nat} {used:List Bool} {n:Nat} (hP:∀v,0<v→v<n→P v<v):ClosedR P (reqL P used n) n :=
 fun v v0 vn h=>.inr ((reqL_inv hP).cl v (Nat.zero_le _) v0 vn h)
theorem reqL_used {P:Nat→Nat} {used:List Bool} {n:Nat} (hP:∀v,0<v→v<n→P v<v) {v:Nat} (vn:v<n) (h:used.getD v false=true):(reqL P used n).getD v false=true :=
 (reqL_inv hP).us v (Nat.zero_le _) vn h
theorem reqL_all {P:Nat→Nat} {n m:Nat} (hP:∀v,0<v→v<n→P v<v) (hm:n≤m) {v:Nat} (vn:v<n):(reqL P (List.replicate m true) n).getD v false=true :=
 reqL_used hP vn (by rw [List.getD_eq_getElem?_getD,List.getElem?_replicate,if_pos (by omega)];rfl)
theorem goG_facts:∀{l:List Edg} {acc O:List Sch},goG acc l=.ok O→(∃r,O=acc++r)∧∀k,∀h:k<l.length,scrApply (O.getD l[k].parent.toNat zSch) l[k].steps=.ok (O.getD (acc.length+k) zSch)
 | [],acc,O,h=>by injection h with h;subst h;exact ⟨⟨[],by simp⟩,fun k hk=>by simp at hk⟩
 | e::r,acc,O,h=>by
  rw [goG] at h
  split at h
  ·cases h
  rename_i q
  split at h
  ·cases h
  ·rename_i t ht
   obtain ⟨⟨x,hx⟩,h2⟩:=goG_facts h
   refine ⟨⟨t::x,by rw [hx];simp⟩,fun k hk=>?_⟩
   cases k with
   | zero =>
    have h3:e.parent.toNat<acc.length:=by omega
    have e1:O.getD e.parent.toNat zSch=acc.getD e.parent.toNat zSch:=by
     rw [hx,List.append_assoc,List.getD_eq_getElem?_getD,List.getElem?_append_left h3,←List.getD_eq_getElem?_getD]
    have e2:O.getD (acc.length+0) zSch=t:=by
     rw [hx,List.append_assoc,List.getD_eq_getElem?_getD,List.getElem?_append_right (by omega)]
     simp
    rw [e2]
    simp only [List.getElem_cons_zero]
    rw [e1]
    exact ht
   | succ k =>
    have:=h2 k (by simpa using hk)
    simp only [List.length_append,List.length_singleton] at this
    simp only [List.getElem_cons_succ]
    rw [this]
    congr 2
    omega
theorem verSchemas_facts {g:Gr} {O:List Sch} (h:verSchemas g=.ok O):O.getD 0 zSch=g.base∧∀k,∀hk:k<g.edges.length,scrApply (O.getD (parN g (k+1)) zSch) g.edges[k].steps=.ok (O.getD (k+1) zSch):=by
 have ok:=grOk_of h
 unfold verSchemas at h
 split at h
 ·cases h
 split at h
 ·cases h
 obtain ⟨⟨r,hr⟩,h2⟩:=goG_facts h
 refine ⟨by rw [hr];rfl,fun k hk=>?_⟩
 have:=h2 k hk
 rw [ok.int k hk,Int.toNat_natCast,List.length_singleton,Nat.add_comm 1 k] at this
 exact this
def mkE (g:Gr) (p:Nat×Nat):Edg:=⟨(p.1:Int),(g.edges.getD p.2 zEdg).steps⟩
def zGr:Gr:=⟨⟨[],[],[]⟩,[]⟩
def pruneG (g:Gr) (s:PrS):Gr:=⟨g.base,s.edges.map (mkE g)⟩
abbrev ResP:=Except Int (Gr×List Nat)
def prS (g:Gr) (R:List Bool):PrS:=prK (parN g) R R.length g.edges.length
def prune (g:Gr) (used:List Bool):ResP:=match required g used with
 | .error e=>.error e
 | .ok R=>.ok (pruneG g (prS g R),(prS g R).rem)
def gOut:ResP→Gr
 | .error _=>zGr
 | .ok p=>p.1
def nOut:ResP→List Nat
 | .error _=>[]
 | .ok p=>p.2
theorem required_okO {g:Gr} {u l:List Bool} (h:required g u=.ok l):∃O,verSchemas g=.ok O∧u.length=O.length∧l=reqL (parN g) u O.length:=by
 unfold required at h
 split at h
 ·cases h
 ·rename_i O q
  split at h
  ·cases h
  ·rename_i q2
   injection h with h
   exact ⟨O,q,Decidable.byContradiction q2,h.symm⟩
theorem scrApply_len {s u:Sch} {l:List Stp} (h:scrApply s l=.ok u):l.length≤6:=by
 unfold scrApply scrSchemas at h
 by_cases h6:6<l.length
 ·rw [if_pos h6] at h;cases h
 ·omega
theorem frz_eStp (l:List Stp):(l.map eStp).map (fun x=>x.map (L.frzN 4))=l.map eStp:=frz_map (fun _=>rfl) l
theorem frz_eEdg (l:List Edg):(l.map eEdg).map (fun x=>x.map (L.frzN 4))=l.map eEdg:=frz_map (fun _=>rfl) l
set_option maxHeartbeats 8000000 in
theorem scrClone_sat (s:List Stp) (h1:s.length≤1048576) (h2:∀st∈s,st.Fits):Sat Tryz.prog 40 [.one (eScr s)] (.v (.one (eScr s))):=by
 unfold eScr
 refine sS tyOk Tryz.func40 fun w0 m0 F0=>?_
 simp only [Tryz.ntmps40,envOf,Nat.reduceAdd]
 repeat' (first|((with_reducible refine qV tyOk fun K hK=>?_)<;>simp -dsimp (disch:=first|exact D|fail) only [go_sem,↓reduceIte,seval])|((with_reducible refine hK _ ?_);clear hK K)|refine Q1 ?_|fail)
 refine AWP.loop (ι:={k:Nat // k≤s.length}) (fun k=>⟨19,[(3,.v (.one (.ref 3 0 k.1))),(6,.v (.one (.sl 24 (s.map eStp)))),(7,.v (oI s.length)),(8,.v (oI k.1))],[],[(3,⟨24,(s.take k.1).map eStp,[]⟩)]⟩) (fun k=>s.length - k.1) ⟨0,Nat.zero_le _⟩ ?_ fun ⟨k,hkl⟩=>?_
 ·refine St.le_mk ?_ ?_ ?_<;>simp only [LE,EN,Nat.reduceEqDiff,reduceIte,Nat.reduceSub,List.map_nil]
 simp only at hkl ⊢
 have hlen:(s.take k).length=k:=by simp;omega
 rcases Nat.lt_or_ge k s.length with hc|hc
 ·have c:=stpClone_sat s[k] (h2 _ (List.getElem_mem hc))
  have gs:(s.map eStp).getD k []=eStp s[k]:=getD_map_lt _ _ _ hc
  repeat' (first|((first|with_reducible refine qV tyOk fun K hK=>?_|((with_reducible refine CallJ.is ?_);(refine CallJ.pure (c) ?_)))<;>simp -dsimp (disch:=first|exact D|fail) only [go_sem,↓reduceIte,seval,gs,hlen,eStp,eTbl,Option.getD_none])|((with_reducible refine hK _ ?_);clear hK K)|refine Q1 ?_|((with_reducible refine qW (T:=TT) (b:=?_) ?_ ?_);rotate_left;exact rfl)|fail)
  refine ⟨⟨k+1,by omega⟩,by simp only;omega,?_⟩
  have e:=take_snoc s k hc
  refine St.le_mk ?_ ?_ ?_<;>simp only [LE,EN,Nat.reduceEqDiff,reduceIte,Nat.reduceSub,e,eStp,eTbl,List.map_append,List.map_cons,List.map_nil]
 ·have hk:k=s.length:=by omega
  subst hk
  repeat' (first|((with_reducible refine qV tyOk fun K hK=>?_)<;>simp -dsimp (disch:=first|exact D|fail) only [go_sem,↓reduceIte,seval])|((with_reducible refine hK _ ?_);clear hK K)|refine Q1 ?_|((with_reducible refine qW (T:=TT) (b:=?_) ?_ ?_);rotate_left;exact rfl)|fail)
  simp -dsimp (disch:=first|exact D|fail) only [retQ,Tryz.results40,resVals,cellRV,resOf,St.rest,St.freeze,RT,go_sem,↓reduceIte,seval]
  rw [frz_eStp]
set_option maxRecDepth 100000 in
set_option maxHeartbeats 32000000 in
theorem prune_sat (g:Gr) (used:List Bool) (hg:g.Fits) (hu:used.length≤140737488355328):Sat Tryz.prog 22 [.agg (eGr g),.one (eBools used)] (.tup [.agg (eGr (gOut (prune g used))),.one (eInts (natI (nOut (prune g used)))),oI (rE (prune g used))]):=by
 have c1:=required_sat g used hg hu
 unfold eBools at c1 ⊢
 unfold eInts
 cases hR:required g used with
 | error e =>
  have spec:prune g used=.error e:=by unfold prune;rw [hR]
  have he:=required_ne hR
  rw [hR] at c1
  rw [spec]
  unfold bOut rE at c1
  unfold gOut nOut rE
  simp only at c1 ⊢
  refine sS tyOk Tryz.func22 fun w0 m0 F0=>?_
  simp only [Tryz.ntmps22,envOf,Nat.reduceAdd]
  repeat' (first|((first|with_reducible refine qV tyOk fun K hK=>?_|((with_reducible refine CallJ.is ?_);(refine CallJ.pure (c1) ?_)))<;>simp -dsimp (disch:=first|exact D|fail) only [go_sem,↓reduceIte,seval,eGr,eEdgs,he])|((with_reducible refine hK _ ?_);clear hK K)|refine Q1 ?_|((with_reducible refine qW (T:=TT) (b:=?_) ?_ ?_);rotate_left;exact rfl)|fail)
  simp -dsimp (disch:=first|exact D|fail) only [retQ,Tryz.results22,resVals,cellRV,resOf,St.rest,St.freeze,RT,go_sem,↓reduceIte,seval]
  rfl
 | ok R =>
  obtain ⟨O,hO,hn,hRq⟩:=required_okO hR
  obtain ⟨l8,z0,zz,lO⟩:=verSchemas_ok hO
  have ok:=grOk_of hO
  obtain ⟨b0,_⟩:=verSchemas_facts hO
  have cv:=verSchema_sat g 0 hg
  have sv:verSchema g 0=.ok g.base:=by
   unfold verSchema
   rw [hO]
   simp only
   rw [if_neg (by omega)]
   congr 1
  rw [sv] at cv
  unfold sOut rE at cv
  simp only at cv
  rw [hR] at c1
  unfold bOut rE at c1
  simp only at c1
  obtain ⟨n,hN⟩:∃n,R.length=n:=⟨_,rfl⟩
  obtain ⟨Ne,hE⟩:∃Ne,g.edges.length=Ne:=⟨_,rfl⟩
  have lR:n=Ne+1:=by rw [←hN,hRq,reqL_len,lO,hE];omega
  have spec:prune g used=.ok (pruneG g (prK (parN g) R n Ne),(prK (parN g) R n Ne).rem):=by unfold prune prS;rw [hR];simp only [hN,hE]
  rw [spec]
  unfold gOut nOut rE
  simp only
  have e0:(List.replicate n ([.int .i64 0]:List L))=(natI (List.replicate n 0)).map eInt1:=by unfold natI;rw [List.map_replicate,List.map_replicate];rfl
  refine sS tyOk Tryz.func22 fun w0 m0 F0=>?_
  simp only [Tryz.ntmps22,envOf,Nat.reduceAdd]
  repeat' (first|((first|((fail_if_success (refine AWP.isRegion 8 ?_));(with_reducible refine qV tyOk fun K hK=>?_))|((with_reducible refine CallJ.is ?_);(first|refine CallJ.pure (c1) ?_|refine CallJ.pure (cv) ?_)))<;>simp -dsimp (disch:=first|exact D|fail) only [go_sem,↓reduceIte,seval,eGr,eEdgs,eSch,hN])|((with_reducible refine hK _ ?_);clear hK K)|refine Q1 ?_|((with_reducible refine qW (T:=TT) (b:=?_) ?_ ?_);rotate_left;exact rfl)|fail)
  refine AWP.regionX tyOk fun K hK=>?_
  refine VOpsX.step fun K2 h9=>?_
  simp -dsimp (disch:=first|exact D|fail) only [go_sem,↓reduceIte,seval,hN]
  refine h9 _ ?_
  refine VOpsX.step fun K4 h7=>?_
  simp -dsimp (disch:=first|exact D|fail) only [go_sem,↓reduceIte,seval,hN]
  refine h7 _ ?_
  refine VOpsX.sem (semMake tyOk (n:=n) (k1:=.i64) (k2:=.i64) rfl rfl rfl rfl rfl (by show 8 * n≤_;omega) (by omega) (Nat.le_of_ble_eq_true rfl) ?_)
  refine VOpsX.step fun K3 h8=>?_
  simp -dsimp (disch:=first|exact D|fail) only [go_sem,↓reduceIte,seval]
  refine h8 _ ?_
  refine VOpsX.fin (hK _ ?_)
  clear h8 h7 h9 hK K4 K3 K2 K
  rw [e0]
  refine AWP.nilBox 10 3 65 rfl rfl (.inl (by show 65<81;decide)) ?_
  simp -dsimp (disch:=first|exact D|fail) only [go_sem,↓reduceIte,seval,nilBoxR_mk,List.set_cons_zero,List.set_cons_succ]
  repeat' (first|((with_reducible refine qV tyOk fun K hK=>?_)<;>simp -dsimp (disch:=first|exact D|fail) only [go_sem,↓reduceIte,seval,hE])|((with_reducible refine hK _ ?_);clear hK K)|refine Q1 ?_|fail)
  refine AWP.loop (ι:={k:Nat // k≤Ne}) (fun k=>⟨81,[(4,.v (.one (.ptr 4 0))),(7,.v (.one (.sl 1 (R.map eBool)))),(10,.v (.one (.ptr 10 0))),(11,.v (.one (.ref 11 0 n))),(12,.v (.one (.ref 12 0 (prK (parN g) R n k.1).rem.length))),(41,.v (.one (.sl 2 (g.edges.map eEdg)))),(42,.v (oI Ne)),(43,.v (oI k.1))],[(10,[eTbls g.base.tables,eFKs g.base.fks,eCons g.base.cons,.ref 65 0 (prK (parN g) R n k.1).edges.length]),(4,[.nil 3,.nil 3,.nil 7,.nil 2])],[(65,⟨2,((prK (parN g) R n k.1).edges.map (mkE g)).map eEdg,[]⟩),(11,⟨1,(natI (prK (parN g) R n k.1).num).map eInt1,[]⟩),(12,⟨1,(natI (prK (parN g) R n k.1).rem).map eInt1,[]⟩)]⟩) (fun k=>Ne - k.1) ⟨0,Nat.zero_le _⟩ ?_ fun ⟨k,hk⟩=>?_
  ·refine St.le_mk ?_ ?_ ?_<;>simp only [LE,EN,Nat.reduceEqDiff,reduceIte,Nat.reduceSub,eGr,eEdgs,prK,natI,eInt1,List.length_map,List.length_replicate,List.map_cons,List.map_nil,List.length_cons,List.length_nil,Int.natCast_zero,Nat.zero_add]
  simp only at hk ⊢
  have n0:0<n:=by omega
  rcases Nat.lt_or_ge k Ne with hc|hc
  ·obtain ⟨s,hs⟩:∃s,prK (parN g) R n k=s:=⟨_,rfl⟩
   have I:=prInv (P:=parN g) (R:=R) n0 k (by omega)
   have nx:prK (parN g) R n (k+1)=prStep (parN g) R s k:=by rw [prK,hs]
   have rl:=prK_len (P:=parN g) (R:=R) n0 (i:=k) (by omega)
   have rn:=prK_num (P:=parN g) (R:=R) n0 (i:=k) (by omega)
   rw [hs] at I rl rn ⊢
   have gR:=getD_eBool R (k+1) (by omega)
   have lR2:(R.map eBool).length=n:=by rw [List.length_map,hN]
   have ge:(g.edges.map eEdg).getD k []=[.int .i64 (parN g (k+1):Int),eScr (g.edges.getD k zEdg).steps]:=by
    have:=getD_edge ok (v:=k+1) (by omega) (by omega)
    simpa using this
   have w1:((k:Int)+1).toNat=k+1:=by omega
   cases hb:R.getD (k+1) false with
   | false =>
    rw [hb] at gR
    have sx:prStep (parN g) R s k=s:=by unfold prStep;rw [hb];rfl
    repeat' (first|((with_reducible refine qV tyOk fun K hK=>?_)<;>simp -dsimp (disch:=first|exact D|fail) only [go_sem,↓reduceIte,seval,gR,ge,w1,lR2,Option.getD_none])|((with_reducible refine hK _ ?_);clear hK K)|refine Q1 ?_|((with_reducible refine qW (T:=TT) (b:=?_) ?_ ?_);rotate_left;exact rfl)|fail)
    refine ⟨⟨k+1,by omega⟩,by simp only;omega,?_⟩
    simp only [nx,sx]
    refine St.le_mk ?_ ?_ ?_<;>simp only [LE,EN,Nat.reduceEqDiff,reduceIte,Nat.reduceSub,Int.natCast_add,Int.natCast_one]
   | true =>
    rw [hb] at gR
    have sx:prStep (parN g) R s k=⟨s.edges++[(s.num.getD (parN g (k+1)) 0,k)],s.num.set (k+1) s.rem.length,s.rem++[k+1]⟩:=by unfold prStep;rw [hb];rfl
    have pb:parN g (k+1)<k+1:=ok.par (k+1) (by omega) (by omega)
    have ln:=I.lnum
    have ln2:(natI s.num).length=n:=by rw [natI_len,ln]
    have lr2:=natI_len s.rem
    have le2:(s.edges.map (mkE g)).length=s.edges.length:=List.length_map ..
    have lr:=I.lrem
    have gn:((natI s.num).map eInt1).getD (parN g (k+1)) []=[.int .i64 ((s.num.getD (parN g (k+1)) 0:Nat):Int)]:=by
     rw [getD_map_lt _ _ _ (by omega)]
     simp only [natI,List.getElem_map]
     rw [getD_lt _ (by omega)]
     rfl
    have hgk:k<g.edges.length:=by omega
    have ed:=hg.edge _ (List.getElem_mem hgk)
    have ek:g.edges.getD k zEdg=g.edges[k]:=getD_lt _ hgk
    have sl:=scrApply_len ((verSchemas_facts hO).2 k hgk)
    have c:=scrClone_sat (g.edges.getD k zEdg).steps (by rw [ek];omega) (by rw [ek];exact ed.step)
    have st:((natI s.num).map eInt1).set (k+1) [.int .i64 (s.rem.length:Int)]=(natI (s.num.set (k+1) s.rem.length)).map eInt1:=by
     unfold natI
     rw [List.map_set,List.map_set]
     rfl
    have ea:((s.edges++[(s.num.getD (parN g (k+1)) 0,k)]).map (mkE g)).map eEdg=(s.edges.map (mkE g)).map eEdg++[[.int .i64 ((s.num.getD (parN g (k+1)) 0:Nat):Int),eScr (g.edges.getD k zEdg).steps]]:=by
     rw [List.map_append,List.map_append]
     rfl
    have k1:((k+1:Nat):Int)=(k:Int)+1:=by omega
    have er:(natI (s.rem++[k+1])).map eInt1=(natI s.rem).map eInt1++[[.int .i64 ((k:Int)+1)]]:=by rw [natI_snoc,k1]
    repeat' (first|((first|with_reducible refine qV tyOk fun K hK=>?_|(refine AWP.isRegion 14 ?_;refine dX tyOk mixed [(0,9)] [(9,[(10,1)],[(0,7)]),(11,[],[(0,2)]),(12,[(13,1)],[]),(14,[],[])] [9,11,12,14] 8 fun K hK=>?_;simp only [SG,segs] at hK ⊢)|((with_reducible refine CallJ.is ?_);(refine CallJ.pure (c) ?_))|(with_reducible first|refine VCy.some fun K hK=>?_|refine VCy.step fun K hK=>?_))<;>simp -dsimp (disch:=first|exact D|fail) only [go_sem,↓reduceIte,seval,gR,ge,gn,w1,lR2,ln2,lr2,le2,eScr,Option.getD_none,List.set_cons_zero,List.set_cons_succ])|((with_reducible refine hK _ ?_);clear hK K)|(with_reducible refine VCy.intro fun K0 hK0=>?_)|((with_reducible refine VCy.fin ?_);(refine hK0 _ ?_);clear hK0 K0)|(with_reducible first|refine VCy.quiet ?_|refine VCy.none ?_)|((with_reducible refine VCy.keep ?_ ?_);focus ((simp -dsimp (disch:=first|exact D|fail) only [go_sem,↓reduceIte,seval,Stable_cons,Stable_nil,sameA_some,sameA_none,gR,ge,gn,w1,lR2,ln2,lr2,le2,eScr,Option.getD_none,List.set_cons_zero,List.set_cons_succ]);first|done|exact E|fail))|refine Q1 ?_|((with_reducible refine qW (T:=TT) (b:=?_) ?_ ?_);rotate_left;exact rfl)|fail)
    refine ⟨⟨k+1,by omega⟩,by simp only;omega,?_⟩
    simp only [nx,sx]
    refine St.le_mk ?_ ?_ ?_<;>simp only [LE,EN,Nat.reduceEqDiff,reduceIte,Nat.reduceSub,st,ea,er,k1,eScr,eEdg,mkE,List.length_append,List.length_cons,List.length_nil,Nat.zero_add]
  ·have hk2:k=Ne:=by omega
   subst hk2
   repeat' (first|((with_reducible refine qV tyOk fun K hK=>?_)<;>simp -dsimp (disch:=first|exact D|fail) only [go_sem,↓reduceIte,seval])|((with_reducible refine hK _ ?_);clear hK K)|refine Q1 ?_|((with_reducible refine qW (T:=TT) (b:=?_) ?_ ?_);rotate_left;exact rfl)|fail)
   simp -dsimp (disch:=first|exact D|fail) only [retQ,Tryz.results22,resVals,cellRV,resOf,St.rest,St.freeze,RT,go_sem,↓reduceIte,seval]
   rw [if_pos (by rw [natI_len];exact Nat.le_refl _),frz_eEdg,List.take_of_length_le (by rw [List.length_map,natI_len];exact Nat.le_refl _)]
   rfl
section
open Go.RowKit
section
variable {P:Program} {T:TypeId→Option TI} {s:St}
theorem semAnd {t t' ty:TypeId} {x y:Operand} {d:Nat} {pos:String} {af:Array Edge} {K:St→Prop} {k:IntKind} {p q:Int}
  (hx:evalO T s t x=some (.v (.one (.int k p)))) (hy:evalO T s t y=some (.v (.one (.int k q)))) (hd:d<s.n) (hK:K (s.put d (.v (.one (.int k (bits .and k p q)))))) :
  SemOp P ⟨some d,.binOp .and t x y t',ty,pos,af,Option.none⟩ s K:=by
 intro w0 m0 F0 a w m ω hC
 have h1:=int_eval hC hx
 have h2:=int_eval hC hy
 refine Moves.follows (s':=_) ?_ hK
 have hrun:(execOp a.eval ⟨some d,.binOp .and t x y t',ty,pos,af,Option.none⟩).run P w=.ok (.value (.int k (bits .and k p q))) w:=by
  unfold execOp
  simp only [h1,h2,eqGuard_at_int,binOp_and,intBits_and,Sem.run_bind,Sem.run_pure,Result.andThen_ok]
 refine gives_of_run (w':=w) hrun ?_
 exact ⟨m,ω,hC.put hd (Rep.int _ _)⟩
end
end
theorem andMask (n:Nat) (h:n<4294967296):bits .and .u64 (n:Int) 4294967295=(n:Int):=by
 have:=Go.bits_and_u64_nat n 4294967295 (by omega) (by omega)
 have e:n &&& 4294967295=n % 4294967296:=Nat.and_two_pow_sub_one_eq_mod n 32
 rw [e,Nat.mod_eq_of_lt h] at this
 exact this
theorem shrSmall (n:Nat) (h:n<4294967296):(n:Int) / 4294967296=0:=by omega
set_option maxHeartbeats 8000000 in
theorem mul64_sat (n:Nat) (hn:n≤9):Sat Tryz.prog 59 [.one (.int .u64 1),.one (.int .u64 n)] (.tup [.one (.int .u64 0),.one (.int .u64 n)]):=by
 have a1:bits .and .u64 1 4294967295=1:=andMask 1 (by omega)
 have a2:=andMask n (by omega)
 have a3:bits .and .u64 0 4294967295=0:=andMask 0 (by omega)
 have d2:=shrSmall n (by omega)
 have z0:IntKind.u64.wrap 0=0:=by decide
 have w2:IntKind.u64.wrap (n:Int)=n:=by rw [IntKind.wrap_u64];omega
 refine sS tyOk Tryz.func59 fun w0 m0 F0=>?_
 simp only [Tryz.ntmps59,envOf,Nat.reduceAdd]
 repeat' (first|((((fail_if_success (refine AWP.isRegion 1 ?_));(with_reducible refine qV tyOk fun K hK=>?_)))<;>simp -dsimp (disch:=first|exact D|fail) only [go_sem,↓reduceIte,seval])|((with_reducible refine hK _ ?_);clear hK K)|refine Q1 ?_|fail)
 refine AWP.regionX tyOk fun K hK=>?_
 refine VOpsX.step fun K2 h9=>?_
 simp -dsimp (disch:=first|exact D|fail) only [go_sem,↓reduceIte,seval]
 refine h9 _ ?_
 refine VOpsX.sem (semAnd (T:=TT) (k:=.u64) (p:=1) (q:=4294967295) rfl rfl (Nat.le_of_ble_eq_true rfl) ?_)
 rw [a1]
 refine VOpsX.step fun K3 h8=>?_
 simp -dsimp (disch:=first|exact D|fail) only [go_sem,↓reduceIte,seval]
 refine h8 _ ?_
 refine VOpsX.fin (hK _ ?_)
 clear h8 h9 hK K3 K2 K
 repeat' (first|((((fail_if_success (refine AWP.isRegion 3 ?_));(with_reducible refine qV tyOk fun K hK=>?_)))<;>simp -dsimp (disch:=first|exact D|fail) only [go_sem,↓reduceIte,seval])|((with_reducible refine hK _ ?_);clear hK K)|refine Q1 ?_|fail)
 refine AWP.regionX tyOk fun K hK=>?_
 refine VOpsX.step fun K2 h9=>?_
 simp -dsimp (disch:=first|exact D|fail) only [go_sem,↓reduceIte,seval]
 refine h9 _ ?_
 refine VOpsX.sem (semAnd (T:=TT) (k:=.u64) (p:=n) (q:=4294967295) rfl rfl (Nat.le_of_ble_eq_true rfl) ?_)
 rw [a2]
 refine VOpsX.step fun K3 h8=>?_
 simp -dsimp (disch:=first|exact D|fail) only [go_sem,↓reduceIte,seval]
 refine h8 _ ?_
 refine VOpsX.fin (hK _ ?_)
 clear h8 h9 hK K3 K2 K
 repeat' (first|((((fail_if_success (refine AWP.isRegion 7 ?_));(with_reducible refine qV tyOk fun K hK=>?_)))<;>simp -dsimp (disch:=first|exact D|fail) only [go_sem,↓reduceIte,seval,d2,w2,z0,Int.zero_mul,Int.one_mul,Int.zero_add])|((with_reducible refine hK _ ?_);clear hK K)|refine Q1 ?_|fail)
 refine AWP.regionX tyOk fun K hK=>?_
 refine VOpsX.step fun K2 h9=>?_
 simp -dsimp (disch:=first|exact D|fail) only [go_sem,↓reduceIte,seval]
 refine h9 _ ?_
 refine VOpsX.sem (semAnd (T:=TT) (k:=.u64) (p:=0) (q:=4294967295) rfl rfl (Nat.le_of_ble_eq_true rfl) ?_)
 rw [a3]
 refine VOpsX.step fun K3 h8=>?_
 simp -dsimp (disch:=first|exact D|fail) only [go_sem,↓reduceIte,seval]
 refine h8 _ ?_
 refine VOpsX.fin (hK _ ?_)
 clear h8 h9 hK K3 K2 K
 repeat' (first|((with_reducible refine qV tyOk fun K hK=>?_)<;>simp -dsimp (disch:=first|exact D|fail) only [go_sem,↓reduceIte,seval,d2,w2,z0,Int.zero_mul,Int.one_mul,Int.zero_add,Int.mul_zero,Int.add_zero])|((with_reducible refine hK _ ?_);clear hK K)|refine Q1 ?_|fail)
 simp -dsimp (disch:=first|exact D|fail) only [retQ,Tryz.results59,resVals,cellRV,resOf,St.rest,St.freeze,RT,go_sem,↓reduceIte,seval]
theorem mul_sat (n:Nat) (hn:n≤9):Sat Tryz.prog 42 [.one (.int .u64 1),.one (.int .u64 n)] (.tup [.one (.int .u64 0),.one (.int .u64 n)]):=by
 have c:=mul64_sat n hn
 refine sS tyOk Tryz.func42 fun w0 m0 F0=>?_
 simp only [Tryz.ntmps42,envOf,Nat.reduceAdd]
 repeat' (first|((first|with_reducible refine qV tyOk fun K hK=>?_|((with_reducible refine CallJ.is ?_);(refine CallJ.pure (c) ?_)))<;>simp -dsimp (disch:=first|exact D|fail) only [go_sem,↓reduceIte,seval])|((with_reducible refine hK _ ?_);clear hK K)|refine Q1 ?_|((with_reducible refine qW (T:=TT) (b:=?_) ?_ ?_);rotate_left;exact rfl)|fail)
 simp -dsimp (disch:=first|exact D|fail) only [retQ,Tryz.results42,resVals,cellRV,resOf,St.rest,St.freeze,RT,go_sem,↓reduceIte,seval]
set_option maxRecDepth 100000 in
set_option maxHeartbeats 16000000 in
theorem repeat_sat (n:Nat) (n0:0<n) (hn:n≤9):Sat Tryz.prog 24 [.one (.sl 1 [[.bool true]]),oI n] (.v (.one (.sl 1 (List.replicate n [.bool true])))):=by
 have c:=mul_sat n hn
 have w1:IntKind.u64.wrap (n:Int)=n:=by rw [IntKind.wrap_u64];omega
 have w2:IntKind.u64.wrap (1:Int)=1:=by decide
 have w3:IntKind.i64.wrap (n:Int)=n:=by rw [IntKind.wrap_i64];omega
 have h0:¬ (n:Int)<0:=by omega
 have h1:¬ (9223372036854775807:Int)<n:=by omega
 refine sS tyOk Tryz.func24 fun w0 m0 F0=>?_
 simp only [Tryz.ntmps24,envOf,Nat.reduceAdd]
 repeat' (first|((first|((fail_if_success (refine AWP.isRegion 6 ?_));(with_reducible refine qV tyOk fun K hK=>?_))|((with_reducible refine CallJ.is ?_);(refine CallJ.pure (c) ?_)))<;>simp -dsimp (disch:=first|exact D|fail) only [go_sem,↓reduceIte,seval,w1,w2,h0,h1,Tryz.underlying3,Tryz.underlying95,Option.isSome_some,true_and])|((with_reducible refine hK _ ?_);clear hK K)|refine Q1 ?_|((with_reducible refine qW (T:=TT) (b:=?_) ?_ ?_);rotate_left;exact rfl)|fail)
 refine AWP.regionX tyOk fun K hK=>?_
 refine VOpsX.step fun K2 h9=>?_
 simp -dsimp (disch:=first|exact D|fail) only [go_sem,↓reduceIte,seval]
 refine h9 _ ?_
 refine VOpsX.step fun K4 h7=>?_
 simp -dsimp (disch:=first|exact D|fail) only [go_sem,↓reduceIte,seval,w3,Tryz.underlying95,Option.isSome_some,true_and]
 refine h7 _ ?_
 refine VOpsX.sem (semMake tyOk (n:=n) (k1:=.i64) (k2:=.i64) rfl rfl rfl rfl rfl (by show 1 * n≤_;omega) (by omega) (Nat.le_of_ble_eq_true rfl) ?_)
 refine VOpsX.step fun K3 h8=>?_
 simp -dsimp (disch:=first|exact D|fail) only [go_sem,↓reduceIte,seval]
 refine h8 _ ?_
 refine VOpsX.fin (hK _ ?_)
 clear h8 h7 h9 hK K4 K3 K2 K
 repeat' (first|((((fail_if_success (refine AWP.isRegion 8 ?_));(with_reducible refine qV tyOk fun K hK=>?_)))<;>simp -dsimp (disch:=first|exact D|fail) only [go_sem,↓reduceIte,seval])|((with_reducible refine hK _ ?_);clear hK K)|refine Q1 ?_|fail)
 refine AWP.loop (ι:={k:Nat // 0<k∧k≤n}) (fun k=>⟨48,[(7,.v (.one (.ref 7 0 n))),(8,.v (oI k.1))],[],[(7,⟨1,List.replicate k.1 [.bool true]++List.replicate (n - k.1) [.bool false],[]⟩)]⟩) (fun k=>n - k.1) ⟨1,by omega,n0⟩ ?_ fun ⟨k,k0,hk⟩=>?_
 ·have m1:min 1 n=1:=by omega
  have d1:List.drop 1 (List.replicate n ([.bool false]:List L))=List.replicate (n - 1) [.bool false]:=List.drop_replicate
  have r1:List.replicate 1 ([.bool true]:List L)++List.replicate (n - 1) [.bool false]=[.bool true]::List.replicate (n - 1) [.bool false]:=rfl
  refine St.le_mk ?_ ?_ ?_<;>simp only [LE,EN,Nat.reduceEqDiff,reduceIte,Nat.reduceSub,List.length_replicate,m1,d1,r1,Int.natCast_one]
 simp only at k0 hk ⊢
 obtain ⟨X,hX⟩:∃X,List.replicate k ([.bool true]:List L)++List.replicate (n - k) [.bool false]=X:=⟨_,rfl⟩
 have lX:X.length=n:=by rw [←hX,List.length_append,List.length_replicate,List.length_replicate];omega
 rw [hX]
 rcases Nat.lt_or_ge k n with hc|hc
 ·have c1:(k:Int)<n:=by omega
  have hX2:X=(List.replicate k true++List.replicate (n - k) false).map (fun b=>[L.bool b]):=by rw [←hX,List.map_append,List.map_replicate,List.map_replicate]
  have nX:noOwn X=True:=by rw [hX2];exact noOwn_map (fun _=>rfl) _
  have b1:k+(n - k)≤n:=by omega
  obtain ⟨c,hcm⟩:∃c,min k (n - k)=c:=⟨_,rfl⟩
  have lT:(List.take k X).length=k:=by rw [List.length_take,lX];omega
  have eX:List.take k X++List.take c (List.take k X)++List.drop (k+c) X=List.replicate (k+c) ([.bool true]:List L)++List.replicate (n - (k+c)) [.bool false]:=by
   have e1:List.take k X=List.replicate k ([.bool true]:List L):=by rw [←hX];exact List.take_left' (by simp)
   have e2:List.drop (k+c) X=List.replicate (n - (k+c)) ([.bool false]:List L):=by
    rw [←hX,List.drop_append,List.drop_replicate,List.drop_replicate,List.length_replicate,show k - (k+c)=0 by omega,show n - k - (k+c - k)=n - (k+c) by omega]
    rfl
   rw [e1,e2,List.take_replicate,show min c k=c by omega,List.replicate_append_replicate]
  have w4:IntKind.i64.wrap ((k:Int)+(c:Int))=(k:Int)+c:=by rw [IntKind.wrap_i64];omega
  repeat' (first|((((fail_if_success (refine AWP.isRegion 9 ?_));(with_reducible refine qV tyOk fun K hK=>?_)))<;>simp -dsimp (disch:=first|exact D|fail) only [go_sem,↓reduceIte,seval,lX,c1])|((with_reducible refine hK _ ?_);clear hK K)|refine Q1 ?_|((with_reducible refine qW (T:=TT) (b:=?_) ?_ ?_);rotate_left;exact rfl)|fail)
  refine dX tyOk mixed [(0,7)] [(7,[(8,1)],[(0,1)]),(9,[],[])] [7,9] 8 fun K hK=>?_
  simp only [SG,segs] at hK ⊢
  simp -dsimp (disch:=first|exact D|fail) only [go_sem,↓reduceIte,seval,lX]
  repeat' (first|(((with_reducible first|refine VCy.some fun K hK=>?_|refine VCy.step fun K hK=>?_))<;>simp -dsimp (disch:=first|exact D|fail) only [go_sem,↓reduceIte,seval,lX,c1,Nat.sub_zero,hk,nX,b1,lT,hcm,w4])|((with_reducible refine hK _ ?_);clear hK K)|(with_reducible refine VCy.intro fun K0 hK0=>?_)|((with_reducible refine VCy.fin ?_);(refine hK0 _ ?_);clear hK0 K0)|(with_reducible first|refine VCy.quiet ?_|refine VCy.none ?_)|((with_reducible refine VCy.keep ?_ ?_);focus ((simp -dsimp (disch:=first|exact D|fail) only [go_sem,↓reduceIte,seval,Stable_cons,Stable_nil,sameA_some,sameA_none,lX,c1,Nat.sub_zero,hk,nX,b1,lT,hcm,w4]);first|done|exact E|fail))|refine Q1 ?_|fail)
  refine ⟨⟨k+c,by omega,by omega⟩,by simp only;omega,?_⟩
  refine St.le_mk ?_ ?_ ?_<;>simp only [LE,EN,Nat.reduceEqDiff,reduceIte,Nat.reduceSub,eX,Int.natCast_add]
 ·have hk2:k=n:=by omega
  subst hk2
  rw [Nat.sub_self,List.replicate_zero,List.append_nil] at hX
  subst hX
  repeat' (first|((with_reducible refine qV tyOk fun K hK=>?_)<;>simp -dsimp (disch:=first|exact D|fail) only [go_sem,↓reduceIte,seval])|((with_reducible refine hK _ ?_);clear hK K)|refine Q1 ?_|((with_reducible refine qW (T:=TT) (b:=?_) ?_ ?_);rotate_left;exact rfl)|fail)
  simp -dsimp (disch:=first|exact D|fail) only [retQ,Tryz.results24,resVals,cellRV,resOf,St.rest,St.freeze,RT,go_sem,↓reduceIte,seval]
  rw [if_pos (by simp),List.map_replicate]
  rfl
theorem goG_prune {g:Gr} {O:List Sch} {R:List Bool} (hO:verSchemas g=.ok O) (cl:ClosedR (parN g) R (g.edges.length+1)):∀i,i≤g.edges.length →
  goG [g.base] ((prK (parN g) R (g.edges.length+1) i).edges.map (mkE g))=.ok ((prK (parN g) R (g.edges.length+1) i).rem.map fun v=>O.getD v zSch)
 | 0,_=>by
  have:=(verSchemas_facts hO).1
  simp only [prK,List.map_nil,goG,List.map_cons,this]
 | i+1,hi=>by
  obtain ⟨b0,hf⟩:=verSchemas_facts hO
  have ok:=grOk_of hO
  have ih:=goG_prune hO cl i (by omega)
  have I:=prInv (P:=parN g) (R:=R) (n:=g.edges.length+1) (by omega) i (by omega)
  rw [prK]
  generalize prK (parN g) R (g.edges.length+1) i=s at ih I
  unfold prStep
  by_cases hc:R.getD (i+1) false=true
  ·rw [if_pos hc]
   simp only [List.map_append,List.map_cons,List.map_nil]
   rw [goG_snoc ih]
   have hp:=ok.par (i+1) (by omega) hi
   have hn:=I.num (parN g (i+1)) (by omega) (cl (i+1) (by omega) (by omega) hc)
   obtain ⟨h1,h2⟩:=List.getElem?_eq_some_iff.1 hn
   have e1:(s.rem.map fun v=>O.getD v zSch).getD (s.num.getD (parN g (i+1)) 0) zSch=O.getD (parN g (i+1)) zSch:=by
    rw [List.getD_eq_getElem?_getD,List.getElem?_map,hn]
    rfl
   have ge:(g.edges.getD i zEdg)=g.edges[i]:=getD_lt _ (by omega)
   rw [goG]
   simp only [mkE,Int.toNat_natCast,List.length_map]
   rw [if_neg (by omega),e1,ge,hf i (by omega)]
   rfl
  ·rw [if_neg hc]
   exact ih
structure PrFacts (g:Gr) (used:List Bool) (p:Gr×List Nat) (O:List Sch):Prop where
 sch:verSchemas g=.ok O
 len:used.length=O.length
 rest:verSchemas p.1=.ok (p.2.map fun v=>O.getD v zSch)
 lt:p.2.Pairwise (·<·)
 le:∀v∈p.2,v<O.length
 used:∀v,v<O.length→used.getD v false=true→v∈p.2
 small:p.2.length≤8
theorem prune_facts {g:Gr} {used:List Bool} {p:Gr×List Nat} (h:prune g used=.ok p):∃O,PrFacts g used p O:=by
 unfold prune at h
 split at h
 ·cases h
 ·rename_i R hR
  injection h with h
  subst h
  obtain ⟨O,hO,hn,hRq⟩:=required_okO hR
  obtain ⟨l8,z0,zz,lO⟩:=verSchemas_ok hO
  have ok:=grOk_of hO
  have lR:R.length=g.edges.length+1:=by rw [hRq,reqL_len,lO];omega
  have hP:∀v,0<v→v<O.length→parN g v<v:=fun v h0 h1=>ok.par v h0 (by omega)
  have cl:ClosedR (parN g) R (g.edges.length+1):=by
   rw [hRq]
   have:=reqL_closed (used:=used) hP
   rw [lO,Nat.add_comm] at this ⊢
   exact this
  have I:=prInv (P:=parN g) (R:=R) (n:=g.edges.length+1) (by omega) g.edges.length (by omega)
  have hG:=goG_prune hO cl g.edges.length (Nat.le_refl _)
  have hL:=prK_len (P:=parN g) (R:=R) (n:=g.edges.length+1) (by omega) (i:=g.edges.length) (by omega)
  unfold prS
  rw [lR]
  generalize prK (parN g) R (g.edges.length+1) g.edges.length=s at I hG hL
  refine ⟨O,hO,hn,?_,I.lt,fun v hv=>by have:=I.le v hv;omega,fun v hv hu=>?_,by simp only;omega⟩
  ·unfold verSchemas pruneG
   simp only [List.length_map]
   have:=I.lrem
   rw [if_neg (by omega),if_neg (by rw [z0];simp)]
   exact hG
  ·have hr:R.getD v false=true:=by rw [hRq];exact reqL_used hP hv hu
   exact List.mem_of_getElem? (I.num v (by omega) (.inr hr))
theorem prune_ne {g:Gr} {u:List Bool} {e:Int} (h:prune g u=.error e):e≠0:=by
 unfold prune at h
 split at h
 ·rename_i q;injection h with h;rw [←h];exact required_ne q
 ·cases h
theorem prune_fits {g:Gr} {used:List Bool} {p:Gr×List Nat} (hg:g.Fits) (h:prune g used=.ok p):p.1.Fits:=by
 obtain ⟨O,F⟩:=prune_facts h
 have l8:=(verSchemas_ok F.rest).1
 unfold prune at h
 split at h
 ·cases h
 ·rename_i R hR
  injection h with h
  subst h
  refine ⟨hg.base,by omega,fun e he=>?_⟩
  obtain ⟨⟨a,k⟩,_,rfl⟩:=List.mem_map.1 he
  unfold mkE
  simp only
  rcases Nat.lt_or_ge k g.edges.length with hk|hk
  ·rw [getD_lt _ hk]
   have:=hg.edge _ (List.getElem_mem hk)
   exact ⟨this.len,this.step⟩
  ·rw [List.getD_eq_getElem?_getD,List.getElem?_eq_none hk]
   exact ⟨by simp [zEdg],fun st hs=>by simp [zEdg] at hs⟩
theorem prune_again {g:Gr} {used:List Bool} {p:Gr×List Nat} (h:prune g used=.ok p):∃q,prune p.1 (List.replicate p.2.length true)=.ok q∧q.2.length=p.2.length∧q.1.edges.length=p.1.edges.length:=by
 obtain ⟨O,F⟩:=prune_facts h
 obtain ⟨l8,z0,zz,lO⟩:=verSchemas_ok F.rest
 have ok:=grOk_of F.rest
 rw [List.length_map] at lO
 have hP:∀v,0<v→v<p.2.length→parN p.1 v<v:=fun v h0 h1=>ok.par v h0 (by omega)
 have hR:required p.1 (List.replicate p.2.length true)=.ok (reqL (parN p.1) (List.replicate p.2.length true) p.2.length):=by
  unfold required
  rw [F.rest]
  simp only [List.length_map]
  rw [if_neg (by rw [List.length_replicate];simp)]
 have hA:=prK_all (P:=parN p.1) (n:=p.2.length) (reqL (parN p.1) (List.replicate p.2.length true) p.2.length) (fun v hv=>reqL_all hP (Nat.le_refl _) hv) p.1.edges.length (by omega)
 have hI:=(prInv (P:=parN p.1) (R:=reqL (parN p.1) (List.replicate p.2.length true) p.2.length) (n:=p.2.length) (by omega) p.1.edges.length (by omega)).lrem
 refine ⟨_,by unfold prune;rw [hR],?_,?_⟩
 ·show (prS p.1 _).rem.length=_
  unfold prS
  rw [reqL_len,hI,hA]
  omega
 ·show (pruneG p.1 (prS p.1 _)).edges.length=_
  unfold prS pruneG
  simp only [List.length_map]
  rw [reqL_len,hA]
set_option maxRecDepth 100000 in
set_option maxHeartbeats 32000000 in
theorem impactPruneSchemas_sat (g:Gr) (used:List Bool) (hg:g.Fits) (hu:used.length≤140737488355328):Sat Tryz.prog 7 [.agg (eGr g),.one (eBools used)] (.v (oB true)):=by
 have c0:=graphsWork_sat
 have c1:=prune_sat g used hg hu
 have c2:=verSchemas_sat g hg
 unfold eBools eInts at c1
 unfold eBools
 unfold eSchs at c2
 cases hp:prune g used with
 | error e =>
  have he:=prune_ne hp
  rw [hp] at c1
  unfold gOut nOut rE at c1
  simp only at c1
  refine sS tyOk Tryz.func7 fun w0 m0 F0=>?_
  simp only [Tryz.ntmps7,envOf,Nat.reduceAdd]
  repeat' (first|((first|with_reducible refine qV tyOk fun K hK=>?_|((with_reducible refine CallJ.is ?_);(first|refine CallJ.pure (c0) ?_|refine CallJ.pure (c1) ?_|refine CallJ.pure (c2) ?_)))<;>simp -dsimp (disch:=first|exact D|fail) only [go_sem,↓reduceIte,seval,eGr,eEdgs,he])|((with_reducible refine hK _ ?_);clear hK K)|refine Q1 ?_|((with_reducible refine qW (T:=TT) (b:=?_) ?_ ?_);rotate_left;exact rfl)|fail)
  simp -dsimp (disch:=first|exact D|fail) only [retQ,Tryz.results7,resVals,cellRV,resOf,St.rest,St.freeze,RT,go_sem,↓reduceIte,seval]
  rfl
 | ok p =>
 obtain ⟨O,F⟩:=prune_facts hp
 obtain ⟨q,hq,q1,q2⟩:=prune_again hp
 have hpf:=prune_fits hg hp
 rw [hp] at c1
 unfold gOut nOut rE at c1
 simp only at c1
 have hO:=F.sch
 rw [hO] at c2
 unfold lOut rE at c2
 simp only at c2
 have c3:=verSchemas_sat p.1 hpf
 rw [F.rest] at c3
 unfold lOut rE eSchs at c3
 simp only at c3
 obtain ⟨l8,z0,zz,lO⟩:=verSchemas_ok hO
 obtain ⟨m,hm⟩:∃m,p.2.length=m:=⟨_,rfl⟩
 obtain ⟨n,hn⟩:∃n,O.length=n:=⟨_,rfl⟩
 have lnum:(natI p.2).length=m:=by rw [natI_len,hm]
 have lu:used.length=n:=by rw [F.len,hn]
 refine sS tyOk Tryz.func7 fun w0 m0 F0=>?_
 simp only [Tryz.ntmps7,envOf,Nat.reduceAdd]
 have lO2:(O.map eSch).length=n:=by rw [List.length_map,hn]
 have lR2:((p.2.map fun v=>O.getD v zSch).map eSch).length=m:=by rw [List.length_map,List.length_map,hm]
 have lu2:(used.map eBool).length=n:=by rw [List.length_map,lu]
 obtain ⟨_,_,_,lP⟩:=verSchemas_ok F.rest
 rw [List.length_map,hm] at lP
 have fz:∀s∈O,s.Fits:=fun s hs=>(small_of (zz s hs)).fits
 have sm:=F.small
 have gN:∀j,∀h:j<p.2.length,((natI p.2).map eInt1).getD j []=[.int .i64 (p.2[j]:Int)]:=fun j h=>by
  rw [getD_map_lt _ _ _ (by rw [natI_len];exact h)]
  simp only [natI,List.getElem_map]
  rfl
 repeat' (first|((first|with_reducible refine qV tyOk fun K hK=>?_|((with_reducible refine CallJ.is ?_);(first|refine CallJ.pure (c0) ?_|refine CallJ.pure (c1) ?_|refine CallJ.pure (c2) ?_|refine CallJ.pure (c3) ?_)))<;>simp -dsimp (disch:=first|exact D|fail) only [go_sem,↓reduceIte,seval,eGr,eEdgs,lnum,lu,hm,hn])|((with_reducible refine hK _ ?_);clear hK K)|refine Q1 ?_|((with_reducible refine qW (T:=TT) (b:=?_) ?_ ?_);rotate_left;exact rfl)|fail)
 refine AWP.loop (ι:={k:Nat // k≤m}) (fun k=>⟨147,[(1,.v (.one (.sl 1 (used.map eBool)))),(5,.v (.one (.ptr 5 0))),(6,.v (.one (.sl 1 ((natI p.2).map eInt1)))),(8,.v (.one (.sl 3 (O.map eSch)))),(10,.v (.one (.sl 3 ((p.2.map fun v=>O.getD v zSch).map eSch)))),(63,.v (.one (.sl 1 ((natI p.2).map eInt1)))),(64,.v (oI m)),(65,.v (oI k.1))],[(5,eGr p.1)],[]⟩) (fun k=>m - k.1) ⟨0,Nat.zero_le _⟩ ?_ fun ⟨k,hk⟩=>?_
 ·refine St.le_mk ?_ ?_ ?_<;>simp only [LE,EN,Nat.reduceEqDiff,reduceIte,Nat.reduceSub,eGr,eEdgs,Int.natCast_zero]
 simp only at hk ⊢
 rcases Nat.lt_or_ge k m with hc|hc
 ·have hkp:k<p.2.length:=by omega
  have g1:=gN k hkp
  obtain ⟨v,hv⟩:∃v,p.2[k]=v:=⟨_,rfl⟩
  have vn:v<n:=by have:=F.le _ (List.getElem_mem hkp);omega
  have g2:((p.2.map fun v=>O.getD v zSch).map eSch).getD k []=eSch (O.getD v zSch):=by
   rw [getD_map_lt _ _ _ (by rw [List.length_map];exact hkp),List.getElem_map,hv]
  have g3:(O.map eSch).getD v []=eSch (O.getD v zSch):=by rw [getD_map_lt _ _ _ (by omega),getD_lt _ (by omega)]
  have fv:(O.getD v zSch).Fits:=by rw [getD_lt _ (by omega)];exact fz _ (List.getElem_mem _)
  have c4:=schEqual_sat (O.getD v zSch) (O.getD v zSch) fv fv
  rw [decide_eq_true rfl] at c4
  rw [hv] at g1
  have nv:¬ (n:Int)≤(v:Int):=by omega
  rcases Nat.eq_zero_or_pos k with k0|k0
  ·subst k0
   repeat' (first|((first|with_reducible refine qV tyOk fun K hK=>?_|(refine AWP.isRegion 13 ?_;refine dX tyOk mixed [(0,17)] [(17,[(18,15)],[])] [17] 8 fun K hK=>?_;simp only [SG,segs] at hK ⊢)|refine Q2 ?_|((with_reducible refine CallJ.is ?_);(refine CallJ.pure (c4) ?_))|(with_reducible first|refine VCy.some fun K hK=>?_|refine VCy.step fun K hK=>?_))<;>simp -dsimp (disch:=first|exact D|fail) only [go_sem,↓reduceIte,seval,g1,g2,g3,nv,lnum,lO2,lR2,eSch,Option.getD_none,Int.natCast_zero])|((with_reducible refine hK _ ?_);clear hK K)|(with_reducible refine VCy.intro fun K0 hK0=>?_)|((with_reducible refine VCy.fin ?_);(refine hK0 _ ?_);clear hK0 K0)|(with_reducible refine VCy.quiet ?_)|refine Q1 ?_|((with_reducible refine qW (T:=TT) (b:=?_) ?_ ?_);rotate_left;exact rfl)|fail)
   refine ⟨⟨0+1,by omega⟩,by simp only;omega,?_⟩
   refine St.le_mk ?_ ?_ ?_<;>simp only [LE,EN,Nat.reduceEqDiff,reduceIte,Nat.reduceSub,L.noPtr,L.noPtr0,L.noRow,L.noRow0,eGr,eEdgs,Int.natCast_add,Int.natCast_one,Int.natCast_zero,Int.zero_add]
  ·have g4:=gN (k - 1) (by omega)
   obtain ⟨u,hu2⟩:∃u,p.2[k - 1]'(by omega)=u:=⟨_,rfl⟩
   have lt:=sorted_get F.lt k0 hkp
   rw [hv] at lt
   rw [hu2] at g4 lt
   have w1:((k:Int) - 1).toNat=k - 1:=by omega
   have nL:¬ (v:Int)≤(u:Int):=by omega
   repeat' (first|((first|with_reducible refine qV tyOk fun K hK=>?_|(refine AWP.isRegion 13 ?_;refine dX tyOk mixed [(0,17)] [(17,[(18,15)],[])] [17] 8 fun K hK=>?_;simp only [SG,segs] at hK ⊢)|refine Q2 ?_|((with_reducible refine CallJ.is ?_);(refine CallJ.pure (c4) ?_))|(with_reducible first|refine VCy.some fun K hK=>?_|refine VCy.step fun K hK=>?_))<;>simp -dsimp (disch:=first|exact D|fail) only [go_sem,↓reduceIte,seval,g1,g2,g3,g4,w1,nv,nL,lnum,lO2,lR2,eSch,Option.getD_none])|((with_reducible refine hK _ ?_);clear hK K)|(with_reducible refine VCy.intro fun K0 hK0=>?_)|((with_reducible refine VCy.fin ?_);(refine hK0 _ ?_);clear hK0 K0)|(with_reducible refine VCy.quiet ?_)|refine Q1 ?_|((with_reducible refine qW (T:=TT) (b:=?_) ?_ ?_);rotate_left;exact rfl)|fail)
   refine ⟨⟨k+1,by omega⟩,by simp only;omega,?_⟩
   refine St.le_mk ?_ ?_ ?_<;>simp only [LE,EN,Nat.reduceEqDiff,reduceIte,Nat.reduceSub,L.noPtr,L.noPtr0,L.noRow,L.noRow0,eGr,eEdgs,Int.natCast_add,Int.natCast_one]
 have hk2:k=m:=by omega
 subst hk2
 repeat' (first|((with_reducible refine qV tyOk fun K hK=>?_)<;>simp -dsimp (disch:=first|exact D|fail) only [go_sem,↓reduceIte,seval,lu,lu2])|((with_reducible refine hK _ ?_);clear hK K)|refine Q1 ?_|((with_reducible refine qW (T:=TT) (b:=?_) ?_ ?_);rotate_left;exact rfl)|fail)
 refine AWP.loop (ι:={j:Nat // j≤n}) (fun j=>⟨147,[(5,.v (.one (.ptr 5 0))),(6,.v (.one (.sl 1 ((natI p.2).map eInt1)))),(10,.v (.one (.sl 3 ((p.2.map fun v=>O.getD v zSch).map eSch)))),(104,.v (.one (.sl 1 (used.map eBool)))),(105,.v (oI n)),(106,.v (oI j.1))],[(5,eGr p.1)],[]⟩) (fun j=>n - j.1) ⟨0,Nat.zero_le _⟩ ?_ fun ⟨j,hj⟩=>?_
 ·refine St.le_mk ?_ ?_ ?_<;>simp only [LE,EN,Nat.reduceEqDiff,reduceIte,Nat.reduceSub,L.noPtr,L.noPtr0,L.noRow,L.noRow0,eGr,eEdgs,Int.natCast_zero]
 simp only at hj ⊢
 rcases Nat.lt_or_ge j n with hjc|hjc
 ·have gU:=getD_eBool used j (by omega)
  cases hb:used.getD j false with
  | false =>
   rw [hb] at gU
   repeat' (first|((with_reducible refine qV tyOk fun K hK=>?_)<;>simp -dsimp (disch:=first|exact D|fail) only [go_sem,↓reduceIte,seval,gU,lu2,Option.getD_none])|((with_reducible refine hK _ ?_);clear hK K)|refine Q1 ?_|((with_reducible refine qW (T:=TT) (b:=?_) ?_ ?_);rotate_left;exact rfl)|fail)
   refine ⟨⟨j+1,by omega⟩,by simp only;omega,?_⟩
   refine St.le_mk ?_ ?_ ?_<;>simp only [LE,EN,Nat.reduceEqDiff,reduceIte,Nat.reduceSub,L.noPtr,L.noPtr0,L.noRow,L.noRow0,eGr,eEdgs,Int.natCast_add,Int.natCast_one]
  | true =>
   rw [hb] at gU
   have c5:=containsInt_sat (natI p.2) j (by rw [lnum];omega)
   rw [elem_natI,decide_eq_true (F.used j (by omega) hb)] at c5
   unfold eInts at c5
   repeat' (first|((first|with_reducible refine qV tyOk fun K hK=>?_|((with_reducible refine CallJ.is ?_);(refine CallJ.pure (c5) ?_)))<;>simp -dsimp (disch:=first|exact D|fail) only [go_sem,↓reduceIte,seval,gU,lu2,Option.getD_none])|((with_reducible refine hK _ ?_);clear hK K)|refine Q1 ?_|((with_reducible refine qW (T:=TT) (b:=?_) ?_ ?_);rotate_left;exact rfl)|fail)
   refine ⟨⟨j+1,by omega⟩,by simp only;omega,?_⟩
   refine St.le_mk ?_ ?_ ?_<;>simp only [LE,EN,Nat.reduceEqDiff,reduceIte,Nat.reduceSub,L.noPtr,L.noPtr0,L.noRow,L.noRow0,eGr,eEdgs,Int.natCast_add,Int.natCast_one]
 have hj2:j=n:=by omega
 subst hj2
 have m0:0<p.2.length:=by omega
 have c6:=repeat_sat p.2.length m0 (by omega)
 have c7:=prune_sat p.1 (List.replicate p.2.length true) hpf (by rw [List.length_replicate];omega)
 rw [hq] at c7
 unfold gOut nOut rE eBools eInts at c7
 simp only at c7
 have er:(List.replicate p.2.length true).map eBool=List.replicate p.2.length [.bool true]:=by rw [List.map_replicate];rfl
 rw [er] at c7
 rw [←hm] at lR2
 have lq:(natI q.2).length=p.2.length:=by rw [natI_len,q1]
 repeat' (first|((((fail_if_success (refine AWP.isRegion 22 ?_));(with_reducible refine qV tyOk fun K hK=>?_)))<;>simp -dsimp (disch:=first|exact D|fail) only [go_sem,↓reduceIte,seval,lR2,lq,q2])|((with_reducible refine hK _ ?_);clear hK K)|refine Q1 ?_|((with_reducible refine qW (T:=TT) (b:=?_) ?_ ?_);rotate_left;exact rfl)|fail)
 refine AWP.mid ⟨147,[(5,.v (.one (.ptr 5 0))),(10,.v (.one (.sl 3 ((p.2.map fun v=>O.getD v zSch).map eSch)))),(16,.v (.one (.ptr 16 0))),(17,.v (.one (.sl 1 ((natI q.2).map eInt1)))),(18,.v (oI 0))],[(5,eGr p.1),(16,eGr q.1)],[]⟩ ?_ ?_
 ·refine dY tyOk mixed [(0,1),(2,2)] (.cons 1 [] [(0,1),(2,2)] (.cons 4 [] [(0,1)] (.cons 5 [(6,4)] [] (.cons 10 [] [(6,4)] (.cons 11 [(12,2)] [(8,2)] .leaf .none) .none) (.cons 10 [] [(0,1)] (.cons 5 [(6,4)] [] (.cons 11 [(12,2)] [(8,2)] .leaf .none) .none) .none)) (.cons 10 [] [(0,1),(2,2)] (.cons 4 [] [(0,1)] (.cons 5 [(6,4)] [] (.cons 11 [(12,2)] [(8,2)] .leaf .none) .none) .none) .none)) (.cons 10 [] [(0,1),(2,2)] (.cons 1 [] [(0,1),(2,2)] (.cons 4 [] [(0,1)] (.cons 5 [(6,4)] [] (.cons 11 [(12,2)] [(8,2)] .leaf .none) .none) .none) .none) .none)) [1,4,5,10,11] 8 fun K hK=>?_
  simp only [segt_leaf,segt_none,segt_cons,segs,List.drop_succ_cons,List.drop_zero,List.take_succ_cons,List.take_zero,List.getElem?_cons_zero,List.getElem?_cons_succ,List.cons_append,List.nil_append,List.append_nil] at hK ⊢
  simp -dsimp (disch:=first|exact D|fail) only [go_sem,↓reduceIte,seval,eGr,eEdgs,lR2,Option.getD_none]
  repeat' (first|((first|((with_reducible refine CallJ.is ?_);(first|refine CallJ.pure (c7) ?_|((apply CallJ.frozI [5,16] []);(focus (simp -dsimp (disch:=first|exact D|fail) only [go_sem,↓reduceIte,seval,eGr,eEdgs,lR2,lq,q2,List.map_cons,List.map_nil,Option.getD_none,RT,St.rest,St.freeze];rfl));(focus (first|exact (c6)|exact (c7))))))|(with_reducible first|refine VCt.some fun K hK=>?_|refine VCt.step fun K hK=>?_))<;>simp -dsimp (disch:=first|exact D|fail) only [go_sem,↓reduceIte,seval,eGr,eEdgs,lR2,lq,q2,List.map_cons,List.map_nil,Option.getD_none,RT,St.rest,St.freeze])|((with_reducible refine hK _ ?_);clear hK K)|(with_reducible refine VCt.intro fun K0 hK0=>?_)|((with_reducible refine VCt.fin ?_);(refine hK0 _ ?_);clear hK0 K0)|(with_reducible first|refine VCy.quiet ?_|refine VCt.none ?_)|((with_reducible refine VCy.keep ?_ ?_);focus ((simp -dsimp (disch:=first|exact D|fail) only [go_sem,↓reduceIte,seval,Stable_cons,Stable_nil,sameA_some,sameA_none,eGr,eEdgs,lR2,lq,q2,List.map_cons,List.map_nil,Option.getD_none,RT,St.rest,St.freeze]);first|done|exact E|fail))|((with_reducible refine VCt.fork (fun K hK=>?_) ?_);(focus (simp -dsimp (disch:=first|exact D|fail) only [go_sem,↓reduceIte,seval,eGr,eEdgs,lR2,lq,q2,List.map_cons,List.map_nil,Option.getD_none,RT,St.rest,St.freeze])))|fail)
  all_goals refine Gq.done ⟨rfl,?_⟩
  all_goals refine St.le_mk ?_ ?_ ?_<;>simp only [LE,EN,Nat.reduceEqDiff,reduceIte,Nat.reduceSub,L.noPtr,L.noPtr0,L.noRow,L.noRow0,eGr,eEdgs]
 repeat' (first|((with_reducible refine qV tyOk fun K hK=>?_)<;>simp -dsimp (disch:=first|exact D|fail) only [go_sem,↓reduceIte,seval,eGr,eEdgs,lR2,lq,q2,Option.getD_none])|((with_reducible refine hK _ ?_);clear hK K)|refine Q1 ?_|fail)
 simp -dsimp (disch:=first|exact D|fail) only [retQ,Tryz.results7,resVals,cellRV,resOf,St.rest,St.freeze,RT,go_sem,↓reduceIte,seval]
section
variable {w:World}
theorem bytes_bool:Tryz.prog.bytesOf 4=1:=by kernel_rfl
theorem rd_bools:Rd Tryz.prog w 56 (fun l=>[eBools l]) fun l=>l.length * 1≤reachBytes∧∀c∈l,True :=
 rd_slice Tryz.underlying56 cells_bool bytes_bool (fun _=>rfl) (eβ:=eBool) (rd_bool Tryz.underlying4)
theorem fit_bools {l:List Bool} (h:l.length * 1≤reachBytes∧∀c∈l,True):l.length≤140737488355328:=by
 have h1:=h.1
 rw [reachBytes_eq] at h1
 omega
end
end Go.Bw
