/-
  WHAT IS PROVED HERE, of this translation: VOpsX_sound, AWP.regionX, modR_lt, int_eval, moves_make, semMake, LeB.refl, getD_set_b, LeB.set, le_set, LeB.trans, le_step, .., reqL_len, frz_eBool, required_ne, getD_eBool, required_sat, cloneBools_own, required_ok, impactRequiredMonotone_sat, bytes_bool, rd_bools, fit_bools.
  A theorem that ends in sat says what the function it names returns, whatever the state it is called in; the bounds on its arguments stand ahead of it.
-/
import Derived.Lib.AppendZerosOnto
import Derived.Laws.MakeOwn
import Derived.Test.YtjjnchbfjbjemaaGreatVv
set_option linter.unusedSimpArgs false
set_option linter.unusedVariables false
namespace Go.Bw
open Go.RowKit
section
variable {P:Program} {T:TypeId→Option TI} {w0:World} {m0:Mem} {F0:Home} {s s':St} {a:Act} {w:World} {m:Mem} {ω:Wh}
theorem VOpsX_sound (hT:TabOk P T) {ops:Array Oper} {K:St→Prop} {Q:Exit→Act→World→Prop} (hQ:∀s a w,K s→Conc P w0 m0 F0 s a w→Q .normal a w) :
  ∀(l:List Oper) (k:Nat) (s:St) (a:Act) (w:World),ops.toList.drop k=l→VOpsX P T ops l s K→Conc P w0 m0 F0 s a w→wpOps P ops Q (List.range' k l.length) a w
 | [],k,s,a,w,_,hV,hC=>hQ s a w hV hC
 | o::l,k,s,a,w,hl,hV,hC=>by
  have hk:ops[k]?=some o:=by
   have:(ops.toList.drop k)[0]?=some o:=by rw [hl];rfl
   simpa [List.getElem?_drop] using this
  have hl':ops.toList.drop (k+1)=l:=by
   have:(ops.toList.drop k).drop 1=l:=by rw [hl];rfl
   simpa [List.drop_drop] using this
  obtain ⟨m,ω,h⟩:=hC
  simp only [List.length_cons,List.range'_succ,wpOps,hk]
  rcases hV with ⟨hg,hV⟩|hV
  ·have hw:Region.wanted o (yielded ops a.tmps)=true:=by simp [Region.wanted,hg]
   rw [if_pos hw]
   exact .inl (hV _ _ _ a w m ω h _ _ fun s' a' w' hK hc=>VOpsX_sound hT hQ l (k+1) s' a' w' hl' hK hc)
  ·simp only [VOps] at hV
   split at hV
   ·rename_i hg
    rw [if_pos (guardOf_sound h hg)]
    exact .inl (VOp_sound hT hV h _ _ fun s' a' w' hK hc=>VOpsX_sound hT hQ l (k+1) s' a' w' hl' hK hc)
   ·rename_i hg
    rw [if_neg (by rw [guardOf_sound h hg];simp)]
    obtain ⟨h1,h2⟩:=pk_elim hV
    exact VOpsX_sound hT hQ l (k+1) _ _ w hl' h2 ⟨m,ω,h.putO h1 arep_undef⟩
   ·cases hV
theorem AWP.regionX (hT:TabOk P T) {id:Nat} {Q:Exit→St→Prop} {l:List Oper} (h:∀K:St→Prop,(∀s',Q .normal s'→K s')→VOpsX P T l.toArray l s K):AWP P w0 m0 F0 (.region id l.toArray false) Q s:=by
 intro a w hc
 refine wp_region ?_
 have:=VOpsX_sound hT (ops:=l.toArray) (K:=Q .normal) (Q:=PostQ P w0 m0 F0 Q) (fun s a w h1 h2=>⟨s,h1,h2⟩) l 0 s a w (by simp) (h _ fun _ h=>h) hc
 have hlen:l.length=l.toArray.size:=by simp
 rwa [←List.range_eq_range',hlen] at this
end
end Go.Bw
namespace Go.Bw
open Go.Proofs
attribute [local go_sem ↓] VOps_nil VOps_cons VOp_callJ VVal_callH VOps_guard GOn_tt GOn_ff GOn_tf GOn_ft GOn_not GOn_none HOn_none HOn_tt HOn_ff HOn_tf HOn_ft HOn_not VHead_nil VHead_cons VHead_guard VVal_move VVal_assign VVal_pickE pickK_true pickK_false VVal_not VVal_neg negK_int VVal_load loadK_fz loadK_ptr loadK_eptr VVal_fieldAddr VVal_field VVal_indexAddr idxK_sl idxK_ref VVal_index indexK_str VVal_extract VVal_binOp binK_one binK_agg VVal_build VVal_buildSlice VVal_makeFunc VVal_slice sliceK_str sliceK_sl sliceK_nil sliceK_ref VVal_slice3 VVal_nilCheck VVal_convert convKk_int convKk_str VVal_len VVal_max VVal_min VOp_assign assignK_int assignK_bool assignK_str assignK_clo assignK_sl assignK_nil assignK_ref assignK_agg assignK_fz assignK_ptr assignK_eptr assignK_any VOp_box VOp_alloc VOp_store storeK_ptr storeK_eptr VOp_buildSlice VOp_append appK_rr appK_rs appK_rn appK_ri appK_nr appK_ns appK_nn appK_ni appStd_eq VOp_copy copyK_ref VOp_clear clearK_ref VOp_cap VOp_eqNil VOp_move VOp_pick VOp_not VOp_neg VOp_load VOp_fieldAddr VOp_field VOp_indexAddr VOp_index VOp_extract VOp_binTmp VOp_binInt VOp_binStr VOp_binPtr VOp_build VOp_makeFunc VOp_slice VOp_nilCheck VOp_convert VOp_len VOp_max VOp_min mO_some mT_some pk_some pk_none look_cons del_cons
attribute [local go_sem] guardB gOf int_bne beq_true beq_false Bool.not_not gSlot pickK_true pickK_false negK_int loadK_fz loadK_ptr loadK_eptr idxK_sl idxK_ref indexK_str binK_one binK_agg sliceK_str sliceK_sl sliceK_nil sliceK_ref convKk_int convKk_str maxL minL assignK_int assignK_bool assignK_str assignK_clo assignK_sl assignK_nil assignK_ref assignK_agg assignK_fz assignK_ptr assignK_eptr assignK_any nilRow_eq takeRow_eq appended_eq storeK_ptr storeK_eptr store_mk appIn_eq appMk_eq marked_eq ovOut_nil ovOut_cons ovIn_nil ovIn_cons padRow_eq ysC capK_nil capK_ref ioSt_mk outB_nil outR_nil outB outR inB_nil inB_cons inR_nil inR_cons L.kl L.kl0 L.ids L.ids0 Option.getD_some evalO constA mO_some mT_some put_mk putO_some putO_none okD_some okD_none pk_some pk_none look_nil del_nil sput noBox_mk noRow_mk newBox_eq newRow0_eq St.killRow RowC.kill rowMap_mk rowOf ovAll ovAdd ovDel ovGet ovShift dstOf ysOf overlay_nil overlay_nil' overlay A.map V.map L.noPtr L.noPtr0 L.noRow L.noRow0 L.peek L.norm L.flat clos_int clos_bool clos_str clos_sl clos_nil clos_any clos_fz L.clos L.isFz L.kd moveL fieldOff eqCells eqCell eqOp oneOf boolOf intOfA tupOf vOf aggOf isPtrLike isSlice lenKind lenL nL elemTI loadV asV binL intBin intDivL shrL boolBin strBin strAdd ptrNil boundN partCells fillL placesOf setL chunks repL capsOf capL callOf argsOf frzV_int frzV_bool frzV_str frzV_sl frzV_nil frzV_fz frzV_any frzV_own frzV_clo frzV_ref frzV_eptr frzV_ptr frzRow_nil frzRow_ov frzRs_nil frzRs_cons frzCs_nil frzCs_cons frzO_some frzO_none frzN_int frzN_bool frzN_str frzN_sl frzN_nil frzN_any frzN_own List.map_cons List.map_nil List.cons_append List.nil_append List.append_nil List.length_cons List.length_nil List.length_map List.length_append List.headD_cons List.tail_cons List.getElem?_cons_zero List.getElem?_cons_succ List.drop_zero List.drop_succ_cons List.drop_nil List.take_succ_cons List.take_zero List.take_nil List.take_length List.filter_cons List.filter_nil List.elem_cons List.elem_nil List.all_cons List.all_nil Option.bind_some Option.map_some Option.some.injEq bne_self_eq_false beq_self_eq_true if_true if_false Bool.false_eq_true true_and and_true and_self Nat.zero_add Nat.add_zero Nat.zero_le Int.toNat_natCast Int.toNat_zero Option.isSome_some List.getElem?_toArray decide_true decide_false ge_iff_le gt_iff_lt Bool.not_true Bool.not_false Nat.le_refl Bool.and_true Bool.true_and Bool.and_false Bool.false_and eVal eRow eRow1 eRows eInt1 eInts eCol eCols eTbl eTbls eFK eFKs eCon eCons eSch eRel eInst eChg eChgs szOf getD_map_lt wrap_nat wrap_in List.take_of_length_le frz_eVal frz_eRow1 frz_eInt1 frz_eCol frz_eTbl frz_eFK frz_eCon frz_eRel frz_eChg noOwn_nil noOwn_cons noOwn_append L.isOwn noOwn_eVal noOwn_eRow1 noOwn_eInt1 noOwn_eCol noOwn_eTbl noOwn_eFK noOwn_eCon noOwn_eRel noOwn_eChg convK_2 convK_3 convK_5 convK_12 convK_21 convK_32 convK_95 convK_119 convK_122 convK_152 convK_169 TT_2 TT_3 TT_4 TT_5 TT_9 TT_12 TT_13 TT_21 TT_22 TT_23 TT_24 TT_25 TT_26 TT_27 TT_28 TT_29 TT_31 TT_32 TT_36 TT_37 TT_42 TT_43 TT_44 TT_48 TT_49 TT_56 TT_61 TT_72 TT_73 TT_74 TT_85 TT_86 TT_89 TT_90 TT_91 TT_92 TT_95 TT_98 TT_113 TT_114 TT_116 TT_117 TT_119 TT_122 TT_145 TT_152 TT_169 boolTy_4 eqK_37 eqK_90 eqK_92 eqK_114
attribute [local congr] VOps.congr VHead.congr VOp.congr VVal.congr pk.congr assignK.congr appK.congr appStd.congr copyK.congr clearK.congr storeK.congr loadK.congr idxK.congr sliceK.congr indexK.congr binK.congr convKk.congr
theorem modR_lt (n:Int) {m:Int} (hm:0<m):0≤modR n m∧modR n m<m:=by
 unfold modR
 have h1:=Int.tmod_lt_of_pos n hm
 have h2:-m<n.tmod m:=by
  have:=Int.tmod_lt_of_pos (-n) hm
  rw [Int.neg_tmod] at this
  omega
 split<;>omega
section
open Go.RowKit
section
variable {P:Program} {T:TypeId→Option TI} {w0:World} {m0:Mem} {F0:Home} {s s':St} {a:Act} {w:World} {m:Mem} {ω:Wh}
theorem int_eval {x:Operand} {ty:TypeId} {k:IntKind} {n:Int} (h:CI P w0 m0 F0 s a w m ω) (hx:evalO T s ty x=some (.v (.one (.int k n)))):a.eval x=.int k n:=by
 have hv:Rep m (a.eval x) (.int k n):=evalO_sound h hx
 generalize a.eval x=u at hv ⊢
 cases hv
 rfl
theorem moves_make {t e:TypeId} {i j:TI} {x y:Operand} {ty tx:TypeId} {pos:String} {af:Array Edge} {d n:Nat} {k1 k2:IntKind} {z:List L}
  (hn:d<s.n) (hT:tiOk P t i=true) (he:i.elem=some e) (hE:tiOk P e j=true) (hz:j.zero=some z) (hzl:z.length=j.size) (h:CI P w0 m0 F0 s a w m ω)
  (hx:evalO T s tx x=some (.v (.one (.int k1 (n:Int))))) (hy:evalO T s tx y=some (.v (.one (.int k2 (n:Int))))) (hbs:j.bytes * n≤281474976710656) (hm:n≤9223372036854775807) :
  Moves P w0 m0 F0 ⟨some d,.makeSlice t x y,ty,pos,af,Option.none⟩ a w (s.appended Option.none d j.size (List.replicate n (z.map L.clos)) []):=by
 have hu:=(tiFacts hT).elem e he
 obtain ⟨inf,zv,g1,g2,g3,_⟩:=(tiFacts hE).zero z hz
 obtain ⟨inf',g4,g5,g6⟩:=(tiFacts hE).info
 rw [g1] at g4
 injection g4 with g4
 subst g4
 have hzs:zv.cells.size=j.size:=by
  have:=(matchAll_rep (m:=m) zv.cells.toList z g3).1
  simpa [hzl] using this
 have hb':(inf.bytes:Int) * (n:Int)≤281474976710656:=by
  rw [g6]
  have:((j.bytes * n:Nat):Int)≤281474976710656:=by omega
  rwa [Int.natCast_mul] at this
 have hr:=run_make (P:=P) w t e inf zv hu g1 g2 k1 k2 n n (by omega) (Int.le_refl _) hb' (by omega)
 simp only [Int.toNat_natCast] at hr
 have hmc:madeCells zv.cells (n * inf.size)=Builtin.zeroCells zv.cells n:=by
  unfold madeCells Builtin.zeroCells
  rw [g5,hzs]
 rw [hmc] at hr
 obtain ⟨z1,z2,z3⟩:=zeroRd (m:=m) g3 n
 rw [hzl] at z1 z3
 have hbl:Below w.heap.size w (w.alloc (.cells (Builtin.zeroCells zv.cells n) e)):=(Below.refl _ w).alloc (Nat.le_refl _) _
 have hh:(w.alloc (.cells (Builtin.zeroCells zv.cells n) e)).heap[w.heap.size]?=_:=heap_alloc_new w _
 have hsize:=(Array.getElem?_eq_some_iff.1 hh).1
 have hzsz:(Builtin.zeroCells zv.cells n).size=n * j.size:=by rw [←Array.length_toList];exact z1
 obtain ⟨ω',hC,hri,_⟩:=h.rowNew (r:=⟨j.size,List.replicate n (z.map L.clos),[]⟩) Option.none d hn ⟨some w.heap.size,n,j.size⟩ (fun q=>q=w.heap.size) (.inl hbl) (fun q hq=>.inr ⟨by omega,by rw [hq];exact hsize⟩) (by
  refine ⟨rfl,fun x hx=>?_,?_⟩
  ·rw [List.eq_of_mem_replicate hx];simpa using hzl
  ·refine ⟨_,e,hh,hzsz,by simp,⟨by show n≤maxLen;exact hm,fun l hl=>(by cases hl),fun q v hq=>z2 v (by simpa using Array.mem_of_getElem? hq)⟩,rfl,fun _ _ _=>False,(fun i j k hk=>hk.elim),(fun i j i' j' k hk hk'=>hk.elim),fun i' j' u hu=>?_⟩
   show ∃v,_∧CRep m _ _ v u
   obtain ⟨v,h1,h2⟩:=z3 _ j' u hu
   exact ⟨v,by rw [←h1,Array.getElem?_toList],.fr h2⟩)
 have hrun:(execOp a.eval ⟨some d,.makeSlice t x y,ty,pos,af,Option.none⟩).run P w=((Instr.makeSlice t (.int k1 n) (.int k2 n)).run P w).andThen fun v w'=>.ok (.value v) w':=by
  rw [←int_eval h hx,←int_eval h hy]
  unfold execOp
  simp only [Sem.run_bind]
  rfl
 refine gives_of_run (w':=_) (by rw [hrun,hr];rfl) ?_
 refine ⟨m,ω',hC.put (by rw [newRow0_n];exact hn) ?_⟩
 show RefAt (ω'.row d) 0 _ _
 rw [hri,List.length_replicate]
 exact .inr ⟨w.heap.size,⟨w.heap.size,0,none⟩,rfl,by simp,by simp,fun _=>by simp⟩
theorem semMake (hT:TabOk P T) {t ty:TypeId} {x y:Operand} {d n:Nat} {pos:String} {af:Array Edge} {K:St→Prop} {j:TI} {z:List L} {k1 k2:IntKind} (hj:elemTI T t=some j) (hz:j.zero=some z) (hzl:z.length=j.size)
  (hx:evalO T s 3 x=some (.v (.one (.int k1 (n:Int))))) (hy:evalO T s 3 y=some (.v (.one (.int k2 (n:Int))))) (hbs:j.bytes * n≤281474976710656) (hm:n≤9223372036854775807) (hd:d<s.n) (hK:K (s.appended Option.none d j.size (List.replicate n (z.map L.clos)) [])) :
  SemOp P ⟨some d,.makeSlice t x y,ty,pos,af,Option.none⟩ s K:=by
 intro w0 m0 F0 a w m ω hC
 obtain ⟨i,e,hi,he,hje,hio,hjo⟩:=elemTI_some hT hj
 exact (moves_make hd hio he hjo hz hzl hC hx hy hbs hm).follows hK
end
end
def reqStep (P:Nat→Nat) (used:List Bool) (out:List Bool) (v:Nat):List Bool :=
 if used.getD v false||out.getD v false then (if 0<v then (out.set v true).set (P v) true else out.set v true) else out
def reqGo (P:Nat→Nat) (used:List Bool):Nat→List Bool→List Bool
 | 0,out=>out
 | v+1,out=>reqGo P used v (reqStep P used out v)
def reqL (P:Nat→Nat) (used:List Bool) (n:Nat):List Bool:=(reqGo P used n (List.replicate n false)).set 0 true
def LeB (a b:List Bool):Prop:=a.length=b.length∧∀i,a.getD i false=true→b.getD i false=true
theorem LeB.refl (a:List Bool):LeB a a:=⟨rfl,fun _ h=>h⟩
theorem getD_set_b (l:List Bool) (i j:Nat) (x:Bool):(l.set i x).getD j false=if i=j∧i<l.length then x else l.getD j false:=by
 rw [List.getD_eq_getElem?_getD,List.getD_eq_getElem?_getD,List.getElem?_set]
 by_cases h:i=j
 ·subst h
  by_cases hi:i<l.length
  ·simp [hi]
  ·simp [hi]
 ·simp [h]
theorem LeB.set {a b:List Bool} (h:LeB a b) (i:Nat):LeB (a.set i true) (b.set i true):=by
 refine ⟨by simp [h.1],fun j hj=>?_⟩
 rw [getD_set_b] at hj ⊢
 rw [←h.1]
 split at hj
 ·rename_i q;rw [if_pos q]
 ·rename_i q;rw [if_neg q];exact h.2 j hj
theorem le_set (a:List Bool) (i:Nat):LeB a (a.set i true):=by
 refine ⟨by simp,fun j hj=>?_⟩
 rw [getD_set_b]
 split
 ·rfl
 ·exact hj
theorem LeB.trans {a b c:List Bool} (h:LeB a b) (k:LeB b c):LeB a c:=⟨h.1.trans k.1,fun i hi=>k.2 i (h.2 i hi)⟩
theorem le_step (P:Nat→Nat) (used out:List Bool) (v:Nat):LeB out (reqStep P used out v):=by
 unfold reqStep
 split
 ·split
  ·exact (le_set _ _).trans (le_set _ _)
  ·exact le_set _ _
 ·exact LeB.refl _
theorem reqStep_mono {P:Nat→Nat} {u u' a b:List Bool} (hu:LeB u u') (h:LeB a b) (v:Nat):LeB (reqStep P u a v) (reqStep P u' b v):=by
 cases hc:(u.getD v false||a.getD v false) with
 | true =>
  have hc':(u'.getD v false||b.getD v false)=true:=by
   rw [Bool.or_eq_true] at hc ⊢
   exact hc.imp (hu.2 v) (h.2 v)
  unfold reqStep
  rw [hc,hc',if_pos rfl,if_pos rfl]
  split
  ·exact (h.set v).set _
  ·exact h.set v
 | false =>
  have e:reqStep P u a v=a:=by unfold reqStep;rw [hc,if_neg (by simp)]
  rw [e]
  exact h.trans (le_step P u' b v)
theorem reqGo_mono {P:Nat→Nat} {u u':List Bool} (hu:LeB u u'):∀(n:Nat) {a b:List Bool},LeB a b→LeB (reqGo P u n a) (reqGo P u' n b)
 | 0,_,_,h=>h
 | v+1,_,_,h=>reqGo_mono hu v (reqStep_mono hu h v)
theorem reqL_mono {P:Nat→Nat} {u u':List Bool} (hu:LeB u u') (n:Nat):LeB (reqL P u n) (reqL P u' n):=(reqGo_mono hu n (LeB.refl _)).set 0
theorem reqStep_len (P:Nat→Nat) (used out:List Bool) (v:Nat):(reqStep P used out v).length=out.length:=(le_step P used out v).1.symm
theorem reqGo_len (P:Nat→Nat) (used:List Bool):∀(n:Nat) (out:List Bool),(reqGo P used n out).length=out.length
 | 0,_=>rfl
 | v+1,out=>by rw [reqGo,reqGo_len P used v,reqStep_len]
theorem reqL_len (P:Nat→Nat) (used:List Bool) (n:Nat):(reqL P used n).length=n:=by unfold reqL;rw [List.length_set,reqGo_len,List.length_replicate]
def eBool (b:Bool):List L:=[.bool b]
def eBools (l:List Bool):L:=.sl 1 (l.map eBool)
theorem frz_eBool (l:List Bool):(l.map eBool).map (fun x=>x.map (L.frzN 4))=l.map eBool:=frz_map (fun _=>rfl) l
abbrev ResB:=Except Int (List Bool)
def required (g:Gr) (used:List Bool):ResB:=match verSchemas g with
 | .error e=>.error e
 | .ok O=>if used.length≠O.length then .error 3 else .ok (reqL (parN g) used O.length)
def bOut:ResB→List Bool
 | .error _=>[]
 | .ok l=>l
theorem required_ne {g:Gr} {u:List Bool} {e:Int} (h:required g u=.error e):e≠0:=by
 unfold required at h
 split at h
 ·rename_i q;injection h with h;rw [←h];exact verSchemas_ne q
 ·split at h
  ·injection h with h;omega
  ·cases h
theorem getD_eBool (l:List Bool) (k:Nat) (h:k<l.length):(l.map eBool).getD k []=[.bool (l.getD k false)]:=by rw [getD_map_lt _ _ _ h,getD_lt _ h];rfl
set_option maxRecDepth 100000 in
set_option maxHeartbeats 32000000 in
theorem required_sat (g:Gr) (used:List Bool) (hg:g.Fits) (hu:used.length≤140737488355328):Sat Tryz.prog 20 [.agg (eGr g),.one (eBools used)] (.tup [.one (eBools (bOut (required g used))),oI (rE (required g used))]):=by
 have c1:=verSchemas_sat g hg
 unfold eSchs at c1
 unfold eBools
 cases hR:verSchemas g with
 | error e =>
  have spec:required g used=.error e:=by unfold required;rw [hR]
  have he:=verSchemas_ne hR
  rw [hR] at c1
  rw [spec]
  unfold lOut rE at c1
  unfold bOut rE
  simp only at c1 ⊢
  refine sS tyOk Tryz.func20 fun w0 m0 F0=>?_
  simp only [Tryz.ntmps20,envOf,Nat.reduceAdd]
  repeat' (first|((first|with_reducible refine qV tyOk fun K hK=>?_|((with_reducible refine CallJ.is ?_);(refine CallJ.pure (c1) ?_)))<;>simp -dsimp (disch:=first|exact D|fail) only [go_sem,↓reduceIte,seval,eGr,eEdgs,he])|((with_reducible refine hK _ ?_);clear hK K)|refine Q1 ?_|((with_reducible refine qW (T:=TT) (b:=?_) ?_ ?_);rotate_left;exact rfl)|fail)
  simp -dsimp (disch:=first|exact D|fail) only [retQ,Tryz.results20,resVals,cellRV,resOf,St.rest,St.freeze,RT,go_sem,↓reduceIte,seval]
 | ok O =>
  obtain ⟨l8,_,_,lO⟩:=verSchemas_ok hR
  have ok:=grOk_of hR
  rw [hR] at c1
  unfold lOut rE at c1
  simp only at c1
  by_cases hl:used.length=O.length
  case neg =>
   have spec:required g used=.error 3:=by unfold required;rw [hR];simp only;rw [if_pos hl]
   have hl':¬ (used.length:Int)=(O.length:Int):=by omega
   rw [spec]
   unfold bOut rE
   simp only
   refine sS tyOk Tryz.func20 fun w0 m0 F0=>?_
   simp only [Tryz.ntmps20,envOf,Nat.reduceAdd]
   repeat' (first|((first|with_reducible refine qV tyOk fun K hK=>?_|((with_reducible refine CallJ.is ?_);(refine CallJ.pure (c1) ?_)))<;>simp -dsimp (disch:=first|exact D|fail) only [go_sem,↓reduceIte,seval,eGr,eEdgs,hl'])|((with_reducible refine hK _ ?_);clear hK K)|refine Q1 ?_|((with_reducible refine qW (T:=TT) (b:=?_) ?_ ?_);rotate_left;exact rfl)|fail)
   simp -dsimp (disch:=first|exact D|fail) only [retQ,Tryz.results20,resVals,cellRV,resOf,St.rest,St.freeze,RT,go_sem,↓reduceIte,seval]
  have spec:required g used=.ok (reqL (parN g) used O.length):=by unfold required;rw [hR];simp only;rw [if_neg (by rw [hl];simp)]
  rw [spec]
  unfold bOut rE
  simp only
  obtain ⟨n,hn⟩:∃n,O.length=n:=⟨_,rfl⟩
  rw [hn] at hl lO ⊢
  have lm:(O.map eSch).length=n:=by rw [List.length_map,hn]
  have e0:(List.replicate n ([.bool false]:List L))=(List.replicate n false).map eBool:=by rw [List.map_replicate];rfl
  refine sS tyOk Tryz.func20 fun w0 m0 F0=>?_
  simp only [Tryz.ntmps20,envOf,Nat.reduceAdd]
  repeat' (first|((first|((fail_if_success (refine AWP.isRegion 6 ?_));(with_reducible refine qV tyOk fun K hK=>?_))|((with_reducible refine CallJ.is ?_);(refine CallJ.pure (c1) ?_)))<;>simp -dsimp (disch:=first|exact D|fail) only [go_sem,↓reduceIte,seval,eGr,eEdgs,hl,hn])|((with_reducible refine hK _ ?_);clear hK K)|refine Q1 ?_|((with_reducible refine qW (T:=TT) (b:=?_) ?_ ?_);rotate_left;exact rfl)|fail)
  refine AWP.regionX tyOk fun K hK=>?_
  refine VOpsX.step fun K2 h9=>?_
  simp -dsimp (disch:=first|exact D|fail) only [go_sem,↓reduceIte,seval,hn]
  refine h9 _ ?_
  refine VOpsX.step fun K4 h7=>?_
  simp -dsimp (disch:=first|exact D|fail) only [go_sem,↓reduceIte,seval,hn]
  refine h7 _ ?_
  refine VOpsX.sem (semMake tyOk (n:=n) (k1:=.i64) (k2:=.i64) rfl rfl rfl rfl rfl (by show 1 * n≤_;omega) (by omega) (Nat.le_of_ble_eq_true rfl) ?_)
  refine VOpsX.step fun K3 h8=>?_
  simp -dsimp (disch:=first|exact D|fail) only [go_sem,↓reduceIte,seval]
  refine h8 _ ?_
  refine VOpsX.fin (hK _ ?_)
  clear h8 h7 h9 hK K4 K3 K2 K
  rw [e0]
  obtain ⟨F,hF⟩:∃F,reqGo (parN g) used n (List.replicate n false)=F:=⟨_,rfl⟩
  have e9:reqL (parN g) used n=F.set 0 true:=by unfold reqL;rw [hF]
  rw [e9]
  have n0:0<n:=by omega
  have z1:(0:Int) - 1=-1:=by decide
  repeat' (first|((with_reducible refine qV tyOk fun K hK=>?_)<;>simp -dsimp (disch:=first|exact D|fail) only [go_sem,↓reduceIte,seval,hn])|((with_reducible refine hK _ ?_);clear hK K)|refine Q1 ?_|fail)
  refine AWP.midB ⟨62,[(5,.v (oI 0)),(8,.v (.one (.ref 8 0 n)))],[],[(8,⟨1,F.map eBool,[]⟩)]⟩ ?_ ?_
  ·refine AWP.loop (ι:={p:Nat×List Bool // p.1≤n∧p.2.length=n∧reqGo (parN g) used p.1 p.2=F}) (fun p=>⟨62,[(1,.v (.one (.sl 1 (used.map eBool)))),(2,.v (.one (.ptr 2 0))),(5,.v (oI 0)),(8,.v (.one (.ref 8 0 n))),(9,.v (oI ((p.1.1:Int) - 1)))],[(2,eGr g)],[(8,⟨1,p.1.2.map eBool,[]⟩)]⟩) (fun p=>p.1.1) ⟨(n,List.replicate n false),Nat.le_refl _,by simp,hF⟩ ?_ fun ⟨⟨c,out⟩,hc,ho,hgo⟩=>?_
   ·refine St.le_mk ?_ ?_ ?_<;>simp only [LE,EN,Nat.reduceEqDiff,reduceIte,Nat.reduceSub,eGr,eEdgs,List.length_replicate]
   simp only at hc ho hgo ⊢
   rcases Nat.eq_zero_or_pos c with c0|c0
   ·subst c0
    rw [reqGo] at hgo
    subst hgo
    repeat' (first|((with_reducible refine qV tyOk fun K hK=>?_)<;>simp -dsimp (disch:=first|exact D|fail) only [go_sem,↓reduceIte,seval,Int.natCast_zero])|((with_reducible refine hK _ ?_);clear hK K)|refine Q1 ?_|((with_reducible refine qW (T:=TT) (b:=?_) ?_ ?_);rotate_left;exact rfl)|fail)
    refine Gq.done ⟨rfl,?_⟩
    refine St.le_mk ?_ ?_ ?_<;>simp only [LE,EN,Nat.reduceEqDiff,reduceIte,Nat.reduceSub,eGr,eEdgs]
   ·obtain ⟨v,rfl⟩:∃v,c=v+1:=⟨c - 1,by omega⟩
    rw [reqGo] at hgo
    have w0:((v+1:Nat):Int) - 1=(v:Int):=by omega
    rw [w0]
    have gu:=getD_eBool used v (by omega)
    have go:=getD_eBool out v (by omega)
    have lo:(out.map eBool).length=n:=by rw [List.length_map,ho]
    have s1:(out.map eBool).set v [.bool true]=(out.set v true).map eBool:=by rw [List.map_set];rfl
    cases hu:used.getD v false<;>cases hv:out.getD v false
    ·have sx:reqStep (parN g) used out v=out:=by unfold reqStep;rw [hu,hv];rfl
     rw [sx] at hgo
     rw [hu] at gu
     rw [hv] at go
     repeat' (first|((with_reducible refine qV tyOk fun K hK=>?_)<;>simp -dsimp (disch:=first|exact D|fail) only [go_sem,↓reduceIte,seval,gu,go,lo,Option.getD_none])|((with_reducible refine hK _ ?_);clear hK K)|refine Q1 ?_|((with_reducible refine qW (T:=TT) (b:=?_) ?_ ?_);rotate_left;exact rfl)|fail)
     refine ⟨⟨(v,out),by simp only;omega,ho,hgo⟩,by simp only;omega,?_⟩
     refine St.le_mk ?_ ?_ ?_<;>simp only [LE,EN,Nat.reduceEqDiff,reduceIte,Nat.reduceSub,eGr,eEdgs]
    all_goals
     rw [hu] at gu
     rw [hv] at go
     have sx:reqStep (parN g) used out v=if 0<v then (out.set v true).set (parN g v) true else out.set v true:=by unfold reqStep;rw [hu,hv];rfl
     rcases Nat.eq_zero_or_pos v with v0|v0
     ·subst v0
      rw [if_neg (by omega)] at sx
      rw [sx] at hgo
      repeat' (first|((with_reducible refine qV tyOk fun K hK=>?_)<;>simp -dsimp (disch:=first|exact D|fail) only [go_sem,↓reduceIte,seval,gu,go,lo,Option.getD_none,Int.natCast_zero])|((with_reducible refine hK _ ?_);clear hK K)|refine Q1 ?_|((with_reducible refine qW (T:=TT) (b:=?_) ?_ ?_);rotate_left;exact rfl)|fail)
      refine ⟨⟨(0,out.set 0 true),by simp only;omega,by simpa using ho,hgo⟩,by simp only;omega,?_⟩
      refine St.le_mk ?_ ?_ ?_<;>simp only [LE,EN,Nat.reduceEqDiff,reduceIte,Nat.reduceSub,eGr,eEdgs,s1,Int.natCast_zero,z1]
     ·rw [if_pos v0] at sx
      rw [sx] at hgo
      have pb:=ok.par v v0 (by omega)
      have ge:=getD_edge ok v0 (by omega)
      have w1:((v:Int) - 1).toNat=v - 1:=by omega
      have s2:((out.set v true).map eBool).set (parN g v) [.bool true]=((out.set v true).set (parN g v) true).map eBool:=by rw [List.map_set (f:=eBool) (l:=out.set v true)];rfl
      have g2:=getD_eBool (out.set v true) (parN g v) (by rw [List.length_set];omega)
      have l2:((out.set v true).map eBool).length=n:=by rw [List.length_map,List.length_set,ho]
      repeat' (first|((with_reducible refine qV tyOk fun K hK=>?_)<;>simp -dsimp (disch:=first|exact D|fail) only [go_sem,↓reduceIte,seval,gu,go,lo,ge,w1,s1,g2,l2,eGr,eEdgs,Option.getD_none])|((with_reducible refine hK _ ?_);clear hK K)|refine Q1 ?_|((with_reducible refine qW (T:=TT) (b:=?_) ?_ ?_);rotate_left;exact rfl)|fail)
      refine ⟨⟨(v,(out.set v true).set (parN g v) true),by simp only;omega,by simpa using ho,hgo⟩,by simp only;omega,?_⟩
      refine St.le_mk ?_ ?_ ?_<;>simp only [LE,EN,Nat.reduceEqDiff,reduceIte,Nat.reduceSub,eGr,eEdgs,s2]
  have lF:F.length=n:=by rw [←hF,reqGo_len,List.length_replicate]
  have lF2:(F.map eBool).length=n:=by rw [List.length_map,lF]
  have s3:(F.map eBool).set 0 [.bool true]=(F.set 0 true).map eBool:=by rw [List.map_set];rfl
  repeat' (first|((with_reducible refine qV tyOk fun K hK=>?_)<;>simp -dsimp (disch:=first|exact D|fail) only [go_sem,↓reduceIte,seval,lF2,s3,Option.getD_none])|((with_reducible refine hK _ ?_);clear hK K)|refine Q1 ?_|fail)
  simp -dsimp (disch:=first|exact D|fail) only [retQ,Tryz.results20,resVals,cellRV,resOf,St.rest,St.freeze,RT,go_sem,↓reduceIte,seval]
  have sF:(F.map eBool).set 0 (setL 0 [.bool true] (eBool (F[0]'(by omega))))=(F.set 0 true).map eBool:=s3
  rw [sF,if_pos (by simp [lF]),frz_eBool]
set_option maxHeartbeats 8000000 in
theorem cloneBools_own (r:List Bool) (h1:r.length≤1099511627776):SatM Tryz.prog 21 [.one (eBools r)] [] [] (.v (.one (.ref 2 0 r.length))) [] [(2,⟨1,r.map eBool,[]⟩)]:=by
 unfold eBools
 refine sM tyOk [] [2] Tryz.func21 fun w0 m0 F0=>?_
 simp only [Tryz.ntmps21,envOf,Nat.reduceAdd]
 repeat' (first|((with_reducible refine qV tyOk fun K hK=>?_)<;>simp -dsimp (disch:=first|exact D|fail) only [go_sem,↓reduceIte,seval])|((with_reducible refine hK _ ?_);clear hK K)|refine Q1 ?_|fail)
 intro b hb
 refine hK _ ?_
 clear hK K
 repeat' (first|((with_reducible refine qV tyOk fun K hK=>?_)<;>simp -dsimp (disch:=first|exact D|fail) only [go_sem,↓reduceIte,seval])|((with_reducible refine hK _ ?_);clear hK K)|refine Q1 ?_|((with_reducible refine qW (T:=TT) (b:=?_) ?_ ?_);rotate_left;exact rfl)|((with_reducible refine yS ?_ ?_)<;>(intro h;try simp only [NM] at h))|fail)
 all_goals simp -dsimp (disch:=first|exact D|fail) only [retQ,Tryz.results21,resVals,cellRV,resOf,St.rest,St.freeze,RT,go_sem,↓reduceIte,seval]
 have h2:r=[]:=by
  cases r with
  | nil=>rfl
  | cons x r=>exact absurd ((hb _ rfl (by simp)).symm.trans ‹b=true›) (by decide)
 subst h2
 exact ⟨rfl,rfl⟩
theorem required_ok {g:Gr} {u l:List Bool} (h:required g u=.ok l):∃n,u.length=n∧0<n∧n≤9∧l=reqL (parN g) u n∧∀w:List Bool,w.length=n→required g w=.ok (reqL (parN g) w n):=by
 unfold required at h
 split at h
 ·cases h
 ·rename_i O q
  obtain ⟨l8,_,_,lO⟩:=verSchemas_ok q
  split at h
  ·cases h
  ·rename_i q2
   injection h with h
   have q2:u.length=O.length:=Decidable.byContradiction q2
   refine ⟨O.length,q2,by omega,by omega,h.symm,fun w hw=>?_⟩
   unfold required
   rw [q]
   simp only
   rw [if_neg (by rw [hw];simp)]
set_option maxHeartbeats 16000000 in
theorem impactRequiredMonotone_sat (g:Gr) (used:List Bool) (k:Int) (hg:g.Fits) (hu:used.length≤140737488355328):Sat Tryz.prog 6 [.agg (eGr g),.one (eBools used),oI k] (.v (oB true)):=by
 have c0:=graphsWork_sat
 have c1:=required_sat g used hg hu
 unfold eBools at c1 ⊢
 cases hR:required g used with
 | error e =>
  have he:=required_ne hR
  rw [hR] at c1
  unfold bOut rE at c1
  simp only at c1
  refine sS tyOk Tryz.func6 fun w0 m0 F0=>?_
  simp only [Tryz.ntmps6,envOf,Nat.reduceAdd]
  repeat' (first|((first|with_reducible refine qV tyOk fun K hK=>?_|refine Q2 ?_|((with_reducible refine CallJ.is ?_);(first|refine CallJ.pure (c0) ?_|refine CallJ.pure (c1) ?_)))<;>simp -dsimp (disch:=first|exact D|fail) only [go_sem,↓reduceIte,seval,eGr,eEdgs,he])|((with_reducible refine hK _ ?_);clear hK K)|refine Q1 ?_|((with_reducible refine qW (T:=TT) (b:=?_) ?_ ?_);rotate_left;exact rfl)|fail)
  simp -dsimp (disch:=first|exact D|fail) only [retQ,Tryz.results6,resVals,cellRV,resOf,St.rest,St.freeze,RT,go_sem,↓reduceIte,seval]
 | ok l =>
  obtain ⟨n,hn,n0,n9,rfl,hW⟩:=required_ok hR
  rw [hR] at c1
  unfold bOut rE at c1
  simp only at c1
  have cl:=cloneBools_own used (by omega)
  unfold eBools at cl
  have pk:=pick_sat k n (by omega) (by omega)
  obtain ⟨p1,p2⟩:=modR_lt k (m:=(n:Int)) (by omega)
  obtain ⟨q,hq⟩:∃q:Nat,modR k n=(q:Int):=⟨(modR k n).toNat,by omega⟩
  rw [hq] at pk p1 p2
  have qn:q<n:=by omega
  have c2:=required_sat g (used.set q true) hg (by rw [List.length_set];omega)
  rw [hW _ (by rw [List.length_set];exact hn)] at c2
  unfold bOut rE eBools at c2
  simp only at c2
  obtain ⟨A,hA⟩:∃A,reqL (parN g) used n=A:=⟨_,rfl⟩
  obtain ⟨B,hB⟩:∃B,reqL (parN g) (used.set q true) n=B:=⟨_,rfl⟩
  have lA:A.length=n:=by rw [←hA,reqL_len]
  have lB:B.length=n:=by rw [←hB,reqL_len]
  have mono:∀i,A.getD i false=true→B.getD i false=true:=by
   rw [←hA,←hB]
   exact (reqL_mono (le_set used q) n).2
  rw [hA] at c1
  rw [hB] at c2
  have n0':¬ (n:Int)=0:=by omega
  have qu:q<used.length:=by omega
  have s1:(used.map eBool).set q (setL 0 [.bool true] (eBool used[q]))=(used.set q true).map eBool:=by rw [List.map_set];rfl
  have ls:((used.set q true).map eBool).length=n:=by rw [List.length_map,List.length_set,hn]
  have ls2:n≤n:=Nat.le_refl n
  refine sS tyOk Tryz.func6 fun w0 m0 F0=>?_
  simp only [Tryz.ntmps6,envOf,Nat.reduceAdd]
  repeat' (first|((first|((fail_if_success (refine AWP.isRegion 8 ?_));(with_reducible refine qV tyOk fun K hK=>?_))|((with_reducible refine CallJ.is ?_);refine CallJ.io [] [] [] [(2,32)] [] [32] [] [32] (cl) rfl ⟨rfl,rfl,rfl,rfl⟩ ?_ ?_ ?_)|((with_reducible refine CallJ.is ?_);(first|refine CallJ.pure (c0) ?_|refine CallJ.pure (c1) ?_|refine CallJ.pure (pk) ?_)))<;>simp -dsimp (disch:=first|exact D|fail) only [go_sem,↓reduceIte,seval,eGr,eEdgs,hn,n0',lA,dropL_nil,dropL_nil',dropL_cons])|((with_reducible refine hK _ ?_);clear hK K)|refine Q1 ?_|((with_reducible refine qW (T:=TT) (b:=?_) ?_ ?_);rotate_left;exact rfl)|fail)
  refine AWP.frz [3] [] ?_
  simp -dsimp (disch:=first|exact D|fail) only [go_sem,↓reduceIte,seval,RT,St.rest,St.freeze,s1,ls,ls2,frz_eBool]
  repeat' (first|((first|with_reducible refine qV tyOk fun K hK=>?_|((with_reducible refine CallJ.is ?_);(refine CallJ.pure (c2) ?_)))<;>simp -dsimp (disch:=first|exact D|fail) only [go_sem,↓reduceIte,seval,eGr,eEdgs,lA,lB])|((with_reducible refine hK _ ?_);clear hK K)|refine Q1 ?_|((with_reducible refine qW (T:=TT) (b:=?_) ?_ ?_);rotate_left;exact rfl)|fail)
  refine AWP.loop (ι:={k:Nat // k≤n}) (fun k=>⟨71,[(7,.v (.one (.sl 1 (A.map eBool)))),(10,.v (.one (.sl 1 (B.map eBool)))),(55,.v (oI n)),(56,.v (oI k.1))],[],[]⟩) (fun k=>n - k.1) ⟨0,Nat.zero_le _⟩ ?_ fun ⟨k,hk⟩=>?_
  ·refine St.le_mk ?_ ?_ ?_<;>simp only [LE,EN,Nat.reduceEqDiff,reduceIte,Nat.reduceSub,Int.natCast_zero]
  simp only at hk ⊢
  rcases Nat.lt_or_ge k n with hc|hc
  ·have gA:=getD_eBool A k (by omega)
   have gB:=getD_eBool B k (by omega)
   cases hv:A.getD k false with
   | false =>
    rw [hv] at gA
    repeat' (first|((with_reducible refine qV tyOk fun K hK=>?_)<;>simp -dsimp (disch:=first|exact D|fail) only [go_sem,↓reduceIte,seval,gA,gB,lA,lB,Option.getD_none])|((with_reducible refine hK _ ?_);clear hK K)|refine Q1 ?_|((with_reducible refine qW (T:=TT) (b:=?_) ?_ ?_);rotate_left;exact rfl)|fail)
    refine ⟨⟨k+1,by omega⟩,by simp only;omega,?_⟩
    refine St.le_mk ?_ ?_ ?_<;>simp only [LE,EN,Nat.reduceEqDiff,reduceIte,Nat.reduceSub]
   | true =>
    rw [mono k hv] at gB
    rw [hv] at gA
    repeat' (first|((with_reducible refine qV tyOk fun K hK=>?_)<;>simp -dsimp (disch:=first|exact D|fail) only [go_sem,↓reduceIte,seval,gA,gB,lA,lB,Option.getD_none])|((with_reducible refine hK _ ?_);clear hK K)|refine Q1 ?_|((with_reducible refine qW (T:=TT) (b:=?_) ?_ ?_);rotate_left;exact rfl)|fail)
    refine ⟨⟨k+1,by omega⟩,by simp only;omega,?_⟩
    refine St.le_mk ?_ ?_ ?_<;>simp only [LE,EN,Nat.reduceEqDiff,reduceIte,Nat.reduceSub]
  ·repeat' (first|((with_reducible refine qV tyOk fun K hK=>?_)<;>simp -dsimp (disch:=first|exact D|fail) only [go_sem,↓reduceIte,seval])|((with_reducible refine hK _ ?_);clear hK K)|refine Q1 ?_|((with_reducible refine qW (T:=TT) (b:=?_) ?_ ?_);rotate_left;exact rfl)|fail)
   simp -dsimp (disch:=first|exact D|fail) only [retQ,Tryz.results6,resVals,cellRV,resOf,St.rest,St.freeze,RT,go_sem,↓reduceIte,seval]
section
variable {w:World}
theorem bytes_bool:Tryz.prog.bytesOf 4=1:=by kernel_rfl
theorem rd_bools:Rd Tryz.prog w 56 (fun l=>[eBools l]) fun l=>l.length * 1≤reachBytes∧∀c∈l,True :=
 rd_slice Tryz.underlying56 cells_bool bytes_bool (fun _=>rfl) (eβ:=eBool) (rd_bool Tryz.underlying4)
theorem fit_bools {l:List Bool} (h:l.length * 1≤reachBytes∧∀c∈l,True):l.length≤140737488355328:=by
 have h1:=h.1
 rw [reachBytes_eq] at h1
 omega
end
end Go.Bw
