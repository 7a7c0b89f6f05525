/-
  WHAT IS PROVED HERE, of this translation: VOpsX_sound, AWP.regionX, vrep_agg, vrep_one, argsRep_nil, argsRep_cons, laid, ownK, cells_oneC, scrClone_sat, goL_append, mem_sortB, .., namesL_snoc, namesOf_len, namesL_len, tables_sat, tabs_len, scrClone_own, clash_step, merge_sat, eqTbl_same, equalTbls_same, versionsMergeCommutes_sat.
  A theorem that ends in sat says what the function it names returns, whatever the state it is called in; the bounds on its arguments stand ahead of it.
-/
import Derived.Lib.AppendZerosOnto
import Derived.ChangeArms
import Derived.SizedLaws
import Derived.JoinedOf
import Derived.ChangeSame
import Derived.RowKit
import Derived.Carry
import Derived.Sort.OwnSorted
import Derived.Test.YtdnapljegcihiaaGreatS9
import Derived.Sort.EveryDepth
import Derived.Test.YtdnapljegcihiaaGreatWzb
set_option linter.unusedSimpArgs false
set_option linter.unusedVariables false
namespace Go.Bw
open Go.RowKit
section
variable {P:Program} {T:TypeId→Option TI} {w0:World} {m0:Mem} {F0:Home} {s s':St} {a:Act} {w:World} {m:Mem} {ω:Wh}
theorem VOpsX_sound (hT:TabOk P T) {ops:Array Oper} {K:St→Prop} {Q:Exit→Act→World→Prop} (hQ:∀s a w,K s→Conc P w0 m0 F0 s a w→Q .normal a w) :
  ∀(l:List Oper) (k:Nat) (s:St) (a:Act) (w:World),ops.toList.drop k=l→VOpsX P T ops l s K→Conc P w0 m0 F0 s a w→wpOps P ops Q (List.range' k l.length) a w
 | [],k,s,a,w,_,hV,hC=>hQ s a w hV hC
 | o::l,k,s,a,w,hl,hV,hC=>by
  have hk:ops[k]?=some o:=by
   have:(ops.toList.drop k)[0]?=some o:=by rw [hl];rfl
   simpa [List.getElem?_drop] using this
  have hl':ops.toList.drop (k+1)=l:=by
   have:(ops.toList.drop k).drop 1=l:=by rw [hl];rfl
   simpa [List.drop_drop] using this
  obtain ⟨m,ω,h⟩:=hC
  simp only [List.length_cons,List.range'_succ,wpOps,hk]
  rcases hV with ⟨hg,hV⟩|hV
  ·have hw:Region.wanted o (yielded ops a.tmps)=true:=by simp [Region.wanted,hg]
   rw [if_pos hw]
   exact .inl (hV _ _ _ a w m ω h _ _ fun s' a' w' hK hc=>VOpsX_sound hT hQ l (k+1) s' a' w' hl' hK hc)
  ·simp only [VOps] at hV
   split at hV
   ·rename_i hg
    rw [if_pos (guardOf_sound h hg)]
    exact .inl (VOp_sound hT hV h _ _ fun s' a' w' hK hc=>VOpsX_sound hT hQ l (k+1) s' a' w' hl' hK hc)
   ·rename_i hg
    rw [if_neg (by rw [guardOf_sound h hg];simp)]
    obtain ⟨h1,h2⟩:=pk_elim hV
    exact VOpsX_sound hT hQ l (k+1) _ _ w hl' h2 ⟨m,ω,h.putO h1 arep_undef⟩
   ·cases hV
theorem AWP.regionX (hT:TabOk P T) {id:Nat} {Q:Exit→St→Prop} {l:List Oper} (h:∀K:St→Prop,(∀s',Q .normal s'→K s')→VOpsX P T l.toArray l s K):AWP P w0 m0 F0 (.region id l.toArray false) Q s:=by
 intro a w hc
 refine wp_region ?_
 have:=VOpsX_sound hT (ops:=l.toArray) (K:=Q .normal) (Q:=PostQ P w0 m0 F0 Q) (fun s a w h1 h2=>⟨s,h1,h2⟩) l 0 s a w (by simp) (h _ fun _ h=>h) hc
 have hlen:l.length=l.toArray.size:=by simp
 rwa [←List.range_eq_range',hlen] at this
end
end Go.Bw
namespace Go.Bw
open Go.RowKit
variable {P:Program} {w:World} {t:TypeId}
theorem vrep_agg {cs:Array Value} {ls:List L} {ω:Wh} (h:CRd w cs.toList ls):VRep (memOf w) ω (.agg cs) (.agg ls):=by
 refine ⟨cs,rfl,by simpa using h.1,fun j l hj=>?_⟩
 obtain ⟨v,h1,h2⟩:=h.2 j l hj
 exact ⟨v,by simpa using h1,h2.erep⟩
theorem vrep_one {v:Value} {l:L} {ω:Wh} (h:CRd w [v] [l]):VRep (memOf w) ω v (.one l):=by
 obtain ⟨v',h1,h2⟩:=h.2 0 l rfl
 simp only [List.getElem?_cons_zero,Option.some.injEq] at h1
 subst h1
 exact h2.erep
theorem argsRep_nil {m:Mem} {ω:Wh}:ArgsRep m ω [] []:=⟨rfl,fun i x h=>by simp at h⟩
theorem argsRep_cons {m:Mem} {ω:Wh} {v:Value} {x:V} {vs:List Value} {xs:List V} (h:VRep m ω v x) (hs:ArgsRep m ω vs xs):ArgsRep m ω (v::vs) (x::xs):=by
 refine ⟨by simp [hs.1],fun i y hy=>?_⟩
 cases i with
 | zero=>simp only [List.getElem?_cons_zero,Option.some.injEq] at hy;subst hy;exact ⟨v,rfl,h⟩
 | succ i=>exact hs.2 i y (by simpa using hy)
section
open Go.ChangeShapes
variable {H:Type} {enc:TypeId×Value→H} {w':World} {base:Nat} {sp:Nat→Bool} {held:Bool}
end
end Go.Bw
namespace Go.Bw
open Go.Proofs
theorem laid:laidOutB Tryz.prog=true:=by kernel_rfl
theorem ownK:ownKnob Tryz.prog.godebug=none:=by kernel_rfl
def oneDesc:TypeDesc→Bool
 | .slice _=>true
 | .string=>true
 | .bool=>true
 | .int _=>true
 | _=>false
theorem cells_oneC {P:Program} {w:World} {base:Nat} {t:TypeId} {v:Value} {d:TypeDesc} (hu:P.underlying t=some d) (hd:oneDesc d=true) (h:Value.okWide P w .any base t v):v.cells.toList=[v]:=by
 have hne:∀cs,v≠.agg cs:=by
  rintro cs rfl
  cases d<;>simp [oneDesc] at hd<;>simp [Value.okWide,hu,Cell.okWide,Cell.ok] at h
 cases v with
 | agg cs=>exact absurd rfl (hne cs)
 | _=>rfl
variable {w:World}
end Go.Bw
namespace Go.Bw
open Go.Proofs
attribute [local go_sem ↓] VOps_nil VOps_cons VOp_callJ VVal_callH VOps_guard GOn_tt GOn_ff GOn_tf GOn_ft GOn_not GOn_none HOn_none HOn_tt HOn_ff HOn_tf HOn_ft HOn_not VHead_nil VHead_cons VHead_guard VVal_move VVal_assign VVal_pickE pickK_true pickK_false VVal_not VVal_neg negK_int VVal_load loadK_fz loadK_ptr loadK_eptr VVal_fieldAddr VVal_field VVal_indexAddr idxK_sl idxK_ref VVal_index indexK_str VVal_extract VVal_binOp binK_one binK_agg VVal_build VVal_buildSlice VVal_makeFunc VVal_slice sliceK_str sliceK_sl sliceK_nil sliceK_ref VVal_slice3 VVal_nilCheck VVal_convert convKk_int convKk_str VVal_len VVal_max VVal_min VOp_assign assignK_int assignK_bool assignK_str assignK_clo assignK_sl assignK_nil assignK_ref assignK_agg assignK_fz assignK_ptr assignK_eptr assignK_any VOp_box VOp_alloc VOp_store storeK_ptr storeK_eptr VOp_buildSlice VOp_append appK_rr appK_rs appK_rn appK_ri appK_nr appK_ns appK_nn appK_ni appStd_eq VOp_copy copyK_ref VOp_clear clearK_ref VOp_cap VOp_eqNil VOp_move VOp_pick VOp_not VOp_neg VOp_load VOp_fieldAddr VOp_field VOp_indexAddr VOp_index VOp_extract VOp_binTmp VOp_binInt VOp_binStr VOp_binPtr VOp_build VOp_makeFunc VOp_slice VOp_nilCheck VOp_convert VOp_len VOp_max VOp_min mO_some mT_some pk_some pk_none look_cons del_cons
attribute [local go_sem] guardB gOf int_bne beq_true beq_false Bool.not_not gSlot pickK_true pickK_false negK_int loadK_fz loadK_ptr loadK_eptr idxK_sl idxK_ref indexK_str binK_one binK_agg sliceK_str sliceK_sl sliceK_nil sliceK_ref convKk_int convKk_str maxL minL assignK_int assignK_bool assignK_str assignK_clo assignK_sl assignK_nil assignK_ref assignK_agg assignK_fz assignK_ptr assignK_eptr assignK_any nilRow_eq takeRow_eq appended_eq storeK_ptr storeK_eptr store_mk appIn_eq appMk_eq marked_eq ovOut_nil ovOut_cons ovIn_nil ovIn_cons padRow_eq ysC capK_nil capK_ref ioSt_mk outB_nil outR_nil outB outR inB_nil inB_cons inR_nil inR_cons L.kl L.kl0 L.ids L.ids0 Option.getD_some evalO constA mO_some mT_some put_mk putO_some putO_none okD_some okD_none pk_some pk_none look_nil del_nil sput noBox_mk noRow_mk newBox_eq newRow0_eq St.killRow RowC.kill rowMap_mk rowOf ovAll ovAdd ovDel ovGet ovShift dstOf ysOf overlay_nil overlay_nil' overlay A.map V.map L.noPtr L.noPtr0 L.noRow L.noRow0 L.peek L.norm L.flat clos_int clos_bool clos_str clos_sl clos_nil clos_any clos_fz L.clos L.isFz L.kd moveL fieldOff eqCells eqCell eqOp oneOf boolOf intOfA tupOf vOf aggOf isPtrLike isSlice lenKind lenL nL elemTI loadV asV binL intBin intDivL shrL boolBin strBin strAdd ptrNil boundN partCells fillL placesOf setL chunks repL capsOf capL callOf argsOf frzV_int frzV_bool frzV_str frzV_sl frzV_nil frzV_fz frzV_any frzV_own frzV_clo frzV_ref frzV_eptr frzV_ptr frzRow_nil frzRow_ov frzRs_nil frzRs_cons frzCs_nil frzCs_cons frzO_some frzO_none frzN_int frzN_bool frzN_str frzN_sl frzN_nil frzN_any frzN_own List.map_cons List.map_nil List.cons_append List.nil_append List.append_nil List.length_cons List.length_nil List.length_map List.length_append List.headD_cons List.tail_cons List.getElem?_cons_zero List.getElem?_cons_succ List.drop_zero List.drop_succ_cons List.drop_nil List.take_succ_cons List.take_zero List.take_nil List.take_length List.filter_cons List.filter_nil List.elem_cons List.elem_nil List.all_cons List.all_nil Option.bind_some Option.map_some Option.some.injEq bne_self_eq_false beq_self_eq_true if_true if_false Bool.false_eq_true true_and and_true and_self Nat.zero_add Nat.add_zero Nat.zero_le Int.toNat_natCast Int.toNat_zero Option.isSome_some List.getElem?_toArray decide_true decide_false ge_iff_le gt_iff_lt Bool.not_true Bool.not_false Nat.le_refl Bool.and_true Bool.true_and Bool.and_false Bool.false_and eVal eRow eRow1 eRows eInt1 eInts eCol eCols eTbl eTbls eFK eFKs eCon eCons eSch eRel eInst eChg eChgs szOf getD_map_lt wrap_nat wrap_in List.take_of_length_le frz_eVal frz_eRow1 frz_eInt1 frz_eCol frz_eTbl frz_eFK frz_eCon frz_eRel frz_eChg noOwn_nil noOwn_cons noOwn_append L.isOwn noOwn_eVal noOwn_eRow1 noOwn_eInt1 noOwn_eCol noOwn_eTbl noOwn_eFK noOwn_eCon noOwn_eRel noOwn_eChg convK_2 convK_3 convK_5 convK_12 convK_21 convK_30 convK_90 convK_105 convK_114 convK_116 convK_133 TT_2 TT_3 TT_4 TT_5 TT_9 TT_12 TT_13 TT_21 TT_22 TT_23 TT_24 TT_25 TT_26 TT_27 TT_28 TT_30 TT_36 TT_37 TT_38 TT_39 TT_42 TT_43 TT_44 TT_45 TT_46 TT_47 TT_52 TT_53 TT_54 TT_59 TT_68 TT_69 TT_70 TT_71 TT_72 TT_73 TT_74 TT_75 TT_84 TT_85 TT_90 TT_105 TT_114 TT_116 TT_133 TT_139 boolTy_4 eqK_53 eqK_69 eqK_71 eqK_85
attribute [local congr] VOps.congr VHead.congr VOp.congr VVal.congr pk.congr assignK.congr appK.congr appStd.congr copyK.congr clearK.congr storeK.congr loadK.congr idxK.congr sliceK.congr indexK.congr binK.congr convKk.congr
set_option maxHeartbeats 8000000 in
theorem scrClone_sat (s:List Stp) (h1:s.length≤1048576) (h2:∀st∈s,st.Fits):Sat Tryz.prog 14 [.one (eScr s)] (.v (.one (eScr s))):=by
 unfold eScr
 refine sS tyOk Tryz.func14 fun w0 m0 F0=>?_
 simp only [Tryz.ntmps14,envOf,Nat.reduceAdd]
 repeat' (first|((first|with_reducible refine qV tyOk fun K hK=>?_|refine Q2 ?_|((with_reducible first|refine qS ?_ ?_|refine qT ?_ ?_|refine qU ?_ ?_)<;>(intro h;try simp only [NM] at h)))<;>simp -dsimp (disch:=first|exact D|fail) only [go_sem,↓reduceIte,seval])|((with_reducible refine hK _ ?_);clear hK K)|refine Q1 ?_|((with_reducible refine qW (T:=TT) (b:=?_) ?_ ?_);rotate_left;exact rfl)|((with_reducible refine yS ?_ ?_)<;>(intro h;try simp only [NM] at h)))
 refine AWP.loop (ι:={k:Nat // k≤s.length}) (fun k=>⟨19,[(3,.v (.one (.ref 3 0 k.1))),(6,.v (.one (.sl 24 (s.map eStp)))),(7,.v (oI s.length)),(8,.v (oI k.1))],[],[(3,⟨24,(s.take k.1).map eStp,[]⟩)]⟩) (fun k=>s.length - k.1) ⟨0,Nat.zero_le _⟩ ?_ fun ⟨k,hkl⟩=>?_
 ·refine St.le_mk ?_ ?_ ?_<;>simp only [LE,EN,Nat.reduceEqDiff,reduceIte,Nat.reduceSub,List.map_nil]
 simp only at hkl ⊢
 have hlen:(s.take k).length=k:=by simp;omega
 rcases Nat.lt_or_ge k s.length with hc|hc
 ·have c:=stpClone_sat s[k] (h2 _ (List.getElem_mem hc))
  have gs:(s.map eStp).getD k []=eStp s[k]:=getD_map_lt _ _ _ hc
  repeat' (first|((first|with_reducible refine qV tyOk fun K hK=>?_|refine Q2 ?_|((with_reducible first|refine qS ?_ ?_|refine qT ?_ ?_|refine qU ?_ ?_)<;>(intro h;try simp only [NM] at h))|((with_reducible refine CallJ.is ?_);(first|refine CallJ.pure (c) ?_|((apply CallJ.lentI);(focus (simp -dsimp (disch:=first|exact D|fail) only [go_sem,↓reduceIte,seval,gs,hlen,eStp,eTbl,Option.getD_none];rfl));(focus (first|exact (c)))))))<;>simp -dsimp (disch:=first|exact D|fail) only [go_sem,↓reduceIte,seval,gs,hlen,eStp,eTbl,Option.getD_none])|((with_reducible refine hK _ ?_);clear hK K)|refine Q1 ?_|((with_reducible refine qW (T:=TT) (b:=?_) ?_ ?_);rotate_left;exact rfl)|((with_reducible refine yS ?_ ?_)<;>(intro h;try simp only [NM] at h)))
  refine ⟨⟨k+1,by omega⟩,by simp only;omega,?_⟩
  have e:=take_snoc s k hc
  refine St.le_mk ?_ ?_ ?_<;>simp only [LE,EN,Nat.reduceEqDiff,reduceIte,Nat.reduceSub,e,eStp,eTbl,List.map_append,List.map_cons,List.map_nil]
 ·have hk:k=s.length:=by omega
  subst hk
  repeat' (first|((first|with_reducible refine qV tyOk fun K hK=>?_|refine Q2 ?_|((with_reducible first|refine qS ?_ ?_|refine qT ?_ ?_|refine qU ?_ ?_)<;>(intro h;try simp only [NM] at h)))<;>simp -dsimp (disch:=first|exact D|fail) only [go_sem,↓reduceIte,seval])|((with_reducible refine hK _ ?_);clear hK K)|refine Q1 ?_|((with_reducible refine qW (T:=TT) (b:=?_) ?_ ?_);rotate_left;exact rfl)|((with_reducible refine yS ?_ ?_)<;>(intro h;try simp only [NM] at h)))
  simp -dsimp (disch:=first|exact D|fail) only [retQ,Tryz.results14,resVals,cellRV,resOf,St.rest,St.freeze,RT,go_sem,↓reduceIte,seval]
  rw [frz_eStp]
theorem goL_append:∀(a b:List Stp) (s:Sch),goL s (a++b)=match goL s a with
  | .error e=>.error e
  | .ok u=>goL u b
 | [],b,s=>rfl
 | st::r,b,s=>by
  rw [List.cons_append,goL,goL]
  cases evoE s st with
  | error e=>rfl
  | ok t=>exact goL_append r b t
section
open Go.RowKit Go.Sort Go.Proofs
def strL (b:ByteArray):List L:=[.str b]
def sortB (l:List ByteArray):List ByteArray:=((l.map fun b=>b.data.toList).mergeSort fun x y=>decide (x≤y)).map fun l=>⟨l.toArray⟩
theorem mem_sortB {l:List ByteArray} {n:ByteArray}:n∈sortB l↔n∈l:=by
 unfold sortB
 simp only [List.mem_map,List.mem_mergeSort]
 constructor
 ·rintro ⟨x,⟨b,hb,rfl⟩,rfl⟩
  exact hb
 ·intro h
  exact ⟨n.data.toList,⟨n,h,rfl⟩,rfl⟩
theorem sortB_length (l:List ByteArray):(sortB l).length=l.length:=by unfold sortB;simp
theorem sortB_nil:sortB []=[]:=List.eq_nil_of_length_eq_zero (sortB_length [])
theorem sortRow_satM {P:Program} {f:FuncId} {fn:Func} {c:Code} (hf:P.funcs[f]?=some fn) (hb:fn.body=some c) (hn:(fn.name=="runtime.NumGoroutine")=false) (zs:List ByteArray)
  (h1:∀b cap w,Holds encStr w b 0 (zs.map fun b=>b.data.toList).toArray→b<w.heap.size→Calls P f #[.slice (some ⟨b,0,none⟩) zs.length cap] w fun e w'=>e=.returned (.tuple #[])∧∃n os,w'=grow (putRow encStr (Sort.ahead w n) b 0 ((zs.map fun b=>b.data.toList).mergeSort fun x y=>decide (x≤y)).toArray) os)
  (h2:∀w,Calls P f #[.slice none 0 0] w fun e w'=>e=.returned (.tuple #[])∧w'=w) :
  SatM P f [.one (.ref 1000 0 zs.length)] [] [(1000,⟨1,zs.map strL,[]⟩)] (.tup []) [] [(1000,⟨1,(sortB zs).map strL,[]⟩)]:=by
 refine ⟨fun m w vs ω hC hA=>?_⟩
 have hv:∃v,vs=[v]∧RefAt (ω.row 1000) 0 zs.length v:=by
  obtain ⟨g1,g2⟩:=hA
  obtain ⟨v,g3,g4⟩:=g2 0 _ rfl
  match vs,g1,g3 with
  | [x],_,g3 =>
   simp only [List.getElem?_cons_zero,Option.some.injEq] at g3
   subst g3
   exact ⟨x,rfl,g4⟩
 obtain ⟨v,rfl,hR⟩:=hv
 refine .inr ⟨?_,?_⟩
 ·simp only [callFunc,Sem.run_bind,program,Sem.run,Result.andThen_ok,hf]
  rw [hn,hb]
  simp
 have hl:look (roots [] [(1000,(⟨1,zs.map strL,[]⟩:RowC))]).row 1000=some ⟨1,zs.map strL,[]⟩:=rfl
 have hrow:=hC.row 1000 _ hl
 unfold RowRep RowRepG at hrow
 obtain ⟨q1,q2,q3⟩:=hrow
 rcases hR with ⟨r1,_,r2,rfl⟩|⟨b,ad,r1,r2,rfl,r3⟩
 ·have hz:zs=[]:=List.eq_nil_of_length_eq_zero r2
  subst hz
  rw [sortB_nil]
  exact (h2 w).mono fun e w' ⟨he,hw⟩=>⟨_,he,m,ω,hw▸hC,⟨#[],rfl,rfl,fun j x hx=>by simp at hx⟩⟩
 rw [r1] at q3
 obtain ⟨cs,e,k1,k2,k3,k4,k5,G,k6,k7,k8⟩:=q3
 simp only at q1 k2 k3 k4 k8
 obtain rfl:ad=⟨b,0,none⟩:=by rw [r3 (.inr rfl),Nat.zero_mul]
 simp only [List.length_map] at k3
 have hle:zs.length≤cs.size:=by omega
 have hcell:∀j,∀h:j<zs.length,cs[j]?=some (.string zs[j]):=fun j h=>by
  obtain ⟨v,h3,h4⟩:=k8 j 0 (.str zs[j]) (by simp [cellOf,strL,h])
  have h4:CRep m w (G j 0) v (.str zs[j]):=h4
  cases h4 with
  | fr h=>cases h;simpa using h3
 have ht:cs.toList.take (zs.map fun b=>b.data.toList).length=(zs.map fun b=>b.data.toList).map encStr:=by
  apply List.ext_getElem?
  intro j
  rw [List.length_map]
  by_cases hj:j<zs.length
  ·rw [List.getElem?_take_of_lt hj,Array.getElem?_toList,hcell j hj]
   simp [hj]
  ·rw [List.getElem?_take_eq_none (by omega),List.getElem?_eq_none (by simp;omega)]
 have hH:Holds encStr w b 0 (zs.map fun b=>b.data.toList).toArray:=holds_of_block k1 ht
 have hblk:b<w.heap.size:=(Array.getElem?_eq_some_iff.1 k1).1
 rw [Nat.sub_zero]
 refine (h1 b _ w hH hblk).mono fun e' w' ⟨he,n,os,hw⟩=>⟨_,he,m,ω,?_,⟨#[],rfl,rfl,fun j x hx=>by simp at hx⟩⟩
 obtain ⟨ts,hts⟩:∃ts,((zs.map fun b=>b.data.toList).mergeSort fun x y=>decide (x≤y))=ts:=⟨_,rfl⟩
 have hlen:ts.length=zs.length:=by rw [←hts];simp
 have hsb:sortB zs=ts.map fun l=>⟨l.toArray⟩:=by unfold sortB;rw [hts]
 rw [hts] at hw
 subst hw
 have hnew:∀j,∀h:j<ts.length,(putCells encStr 0 ts.toArray cs)[j]?=some (encStr ts[j]):=fun j h=>by
  have:=take_putCells cs ts (by omega)
  have h5:((putCells encStr 0 ts.toArray cs).toList.take ts.length)[j]?=(ts.map encStr)[j]?:=by rw [this]
  rw [List.getElem?_take_of_lt h,Array.getElem?_toList] at h5
  rw [h5]
  simp [h]
 have hcap:CapOk (ω.row 1000).cap (putCells encStr 0 ts.toArray cs) ⟨1,(sortB zs).map strL,[]⟩:=by
  refine ⟨k4.1,fun l hl=>?_,fun q v hq=>?_⟩
  ·cases hl
  have hq':(putCells encStr 0 ts.toArray cs)[q]?=some v:=hq
  by_cases hj:q<ts.length
  ·rw [hnew q hj] at hq'
   injection hq' with hq'
   subst hq'
   rfl
  ·have:(putCells encStr 0 ts.toArray cs)[q]?=cs[q]?:=by
    simp only [putCells,Array.getElem?_mapIdx]
    cases cs[q]? with
    | none=>rfl
    | some x=>simp [hj]
   rw [this] at hq'
   exact k4.2.2 q v hq'
 have hcells:∀i j u,cellOf ((sortB zs).map strL) i j=some u→∃v,(putCells encStr 0 ts.toArray cs)[i * 1+j]?=some v∧CRep m (grow (putRow encStr (Sort.ahead w n) b 0 ts.toArray) os) (fun _=>False) v u:=by
  intro i j u hu
  rw [hsb] at hu
  unfold cellOf at hu
  obtain ⟨x,hx,hu⟩:=Option.bind_eq_some_iff.1 hu
  rw [List.getElem?_map,List.getElem?_map] at hx
  obtain ⟨y,hy,hx⟩:=Option.map_eq_some_iff.1 hx
  obtain ⟨z,hz,hy⟩:=Option.map_eq_some_iff.1 hy
  obtain ⟨hi,hz⟩:=List.getElem?_eq_some_iff.1 hz
  subst hx hy hz
  obtain ⟨rfl,rfl⟩:j=0∧u=.str ⟨ts[i].toArray⟩:=by
   cases j with
   | zero=>simp [strL] at hu;exact ⟨rfl,hu.symm⟩
   | succ j=>simp [strL] at hu
  exact ⟨encStr ts[i],by simpa using hnew i hi,.fr (.str _)⟩
 exact hC.rowUpd (r':=⟨1,(sortB zs).map strL,[]⟩) hl r1 (grownBy_sorted (n:=n) (os:=os) ts.toArray) (heap_sorted ts.toArray k1) (by simp only [putCells,Array.size_mapIdx];exact k2) q1 (fun x hx=>by
   obtain ⟨y,_,rfl⟩:=List.mem_map.1 hx
   rfl) (by simp only [List.length_map,sortB_length];exact k3) hcap (fun _ _ _=>False) (fun _ _ _ h=>h.elim) (fun _ _ _ _ _ h=>h.elim) hcells
end
theorem name_ne {s:Sch} (h:schE s=0):∀t∈s.tables,t.name≠ByteArray.empty:=fun t ht e=>by
 obtain ⟨i,hi,rfl⟩:=List.mem_iff_getElem.1 ht
 have h1:=(tblsE_iff.1 (((schE_zero s).1 h).2.1 i hi)).1
 unfold tblE at h1
 split at h1
 ·omega
 ·rename_i q
  rw [e] at q
  exact q (by decide)
theorem vw_empty {s:Sch} (h:schE s=0):vw s.tables ByteArray.empty=none:=vw_none (name_ne h)
def memB (l:List ByteArray) (n:ByteArray):Bool:=l.any fun x=>sEq n x
theorem memB_iff {l:List ByteArray} {n:ByteArray}:memB l n=true↔n∈l:=by
 unfold memB
 rw [List.any_eq_true]
 exact ⟨fun ⟨x,hx,h⟩=>(sEq_iff.1 h)▸hx,fun h=>⟨n,h,sEq_refl n⟩⟩
def addN (out:List ByteArray) (n:ByteArray):List ByteArray:=if sEq n ByteArray.empty=true∨memB out n=true then out else out++[n]
def addNs (out:List ByteArray) (l:List ByteArray):List ByteArray:=l.foldl addN out
def namesL:List ByteArray→List Stp→List ByteArray
 | out,[]=>out
 | out,st::r=>namesL (addNs out (namesOf st)) r
theorem mem_addN {out:List ByteArray} {n m:ByteArray}:m∈addN out n↔m∈out∨m=n∧n≠ByteArray.empty:=by
 unfold addN
 split
 ·rename_i q
  rw [sEq_iff,memB_iff] at q
  refine ⟨.inl,fun h=>h.elim id fun ⟨h1,h2⟩=>?_⟩
  subst h1
  exact q.resolve_left h2
 ·rename_i q
  rw [sEq_iff,memB_iff] at q
  rw [List.mem_append,List.mem_singleton]
  exact ⟨fun h=>h.imp id fun h=>⟨h,fun h3=>q (.inl (h▸h3))⟩,fun h=>h.imp id fun h=>h.1⟩
theorem mem_addNs {m:ByteArray}:∀{l out:List ByteArray},m∈addNs out l↔m∈out∨m∈l∧m≠ByteArray.empty
 | [],out=>by simp [addNs]
 | n::r,out=>by
  have:=mem_addNs (m:=m) (l:=r) (out:=addN out n)
  unfold addNs at this ⊢
  rw [List.foldl_cons,this,mem_addN,List.mem_cons]
  constructor
  ·rintro ((h|⟨h,k⟩)|⟨h,k⟩)
   ·exact .inl h
   ·exact .inr ⟨.inl h,h▸k⟩
   ·exact .inr ⟨.inr h,k⟩
  ·rintro (h|⟨h|h,k⟩)
   ·exact .inl (.inl h)
   ·exact .inl (.inr ⟨h,h▸k⟩)
   ·exact .inr ⟨h,k⟩
theorem mem_namesL {m:ByteArray}:∀{l:List Stp} {out:List ByteArray},m∈namesL out l↔m∈out∨(∃st∈l,m∈namesOf st)∧m≠ByteArray.empty
 | [],out=>by simp [namesL]
 | st::r,out=>by
  rw [namesL,mem_namesL,mem_addNs]
  constructor
  ·rintro ((h|⟨h,k⟩)|⟨⟨x,hx,h⟩,k⟩)
   ·exact .inl h
   ·exact .inr ⟨⟨st,List.mem_cons_self ..,h⟩,k⟩
   ·exact .inr ⟨⟨x,List.mem_cons_of_mem _ hx,h⟩,k⟩
  ·rintro (h|⟨⟨x,hx,h⟩,k⟩)
   ·exact .inl (.inl h)
   ·rcases List.mem_cons.1 hx with rfl|hx
    ·exact .inl (.inr ⟨h,k⟩)
    ·exact .inr ⟨⟨x,hx,h⟩,k⟩
def tabs (s:Sch) (l:List Stp):Except Int (List ByteArray):=match scrApply s l with
 | .error e=>.error e
 | .ok _=>.ok (sortB (namesL [] l))
def clash (A B:List ByteArray):Bool:=A.any fun n=>memB B n
def mergeE (s:Sch) (a b:List Stp):Except Int (List Stp):=match tabs s a with
 | .error e=>.error e
 | .ok A=>match tabs s b with
  | .error e=>.error e
  | .ok B=>if clash A B=true then .error 13 else match scrApply s (a++b) with
   | .error e=>.error e
   | .ok _=>.ok (a++b)
theorem clash_iff {A B:List ByteArray}:clash A B=true↔∃n∈A,n∈B:=by
 unfold clash
 rw [List.any_eq_true]
 simp only [memB_iff]
theorem clash_comm (A B:List ByteArray):clash A B=clash B A:=by
 rw [Bool.eq_iff_iff,clash_iff,clash_iff]
 exact ⟨fun ⟨n,h,k⟩=>⟨n,k,h⟩,fun ⟨n,h,k⟩=>⟨n,k,h⟩⟩
theorem goV_comm {a b:List Stp} {L:View} (hd:∀n,n≠ByteArray.empty→(∃st∈a,n∈namesOf st)→(∃st∈b,n∈namesOf st)→False)
  (h0:L ByteArray.empty=none) (hb:goV b L ByteArray.empty=none) {n:ByteArray} (hn:n≠ByteArray.empty) (hna:∃st∈a,n∈namesOf st):goV b (goV a L) n=goV a (goV b L) n:=by
 have out:∀m,m≠ByteArray.empty→(∃st∈a,m∈namesOf st)→∀st∈b,m ∉ namesOf st:=fun m hm ha st hst hin=>hd m hm ha ⟨st,hst,hin⟩
 rw [goV_out (out n hn hna)]
 refine goV_agree (fun m=>m=ByteArray.empty∨∃st∈a,m∈namesOf st) (fun st hst m hm=>.inr ⟨st,hst,hm⟩) (fun m hm=>?_) n (.inr hna)
 by_cases hm0:m=ByteArray.empty
 ·rw [hm0,h0,hb]
 ·rw [goV_out (out m hm0 (hm.resolve_left hm0))]
theorem goL_app {s x:Sch} {a b:List Stp} (h:goL s (a++b)=.ok x):∃u,goL s a=.ok u∧goL u b=.ok x:=by
 rw [goL_append] at h
 cases hg:goL s a with
 | error e=>rw [hg] at h;cases h
 | ok u=>rw [hg] at h;exact ⟨u,rfl,h⟩
theorem merge_commutes {s x y:Sch} {a b:List Stp} (hs:schE s=0) (hd:∀n,n≠ByteArray.empty→(∃st∈a,n∈namesOf st)→(∃st∈b,n∈namesOf st)→False)
  (hx:goL s (a++b)=.ok x) (hy:goL s (b++a)=.ok y):x.tables=y.tables:=by
 obtain ⟨u,hu,hux⟩:=goL_app hx
 obtain ⟨v,hv,hvy⟩:=goL_app hy
 have zu:=goL_ok hs hu
 have zv:=goL_ok hs hv
 have zx:=goL_ok zu hux
 have zy:=goL_ok zv hvy
 have ex:vw x.tables=goV b (goV a (vw s.tables)):=by rw [goL_view hux,goL_view hu]
 have ey:vw y.tables=goV a (goV b (vw s.tables)):=by rw [goL_view hvy,goL_view hv]
 refine vw_ext (sorted_of zx) (sorted_of zy) fun n=>?_
 by_cases h0:n=ByteArray.empty
 ·rw [h0,vw_empty zx,vw_empty zy]
 rw [ex,ey]
 by_cases ha:∃st∈a,n∈namesOf st
 ·exact goV_comm hd (vw_empty hs) (by rw [←goL_view hv];exact vw_empty zv) h0 ha
 by_cases hb:∃st∈b,n∈namesOf st
 ·exact (goV_comm (fun m h1 h2 h3=>hd m h1 h3 h2) (vw_empty hs) (by rw [←goL_view hu];exact vw_empty zu) h0 hb).symm
 ·have oa:∀st∈a,n ∉ namesOf st:=fun st h1 h2=>ha ⟨st,h1,h2⟩
  have ob:∀st∈b,n ∉ namesOf st:=fun st h1 h2=>hb ⟨st,h1,h2⟩
  rw [goV_out ob,goV_out oa,goV_out oa,goV_out ob]
theorem scrApply_parts {s x:Sch} {l:List Stp} (h:scrApply s l=.ok x):l.length≤6∧schE s=0∧goL s l=.ok x:=by
 rw [scrApply_eq] at h
 split at h
 ·cases h
 split at h
 ·cases h
 ·rename_i h1 h2
  exact ⟨by omega,Decidable.byContradiction h2,h⟩
theorem tabs_ok {s:Sch} {l:List Stp} {A:List ByteArray} (h:tabs s l=.ok A):A=sortB (namesL [] l)∧∃x,scrApply s l=.ok x:=by
 unfold tabs at h
 split at h
 ·cases h
 ·rename_i x q
  injection h with h
  exact ⟨h.symm,x,q⟩
theorem mergeE_ok {s:Sch} {a b l:List Stp} (h:mergeE s a b=.ok l):l=a++b∧(∃x,scrApply s (a++b)=.ok x)∧clash (sortB (namesL [] a)) (sortB (namesL [] b))=false:=by
 unfold mergeE at h
 split at h
 ·cases h
 rename_i A hA
 split at h
 ·cases h
 rename_i B hB
 split at h
 ·cases h
 rename_i hc
 split at h
 ·cases h
 rename_i x hx
 injection h with h
 rw [(tabs_ok hA).1,(tabs_ok hB).1] at hc
 exact ⟨h.symm,⟨x,hx⟩,by simpa using hc⟩
theorem mergeE_tables {s x y:Sch} {a b l m:List Stp} (h1:mergeE s a b=.ok l) (h2:mergeE s b a=.ok m) (hx:scrApply s l=.ok x) (hy:scrApply s m=.ok y):x.tables=y.tables:=by
 obtain ⟨rfl,_,hc⟩:=mergeE_ok h1
 obtain ⟨rfl,_,_⟩:=mergeE_ok h2
 obtain ⟨_,hs,gx⟩:=scrApply_parts hx
 obtain ⟨_,_,gy⟩:=scrApply_parts hy
 refine merge_commutes hs (fun n hn ha hb=>?_) gx gy
 have:clash (sortB (namesL [] a)) (sortB (namesL [] b))=true:=clash_iff.2 ⟨n,mem_sortB.2 (mem_namesL.2 (.inr ⟨ha,hn⟩)),mem_sortB.2 (mem_namesL.2 (.inr ⟨hb,hn⟩))⟩
 rw [hc] at this
 cases this
theorem scan_13 {α:Type} {f:Nat→α→Option Int} (h:∀k x,f k x≠some 13):∀{l:List α} {k:Nat},scan f l k≠some 13
 | [],k,he=>by cases he
 | x::l,k,he=>by
  unfold scan at he
  split at he
  ·rename_i e' he'
   rw [he] at he'
   exact h _ _ he'
  ·exact scan_13 h he
theorem valE_13 (v:Val):valE v≠13:=by unfold valE;(repeat' split)<;>omega
theorem satE_13 (op:ByteArray):satE op≠13:=by unfold satE;split<;>omega
theorem tblE_13 (t:Tbl):tblE t≠13:=by
 unfold tblE
 (repeat' split)<;>first
  | omega
  | (rename_i q;intro e;subst e;exact scan_13 (fun k x=>by unfold colE;(repeat' split)<;>simp) q)
  | (rename_i q;intro e;subst e;exact scan_13 (fun k x=>by unfold pkE;(repeat' split)<;>simp) q)
theorem fkE_13 (s:Sch) (f:FK):fkE s f≠13:=by
 unfold fkE
 split
 ·omega
 unfold fkTE
 (repeat' split)<;>first
  | omega
  | (rename_i q;intro e;subst e;exact scan_13 (fun k x=>by unfold fkColE;(repeat' split)<;>simp) q)
theorem conE_13 (s:Sch) (c:Con):conE s c≠13:=by
 unfold conE
 simp only
 (repeat' split)<;>first|omega|exact valE_13 _
theorem schE_13 (s:Sch):schE s≠13:=by
 have h1:∀k x,tblsE s.tables k x≠some 13:=fun k x=>by
  unfold tblsE
  (repeat' split)<;>first|(intro e;injection e with e;exact tblE_13 _ e)|(simp;done)
 have h2:∀k x,fksE s k x≠some 13:=fun k x=>by
  unfold fksE
  (repeat' split)<;>first|(intro e;injection e with e;exact fkE_13 _ _ e)|(simp;done)
 have h3:∀k x,consE s k x≠some 13:=fun k x=>by
  unfold consE
  (repeat' split)<;>first|(intro e;injection e with e;exact conE_13 _ _ e)|(simp;done)
 unfold schE
 (repeat' split)<;>first
  | omega
  | (rename_i q;intro e;subst e;exact scan_13 h1 q)
  | (rename_i q;intro e;subst e;exact scan_13 h2 q)
  | (rename_i q;intro e;subst e;exact scan_13 h3 q)
theorem defaultE_13 (v:Val) (c:Col):defaultE v c≠13:=by
 unfold defaultE
 (repeat' split)<;>first|omega|exact valE_13 _
theorem unusedE_13 (s:Sch) (t:Tbl) (c:Int):unusedE s t c≠13:=by
 unfold unusedE
 (repeat' split)<;>omega
theorem splitE_13 (s:Sch) (t:Tbl) (st:Stp):splitE s t st≠13:=by
 unfold splitE
 (repeat' split)<;>first
  | omega
  | (rename_i q;intro e;subst e;exact scan_13 (fun k x=>by (repeat' split)<;>simp) q)
theorem sameE_13 (s:Sch) (a b:ByteArray):sameE s a b≠13:=by
 unfold sameE
 (repeat' split)<;>omega
theorem evApply_13 {s:Sch} {st:Stp}:evApply s st≠.error 13:=by
 intro h
 unfold evApply at h
 by_cases k0:st.kind=13
 ·rw [if_pos k0] at h;cases h
 rw [if_neg k0] at h
 by_cases k1:st.kind=14
 ·rw [if_pos k1] at h
  unfold dropCon at h
  simp only at h
  split at h<;>cases h
 rw [if_neg k1] at h
 by_cases k2:st.kind=15
 ·rw [if_pos k2] at h;cases h
 rw [if_neg k2] at h
 by_cases k3:st.kind=16
 ·rw [if_pos k3] at h
  unfold dropFK at h
  simp only at h
  split at h<;>cases h
 rw [if_neg k3] at h
 by_cases k4:st.kind=10
 ·rw [if_pos k4] at h
  unfold createT at h
  split at h<;>cases h
 rw [if_neg k4] at h
 simp only at h
 generalize (tblAt s.tables st.table).toNat=i at h
 split at h
 ·cases h
 split at h
 ·unfold renameT at h
  simp only at h
  split at h<;>cases h
 split at h
 ·unfold splitT at h
  simp only at h
  (repeat' split at h)<;>first|(cases h;done)|(injection h with h;exact splitE_13 _ _ _ h)
 split at h
 ·unfold joinT at h
  simp only at h
  (repeat' split at h)<;>first|(cases h;done)|(rename_i q;injection h with h;subst h;exact scan_13 (fun k x=>by split<;>simp) q)
 split at h
 ·unfold partT at h
  simp only at h
  (repeat' split at h)<;>first|(cases h;done)|(injection h with h;first|exact satE_13 _ h|exact valE_13 _ h)
 split at h
 ·unfold mergeT at h
  simp only at h
  (repeat' split at h)<;>first|(cases h;done)|(injection h with h;exact sameE_13 _ _ _ h)
 split at h
 ·unfold dropT at h
  split at h<;>cases h
 split at h
 ·unfold concatC at h
  (repeat' split at h)<;>first|(cases h;done)|(simp only at h;(repeat' split at h)<;>first|(cases h;done)|(injection h with h;exact unusedE_13 _ _ _ h))|(injection h with h;exact unusedE_13 _ _ _ h)
 split at h
 ·unfold addC at h
  simp only at h
  (repeat' split at h)<;>first|(cases h;done)|(injection h with h;exact defaultE_13 _ _ h)
 unfold alterC at h
 simp only at h
 (repeat' split at h)<;>first|(cases h;done)|(injection h with h;first|exact unusedE_13 _ _ _ h|exact defaultE_13 _ _ h)
theorem evoE_13 {s:Sch} {st:Stp}:evoE s st≠.error 13:=by
 intro h
 unfold evoE at h
 (repeat' split at h)<;>first
  | (cases h;done)
  | (injection h with h;exact schE_13 _ h)
  | (injection h with h;unfold evValE at h;split at h<;>omega)
  | (rename_i q;injection h with h;subst h;exact evApply_13 q)
theorem goL_13:∀{l:List Stp} {s:Sch},goL s l≠.error 13
 | [],s,h=>by rw [goL] at h;cases h
 | st::r,s,h=>by
  rw [goL] at h
  cases hv:evoE s st with
  | error e =>
   rw [hv] at h
   injection h with h
   subst h
   exact evoE_13 hv
  | ok t =>
   rw [hv] at h
   exact goL_13 h
theorem scrApply_13 {s:Sch} {l:List Stp}:scrApply s l≠.error 13:=by
 intro h
 rw [scrApply_eq] at h
 (repeat' split at h)<;>first
  | (injection h with h;omega)
  | (injection h with h;exact schE_13 _ h)
  | exact goL_13 h
theorem tabs_13 {s:Sch} {l:List Stp}:tabs s l≠.error 13:=by
 intro h
 unfold tabs at h
 split at h
 ·rename_i q
  injection h with h
  subst h
  exact scrApply_13 q
 ·cases h
theorem mergeE_13 {s:Sch} {a b:List Stp} (h:mergeE s a b=.error 13):mergeE s b a=.error 13:=by
 unfold mergeE at h ⊢
 cases hA:tabs s a with
 | error e=>rw [hA] at h;injection h with h;subst h;exact absurd hA tabs_13
 | ok A =>
  rw [hA] at h
  cases hB:tabs s b with
  | error e=>rw [hB] at h;injection h with h;subst h;exact absurd hB tabs_13
  | ok B =>
   rw [hB] at h
   simp only at h ⊢
   by_cases hc:clash A B=true
   ·rw [if_pos (by rw [clash_comm];exact hc)]
   ·rw [if_neg hc] at h
    split at h
    ·rename_i q;injection h with h;subst h;exact absurd q scrApply_13
    ·cases h
theorem mergeE_ne {s:Sch} {a b:List Stp} {e:Int} (h:mergeE s a b=.error e):e≠0:=by
 unfold mergeE at h
 split at h
 ·rename_i q
  injection h with h
  subst h
  unfold tabs at q
  split at q
  ·rename_i q2;injection q with q;subst q;exact scrApply_ne q2
  ·cases q
 split at h
 ·rename_i q
  injection h with h
  subst h
  unfold tabs at q
  split at q
  ·rename_i q2;injection q with q;subst q;exact scrApply_ne q2
  ·cases q
 split at h
 ·injection h with h;omega
 split at h
 ·rename_i q;injection h with h;subst h;exact scrApply_ne q
 ·cases h
theorem sortStr_satM (zs:List ByteArray) (hl:zs.length≤1048576):SatM Tryz.prog 24 [.one (.ref 1000 0 zs.length)] [] [(1000,⟨1,zs.map strL,[]⟩)] (.tup []) [] [(1000,⟨1,(sortB zs).map strL,[]⟩)] :=
 sortRow_satM Tryz.func24 rfl (by kernel_rfl) zs
  (fun b cap w hH hb=>calls_of_every_depth fun D=>by
   have h:=AnyS.slices_Sort_string_alone Tryz.laysSort D b 0 cap (zs.map fun b=>b.data.toList) w hH hb (by simp;omega)
   rw [List.length_map] at h
   exact h)
  (fun w=>calls_of_every_depth fun D=>AnyS.slices_Sort_string_none_alone Tryz.laysSort D none 0 w)
set_option maxHeartbeats 4000000 in
theorem indexStr_sat (l : List ByteArray) (n : ByteArray) (hlen : l.length ≤ 140737488355328) :
    Sat Tryz.prog 25 [.one (.sl 1 (l.map strL)), oS n] (.v (oI (idx (fun x => sEq n x) l 0))) := by
  refine sS tyOk Tryz.func25 fun w0 m0 F0 => ?_
  simp only [Tryz.ntmps25, envOf, Nat.reduceAdd]
  repeat' (first | ((first | with_reducible refine qV tyOk fun K hK => ?_ | refine Q2 ?_ | ((with_reducible first | refine qS ?_ ?_ | refine qT ?_ ?_ | refine qU ?_ ?_) <;> (intro h; try simp only [NM] at h)) | with_reducible refine yD tyOk mixed 6 (by kernel_rfl) fun K hK => ?_) <;> simp -dsimp (disch := first | exact D | fail) only [go_sem, ↓reduceIte, seval]) | ((with_reducible refine hK _ ?_); clear hK K) | refine Q1 ?_ | ((with_reducible refine qW (T := TT) (b := ?_) ?_ ?_); rotate_left; exact rfl) | ((with_reducible refine yS ?_ ?_) <;> (intro h; try simp only [NM] at h)))
  refine AWP.loop (ι := {k : Nat // k ≤ l.length ∧ idx (fun x => sEq n x) (l.drop k) k = idx (fun x => sEq n x) l 0}) (fun k => ⟨19, [(0, .v (.one (.sl 1 (l.map strL)))), (1, .v (oS n)), (6, .v (.one (.sl 1 (l.map strL)))), (7, .v (oI l.length)), (8, .v (oI k.1))], [], []⟩) (fun k => l.length - k.1) ⟨0, Nat.zero_le _, rfl⟩ ?_ fun ⟨k, hkl, hi⟩ => ?_
  · refine St.le_mk ?_ ?_ ?_ <;> simp only [LE, EN, Nat.reduceEqDiff, reduceIte, Nat.reduceSub]
  repeat' (first | ((first | with_reducible refine qV tyOk fun K hK => ?_ | refine Q2 ?_ | ((with_reducible first | refine qS ?_ ?_ | refine qT ?_ ?_ | refine qU ?_ ?_) <;> (intro h; try simp only [NM] at h)) | with_reducible refine yD tyOk mixed 6 (by kernel_rfl) fun K hK => ?_) <;> simp -dsimp (disch := first | exact D | fail) only [go_sem, ↓reduceIte, seval, strL]) | ((with_reducible refine hK _ ?_); clear hK K) | refine Q1 ?_ | ((with_reducible refine qW (T := TT) (b := ?_) ?_ ?_); rotate_left; exact rfl) | ((with_reducible refine yS ?_ ?_) <;> (intro h; try simp only [NM] at h)))
  all_goals first
    | (have hk : ¬ k < l.length := by omega
       simp -dsimp (disch := first | exact D | fail) only [retQ, Tryz.results25, resVals, cellRV, resOf, St.rest, St.freeze, RT, go_sem, ↓reduceIte, seval]
       rw [← hi, idx_end hk]
       done)
    | (have hk : k < l.length := by omega
       have he : sEq n l[k] = true := by simp_all [sEq]
       simp -dsimp (disch := first | exact D | fail) only [retQ, Tryz.results25, resVals, cellRV, resOf, St.rest, St.freeze, RT, go_sem, ↓reduceIte, seval]
       rw [← hi, idx_hit hk he]
       done)
    | (have hk : k < l.length := by omega
       have he : sEq n l[k] = false := by simp_all [sEq]
       refine ⟨⟨k + 1, by omega, by rw [idx_step hk he, hi]⟩, by simp only; omega, ?_⟩
       refine St.le_mk ?_ ?_ ?_ <;> simp only [LE, EN, Nat.reduceEqDiff, reduceIte, Nat.reduceSub]
       )
theorem containsStr_sat (l:List ByteArray) (n:ByteArray) (hlen:l.length≤140737488355328):Sat Tryz.prog 13 [.one (.sl 1 (l.map strL)),oS n] (.v (oB (memB l n))):=by
 unfold memB
 rw [←idx_anyB _ l 0]
 refine sS tyOk Tryz.func13 fun w0 m0 F0=>?_
 simp only [Tryz.ntmps13,envOf,Nat.reduceAdd]
 repeat' (first|((first|with_reducible refine qV tyOk fun K hK=>?_|refine Q2 ?_|((with_reducible first|refine qS ?_ ?_|refine qT ?_ ?_|refine qU ?_ ?_)<;>(intro h;try simp only [NM] at h))|with_reducible refine yD tyOk mixed 6 (by kernel_rfl) fun K hK=>?_|((with_reducible refine CallJ.is ?_);(first|refine CallJ.pure (indexStr_sat l n hlen) ?_|((apply CallJ.lentI);(focus (simp -dsimp (disch:=first|exact D|fail) only [go_sem,↓reduceIte,seval];rfl));(focus (first|exact (indexStr_sat l n hlen))))))|((with_reducible refine CallH.is ?_);(first|refine CallH.intro (indexStr_sat l n hlen) ?_)))<;>simp -dsimp (disch:=first|exact D|fail) only [go_sem,↓reduceIte,seval])|((with_reducible refine hK _ ?_);clear hK K)|refine Q1 ?_|((with_reducible refine qW (T:=TT) (b:=?_) ?_ ?_);rotate_left;exact rfl)|((with_reducible refine yS ?_ ?_)<;>(intro h;try simp only [NM] at h)))
 simp -dsimp (disch:=first|exact D|fail) only [retQ,Tryz.results13,resVals,cellRV,resOf,St.rest,St.freeze,RT,go_sem,↓reduceIte,seval]
theorem topL_cloP (kb kr:List Nat) (s:St) (f id o:Nat):topL kb kr s (.clo f [.ptr id o])=.clo f [if kb.elem id then .ptr id o else frzV 4 s (.ptr id o)]:=rfl
theorem frz_strL (l:List ByteArray):(l.map strL).map (fun x=>x.map (L.frzN 4))=l.map strL:=frz_map (fun _=>rfl) l
theorem addN_len (o:List ByteArray) (n:ByteArray):(addN o n).length≤o.length+1:=by
 unfold addN
 split<;>simp
theorem addNs_len:∀(l o:List ByteArray),(addNs o l).length≤o.length+l.length
 | [],o=>by simp [addNs]
 | n::r,o=>by
  have h1:=addNs_len r (addN o n)
  have h2:=addN_len o n
  unfold addNs at h1 ⊢
  rw [List.foldl_cons,List.length_cons]
  omega
theorem addNs_snoc (o l:List ByteArray) (n:ByteArray):addNs o (l++[n])=addN (addNs o l) n:=by
 unfold addNs
 rw [List.foldl_append]
 rfl
set_option maxHeartbeats 8000000 in
theorem tablesAdd_satM (out names:List ByteArray) (h1:out.length+names.length≤1048576) :
  SatM Tryz.prog 22 [.one (.sl 1 (names.map strL)),.one (.ptr 1000 0)] [(1000,[.ref 1000 0 out.length])] [(1000,⟨1,out.map strL,[]⟩)]
   (.tup []) [(1000,[.ref 22 0 (addNs out names).length])] [(22,⟨1,(addNs out names).map strL,[]⟩)]:=by
 refine sM tyOk [1000] [22] Tryz.func22 fun w0 m0 F0=>?_
 simp only [Tryz.ntmps22,envOf,Nat.reduceAdd]
 refine AWP.renR 1000 22 rfl rfl (by decide) (.inl (Nat.le_of_ble_eq_true rfl)) ?_
 simp -dsimp (disch:=first|exact D|fail) only [go_sem,↓reduceIte,seval,renR_mk,L.ren,L.ren0]
 repeat' (first|((first|with_reducible refine qV tyOk fun K hK=>?_|refine Q2 ?_|((with_reducible first|refine qS ?_ ?_|refine qT ?_ ?_|refine qU ?_ ?_)<;>(intro h;try simp only [NM] at h)))<;>simp -dsimp (disch:=first|exact D|fail) only [go_sem,↓reduceIte,seval])|((with_reducible refine hK _ ?_);clear hK K)|refine Q1 ?_|((with_reducible refine qW (T:=TT) (b:=?_) ?_ ?_);rotate_left;exact rfl)|((with_reducible refine yS ?_ ?_)<;>(intro h;try simp only [NM] at h)))
 refine AWP.loop (ι:={k:Nat // k≤names.length}) (fun k=>⟨24,[(1,.v (.one (.ptr 1000 0))),(5,.v (.one (.sl 1 (names.map strL)))),(6,.v (oI names.length)),(7,.v (oI k.1))],[(1000,[.ref 22 0 (addNs out (names.take k.1)).length])],[(22,⟨1,(addNs out (names.take k.1)).map strL,[]⟩)]⟩) (fun k=>names.length - k.1) ⟨0,Nat.zero_le _⟩ ?_ fun ⟨k,hk⟩=>?_
 ·refine St.le_mk ?_ ?_ ?_<;>simp only [LE,EN,Nat.reduceEqDiff,reduceIte,Nat.reduceSub,List.take_zero,addNs,List.foldl_nil,Int.natCast_zero]
 simp only at hk ⊢
 rcases Nat.lt_or_ge k names.length with hc|hc
 ·obtain ⟨x,hx⟩:∃x,names[k]=x:=⟨_,rfl⟩
  have nx:addNs out (names.take (k+1))=addN (addNs out (names.take k)) x:=by rw [take_snoc names k hc,addNs_snoc,hx]
  have lo:=addNs_len (names.take k) out
  have lt:(names.take k).length=k:=by simp;omega
  obtain ⟨o,ho⟩:∃o,addNs out (names.take k)=o:=⟨_,rfl⟩
  rw [ho] at nx lo ⊢
  have gx:(names.map strL).getD k []=[.str x]:=by rw [getD_map_lt _ _ _ hc,hx];rfl
  have ct:=containsStr_sat o x (by omega)
  by_cases h2:x=ByteArray.empty
  ·have e1:(x.toList==(⟨#[]⟩:ByteArray).toList)=true:=by rw [h2];exact sEq_iff.2 rfl
   have e2:addN o x=o:=by unfold addN;rw [if_pos (.inl (sEq_iff.2 h2))]
   repeat' (first|((first|with_reducible refine qV tyOk fun K hK=>?_|refine Q2 ?_|((with_reducible first|refine qS ?_ ?_|refine qT ?_ ?_|refine qU ?_ ?_)<;>(intro h;try simp only [NM] at h)))<;>simp -dsimp (disch:=first|exact D|fail) only [go_sem,↓reduceIte,seval,gx,e1,Option.getD_none])|((with_reducible refine hK _ ?_);clear hK K)|refine Q1 ?_|((with_reducible refine qW (T:=TT) (b:=?_) ?_ ?_);rotate_left;exact rfl)|((with_reducible refine yS ?_ ?_)<;>(intro h;try simp only [NM] at h)))
   refine ⟨⟨k+1,by omega⟩,by simp only;omega,?_⟩
   refine St.le_mk ?_ ?_ ?_<;>simp only [LE,EN,Nat.reduceEqDiff,reduceIte,Nat.reduceSub,nx,e2,Int.natCast_add,Int.natCast_one]
  have e1:(x.toList==(⟨#[]⟩:ByteArray).toList)=false:=sEq_ne h2
  cases h3:memB o x with
  | true =>
   have e2:addN o x=o:=by unfold addN;rw [if_pos (.inr h3)]
   rw [h3] at ct
   repeat' (first|((first|with_reducible refine qV tyOk fun K hK=>?_|refine Q2 ?_|((with_reducible first|refine qS ?_ ?_|refine qT ?_ ?_|refine qU ?_ ?_)<;>(intro h;try simp only [NM] at h))|((with_reducible refine CallJ.is ?_);(first|refine CallJ.pure (ct) ?_|((apply CallJ.lentI);(focus (simp -dsimp (disch:=first|exact D|fail) only [go_sem,↓reduceIte,seval,gx,e1,frz_strL,Option.getD_none];rfl));(focus (first|exact (ct)))))))<;>simp -dsimp (disch:=first|exact D|fail) only [go_sem,↓reduceIte,seval,gx,e1,frz_strL,Option.getD_none])|((with_reducible refine hK _ ?_);clear hK K)|refine Q1 ?_|((with_reducible refine qW (T:=TT) (b:=?_) ?_ ?_);rotate_left;exact rfl)|((with_reducible refine yS ?_ ?_)<;>(intro h;try simp only [NM] at h)))
   refine ⟨⟨k+1,by omega⟩,by simp only;omega,?_⟩
   refine St.le_mk ?_ ?_ ?_<;>simp only [LE,EN,Nat.reduceEqDiff,reduceIte,Nat.reduceSub,nx,e2,Int.natCast_add,Int.natCast_one]
  | false =>
   have e2:addN o x=o++[x]:=by unfold addN;rw [if_neg (by rw [h3,sEq_ne h2];simp)]
   rw [h3] at ct
   repeat' (first|((first|with_reducible refine qV tyOk fun K hK=>?_|refine Q2 ?_|((with_reducible first|refine qS ?_ ?_|refine qT ?_ ?_|refine qU ?_ ?_)<;>(intro h;try simp only [NM] at h))|((with_reducible refine CallJ.is ?_);(first|refine CallJ.pure (ct) ?_|((apply CallJ.lentI);(focus (simp -dsimp (disch:=first|exact D|fail) only [go_sem,↓reduceIte,seval,gx,e1,frz_strL,Option.getD_none];rfl));(focus (first|exact (ct)))))))<;>simp -dsimp (disch:=first|exact D|fail) only [go_sem,↓reduceIte,seval,gx,e1,frz_strL,Option.getD_none])|((with_reducible refine hK _ ?_);clear hK K)|refine Q1 ?_|((with_reducible refine qW (T:=TT) (b:=?_) ?_ ?_);rotate_left;exact rfl)|((with_reducible refine yS ?_ ?_)<;>(intro h;try simp only [NM] at h)))
   refine ⟨⟨k+1,by omega⟩,by simp only;omega,?_⟩
   refine St.le_mk ?_ ?_ ?_<;>simp only [LE,EN,Nat.reduceEqDiff,reduceIte,Nat.reduceSub,nx,e2,strL,List.map_append,List.map_cons,List.map_nil,List.length_append,List.length_cons,List.length_nil,Nat.zero_add,Int.natCast_add,Int.natCast_one]
 ·have hk2:k=names.length:=by omega
  subst hk2
  rw [List.take_length]
  repeat' (first|((first|with_reducible refine qV tyOk fun K hK=>?_|refine Q2 ?_|((with_reducible first|refine qS ?_ ?_|refine qT ?_ ?_|refine qU ?_ ?_)<;>(intro h;try simp only [NM] at h)))<;>simp -dsimp (disch:=first|exact D|fail) only [go_sem,↓reduceIte,seval])|((with_reducible refine hK _ ?_);clear hK K)|refine Q1 ?_|((with_reducible refine qW (T:=TT) (b:=?_) ?_ ?_);rotate_left;exact rfl)|((with_reducible refine yS ?_ ?_)<;>(intro h;try simp only [NM] at h)))
  simp -dsimp (disch:=first|exact D|fail) only [retQ,Tryz.results22,resVals,cellRV,resOf,St.rest,St.freeze,RT,go_sem,↓reduceIte,seval]
def nOutB:Except Int (List ByteArray)→List ByteArray
 | .error _=>[]
 | .ok l=>l
theorem namesL_snoc (o:List ByteArray):∀(l:List Stp) (st:Stp),namesL o (l++[st])=addNs (namesL o l) (namesOf st)
 | [],st=>rfl
 | s::r,st=>by
  rw [List.cons_append,namesL,namesL]
  exact namesL_snoc _ r st
theorem namesOf_len (st:Stp):(namesOf st).length≤6:=by
 unfold namesOf
 (repeat' split)<;>simp
theorem namesL_len:∀(l:List Stp) (o:List ByteArray),(namesL o l).length≤o.length+6 * l.length
 | [],o=>by simp [namesL]
 | st::r,o=>by
  have h1:=namesL_len r (addNs o (namesOf st))
  have h2:=addNs_len (namesOf st) o
  have h3:=namesOf_len st
  rw [namesL,List.length_cons]
  omega
set_option maxHeartbeats 32000000 in
theorem tables_sat (s:Sch) (l:List Stp) (hs:s.Fits) (hl:l.length≤140737488355328) (hf:∀st∈l,st.Fits):Sat Tryz.prog 12 [.agg (eSch s),.one (eScr l)] (.tup [.one (.sl 1 ((nOutB (tabs s l)).map strL)),oI (rE (tabs s l))]):=by
 have c1:=scrApply_sat s l hs hl hf
 unfold eScr at c1 ⊢
 cases hR:scrApply s l with
 | error e =>
  have spec:tabs s l=.error e:=by unfold tabs;rw [hR]
  have he:=scrApply_ne hR
  rw [hR] at c1
  rw [spec]
  unfold sOut rE at c1
  unfold nOutB rE
  simp only [List.map_nil] at c1 ⊢
  refine sS tyOk Tryz.func12 fun w0 m0 F0=>?_
  simp only [Tryz.ntmps12,envOf,Nat.reduceAdd]
  repeat' (first|((first|with_reducible refine qV tyOk fun K hK=>?_|refine Q2 ?_|((with_reducible first|refine qS ?_ ?_|refine qT ?_ ?_|refine qU ?_ ?_)<;>(intro h;try simp only [NM] at h))|((with_reducible refine CallJ.is ?_);(first|refine CallJ.pure (c1) ?_|((apply CallJ.lentI);(focus (simp -dsimp (disch:=first|exact D|fail) only [go_sem,↓reduceIte,seval,eSch,he];rfl));(focus (first|exact (c1)))))))<;>simp -dsimp (disch:=first|exact D|fail) only [go_sem,↓reduceIte,seval,eSch,he])|((with_reducible refine hK _ ?_);clear hK K)|refine Q1 ?_|((with_reducible refine qW (T:=TT) (b:=?_) ?_ ?_);rotate_left;exact rfl)|((with_reducible refine yS ?_ ?_)<;>(intro h;try simp only [NM] at h)))
  simp -dsimp (disch:=first|exact D|fail) only [retQ,Tryz.results12,resVals,cellRV,resOf,St.rest,St.freeze,RT,go_sem,↓reduceIte,seval]
 | ok u =>
  have spec:tabs s l=.ok (sortB (namesL [] l)):=by unfold tabs;rw [hR]
  obtain ⟨l6,_,_⟩:=scrApply_parts hR
  rw [hR] at c1
  rw [spec]
  unfold sOut rE at c1
  unfold nOutB rE
  simp only at c1 ⊢
  refine sS tyOk Tryz.func12 fun w0 m0 F0=>?_
  simp only [Tryz.ntmps12,envOf,Nat.reduceAdd]
  repeat' (first|((first|((fail_if_success (refine AWP.isRegion 6 ?_));(with_reducible refine qV tyOk fun K hK=>?_))|refine Q2 ?_|((with_reducible first|refine qS ?_ ?_|refine qT ?_ ?_|refine qU ?_ ?_)<;>(intro h;try simp only [NM] at h))|((with_reducible refine CallJ.is ?_);(first|refine CallJ.pure (c1) ?_|((apply CallJ.lentI);(focus (simp -dsimp (disch:=first|exact D|fail) only [go_sem,↓reduceIte,seval,eSch];rfl));(focus (first|exact (c1)))))))<;>simp -dsimp (disch:=first|exact D|fail) only [go_sem,↓reduceIte,seval,eSch])|((with_reducible refine hK _ ?_);clear hK K)|refine Q1 ?_|((with_reducible refine qW (T:=TT) (b:=?_) ?_ ?_);rotate_left;exact rfl)|((with_reducible refine yS ?_ ?_)<;>(intro h;try simp only [NM] at h)))
  refine AWP.nilBox 8 0 53 rfl rfl (.inl (by show 53<56;decide)) ?_
  simp -dsimp (disch:=first|exact D|fail) only [go_sem,↓reduceIte,seval,nilBoxR_mk,List.set_cons_zero,List.set_cons_succ]
  repeat' (first|((first|with_reducible refine qV tyOk fun K hK=>?_|refine Q2 ?_|((with_reducible first|refine qS ?_ ?_|refine qT ?_ ?_|refine qU ?_ ?_)<;>(intro h;try simp only [NM] at h)))<;>simp -dsimp (disch:=first|exact D|fail) only [go_sem,↓reduceIte,seval])|((with_reducible refine hK _ ?_);clear hK K)|refine Q1 ?_|((with_reducible refine qW (T:=TT) (b:=?_) ?_ ?_);rotate_left;exact rfl)|((with_reducible refine yS ?_ ?_)<;>(intro h;try simp only [NM] at h)))
  refine AWP.midB ⟨56,[(8,.v (.one (.ptr 8 0)))],[(8,[.ref 53 0 (namesL [] l).length])],[(53,⟨1,(namesL [] l).map strL,[]⟩)]⟩ ?_ ?_
  ·refine AWP.loop (ι:={k:Nat // k≤l.length}) (fun k=>⟨56,[(8,.v (.one (.ptr 8 0))),(9,.v (.one (.clo 22 [.ptr 8 0]))),(22,.v (.one (.sl 24 (l.map eStp)))),(23,.v (oI l.length)),(24,.v (oI k.1))],[(8,[.ref 53 0 (namesL [] (l.take k.1)).length])],[(53,⟨1,(namesL [] (l.take k.1)).map strL,[]⟩)]⟩) (fun k=>l.length - k.1) ⟨0,Nat.zero_le _⟩ ?_ fun ⟨k,hk⟩=>?_
   ·refine St.le_mk ?_ ?_ ?_<;>simp only [LE,EN,Nat.reduceEqDiff,reduceIte,Nat.reduceSub,List.take_zero,namesL,List.map_nil,List.length_nil,Int.natCast_zero]
   simp only at hk ⊢
   rcases Nat.lt_or_ge k l.length with hc|hc
   ·obtain ⟨st,hst⟩:∃st,l[k]=st:=⟨_,rfl⟩
    have nx:namesL [] (l.take (k+1))=addNs (namesL [] (l.take k)) (namesOf st):=by rw [take_snoc l k hc,namesL_snoc,hst]
    have lo:=namesL_len (l.take k) []
    have lt:(l.take k).length=k:=by simp;omega
    obtain ⟨o,ho⟩:∃o,namesL [] (l.take k)=o:=⟨_,rfl⟩
    rw [ho] at nx lo ⊢
    simp only [List.length_nil] at lo
    have gs:(l.map eStp).getD k []=eStp st:=by rw [getD_map_lt _ _ _ hc,hst]
    have tn:=tableName_sat st
    obtain ⟨T,hT⟩:∃T,(if st.kind=10 then st.newTable.name else st.table)=T:=⟨_,rfl⟩
    rw [hT] at tn
    have a1:=tablesAdd_satM o [T,st.other,st.con.table,st.fk.table,st.fk.ref] (by simp;omega)
    simp only [List.map_cons,List.map_nil,strL] at a1
    obtain ⟨o1,ho1⟩:∃o1,addNs o [T,st.other,st.con.table,st.fk.table,st.fk.ref]=o1:=⟨_,rfl⟩
    rw [ho1] at a1
    have l1:=addNs_len [T,st.other,st.con.table,st.fk.table,st.fk.ref] o
    rw [ho1] at l1
    simp only [List.length_cons,List.length_nil] at l1
    by_cases h4:st.kind=4
    ·have e4:(st.kind==4)=true:=by simp [h4]
     have a2:=tablesAdd_satM o1 [st.newName] (by simp;omega)
     simp only [List.map_cons,List.map_nil,strL] at a2
     have nn:addNs o (namesOf st)=addNs o1 [st.newName]:=by
      unfold namesOf
      rw [hT,if_pos h4,←ho1]
      unfold addNs
      rw [List.foldl_append]
     repeat' (first|((first|((fail_if_success (refine AWP.isRegion 11 ?_));(with_reducible refine qV tyOk fun K hK=>?_))|(refine AWP.isRegion 9 ?_;refine dX tyOk mixed [(0,2),(3,11)] [(2,[],[(0,1),(3,11)]),(14,[],[(0,1)]),(15,[],[])] [2,14,15] 8 fun K hK=>?_;simp only [SG,segs] at hK ⊢)|refine Q2 ?_|((with_reducible first|refine qS ?_ ?_|refine qT ?_ ?_|refine qU ?_ ?_)<;>(intro h;try simp only [NM] at h))|((with_reducible refine CallJ.is ?_);(refine CallJ.frzThen [8,11] [53] ?_);(simp -dsimp (disch:=first|exact D|fail) only [go_sem,↓reduceIte,seval,okIds_ref,topL_cloP,gs,eStp,e4,Option.getD_none,dropL_nil,dropL_nil',dropL_cons,RT,St.rest,St.freeze]);refine CallJ.io [(1000,8)] [(1000,53)] [(1000,8)] [(22,53)] [] [53,53] [8,8] [53,53] (a1) rfl ⟨rfl,rfl,rfl,rfl⟩ ?_ ?_ ?_)|((with_reducible refine CallJ.is ?_);(first|refine CallJ.pure (tn) ?_|((apply CallJ.lentI);(focus (simp -dsimp (disch:=first|exact D|fail) only [go_sem,↓reduceIte,seval,okIds_ref,topL_cloP,gs,eStp,e4,Option.getD_none,dropL_nil,dropL_nil',dropL_cons];rfl));(focus (first|exact (tn))))))|(with_reducible first|refine VCy.some fun K hK=>?_|refine VCy.step fun K hK=>?_))<;>simp -dsimp (disch:=first|exact D|fail) only [go_sem,↓reduceIte,seval,okIds_ref,topL_cloP,gs,eStp,e4,Option.getD_none,dropL_nil,dropL_nil',dropL_cons])|((with_reducible refine hK _ ?_);clear hK K)|(with_reducible refine VCy.intro fun K0 hK0=>?_)|((with_reducible refine VCy.fin ?_);(refine hK0 _ ?_);clear hK0 K0)|(with_reducible first|refine VCy.quiet ?_|refine VCy.none ?_)|((with_reducible refine VCy.keep ?_ ?_);focus ((simp -dsimp (disch:=first|exact D|fail) only [go_sem,↓reduceIte,seval,Stable_cons,Stable_nil,sameA_some,sameA_none,okIds_ref,topL_cloP,gs,eStp,e4,Option.getD_none,dropL_nil,dropL_nil',dropL_cons]);first|done|exact E|fail))|refine Q1 ?_|((with_reducible refine qW (T:=TT) (b:=?_) ?_ ?_);rotate_left;exact rfl)|((with_reducible refine yS ?_ ?_)<;>(intro h;try simp only [NM] at h)))
     repeat' (first|((first|with_reducible refine qV tyOk fun K hK=>?_|refine Q2 ?_|((with_reducible first|refine qS ?_ ?_|refine qT ?_ ?_|refine qU ?_ ?_)<;>(intro h;try simp only [NM] at h))|((with_reducible refine CallJ.is ?_);(refine CallJ.frzThen [8,11] [53] ?_);(simp -dsimp (disch:=first|exact D|fail) only [go_sem,↓reduceIte,seval,okIds_ref,topL_cloP,Option.getD_none,dropL_nil,dropL_nil',dropL_cons,RT,St.rest,St.freeze]);refine CallJ.io [(1000,8)] [(1000,53)] [(1000,8)] [(22,53)] [] [53,53] [8,8] [53,53] (a2) rfl ⟨rfl,rfl,rfl,rfl⟩ ?_ ?_ ?_))<;>simp -dsimp (disch:=first|exact D|fail) only [go_sem,↓reduceIte,seval,okIds_ref,topL_cloP,Option.getD_none,dropL_nil,dropL_nil',dropL_cons])|((with_reducible refine hK _ ?_);clear hK K)|refine Q1 ?_|((with_reducible refine qW (T:=TT) (b:=?_) ?_ ?_);rotate_left;exact rfl)|((with_reducible refine yS ?_ ?_)<;>(intro h;try simp only [NM] at h)))
     refine ⟨⟨k+1,by omega⟩,by simp only;omega,?_⟩
     refine St.le_mk ?_ ?_ ?_<;>simp only [LE,EN,Nat.reduceEqDiff,reduceIte,Nat.reduceSub,nx,nn,Int.natCast_add,Int.natCast_one]
    ·have e4:(st.kind==4)=false:=by simp [h4]
     have nn:addNs o (namesOf st)=o1:=by
      unfold namesOf
      rw [hT,if_neg h4,←ho1,List.append_nil]
     repeat' (first|((first|with_reducible refine qV tyOk fun K hK=>?_|(refine AWP.isRegion 9 ?_;refine dX tyOk mixed [(0,2),(3,11)] [(2,[],[(0,1),(3,11)]),(14,[],[(0,1)]),(15,[],[])] [2,14,15] 8 fun K hK=>?_;simp only [SG,segs] at hK ⊢)|refine Q2 ?_|((with_reducible first|refine qS ?_ ?_|refine qT ?_ ?_|refine qU ?_ ?_)<;>(intro h;try simp only [NM] at h))|((with_reducible refine CallJ.is ?_);(refine CallJ.frzThen [8,11] [53] ?_);(simp -dsimp (disch:=first|exact D|fail) only [go_sem,↓reduceIte,seval,okIds_ref,topL_cloP,gs,eStp,e4,Option.getD_none,dropL_nil,dropL_nil',dropL_cons,RT,St.rest,St.freeze]);refine CallJ.io [(1000,8)] [(1000,53)] [(1000,8)] [(22,53)] [] [53,53] [8,8] [53,53] (a1) rfl ⟨rfl,rfl,rfl,rfl⟩ ?_ ?_ ?_)|((with_reducible refine CallJ.is ?_);(first|refine CallJ.pure (tn) ?_|((apply CallJ.lentI);(focus (simp -dsimp (disch:=first|exact D|fail) only [go_sem,↓reduceIte,seval,okIds_ref,topL_cloP,gs,eStp,e4,Option.getD_none,dropL_nil,dropL_nil',dropL_cons];rfl));(focus (first|exact (tn))))))|(with_reducible first|refine VCy.some fun K hK=>?_|refine VCy.step fun K hK=>?_))<;>simp -dsimp (disch:=first|exact D|fail) only [go_sem,↓reduceIte,seval,okIds_ref,topL_cloP,gs,eStp,e4,Option.getD_none,dropL_nil,dropL_nil',dropL_cons])|((with_reducible refine hK _ ?_);clear hK K)|(with_reducible refine VCy.intro fun K0 hK0=>?_)|((with_reducible refine VCy.fin ?_);(refine hK0 _ ?_);clear hK0 K0)|(with_reducible first|refine VCy.quiet ?_|refine VCy.none ?_)|((with_reducible refine VCy.keep ?_ ?_);focus ((simp -dsimp (disch:=first|exact D|fail) only [go_sem,↓reduceIte,seval,Stable_cons,Stable_nil,sameA_some,sameA_none,okIds_ref,topL_cloP,gs,eStp,e4,Option.getD_none,dropL_nil,dropL_nil',dropL_cons]);first|done|exact E|fail))|refine Q1 ?_|((with_reducible refine qW (T:=TT) (b:=?_) ?_ ?_);rotate_left;exact rfl)|((with_reducible refine yS ?_ ?_)<;>(intro h;try simp only [NM] at h)))
     refine ⟨⟨k+1,by omega⟩,by simp only;omega,?_⟩
     refine St.le_mk ?_ ?_ ?_<;>simp only [LE,EN,Nat.reduceEqDiff,reduceIte,Nat.reduceSub,nx,nn,Int.natCast_add,Int.natCast_one]
   ·have hk2:k=l.length:=by omega
    subst hk2
    rw [List.take_length]
    repeat' (first|((first|with_reducible refine qV tyOk fun K hK=>?_|refine Q2 ?_|((with_reducible first|refine qS ?_ ?_|refine qT ?_ ?_|refine qU ?_ ?_)<;>(intro h;try simp only [NM] at h)))<;>simp -dsimp (disch:=first|exact D|fail) only [go_sem,↓reduceIte,seval])|((with_reducible refine hK _ ?_);clear hK K)|refine Q1 ?_|((with_reducible refine qW (T:=TT) (b:=?_) ?_ ?_);rotate_left;exact rfl)|((with_reducible refine yS ?_ ?_)<;>(intro h;try simp only [NM] at h)))
    refine Gq.done ⟨rfl,?_⟩
    refine St.le_mk ?_ ?_ ?_<;>simp only [LE,EN,Nat.reduceEqDiff,reduceIte,Nat.reduceSub]
  have so:=sortStr_satM (namesL [] l) (by have:=namesL_len l [];simp only [List.length_nil] at this;omega)
  have ls:=sortB_length (namesL [] l)
  rw [←ls]
  rw [←ls] at so
  repeat' (first|((first|with_reducible refine qV tyOk fun K hK=>?_|refine Q2 ?_|((with_reducible first|refine qS ?_ ?_|refine qT ?_ ?_|refine qU ?_ ?_)<;>(intro h;try simp only [NM] at h))|((with_reducible refine CallJ.is ?_);refine CallJ.io [] [(1000,53)] [] [(1000,53)] [] [] [] [53,53] (so) rfl ⟨rfl,rfl,rfl,rfl⟩ ?_ ?_ ?_))<;>simp -dsimp (disch:=first|exact D|fail) only [go_sem,↓reduceIte,seval,dropL_nil,dropL_nil',dropL_cons])|((with_reducible refine hK _ ?_);clear hK K)|refine Q1 ?_|((with_reducible refine qW (T:=TT) (b:=?_) ?_ ?_);rotate_left;exact rfl)|((with_reducible refine yS ?_ ?_)<;>(intro h;try simp only [NM] at h)))
  simp -dsimp (disch:=first|exact D|fail) only [retQ,Tryz.results12,resVals,cellRV,resOf,St.rest,St.freeze,RT,go_sem,↓reduceIte,seval]
  rw [frz_strL]
theorem tabs_len {s:Sch} {l:List Stp} {A:List ByteArray} (h:tabs s l=.ok A):A.length≤36:=by
 obtain ⟨rfl,x,hx⟩:=tabs_ok h
 obtain ⟨h6,_,_⟩:=scrApply_parts hx
 rw [sortB_length]
 have:=namesL_len l []
 simp only [List.length_nil] at this
 omega
theorem scrClone_own (s:List Stp) (h1:s.length≤1048576) (h2:∀st∈s,st.Fits):SatM Tryz.prog 14 [.one (eScr s)] [] [] (.v (.one (.ref 2 0 s.length))) [] [(2,⟨24,s.map eStp,[]⟩)]:=by
 unfold eScr
 refine sM tyOk [] [2] Tryz.func14 fun w0 m0 F0=>?_
 simp only [Tryz.ntmps14,envOf,Nat.reduceAdd]
 repeat' (first|((first|with_reducible refine qV tyOk fun K hK=>?_|refine Q2 ?_|((with_reducible first|refine qS ?_ ?_|refine qT ?_ ?_|refine qU ?_ ?_)<;>(intro h;try simp only [NM] at h)))<;>simp -dsimp (disch:=first|exact D|fail) only [go_sem,↓reduceIte,seval])|((with_reducible refine hK _ ?_);clear hK K)|refine Q1 ?_|((with_reducible refine qW (T:=TT) (b:=?_) ?_ ?_);rotate_left;exact rfl)|((with_reducible refine yS ?_ ?_)<;>(intro h;try simp only [NM] at h)))
 refine AWP.loop (ι:={k:Nat // k≤s.length}) (fun k=>⟨19,[(3,.v (.one (.ref 3 0 k.1))),(6,.v (.one (.sl 24 (s.map eStp)))),(7,.v (oI s.length)),(8,.v (oI k.1))],[],[(3,⟨24,(s.take k.1).map eStp,[]⟩)]⟩) (fun k=>s.length - k.1) ⟨0,Nat.zero_le _⟩ ?_ fun ⟨k,hkl⟩=>?_
 ·refine St.le_mk ?_ ?_ ?_<;>simp only [LE,EN,Nat.reduceEqDiff,reduceIte,Nat.reduceSub,List.map_nil]
 simp only at hkl ⊢
 have hlen:(s.take k).length=k:=by simp;omega
 rcases Nat.lt_or_ge k s.length with hc|hc
 ·have c:=stpClone_sat s[k] (h2 _ (List.getElem_mem hc))
  have gs:(s.map eStp).getD k []=eStp s[k]:=getD_map_lt _ _ _ hc
  repeat' (first|((first|with_reducible refine qV tyOk fun K hK=>?_|refine Q2 ?_|((with_reducible first|refine qS ?_ ?_|refine qT ?_ ?_|refine qU ?_ ?_)<;>(intro h;try simp only [NM] at h))|((with_reducible refine CallJ.is ?_);(first|refine CallJ.pure (c) ?_|((apply CallJ.lentI);(focus (simp -dsimp (disch:=first|exact D|fail) only [go_sem,↓reduceIte,seval,gs,hlen,eStp,eTbl,Option.getD_none];rfl));(focus (first|exact (c)))))))<;>simp -dsimp (disch:=first|exact D|fail) only [go_sem,↓reduceIte,seval,gs,hlen,eStp,eTbl,Option.getD_none])|((with_reducible refine hK _ ?_);clear hK K)|refine Q1 ?_|((with_reducible refine qW (T:=TT) (b:=?_) ?_ ?_);rotate_left;exact rfl)|((with_reducible refine yS ?_ ?_)<;>(intro h;try simp only [NM] at h)))
  refine ⟨⟨k+1,by omega⟩,by simp only;omega,?_⟩
  have e:=take_snoc s k hc
  refine St.le_mk ?_ ?_ ?_<;>simp only [LE,EN,Nat.reduceEqDiff,reduceIte,Nat.reduceSub,e,eStp,eTbl,List.map_append,List.map_cons,List.map_nil]
 ·have hk:k=s.length:=by omega
  subst hk
  repeat' (first|((first|with_reducible refine qV tyOk fun K hK=>?_|refine Q2 ?_|((with_reducible first|refine qS ?_ ?_|refine qT ?_ ?_|refine qU ?_ ?_)<;>(intro h;try simp only [NM] at h)))<;>simp -dsimp (disch:=first|exact D|fail) only [go_sem,↓reduceIte,seval])|((with_reducible refine hK _ ?_);clear hK K)|refine Q1 ?_|((with_reducible refine qW (T:=TT) (b:=?_) ?_ ?_);rotate_left;exact rfl)|((with_reducible refine yS ?_ ?_)<;>(intro h;try simp only [NM] at h)))
  simp -dsimp (disch:=first|exact D|fail) only [retQ,Tryz.results14,resVals,cellRV,resOf,St.rest,St.freeze,RT,go_sem,↓reduceIte,seval]
def scrOut:Except Int (List Stp)→List Stp
 | .error _=>[]
 | .ok l=>l
theorem clash_step (A B:List ByteArray) (k:Nat) (hk:k<A.length) (h:clash (A.take k) B=false):clash (A.take (k+1)) B=memB B A[k]:=by
 unfold clash at h ⊢
 rw [take_snoc A k hk,List.any_append,h]
 simp
set_option maxHeartbeats 32000000 in
theorem merge_sat (s:Sch) (a b:List Stp) (hs:s.Fits) (ha:a.length≤140737488355328) (hb:b.length≤140737488355328) (fa:∀st∈a,st.Fits) (fb:∀st∈b,st.Fits) :
  Sat Tryz.prog 5 [.agg (eSch s),.one (eScr a),.one (eScr b)] (.tup [.one (eScr (scrOut (mergeE s a b))),oI (rE (mergeE s a b))]):=by
 have c1:=tables_sat s a hs ha fa
 have c2:=tables_sat s b hs hb fb
 unfold eScr at c1 c2 ⊢
 cases hA:tabs s a with
 | error e =>
  have spec:mergeE s a b=.error e:=by unfold mergeE;rw [hA]
  have he:=mergeE_ne spec
  rw [hA] at c1
  rw [spec]
  unfold nOutB rE at c1
  unfold scrOut rE
  simp only [List.map_nil] at c1 ⊢
  refine sS tyOk Tryz.func5 fun w0 m0 F0=>?_
  simp only [Tryz.ntmps5,envOf,Nat.reduceAdd]
  repeat' (first|((first|with_reducible refine qV tyOk fun K hK=>?_|refine Q2 ?_|((with_reducible first|refine qS ?_ ?_|refine qT ?_ ?_|refine qU ?_ ?_)<;>(intro h;try simp only [NM] at h))|((with_reducible refine CallJ.is ?_);(first|refine CallJ.pure (c1) ?_|((apply CallJ.lentI);(focus (simp -dsimp (disch:=first|exact D|fail) only [go_sem,↓reduceIte,seval,eSch,he];rfl));(focus (first|exact (c1)))))))<;>simp -dsimp (disch:=first|exact D|fail) only [go_sem,↓reduceIte,seval,eSch,he])|((with_reducible refine hK _ ?_);clear hK K)|refine Q1 ?_|((with_reducible refine qW (T:=TT) (b:=?_) ?_ ?_);rotate_left;exact rfl)|((with_reducible refine yS ?_ ?_)<;>(intro h;try simp only [NM] at h)))
  simp -dsimp (disch:=first|exact D|fail) only [retQ,Tryz.results5,resVals,cellRV,resOf,St.rest,St.freeze,RT,go_sem,↓reduceIte,seval]
 | ok A =>
 rw [hA] at c1
 unfold nOutB rE at c1
 simp only at c1
 cases hB:tabs s b with
 | error e =>
  have spec:mergeE s a b=.error e:=by unfold mergeE;rw [hA,hB]
  have he:=mergeE_ne spec
  rw [hB] at c2
  rw [spec]
  unfold nOutB rE at c2
  unfold scrOut rE
  simp only [List.map_nil] at c2 ⊢
  refine sS tyOk Tryz.func5 fun w0 m0 F0=>?_
  simp only [Tryz.ntmps5,envOf,Nat.reduceAdd]
  repeat' (first|((first|with_reducible refine qV tyOk fun K hK=>?_|refine Q2 ?_|((with_reducible first|refine qS ?_ ?_|refine qT ?_ ?_|refine qU ?_ ?_)<;>(intro h;try simp only [NM] at h))|((with_reducible refine CallJ.is ?_);(first|refine CallJ.pure (c1) ?_|refine CallJ.pure (c2) ?_|((apply CallJ.lentI);(focus (simp -dsimp (disch:=first|exact D|fail) only [go_sem,↓reduceIte,seval,eSch,he];rfl));(focus (first|exact (c1)|exact (c2)))))))<;>simp -dsimp (disch:=first|exact D|fail) only [go_sem,↓reduceIte,seval,eSch,he])|((with_reducible refine hK _ ?_);clear hK K)|refine Q1 ?_|((with_reducible refine qW (T:=TT) (b:=?_) ?_ ?_);rotate_left;exact rfl)|((with_reducible refine yS ?_ ?_)<;>(intro h;try simp only [NM] at h)))
  simp -dsimp (disch:=first|exact D|fail) only [retQ,Tryz.results5,resVals,cellRV,resOf,St.rest,St.freeze,RT,go_sem,↓reduceIte,seval]
 | ok B =>
 rw [hB] at c2
 unfold nOutB rE at c2
 simp only at c2
 have lA:=tabs_len hA
 have lB:=tabs_len hB
 obtain ⟨_,x,hx⟩:=tabs_ok hA
 obtain ⟨_,y,hy⟩:=tabs_ok hB
 obtain ⟨la,_,_⟩:=scrApply_parts hx
 obtain ⟨lb,_,_⟩:=scrApply_parts hy
 obtain ⟨R,hR⟩:∃R,mergeE s a b=R:=⟨_,rfl⟩
 have spec:=hR
 unfold mergeE at spec
 rw [hA,hB] at spec
 simp only at spec
 rw [hR]
 have lm:(A.map strL).length=A.length:=List.length_map ..
 refine sS tyOk Tryz.func5 fun w0 m0 F0=>?_
 simp only [Tryz.ntmps5,envOf,Nat.reduceAdd]
 repeat' (first|((first|with_reducible refine qV tyOk fun K hK=>?_|refine Q2 ?_|((with_reducible first|refine qS ?_ ?_|refine qT ?_ ?_|refine qU ?_ ?_)<;>(intro h;try simp only [NM] at h))|((with_reducible refine CallJ.is ?_);(first|refine CallJ.pure (c1) ?_|refine CallJ.pure (c2) ?_|((apply CallJ.lentI);(focus (simp -dsimp (disch:=first|exact D|fail) only [go_sem,↓reduceIte,seval,eSch];rfl));(focus (first|exact (c1)|exact (c2)))))))<;>simp -dsimp (disch:=first|exact D|fail) only [go_sem,↓reduceIte,seval,eSch])|((with_reducible refine hK _ ?_);clear hK K)|refine Q1 ?_|((with_reducible refine qW (T:=TT) (b:=?_) ?_ ?_);rotate_left;exact rfl)|((with_reducible refine yS ?_ ?_)<;>(intro h;try simp only [NM] at h)))
 refine AWP.loop (ι:={k:Nat // k≤A.length∧clash (A.take k) B=false}) (fun k=>⟨59,[(1,.v (.one (.sl 24 (a.map eStp)))),(2,.v (.one (.sl 24 (b.map eStp)))),(3,.v (.one (.ptr 3 0))),(10,.v (.one (.sl 1 (B.map strL)))),(34,.v (.one (.sl 1 (A.map strL)))),(35,.v (oI A.length)),(36,.v (oI k.1))],[(3,[eTbls s.tables,eFKs s.fks,eCons s.cons])],[]⟩) (fun k=>A.length - k.1) ⟨0,Nat.zero_le _,rfl⟩ ?_ fun ⟨k,hk,hcl⟩=>?_
 ·refine St.le_mk ?_ ?_ ?_<;>simp only [LE,EN,Nat.reduceEqDiff,reduceIte,Nat.reduceSub,lm,Int.natCast_zero]
 simp only at hk hcl ⊢
 rcases Nat.lt_or_ge k A.length with hc|hc
 ·have gA:(A.map strL).getD k []=[.str A[k]]:=getD_map_lt _ _ _ hc
  have ct:=containsStr_sat B A[k] (by omega)
  have st:=clash_step A B k hc hcl
  cases hb2:memB B A[k] with
  | true =>
   rw [hb2] at ct
   have cl:clash A B=true:=clash_iff.2 ⟨A[k],List.getElem_mem hc,memB_iff.1 hb2⟩
   rw [if_pos cl] at spec
   subst spec
   unfold scrOut rE
   simp only [List.map_nil]
   repeat' (first|((first|with_reducible refine qV tyOk fun K hK=>?_|refine Q2 ?_|((with_reducible first|refine qS ?_ ?_|refine qT ?_ ?_|refine qU ?_ ?_)<;>(intro h;try simp only [NM] at h))|((with_reducible refine CallJ.is ?_);(first|refine CallJ.pure (ct) ?_|((apply CallJ.lentI);(focus (simp -dsimp (disch:=first|exact D|fail) only [go_sem,↓reduceIte,seval,gA,lm,Option.getD_none];rfl));(focus (first|exact (ct)))))))<;>simp -dsimp (disch:=first|exact D|fail) only [go_sem,↓reduceIte,seval,gA,lm,Option.getD_none])|((with_reducible refine hK _ ?_);clear hK K)|refine Q1 ?_|((with_reducible refine qW (T:=TT) (b:=?_) ?_ ?_);rotate_left;exact rfl)|((with_reducible refine yS ?_ ?_)<;>(intro h;try simp only [NM] at h)))
   simp -dsimp (disch:=first|exact D|fail) only [retQ,Tryz.results5,resVals,cellRV,resOf,St.rest,St.freeze,RT,go_sem,↓reduceIte,seval]
  | false =>
   rw [hb2] at ct st
   repeat' (first|((first|with_reducible refine qV tyOk fun K hK=>?_|refine Q2 ?_|((with_reducible first|refine qS ?_ ?_|refine qT ?_ ?_|refine qU ?_ ?_)<;>(intro h;try simp only [NM] at h))|((with_reducible refine CallJ.is ?_);(first|refine CallJ.pure (ct) ?_|((apply CallJ.lentI);(focus (simp -dsimp (disch:=first|exact D|fail) only [go_sem,↓reduceIte,seval,gA,lm,Option.getD_none];rfl));(focus (first|exact (ct)))))))<;>simp -dsimp (disch:=first|exact D|fail) only [go_sem,↓reduceIte,seval,gA,lm,Option.getD_none])|((with_reducible refine hK _ ?_);clear hK K)|refine Q1 ?_|((with_reducible refine qW (T:=TT) (b:=?_) ?_ ?_);rotate_left;exact rfl)|((with_reducible refine yS ?_ ?_)<;>(intro h;try simp only [NM] at h)))
   refine ⟨⟨k+1,by omega,st⟩,by simp only;omega,?_⟩
   refine St.le_mk ?_ ?_ ?_<;>simp only [LE,EN,Nat.reduceEqDiff,reduceIte,Nat.reduceSub,Int.natCast_add,Int.natCast_one]
 have hk2:k=A.length:=by omega
 subst hk2
 rw [List.take_length] at hcl
 rw [if_neg (by rw [hcl];simp)] at spec
 have ca:=scrClone_own a (by omega) fa
 have cb:=scrClone_sat b (by omega) fb
 have cx:=scrApply_sat s (a++b) hs (by rw [List.length_append];omega) (fun st hst=>by
  rcases List.mem_append.1 hst with h|h
  ·exact fa st h
  ·exact fb st h)
 have fe:(a.map eStp++b.map eStp).map (fun x:List L=>x.map (L.frzN 4))=(a++b).map eStp:=by
  rw [List.map_append,frz_eStp,frz_eStp,List.map_append]
 unfold eScr at ca cb cx
 repeat' (first|((first|((fail_if_success (refine AWP.isRegion 13 ?_));(with_reducible refine qV tyOk fun K hK=>?_))|refine Q2 ?_|((with_reducible first|refine qS ?_ ?_|refine qT ?_ ?_|refine qU ?_ ?_)<;>(intro h;try simp only [NM] at h)))<;>simp -dsimp (disch:=first|exact D|fail) only [go_sem,↓reduceIte,seval,lm])|((with_reducible refine hK _ ?_);clear hK K)|refine Q1 ?_|((with_reducible refine qW (T:=TT) (b:=?_) ?_ ?_);rotate_left;exact rfl)|((with_reducible refine yS ?_ ?_)<;>(intro h;try simp only [NM] at h)))
 refine AWP.regionX tyOk fun K0 hK0=>?_
 refine VOpsX.step fun K hK=>?_
 simp -dsimp (disch:=first|exact D|fail) only [go_sem,↓reduceIte,seval]
 repeat' (first|((first|with_reducible refine qV tyOk fun K hK=>?_|refine Q2 ?_|((with_reducible first|refine qS ?_ ?_|refine qT ?_ ?_|refine qU ?_ ?_)<;>(intro h;try simp only [NM] at h)))<;>simp -dsimp (disch:=first|exact D|fail) only [go_sem,↓reduceIte,seval])|((with_reducible refine hK _ ?_);clear hK K)|refine Q1 ?_|((with_reducible refine qW (T:=TT) (b:=?_) ?_ ?_);rotate_left;exact rfl)|((with_reducible refine yS ?_ ?_)<;>(intro h;try simp only [NM] at h)))
 refine VOpsX.step fun K hK=>?_
 simp -dsimp (disch:=first|exact D|fail) only [go_sem,↓reduceIte,seval]
 repeat' (first|((first|with_reducible refine qV tyOk fun K hK=>?_|refine Q2 ?_|((with_reducible first|refine qS ?_ ?_|refine qT ?_ ?_|refine qU ?_ ?_)<;>(intro h;try simp only [NM] at h))|((with_reducible refine CallJ.is ?_);refine CallJ.io [] [] [] [(2,45)] [] [45] [] [45] (ca) rfl ⟨rfl,rfl,rfl,rfl⟩ ?_ ?_ ?_))<;>simp -dsimp (disch:=first|exact D|fail) only [go_sem,↓reduceIte,seval,dropL_nil,dropL_nil',dropL_cons])|((with_reducible refine hK _ ?_);clear hK K)|refine Q1 ?_|((with_reducible refine qW (T:=TT) (b:=?_) ?_ ?_);rotate_left;exact rfl)|((with_reducible refine yS ?_ ?_)<;>(intro h;try simp only [NM] at h)))
 refine VOpsX.step fun K hK=>?_
 simp -dsimp (disch:=first|exact D|fail) only [go_sem,↓reduceIte,seval]
 repeat' (first|((first|with_reducible refine qV tyOk fun K hK=>?_|refine Q2 ?_|((with_reducible first|refine qS ?_ ?_|refine qT ?_ ?_|refine qU ?_ ?_)<;>(intro h;try simp only [NM] at h)))<;>simp -dsimp (disch:=first|exact D|fail) only [go_sem,↓reduceIte,seval])|((with_reducible refine hK _ ?_);clear hK K)|refine Q1 ?_|((with_reducible refine qW (T:=TT) (b:=?_) ?_ ?_);rotate_left;exact rfl)|((with_reducible refine yS ?_ ?_)<;>(intro h;try simp only [NM] at h)))
 refine VOpsX.step fun K hK=>?_
 simp -dsimp (disch:=first|exact D|fail) only [go_sem,↓reduceIte,seval]
 repeat' (first|((first|with_reducible refine qV tyOk fun K hK=>?_|refine Q2 ?_|((with_reducible first|refine qS ?_ ?_|refine qT ?_ ?_|refine qU ?_ ?_)<;>(intro h;try simp only [NM] at h))|((with_reducible refine CallJ.is ?_);(first|refine CallJ.pure (cb) ?_|((apply CallJ.lentI);(focus (simp -dsimp (disch:=first|exact D|fail) only [go_sem,↓reduceIte,seval];rfl));(focus (first|exact (cb)))))))<;>simp -dsimp (disch:=first|exact D|fail) only [go_sem,↓reduceIte,seval])|((with_reducible refine hK _ ?_);clear hK K)|refine Q1 ?_|((with_reducible refine qW (T:=TT) (b:=?_) ?_ ?_);rotate_left;exact rfl)|((with_reducible refine yS ?_ ?_)<;>(intro h;try simp only [NM] at h)))
 refine VOpsX.step fun K hK=>?_
 simp -dsimp (disch:=first|exact D|fail) only [go_sem,↓reduceIte,seval]
 repeat' (first|((first|with_reducible refine qV tyOk fun K hK=>?_|refine Q2 ?_|((with_reducible first|refine qS ?_ ?_|refine qT ?_ ?_|refine qU ?_ ?_)<;>(intro h;try simp only [NM] at h)))<;>simp -dsimp (disch:=first|exact D|fail) only [go_sem,↓reduceIte,seval])|((with_reducible refine hK _ ?_);clear hK K)|refine Q1 ?_|((with_reducible refine qW (T:=TT) (b:=?_) ?_ ?_);rotate_left;exact rfl)|((with_reducible refine yS ?_ ?_)<;>(intro h;try simp only [NM] at h)))
 refine VOpsX.step fun K hK=>?_
 simp -dsimp (disch:=first|exact D|fail) only [go_sem,↓reduceIte,seval]
 repeat' (first|((first|with_reducible refine qV tyOk fun K hK=>?_|refine Q2 ?_|((with_reducible first|refine qS ?_ ?_|refine qT ?_ ?_|refine qU ?_ ?_)<;>(intro h;try simp only [NM] at h)))<;>simp -dsimp (disch:=first|exact D|fail) only [go_sem,↓reduceIte,seval])|((with_reducible refine hK _ ?_);clear hK K)|refine Q1 ?_|((with_reducible refine qW (T:=TT) (b:=?_) ?_ ?_);rotate_left;exact rfl)|((with_reducible refine yS ?_ ?_)<;>(intro h;try simp only [NM] at h)))
 refine VOpsX.fin (hK0 _ ?_)
 clear hK0 K0
 repeat' (first|((first|((fail_if_success (refine AWP.isRegion 14 ?_));(with_reducible refine qV tyOk fun K hK=>?_))|refine Q2 ?_|((with_reducible first|refine qS ?_ ?_|refine qT ?_ ?_|refine qU ?_ ?_)<;>(intro h;try simp only [NM] at h)))<;>simp -dsimp (disch:=first|exact D|fail) only [go_sem,↓reduceIte,seval])|((with_reducible refine hK _ ?_);clear hK K)|refine Q1 ?_|((with_reducible refine qW (T:=TT) (b:=?_) ?_ ?_);rotate_left;exact rfl)|((with_reducible refine yS ?_ ?_)<;>(intro h;try simp only [NM] at h)))
 refine AWP.frz [3] [] ?_
 simp -dsimp (disch:=first|exact D|fail) only [go_sem,↓reduceIte,seval,RT,St.rest,St.freeze,fe]
 cases hz:scrApply s (a++b) with
 | error e =>
  have he:=scrApply_ne hz
  rw [hz] at spec cx
  subst spec
  unfold sOut rE at cx
  unfold scrOut rE
  simp only [List.map_nil] at cx ⊢
  repeat' (first|((first|with_reducible refine qV tyOk fun K hK=>?_|refine Q2 ?_|((with_reducible first|refine qS ?_ ?_|refine qT ?_ ?_|refine qU ?_ ?_)<;>(intro h;try simp only [NM] at h))|((with_reducible refine CallJ.is ?_);(first|refine CallJ.pure (cx) ?_|((apply CallJ.lentI);(focus (simp -dsimp (disch:=first|exact D|fail) only [go_sem,↓reduceIte,seval,eSch,he];rfl));(focus (first|exact (cx)))))))<;>simp -dsimp (disch:=first|exact D|fail) only [go_sem,↓reduceIte,seval,eSch,he])|((with_reducible refine hK _ ?_);clear hK K)|refine Q1 ?_|((with_reducible refine qW (T:=TT) (b:=?_) ?_ ?_);rotate_left;exact rfl)|((with_reducible refine yS ?_ ?_)<;>(intro h;try simp only [NM] at h)))
  simp -dsimp (disch:=first|exact D|fail) only [retQ,Tryz.results5,resVals,cellRV,resOf,St.rest,St.freeze,RT,go_sem,↓reduceIte,seval]
 | ok z =>
  rw [hz] at spec cx
  subst spec
  unfold sOut rE at cx
  unfold scrOut rE
  simp only at cx ⊢
  repeat' (first|((first|with_reducible refine qV tyOk fun K hK=>?_|refine Q2 ?_|((with_reducible first|refine qS ?_ ?_|refine qT ?_ ?_|refine qU ?_ ?_)<;>(intro h;try simp only [NM] at h))|((with_reducible refine CallJ.is ?_);(first|refine CallJ.pure (cx) ?_|((apply CallJ.lentI);(focus (simp -dsimp (disch:=first|exact D|fail) only [go_sem,↓reduceIte,seval,eSch];rfl));(focus (first|exact (cx)))))))<;>simp -dsimp (disch:=first|exact D|fail) only [go_sem,↓reduceIte,seval,eSch])|((with_reducible refine hK _ ?_);clear hK K)|refine Q1 ?_|((with_reducible refine qW (T:=TT) (b:=?_) ?_ ?_);rotate_left;exact rfl)|((with_reducible refine yS ?_ ?_)<;>(intro h;try simp only [NM] at h)))
  simp -dsimp (disch:=first|exact D|fail) only [retQ,Tryz.results5,resVals,cellRV,resOf,St.rest,St.freeze,RT,go_sem,↓reduceIte,seval]
theorem eqTbl_same (t:Tbl) (h1:t.cols.length≤140737488355328) (h2:t.pk.length≤140737488355328):Sat Tryz.prog 8 [.agg (eTbl t),.agg (eTbl t)] (.v (oB true)):=by
 have c:=equalTables_sat t t h1 h1 h2
 rw [decide_eq_true rfl] at c
 refine sS tyOk Tryz.func8 fun w0 m0 F0=>?_
 simp only [Tryz.ntmps8,envOf,Nat.reduceAdd]
 repeat' (first|((first|with_reducible refine qV tyOk fun K hK=>?_|refine Q2 ?_|((with_reducible first|refine qS ?_ ?_|refine qT ?_ ?_|refine qU ?_ ?_)<;>(intro h;try simp only [NM] at h))|with_reducible refine yD tyOk mixed 6 (by kernel_rfl) fun K hK=>?_|((with_reducible refine CallJ.is ?_);(first|refine CallJ.pure (c) ?_|((apply CallJ.lentI);(focus (simp -dsimp (disch:=first|exact D|fail) only [go_sem,↓reduceIte,seval];rfl));(focus (first|exact (c))))))|((with_reducible refine CallH.is ?_);(first|refine CallH.intro (c) ?_)))<;>simp -dsimp (disch:=first|exact D|fail) only [go_sem,↓reduceIte,seval])|((with_reducible refine hK _ ?_);clear hK K)|refine Q1 ?_|((with_reducible refine qW (T:=TT) (b:=?_) ?_ ?_);rotate_left;exact rfl)|((with_reducible refine yS ?_ ?_)<;>(intro h;try simp only [NM] at h)))
 simp -dsimp (disch:=first|exact D|fail) only [retQ,Tryz.results8,resVals,cellRV,resOf,St.rest,St.freeze,RT,go_sem,↓reduceIte,seval]
set_option maxHeartbeats 8000000 in
theorem equalTbls_same (a:List Tbl) (h1:a.length≤140737488355328) (h3:∀t∈a,t.cols.length≤140737488355328∧t.pk.length≤140737488355328) :
  Sat Tryz.prog 7 [.one (eTbls a),.one (eTbls a),.one (.clo 8 [])] (.v (oB true)):=by
 refine sS tyOk Tryz.func7 fun w0 m0 F0=>?_
 simp only [Tryz.ntmps7,envOf,Nat.reduceAdd]
 repeat' (first|((first|with_reducible refine qV tyOk fun K hK=>?_|refine Q2 ?_|((with_reducible first|refine qS ?_ ?_|refine qT ?_ ?_|refine qU ?_ ?_)<;>(intro h;try simp only [NM] at h))|with_reducible refine yD tyOk mixed 6 (by kernel_rfl) fun K hK=>?_)<;>simp -dsimp (disch:=first|exact D|fail) only [go_sem,↓reduceIte,seval])|((with_reducible refine hK _ ?_);clear hK K)|refine Q1 ?_|((with_reducible refine qW (T:=TT) (b:=?_) ?_ ?_);rotate_left;exact rfl)|((with_reducible refine yS ?_ ?_)<;>(intro h;try simp only [NM] at h)))
 refine AWP.loop (ι:={k:Nat // k≤a.length}) (fun k=>⟨32,[(1,.v (.one (eTbls a))),(2,.v (.one (.clo 8 []))),(15,.v (.one (eTbls a))),(16,.v (oI a.length)),(17,.v (oI k.1))],[],[]⟩) (fun k=>a.length - k.1) ⟨0,Nat.zero_le _⟩ ?_ fun ⟨k,hkl⟩=>?_
 ·refine St.le_mk ?_ ?_ ?_<;>simp only [LE,EN,Nat.reduceEqDiff,reduceIte,Nat.reduceSub]
 rcases Nat.lt_or_ge k a.length with hc|hc
 ·have c:=eqTbl_same a[k] (h3 _ (List.getElem_mem hc)).1 (h3 _ (List.getElem_mem hc)).2
  repeat' (first|((first|with_reducible refine qV tyOk fun K hK=>?_|refine Q2 ?_|((with_reducible first|refine qS ?_ ?_|refine qT ?_ ?_|refine qU ?_ ?_)<;>(intro h;try simp only [NM] at h))|with_reducible refine yD tyOk mixed 6 (by kernel_rfl) fun K hK=>?_|((with_reducible refine CallJ.is ?_);(first|refine CallJ.pure (c) ?_|((apply CallJ.lentI);(focus (simp -dsimp (disch:=first|exact D|fail) only [go_sem,↓reduceIte,seval];rfl));(focus (first|exact (c))))))|((with_reducible refine CallH.is ?_);(first|refine CallH.intro (c) ?_)))<;>simp -dsimp (disch:=first|exact D|fail) only [go_sem,↓reduceIte,seval])|((with_reducible refine hK _ ?_);clear hK K)|refine Q1 ?_|((with_reducible refine qW (T:=TT) (b:=?_) ?_ ?_);rotate_left;exact rfl)|((with_reducible refine yS ?_ ?_)<;>(intro h;try simp only [NM] at h)))
  refine ⟨⟨k+1,by omega⟩,by simp only;omega,?_⟩
  refine St.le_mk ?_ ?_ ?_<;>simp only [LE,EN,Nat.reduceEqDiff,reduceIte,Nat.reduceSub]
 ·repeat' (first|((first|with_reducible refine qV tyOk fun K hK=>?_|refine Q2 ?_|((with_reducible first|refine qS ?_ ?_|refine qT ?_ ?_|refine qU ?_ ?_)<;>(intro h;try simp only [NM] at h))|with_reducible refine yD tyOk mixed 6 (by kernel_rfl) fun K hK=>?_)<;>simp -dsimp (disch:=first|exact D|fail) only [go_sem,↓reduceIte,seval])|((with_reducible refine hK _ ?_);clear hK K)|refine Q1 ?_|((with_reducible refine qW (T:=TT) (b:=?_) ?_ ?_);rotate_left;exact rfl)|((with_reducible refine yS ?_ ?_)<;>(intro h;try simp only [NM] at h)))
  simp -dsimp (disch:=first|exact D|fail) only [retQ,Tryz.results7,resVals,cellRV,resOf,St.rest,St.freeze,RT,go_sem,↓reduceIte,seval]
set_option maxHeartbeats 32000000 in
theorem versionsMergeCommutes_sat (s:Sch) (a b:List Stp) (hs:s.Fits) (ha:a.length≤140737488355328) (hb:b.length≤140737488355328) (fa:∀st∈a,st.Fits) (fb:∀st∈b,st.Fits) :
  Sat Tryz.prog 3 [.agg (eSch s),.one (eScr a),.one (eScr b)] (.v (oB true)):=by
 have c0:=graphsWork_sat
 have c1:=merge_sat s a b hs ha hb fa fb
 have c2:=merge_sat s b a hs hb ha fb fa
 unfold eScr at c1 c2 ⊢
 cases h1:mergeE s a b with
 | error e =>
  have he:=mergeE_ne h1
  rw [h1] at c1
  by_cases h13:e=13
  ·subst h13
   rw [mergeE_13 h1] at c2
   unfold scrOut rE at c1 c2
   simp only [List.map_nil] at c1 c2
   refine sS tyOk Tryz.func3 fun w0 m0 F0=>?_
   simp only [Tryz.ntmps3,envOf,Nat.reduceAdd]
   repeat' (first|((first|with_reducible refine qV tyOk fun K hK=>?_|refine Q2 ?_|((with_reducible first|refine qS ?_ ?_|refine qT ?_ ?_|refine qU ?_ ?_)<;>(intro h;try simp only [NM] at h))|((with_reducible refine CallJ.is ?_);(first|refine CallJ.pure (c0) ?_|refine CallJ.pure (c1) ?_|refine CallJ.pure (c2) ?_|((apply CallJ.lentI);(focus (simp -dsimp (disch:=first|exact D|fail) only [go_sem,↓reduceIte,seval,eSch];rfl));(focus (first|exact (c0)|exact (c1)|exact (c2)))))))<;>simp -dsimp (disch:=first|exact D|fail) only [go_sem,↓reduceIte,seval,eSch])|((with_reducible refine hK _ ?_);clear hK K)|refine Q1 ?_|((with_reducible refine qW (T:=TT) (b:=?_) ?_ ?_);rotate_left;exact rfl)|((with_reducible refine yS ?_ ?_)<;>(intro h;try simp only [NM] at h)))
   simp -dsimp (disch:=first|exact D|fail) only [retQ,Tryz.results3,resVals,cellRV,resOf,St.rest,St.freeze,RT,go_sem,↓reduceIte,seval]
  ·obtain ⟨q,hq⟩:∃q,rE (mergeE s b a)=q:=⟨_,rfl⟩
   rw [hq] at c2
   have eq:rE (.error e:Except Int (List Stp))=e:=rfl
   rw [eq] at c1
   refine sS tyOk Tryz.func3 fun w0 m0 F0=>?_
   simp only [Tryz.ntmps3,envOf,Nat.reduceAdd]
   repeat' (first|((first|with_reducible refine qV tyOk fun K hK=>?_|refine Q2 ?_|((with_reducible first|refine qS ?_ ?_|refine qT ?_ ?_|refine qU ?_ ?_)<;>(intro h;try simp only [NM] at h))|((with_reducible refine CallJ.is ?_);(first|refine CallJ.pure (c0) ?_|refine CallJ.pure (c1) ?_|refine CallJ.pure (c2) ?_|((apply CallJ.lentI);(focus (simp -dsimp (disch:=first|exact D|fail) only [go_sem,↓reduceIte,seval,eSch,he,h13];rfl));(focus (first|exact (c0)|exact (c1)|exact (c2)))))))<;>simp -dsimp (disch:=first|exact D|fail) only [go_sem,↓reduceIte,seval,eSch,he,h13])|((with_reducible refine hK _ ?_);clear hK K)|refine Q1 ?_|((with_reducible refine qW (T:=TT) (b:=?_) ?_ ?_);rotate_left;exact rfl)|((with_reducible refine yS ?_ ?_)<;>(intro h;try simp only [NM] at h)))
   simp -dsimp (disch:=first|exact D|fail) only [retQ,Tryz.results3,resVals,cellRV,resOf,St.rest,St.freeze,RT,go_sem,↓reduceIte,seval]
 | ok l =>
  rw [h1] at c1
  unfold scrOut rE at c1
  simp only at c1
  cases h2:mergeE s b a with
  | error e =>
   have he:=mergeE_ne h2
   rw [h2] at c2
   unfold scrOut rE at c2
   simp only [List.map_nil] at c2
   refine sS tyOk Tryz.func3 fun w0 m0 F0=>?_
   simp only [Tryz.ntmps3,envOf,Nat.reduceAdd]
   repeat' (first|((first|with_reducible refine qV tyOk fun K hK=>?_|refine Q2 ?_|((with_reducible first|refine qS ?_ ?_|refine qT ?_ ?_|refine qU ?_ ?_)<;>(intro h;try simp only [NM] at h))|((with_reducible refine CallJ.is ?_);(first|refine CallJ.pure (c0) ?_|refine CallJ.pure (c1) ?_|refine CallJ.pure (c2) ?_|((apply CallJ.lentI);(focus (simp -dsimp (disch:=first|exact D|fail) only [go_sem,↓reduceIte,seval,eSch,he];rfl));(focus (first|exact (c0)|exact (c1)|exact (c2)))))))<;>simp -dsimp (disch:=first|exact D|fail) only [go_sem,↓reduceIte,seval,eSch,he])|((with_reducible refine hK _ ?_);clear hK K)|refine Q1 ?_|((with_reducible refine qW (T:=TT) (b:=?_) ?_ ?_);rotate_left;exact rfl)|((with_reducible refine yS ?_ ?_)<;>(intro h;try simp only [NM] at h)))
   simp -dsimp (disch:=first|exact D|fail) only [retQ,Tryz.results3,resVals,cellRV,resOf,St.rest,St.freeze,RT,go_sem,↓reduceIte,seval]
  | ok m =>
   rw [h2] at c2
   unfold scrOut rE at c2
   simp only at c2
   obtain ⟨el,⟨x,hx⟩,_⟩:=mergeE_ok h1
   obtain ⟨em,⟨y,hy⟩,_⟩:=mergeE_ok h2
   rw [←el] at hx
   rw [←em] at hy
   have ll:=(scrApply_parts hx).1
   have lm:=(scrApply_parts hy).1
   have fl:∀st∈l,st.Fits:=fun st hst=>by
    rw [el] at hst
    rcases List.mem_append.1 hst with h|h
    ·exact fa st h
    ·exact fb st h
   have fm:∀st∈m,st.Fits:=fun st hst=>by
    rw [em] at hst
    rcases List.mem_append.1 hst with h|h
    ·exact fb st h
    ·exact fa st h
   have c3:=scrApply_sat s l hs (by omega) fl
   have c4:=scrApply_sat s m hs (by omega) fm
   have et:=mergeE_tables h1 h2 hx hy
   have zx:=small_of (scrApply_ok hx)
   have c5:=equalTbls_same x.tables zx.fits.tables zx.fits.table
   unfold eScr at c3 c4
   rw [hx] at c3
   rw [hy] at c4
   unfold sOut rE at c3 c4
   simp only [eSch] at c3 c4
   rw [←et] at c4
   refine sS tyOk Tryz.func3 fun w0 m0 F0=>?_
   simp only [Tryz.ntmps3,envOf,Nat.reduceAdd]
   repeat' (first|((first|with_reducible refine qV tyOk fun K hK=>?_|refine Q2 ?_|((with_reducible first|refine qS ?_ ?_|refine qT ?_ ?_|refine qU ?_ ?_)<;>(intro h;try simp only [NM] at h))|((with_reducible refine CallJ.is ?_);(first|refine CallJ.pure (c0) ?_|refine CallJ.pure (c1) ?_|refine CallJ.pure (c2) ?_|refine CallJ.pure (c3) ?_|refine CallJ.pure (c4) ?_|refine CallJ.pure (c5) ?_|((apply CallJ.lentI);(focus (simp -dsimp (disch:=first|exact D|fail) only [go_sem,↓reduceIte,seval,eSch];rfl));(focus (first|exact (c0)|exact (c1)|exact (c2)|exact (c3)|exact (c4)|exact (c5)))))))<;>simp -dsimp (disch:=first|exact D|fail) only [go_sem,↓reduceIte,seval,eSch])|((with_reducible refine hK _ ?_);clear hK K)|refine Q1 ?_|((with_reducible refine qW (T:=TT) (b:=?_) ?_ ?_);rotate_left;exact rfl)|((with_reducible refine yS ?_ ?_)<;>(intro h;try simp only [NM] at h)))
   simp -dsimp (disch:=first|exact D|fail) only [retQ,Tryz.results3,resVals,cellRV,resOf,St.rest,St.freeze,RT,go_sem,↓reduceIte,seval]
end Go.Bw
