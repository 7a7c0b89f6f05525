/-
  WHAT IS PROVED HERE, of this translation: dup_iff, fksE_all, consE_all, equalFuncTbl_sat, schEqual_sat, glessAt_get, gdown_ord, gdown_end, ginsR_ord, ginsR_last, insert_between, insertT_eq, .., remap_same, tAt_lt, tAt_set, setT_setT, setT_self, tblAt_setT, undo_col, applyPair_sat, back_law, zStp_fits, evolutionUndo_sat.
  A theorem that ends in sat says what the function it names returns, whatever the state it is called in; the bounds on its arguments stand ahead of it.
-/
import Derived.Test.YtdnapljegcihiaaGreatDoorVzf
set_option linter.unusedSimpArgs false
set_option linter.unusedVariables false
namespace Go.Bw
open Go.Proofs
theorem dup_iff {α:Type} (p:α→α→Bool) (l:List α):(∀j,∀h:j<l.length,¬ (0≤idx (fun o=>p o l[j]) (l.take j) 0))↔l.Pairwise fun a b=>p a b=false:=by
 rw [List.pairwise_iff_getElem]
 constructor
 ·intro h i j hi hj hij
  exact idx_neg0.1 (h j hj) _ (List.mem_take_iff_getElem.2 ⟨i,by omega,rfl⟩)
 ·intro h j hj
  refine idx_neg0.2 fun x hx=>?_
  obtain ⟨i,hi,rfl⟩:=List.mem_take_iff_getElem.1 hx
  exact h i j (by omega) hj (by omega)
theorem fksE_all (s:Sch):(∀j,∀h:j<s.fks.length,fksE s j s.fks[j]=none)↔(∀f∈s.fks,fkE s f=0)∧s.fks.Pairwise fun a b=>fkEq a b=false:=by
 rw [←dup_iff]
 constructor
 ·intro h
  refine ⟨fun f hf=>?_,fun j hj=>?_⟩
  ·obtain ⟨j,hj,rfl⟩:=List.mem_iff_getElem.1 hf
   have:=h j hj
   unfold fksE at this
   split at this
   ·cases this
   ·rename_i h1;simpa using h1
  ·have:=h j hj
   unfold fksE at this
   split at this
   ·cases this
   ·split at this
    ·cases this
    ·assumption
 ·rintro ⟨h1,h2⟩ j hj
  unfold fksE
  rw [if_neg (by simp [h1 _ (List.getElem_mem hj)]),if_neg (h2 j hj)]
theorem consE_all (s:Sch):(∀j,∀h:j<s.cons.length,consE s j s.cons[j]=none)↔(∀c∈s.cons,conE s c=0)∧s.cons.Pairwise fun a b=>conEq b a=false:=by
 rw [←dup_iff fun a b=>conEq b a]
 constructor
 ·intro h
  refine ⟨fun f hf=>?_,fun j hj=>?_⟩
  ·obtain ⟨j,hj,rfl⟩:=List.mem_iff_getElem.1 hf
   have:=h j hj
   unfold consE at this
   split at this
   ·cases this
   ·rename_i h1;simpa using h1
  ·have:=h j hj
   unfold consE at this
   split at this
   ·cases this
   ·split at this
    ·cases this
    ·assumption
 ·rintro ⟨h1,h2⟩ j hj
  unfold consE
  rw [if_neg (by simp [h1 _ (List.getElem_mem hj)]),if_neg (h2 j hj)]
end Go.Bw
namespace Go.Bw
open Go.Proofs
set_option maxHeartbeats 8000000 in
theorem equalFuncTbl_sat (a b : List Tbl) (h1 : a.length ≤ 140737488355328) (h2 : b.length ≤ 140737488355328) (h3 : ∀ t ∈ a, t.cols.length ≤ 140737488355328 ∧ t.pk.length ≤ 140737488355328) (h4 : ∀ t ∈ b, t.cols.length ≤ 140737488355328) :
    Sat Tryz.prog 66 [.one (eTbls a), .one (eTbls b), .one (.clo 67 [])] (.v (oB (decide (a = b)))) := by
  refine ZE Tryz.func66 Tryz.ntmps66 fun w0 m0 F0 => ?_
  refine ZWp Z0 Z0 ?_; repeat' (first | apply Zb | apply Zn | (apply Zm; intro h))
  rotate_left
  · refine ZR (Z1 Tryz.results66) ?_
    have hn : ¬ a = b := fun e => by rw [e] at h; exact h rfl
    simp [hn]
  have hl : a.length = b.length := by omega
  refine AWP.loop (ι := {k : Nat // k ≤ a.length ∧ a.take k = b.take k}) (fun k => ⟨32, [(1, .v (.one (eTbls b))), (2, .v (.one (.clo 67 []))), (15, .v (.one (eTbls a))), (16, .v (oI a.length)), (17, .v (oI k.1))], [], []⟩) (fun k => a.length - k.1) ⟨0, Nat.zero_le _, rfl⟩ ?_ fun ⟨k, hkl, hi⟩ => ?_
  · exact ZL Z0
  rcases Nat.lt_or_ge k a.length with hc | hc
  · have hb : k < b.length := by omega
    repeat' (first | ((first | with_reducible refine qV tyOk fun K hK => ?_ | ((with_reducible refine CallJ.is ?_); (refine CallJ.pure (equalTables_sat a[k] b[k] (h3 _ (List.getElem_mem hc)).1 (h4 _ (List.getElem_mem hb)) (h3 _ (List.getElem_mem hc)).2) ?_))) <;> simp -dsimp (disch := first | exact D | fail) only [go_sem, ↓reduceIte, seval]) | ((with_reducible refine hK _ ?_); clear hK K) | refine Q1 ?_ | ((with_reducible refine qW (T := TT) (b := ?_) ?_ ?_); rotate_left; exact rfl) | ((with_reducible refine yS ?_ ?_) <;> (intro h; try simp only [NM] at h)) | fail)
    all_goals first
      | (refine ⟨⟨k + 1, by omega, take_eq_succ hc hb hi ‹_›⟩, by simp only; omega, ?_⟩
         exact ZL Z0
         done)
      | (have hn : ¬ a = b := fun e => ‹¬ _› (get_of_eq hc hb e)
         refine ZR (Z1 Tryz.results66) ?_
         simp [hn])
  · have hk : a = b := by
      rw [List.take_of_length_le (by omega), List.take_of_length_le (by omega)] at hi
      exact hi
    refine ZW Z0 Z0 ?_
    refine ZR (Z1 Tryz.results66) ?_
    simp [hk]

set_option maxHeartbeats 8000000 in
theorem schEqual_sat (a b:Sch) (ha:a.Fits) (hb:b.Fits):Sat Tryz.prog 31 [.agg (eSch a),.agg (eSch b)] (.v (oB (decide (a=b)))):=by
 have sp:decide (a=b)=(decide (a.tables=b.tables)&&(decide (a.fks=b.fks)&&decide (a.cons=b.cons))):=by
  rw [Bool.eq_iff_iff]
  simp only [Bool.and_eq_true,decide_eq_true_eq]
  constructor
  ·rintro rfl;exact ⟨rfl,rfl,rfl⟩
  ·rintro ⟨h1,h2,h3⟩;cases a;cases b;simp_all
 rw [sp]
 refine ZE Tryz.func31 Tryz.ntmps31 fun w0 m0 F0=>?_
 refine ZWp Z0 (Z3 (equalFuncTbl_sat a.tables b.tables ha.tables hb.tables ha.table (fun t ht=>(hb.table t ht).1)) (equalFuncFK_sat a.fks b.fks ha.fks hb.fks ha.fk) (equalCons_sat a.cons b.cons ha.cons hb.cons)) ?_;repeat' (first|apply Zb|apply Zn|(apply Zm;intro h))
 all_goals simp -dsimp (disch:=first|exact D|fail) only [retQ,Tryz.results31,resVals,cellRV,resOf,St.rest,St.freeze,RT,go_sem,↓reduceIte,seval]
 all_goals simp_all
instance (a b:Tbl):Decidable (LtT a b):=Int.decLt _ _
theorem glessAt_get {ds:List Tbl} {i j:Nat} (hi:i<ds.length) (hj:j<ds.length):glessAt cmpT ds i j=decide (LtT ds[i] ds[j]):=by
 simp only [glessAt,List.getElem?_eq_getElem hi,List.getElem?_eq_getElem hj]
 rfl
theorem gdown_ord {ds:List Tbl} {j:Nat} (hj:j<ds.length) (h:∀q:0<j,¬ LtT ds[j] (ds[j - 1]'(by omega))):gdown cmpT 0 j ds=ds:=by
 refine gdown_stop cmpT 0 j ds ?_
 rcases Nat.eq_zero_or_pos j with h0|h0
 ·exact .inl (by omega)
 ·refine .inr ?_
  rw [glessAt_get hj (by omega)]
  exact decide_eq_false (h h0)
theorem gdown_end (A:List Tbl) (t:Tbl):∀(B C:List Tbl),(∀x∈B,LtT t x)→(∀q:0<A.length,¬ LtT t (A[A.length - 1]'(by omega)))→gdown cmpT 0 (A.length+B.length) (A++B++t::C)=A++t::(B++C):=by
 intro B
 induction h:B.length generalizing B with
 | zero =>
  intro C hB hA
  have:B=[]:=List.eq_nil_of_length_eq_zero h
  subst this
  simp only [List.append_nil,List.nil_append]
  refine gdown_ord (by simp) fun q=>?_
  have e1:(A++t::C)[A.length+0]'(by simp)=t:=by simp
  have e2:(A++t::C)[A.length+0 - 1]'(by simp;omega)=A[A.length - 1]'(by omega):=by
   rw [List.getElem_append_left (by omega)]
   rfl
  rw [e1,e2]
  exact hA (by omega)
 | succ n ih =>
  intro C hB hA
  obtain ⟨B',x,rfl⟩:∃B' x,B=B'++[x]:=by
   rcases List.eq_nil_or_concat B with e|⟨B',x,e⟩
   ·subst e;simp at h
   ·exact ⟨B',x,by simpa using e⟩
  have hn:B'.length=n:=by simpa using h
  have hlen:A.length+(n+1)=(A++B').length+1:=by simp;omega
  have e0:A++(B'++[x])++t::C=(A++B')++x::t::C:=by simp
  rw [hlen,e0,gdown]
  have g1:((A++B')++x::t::C)[(A++B').length+1]'(by simp;omega)=t:=by
   rw [List.getElem_append_right (by omega)]
   simp
  have g2:((A++B')++x::t::C)[(A++B').length]'(by simp)=x:=by
   rw [List.getElem_append_right (Nat.le_refl _)]
   simp
  rw [if_pos ⟨by omega,by
   rw [glessAt_get (by simp;omega) (by simp),g1,g2]
   exact decide_eq_true (hB x (by simp))⟩]
  have sw:gswp ((A++B')++x::t::C) ((A++B').length+1) (A++B').length=(A++B')++t::x::C:=by
   rw [gswp_eq (by simp;omega) (by simp),g1,g2]
   rw [List.set_append_right _ _ (by omega),List.set_append_right _ _ (Nat.le_refl _)]
   simp
  rw [sw]
  have:=ih B' hn (x::C) (fun y hy=>hB y (by simp [hy])) hA
  rw [List.length_append,hn,this]
  simp
theorem ginsR_ord {ts:List Tbl} (hs:ts.Pairwise LtT) (t:Tbl):∀n i,n+i≤ts.length→ginsR cmpT 0 n i (ts++[t])=ts++[t]
 | 0,_,_=>rfl
 | n+1,i,h=>by
  rw [ginsR,gdown_ord (by simp;omega) (fun q=>by
   rw [List.getElem_append_left (by omega),List.getElem_append_left (by omega)]
   intro hl
   have:=List.pairwise_iff_getElem.1 hs (i - 1) i (by omega) (by omega) (by omega)
   exact (LtT.trans this hl).ne rfl)]
  exact ginsR_ord hs t n (i+1) (by omega)
theorem ginsR_last (t:Tbl):∀n i (l:List Tbl),ginsR cmpT 0 (n+1) i l=gdown cmpT 0 (i+n) (ginsR cmpT 0 n i l)
 | 0,i,l=>by rw [ginsR,ginsR,ginsR];rfl
 | n+1,i,l=>by
  rw [ginsR,ginsR_last t n (i+1),ginsR]
  congr 1
  omega
theorem insert_between {A B:List Tbl} {t:Tbl} (h:(A++t::B).Pairwise LtT):ginsS cmpT 0 ((A++B).length+1) ((A++B)++[t])=A++t::B:=by
 have hp:=List.pairwise_append.1 h
 have hB:=List.pairwise_cons.1 hp.2.1
 have hAB:(A++B).Pairwise LtT:=List.pairwise_append.2 ⟨hp.1,hB.2,fun a ha b hb=>hp.2.2 a ha b (List.mem_cons_of_mem _ hb)⟩
 unfold ginsS
 rcases Nat.eq_zero_or_pos (A++B).length with h0|h0
 ·have:A++B=[]:=List.eq_nil_of_length_eq_zero h0
  obtain ⟨rfl,rfl⟩:=List.append_eq_nil_iff.1 this
  rfl
 ·obtain ⟨n,hn⟩:∃n,(A++B).length=n+1:=⟨(A++B).length - 1,by omega⟩
  rw [show (A++B).length+1 - (0+1)=n+1 by omega,ginsR_last t n 1,ginsR_ord hAB t n 1 (by omega)]
  have hl:1+n=A.length+B.length:=by rw [List.length_append] at hn;omega
  rw [hl,gdown_end A t B [] hB.1 fun q hq=>?_,List.append_nil]
  exact (LtT.trans (hp.2.2 _ (List.getElem_mem (by omega)) t (List.mem_cons_self ..)) hq).ne rfl
theorem insertT_eq {s:Sch} {A B:List Tbl} {t:Tbl} (hs:s.tables=A++B) (h:(A++t::B).Pairwise LtT):insertT s t={s with tables:=A++t::B}:=by
 unfold insertT
 rw [hs,insert_between h]
theorem evoE_mk {s t:Sch} {st:Stp} (h1:schE s=0) (h2:evValE st=0) (h3:evApply s st=.ok t) (h4:schE t=0):evoE s st=.ok t:=by
 unfold evoE
 rw [if_neg (by omega),if_neg (by omega),h3]
 simp only
 rw [if_neg (by omega)]
theorem idx_last {α:Type} {p:α→Bool} {x:α} (hx:p x=true):∀(l:List α) (k:Nat),(∀y∈l,p y=false)→idx p (l++[x]) k=((k+l.length:Nat):Int)
 | [],k,_=>by simp [idx,hx]
 | y::r,k,h=>by
  rw [List.cons_append,idx,if_neg (by simp [h y (List.mem_cons_self ..)]),idx_last hx r (k+1) fun z hz=>h z (List.mem_cons_of_mem _ hz)]
  simp only [List.length_cons]
  congr 1
  omega
theorem cut_last {α:Type} (l:List α) (x:α):(l++[x]).take l.length++(l++[x]).drop (l.length+1)=l:=by simp
theorem sEq_refl (a:ByteArray):sEq a a=true:=sEq_iff.2 rfl
theorem conEq_refl (c:Con):conEq c c=true:=by simp [conEq,sEq_refl]
theorem fkEq_refl (f:FK):fkEq f f=true:=by simp [fkEq,sEq_refl]
def undoCon (st:Stp):Stp:={zStp with kind:=14,con:=st.con}
def undoFK (st:Stp):Stp:={zStp with kind:=16,fk:=st.fk}
def undoTbl (st:Stp):Stp:={zStp with kind:=11,table:=st.newTable.name}
def undoCol (st:Stp):Stp:={zStp with kind:=2,table:=st.table,column:=st.column,value:=st.value}
theorem undo_con {s t:Sch} {st:Stp} (h:evoE s st=.ok t) (hk:st.kind=13):evoE t (undoCon st)=.ok s:=by
 obtain ⟨h1,_,h3,h4⟩:=evoE_parts h
 unfold evApply at h3
 rw [if_pos hk] at h3
 injection h3 with h3
 subst h3
 refine evoE_mk h4 (by simp [evValE,evNorm,undoCon]) ?_ h1
 have hp:=((consE_all _).1 ((schE_zero _).1 h4).2.2.2).2
 have hq:=(List.pairwise_append.1 hp).2.2
 have hi:idx (conEq st.con) (s.cons++[st.con]) 0=((s.cons.length:Nat):Int):=by
  rw [idx_last (conEq_refl _) _ _ fun y hy=>hq y hy st.con (by simp),Nat.zero_add]
 unfold evApply undoCon dropCon
 simp only [hi,Int.toNat_natCast,cut_last]
 simp
theorem undo_fk {s t:Sch} {st:Stp} (h:evoE s st=.ok t) (hk:st.kind=15):evoE t (undoFK st)=.ok s:=by
 obtain ⟨h1,_,h3,h4⟩:=evoE_parts h
 unfold evApply at h3
 rw [if_neg (by omega),if_neg (by omega),if_pos hk] at h3
 injection h3 with h3
 subst h3
 refine evoE_mk h4 (by simp [evValE,evNorm,undoFK]) ?_ h1
 have hp:=((fksE_all _).1 ((schE_zero _).1 h4).2.2.1).2
 have hq:=(List.pairwise_append.1 hp).2.2
 have hi:idx (fun o=>fkEq o st.fk) (s.fks++[st.fk]) 0=((s.fks.length:Nat):Int):=by
  rw [idx_last (p:=fun o=>fkEq o st.fk) (fkEq_refl _) _ _ fun y hy=>hq y hy st.fk (by simp),Nat.zero_add]
 unfold evApply undoFK dropFK
 simp only [hi,Int.toNat_natCast,cut_last]
 simp
theorem fk_names {s:Sch} (h:schE s=0) {f:FK} (hf:f∈s.fks):(∃t∈s.tables,t.name=f.table)∧∃t∈s.tables,t.name=f.ref:=by
 have:=((fksE_all _).1 ((schE_zero _).1 h).2.2.1).1 f hf
 obtain ⟨i,q,hi,hq,e1,e2,_⟩:=fkE_zero this
 obtain ⟨i',hi',_,n1⟩:=tblAt_some (ts:=s.tables) (n:=f.table) (by omega)
 obtain ⟨q',hq',_,n2⟩:=tblAt_some (ts:=s.tables) (n:=f.ref) (by omega)
 exact ⟨⟨_,List.getElem_mem hi',n1⟩,⟨_,List.getElem_mem hq',n2⟩⟩
theorem con_name {s:Sch} (h:schE s=0) {c:Con} (hc:c∈s.cons):∃t∈s.tables,t.name=c.table:=by
 have:=((consE_all _).1 ((schE_zero _).1 h).2.2.2).1 c hc
 obtain ⟨i,hi,e1,_⟩:=conE_zero this
 obtain ⟨i',hi',_,n1⟩:=tblAt_some (ts:=s.tables) (n:=c.table) (by omega)
 exact ⟨_,List.getElem_mem hi',n1⟩
theorem sEq_ne {a b:ByteArray} (h:a≠b):sEq a b=false:=by
 cases hb:sEq a b with
 | false=>rfl
 | true=>exact absurd (sEq_iff.1 hb) h
theorem undo_tbl {s t:Sch} {st:Stp} (h:evoE s st=.ok t) (hk:st.kind=10):evoE t (undoTbl st)=.ok s:=by
 obtain ⟨h1,_,h3,h4⟩:=evoE_parts h
 unfold evApply createT at h3
 rw [if_neg (by omega),if_neg (by omega),if_neg (by omega),if_neg (by omega),if_pos hk] at h3
 split at h3
 ·cases h3
 rename_i hn
 injection h3 with h3
 have hnm:=tblAt_none.1 hn
 obtain ⟨A,B,hAB,hp⟩:=place (sorted_of h1) st.newTable hnm
 rw [insertT_eq hAB hp] at h3
 subst h3
 have ha:tblAt (A++st.newTable::B) st.newTable.name=((A.length:Nat):Int):=by
  have:=tblAt_at hp (i:=A.length) (by simp)
  simpa using this
 refine evoE_mk h4 (by simp [evValE,evNorm,undoTbl]) ?_ h1
 have hfk:∀f∈s.fks,sEq f.ref st.newTable.name=false∧sEq f.table st.newTable.name=false:=fun f hf=>by
  obtain ⟨⟨t1,m1,e1⟩,t2,m2,e2⟩:=fk_names h1 hf
  exact ⟨sEq_ne (e2▸hnm t2 m2),sEq_ne (e1▸hnm t1 m1)⟩
 have hcn:∀c∈s.cons,sEq c.table st.newTable.name=false:=fun c hc=>by
  obtain ⟨t1,m1,e1⟩:=con_name h1 hc
  exact sEq_ne (e1▸hnm t1 m1)
 have f1:(s.fks.any fun f=>sEq f.ref st.newTable.name&&!sEq f.table st.newTable.name)=false:=by
  rw [List.any_eq_false]
  intro f hf
  simp [(hfk f hf).1]
 have f2:(s.fks.filter fun f=>!sEq f.table st.newTable.name)=s.fks:=List.filter_eq_self.2 fun f hf=>by simp [(hfk f hf).2]
 have f3:(s.cons.filter fun c=>!sEq c.table st.newTable.name)=s.cons:=List.filter_eq_self.2 fun c hc=>by simp [hcn c hc]
 have f4:((A++st.newTable::B).filter fun t=>!sEq t.name st.newTable.name)=A++B:=by
  rw [List.filter_append,List.filter_cons,if_neg (by simp [sEq_refl])]
  congr 1
  ·exact List.filter_eq_self.2 fun x hx=>by simp [sEq_ne (hnm x (by rw [hAB];simp [hx]))]
  ·exact List.filter_eq_self.2 fun x hx=>by simp [sEq_ne (hnm x (by rw [hAB];simp [hx]))]
 have e:(⟨A++B,s.fks,s.cons⟩:Sch)=s:=by rw [←hAB]
 unfold evApply undoTbl dropT removeT
 simp only [ha,f1,f2,f3,f4,e]
 simp
theorem idx_map {α β:Type} (g:α→β) (p:β→Bool):∀(l:List α) (k:Nat),idx (fun x=>p (g x)) l k=idx p (l.map g) k
 | [],_=>rfl
 | x::r,k=>by rw [List.map_cons,idx,idx,idx_map g p r]
theorem tblAt_names {ts us:List Tbl} (h:ts.map Tbl.name=us.map Tbl.name) (n:ByteArray):tblAt ts n=tblAt us n:=by
 unfold tblAt
 rw [idx_map Tbl.name (fun m=>sEq m n),idx_map Tbl.name (fun m=>sEq m n),h]
theorem set_names {ts:List Tbl} {i:Nat} (hi:i<ts.length) {t:Tbl} (h:t.name=ts[i].name):(ts.set i t).map Tbl.name=ts.map Tbl.name:=by
 rw [List.map_set,h]
 refine List.ext_getElem (by simp) fun j h1 h2=>?_
 rw [List.getElem_set]
 split
 ·rename_i e;subst e;simp
 ·rfl
theorem set_self {α:Type} (l:List α) {i:Nat} (hi:i<l.length):l.set i l[i]=l:=by
 refine List.ext_getElem (by simp) fun j h1 h2=>?_
 rw [List.getElem_set]
 split
 ·rename_i e;subst e;rfl
 ·rfl
theorem dropAt_last {α:Type} (c:α):∀(l:List α) (k n:Nat),k+l.length=n→dropAt [(n:Int)] (l++[c]) k=l
 | [],k,n,h=>by
  have:k=n:=by simpa using h
  subst this
  simp [dropAt]
 | x::r,k,n,h=>by
  simp only [List.length_cons] at h
  rw [List.cons_append,dropAt,if_neg (by simp;omega),dropAt_last c r (k+1) n (by omega)]
theorem shiftI_lt {n c:Int} (h:c<n):shiftI [n] c=c:=by
 unfold shiftI
 rw [List.filter_cons,if_neg (by simp;omega)]
 simp
theorem colAt_at {t:Tbl} (o:OkTbl t) {k:Nat} (hk:k<t.cols.length):colAt t.cols t.cols[k].name=(k:Int):=by
 rcases idx_cases (fun c=>sEq c.name t.cols[k].name) t.cols 0 with ⟨_,e2⟩|⟨j,hj,e1,e2,e3⟩
 ·have:=e2 _ (List.getElem_mem hk)
  rw [sEq_refl] at this
  cases this
 ·have e:colAt t.cols t.cols[k].name=(j:Int):=by unfold colAt;simpa using e1
  have h1:=(o.col k hk).2.1
  rw [e,mx0_nat] at h1
  rcases Nat.lt_or_ge k j with h|h
  ·have:=e3 k h
   rw [sEq_refl] at this
   cases this
  ·rw [e]
   omega
theorem fk_cols {s:Sch} (h:schE s=0) {f:FK} (hf:f∈s.fks) {i:Nat} (hi:i<s.tables.length) (hn:f.table=s.tables[i].name):∀x∈f.cols,0≤x∧x<(s.tables[i].cols.length:Int):=by
 have:=((fksE_all _).1 ((schE_zero _).1 h).2.2.1).1 f hf
 obtain ⟨i',q,hi',_,e1,_,_,hc⟩:=fkE_zero this
 rw [hn,tblAt_at (sorted_of h) hi] at e1
 have:i=i':=by omega
 subst this
 intro x hx
 obtain ⟨j,hj,rfl⟩:=List.mem_iff_getElem.1 hx
 exact hc j hj
theorem con_cols {s:Sch} (h:schE s=0) {c:Con} (hc:c∈s.cons) {i:Nat} (hi:i<s.tables.length) (hn:c.table=s.tables[i].name):0≤c.left∧c.left<(s.tables[i].cols.length:Int)∧c.right<(s.tables[i].cols.length:Int):=by
 have:=((consE_all _).1 ((schE_zero _).1 h).2.2.2).1 c hc
 obtain ⟨i',hi',e1,h1,h2,_,h3⟩:=conE_zero this
 rw [hn,tblAt_at (sorted_of h) hi] at e1
 have:i=i':=by omega
 subst this
 exact ⟨h1,h2,h3⟩
theorem remap_same {s:Sch} (h:schE s=0) {i:Nat} (hi:i<s.tables.length) {g:Int→Int} (hg:∀x,x<(s.tables[i].cols.length:Int)→g x=x):remapS s s.tables[i].name g=s:=by
 have e1:s.fks.map (remapFK s.tables[i].name g)=s.fks:=by
  conv=>rhs;rw [←List.map_id s.fks]
  refine List.map_congr_left fun f hf=>?_
  unfold remapFK
  split
  ·rename_i q
   have hc:=fk_cols h hf hi (sEq_iff.1 q)
   have e:f.cols.map g=f.cols:=by
    conv=>rhs;rw [←List.map_id f.cols]
    exact List.map_congr_left fun x hx=>hg x (hc x hx).2
   rw [e]
   rfl
  ·rfl
 have e2:s.cons.map (remapCon s.tables[i].name g)=s.cons:=by
  conv=>rhs;rw [←List.map_id s.cons]
  refine List.map_congr_left fun c hc=>?_
  unfold remapCon
  split
  ·rename_i q
   obtain ⟨_,h2,h3⟩:=con_cols h hc hi (sEq_iff.1 q)
   rw [hg _ h2,hg _ h3]
   cases c
   simp
  ·rfl
 unfold remapS
 rw [e1,e2]
theorem tAt_lt {s:Sch} {i:Nat} (hi:i<s.tables.length):tAt s i=s.tables[i]:=by
 unfold tAt
 exact getD_lt _ hi
theorem tAt_set {s:Sch} {i:Nat} (hi:i<s.tables.length) (t:Tbl):tAt (setT s i t) i=t:=by
 unfold tAt setT
 rw [getD_lt _ (by simpa using hi)]
 simp
theorem setT_setT (s:Sch) (i:Nat) (t u:Tbl):setT (setT s i t) i u=setT s i u:=by
 unfold setT
 simp
theorem setT_self {s:Sch} {i:Nat} (hi:i<s.tables.length):setT s i s.tables[i]=s:=by
 unfold setT
 rw [set_self _ hi]
theorem tblAt_setT {s:Sch} {i:Nat} (hi:i<s.tables.length) {t:Tbl} (h:t.name=s.tables[i].name) (n:ByteArray):tblAt (setT s i t).tables n=tblAt s.tables n:=tblAt_names (set_names hi h) n
theorem undo_col {s t:Sch} {st:Stp} (h:evoE s st=.ok t) (hk:st.kind=1):evoE t (undoCol st)=.ok s:=by
 obtain ⟨h1,_,h3,h4⟩:=evoE_parts h
 unfold evApply at h3
 rw [if_neg (by omega),if_neg (by omega),if_neg (by omega),if_neg (by omega),if_neg (by omega)] at h3
 simp only at h3
 split at h3
 ·cases h3
 rename_i hk0
 rw [if_neg (by omega),if_neg (by omega),if_neg (by omega),if_neg (by omega),if_neg (by omega),if_neg (by omega),if_neg (by omega)] at h3
 try rw [if_pos hk] at h3
 obtain ⟨i,hi,ei,ni⟩:=tblAt_some hk0
 rw [ei,Int.toNat_natCast] at h3
 unfold addC at h3
 simp only at h3
 split at h3
 ·cases h3
 rename_i hd
 have hd:=Decidable.byContradiction hd
 injection h3 with h3
 rw [tAt_lt hi] at h3
 obtain ⟨T,hT⟩:∃T,s.tables[i]=T:=⟨_,rfl⟩
 obtain ⟨c,hc⟩:∃c:Col,(⟨st.column,st.typ,st.value.kind==0⟩:Col)=c:=⟨_,rfl⟩
 rw [hT] at h3
 rw [hc] at h3 hd
 have cn:c.name=st.column:=by rw [←hc]
 subst h3
 refine evoE_mk h4 (by simp [evValE,evNorm,undoCol]) ?_ h1
 obtain ⟨n,hn⟩:∃n,T.cols.length=n:=⟨_,rfl⟩
 have hlen:s.tables[i].cols.length=n:=by rw [hT,hn]
 have hi2:i<(setT s i {T with cols:=T.cols++[c]}).tables.length:=by unfold setT;simpa using hi
 have hTm:T∈s.tables:=hT▸List.getElem_mem hi
 have ok2:=(okSch_of h4).tbl {T with cols:=T.cols++[c]} (by
  unfold setT
  exact List.mem_iff_getElem.2 ⟨i,by simpa using hi,by simp⟩)
 have ea:tblAt (setT s i {T with cols:=T.cols++[c]}).tables st.table=(i:Int):=by
  rw [tblAt_setT hi (by rw [hT]),ei]
 have ec:colAt (T.cols++[c]) st.column=(n:Int):=by
  have:=colAt_at ok2 (k:=n) (by simp;omega)
  simp only at this
  have e:(T.cols++[c])[n]'(by simp;omega)=c:=by
   rw [List.getElem_append_right (by omega)]
   simp
  rw [e,cn] at this
  exact this
 have eg:(T.cols++[c]).getD n zCol=c:=by
  rw [getD_lt _ (by simp;omega),List.getElem_append_right (by omega)]
  simp
 have hu:unusedE (setT s i {T with cols:=T.cols++[c]}) {T with cols:=T.cols++[c]} (n:Int)=0:=by
  unfold unusedE setT
  simp only
  have p1:T.pk.elem (n:Int)=false:=by
   cases hb:T.pk.elem (n:Int) with
   | false=>rfl
   | true =>
    have:=pkOk_of h1 T hTm _ (List.elem_iff.1 hb)
    omega
  have p2:(s.fks.any fun f=>sEq f.table T.name&&f.cols.elem (n:Int))=false:=by
   rw [List.any_eq_false]
   intro f hf q
   rw [Bool.and_eq_true] at q
   have:=fk_cols h1 hf hi (by rw [hT];exact sEq_iff.1 q.1) _ (List.elem_iff.1 q.2)
   omega
  have p3:(s.cons.any fun k=>sEq k.table T.name&&(k.left==(n:Int)||k.right==(n:Int)))=false:=by
   rw [List.any_eq_false]
   intro k hk q
   rw [Bool.and_eq_true,Bool.or_eq_true,beq_iff_eq,beq_iff_eq] at q
   have:=con_cols h1 hk hi (by rw [hT];exact sEq_iff.1 q.1)
   omega
  rw [p1,p2,p3]
  simp
 have hr:removeC (setT s i {T with cols:=T.cols++[c]}) i [(n:Int)]=s:=by
  unfold removeC
  simp only [tAt_set hi,setT_setT]
  have e1:T.pk.map (shiftI [(n:Int)])=T.pk:=by
   conv=>rhs;rw [←List.map_id T.pk]
   exact List.map_congr_left fun x hx=>shiftI_lt (by have:=pkOk_of h1 T hTm x hx;omega)
  rw [dropAt_last c T.cols 0 n (by omega),e1]
  have e2:setT s i {T with cols:=T.cols,pk:=T.pk}=s:=by
   have:({T with cols:=T.cols,pk:=T.pk}:Tbl)=s.tables[i]:=by rw [hT]
   rw [this,setT_self hi]
  have e3:=remap_same h1 hi (g:=shiftI [(n:Int)]) fun x hx=>shiftI_lt (by omega)
  rw [hT] at e3
  exact (congrArg (fun q=>remapS q T.name (shiftI [(n:Int)])) e2).trans e3
 unfold evApply undoCol alterC
 simp only [ea,Int.toNat_natCast,tAt_set hi,ec,eg,hu,hd,hr]
 simp
 rw [if_neg (by omega),if_neg (by omega)]
def pairR (s:Sch) (a b:Stp):Res:=match evoE s a with|.error e=>.error e|.ok t=>evoE t b
set_option maxHeartbeats 16000000 in
theorem applyPair_sat (s:Sch) (a b:Stp) (hs:s.Fits) (ha:a.Fits) (hb:b.Fits):Sat Tryz.prog 16 [.agg (eSch s),.agg (eStp a),.agg (eStp b)] (.tup [.agg (eSch (sOut (pairR s a b))),oI (rE (pairR s a b))]):=by
 have c1:=evoApply_sat s a hs ha
 unfold pairR
 cases h:evoE s a with
 | error e =>
  have he:=evoE_ne h
  rw [h] at c1
  unfold sOut rE at c1 ⊢
  simp only at c1 ⊢
  refine ZE Tryz.func16 Tryz.ntmps16 fun w0 m0 F0=>?_
  refine ZW (Z2 @eStp.eq_1 @he) (Z1 (c1)) ?_
  exact ZQ (Z1 Tryz.results16)
 | ok t =>
  have c2:=evoApply_sat t b (small_of (evoE_ok h)).fits hb
  rw [h] at c1
  unfold rE at c1
  rw [show sOut (.ok t)=t from rfl] at c1
  simp only at c1 ⊢
  refine ZE Tryz.func16 Tryz.ntmps16 fun w0 m0 F0=>?_
  refine ZW (Z1 @eStp.eq_1) (Z2 (c1) (c2)) ?_
  exact ZQ (Z1 Tryz.results16)
theorem back_law (s t:Sch) (st bk:Stp) (h:evoE s st=.ok t) (hb:evoE t bk=.ok s):pairR s st bk=.ok s:=by
 unfold pairR
 rw [h]
 exact hb
theorem zStp_fits:zStp.Fits:=⟨by decide,by decide,by decide,by decide⟩
set_option maxHeartbeats 32000000 in
theorem evolutionUndo_sat (s:Sch) (st:Stp) (hs:s.Fits) (hf:st.Fits):Sat Tryz.prog 9 [.agg (eSch s),.agg (eStp st)] (.v (oB true)):=by
 have c0:=lensesWork_sat
 have c1:=evoApply_sat s st hs hf
 have eqs:=schEqual_sat s s hs hs
 rw [decide_eq_true rfl] at eqs
 by_cases k0:st.kind=1∨st.kind=10∨st.kind=13∨st.kind=15
 ·cases h:evoE s st with
  | error e =>
   have he:=evoE_ne h
   rw [h] at c1
   unfold sOut rE eStp at c1
   unfold eStp
   simp only at c1
   rcases k0 with k|k|k|k
   all_goals
    rw [k] at c1 ⊢
    refine ZE Tryz.func9 Tryz.ntmps9 fun w0 m0 F0=>?_
    refine ZW (Z1 @he) (Z2 (c0) (c1)) ?_
    exact ZQ (Z1 Tryz.results9)
  | ok t =>
   rw [h] at c1
   unfold rE eStp at c1
   rw [show sOut (.ok t)=t from rfl] at c1
   simp only at c1
   have K:∃bk:Stp,Sat Tryz.prog 16 [.agg (eSch s),.agg (eStp st),.agg (eStp bk)] (.tup [.agg (eSch s),oI 0])∧(st.kind=1∧undoCol st=bk∨st.kind=10∧undoTbl st=bk∨st.kind=13∧undoCon st=bk∨st.kind=15∧undoFK st=bk):=by
    have q:∀bk:Stp,bk.Fits→evoE t bk=.ok s→Sat Tryz.prog 16 [.agg (eSch s),.agg (eStp st),.agg (eStp bk)] (.tup [.agg (eSch s),oI 0]):=fun bk fb hb=>by
     have p:=applyPair_sat s st bk hs hf fb
     rw [back_law s t st bk h hb] at p
     exact p
    rcases k0 with k|k|k|k
    ·exact ⟨_,q (undoCol st) ⟨zStp_fits.1,zStp_fits.2,zStp_fits.3,zStp_fits.4⟩ (undo_col h k),.inl ⟨k,rfl⟩⟩
    ·exact ⟨_,q (undoTbl st) ⟨zStp_fits.1,zStp_fits.2,zStp_fits.3,zStp_fits.4⟩ (undo_tbl h k),.inr (.inl ⟨k,rfl⟩)⟩
    ·exact ⟨_,q (undoCon st) ⟨zStp_fits.1,zStp_fits.2,zStp_fits.3,zStp_fits.4⟩ (undo_con h k),.inr (.inr (.inl ⟨k,rfl⟩))⟩
    ·exact ⟨_,q (undoFK st) ⟨zStp_fits.1,zStp_fits.2,zStp_fits.3,hf.4⟩ (undo_fk h k),.inr (.inr (.inr ⟨k,rfl⟩))⟩
   obtain ⟨bk,q,K⟩:=K
   unfold eStp
   rcases K with ⟨k,e⟩|⟨k,e⟩|⟨k,e⟩|⟨k,e⟩
   all_goals
    subst e
    simp only [undoCol,undoTbl,undoCon,undoFK,zStp,zCon,zFK,eStp,eInts,eCols,List.map_nil] at q
    rw [k] at c1 q ⊢
    refine ZE Tryz.func9 Tryz.ntmps9 fun w0 m0 F0=>?_
    refine ZW Z0 (Z4 (c0) (c1) (q) (eqs)) ?_
    exact ZQ (Z1 Tryz.results9)
 ·have n1:(st.kind==1)=false:=by simp;omega
  have n2:(st.kind==10)=false:=by simp;omega
  have n3:(st.kind==13)=false:=by simp;omega
  have n4:(st.kind==15)=false:=by simp;omega
  refine ZE Tryz.func9 Tryz.ntmps9 fun w0 m0 F0=>?_
  refine ZW (Z5 @eStp.eq_1 @n1 @n2 @n3 @n4) (Z1 (c0)) ?_
  exact ZQ (Z1 Tryz.results9)
end Go.Bw
