/-
  WHAT IS PROVED HERE, of this translation: dup_iff, fksE_all, consE_all, equalFuncTbl_sat, schEqual_sat, glessAt_get, gdown_ord, gdown_end, ginsR_ord, ginsR_last, insert_between, insertT_eq, .., setT_self, tblAt_setT, back_col, cut_mem, cut_split, ren_back, back_tbl, applyPair_sat, back_law, zStp_fits, evolutionRenameBack_sat.
  A theorem that ends in sat says what the function it names returns, whatever the state it is called in; the bounds on its arguments stand ahead of it.
-/
import Derived.Test.YtdnapljegcihiaaGreatDoorVzf
set_option linter.unusedSimpArgs false
set_option linter.unusedVariables false
namespace Go.Bw
open Go.Proofs
theorem dup_iff {α:Type} (p:α→α→Bool) (l:List α):(∀j,∀h:j<l.length,¬ (0≤idx (fun o=>p o l[j]) (l.take j) 0))↔l.Pairwise fun a b=>p a b=false:=by
 rw [List.pairwise_iff_getElem]
 constructor
 ·intro h i j hi hj hij
  exact idx_neg0.1 (h j hj) _ (List.mem_take_iff_getElem.2 ⟨i,by omega,rfl⟩)
 ·intro h j hj
  refine idx_neg0.2 fun x hx=>?_
  obtain ⟨i,hi,rfl⟩:=List.mem_take_iff_getElem.1 hx
  exact h i j (by omega) hj (by omega)
theorem fksE_all (s:Sch):(∀j,∀h:j<s.fks.length,fksE s j s.fks[j]=none)↔(∀f∈s.fks,fkE s f=0)∧s.fks.Pairwise fun a b=>fkEq a b=false:=by
 rw [←dup_iff]
 constructor
 ·intro h
  refine ⟨fun f hf=>?_,fun j hj=>?_⟩
  ·obtain ⟨j,hj,rfl⟩:=List.mem_iff_getElem.1 hf
   have:=h j hj
   unfold fksE at this
   split at this
   ·cases this
   ·rename_i h1;simpa using h1
  ·have:=h j hj
   unfold fksE at this
   split at this
   ·cases this
   ·split at this
    ·cases this
    ·assumption
 ·rintro ⟨h1,h2⟩ j hj
  unfold fksE
  rw [if_neg (by simp [h1 _ (List.getElem_mem hj)]),if_neg (h2 j hj)]
theorem consE_all (s:Sch):(∀j,∀h:j<s.cons.length,consE s j s.cons[j]=none)↔(∀c∈s.cons,conE s c=0)∧s.cons.Pairwise fun a b=>conEq b a=false:=by
 rw [←dup_iff fun a b=>conEq b a]
 constructor
 ·intro h
  refine ⟨fun f hf=>?_,fun j hj=>?_⟩
  ·obtain ⟨j,hj,rfl⟩:=List.mem_iff_getElem.1 hf
   have:=h j hj
   unfold consE at this
   split at this
   ·cases this
   ·rename_i h1;simpa using h1
  ·have:=h j hj
   unfold consE at this
   split at this
   ·cases this
   ·split at this
    ·cases this
    ·assumption
 ·rintro ⟨h1,h2⟩ j hj
  unfold consE
  rw [if_neg (by simp [h1 _ (List.getElem_mem hj)]),if_neg (h2 j hj)]
end Go.Bw
namespace Go.Bw
open Go.Proofs
set_option maxHeartbeats 8000000 in
theorem equalFuncTbl_sat (a b : List Tbl) (h1 : a.length ≤ 140737488355328) (h2 : b.length ≤ 140737488355328) (h3 : ∀ t ∈ a, t.cols.length ≤ 140737488355328 ∧ t.pk.length ≤ 140737488355328) (h4 : ∀ t ∈ b, t.cols.length ≤ 140737488355328) :
    Sat Tryz.prog 66 [.one (eTbls a), .one (eTbls b), .one (.clo 67 [])] (.v (oB (decide (a = b)))) := by
  refine ZE Tryz.func66 Tryz.ntmps66 fun w0 m0 F0 => ?_
  refine ZWp Z0 Z0 ?_; repeat' (first | apply Zb | apply Zn | (apply Zm; intro h))
  rotate_left
  · refine ZR (Z1 Tryz.results66) ?_
    have hn : ¬ a = b := fun e => by rw [e] at h; exact h rfl
    simp [hn]
  have hl : a.length = b.length := by omega
  refine AWP.loop (ι := {k : Nat // k ≤ a.length ∧ a.take k = b.take k}) (fun k => ⟨32, [(1, .v (.one (eTbls b))), (2, .v (.one (.clo 67 []))), (15, .v (.one (eTbls a))), (16, .v (oI a.length)), (17, .v (oI k.1))], [], []⟩) (fun k => a.length - k.1) ⟨0, Nat.zero_le _, rfl⟩ ?_ fun ⟨k, hkl, hi⟩ => ?_
  · exact ZL Z0
  rcases Nat.lt_or_ge k a.length with hc | hc
  · have hb : k < b.length := by omega
    repeat' (first | ((first | with_reducible refine qV tyOk fun K hK => ?_ | ((with_reducible refine CallJ.is ?_); (refine CallJ.pure (equalTables_sat a[k] b[k] (h3 _ (List.getElem_mem hc)).1 (h4 _ (List.getElem_mem hb)) (h3 _ (List.getElem_mem hc)).2) ?_))) <;> simp -dsimp (disch := first | exact D | fail) only [go_sem, ↓reduceIte, seval]) | ((with_reducible refine hK _ ?_); clear hK K) | refine Q1 ?_ | ((with_reducible refine qW (T := TT) (b := ?_) ?_ ?_); rotate_left; exact rfl) | ((with_reducible refine yS ?_ ?_) <;> (intro h; try simp only [NM] at h)) | fail)
    all_goals first
      | (refine ⟨⟨k + 1, by omega, take_eq_succ hc hb hi ‹_›⟩, by simp only; omega, ?_⟩
         exact ZL Z0
         done)
      | (have hn : ¬ a = b := fun e => ‹¬ _› (get_of_eq hc hb e)
         refine ZR (Z1 Tryz.results66) ?_
         simp [hn])
  · have hk : a = b := by
      rw [List.take_of_length_le (by omega), List.take_of_length_le (by omega)] at hi
      exact hi
    refine ZW Z0 Z0 ?_
    refine ZR (Z1 Tryz.results66) ?_
    simp [hk]

set_option maxHeartbeats 8000000 in
theorem schEqual_sat (a b:Sch) (ha:a.Fits) (hb:b.Fits):Sat Tryz.prog 31 [.agg (eSch a),.agg (eSch b)] (.v (oB (decide (a=b)))):=by
 have sp:decide (a=b)=(decide (a.tables=b.tables)&&(decide (a.fks=b.fks)&&decide (a.cons=b.cons))):=by
  rw [Bool.eq_iff_iff]
  simp only [Bool.and_eq_true,decide_eq_true_eq]
  constructor
  ·rintro rfl;exact ⟨rfl,rfl,rfl⟩
  ·rintro ⟨h1,h2,h3⟩;cases a;cases b;simp_all
 rw [sp]
 refine ZE Tryz.func31 Tryz.ntmps31 fun w0 m0 F0=>?_
 refine ZWp Z0 (Z3 (equalFuncTbl_sat a.tables b.tables ha.tables hb.tables ha.table (fun t ht=>(hb.table t ht).1)) (equalFuncFK_sat a.fks b.fks ha.fks hb.fks ha.fk) (equalCons_sat a.cons b.cons ha.cons hb.cons)) ?_;repeat' (first|apply Zb|apply Zn|(apply Zm;intro h))
 all_goals simp -dsimp (disch:=first|exact D|fail) only [retQ,Tryz.results31,resVals,cellRV,resOf,St.rest,St.freeze,RT,go_sem,↓reduceIte,seval]
 all_goals simp_all
instance (a b:Tbl):Decidable (LtT a b):=Int.decLt _ _
theorem glessAt_get {ds:List Tbl} {i j:Nat} (hi:i<ds.length) (hj:j<ds.length):glessAt cmpT ds i j=decide (LtT ds[i] ds[j]):=by
 simp only [glessAt,List.getElem?_eq_getElem hi,List.getElem?_eq_getElem hj]
 rfl
theorem gdown_ord {ds:List Tbl} {j:Nat} (hj:j<ds.length) (h:∀q:0<j,¬ LtT ds[j] (ds[j - 1]'(by omega))):gdown cmpT 0 j ds=ds:=by
 refine gdown_stop cmpT 0 j ds ?_
 rcases Nat.eq_zero_or_pos j with h0|h0
 ·exact .inl (by omega)
 ·refine .inr ?_
  rw [glessAt_get hj (by omega)]
  exact decide_eq_false (h h0)
theorem gdown_end (A:List Tbl) (t:Tbl):∀(B C:List Tbl),(∀x∈B,LtT t x)→(∀q:0<A.length,¬ LtT t (A[A.length - 1]'(by omega)))→gdown cmpT 0 (A.length+B.length) (A++B++t::C)=A++t::(B++C):=by
 intro B
 induction h:B.length generalizing B with
 | zero =>
  intro C hB hA
  have:B=[]:=List.eq_nil_of_length_eq_zero h
  subst this
  simp only [List.append_nil,List.nil_append]
  refine gdown_ord (by simp) fun q=>?_
  have e1:(A++t::C)[A.length+0]'(by simp)=t:=by simp
  have e2:(A++t::C)[A.length+0 - 1]'(by simp;omega)=A[A.length - 1]'(by omega):=by
   rw [List.getElem_append_left (by omega)]
   rfl
  rw [e1,e2]
  exact hA (by omega)
 | succ n ih =>
  intro C hB hA
  obtain ⟨B',x,rfl⟩:∃B' x,B=B'++[x]:=by
   rcases List.eq_nil_or_concat B with e|⟨B',x,e⟩
   ·subst e;simp at h
   ·exact ⟨B',x,by simpa using e⟩
  have hn:B'.length=n:=by simpa using h
  have hlen:A.length+(n+1)=(A++B').length+1:=by simp;omega
  have e0:A++(B'++[x])++t::C=(A++B')++x::t::C:=by simp
  rw [hlen,e0,gdown]
  have g1:((A++B')++x::t::C)[(A++B').length+1]'(by simp;omega)=t:=by
   rw [List.getElem_append_right (by omega)]
   simp
  have g2:((A++B')++x::t::C)[(A++B').length]'(by simp)=x:=by
   rw [List.getElem_append_right (Nat.le_refl _)]
   simp
  rw [if_pos ⟨by omega,by
   rw [glessAt_get (by simp;omega) (by simp),g1,g2]
   exact decide_eq_true (hB x (by simp))⟩]
  have sw:gswp ((A++B')++x::t::C) ((A++B').length+1) (A++B').length=(A++B')++t::x::C:=by
   rw [gswp_eq (by simp;omega) (by simp),g1,g2]
   rw [List.set_append_right _ _ (by omega),List.set_append_right _ _ (Nat.le_refl _)]
   simp
  rw [sw]
  have:=ih B' hn (x::C) (fun y hy=>hB y (by simp [hy])) hA
  rw [List.length_append,hn,this]
  simp
theorem ginsR_ord {ts:List Tbl} (hs:ts.Pairwise LtT) (t:Tbl):∀n i,n+i≤ts.length→ginsR cmpT 0 n i (ts++[t])=ts++[t]
 | 0,_,_=>rfl
 | n+1,i,h=>by
  rw [ginsR,gdown_ord (by simp;omega) (fun q=>by
   rw [List.getElem_append_left (by omega),List.getElem_append_left (by omega)]
   intro hl
   have:=List.pairwise_iff_getElem.1 hs (i - 1) i (by omega) (by omega) (by omega)
   exact (LtT.trans this hl).ne rfl)]
  exact ginsR_ord hs t n (i+1) (by omega)
theorem ginsR_last (t:Tbl):∀n i (l:List Tbl),ginsR cmpT 0 (n+1) i l=gdown cmpT 0 (i+n) (ginsR cmpT 0 n i l)
 | 0,i,l=>by rw [ginsR,ginsR,ginsR];rfl
 | n+1,i,l=>by
  rw [ginsR,ginsR_last t n (i+1),ginsR]
  congr 1
  omega
theorem insert_between {A B:List Tbl} {t:Tbl} (h:(A++t::B).Pairwise LtT):ginsS cmpT 0 ((A++B).length+1) ((A++B)++[t])=A++t::B:=by
 have hp:=List.pairwise_append.1 h
 have hB:=List.pairwise_cons.1 hp.2.1
 have hAB:(A++B).Pairwise LtT:=List.pairwise_append.2 ⟨hp.1,hB.2,fun a ha b hb=>hp.2.2 a ha b (List.mem_cons_of_mem _ hb)⟩
 unfold ginsS
 rcases Nat.eq_zero_or_pos (A++B).length with h0|h0
 ·have:A++B=[]:=List.eq_nil_of_length_eq_zero h0
  obtain ⟨rfl,rfl⟩:=List.append_eq_nil_iff.1 this
  rfl
 ·obtain ⟨n,hn⟩:∃n,(A++B).length=n+1:=⟨(A++B).length - 1,by omega⟩
  rw [show (A++B).length+1 - (0+1)=n+1 by omega,ginsR_last t n 1,ginsR_ord hAB t n 1 (by omega)]
  have hl:1+n=A.length+B.length:=by rw [List.length_append] at hn;omega
  rw [hl,gdown_end A t B [] hB.1 fun q hq=>?_,List.append_nil]
  exact (LtT.trans (hp.2.2 _ (List.getElem_mem (by omega)) t (List.mem_cons_self ..)) hq).ne rfl
theorem insertT_eq {s:Sch} {A B:List Tbl} {t:Tbl} (hs:s.tables=A++B) (h:(A++t::B).Pairwise LtT):insertT s t={s with tables:=A++t::B}:=by
 unfold insertT
 rw [hs,insert_between h]
theorem evoE_mk {s t:Sch} {st:Stp} (h1:schE s=0) (h2:evValE st=0) (h3:evApply s st=.ok t) (h4:schE t=0):evoE s st=.ok t:=by
 unfold evoE
 rw [if_neg (by omega),if_neg (by omega),h3]
 simp only
 rw [if_neg (by omega)]
theorem sEq_refl (a:ByteArray):sEq a a=true:=sEq_iff.2 rfl
theorem fk_names {s:Sch} (h:schE s=0) {f:FK} (hf:f∈s.fks):(∃t∈s.tables,t.name=f.table)∧∃t∈s.tables,t.name=f.ref:=by
 have:=((fksE_all _).1 ((schE_zero _).1 h).2.2.1).1 f hf
 obtain ⟨i,q,hi,hq,e1,e2,_⟩:=fkE_zero this
 obtain ⟨i',hi',_,n1⟩:=tblAt_some (ts:=s.tables) (n:=f.table) (by omega)
 obtain ⟨q',hq',_,n2⟩:=tblAt_some (ts:=s.tables) (n:=f.ref) (by omega)
 exact ⟨⟨_,List.getElem_mem hi',n1⟩,⟨_,List.getElem_mem hq',n2⟩⟩
theorem con_name {s:Sch} (h:schE s=0) {c:Con} (hc:c∈s.cons):∃t∈s.tables,t.name=c.table:=by
 have:=((consE_all _).1 ((schE_zero _).1 h).2.2.2).1 c hc
 obtain ⟨i,hi,e1,_⟩:=conE_zero this
 obtain ⟨i',hi',_,n1⟩:=tblAt_some (ts:=s.tables) (n:=c.table) (by omega)
 exact ⟨_,List.getElem_mem hi',n1⟩
theorem sEq_ne {a b:ByteArray} (h:a≠b):sEq a b=false:=by
 cases hb:sEq a b with
 | false=>rfl
 | true=>exact absurd (sEq_iff.1 hb) h
theorem idx_map {α β:Type} (g:α→β) (p:β→Bool):∀(l:List α) (k:Nat),idx (fun x=>p (g x)) l k=idx p (l.map g) k
 | [],_=>rfl
 | x::r,k=>by rw [List.map_cons,idx,idx,idx_map g p r]
theorem tblAt_names {ts us:List Tbl} (h:ts.map Tbl.name=us.map Tbl.name) (n:ByteArray):tblAt ts n=tblAt us n:=by
 unfold tblAt
 rw [idx_map Tbl.name (fun m=>sEq m n),idx_map Tbl.name (fun m=>sEq m n),h]
theorem set_names {ts:List Tbl} {i:Nat} (hi:i<ts.length) {t:Tbl} (h:t.name=ts[i].name):(ts.set i t).map Tbl.name=ts.map Tbl.name:=by
 rw [List.map_set,h]
 refine List.ext_getElem (by simp) fun j h1 h2=>?_
 rw [List.getElem_set]
 split
 ·rename_i e;subst e;simp
 ·rfl
theorem set_self {α:Type} (l:List α) {i:Nat} (hi:i<l.length):l.set i l[i]=l:=by
 refine List.ext_getElem (by simp) fun j h1 h2=>?_
 rw [List.getElem_set]
 split
 ·rename_i e;subst e;rfl
 ·rfl
theorem colAt_none {l:List Col} {n:ByteArray}:¬ 0≤colAt l n↔∀c∈l,c.name≠n:=by
 unfold colAt
 rw [idx_neg0]
 constructor
 ·intro h t ht e
  have:=h t ht
  rw [sEq_iff.2 e] at this
  cases this
 ·intro h t ht
  exact sEq_ne (h t ht)
theorem colAt_some {l:List Col} {n:ByteArray} (h:¬ colAt l n<0):∃i,∃hi:i<l.length,colAt l n=(i:Int)∧l[i].name=n:=by
 rcases idx_cases (fun t=>sEq t.name n) l 0 with ⟨e1,_⟩|⟨i,hi,e1,e2,_⟩
 ·have e1:colAt l n=-1:=e1
  omega
 ·exact ⟨i,hi,by unfold colAt;simpa using e1,sEq_iff.1 e2⟩
theorem colAt_at {t:Tbl} (o:OkTbl t) {k:Nat} (hk:k<t.cols.length):colAt t.cols t.cols[k].name=(k:Int):=by
 rcases idx_cases (fun c=>sEq c.name t.cols[k].name) t.cols 0 with ⟨_,e2⟩|⟨j,hj,e1,e2,e3⟩
 ·have:=e2 _ (List.getElem_mem hk)
  rw [sEq_refl] at this
  cases this
 ·have e:colAt t.cols t.cols[k].name=(j:Int):=by unfold colAt;simpa using e1
  have h1:=(o.col k hk).2.1
  rw [e,mx0_nat] at h1
  rcases Nat.lt_or_ge k j with h|h
  ·have:=e3 k h
   rw [sEq_refl] at this
   cases this
  ·rw [e]
   omega
theorem col_ne {t:Tbl} (o:OkTbl t) {j k:Nat} (hj:j<t.cols.length) (hk:k<t.cols.length) (h:j≠k):t.cols[j].name≠t.cols[k].name:=fun e=>by
 have h1:=colAt_at o hj
 rw [e,colAt_at o hk] at h1
 omega
theorem tAt_lt {s:Sch} {i:Nat} (hi:i<s.tables.length):tAt s i=s.tables[i]:=by
 unfold tAt
 exact getD_lt _ hi
theorem tAt_set {s:Sch} {i:Nat} (hi:i<s.tables.length) (t:Tbl):tAt (setT s i t) i=t:=by
 unfold tAt setT
 rw [getD_lt _ (by simpa using hi)]
 simp
theorem setT_setT (s:Sch) (i:Nat) (t u:Tbl):setT (setT s i t) i u=setT s i u:=by
 unfold setT
 simp
theorem setT_self {s:Sch} {i:Nat} (hi:i<s.tables.length):setT s i s.tables[i]=s:=by
 unfold setT
 rw [set_self _ hi]
theorem tblAt_setT {s:Sch} {i:Nat} (hi:i<s.tables.length) {t:Tbl} (h:t.name=s.tables[i].name) (n:ByteArray):tblAt (setT s i t).tables n=tblAt s.tables n:=tblAt_names (set_names hi h) n
def backCol (st:Stp):Stp:={zStp with kind:=st.kind,table:=st.table,column:=st.newName,newName:=st.column}
def backTbl (st:Stp):Stp:={zStp with kind:=st.kind,table:=st.newName,newName:=st.table}
theorem back_col {s t:Sch} {st:Stp} (h:evoE s st=.ok t) (hk:st.kind=3):evoE t (backCol st)=.ok s:=by
 obtain ⟨h1,_,h3,h4⟩:=evoE_parts h
 unfold evApply at h3
 rw [if_neg (by omega),if_neg (by omega),if_neg (by omega),if_neg (by omega),if_neg (by omega)] at h3
 simp only at h3
 split at h3
 ·cases h3
 rename_i hk0
 rw [if_neg (by omega),if_neg (by omega),if_neg (by omega),if_neg (by omega),if_neg (by omega),if_neg (by omega),if_neg (by omega),if_neg (by omega)] at h3
 obtain ⟨i,hi,ei,ni⟩:=tblAt_some hk0
 rw [ei,Int.toNat_natCast] at h3
 unfold alterC at h3
 simp only at h3
 rw [tAt_lt hi] at h3
 obtain ⟨T,hT⟩:∃T,s.tables[i]=T:=⟨_,rfl⟩
 rw [hT] at h3
 split at h3
 ·cases h3
 rename_i hc0
 try rw [if_pos hk] at h3
 split at h3
 ·cases h3
 rename_i hn0
 injection h3 with h3
 obtain ⟨k,hkl,ek,nk⟩:=colAt_some hc0
 rw [ek,Int.toNat_natCast,getD_lt _ hkl] at h3
 have hTm:T∈s.tables:=hT▸List.getElem_mem hi
 have ok1:=(okSch_of h1).tbl T hTm
 have hnn:=colAt_none.1 hn0
 obtain ⟨c,hc⟩:∃c,T.cols[k]=c:=⟨_,rfl⟩
 rw [hc] at h3 nk
 obtain ⟨c',hc'⟩:∃c':Col,({c with name:=st.newName}:Col)=c':=⟨_,rfl⟩
 rw [hc'] at h3
 have cn:c'.name=st.newName:=by rw [←hc']
 subst h3
 have hl:k<(setC T k c').cols.length:=by unfold setC;simpa using hkl
 have g1:(setC T k c').cols[k]=c':=by
  show (T.cols.set k c')[k]'(by simpa using hkl)=c'
  simp
 have ok2:=(okSch_of h4).tbl (setC T k c') (by
  unfold setT
  exact List.mem_iff_getElem.2 ⟨i,by simpa using hi,by simp⟩)
 refine evoE_mk h4 (by simp [evValE,evNorm,backCol,hk]) ?_ h1
 have ea:tblAt (setT s i (setC T k c')).tables st.table=(i:Int):=by rw [tblAt_setT hi (by rw [hT];rfl),ei]
 have e1:colAt (setC T k c').cols st.newName=(k:Int):=by
  have:=colAt_at ok2 hl
  rw [g1,cn] at this
  exact this
 have e2:¬ 0≤colAt (setC T k c').cols st.column:=by
  refine colAt_none.2 fun x hx=>?_
  obtain ⟨j,hj,rfl⟩:=List.mem_iff_getElem.1 hx
  have hj':j<T.cols.length:=by unfold setC at hj;simpa using hj
  by_cases hjk:k=j
  ·subst hjk
   rw [g1,cn,←nk,←hc]
   exact fun e=>hnn _ (List.getElem_mem hkl) e.symm
  ·have:(setC T k c').cols[j]=T.cols[j]:=by
    show (T.cols.set k c')[j]'(by simpa using hj')=T.cols[j]
    rw [List.getElem_set_ne hjk]
   rw [this,←nk,←hc]
   exact col_ne ok1 hj' hkl fun e=>hjk e.symm
 have eg:(setC T k c').cols.getD k zCol=c':=by rw [getD_lt _ hl,g1]
 have ef:setT s i (setC (setC T k c') k {c' with name:=st.column})=s:=by
  have e3:({c' with name:=st.column}:Col)=T.cols[k]:=by rw [←hc',hc,←nk]
  have e4:setC (setC T k c') k T.cols[k]=T:=by
   unfold setC
   simp only [List.set_set,set_self T.cols hkl]
  rw [e3,e4,←hT,setT_self hi]
 unfold evApply backCol alterC
 simp only [ea,Int.toNat_natCast,tAt_set hi,e1,hk,eg,setT_setT,ef]
 simp
 rw [if_neg (by omega),if_neg (by omega),if_neg (by omega)]
theorem cut_mem {α:Type} {l:List α} {i:Nat} {x:α} (h:x∈l.take i++l.drop (i+1)):∃j,∃hj:j<l.length,j≠i∧l[j]=x:=by
 rcases List.mem_append.1 h with h|h
 ·obtain ⟨j,hj,rfl⟩:=List.mem_take_iff_getElem.1 h
  exact ⟨j,by omega,by omega,rfl⟩
 ·obtain ⟨j,hj,rfl⟩:=List.mem_drop_iff_getElem.1 h
  exact ⟨i+1+j,by omega,by omega,rfl⟩
theorem cut_split {α:Type} {l:List α} {i:Nat} (h:i<l.length):l=l.take i++l[i]::l.drop (i+1):=by
 rw [List.getElem_cons_drop,List.take_append_drop]
theorem ren_back {old new x:ByteArray} (h:x≠new):ren new old (ren old new x)=x:=by
 unfold ren
 by_cases e:x=old
 ·subst e
  rw [if_pos (sEq_refl _),if_pos (sEq_refl _)]
 ·simp [sEq_ne e,sEq_ne h]
theorem back_tbl {s t:Sch} {st:Stp} (h:evoE s st=.ok t) (hk:st.kind=4):evoE t (backTbl st)=.ok s:=by
 obtain ⟨h1,_,h3,h4⟩:=evoE_parts h
 unfold evApply at h3
 rw [if_neg (by omega),if_neg (by omega),if_neg (by omega),if_neg (by omega),if_neg (by omega)] at h3
 simp only at h3
 split at h3
 ·cases h3
 rename_i hk0
 try rw [if_pos hk] at h3
 obtain ⟨i,hi,ei,ni⟩:=tblAt_some hk0
 rw [ei,Int.toNat_natCast] at h3
 unfold renameT at h3
 split at h3
 ·cases h3
 rename_i hn
 simp only at h3
 injection h3 with h3
 rw [tAt_lt hi] at h3
 have hnm:=tblAt_none.1 hn
 have so:=sorted_of h1
 obtain ⟨T,hT⟩:∃T,s.tables[i]=T:=⟨_,rfl⟩
 rw [hT] at h3 ni
 have hTm:T∈s.tables:=hT▸List.getElem_mem hi
 have hsp:=cut_split hi
 rw [hT] at hsp
 have hso:(s.tables.take i++T::s.tables.drop (i+1)).Pairwise LtT:=hsp▸so
 have hbase:(s.tables.take i++s.tables.drop (i+1)).Pairwise LtT:=by
  have hp:=List.pairwise_append.1 hso
  exact List.pairwise_append.2 ⟨hp.1,(List.pairwise_cons.1 hp.2.1).2,fun a ha b hb=>hp.2.2 a ha b (List.mem_cons_of_mem _ hb)⟩
 have hbm:∀x∈s.tables.take i++s.tables.drop (i+1),x∈s.tables∧x.name≠st.table:=fun x hx=>by
  obtain ⟨j,hj,hji,rfl⟩:=cut_mem hx
  refine ⟨List.getElem_mem hj,fun e=>?_⟩
  have:=tblAt_at so hj
  rw [e,ei] at this
  omega
 obtain ⟨A,B,hAB,hp⟩:=place hbase {T with name:=st.newName} fun x hx=>hnm x (hbm x hx).1
 rw [insertT_eq (s:={s with tables:=s.tables.take i++s.tables.drop (i+1)}) hAB hp,ni] at h3
 simp only at h3
 subst h3
 refine evoE_mk h4 (by simp [evValE,evNorm,backTbl,hk]) ?_ h1
 have nne:st.newName≠st.table:=fun e=>hnm T hTm (by rw [ni,e])
 have ha:tblAt (A++{T with name:=st.newName}::B) st.newName=((A.length:Nat):Int):=by
  have:=tblAt_at hp (i:=A.length) (by simp)
  simpa using this
 have hb:¬ 0≤tblAt (A++{T with name:=st.newName}::B) st.table:=by
  refine tblAt_none.2 fun x hx=>?_
  rcases List.mem_append.1 hx with hx|hx
  ·exact (hbm x (by rw [hAB];simp [hx])).2
  ·rcases List.mem_cons.1 hx with rfl|hx
   ·exact nne
   ·exact (hbm x (by rw [hAB];simp [hx])).2
 have hg:(A++{T with name:=st.newName}::B).getD A.length zTbl={T with name:=st.newName}:=by
  rw [getD_lt _ (by simp)]
  simp
 have hcut:(A++{T with name:=st.newName}::B).take A.length++(A++{T with name:=st.newName}::B).drop (A.length+1)=s.tables.take i++s.tables.drop (i+1):=by
  rw [hAB]
  simp
 have f1:s.fks.map ((fun f:FK=>{f with table:=ren st.newName st.table f.table,ref:=ren st.newName st.table f.ref})∘fun f:FK=>{f with table:=ren st.table st.newName f.table,ref:=ren st.table st.newName f.ref})=s.fks:=by
  conv=>rhs;rw [←List.map_id s.fks]
  refine List.map_congr_left fun f hf=>?_
  obtain ⟨⟨t1,m1,e1⟩,t2,m2,e2⟩:=fk_names h1 hf
  simp only [Function.comp,ren_back (e1▸hnm t1 m1),ren_back (e2▸hnm t2 m2),id]
 have f2:s.cons.map ((fun c:Con=>{c with table:=ren st.newName st.table c.table})∘fun c:Con=>{c with table:=ren st.table st.newName c.table})=s.cons:=by
  conv=>rhs;rw [←List.map_id s.cons]
  refine List.map_congr_left fun c hc=>?_
  obtain ⟨t1,m1,e1⟩:=con_name h1 hc
  simp only [Function.comp,ren_back (e1▸hnm t1 m1),id]
 have eT:({({T with name:=st.newName}:Tbl) with name:=st.table}:Tbl)=T:=by rw [←ni]
 have ins:=insertT_eq (s:={tables:=s.tables.take i++s.tables.drop (i+1),fks:=s.fks.map fun f=>{f with table:=ren st.table st.newName f.table,ref:=ren st.table st.newName f.ref},cons:=s.cons.map fun c=>{c with table:=ren st.table st.newName c.table}}) rfl hso
 unfold evApply backTbl renameT tAt
 simp only [hk,ha,Int.toNat_natCast,hb,hg,hcut,eT,ins,List.map_map,f1,f2,←hsp]
 simp
def pairR (s:Sch) (a b:Stp):Res:=match evoE s a with|.error e=>.error e|.ok t=>evoE t b
set_option maxHeartbeats 16000000 in
theorem applyPair_sat (s:Sch) (a b:Stp) (hs:s.Fits) (ha:a.Fits) (hb:b.Fits):Sat Tryz.prog 16 [.agg (eSch s),.agg (eStp a),.agg (eStp b)] (.tup [.agg (eSch (sOut (pairR s a b))),oI (rE (pairR s a b))]):=by
 have c1:=evoApply_sat s a hs ha
 unfold pairR
 cases h:evoE s a with
 | error e =>
  have he:=evoE_ne h
  rw [h] at c1
  unfold sOut rE at c1 ⊢
  simp only at c1 ⊢
  refine ZE Tryz.func16 Tryz.ntmps16 fun w0 m0 F0=>?_
  refine ZW (Z2 @eStp.eq_1 @he) (Z1 (c1)) ?_
  exact ZQ (Z1 Tryz.results16)
 | ok t =>
  have c2:=evoApply_sat t b (small_of (evoE_ok h)).fits hb
  rw [h] at c1
  unfold rE at c1
  rw [show sOut (.ok t)=t from rfl] at c1
  simp only at c1 ⊢
  refine ZE Tryz.func16 Tryz.ntmps16 fun w0 m0 F0=>?_
  refine ZW (Z1 @eStp.eq_1) (Z2 (c1) (c2)) ?_
  exact ZQ (Z1 Tryz.results16)
theorem back_law (s t:Sch) (st bk:Stp) (h:evoE s st=.ok t) (hb:evoE t bk=.ok s):pairR s st bk=.ok s:=by
 unfold pairR
 rw [h]
 exact hb
theorem zStp_fits:zStp.Fits:=⟨by decide,by decide,by decide,by decide⟩
set_option maxHeartbeats 16000000 in
theorem evolutionRenameBack_sat (s:Sch) (st:Stp) (hs:s.Fits) (hf:st.Fits):Sat Tryz.prog 8 [.agg (eSch s),.agg (eStp st)] (.v (oB true)):=by
 have c0:=lensesWork_sat
 have c1:=evoApply_sat s st hs hf
 have eqs:=schEqual_sat s s hs hs
 rw [decide_eq_true rfl] at eqs
 by_cases k4:st.kind=4
 ·have p1:=applyPair_sat s st (backTbl st) hs hf ⟨zStp_fits.1,zStp_fits.2,zStp_fits.3,zStp_fits.4⟩
  have e4:(st.kind==4)=true:=by simp [k4]
  cases h:evoE s st with
  | error e =>
   have he:=evoE_ne h
   rw [h] at c1
   unfold sOut rE at c1
   simp only at c1
   refine ZE Tryz.func8 Tryz.ntmps8 fun w0 m0 F0=>?_
   refine ZW (Z3 @eStp.eq_1 @he @e4) (Z2 (c0) (c1)) ?_
   exact ZQ (Z1 Tryz.results8)
  | ok t =>
   rw [h] at c1
   unfold rE at c1
   rw [show sOut (.ok t)=t from rfl] at c1
   simp only at c1
   rw [back_law s t st _ h (back_tbl h k4)] at p1
   unfold rE at p1
   rw [show sOut (.ok s)=s from rfl] at p1
   simp only [backTbl,zStp,zCon,zFK,eStp,eInts,eCols,List.map_nil] at p1
   refine ZE Tryz.func8 Tryz.ntmps8 fun w0 m0 F0=>?_
   refine ZW (Z2 @eStp.eq_1 @e4) (Z4 (c0) (c1) (p1) (eqs)) ?_
   exact ZQ (Z1 Tryz.results8)
 have e4:(st.kind==4)=false:=by simp [k4]
 by_cases k3:st.kind=3
 ·have p1:=applyPair_sat s st (backCol st) hs hf ⟨zStp_fits.1,zStp_fits.2,zStp_fits.3,zStp_fits.4⟩
  have e3:(st.kind==3)=true:=by simp [k3]
  cases h:evoE s st with
  | error e =>
   have he:=evoE_ne h
   rw [h] at c1
   unfold sOut rE at c1
   simp only at c1
   refine ZE Tryz.func8 Tryz.ntmps8 fun w0 m0 F0=>?_
   refine ZW (Z4 @eStp.eq_1 @he @e4 @e3) (Z2 (c0) (c1)) ?_
   exact ZQ (Z1 Tryz.results8)
  | ok t =>
   rw [h] at c1
   unfold rE at c1
   rw [show sOut (.ok t)=t from rfl] at c1
   simp only at c1
   rw [back_law s t st _ h (back_col h k3)] at p1
   unfold rE at p1
   rw [show sOut (.ok s)=s from rfl] at p1
   simp only [backCol,zStp,zCon,zFK,eStp,eInts,eCols,List.map_nil] at p1
   refine ZE Tryz.func8 Tryz.ntmps8 fun w0 m0 F0=>?_
   refine ZW (Z3 @eStp.eq_1 @e4 @e3) (Z4 (c0) (c1) (p1) (eqs)) ?_
   exact ZQ (Z1 Tryz.results8)
 ·have e3:(st.kind==3)=false:=by simp [k3]
  refine ZE Tryz.func8 Tryz.ntmps8 fun w0 m0 F0=>?_
  refine ZW (Z3 @eStp.eq_1 @e4 @e3) (Z1 (c0)) ?_
  exact ZQ (Z1 Tryz.results8)
end Go.Bw
