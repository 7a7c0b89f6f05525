/-
  WHAT IS PROVED HERE, of this translation: dup_iff, fksE_all, consE_all, CmpC.perm, glessAt_get, gdown_ord, gdown_end, ginsR_ord, ginsR_last, insert_between, insertT_eq, evoE_mk, .., set_cut, get_ins, joinG_moved, kept_at, split_join, colEq_refl, indexCol_sat, containsCol_sat, containsFCol_sat, splitJoin1_sat, evolutionSplitJoin_sat.
  A theorem that ends in sat says what the function it names returns, whatever the state it is called in; the bounds on its arguments stand ahead of it.
-/
import Derived.Test.YtdnapljegcihiaaGreatDoorVzf
set_option linter.unusedSimpArgs false
set_option linter.unusedVariables false
namespace Go.Bw
open Go.Proofs
theorem dup_iff {α:Type} (p:α→α→Bool) (l:List α):(∀j,∀h:j<l.length,¬ (0≤idx (fun o=>p o l[j]) (l.take j) 0))↔l.Pairwise fun a b=>p a b=false:=by
 rw [List.pairwise_iff_getElem]
 constructor
 ·intro h i j hi hj hij
  exact idx_neg0.1 (h j hj) _ (List.mem_take_iff_getElem.2 ⟨i,by omega,rfl⟩)
 ·intro h j hj
  refine idx_neg0.2 fun x hx=>?_
  obtain ⟨i,hi,rfl⟩:=List.mem_take_iff_getElem.1 hx
  exact h i j (by omega) hj (by omega)
theorem fksE_all (s:Sch):(∀j,∀h:j<s.fks.length,fksE s j s.fks[j]=none)↔(∀f∈s.fks,fkE s f=0)∧s.fks.Pairwise fun a b=>fkEq a b=false:=by
 rw [←dup_iff]
 constructor
 ·intro h
  refine ⟨fun f hf=>?_,fun j hj=>?_⟩
  ·obtain ⟨j,hj,rfl⟩:=List.mem_iff_getElem.1 hf
   have:=h j hj
   unfold fksE at this
   split at this
   ·cases this
   ·rename_i h1;simpa using h1
  ·have:=h j hj
   unfold fksE at this
   split at this
   ·cases this
   ·split at this
    ·cases this
    ·assumption
 ·rintro ⟨h1,h2⟩ j hj
  unfold fksE
  rw [if_neg (by simp [h1 _ (List.getElem_mem hj)]),if_neg (h2 j hj)]
theorem consE_all (s:Sch):(∀j,∀h:j<s.cons.length,consE s j s.cons[j]=none)↔(∀c∈s.cons,conE s c=0)∧s.cons.Pairwise fun a b=>conEq b a=false:=by
 rw [←dup_iff fun a b=>conEq b a]
 constructor
 ·intro h
  refine ⟨fun f hf=>?_,fun j hj=>?_⟩
  ·obtain ⟨j,hj,rfl⟩:=List.mem_iff_getElem.1 hf
   have:=h j hj
   unfold consE at this
   split at this
   ·cases this
   ·rename_i h1;simpa using h1
  ·have:=h j hj
   unfold consE at this
   split at this
   ·cases this
   ·split at this
    ·cases this
    ·assumption
 ·rintro ⟨h1,h2⟩ j hj
  unfold consE
  rw [if_neg (by simp [h1 _ (List.getElem_mem hj)]),if_neg (h2 j hj)]
end Go.Bw
namespace Go.Bw
open Go.Proofs
def CmpC (P:Program) (f:FuncId) (q:L) (c:Chg→Chg→Int) (cs:List Chg):Prop:=∀x∈cs,∀y∈cs,Sat P f [.agg (eChg x),.agg (eChg y),.one q] (.v (oI (c x y)))
theorem CmpC.perm {P:Program} {f:FuncId} {q:L} {c:Chg→Chg→Int} {cs ds:List Chg} (h:CmpC P f q c cs) (hp:ds.Perm cs):CmpC P f q c ds:=fun x hx y hy=>h x (hp.subset hx) y (hp.subset hy)
instance (a b:Tbl):Decidable (LtT a b):=Int.decLt _ _
theorem glessAt_get {ds:List Tbl} {i j:Nat} (hi:i<ds.length) (hj:j<ds.length):glessAt cmpT ds i j=decide (LtT ds[i] ds[j]):=by
 simp only [glessAt,List.getElem?_eq_getElem hi,List.getElem?_eq_getElem hj]
 rfl
theorem gdown_ord {ds:List Tbl} {j:Nat} (hj:j<ds.length) (h:∀q:0<j,¬ LtT ds[j] (ds[j - 1]'(by omega))):gdown cmpT 0 j ds=ds:=by
 refine gdown_stop cmpT 0 j ds ?_
 rcases Nat.eq_zero_or_pos j with h0|h0
 ·exact .inl (by omega)
 ·refine .inr ?_
  rw [glessAt_get hj (by omega)]
  exact decide_eq_false (h h0)
theorem gdown_end (A:List Tbl) (t:Tbl):∀(B C:List Tbl),(∀x∈B,LtT t x)→(∀q:0<A.length,¬ LtT t (A[A.length - 1]'(by omega)))→gdown cmpT 0 (A.length+B.length) (A++B++t::C)=A++t::(B++C):=by
 intro B
 induction h:B.length generalizing B with
 | zero =>
  intro C hB hA
  have:B=[]:=List.eq_nil_of_length_eq_zero h
  subst this
  simp only [List.append_nil,List.nil_append]
  refine gdown_ord (by simp) fun q=>?_
  have e1:(A++t::C)[A.length+0]'(by simp)=t:=by simp
  have e2:(A++t::C)[A.length+0 - 1]'(by simp;omega)=A[A.length - 1]'(by omega):=by
   rw [List.getElem_append_left (by omega)]
   rfl
  rw [e1,e2]
  exact hA (by omega)
 | succ n ih =>
  intro C hB hA
  obtain ⟨B',x,rfl⟩:∃B' x,B=B'++[x]:=by
   rcases List.eq_nil_or_concat B with e|⟨B',x,e⟩
   ·subst e;simp at h
   ·exact ⟨B',x,by simpa using e⟩
  have hn:B'.length=n:=by simpa using h
  have hlen:A.length+(n+1)=(A++B').length+1:=by simp;omega
  have e0:A++(B'++[x])++t::C=(A++B')++x::t::C:=by simp
  rw [hlen,e0,gdown]
  have g1:((A++B')++x::t::C)[(A++B').length+1]'(by simp;omega)=t:=by
   rw [List.getElem_append_right (by omega)]
   simp
  have g2:((A++B')++x::t::C)[(A++B').length]'(by simp)=x:=by
   rw [List.getElem_append_right (Nat.le_refl _)]
   simp
  rw [if_pos ⟨by omega,by
   rw [glessAt_get (by simp;omega) (by simp),g1,g2]
   exact decide_eq_true (hB x (by simp))⟩]
  have sw:gswp ((A++B')++x::t::C) ((A++B').length+1) (A++B').length=(A++B')++t::x::C:=by
   rw [gswp_eq (by simp;omega) (by simp),g1,g2]
   rw [List.set_append_right _ _ (by omega),List.set_append_right _ _ (Nat.le_refl _)]
   simp
  rw [sw]
  have:=ih B' hn (x::C) (fun y hy=>hB y (by simp [hy])) hA
  rw [List.length_append,hn,this]
  simp
theorem ginsR_ord {ts:List Tbl} (hs:ts.Pairwise LtT) (t:Tbl):∀n i,n+i≤ts.length→ginsR cmpT 0 n i (ts++[t])=ts++[t]
 | 0,_,_=>rfl
 | n+1,i,h=>by
  rw [ginsR,gdown_ord (by simp;omega) (fun q=>by
   rw [List.getElem_append_left (by omega),List.getElem_append_left (by omega)]
   intro hl
   have:=List.pairwise_iff_getElem.1 hs (i - 1) i (by omega) (by omega) (by omega)
   exact (LtT.trans this hl).ne rfl)]
  exact ginsR_ord hs t n (i+1) (by omega)
theorem ginsR_last (t:Tbl):∀n i (l:List Tbl),ginsR cmpT 0 (n+1) i l=gdown cmpT 0 (i+n) (ginsR cmpT 0 n i l)
 | 0,i,l=>by rw [ginsR,ginsR,ginsR];rfl
 | n+1,i,l=>by
  rw [ginsR,ginsR_last t n (i+1),ginsR]
  congr 1
  omega
theorem insert_between {A B:List Tbl} {t:Tbl} (h:(A++t::B).Pairwise LtT):ginsS cmpT 0 ((A++B).length+1) ((A++B)++[t])=A++t::B:=by
 have hp:=List.pairwise_append.1 h
 have hB:=List.pairwise_cons.1 hp.2.1
 have hAB:(A++B).Pairwise LtT:=List.pairwise_append.2 ⟨hp.1,hB.2,fun a ha b hb=>hp.2.2 a ha b (List.mem_cons_of_mem _ hb)⟩
 unfold ginsS
 rcases Nat.eq_zero_or_pos (A++B).length with h0|h0
 ·have:A++B=[]:=List.eq_nil_of_length_eq_zero h0
  obtain ⟨rfl,rfl⟩:=List.append_eq_nil_iff.1 this
  rfl
 ·obtain ⟨n,hn⟩:∃n,(A++B).length=n+1:=⟨(A++B).length - 1,by omega⟩
  rw [show (A++B).length+1 - (0+1)=n+1 by omega,ginsR_last t n 1,ginsR_ord hAB t n 1 (by omega)]
  have hl:1+n=A.length+B.length:=by rw [List.length_append] at hn;omega
  rw [hl,gdown_end A t B [] hB.1 fun q hq=>?_,List.append_nil]
  exact (LtT.trans (hp.2.2 _ (List.getElem_mem (by omega)) t (List.mem_cons_self ..)) hq).ne rfl
theorem insertT_eq {s:Sch} {A B:List Tbl} {t:Tbl} (hs:s.tables=A++B) (h:(A++t::B).Pairwise LtT):insertT s t={s with tables:=A++t::B}:=by
 unfold insertT
 rw [hs,insert_between h]
theorem evoE_mk {s t:Sch} {st:Stp} (h1:schE s=0) (h2:evValE st=0) (h3:evApply s st=.ok t) (h4:schE t=0):evoE s st=.ok t:=by
 unfold evoE
 rw [if_neg (by omega),if_neg (by omega),h3]
 simp only
 rw [if_neg (by omega)]
theorem idx_last {α:Type} {p:α→Bool} {x:α} (hx:p x=true):∀(l:List α) (k:Nat),(∀y∈l,p y=false)→idx p (l++[x]) k=((k+l.length:Nat):Int)
 | [],k,_=>by simp [idx,hx]
 | y::r,k,h=>by
  rw [List.cons_append,idx,if_neg (by simp [h y (List.mem_cons_self ..)]),idx_last hx r (k+1) fun z hz=>h z (List.mem_cons_of_mem _ hz)]
  simp only [List.length_cons]
  congr 1
  omega
theorem cut_last {α:Type} (l:List α) (x:α):(l++[x]).take l.length++(l++[x]).drop (l.length+1)=l:=by simp
theorem sEq_refl (a:ByteArray):sEq a a=true:=sEq_iff.2 rfl
theorem conEq_refl (c:Con):conEq c c=true:=by simp [conEq,sEq_refl]
theorem fkEq_refl (f:FK):fkEq f f=true:=by simp [fkEq,sEq_refl]
theorem fk_names {s:Sch} (h:schE s=0) {f:FK} (hf:f∈s.fks):(∃t∈s.tables,t.name=f.table)∧∃t∈s.tables,t.name=f.ref:=by
 have:=((fksE_all _).1 ((schE_zero _).1 h).2.2.1).1 f hf
 obtain ⟨i,q,hi,hq,e1,e2,_⟩:=fkE_zero this
 obtain ⟨i',hi',_,n1⟩:=tblAt_some (ts:=s.tables) (n:=f.table) (by omega)
 obtain ⟨q',hq',_,n2⟩:=tblAt_some (ts:=s.tables) (n:=f.ref) (by omega)
 exact ⟨⟨_,List.getElem_mem hi',n1⟩,⟨_,List.getElem_mem hq',n2⟩⟩
theorem con_name {s:Sch} (h:schE s=0) {c:Con} (hc:c∈s.cons):∃t∈s.tables,t.name=c.table:=by
 have:=((consE_all _).1 ((schE_zero _).1 h).2.2.2).1 c hc
 obtain ⟨i,hi,e1,_⟩:=conE_zero this
 obtain ⟨i',hi',_,n1⟩:=tblAt_some (ts:=s.tables) (n:=c.table) (by omega)
 exact ⟨_,List.getElem_mem hi',n1⟩
theorem sEq_ne {a b:ByteArray} (h:a≠b):sEq a b=false:=by
 cases hb:sEq a b with
 | false=>rfl
 | true=>exact absurd (sEq_iff.1 hb) h
theorem idx_map {α β:Type} (g:α→β) (p:β→Bool):∀(l:List α) (k:Nat),idx (fun x=>p (g x)) l k=idx p (l.map g) k
 | [],_=>rfl
 | x::r,k=>by rw [List.map_cons,idx,idx,idx_map g p r]
theorem tblAt_names {ts us:List Tbl} (h:ts.map Tbl.name=us.map Tbl.name) (n:ByteArray):tblAt ts n=tblAt us n:=by
 unfold tblAt
 rw [idx_map Tbl.name (fun m=>sEq m n),idx_map Tbl.name (fun m=>sEq m n),h]
theorem set_names {ts:List Tbl} {i:Nat} (hi:i<ts.length) {t:Tbl} (h:t.name=ts[i].name):(ts.set i t).map Tbl.name=ts.map Tbl.name:=by
 rw [List.map_set,h]
 refine List.ext_getElem (by simp) fun j h1 h2=>?_
 rw [List.getElem_set]
 split
 ·rename_i e;subst e;simp
 ·rfl
theorem colAt_at {t:Tbl} (o:OkTbl t) {k:Nat} (hk:k<t.cols.length):colAt t.cols t.cols[k].name=(k:Int):=by
 rcases idx_cases (fun c=>sEq c.name t.cols[k].name) t.cols 0 with ⟨_,e2⟩|⟨j,hj,e1,e2,e3⟩
 ·have:=e2 _ (List.getElem_mem hk)
  rw [sEq_refl] at this
  cases this
 ·have e:colAt t.cols t.cols[k].name=(j:Int):=by unfold colAt;simpa using e1
  have h1:=(o.col k hk).2.1
  rw [e,mx0_nat] at h1
  rcases Nat.lt_or_ge k j with h|h
  ·have:=e3 k h
   rw [sEq_refl] at this
   cases this
  ·rw [e]
   omega
theorem col_ne {t:Tbl} (o:OkTbl t) {j k:Nat} (hj:j<t.cols.length) (hk:k<t.cols.length) (h:j≠k):t.cols[j].name≠t.cols[k].name:=fun e=>by
 have h1:=colAt_at o hj
 rw [e,colAt_at o hk] at h1
 omega
theorem fk_cols {s:Sch} (h:schE s=0) {f:FK} (hf:f∈s.fks) {i:Nat} (hi:i<s.tables.length) (hn:f.table=s.tables[i].name):∀x∈f.cols,0≤x∧x<(s.tables[i].cols.length:Int):=by
 have:=((fksE_all _).1 ((schE_zero _).1 h).2.2.1).1 f hf
 obtain ⟨i',q,hi',_,e1,_,_,hc⟩:=fkE_zero this
 rw [hn,tblAt_at (sorted_of h) hi] at e1
 have:i=i':=by omega
 subst this
 intro x hx
 obtain ⟨j,hj,rfl⟩:=List.mem_iff_getElem.1 hx
 exact hc j hj
theorem con_cols {s:Sch} (h:schE s=0) {c:Con} (hc:c∈s.cons) {i:Nat} (hi:i<s.tables.length) (hn:c.table=s.tables[i].name):0≤c.left∧c.left<(s.tables[i].cols.length:Int)∧c.right<(s.tables[i].cols.length:Int):=by
 have:=((consE_all _).1 ((schE_zero _).1 h).2.2.2).1 c hc
 obtain ⟨i',hi',e1,h1,h2,_,h3⟩:=conE_zero this
 rw [hn,tblAt_at (sorted_of h) hi] at e1
 have:i=i':=by omega
 subst this
 exact ⟨h1,h2,h3⟩
theorem tAt_lt {s:Sch} {i:Nat} (hi:i<s.tables.length):tAt s i=s.tables[i]:=by
 unfold tAt
 exact getD_lt _ hi
theorem tblAt_setT {s:Sch} {i:Nat} (hi:i<s.tables.length) {t:Tbl} (h:t.name=s.tables[i].name) (n:ByteArray):tblAt (setT s i t).tables n=tblAt s.tables n:=tblAt_names (set_names hi h) n
def pairR (s:Sch) (a b:Stp):Res:=match evoE s a with|.error e=>.error e|.ok t=>evoE t b
set_option maxHeartbeats 16000000 in
theorem applyPair_sat (s:Sch) (a b:Stp) (hs:s.Fits) (ha:a.Fits) (hb:b.Fits):Sat Tryz.prog 16 [.agg (eSch s),.agg (eStp a),.agg (eStp b)] (.tup [.agg (eSch (sOut (pairR s a b))),oI (rE (pairR s a b))]):=by
 have c1:=evoApply_sat s a hs ha
 unfold pairR
 cases h:evoE s a with
 | error e =>
  have he:=evoE_ne h
  rw [h] at c1
  unfold sOut rE at c1 ⊢
  simp only at c1 ⊢
  refine ZE Tryz.func16 Tryz.ntmps16 fun w0 m0 F0=>?_
  refine ZW (Z2 @eStp.eq_1 @he) (Z1 (c1)) ?_
  exact ZQ (Z1 Tryz.results16)
 | ok t =>
  have c2:=evoApply_sat t b (small_of (evoE_ok h)).fits hb
  rw [h] at c1
  unfold rE at c1
  rw [show sOut (.ok t)=t from rfl] at c1
  simp only at c1 ⊢
  refine ZE Tryz.func16 Tryz.ntmps16 fun w0 m0 F0=>?_
  refine ZW (Z1 @eStp.eq_1) (Z2 (c1) (c2)) ?_
  exact ZQ (Z1 Tryz.results16)
theorem zStp_fits:zStp.Fits:=⟨by decide,by decide,by decide,by decide⟩
structure PermT (T T2:Tbl) (π:Int→Int):Prop where
 name:T2.name=T.name
 len:T2.cols.length=T.cols.length
 rng:∀c,0≤c→c<(T.cols.length:Int)→0≤π c∧π c<(T.cols.length:Int)
 inj:∀c d,0≤c→c<(T.cols.length:Int)→0≤d→d<(T.cols.length:Int)→π c=π d→c=d
 sur:∀k,0≤k→k<(T.cols.length:Int)→∃c,0≤c∧c<(T.cols.length:Int)∧π c=k
 col:∀c,0≤c→c<(T.cols.length:Int)→T2.cols.getD (π c).toNat zCol=T.cols.getD c.toNat zCol
 pk:T2.pk=T.pk.map π
 mono:∀k,∀h:k<T.pk.length,∀h0:0<k,π (T.pk[k - 1]'(by omega))<π T.pk[k]
theorem tblE_of {t:Tbl} (o:OkTbl t):tblE t=0:=by
 unfold tblE
 rw [if_neg (by simp [o.name]),if_neg o.cols0,if_neg (by have:=o.cols6;omega)]
 have h1:scan (colE t) t.cols 0=none:=scan_eq_none.2 fun j hj=>by
  obtain ⟨h1,h2,h3,h4⟩:=o.col j hj
  unfold colE
  rw [if_neg (by simp [h1]),if_neg (by omega),if_neg (by omega)]
 have h2:scan (pkE t) t.pk 0=none:=scan_eq_none.2 fun j hj=>by
  obtain ⟨h1,h2,h3,h4⟩:=o.key j hj
  unfold pkE
  refine if_neg fun q=>?_
  rcases q with q|q|q|⟨q1,q2⟩
  ·omega
  ·omega
  ·rw [h3] at q;cases q
  ·have:=h4 (by omega)
   rw [show ((j:Int) - 1).toNat=j - 1 by omega,getD_lt _ (by omega)] at q2
   omega
 rw [h1]
 simp only
 rw [h2]
 simp only
 rw [if_neg o.pk0]
theorem getD_int {l:List Col} {c:Int} (h0:0≤c) (h:c<(l.length:Int)):l.getD c.toNat zCol=l[c.toNat]'(by omega):=getD_lt _ (by omega)
theorem PermT.ok {T T2:Tbl} {π:Int→Int} (p:PermT T T2 π) (o:OkTbl T):OkTbl T2:=by
 have ln:=p.len
 have back:∀k,∀h:k<T2.cols.length,∃c:Nat,∃hc:c<T.cols.length,π c=(k:Int)∧T2.cols[k]=T.cols[c]:=fun k h=>by
  obtain ⟨c,c0,c1,e⟩:=p.sur k (by omega) (by omega)
  refine ⟨c.toNat,by omega,by rw [Int.toNat_of_nonneg c0];exact e,?_⟩
  have:=p.col c c0 c1
  rw [e,getD_int c0 c1,getD_int (by omega) (by omega)] at this
  simpa using this
 refine ⟨by rw [p.name];exact o.name,by rw [p.len];exact o.cols0,by rw [p.len];exact o.cols6,fun k h=>?_,fun k h=>?_,by rw [p.pk,List.length_map];exact o.pk0⟩
 ·obtain ⟨c,hc,e,ec⟩:=back k h
  obtain ⟨h1,_,h3,h4⟩:=o.col c hc
  rw [ec]
  refine ⟨h1,?_,h3,h4⟩
  rcases idx_cases (fun x=>sEq x.name T.cols[c].name) T2.cols 0 with ⟨_,e2⟩|⟨j,hj,e1,e2,e3⟩
  ·have:=e2 _ (List.getElem_mem h)
   rw [ec,sEq_refl] at this
   cases this
  ·have e1:colAt T2.cols T.cols[c].name=(j:Int):=by unfold colAt;simpa using e1
   rw [e1,mx0_nat]
   obtain ⟨d,hd,ed,ecd⟩:=back j hj
   have e4:=sEq_iff.1 e2
   rw [ecd] at e4
   have:d=c:=Decidable.byContradiction fun hne=>col_ne o hd hc hne e4
   subst this
   omega
 ·have hk:k<T.pk.length:=by rw [p.pk,List.length_map] at h;exact h
  have e:T2.pk[k]=π T.pk[k]:=by simp [p.pk]
  obtain ⟨h1,h2,h3,_⟩:=o.key k hk
  obtain ⟨r1,r2⟩:=p.rng _ h1 h2
  rw [e]
  refine ⟨r1,by omega,by rw [p.col _ h1 h2];exact h3,fun h0=>?_⟩
  have e':T2.pk[k - 1]=π (T.pk[k - 1]'(by omega)):=by simp [p.pk]
  rw [e']
  exact p.mono k hk h0
theorem fkE_iff {s:Sch} {f:FK}:fkE s f=0↔∃i q,∃hi:i<s.tables.length,∃hq:q<s.tables.length,tblAt s.tables f.table=(i:Int)∧tblAt s.tables f.ref=(q:Int)∧f.cols.length=s.tables[q].pk.length ∧
  ∀j,∀hj:j<f.cols.length,0≤f.cols[j]∧f.cols[j]<(s.tables[i].cols.length:Int)∧(s.tables[i].cols.getD f.cols[j].toNat zCol).kind=(s.tables[q].cols.getD (s.tables[q].pk.getD j 0).toNat zCol).kind:=by
 unfold fkE
 constructor
 ·intro h
  split at h
  ·cases h
  rename_i h0
  obtain ⟨i,hi,e1,_⟩:=tblAt_some (ts:=s.tables) (n:=f.table) (by omega)
  obtain ⟨q,hq,e2,_⟩:=tblAt_some (ts:=s.tables) (n:=f.ref) (by omega)
  simp only [e1,e2,Int.toNat_natCast,getD_lt _ hi,getD_lt _ hq,fkTE] at h
  split at h
  ·cases h
  rename_i h1
  change orE (scan (fkColE s.tables[i] s.tables[q]) f.cols 0) 0=0 at h
  rw [scan_zero (fun k x e he=>by
   unfold fkColE at he
   split at he
   ·injection he with he;omega
   ·split at he
    ·injection he with he;omega
    ·cases he),scan_eq_none] at h
  refine ⟨i,q,hi,hq,e1,e2,by omega,fun j hj=>?_⟩
  have:=h.1 j hj
  unfold fkColE at this
  split at this
  ·cases this
  ·split at this
   ·cases this
   ·rename_i h5 h6
    exact ⟨by omega,by omega,Decidable.byContradiction h6⟩
 ·rintro ⟨i,q,hi,hq,e1,e2,hl,hc⟩
  rw [if_neg (by omega),e1,e2,Int.toNat_natCast,Int.toNat_natCast,getD_lt _ hi,getD_lt _ hq]
  unfold fkTE
  rw [if_neg (by omega)]
  have:scan (fkColE s.tables[i] s.tables[q]) f.cols 0=none:=scan_eq_none.2 fun j hj=>by
   obtain ⟨h1,h2,h3⟩:=hc j hj
   unfold fkColE
   rw [if_neg (by omega),if_neg (fun q=>q h3)]
  rw [this]
theorem conE_iff {s:Sch} {c:Con}:conE s c=0↔∃i,∃hi:i<s.tables.length,tblAt s.tables c.table=(i:Int)∧0≤c.left∧c.left<(s.tables[i].cols.length:Int)∧opOk c.op=true∧-1≤c.right∧c.right<(s.tables[i].cols.length:Int) ∧
  (0≤c.right→c.value=zV∧(s.tables[i].cols.getD c.left.toNat zCol).kind=(s.tables[i].cols.getD c.right.toNat zCol).kind)∧(¬0≤c.right→c.value.kind=(s.tables[i].cols.getD c.left.toNat zCol).kind∧valE c.value=0):=by
 unfold conE
 constructor
 ·intro h
  split at h
  ·cases h
  rename_i h0
  obtain ⟨i,hi,e1,_⟩:=tblAt_some (ts:=s.tables) (n:=c.table) (by omega)
  simp only [e1,Int.toNat_natCast,getD_lt _ hi] at h
  split at h
  ·cases h
  rename_i h1
  have ho:opOk c.op=true:=by
   cases hb:opOk c.op with
   | true=>rfl
   | false=>exact absurd (.inr (.inr (.inl hb))) h1
  refine ⟨i,hi,e1,by omega,by omega,ho,by omega,by omega,fun hr=>?_,fun hr=>?_⟩
  ·rw [if_pos hr] at h
   refine ⟨Decidable.byContradiction fun q=>h1 (.inr (.inr (.inr (.inr (.inr ⟨hr,q⟩))))),?_⟩
   split at h
   ·cases h
   ·rename_i h2;exact Decidable.byContradiction h2
  ·rw [if_neg hr] at h
   split at h
   ·cases h
   ·rename_i h2;exact ⟨Decidable.byContradiction h2,h⟩
 ·rintro ⟨i,hi,e1,h1,h2,h3,h4,h5,h6,h7⟩
  rw [if_neg (by omega)]
  simp only [e1,Int.toNat_natCast,getD_lt _ hi]
  rw [if_neg (by
   intro q
   rcases q with q|q|q|q|q|⟨q1,q2⟩
   ·omega
   ·omega
   ·rw [h3] at q;cases q
   ·omega
   ·omega
   ·exact q2 (h6 q1).1)]
  by_cases hr:0≤c.right
  ·rw [if_pos hr,if_neg (fun q=>q (h6 hr).2)]
  ·rw [if_neg hr,if_neg (fun q=>q (h7 hr).1)]
   exact (h7 hr).2
theorem tblsE_iff {ts:List Tbl} {k:Nat} {t:Tbl}:tblsE ts k t=none↔tblE t=0∧¬ (0<(k:Int)∧(Op.bytesLess t.name.toList (ts.getD ((k:Int) - 1).toNat zTbl).name.toList=true∨t.name.toList=(ts.getD ((k:Int) - 1).toNat zTbl).name.toList)):=by
 unfold tblsE
 constructor
 ·intro h
  split at h
  ·cases h
  split at h
  ·cases h
  ·rename_i h1 h2;exact ⟨Decidable.byContradiction h1,h2⟩
 ·rintro ⟨h1,h2⟩
  rw [if_neg (by omega),if_neg h2]
theorem name_at {s:Sch} {n:ByteArray} {i:Nat} (hi:i<s.tables.length) (h:tblAt s.tables n=(i:Int)):s.tables[i].name=n:=by
 obtain ⟨j,hj,e,hn⟩:=tblAt_some (ts:=s.tables) (n:=n) (by omega)
 have:j=i:=by omega
 subst this
 exact hn
theorem pk_range {s:Sch} (h:schE s=0) {i:Nat} (hi:i<s.tables.length) {j:Nat} (hj:j<s.tables[i].pk.length):0≤s.tables[i].pk[j]∧s.tables[i].pk[j]<(s.tables[i].cols.length:Int) :=
 pkOk_of h _ (List.getElem_mem hi) _ (List.getElem_mem hj)
theorem conEq_eq {x y:Con} (q:conEq x y=true):x=y:=by
 unfold conEq at q
 simp only [Bool.and_eq_true,beq_iff_eq] at q
 obtain ⟨⟨⟨⟨⟨⟨q1,q2⟩,q3⟩,q4⟩,q5⟩,q6⟩,q7⟩:=q
 replace q1:=sEq_iff.1 q1
 replace q3:=sEq_iff.1 q3
 replace q7:=sEq_iff.1 q7
 obtain ⟨t1,l1,o1,r1,⟨k1,i1,x1⟩⟩:=x
 obtain ⟨t2,l2,o2,r2,⟨k2,i2,x2⟩⟩:=y
 simp only at q1 q2 q3 q4 q5 q6 q7
 subst q1 q2 q3 q4 q5 q6 q7
 rfl
theorem perm_valid {s:Sch} (h:schE s=0) {i:Nat} (hi:i<s.tables.length) {T2:Tbl} {π:Int→Int} (p:PermT s.tables[i] T2 π):schE (remapS (setT s i T2) s.tables[i].name π)=0:=by
 obtain ⟨⟨n1,n2,n3⟩,hts,hfs,hcs⟩:=(schE_zero s).1 h
 obtain ⟨hf1,hf2⟩:=(fksE_all s).1 hfs
 obtain ⟨hc1,hc2⟩:=(consE_all s).1 hcs
 have so:=sorted_of h
 obtain ⟨nm,hnm⟩:∃nm,s.tables[i].name=nm:=⟨_,rfl⟩
 have tl:(s.tables.set i T2).length=s.tables.length:=List.length_set ..
 have gi:(s.tables.set i T2)[i]'(by omega)=T2:=by simp
 have gj:∀j,∀hj:j<s.tables.length,j≠i→(s.tables.set i T2)[j]'(by omega)=s.tables[j]:=fun j hj hne=>by rw [List.getElem_set_ne fun e=>hne e.symm]
 have gn:∀j,∀hj:j<s.tables.length,((s.tables.set i T2)[j]'(by omega)).name=s.tables[j].name:=fun j hj=>by
  by_cases e:j=i
  ·subst e;rw [gi,p.name]
  ·rw [gj j hj e]
 have ta:∀n,tblAt (s.tables.set i T2) n=tblAt s.tables n:=fun n=>tblAt_names (set_names hi p.name) n
 have nmi:∀{n:ByteArray} {j:Nat},∀hj:j<s.tables.length,tblAt s.tables n=(j:Int)→(n=nm↔j=i):=fun {n j} hj e=>by
  have e1:=name_at hj e
  constructor
  ·intro q
   have:=tblAt_at so hi
   rw [hnm,←q,e] at this
   omega
  ·intro q
   subst q
   rw [←e1,hnm]
 -- a column, where it now stands
 have ca:∀j,∀hj:j<s.tables.length,∀c,0≤c→c<(s.tables[j].cols.length:Int) →
   0≤(if j=i then π c else c)∧(if j=i then π c else c)<(((s.tables.set i T2)[j]'(by omega)).cols.length:Int)∧((s.tables.set i T2)[j]'(by omega)).cols.getD (if j=i then π c else c).toNat zCol=s.tables[j].cols.getD c.toNat zCol:=fun j hj c c0 c1=>by
  by_cases e:j=i
  ·subst e
   rw [if_pos rfl,gi,p.len]
   obtain ⟨r1,r2⟩:=p.rng c c0 c1
   exact ⟨r1,r2,p.col c c0 c1⟩
  ·rw [if_neg e,gj j hj e]
   exact ⟨c0,c1,rfl⟩
 have pl:∀q,∀hq:q<s.tables.length,((s.tables.set i T2)[q]'(by omega)).pk.length=s.tables[q].pk.length:=fun q hq=>by
  by_cases e:q=i
  ·subst e;rw [gi,p.pk,List.length_map]
  ·rw [gj q hq e]
 have pa:∀q,∀hq:q<s.tables.length,∀j,j<s.tables[q].pk.length→((s.tables.set i T2)[q]'(by omega)).cols.getD (((s.tables.set i T2)[q]'(by omega)).pk.getD j 0).toNat zCol=s.tables[q].cols.getD (s.tables[q].pk.getD j 0).toNat zCol:=fun q hq j hj=>by
  obtain ⟨r1,r2⟩:=pk_range h hq hj
  obtain ⟨_,_,h3⟩:=ca q hq _ r1 r2
  rw [getD_lt _ hj,←h3]
  congr 2
  by_cases e:q=i
  ·subst e
   rw [if_pos rfl,gi,getD_lt _ (by rw [p.pk,List.length_map];exact hj)]
   simp [p.pk]
  ·rw [if_neg e,gj q hq e,getD_lt _ hj]
 unfold remapS setT
 simp only [hnm]
 refine (schE_zero _).2 ⟨⟨by simp only;omega,by simpa using n2,by simpa using n3⟩,fun j hj=>?_,(fksE_all _).2 ⟨fun f' hf'=>?_,?_⟩,(consE_all _).2 ⟨fun c' hc'=>?_,?_⟩⟩
 ·simp only at hj ⊢
  have hj':j<s.tables.length:=by omega
  obtain ⟨a1,a2⟩:=tblsE_iff.1 (hts j hj')
  refine tblsE_iff.2 ⟨?_,fun q=>a2 ?_⟩
  ·by_cases e:j=i
   ·subst e
    rw [gi]
    exact tblE_of (p.ok (okTbl_of a1))
   ·rw [gj j hj' e]
    exact a1
  ·obtain ⟨q1,q2⟩:=q
   refine ⟨q1,?_⟩
   rw [getD_lt _ (by omega),gn j hj',gn _ (by omega)] at q2
   rw [getD_lt _ (by omega)]
   exact q2
 ·obtain ⟨f,hf,rfl⟩:=List.mem_map.1 hf'
  obtain ⟨a,q,ha,hq,e1,e2,hl,hc⟩:=fkE_iff.1 (hf1 f hf)
  have en:=nmi ha e1
  have ec:(remapFK nm π f).cols=f.cols.map fun c=>if a=i then π c else c:=by
   unfold remapFK
   by_cases e:f.table=nm
   ·rw [if_pos (sEq_iff.2 e)]
    simp only [en.1 e,if_true]
   ·rw [if_neg (by simp [sEq_ne e])]
    have:¬ a=i:=fun q=>e (en.2 q)
    simp [this]
  have et:(remapFK nm π f).table=f.table∧(remapFK nm π f).ref=f.ref:=by unfold remapFK;split<;>exact ⟨rfl,rfl⟩
  refine fkE_iff.2 ⟨a,q,by simp only;omega,by simp only;omega,by rw [et.1];simp only;rw [ta,e1],by rw [et.2];simp only;rw [ta,e2],?_,fun j hj=>?_⟩
  ·rw [ec,List.length_map]
   simp only
   rw [pl q hq,hl]
  ·have hj':j<f.cols.length:=by rw [ec,List.length_map] at hj;exact hj
   have ej:(remapFK nm π f).cols[j]=if a=i then π f.cols[j] else f.cols[j]:=by simp [ec]
   obtain ⟨b1,b2,b3⟩:=hc j hj'
   obtain ⟨d1,d2,d3⟩:=ca a ha _ b1 b2
   rw [ej]
   simp only
   exact ⟨d1,d2,by rw [d3,pa q hq j (by omega),b3]⟩
 ·refine List.pairwise_map.2 (hf2.imp_of_mem fun {f g} hf hg hne=>?_)
  cases hb:fkEq (remapFK nm π f) (remapFK nm π g) with
  | false=>rfl
  | true =>
   exfalso
   have key:f=g→False:=fun e=>by rw [e,fkEq_refl] at hne;cases hne
   unfold fkEq at hb
   simp only [Bool.and_eq_true,decide_eq_true_eq] at hb
   obtain ⟨⟨x1,x2⟩,x3⟩:=hb
   have x1:=sEq_iff.1 x1
   have x3:=sEq_iff.1 x3
   have et:∀f,(remapFK nm π f).table=f.table∧(remapFK nm π f).ref=f.ref:=fun f=>by unfold remapFK;split<;>exact ⟨rfl,rfl⟩
   rw [(et f).1,(et g).1] at x1
   rw [(et f).2,(et g).2] at x3
   have x4:f.cols=g.cols:=by
    unfold remapFK at x2
    by_cases e:f.table=nm
    ·rw [if_pos (sEq_iff.2 e),if_pos (sEq_iff.2 (x1▸e))] at x2
     simp only at x2
     have v1:=fk_cols h hf hi (by rw [hnm];exact e)
     have v2:=fk_cols h hg hi (by rw [hnm];exact x1▸e)
     refine List.ext_getElem (by simpa using congrArg List.length x2) fun j h1 h2=>?_
     have e5:(f.cols.map π)[j]'(by simpa using h1)=(g.cols.map π)[j]'(by simpa using h2):=by simp only [x2]
     rw [List.getElem_map,List.getElem_map] at e5
     have u1:=v1 _ (List.getElem_mem h1)
     have u2:=v2 _ (List.getElem_mem h2)
     exact p.inj _ _ u1.1 u1.2 u2.1 u2.2 e5
    ·rw [if_neg (by simp [sEq_ne e]),if_neg (by simp [sEq_ne (x1▸e)])] at x2
     exact x2
   apply key
   cases f
   cases g
   simp only at x1 x3 x4
   rw [x1,x3,x4]
 ·obtain ⟨c,hc,rfl⟩:=List.mem_map.1 hc'
  obtain ⟨a,ha,e1,h2,h3,h4,h5,h6,h7,h8⟩:=conE_iff.1 (hc1 c hc)
  have en:=nmi ha e1
  obtain ⟨d1,d2,d3⟩:=ca a ha _ h2 h3
  have ec:remapCon nm π c={c with left:=if a=i then π c.left else c.left,right:=if 0≤c.right then (if a=i then π c.right else c.right) else c.right}:=by
   unfold remapCon
   by_cases e:c.table=nm
   ·rw [if_pos (sEq_iff.2 e)]
    simp only [en.1 e,if_true]
   ·rw [if_neg (by simp [sEq_ne e])]
    have:¬ a=i:=fun q=>e (en.2 q)
    simp [this]
  rw [ec]
  refine conE_iff.2 ⟨a,by simp only;omega,by simp only;rw [ta,e1],d1,d2,h4,?_⟩
  simp only
  by_cases hr:0≤c.right
  ·obtain ⟨g1,g2,g3⟩:=ca a ha _ hr h6
   obtain ⟨k1,k2⟩:=h7 hr
   rw [if_pos hr]
   exact ⟨by omega,g2,fun _=>⟨k1,by rw [d3,g3,k2]⟩,fun q=>absurd g1 q⟩
  ·obtain ⟨k1,k2⟩:=h8 hr
   rw [if_neg hr]
   exact ⟨h5,by omega,fun q=>absurd q hr,fun _=>⟨by rw [d3,k1],k2⟩⟩
 ·refine List.pairwise_map.2 (hc2.imp_of_mem fun {f g} hf hg hne=>?_)
  cases hb:conEq (remapCon nm π g) (remapCon nm π f) with
  | false=>rfl
  | true =>
   exfalso
   have key:g=f→False:=fun e=>by rw [e,conEq_refl] at hne;cases hne
   have e:=conEq_eq hb
   apply key
   unfold remapCon at e
   by_cases e1:g.table=nm
   ·have e2:f.table=nm:=by
     by_cases e2:f.table=nm
     ·exact e2
     ·rw [sEq_iff.2 e1,sEq_ne e2] at e
      simp only [if_true,Bool.false_eq_true,if_false] at e
      have:=congrArg Con.table e
      simp only at this
      rw [←this,e1]
    rw [sEq_iff.2 e1,sEq_iff.2 e2] at e
    simp only [if_true] at e
    obtain ⟨l1,l2,l3⟩:=con_cols h hg hi (by rw [hnm];exact e1)
    obtain ⟨m1,m2,m3⟩:=con_cols h hf hi (by rw [hnm];exact e2)
    have eL:=congrArg Con.left e
    have eR:=congrArg Con.right e
    have eT:=congrArg Con.table e
    have eO:=congrArg Con.op e
    have eV:=congrArg Con.value e
    simp only at eL eR eT eO eV
    have eL:=p.inj _ _ l1 l2 m1 m2 eL
    have eR:g.right=f.right:=by
     by_cases r1:0≤g.right
     ·rw [if_pos r1] at eR
      have p1:=p.rng _ r1 l3
      by_cases r2:0≤f.right
      ·rw [if_pos r2] at eR
       exact p.inj _ _ r1 l3 r2 m3 eR
      ·rw [if_neg r2] at eR
       omega
     ·rw [if_neg r1] at eR
      by_cases r2:0≤f.right
      ·rw [if_pos r2] at eR
       have p1:=p.rng _ r2 m3
       omega
      ·rw [if_neg r2] at eR
       exact eR
    cases g
    cases f
    simp only at eL eR eT eO eV
    rw [eL,eR,eT,eO,eV]
   ·by_cases e2:f.table=nm
    ·rw [if_neg (by simp [sEq_ne e1]),if_pos (sEq_iff.2 e2)] at e
     have:=congrArg Con.table e
     simp only at this
     exact absurd (this.trans e2) e1
    ·rw [if_neg (by simp [sEq_ne e1]),if_neg (by simp [sEq_ne e2])] at e
     exact e
def kp (R:List Int) (c:Int):Bool:=!R.elem c
theorem kp_iff {R:List Int} {c:Int}:kp R c=true↔c ∉ R:=by
 unfold kp
 rw [Bool.not_eq_true',←Bool.not_eq_true,List.elem_iff]
theorem mem_seqI {m:Nat} {c:Int}:c∈seqI m↔0≤c∧c<(m:Int):=by
 unfold seqI
 rw [List.mem_map]
 constructor
 ·rintro ⟨n,hn,rfl⟩
  have:=List.mem_range.1 hn
  omega
 ·rintro ⟨h0,h1⟩
  exact ⟨c.toNat,List.mem_range.2 (by omega),by omega⟩
theorem seqI_nodup (m:Nat):(seqI m).Nodup:=by
 unfold seqI
 refine List.pairwise_map.2 (List.nodup_range.imp fun {a b} h e=>h ?_)
 exact Int.ofNat.inj e
theorem seqI_split {c m:Nat} (h:c<m):∃r,seqI m=seqI c++(c:Int)::r:=by
 obtain ⟨d,rfl⟩:∃d,m=c+1+d:=⟨m - c - 1,by omega⟩
 induction d with
 | zero=>exact ⟨[],by rw [Nat.add_zero,seqI_succ]⟩
 | succ d ih =>
  obtain ⟨r,hr⟩:=ih (by omega)
  exact ⟨r++[((c+1+d:Nat):Int)],by rw [←Nat.add_assoc,seqI_succ,hr];simp⟩
theorem filter_len {α:Type} (f:α→Bool):∀l:List α,l.length=(l.filter f).length+(l.filter fun x=>!f x).length
 | []=>rfl
 | x::r=>by
  have:=filter_len f r
  rw [List.filter_cons,List.filter_cons]
  cases f x<;>simp<;>omega
theorem seqI_len2 (m:Nat):(seqI m).length=m:=by simp [seqI]
theorem perm_len {α:Type} [DecidableEq α] {a b:List α} (ha:a.Nodup) (hb:b.Nodup) (h:∀x,x∈a↔x∈b):a.length=b.length:=((List.perm_ext_iff_of_nodup ha hb).2 h).length_eq
theorem nodup_lt {R:List Int} (h:R.Pairwise (·<·)):R.Nodup:=h.imp fun h=>by omega
theorem shiftI_eq {R:List Int} (hR:R.Pairwise (·<·)) (h0:∀r∈R,0≤r) (c:Nat):shiftI R c=(((seqI c).filter (kp R)).length:Int):=by
 have h1:=filter_len (kp R) (seqI c)
 rw [seqI_len2] at h1
 have h2:((seqI c).filter (fun x=>!kp R x)).length=(R.filter fun r=>decide (r<(c:Int))).length:=by
  refine perm_len ((seqI_nodup c).filter _) ((nodup_lt hR).filter _) fun x=>?_
  rw [List.mem_filter,List.mem_filter,mem_seqI]
  have:(!kp R x)=true↔x∈R:=by
   unfold kp
   rw [Bool.not_not,List.elem_iff]
  rw [this,decide_eq_true_eq]
  constructor
  ·rintro ⟨⟨_,h⟩,hx⟩;exact ⟨hx,h⟩
  ·rintro ⟨hx,h⟩;exact ⟨⟨h0 x hx,h⟩,hx⟩
 unfold shiftI
 omega
theorem dropAt_filter {α:Type} (R:List Int) (g:Int→α):∀(d k:Nat) (l:List α),l.length=d→(∀j,∀h:j<l.length,l[j]=g ((k+j:Nat):Int))→dropAt R l k=(((List.range' k d).map fun (n:Nat)=>(n:Int)).filter (kp R)).map g
 | 0,k,l,hl,_=>by
  have:l=[]:=List.eq_nil_of_length_eq_zero hl
  subst this
  rfl
 | d+1,k,[],hl,_=>by simp at hl
 | d+1,k,x::l,hl,h=>by
  have hx:x=g (k:Int):=by have:=h 0 (by simp);simpa using this
  have ih:=dropAt_filter R g d (k+1) l (by simpa using hl) fun j hj=>by
   have:=h (j+1) (by simpa using hj)
   simp only [List.getElem_cons_succ] at this
   rw [this]
   congr 2
   omega
  rw [dropAt,List.range'_succ,List.map_cons,List.filter_cons]
  unfold kp at ih ⊢
  by_cases e:R.elem (k:Int)=true
  ·rw [if_pos e,if_neg (by simp only [e];decide),ih]
  ·rw [if_neg e,if_pos (by simpa using e),ih,List.map_cons,hx]
theorem dropAt_kept (R:List Int) (l:List Col):dropAt R l 0=((seqI l.length).filter (kp R)).map fun c=>l.getD c.toNat zCol:=by
 have:=dropAt_filter R (fun c=>l.getD c.toNat zCol) l.length 0 l rfl fun j hj=>by
  simp only [Nat.zero_add,Int.toNat_natCast]
  rw [getD_lt _ hj]
 rw [this]
 unfold seqI
 rw [List.range_eq_range']
def allC (R:List Int) (m:Nat):List Int:=(seqI m).filter (kp R)++R
structure Moved (R:List Int) (m:Nat):Prop where
 lt:R.Pairwise (·<·)
 rng:∀r∈R,0≤r∧r<(m:Int)
theorem Moved.len {R:List Int} {m:Nat} (h:Moved R m):((seqI m).filter (kp R)).length+R.length=m:=by
 have h1:=filter_len (kp R) (seqI m)
 rw [seqI_len2] at h1
 have h2:((seqI m).filter (fun x=>!kp R x)).length=R.length:=by
  refine perm_len ((seqI_nodup m).filter _) (nodup_lt h.lt) fun x=>?_
  rw [List.mem_filter,mem_seqI]
  have:(!kp R x)=true↔x∈R:=by
   unfold kp
   rw [Bool.not_not,List.elem_iff]
  rw [this]
  exact ⟨fun q=>q.2,fun q=>⟨h.rng x q,q⟩⟩
 omega
theorem Moved.nodup {R:List Int} {m:Nat} (h:Moved R m):(allC R m).Nodup:=by
 unfold allC
 refine List.nodup_append.2 ⟨(seqI_nodup m).filter _,nodup_lt h.lt,fun a ha b hb e=>?_⟩
 exact kp_iff.1 (List.mem_filter.1 ha).2 (e▸hb)
theorem Moved.mem {R:List Int} {m:Nat} (h:Moved R m) {c:Int} (hc:c∈allC R m):0≤c∧c<(m:Int):=by
 rcases List.mem_append.1 hc with hc|hc
 ·exact mem_seqI.1 (List.mem_filter.1 hc).1
 ·exact h.rng c hc
def posC (R:List Int) (K:Nat) (c:Int):Int:=if R.elem c then (K:Int)+idx (fun x=>x==c) R 0 else shiftI R c
theorem idx_mem {R:List Int} {c:Int} (h:c∈R):∃j,∃hj:j<R.length,idx (fun x=>x==c) R 0=(j:Int)∧R[j]=c:=by
 rcases idx_cases (fun x=>x==c) R 0 with ⟨_,e2⟩|⟨j,hj,e1,e2,_⟩
 ·have:=e2 c h
  simp at this
 ·exact ⟨j,hj,by simpa using e1,by simpa using e2⟩
theorem Moved.pos {R:List Int} {m K:Nat} (h:Moved R m) (hK:K=((seqI m).filter (kp R)).length) {c:Int} (c0:0≤c) (c1:c<(m:Int)):0≤posC R K c∧posC R K c<(m:Int)∧(allC R m)[(posC R K c).toNat]?=some c:=by
 have hl:=h.len
 unfold posC allC
 by_cases e:R.elem c=true
 ·rw [if_pos e]
  obtain ⟨j,hj,ej,ec⟩:=idx_mem (List.elem_iff.1 e)
  rw [ej]
  refine ⟨by omega,by omega,?_⟩
  rw [List.getElem?_append_right (by omega),show ((K:Int)+(j:Int)).toNat - ((seqI m).filter (kp R)).length=j by omega,List.getElem?_eq_getElem hj,ec]
 ·rw [if_neg e]
  obtain ⟨n,rfl⟩:∃n:Nat,c=(n:Int):=⟨c.toNat,by omega⟩
  have hn:n<m:=by omega
  have hkp:kp R (n:Int)=true:=kp_iff.2 fun q=>e (List.elem_iff.2 q)
  obtain ⟨r,hr⟩:=seqI_split hn
  rw [shiftI_eq h.lt (fun r hr=>(h.rng r hr).1)]
  have hf:(seqI m).filter (kp R)=(seqI n).filter (kp R)++(n:Int)::r.filter (kp R):=by
   rw [hr,List.filter_append,List.filter_cons,if_pos hkp]
  have hlen:((seqI m).filter (kp R)).length=((seqI n).filter (kp R)).length+1+(r.filter (kp R)).length:=by rw [hf];simp;omega
  refine ⟨by omega,by omega,?_⟩
  rw [Int.toNat_natCast,List.getElem?_append_left (by omega),hf,List.getElem?_append_right (Nat.le_refl _)]
  simp
theorem Moved.mono {R:List Int} {m K:Nat} (h:Moved R m) {c d:Int} (c0:0≤c) (hcd:c<d) (hc:c ∉ R) (hd:d ∉ R):posC R K c<posC R K d:=by
 unfold posC
 rw [if_neg (fun q=>hc (List.elem_iff.1 q)),if_neg (fun q=>hd (List.elem_iff.1 q))]
 obtain ⟨n,rfl⟩:∃n:Nat,c=(n:Int):=⟨c.toNat,by omega⟩
 obtain ⟨k,rfl⟩:∃n:Nat,d=(n:Int):=⟨d.toNat,by omega⟩
 rw [shiftI_eq h.lt (fun r hr=>(h.rng r hr).1),shiftI_eq h.lt (fun r hr=>(h.rng r hr).1)]
 obtain ⟨r,hr⟩:=seqI_split (c:=n) (m:=k) (by omega)
 rw [hr,List.filter_append,List.filter_cons,if_pos (kp_iff.2 hc),List.length_append,List.length_cons]
 omega
theorem Moved.perm {R:List Int} {T:Tbl} (h:Moved R T.cols.length) (hp:∀c∈T.pk,c ∉ R) (o:OkTbl T) {T2:Tbl} (hn:T2.name=T.name) (hc:T2.cols=(allC R T.cols.length).map fun c=>T.cols.getD c.toNat zCol) (hpk:T2.pk=T.pk.map (shiftI R)) {π:Int→Int}
  (hπ:∀c,π c=posC R ((seqI T.cols.length).filter (kp R)).length c):PermT T T2 π:=by
 have ln:(allC R T.cols.length).length=T.cols.length:=by unfold allC;rw [List.length_append,h.len]
 have pos:=fun c c0 c1=>h.pos (K:=((seqI T.cols.length).filter (kp R)).length) rfl (c:=c) c0 c1
 refine ⟨hn,by rw [hc,List.length_map,ln],fun c c0 c1=>?_,fun c d c0 c1 d0 d1 e=>?_,fun k k0 k1=>?_,fun c c0 c1=>?_,?_,fun k hk k0=>?_⟩
 ·rw [hπ]
  exact ⟨(pos c c0 c1).1,(pos c c0 c1).2.1⟩
 ·rw [hπ,hπ] at e
  have h1:=(pos c c0 c1).2.2
  rw [e,(pos d d0 d1).2.2] at h1
  injection h1 with h1
  exact h1.symm
 ·obtain ⟨c,hcx⟩:∃c,(allC R T.cols.length)[k.toNat]'(by omega)=c:=⟨_,rfl⟩
  obtain ⟨c0,c1⟩:=h.mem (hcx▸List.getElem_mem (by omega))
  refine ⟨c,c0,c1,?_⟩
  rw [hπ]
  obtain ⟨p0,p1,p2⟩:=pos c c0 c1
  obtain ⟨q1,q2⟩:=List.getElem?_eq_some_iff.1 p2
  have:=(List.getElem_inj (xs:=allC R T.cols.length) (i:=(posC R ((seqI T.cols.length).filter (kp R)).length c).toNat) (j:=k.toNat) (h₀:=q1) (h₁:=by omega) h.nodup).1 (q2.trans hcx.symm)
  omega
 ·rw [hπ,hc]
  obtain ⟨p0,p1,p2⟩:=pos c c0 c1
  rw [List.getD_eq_getElem?_getD,List.getElem?_map,p2]
  rfl
 ·rw [hpk]
  refine List.map_congr_left fun c hcm=>?_
  rw [hπ]
  unfold posC
  rw [if_neg fun q=>hp c hcm (List.elem_iff.1 q)]
 ·rw [hπ,hπ]
  have k1:=o.key k hk
  have k2:=o.key (k - 1) (by omega)
  exact h.mono k2.1 (k1.2.2.2 k0) (hp _ (List.getElem_mem _)) (hp _ (List.getElem_mem _))
theorem overlapI_zero {a b:List Int} (h:overlapI a b=0):∀c∈a,c ∉ b:=by
 unfold overlapI at h
 simp only at h
 split at h
 ·rename_i h0
  intro c hc hb
  have:c∈a.filter fun c=>b.elem c:=List.mem_filter.2 ⟨hc,List.elem_iff.2 hb⟩
  rw [List.eq_nil_of_length_eq_zero h0] at this
  cases this
 ·split at h<;>cases h
theorem overlapI_two {a b:List Int} (h:overlapI a b=2):∀c∈a,c∈b:=by
 unfold overlapI at h
 simp only at h
 split at h
 ·cases h
 ·split at h
  ·rename_i h1
   have:=List.filter_eq_self.1 (List.Sublist.eq_of_length List.filter_sublist h1)
   exact fun c hc=>List.elem_iff.1 (this c hc)
  ·cases h
theorem overlapI_or {a b:List Int} (h:(overlapI a b==1)=false):overlapI a b=0∨overlapI a b=2:=by
 unfold overlapI at h ⊢
 simp only at h ⊢
 split at h
 ·rename_i h0;rw [if_pos h0];exact .inl rfl
 ·rename_i h0
  rw [if_neg h0]
  split at h
  ·rename_i h1;rw [if_pos h1];exact .inr rfl
  ·simp at h
theorem splitE_zero {s:Sch} {T:Tbl} {st:Stp} (h:splitE s T st=0):Moved st.cols T.cols.length∧(∀c∈T.pk,c ∉ st.cols)∧∀t∈s.tables,t.name≠st.other:=by
 unfold splitE at h
 split at h
 ·rename_i e he
  exact absurd h (scan_ne (fun k x e he=>by
   split at he
   ·injection he with he;omega
   ·cases he) he)
 ·rename_i hs
  split at h
  ·cases h
  split at h
  ·cases h
  rename_i h2
  split at h
  ·cases h
  rename_i h3
  have hs:=scan_eq_none.1 hs
  have hc:∀j,∀hj:j<st.cols.length,0≤st.cols[j]∧st.cols[j]<(T.cols.length:Int)∧(∀_:0<j,st.cols[j - 1]<st.cols[j]):=fun j hj=>by
   have:=hs j hj
   split at this
   ·cases this
   ·rename_i q
    refine ⟨by omega,by omega,fun j0=>?_⟩
    have q2:¬ (0<(j:Int)∧st.cols[j]≤st.cols.getD ((j:Int) - 1).toNat 0):=fun z=>q (.inr (.inr z))
    rw [show ((j:Int) - 1).toNat=j - 1 by omega,getD_lt _ (by omega)] at q2
    omega
  refine ⟨⟨pairwise_of_adj (R:=(·<·)) (fun _ _ _ a b=>by omega) fun j hj=>(hc (j+1) hj).2.2 (by omega),fun r hr=>?_⟩,fun c hcp hr=>?_,tblAt_none.1 h3⟩
  ·obtain ⟨j,hj,rfl⟩:=List.mem_iff_getElem.1 hr
   exact ⟨(hc j hj).1,(hc j hj).2.1⟩
  ·exact overlapI_zero (Decidable.byContradiction h2) c hr hcp
theorem idx_nonneg {α:Type} {p:α→Bool} {l:List α} {x:α} (hx:x∈l) (hp:p x=true):0≤idx p l 0:=by
 rcases idx_cases p l 0 with ⟨_,e2⟩|⟨j,hj,e1,_⟩
 ·rw [e2 x hx] at hp;cases hp
 ·omega
def joinSt (st:Stp):Stp:={zStp with kind:=7,table:=st.table,other:=st.other}
theorem set_cut {α:Type} {A B:List α} {o x:α} {i:Nat} (hi:i<(A++B).length) :
  ((A++o::B).set (if i<A.length then i else i+1) x).take A.length++((A++o::B).set (if i<A.length then i else i+1) x).drop (A.length+1)=(A++B).set i x:=by
 by_cases h:i<A.length
 ·rw [if_pos h,List.set_append_left _ _ h,List.set_append_left _ _ h]
  rw [List.take_append_of_le_length (by simp),List.take_of_length_le (by simp)]
  congr 1
  have:(A.set i x++o::B)=(A.set i x++[o])++B:=by simp
  rw [this,List.drop_left' (by simp)]
 ·rw [if_neg h,List.set_append_right _ _ (by omega),List.set_append_right _ _ (by omega)]
  rw [show i+1 - A.length=(i - A.length)+1 by omega,List.set_cons_succ]
  rw [List.take_left' rfl]
  congr 1
  have:A++o::B.set (i - A.length) x=(A++[o])++B.set (i - A.length) x:=by simp
  rw [this,List.drop_left' (by simp)]
theorem get_ins {α:Type} {A B:List α} {o:α} {i:Nat} (hi:i<(A++B).length):(A++o::B)[if i<A.length then i else i+1]?=(A++B)[i]?:=by
 by_cases h:i<A.length
 ·rw [if_pos h,List.getElem?_append_left h,List.getElem?_append_left h]
 ·rw [if_neg h,List.getElem?_append_right (by omega),List.getElem?_append_right (by omega),show i+1 - A.length=(i - A.length)+1 by omega,List.getElem?_cons_succ]
theorem joinG_moved {T1:Tbl} {R:List Int} {c:Int} (h:c∈R):joinG T1 (movedI T1.pk.length R c)=(T1.cols.length:Int)+idx (fun x=>x==c) R 0:=by
 have:=idx_nonneg (p:=fun x=>x==c) h (by simp)
 unfold joinG movedI
 rw [if_neg (by omega)]
 omega
theorem kept_at {R:List Int} {l:List Col} (h:Moved R l.length) {c:Int} (c0:0≤c) (c1:c<(l.length:Int)) (hc:c ∉ R):(dropAt R l 0).getD (shiftI R c).toNat zCol=l.getD c.toNat zCol:=by
 obtain ⟨p0,p1,p2⟩:=h.pos (K:=((seqI l.length).filter (kp R)).length) rfl c0 c1
 have e:posC R ((seqI l.length).filter (kp R)).length c=shiftI R c:=by unfold posC;rw [if_neg fun q=>hc (List.elem_iff.1 q)]
 rw [e] at p0 p2
 unfold allC at p2
 have hlt:(shiftI R c).toNat<((seqI l.length).filter (kp R)).length:=by
  rcases Nat.lt_or_ge (shiftI R c).toNat ((seqI l.length).filter (kp R)).length with q|q
  ·exact q
  ·rw [List.getElem?_append_right q] at p2
   exact absurd (List.mem_of_getElem? p2) hc
 rw [List.getElem?_append_left hlt] at p2
 rw [dropAt_kept,List.getD_eq_getElem?_getD,List.getElem?_map,p2]
 rfl
set_option maxHeartbeats 1600000 in
theorem split_join {s t:Sch} {st:Stp} (h:evoE s st=.ok t) (hk:st.kind=6):∃out,∃i,∃hi:i<s.tables.length,∃hi2:i<out.tables.length,evoE t (joinSt st)=.ok out∧tblAt s.tables st.table=(i:Int)∧tblAt out.tables st.table=(i:Int) ∧
  out.fks.length=s.fks.length∧out.cons.length=s.cons.length∧s.tables[i].cols.length=out.tables[i].cols.length∧∀c∈s.tables[i].cols,c∈out.tables[i].cols:=by
 obtain ⟨h1,_,h3,h4⟩:=evoE_parts h
 unfold evApply at h3
 rw [if_neg (by omega),if_neg (by omega),if_neg (by omega),if_neg (by omega),if_neg (by omega)] at h3
 simp only at h3
 split at h3
 ·cases h3
 rename_i hk0
 rw [if_neg (by omega)] at h3
 try rw [if_pos hk] at h3
 obtain ⟨i,hi,ei,ni⟩:=tblAt_some hk0
 rw [ei,Int.toNat_natCast] at h3
 unfold splitT at h3
 simp only at h3
 rw [tAt_lt hi] at h3
 obtain ⟨T,hT⟩:∃T,s.tables[i]=T:=⟨_,rfl⟩
 rw [hT] at h3 ni
 split at h3
 ·cases h3
 rename_i hE
 obtain ⟨mv,hpk,hoth⟩:=splitE_zero (Decidable.byContradiction hE)
 split at h3
 ·cases h3
 rename_i hF
 split at h3
 ·cases h3
 rename_i hC
 injection h3 with h3
 have hTm:T∈s.tables:=hT▸List.getElem_mem hi
 have okT:=(okSch_of h1).tbl T hTm
 have so:=sorted_of h1
 have pkr:=pkOk_of h1 T hTm
 obtain ⟨R,hR⟩:∃R,st.cols=R:=⟨_,rfl⟩
 obtain ⟨n,hn⟩:∃n,T.pk.length=n:=⟨_,rfl⟩
 have n0:n≠0:=by rw [←hn];exact okT.pk0
 rw [hR] at mv hpk hF hC
 -- the two tables
 obtain ⟨T1,hT1⟩:∃T1:Tbl,({T with cols:=dropAt R T.cols 0,pk:=T.pk.map (shiftI R)}:Tbl)=T1:=⟨_,rfl⟩
 obtain ⟨o,ho⟩:∃o:Tbl,(⟨st.other,(T.pk++R).map fun c=>T.cols.getD c.toNat zCol,seqI n⟩:Tbl)=o:=⟨_,rfl⟩
 have n1:T1.name=T.name:=by rw [←hT1]
 have p1:T1.pk=T.pk.map (shiftI R):=by rw [←hT1]
 have c1:T1.cols=dropAt R T.cols 0:=by rw [←hT1]
 have pl:T1.pk.length=n:=by rw [p1,List.length_map,hn]
 have on:o.name=st.other:=by rw [←ho]
 have hr:removeC ⟨s.tables,s.fks.map (splitFK T st),s.cons.map (splitCon T st)⟩ i st.cols=⟨s.tables.set i T1,(s.fks.map (splitFK T st)).map (remapFK T.name (shiftI R)),(s.cons.map (splitCon T st)).map (remapCon T.name (shiftI R))⟩:=by
  unfold removeC
  rw [tAt_lt (s:=⟨s.tables,s.fks.map (splitFK T st),s.cons.map (splitCon T st)⟩) hi]
  simp only [hT,hR,hT1]
  rfl
 rw [hr] at h3
 have sn:(s.tables.set i T1).map Tbl.name=s.tables.map Tbl.name:=set_names hi (by rw [n1,hT])
 have so1:(s.tables.set i T1).Pairwise LtT:=by
  have q1:(s.tables.map Tbl.name).Pairwise fun a b=>cmpS a b<0:=List.pairwise_map.2 so
  rw [←sn] at q1
  exact (List.pairwise_map (f:=Tbl.name) (R:=fun a b=>cmpS a b<0)).1 q1
 have on2:∀x∈s.tables.set i T1,x.name≠o.name:=fun x hx e=>by
  have:x.name∈s.tables.map Tbl.name:=sn▸List.mem_map.2 ⟨x,hx,rfl⟩
  obtain ⟨y,hy,ey⟩:=List.mem_map.1 this
  exact hoth y hy (by rw [ey,e,on])
 obtain ⟨A,B,hAB,hp⟩:=place so1 o on2
 rw [hR,hn,ho,insertT_eq (s:=⟨s.tables.set i T1,(s.fks.map (splitFK T st)).map (remapFK T.name (shiftI R)),(s.cons.map (splitCon T st)).map (remapCon T.name (shiftI R))⟩) hAB hp] at h3
 simp only at h3
 have hne:st.other≠T.name:=fun e=>hoth T hTm e.symm
 have hle:(A++B).length=s.tables.length:=by rw [←hAB,List.length_set]
 obtain ⟨i2,hi2⟩:∃i2,(if i<A.length then i else i+1)=i2:=⟨_,rfl⟩
 have g0:(A++o::B)[i2]?=some T1:=by
  rw [←hi2,get_ins (by omega),←hAB]
  simp [hi]
 obtain ⟨l2,g1⟩:=List.getElem?_eq_some_iff.1 g0
 have i2ne:i2≠A.length:=by rw [←hi2];split<;>omega
 have ta:tblAt (A++o::B) st.table=(i2:Int):=by
  have:=tblAt_at hp l2
  rw [g1,n1,ni] at this
  exact this
 have to:tblAt (A++o::B) st.other=((A.length:Nat):Int):=by
  have:=tblAt_at hp (i:=A.length) (by simp)
  simp only [List.getElem_append_right (Nat.le_refl A.length),Nat.sub_self,List.getElem_cons_zero,on] at this
  exact this
 have d1:(A++o::B).getD i2 zTbl=T1:=by rw [getD_lt _ l2,g1]
 have d2:(A++o::B).getD A.length zTbl=o:=by rw [getD_lt _ (by simp)];simp
 -- where the columns go
 obtain ⟨π,hπ⟩:∃π:Int→Int,(fun c=>if R.elem c then joinG T1 (movedI n R c) else shiftI R c)=π:=⟨_,rfl⟩
 have kl:T1.cols.length=((seqI T.cols.length).filter (kp R)).length:=by rw [c1,dropAt_kept,List.length_map]
 have πin:∀c,c∈R→π c=joinG T1 (movedI n R c):=fun c hc=>by rw [←hπ];simp only;rw [if_pos (List.elem_iff.2 hc)]
 have πout:∀c,c ∉ R→π c=shiftI R c:=fun c hc=>by rw [←hπ];simp only;rw [if_neg fun q=>hc (List.elem_iff.1 q)]
 have πpos:∀c,π c=posC R ((seqI T.cols.length).filter (kp R)).length c:=fun c=>by
  by_cases hc:c∈R
  ·rw [πin c hc,←pl,joinG_moved hc,kl]
   unfold posC
   rw [if_pos (List.elem_iff.2 hc)]
  ·rw [πout c hc]
   unfold posC
   rw [if_neg fun q=>hc (List.elem_iff.1 q)]
 obtain ⟨T2,hT2⟩:∃T2:Tbl,({T1 with cols:=T1.cols++o.cols.drop n}:Tbl)=T2:=⟨_,rfl⟩
 have c2:T2.cols=(allC R T.cols.length).map fun c=>T.cols.getD c.toNat zCol:=by
  rw [←hT2]
  simp only
  rw [c1,dropAt_kept,←ho]
  simp only
  unfold allC
  rw [List.map_append,List.map_append,List.drop_left' (by rw [List.length_map,hn])]
 have pm:PermT T T2 π:=mv.perm hpk okT (by rw [←hT2];exact n1) c2 (by rw [←hT2];exact p1) πpos
 have hval:=perm_valid h1 hi (T2:=T2) (π:=π) (by rw [hT];exact pm)
 rw [hT] at hval
 -- the rules
 have hfk:∀f∈s.fks,f.table≠st.other∧f.ref≠st.other∧f.cols≠[]:=fun f hf=>by
  obtain ⟨⟨t1,m1,e1⟩,t2,m2,e2⟩:=fk_names h1 hf
  refine ⟨e1▸hoth t1 m1,e2▸hoth t2 m2,fun q=>?_⟩
  obtain ⟨_,b,_,hb,_,_,hl,_⟩:=fkE_zero (((fksE_all _).1 ((schE_zero _).1 h1).2.2.1).1 f hf)
  rw [q] at hl
  exact ((okSch_of h1).tbl _ (List.getElem_mem hb)).pk0 hl.symm
 have hFo:∀f∈s.fks,f.table=T.name→overlapI f.cols R=0∨overlapI f.cols R=2:=fun f hf e=>by
  refine overlapI_or ?_
  cases hb:overlapI f.cols R==1 with
  | false=>rfl
  | true=>exact absurd (List.any_eq_true.2 ⟨f,hf,by rw [sEq_iff.2 e,hb];rfl⟩) hF
 have hCo:∀c∈s.cons,c.table=T.name→overlapI (conCols c) R=0∨overlapI (conCols c) R=2:=fun c hc e=>by
  refine overlapI_or ?_
  cases hb:overlapI (conCols c) R==1 with
  | false=>rfl
  | true=>exact absurd (List.any_eq_true.2 ⟨c,hc,by rw [sEq_iff.2 e,hb];rfl⟩) hC
 -- a foreign key of T whose columns are moved; the others
 have f1:∀f∈s.fks,∃g,remapFK T.name (shiftI R) (splitFK T st f)=g∧g.ref=f.ref∧(g.table=st.other→g.cols=f.cols.map (movedI n R)∧f.table=T.name∧∀c∈f.cols,c∈R)∧(g.table≠st.other→g=remapFK T.name π f∧g.table=f.table):=fun f hf=>by
  refine ⟨_,rfl,?_⟩
  obtain ⟨q1,q2,_⟩:=hfk f hf
  unfold splitFK
  rw [hn,hR]
  by_cases e:f.table=T.name
  ·rcases hFo f hf e with hv|hv
   ·rw [if_neg (by rw [hv];simp)]
    have hx:=overlapI_zero hv
    have e3:remapFK T.name (shiftI R) f=remapFK T.name π f:=by
     unfold remapFK
     rw [if_pos (sEq_iff.2 e),if_pos (sEq_iff.2 e)]
     congr 1
     exact List.map_congr_left fun c hc=>(πout c (hx c hc)).symm
    have e4:(remapFK T.name (shiftI R) f).table=f.table:=by unfold remapFK;split<;>rfl
    refine ⟨by unfold remapFK;split<;>rfl,fun q=>?_,fun _=>⟨e3,e4⟩⟩
    rw [e4] at q
    exact absurd q q1
   ·rw [if_pos (by rw [sEq_iff.2 e,hv];rfl)]
    unfold remapFK
    rw [if_neg (by simp [sEq_ne hne])]
    exact ⟨rfl,fun _=>⟨rfl,e,overlapI_two hv⟩,fun q=>absurd rfl q⟩
  ·rw [if_neg (by simp [sEq_ne e])]
   unfold remapFK
   rw [if_neg (by simp [sEq_ne e]),if_neg (by simp [sEq_ne e])]
   exact ⟨rfl,fun q=>absurd q q1,fun _=>⟨rfl,rfl⟩⟩
 have e_fks:(((s.fks.map (splitFK T st)).map (remapFK T.name (shiftI R))).map (remapFK st.other (joinG T1))).map (fun f:FK=>{f with table:=ren st.other T1.name f.table})=s.fks.map (remapFK T.name π):=by
  simp only [List.map_map]
  refine List.map_congr_left fun f hf=>?_
  simp only [Function.comp]
  obtain ⟨g,hg,hgr,ha,hb⟩:=f1 f hf
  rw [hg]
  by_cases e:g.table=st.other
  ·obtain ⟨b1,b2,b3⟩:=ha e
   unfold remapFK ren
   rw [if_pos (sEq_iff.2 e),if_pos (sEq_iff.2 b2)]
   simp only
   rw [if_pos (sEq_iff.2 e),b1,n1,hgr,List.map_map,←b2]
   have:f.cols.map (joinG T1∘movedI n R)=f.cols.map π:=List.map_congr_left fun c hc=>by rw [πin c (b3 c hc)];rfl
   rw [this]
  ·obtain ⟨b1,b2⟩:=hb e
   have e5:remapFK st.other (joinG T1) g=g:=by unfold remapFK;rw [if_neg (by simp [sEq_ne e])]
   rw [e5]
   unfold ren
   rw [if_neg (by simp [sEq_ne e])]
   exact b1
 have c3:∀c∈s.cons,c.table≠st.other:=fun c hc=>by
  obtain ⟨t1,m1,e1⟩:=con_name h1 hc
  exact e1▸hoth t1 m1
 have e_cons:(((s.cons.map (splitCon T st)).map (remapCon T.name (shiftI R))).map (remapCon st.other (joinG T1))).map (fun c:Con=>{c with table:=ren st.other T1.name c.table})=s.cons.map (remapCon T.name π):=by
  simp only [List.map_map]
  refine List.map_congr_left fun c hc=>?_
  simp only [Function.comp]
  have q1:=c3 c hc
  have b2:sEq c.table st.other=false:=sEq_ne q1
  have b3:sEq st.other T.name=false:=sEq_ne hne
  have b4:sEq st.other st.other=true:=sEq_refl _
  unfold splitCon
  rw [hn,hR]
  by_cases e:c.table=T.name
  ·have b1:sEq c.table T.name=true:=sEq_iff.2 e
   rcases hCo c hc e with hv|hv
   ·have hx:=overlapI_zero hv
    have hl:c.left ∉ R:=hx _ (by unfold conCols;split<;>simp)
    rw [if_neg (by rw [hv];simp)]
    simp only [remapCon,ren,b1,b2,if_true,if_false,Bool.false_eq_true,πout _ hl]
    by_cases hr:0≤c.right
    ·have hrr:c.right ∉ R:=hx _ (by unfold conCols;rw [if_neg (by omega)];simp)
     rw [if_pos hr,if_pos hr,πout _ hrr]
    ·rw [if_neg hr,if_neg hr]
   ·have hx:=overlapI_two hv
    have hl:c.left∈R:=hx _ (by unfold conCols;split<;>simp)
    rw [if_pos (by rw [hv,b1];rfl)]
    simp only [remapCon,ren,b1,b3,b4,if_true,if_false,Bool.false_eq_true,πin _ hl]
    rw [n1,←e]
    by_cases hr:0≤c.right
    ·have hrr:c.right∈R:=hx _ (by unfold conCols;rw [if_neg (by omega)];simp)
     have hm:0≤movedI n R c.right:=by
      have:=idx_nonneg (p:=fun x=>x==c.right) hrr (by simp)
      unfold movedI
      omega
     simp only [if_pos hr,if_pos hm,πin _ hrr]
    ·simp only [if_neg hr]
  ·have b1:sEq c.table T.name=false:=sEq_ne e
   rw [if_neg (by simp [b1])]
   simp only [remapCon,ren,b1,b2,if_false,Bool.false_eq_true]
 subst h3
 refine ⟨remapS (setT s i T2) T.name π,i,hi,by unfold remapS setT;simpa using hi,evoE_mk h4 (by simp [evValE,evNorm,joinSt]) ?_ hval,ei,?_,by unfold remapS setT;simp,by unfold remapS setT;simp,?_,fun c hc=>?_⟩
 ·obtain ⟨FKS,hFKS⟩:∃FKS,(s.fks.map (splitFK T st)).map (remapFK T.name (shiftI R))=FKS:=⟨_,rfl⟩
  obtain ⟨CONS,hCONS⟩:∃CONS,(s.cons.map (splitCon T st)).map (remapCon T.name (shiftI R))=CONS:=⟨_,rfl⟩
  rw [hFKS] at e_fks
  rw [hCONS] at e_cons
  rw [hFKS,hCONS]
  have fm:∀y∈FKS,∃f∈s.fks,remapFK T.name (shiftI R) (splitFK T st f)=y:=fun y hy=>by
   rw [←hFKS,List.map_map] at hy
   obtain ⟨f,hf,e⟩:=List.mem_map.1 hy
   exact ⟨f,hf,e⟩
  have hdrop:dropFK ⟨A++o::B,FKS++[⟨st.other,seqI n,T.name⟩],CONS⟩ ⟨st.other,seqI n,T.name⟩=.ok ⟨A++o::B,FKS,CONS⟩:=by
   have hx:idx (fun q=>fkEq q ⟨st.other,seqI n,T.name⟩) (FKS++[⟨st.other,seqI n,T.name⟩]) 0=((FKS.length:Nat):Int):=by
    rw [idx_last (p:=fun q=>fkEq q ⟨st.other,seqI n,T.name⟩) (fkEq_refl _) _ _ fun y hy=>?_,Nat.zero_add]
    obtain ⟨f,hf,e⟩:=fm y hy
    obtain ⟨g,hg,hgr,ha,hb⟩:=f1 f hf
    rw [hg] at e
    subst e
    cases hq:fkEq g ⟨st.other,seqI n,T.name⟩ with
    | false=>rfl
    | true =>
     exfalso
     unfold fkEq at hq
     simp only [Bool.and_eq_true,decide_eq_true_eq] at hq
     obtain ⟨⟨z1,z2⟩,_⟩:=hq
     obtain ⟨b1,_,b3⟩:=ha (sEq_iff.1 z1)
     rw [b1] at z2
     obtain ⟨_,_,hne2⟩:=hfk f hf
     cases hc:f.cols with
     | nil=>exact hne2 hc
     | cons c r =>
      rw [hc,List.map_cons] at z2
      have m1:movedI n R c∈seqI n:=by rw [←z2];exact List.mem_cons_self ..
      have m2:=mem_seqI.1 m1
      have:=idx_nonneg (p:=fun x=>x==c) (b3 c (by rw [hc];exact List.mem_cons_self ..)) (by simp)
      unfold movedI at m2
      omega
   unfold dropFK
   simp only [hx,Int.toNat_natCast,cut_last]
   rw [if_neg (by omega)]
  have hscan:scan (fun j c=>if (T1.cols.getD c.toNat zCol).kind≠(o.cols.getD j zCol).kind then some 9 else none) T1.pk 0=none:=by
   refine scan_eq_none.2 fun j hj=>if_neg fun q=>q ?_
   have hj':j<T.pk.length:=by rw [pl] at hj;omega
   have ej:T1.pk[j]=shiftI R T.pk[j]:=by simp [p1]
   obtain ⟨r1,r2⟩:=pkr _ (List.getElem_mem hj')
   rw [ej,c1,kept_at mv r1 r2 (hpk _ (List.getElem_mem hj')),←ho]
   simp only
   rw [List.getD_eq_getElem?_getD (l:=List.map _ _),List.getElem?_map,List.getElem?_append_left hj',List.getElem?_eq_getElem hj']
   rfl
  have hany:(FKS.any fun f=>sEq f.ref st.other)=false:=by
   rw [List.any_eq_false]
   intro y hy q
   obtain ⟨f,hf,e⟩:=fm y hy
   obtain ⟨g,hg,hgr,_⟩:=f1 f hf
   rw [hg] at e
   subst e
   rw [hgr] at q
   exact (hfk f hf).2.1 (sEq_iff.1 q)
  have hA:evApply ⟨A++o::B,FKS++[⟨st.other,seqI n,T.name⟩],CONS⟩ (joinSt st)=joinT ⟨A++o::B,FKS++[⟨st.other,seqI n,T.name⟩],CONS⟩ i2 st.other:=by
   unfold evApply joinSt
   simp only [ta,Int.toNat_natCast]
   simp
   intro q
   omega
  have hset:=set_cut (A:=A) (B:=B) (o:=o) (x:=T2) (i:=i) (by omega)
  rw [hi2,←hAB,List.set_set] at hset
  rw [hA]
  unfold joinT tAt
  simp only [to,Int.toNat_natCast,d1,d2,pl,n1]
  rw [if_neg (by omega),if_neg (by
   rintro (q|q)
   ·omega
   ·exact q (by rw [←ho]))]
  rw [hscan]
  simp only
  rw [hdrop]
  simp only [hany]
  rw [if_neg (by simp)]
  unfold remapS setT at *
  simp only at *
  rw [n1] at e_fks e_cons hT2
  rw [hT2,hset,e_fks,e_cons]
 ·unfold remapS
  simp only
  rw [tblAt_setT hi (by rw [hT,pm.name]),ei]
 ·have:(remapS (setT s i T2) T.name π).tables[i]'(by unfold remapS setT;simpa using hi)=T2:=by
   show (s.tables.set i T2)[i]'(by simpa using hi)=T2
   simp
  rw [this,hT,pm.len]
 ·have:(remapS (setT s i T2) T.name π).tables[i]'(by unfold remapS setT;simpa using hi)=T2:=by
   show (s.tables.set i T2)[i]'(by simpa using hi)=T2
   simp
  rw [this,c2]
  rw [hT] at hc
  obtain ⟨j,hj,rfl⟩:=List.mem_iff_getElem.1 hc
  obtain ⟨_,_,q⟩:=mv.pos rfl (c:=(j:Int)) (by omega) (by omega)
  refine List.mem_map.2 ⟨(j:Int),List.mem_of_getElem? q,?_⟩
  simp only [Int.toNat_natCast]
  exact getD_lt _ hj
def colEq (a b:Col):Bool:=sEq a.name b.name&&(a.kind==b.kind)&&(a.nullable==b.nullable)
theorem colEq_refl (c:Col):colEq c c=true:=by simp [colEq,sEq]
set_option maxHeartbeats 4000000 in
theorem indexCol_sat (l : List Col) (c : Col) (hlen : l.length ≤ 140737488355328) :
    Sat Tryz.prog 52 [.one (eCols l), .agg (eCol c)] (.v (oI (idx (colEq c) l 0))) := by
  refine ZE Tryz.func52 Tryz.ntmps52 fun w0 m0 F0 => ?_
  refine ZWpy Z0 Z0 ?_; repeat' (first | apply Zb | apply Zn | (apply Zm; intro h))
  refine AWP.loop (ι := {k : Nat // k ≤ l.length ∧ idx (colEq c) (l.drop k) k = idx (colEq c) l 0}) (fun k => ⟨19, [(0, .v (.one (eCols l))), (3, .v (.one (.ptr 3 0))), (7, .v (oI l.length)), (8, .v (oI k.1))], [(3, eCol c)], []⟩) (fun k => l.length - k.1) ⟨0, Nat.zero_le _, rfl⟩ ?_ fun ⟨k, hkl, hi⟩ => ?_
  · exact ZL Z0
  refine ZWpy Z0 Z0 ?_; repeat' (first | apply Zb | apply Zn | (apply Zm; intro h))
  all_goals first
    | (have hk : ¬ k < l.length := by omega
       refine ZR (Z1 Tryz.results52) ?_
       rw [← hi, idx_end hk]
       done)
    | (have hk : k < l.length := by omega
       have he : colEq c l[k] = true := by simp_all [colEq, sEq]
       refine ZR (Z1 Tryz.results52) ?_
       rw [← hi, idx_hit hk he]
       done)
    | (have hk : k < l.length := by omega
       have he : colEq c l[k] = false := by simp_all [colEq, sEq]
       refine ⟨⟨k + 1, by omega, by rw [idx_step hk he, hi]⟩, by simp only; omega, ?_⟩
       exact ZL Z0
       )
theorem containsCol_sat (l:List Col) (c:Col) (hlen:l.length≤140737488355328) :
  Sat Tryz.prog 20 [.one (eCols l),.agg (eCol c)] (.v (oB (l.any (colEq c)))):=by
 rw [←idx_anyB (colEq c) l 0]
 have ic:=indexCol_sat l c hlen
 refine ZE Tryz.func20 Tryz.ntmps20 fun w0 m0 F0=>?_
 refine ZWpy Z0 (Z1 (ic)) ?_;repeat' (first|apply Zb|apply Zn|(apply Zm;intro h))
 exact ZQ (Z1 Tryz.results20)
theorem containsFCol_sat (l:List Col) (f:Nat) (cs:List L) (p:Col→Bool) (hlen:l.length≤140737488355328) (hp:∀t∈l,Sat Tryz.prog f (.agg (eCol t)::cs.map .one) (.v (oB (p t)))) :
  Sat Tryz.prog 18 [.one (eCols l),.one (.clo f cs)] (.v (oB (l.any p))):=by
 rw [←idx_anyB p l 0]
 have ix:=indexFuncCol_sat l f cs p hlen hp
 refine ZE Tryz.func18 Tryz.ntmps18 fun w0 m0 F0=>?_
 refine ZWpy Z0 (Z1 (ix)) ?_;repeat' (first|apply Zb|apply Zn|(apply Zm;intro h))
 exact ZQ (Z1 Tryz.results18)
theorem splitJoin1_sat (b:List Col) (c:Col) (hlen:b.length≤140737488355328) :
  Sat Tryz.prog 19 [.agg (eCol c),.one (.fz [eCols b])] (.v (oB (!b.any (colEq c)))):=by
 have cc:=containsCol_sat b c hlen
 refine ZE Tryz.func19 Tryz.ntmps19 fun w0 m0 F0=>?_
 refine ZWpy Z0 (Z1 (cc)) ?_;repeat' (first|apply Zb|apply Zn|(apply Zm;intro h))
 exact ZQ (Z1 Tryz.results19)
set_option maxHeartbeats 32000000 in
theorem evolutionSplitJoin_sat (s:Sch) (st:Stp) (hs:s.Fits) (hf:st.Fits):Sat Tryz.prog 4 [.agg (eSch s),.agg (eStp st)] (.v (oB true)):=by
 have c0:=lensesWork_sat
 have c1:=evoApply_sat s st hs hf
 by_cases k6:st.kind=6
 case neg =>
  have e6:(st.kind==6)=false:=by simp [k6]
  refine ZE Tryz.func4 Tryz.ntmps4 fun w0 m0 F0=>?_
  refine ZWp (Z2 @eStp.eq_1 @e6) (Z1 (c0)) ?_;repeat' (first|apply Zb|apply Zn|(apply Zm;intro h))
  exact ZQ (Z1 Tryz.results4)
 have e6:(st.kind==6)=true:=by simp [k6]
 cases h:evoE s st with
 | error e =>
  have he:=evoE_ne h
  rw [h] at c1
  unfold sOut rE at c1
  simp only at c1
  refine ZE Tryz.func4 Tryz.ntmps4 fun w0 m0 F0=>?_
  refine ZWp (Z3 @eStp.eq_1 @he @e6) (Z2 (c0) (c1)) ?_;repeat' (first|apply Zb|apply Zn|(apply Zm;intro h))
  exact ZQ (Z1 Tryz.results4)
 | ok t =>
  obtain ⟨out,i,hi,hi2,e1,ti,to,lf,lc,ll,hm⟩:=split_join h k6
  have so:=small_of (evoE_ok e1)
  have p1:=applyPair_sat s st (joinSt st) hs hf ⟨zStp_fits.1,zStp_fits.2,zStp_fits.3,zStp_fits.4⟩
  rw [h] at c1
  rw [show pairR s st (joinSt st)=.ok out from by unfold pairR;rw [h];exact e1] at p1
  unfold rE at c1 p1
  rw [show sOut (.ok t)=t from rfl] at c1
  rw [show sOut (.ok out)=out from rfl] at p1
  simp only at c1 p1
  simp only [joinSt,zStp,zCon,zFK,eStp,eInts,eCols,List.map_nil] at p1
  have f1:=findTable_sat s st.table hs.1
  have f2:=findTable_sat out st.table (by have:=so.tables;omega)
  rw [ti,mx0_nat,decide_eq_true (show (0:Int)≤(i:Int) by omega)] at f1
  rw [to,mx0_nat,decide_eq_true (show (0:Int)≤(i:Int) by omega)] at f2
  have q:=so.table _ (List.getElem_mem hi2)
  have ss:=small_of (evoE_parts h).1
  have qs:=ss.table _ (List.getElem_mem hi)
  have gA:(s.tables.map eTbl).getD i []=eTbl s.tables[i]:=by rw [getD_map_lt _ _ _ hi]
  have gB:(out.tables.map eTbl).getD i []=eTbl out.tables[i]:=by rw [getD_map_lt _ _ _ hi2]
  obtain ⟨X,hX⟩:∃X,s.tables[i]=X:=⟨_,rfl⟩
  obtain ⟨Y,hY⟩:∃Y,out.tables[i]=Y:=⟨_,rfl⟩
  rw [hX] at gA ll hm qs
  rw [hY] at gB ll hm q
  have cf:=containsFCol_sat X.cols 19 [.fz [eCols Y.cols]] _ (by omega) fun c _=>splitJoin1_sat Y.cols c (by omega)
  rw [show (X.cols.any fun c=>!Y.cols.any (colEq c))=false from by
   rw [List.any_eq_false]
   intro c hc
   have:Y.cols.any (colEq c)=true:=List.any_eq_true.2 ⟨c,hm c hc,colEq_refl c⟩
   simp [this]] at cf
  refine ZE Tryz.func4 Tryz.ntmps4 fun w0 m0 F0=>?_
  refine ZVp (Z2 @eStp.eq_1 @e6) (Z5 (c0) (c1) (p1) (f1) (f2)) (Z1 (Zs 13)) Z0 ?_;repeat' (first|apply Zb|apply Zn|(apply Zm;intro h))
  refine ZVp (Z2 @gA @gB) (Z1 (cf)) (Z1 (Zd 13 [(0,12)] [(12,[(13,1)],[(0,12)]),(14,[],[])] [12,14] 8)) Z0 ?_;repeat' (first|apply Zb|apply Zn|(apply Zm;intro h))
  exact ZQ (Z1 Tryz.results4)
end Go.Bw
