/-
  WHAT IS PROVED HERE, of this translation: pairE_ne, relE_ne, pairs_none, confE_zero, confE_empty, glessAt_get, gdown_ord, gdown_end, ginsR_ord, ginsR_last, insert_between, insertT_eq, .., step_two, kind_of, compTable_sat, compSchemaA_sat, schemasA_ok, emptyCompA_ok, tAt_small, keyedT_small, compT_small, compE_shape2, complementConforms_sat.
  A theorem that ends in sat says what the function it names returns, whatever the state it is called in; the bounds on its arguments stand ahead of it.
-/
import Derived.Lib.ItoaLen
import Derived.Test.YtdnapljegcihiaaGreatDoorVzf
set_option linter.unusedSimpArgs false
set_option linter.unusedVariables false
namespace Go.Bw
open Go.Proofs
theorem pairE_ne (t:Tbl) (rows:List Row):∀k x e,pairE t rows k x=some e→e≠0:=by
 intro k x e h
 unfold pairE at h
 split at h
 ·rename_i hne;injection h with h;rw [←h];exact hne
 ·split at h
  ·cases h
  ·split at h
   ·injection h with h;omega
   ·split at h
    ·injection h with h;omega
    ·cases h
theorem relE_ne (s:Sch):∀k x e,relE s k x=some e→e≠0:=by
 intro k x e h
 unfold relE at h
 split at h
 ·injection h with h;omega
 ·split at h
  ·injection h with h;omega
  ·exact scan_ne (pairE_ne _ _) h
theorem pairs_none (t:Tbl) (rows:List Row):scan (pairE t rows) rows 0=none↔(∀j,∀h:j<rows.length,rowE t rows[j]=0)∧∀j,∀h:j+1<rows.length,cmpRows (keyOf t.pk rows[j]) (keyOf t.pk rows[j+1])<0:=by
 rw [scan_eq_none]
 constructor
 ·intro h
  refine ⟨fun j hj=>?_,fun j hj=>?_⟩
  ·have:=h j hj
   unfold pairE at this
   split at this
   ·cases this
   ·rename_i h1;simpa using h1
  ·have:=h (j+1) hj
   unfold pairE at this
   split at this
   ·cases this
   split at this
   ·omega
   rw [show ((j+1:Nat):Int) - 1=(j:Int) by omega,Int.toNat_natCast,getD_lt _ (by omega:j<rows.length)] at this
   split at this
   ·cases this
   split at this
   ·cases this
   ·omega
 ·rintro ⟨h1,h2⟩ j hj
  unfold pairE
  rw [if_neg (by simpa using h1 j hj)]
  cases j with
  | zero=>rfl
  | succ j =>
   have:=h2 j hj
   rw [if_neg (by omega),show ((j+1:Nat):Int) - 1=(j:Int) by omega,Int.toNat_natCast,getD_lt _ (by omega:j<rows.length),if_neg (by omega),if_neg (by omega)]
theorem confE_zero (s:Sch) (i:Inst):confE s i=0↔i.length=s.tables.length∧∀k,∀h:k<i.length,sEq i[k].table (s.tables.getD k zTbl).name=true∧OkRel (s.tables.getD k zTbl) i[k].rows:=by
 unfold confE
 split
 ·rename_i h
  simp [show (3:Int)≠0 by decide,h]
 ·rename_i h
  change orE (scan (relE s) i 0) 0=0↔_
  rw [scan_zero (relE_ne s),scan_eq_none]
  simp only [and_true]
  constructor
  ·intro h1
   refine ⟨by omega,fun k hk=>?_⟩
   have:=h1 k hk
   unfold relE at this
   split at this
   ·cases this
   split at this
   ·cases this
   rename_i h2 h3
   obtain ⟨h4,h5⟩:=(pairs_none _ _).1 this
   exact ⟨by simpa using h2,by omega,h4,h5⟩
  ·rintro ⟨_,h1⟩ k hk
   obtain ⟨h2,h3,h4,h5⟩:=h1 k hk
   unfold relE
   rw [if_neg (by rw [h2];decide),if_neg (by omega)]
   exact (pairs_none _ _).2 ⟨h4,h5⟩
theorem confE_empty (s:Sch):confE s (emptyI s)=0:=by
 refine (confE_zero _ _).2 ⟨by simp [emptyI],fun k hk=>?_⟩
 have hk':k<s.tables.length:=by simpa [emptyI] using hk
 have e:(emptyI s)[k]=⟨s.tables[k].name,[]⟩:=by simp [emptyI]
 rw [e,getD_lt _ hk']
 exact ⟨by simp [sEq],by simp,fun j hj=>by simp at hj,fun j hj=>by simp at hj⟩
end Go.Bw
namespace Go.Bw
instance (a b:Tbl):Decidable (LtT a b):=Int.decLt _ _
theorem glessAt_get {ds:List Tbl} {i j:Nat} (hi:i<ds.length) (hj:j<ds.length):glessAt cmpT ds i j=decide (LtT ds[i] ds[j]):=by
 simp only [glessAt,List.getElem?_eq_getElem hi,List.getElem?_eq_getElem hj]
 rfl
theorem gdown_ord {ds:List Tbl} {j:Nat} (hj:j<ds.length) (h:∀q:0<j,¬ LtT ds[j] (ds[j - 1]'(by omega))):gdown cmpT 0 j ds=ds:=by
 refine gdown_stop cmpT 0 j ds ?_
 rcases Nat.eq_zero_or_pos j with h0|h0
 ·exact .inl (by omega)
 ·refine .inr ?_
  rw [glessAt_get hj (by omega)]
  exact decide_eq_false (h h0)
theorem gdown_end (A:List Tbl) (t:Tbl):∀(B C:List Tbl),(∀x∈B,LtT t x)→(∀q:0<A.length,¬ LtT t (A[A.length - 1]'(by omega)))→gdown cmpT 0 (A.length+B.length) (A++B++t::C)=A++t::(B++C):=by
 intro B
 induction h:B.length generalizing B with
 | zero =>
  intro C hB hA
  have:B=[]:=List.eq_nil_of_length_eq_zero h
  subst this
  simp only [List.append_nil,List.nil_append]
  refine gdown_ord (by simp) fun q=>?_
  have e1:(A++t::C)[A.length+0]'(by simp)=t:=by simp
  have e2:(A++t::C)[A.length+0 - 1]'(by simp;omega)=A[A.length - 1]'(by omega):=by
   rw [List.getElem_append_left (by omega)]
   rfl
  rw [e1,e2]
  exact hA (by omega)
 | succ n ih =>
  intro C hB hA
  obtain ⟨B',x,rfl⟩:∃B' x,B=B'++[x]:=by
   rcases List.eq_nil_or_concat B with e|⟨B',x,e⟩
   ·subst e;simp at h
   ·exact ⟨B',x,by simpa using e⟩
  have hn:B'.length=n:=by simpa using h
  have hlen:A.length+(n+1)=(A++B').length+1:=by simp;omega
  have e0:A++(B'++[x])++t::C=(A++B')++x::t::C:=by simp
  rw [hlen,e0,gdown]
  have g1:((A++B')++x::t::C)[(A++B').length+1]'(by simp;omega)=t:=by
   rw [List.getElem_append_right (by omega)]
   simp
  have g2:((A++B')++x::t::C)[(A++B').length]'(by simp)=x:=by
   rw [List.getElem_append_right (Nat.le_refl _)]
   simp
  rw [if_pos ⟨by omega,by
   rw [glessAt_get (by simp;omega) (by simp),g1,g2]
   exact decide_eq_true (hB x (by simp))⟩]
  have sw:gswp ((A++B')++x::t::C) ((A++B').length+1) (A++B').length=(A++B')++t::x::C:=by
   rw [gswp_eq (by simp;omega) (by simp),g1,g2]
   rw [List.set_append_right _ _ (by omega),List.set_append_right _ _ (Nat.le_refl _)]
   simp
  rw [sw]
  have:=ih B' hn (x::C) (fun y hy=>hB y (by simp [hy])) hA
  rw [List.length_append,hn,this]
  simp
theorem ginsR_ord {ts:List Tbl} (hs:ts.Pairwise LtT) (t:Tbl):∀n i,n+i≤ts.length→ginsR cmpT 0 n i (ts++[t])=ts++[t]
 | 0,_,_=>rfl
 | n+1,i,h=>by
  rw [ginsR,gdown_ord (by simp;omega) (fun q=>by
   rw [List.getElem_append_left (by omega),List.getElem_append_left (by omega)]
   intro hl
   have:=List.pairwise_iff_getElem.1 hs (i - 1) i (by omega) (by omega) (by omega)
   exact (LtT.trans this hl).ne rfl)]
  exact ginsR_ord hs t n (i+1) (by omega)
theorem ginsR_last (t:Tbl):∀n i (l:List Tbl),ginsR cmpT 0 (n+1) i l=gdown cmpT 0 (i+n) (ginsR cmpT 0 n i l)
 | 0,i,l=>by rw [ginsR,ginsR,ginsR];rfl
 | n+1,i,l=>by
  rw [ginsR,ginsR_last t n (i+1),ginsR]
  congr 1
  omega
theorem insert_between {A B:List Tbl} {t:Tbl} (h:(A++t::B).Pairwise LtT):ginsS cmpT 0 ((A++B).length+1) ((A++B)++[t])=A++t::B:=by
 have hp:=List.pairwise_append.1 h
 have hB:=List.pairwise_cons.1 hp.2.1
 have hAB:(A++B).Pairwise LtT:=List.pairwise_append.2 ⟨hp.1,hB.2,fun a ha b hb=>hp.2.2 a ha b (List.mem_cons_of_mem _ hb)⟩
 unfold ginsS
 rcases Nat.eq_zero_or_pos (A++B).length with h0|h0
 ·have:A++B=[]:=List.eq_nil_of_length_eq_zero h0
  obtain ⟨rfl,rfl⟩:=List.append_eq_nil_iff.1 this
  rfl
 ·obtain ⟨n,hn⟩:∃n,(A++B).length=n+1:=⟨(A++B).length - 1,by omega⟩
  rw [show (A++B).length+1 - (0+1)=n+1 by omega,ginsR_last t n 1,ginsR_ord hAB t n 1 (by omega)]
  have hl:1+n=A.length+B.length:=by rw [List.length_append] at hn;omega
  rw [hl,gdown_end A t B [] hB.1 fun q hq=>?_,List.append_nil]
  exact (LtT.trans (hp.2.2 _ (List.getElem_mem (by omega)) t (List.mem_cons_self ..)) hq).ne rfl
theorem insertT_eq {s:Sch} {A B:List Tbl} {t:Tbl} (hs:s.tables=A++B) (h:(A++t::B).Pairwise LtT):insertT s t={s with tables:=A++t::B}:=by
 unfold insertT
 rw [hs,insert_between h]
theorem sEq_refl (a:ByteArray):sEq a a=true:=sEq_iff.2 rfl
theorem sEq_ne {a b:ByteArray} (h:a≠b):sEq a b=false:=by
 cases hb:sEq a b with
 | false=>rfl
 | true=>exact absurd (sEq_iff.1 hb) h
theorem set_names {ts:List Tbl} {i:Nat} (hi:i<ts.length) {t:Tbl} (h:t.name=ts[i].name):(ts.set i t).map Tbl.name=ts.map Tbl.name:=by
 rw [List.map_set,h]
 refine List.ext_getElem (by simp) fun j h1 h2=>?_
 rw [List.getElem_set]
 split
 ·rename_i e;subst e;simp
 ·rfl
end Go.Bw
namespace Go.Bw
open Go.Proofs
theorem numK_succ (l:List Col) (n:Nat):numK l (n+1)=numK l n++[{l.getD n zCol with name:=nmB 98 n}]:=by
 unfold numK
 rw [List.range_succ,List.map_append]
 rfl
theorem numK_len (l:List Col) (n:Nat):(numK l n).length=n:=by unfold numK;simp
theorem keepAt_append {α:Type} (q:List Int):∀(a b:List α) (k:Nat),keepAt q (a++b) k=keepAt q a k++keepAt q b (k+a.length)
 | [],b,k=>by simp [keepAt]
 | x::r,b,k=>by
  rw [List.cons_append,keepAt,keepAt,keepAt_append q r b (k+1),List.length_cons]
  rw [show k+1+r.length=k+(r.length+1) by omega]
  split<;>simp
theorem keepAt_len {α:Type} (q:List Int):∀(a:List α) (k:Nat),(keepAt q a k).length≤a.length
 | [],k=>by simp [keepAt]
 | x::r,k=>by
  have:=keepAt_len q r (k+1)
  rw [keepAt]
  split<;>simp<;>omega
end Go.Bw
namespace Go.Bw
open Go.Proofs
def zSch:Sch:=⟨[],[],[]⟩
set_option maxHeartbeats 8000000 in
theorem numbered_sat (l:List Col) (h1:l.length≤1048576):Sat Tryz.prog 100 [.one (eCols l)] (.v (.one (eCols (numC l)))):=by
 unfold eCols
 refine ZE Tryz.func100 Tryz.ntmps100 fun w0 m0 F0=>?_
 refine ZW Z0 Z0 ?_
 refine AWP.loop (ι:={k:Nat // k≤l.length}) (fun k=>⟨23,[(3,.v (.one (.ref 3 0 k.1))),(6,.v (.one (.sl 3 (l.map eCol)))),(7,.v (oI l.length)),(8,.v (oI k.1))],[],[(3,⟨3,(numK l k.1).map eCol,[]⟩)]⟩) (fun k=>l.length - k.1) ⟨0,Nat.zero_le _⟩ ?_ fun ⟨k,hk⟩=>?_
 ·exact ZN (Z2 @numK.eq_1 @Int.natCast_zero)
 simp only at hk ⊢
 have lk:=numK_len l k
 rcases Nat.lt_or_ge k l.length with hc|hc
 ·obtain ⟨x,hx⟩:∃x,l[k]=x:=⟨_,rfl⟩
  have gc:(l.map eCol).getD k []=[.str x.name,.int .i64 x.kind,.bool x.nullable]:=by rw [getD_map_lt _ _ _ hc,hx];rfl
  have it:=itoaN_sat k (by omega)
  have iz:=itoaB_le (k:Int) (by omega) (by omega)
  have sx:(#[(98:UInt8)]).size+(itoaB (k:Int)).size≤9223372036854775807:=by
   have:(#[(98:UInt8)]).size=1:=rfl
   omega
  have rn:=renamed_sat x ((⟨#[98]⟩:ByteArray)++itoaB (k:Int))
  unfold ren1 at rn
  simp only [eCol] at rn
  have ns:numK l (k+1)=numK l k++[⟨(⟨#[98]⟩:ByteArray)++itoaB (k:Int),x.kind,x.nullable⟩]:=by
   rw [numK_succ,getD_lt _ hc,hx]
   rfl
  refine ZV (Z2 @gc @lk) (Z2 (it) (rn)) (Z1 (Zd 5 [(0,3)] [(3,[(4,1)],[(0,2)]),(5,[],[(0,1)]),(6,[],[(0,1)]),(7,[],[]),(8,[],[])] [3,5,6,7,8] 8)) Z0 ?_
  refine ⟨⟨k+1,by omega⟩,by simp only;omega,?_⟩
  exact ZN (Z4 @ns @eCol.eq_1 @Int.natCast_add @Int.natCast_one)
 ·have hk2:k=l.length:=by omega
  subst hk2
  refine ZW (Z1 @lk) Z0 ?_
  refine ZR (Z1 Tryz.results100) ?_
  rw [if_pos (by omega)]
  rfl
theorem ren_new (c:Col):Sat Tryz.prog 99 [.agg [.str c.name,.int .i64 c.kind,.bool c.nullable],.one (.str ⟨#[110,101,119]⟩)] (.v (.agg [.str newB,.int .i64 c.kind,.bool c.nullable])):=renamed_sat c newB
theorem ren_old0 (c:Col):Sat Tryz.prog 99 [.agg [.str c.name,.int .i64 c.kind,.bool c.nullable],.one (.str ⟨#[111,108,100,48]⟩)] (.v (.agg [.str old0B,.int .i64 c.kind,.bool c.nullable])):=renamed_sat c old0B
theorem ren_old1 (c:Col):Sat Tryz.prog 99 [.agg [.str c.name,.int .i64 c.kind,.bool c.nullable],.one (.str ⟨#[111,108,100,49]⟩)] (.v (.agg [.str old1B,.int .i64 c.kind,.bool c.nullable])):=renamed_sat c old1B
theorem schemas_err (s:Sch) (st:Stp) (hs:s.Fits) (hf:st.Fits) {e:Int} (h:evoE s st=.error e) :
  Sat Tryz.prog 54 [.agg (eSch s),.agg (eStp st)] (.tup [.agg (eSch zSch),.agg (eSch zSch),oI e]):=by
 have c1:=evoApply_sat s st hs hf
 have he:=evoE_ne h
 rw [h] at c1
 unfold sOut rE at c1
 simp only at c1
 refine ZE Tryz.func54 Tryz.ntmps54 fun w0 m0 F0=>?_
 refine ZW (Z2 @eStp.eq_1 @he) (Z1 (c1)) ?_
 refine ZR (Z1 Tryz.results54) ?_
 rfl
theorem emptyComp_err (s:Sch) (st:Stp) (hs:s.Fits) (hf:st.Fits) {e:Int} (h:evoE s st=.error e) :
  Sat Tryz.prog 22 [.agg (eSch s),.agg (eStp st)] (.tup [.one (eInst []),oI e]):=by
 have c1:=schemas_err s st hs hf h
 have he:=evoE_ne h
 refine ZE Tryz.func22 Tryz.ntmps22 fun w0 m0 F0=>?_
 refine ZW (Z2 @eStp.eq_1 @he) (Z1 (c1)) ?_
 exact ZQ (Z1 Tryz.results22)
theorem tblAt_mx (ts:List Tbl) (n:ByteArray) (h:0<ts.length):∃c,c<ts.length∧mx0 (tblAt ts n)=(c:Int):=by
 rcases idx_cases (fun u=>sEq u.name n) ts 0 with ⟨e1,_⟩|⟨z,hz,e1,_,_⟩
 ·exact ⟨0,h,by show mx0 (idx _ ts 0)=_;rw [e1];rfl⟩
 ·exact ⟨z,hz,by show mx0 (idx _ ts 0)=_;rw [e1,Nat.zero_add,mx0_nat]⟩
theorem cond_kind {a b:Int} (h:a≠b):(a==b)=false:=by simpa using h
set_option maxHeartbeats 64000000 in
theorem compTable_new (s u:Sch) (st:Stp) (hf:st.Fits) (h1:st.kind=10):Sat Tryz.prog 53 [.agg (eSch s),.agg (eSch u),.agg (eStp st)] (.v (.agg (eTbl (compT s u st)))):=by
 have sp:compT s u st=st.newTable:=by unfold compT;rw [if_pos h1]
 rw [sp]
 have f2:=hf.ncols
 have f3:=hf.npk
 have ct:=cloneTableB_sat st.newTable (by omega) (by omega)
 simp only [eTblX] at ct ⊢
 refine ZE Tryz.func53 Tryz.ntmps53 fun w0 m0 F0=>?_
 refine ZWp (Z2 @eStp.eq_1 @h1) (Z1 (ct)) ?_;repeat' (first|apply Zb|apply Zn|(apply Zm;intro h))
 exact ZQ (Z1 Tryz.results53)
set_option maxHeartbeats 64000000 in
theorem compTable_old (s u:Sch) (st:Stp) (zs:schE s=0) (hs:0<s.tables.length) (h1:st.kind=11):Sat Tryz.prog 53 [.agg (eSch s),.agg (eSch u),.agg (eStp st)] (.v (.agg (eTbl (compT s u st)))):=by
 have okS:=okSch_of zs
 have ft:=findTable_sat s st.table (by have:=okS.n6;omega)
 obtain ⟨i,hi,ei⟩:=tblAt_mx s.tables st.table hs
 obtain ⟨b,hb⟩:∃b,decide (0≤tblAt s.tables st.table)=b:=⟨_,rfl⟩
 rw [ei,hb] at ft
 obtain ⟨t,ht⟩:∃t,s.tables[i]=t:=⟨_,rfl⟩
 have htA:tAt s (mx0 (tblAt s.tables st.table)).toNat=t:=by rw [ei,Int.toNat_natCast];unfold tAt;rw [getD_lt _ hi,ht]
 have okt:OkTbl t:=ht▸okS.tbl _ (List.getElem_mem hi)
 have t6:=okt.cols6
 have p6:=okt.pk6
 have gt:(s.tables.map eTbl).getD i []=[.str t.name,.sl 3 (t.cols.map eCol),.sl 1 (t.pk.map eInt1)]:=by rw [getD_map_lt _ _ _ hi,ht];rfl
 have n10:(st.kind==10)=false:=cond_kind (by omega)
 have sp:compT s u st=t:=by unfold compT;rw [if_neg (by omega)];simp only [htA];rw [if_pos h1]
 rw [sp]
 have ct:=cloneTable_sat t (by omega) (by omega)
 simp only [eTblX] at ct ⊢
 refine ZE Tryz.func53 Tryz.ntmps53 fun w0 m0 F0=>?_
 refine ZWp (Z4 @eStp.eq_1 @n10 @h1 @gt) (Z2 (ft) (ct)) ?_;repeat' (first|apply Zb|apply Zn|(apply Zm;intro h))
 exact ZQ (Z1 Tryz.results53)
structure CTab (s u:Sch) (st:Stp) (i k:Nat) (t v:Tbl):Prop where
 zs:schE s=0
 zu:schE u=0
 hi:i<s.tables.length
 hk:k<u.tables.length
 ei:mx0 (tblAt s.tables st.table)=(i:Int)
 ek:mx0 (tblAt u.tables st.table)=(k:Int)
 ht:s.tables[i]=t
 hv:u.tables[k]=v
theorem CTab.tA {s u:Sch} {st:Stp} {i k:Nat} {t v:Tbl} (c:CTab s u st i k t v):tAt s (mx0 (tblAt s.tables st.table)).toNat=t:=by
 rw [c.ei,Int.toNat_natCast];unfold tAt;rw [getD_lt _ c.hi,c.ht]
theorem CTab.uA {s u:Sch} {st:Stp} {i k:Nat} {t v:Tbl} (c:CTab s u st i k t v):tAt u (mx0 (tblAt u.tables st.table)).toNat=v:=by
 rw [c.ek,Int.toNat_natCast];unfold tAt;rw [getD_lt _ c.hk,c.hv]
set_option maxHeartbeats 64000000 in
theorem compTable_5 {s u:Sch} {st:Stp} {i k:Nat} {t v:Tbl} (q:CTab s u st i k t v) (h1:st.kind=5) (hl:v.cols.length=t.cols.length):Sat Tryz.prog 53 [.agg (eSch s),.agg (eSch u),.agg (eStp st)] (.v (.agg (eTbl (compT s u st)))):=by
 have hi:=q.hi
 have hk:=q.hk
 have okS:=okSch_of q.zs
 have okU:=okSch_of q.zu
 have ft:=findTable_sat s st.table (by have:=okS.n6;omega)
 have fu:=findTable_sat u st.table (by have:=okU.n6;omega)
 obtain ⟨b1,hb1⟩:∃b,decide (0≤tblAt s.tables st.table)=b:=⟨_,rfl⟩
 obtain ⟨b2,hb2⟩:∃b,decide (0≤tblAt u.tables st.table)=b:=⟨_,rfl⟩
 rw [q.ei,hb1] at ft
 rw [q.ek,hb2] at fu
 have okt:OkTbl t:=q.ht▸okS.tbl _ (List.getElem_mem q.hi)
 have okv:OkTbl v:=q.hv▸okU.tbl _ (List.getElem_mem q.hk)
 have pk:PkOk t:=pkOk_of q.zs t (q.ht▸List.getElem_mem q.hi)
 have t6:=okt.cols6
 have v6:=okv.cols6
 have v0:=okv.cols0
 have p6:=okt.pk6
 have gt:(s.tables.map eTbl).getD i []=[.str t.name,.sl 3 (t.cols.map eCol),.sl 1 (t.pk.map eInt1)]:=by rw [getD_map_lt _ _ _ q.hi,q.ht];rfl
 have gv:(u.tables.map eTbl).getD k []=[.str v.name,.sl 3 (v.cols.map eCol),.sl 1 (v.pk.map eInt1)]:=by rw [getD_map_lt _ _ _ q.hk,q.hv];rfl
 obtain ⟨c,hc,ec⟩:=colAt_nat t.cols st.column (by have:=okt.cols0;omega)
 have fc:=findColumn_sat t st.column (by omega)
 rw [ec] at fc
 obtain ⟨b,hb⟩:∃b,decide (0≤colAt t.cols st.column)=b:=⟨_,rfl⟩
 rw [hb] at fc
 obtain ⟨last,hla⟩:∃last,v.cols[v.cols.length - 1]'(by omega)=last:=⟨_,rfl⟩
 obtain ⟨old,ho⟩:∃old,t.cols[c]=old:=⟨_,rfl⟩
 have hc2:c<v.cols.length:=by omega
 obtain ⟨nw,hn⟩:∃nw,v.cols[c]=nw:=⟨_,rfl⟩
 have gl:(v.cols.map eCol).getD (v.cols.length - 1) []=[.str last.name,.int .i64 last.kind,.bool last.nullable]:=by rw [getD_map_lt _ _ _ (by omega),hla];rfl
 have go:(t.cols.map eCol).getD c []=[.str old.name,.int .i64 old.kind,.bool old.nullable]:=by rw [getD_map_lt _ _ _ hc,ho];rfl
 have gn:(v.cols.map eCol).getD c []=[.str nw.name,.int .i64 nw.kind,.bool nw.nullable]:=by rw [getD_map_lt _ _ _ hc2,hn];rfl
 have w1:((v.cols.length:Int) - 1).toNat=v.cols.length - 1:=by omega
 have lc:(mx0 (colAt t.cols st.column)).toNat=c:=by rw [ec];omega
 have sp:compT s u st=keyedT t [ren1 old oldB,ren1 nw newB]:=by
  unfold compT
  rw [if_neg (by omega)]
  simp only [q.tA,q.uA]
  rw [if_neg (by omega),if_neg (by omega),if_neg (by omega),if_pos h1,lc,getD_lt _ hc,ho,getD_lt _ hc2,hn]
 rw [sp]
 have ky:=keyed_sat t [ren1 old oldB,ren1 nw newB] (by omega) (by omega) (by simp) pk
 have rn:=ren_old old
 have rm:=ren_new nw
 simp only [eTblX,eCols,List.map_cons,List.map_nil,eCol,ren1] at ky
 refine ZE Tryz.func53 Tryz.ntmps53 fun w0 m0 F0=>?_
 refine ZVp (Z7 @eStp.eq_1 @eTblX @h1 @gt @gv @gl @w1) (Z3 (ft) (fu) (fc)) (Z1 (Zs 17)) Z0 ?_;repeat' (first|apply Zb|apply Zn|(apply Zm;intro h)|(apply Zk;intro K hK))
 refine dX tyOk mixed [(0,6),(7,4)] [(6,[],[(0,1),(7,4)]),(11,[],[(0,1)]),(12,[],[(0,1)]),(13,[],[]),(14,[],[])] [6,11,12,13,14] 8 fun K hK=>?_
 simp only [SG,segs] at hK ⊢
 refine ZU (Z2 @go @gn) ?_
 repeat' (first|((first|with_reducible refine qV tyOk fun K hK=>?_|refine Q2 ?_|((with_reducible first|refine qS ?_ ?_|refine qT ?_ ?_|refine qU ?_ ?_)<;>(intro h;try simp only [NM] at h))|((with_reducible refine CallJ.is ?_);(first|refine CallJ.pure (rn) ?_|refine CallJ.pure (rm) ?_|refine CallJ.pure (ky) ?_|((apply CallJ.frozI [6] []);(focus (simp -dsimp (disch:=first|exact D|fail) only [go_sem,↓reduceIte,seval,go,gn,Option.getD_none,RT,St.rest,St.freeze];rfl));(focus (first|exact (rn)|exact (rm)|exact (ky))))))|(with_reducible first|refine VCy.some fun K hK=>?_|refine VCy.step fun K hK=>?_))<;>simp -dsimp (disch:=first|exact D|fail) only [go_sem,↓reduceIte,seval,go,gn,Option.getD_none,RT,St.rest,St.freeze])|((with_reducible refine hK _ ?_);clear hK K)|(with_reducible refine VCy.intro fun K0 hK0=>?_)|((with_reducible refine VCy.fin ?_);(refine hK0 _ ?_);clear hK0 K0)|(with_reducible first|refine VCy.quiet ?_|refine VCy.none ?_)|((with_reducible refine VCy.keep ?_ ?_);focus ((simp -dsimp (disch:=first|exact D|fail) only [go_sem,↓reduceIte,seval,Stable_cons,Stable_nil,sameA_some,sameA_none,go,gn,Option.getD_none,RT,St.rest,St.freeze]);first|done|exact E|fail))|refine Q1 ?_|((with_reducible refine qW (T:=TT) (b:=?_) ?_ ?_);rotate_left;exact rfl)|((with_reducible refine yS ?_ ?_)<;>(intro h;try simp only [NM] at h)))
 refine ZR (Z1 Tryz.results53) ?_
 rfl
set_option maxHeartbeats 64000000 in
theorem compTable_12 {s u:Sch} {st:Stp} {i k:Nat} {t v:Tbl} (q:CTab s u st i k t v) (h1:st.kind=12) {x0 x1:Nat} (l2:st.cols=[(x0:Int),(x1:Int)]) (hx0:x0<t.cols.length) (hx1:x1<t.cols.length):Sat Tryz.prog 53 [.agg (eSch s),.agg (eSch u),.agg (eStp st)] (.v (.agg (eTbl (compT s u st)))):=by
 have hi:=q.hi
 have hk:=q.hk
 have okS:=okSch_of q.zs
 have okU:=okSch_of q.zu
 have ft:=findTable_sat s st.table (by have:=okS.n6;omega)
 have fu:=findTable_sat u st.table (by have:=okU.n6;omega)
 obtain ⟨b1,hb1⟩:∃b,decide (0≤tblAt s.tables st.table)=b:=⟨_,rfl⟩
 obtain ⟨b2,hb2⟩:∃b,decide (0≤tblAt u.tables st.table)=b:=⟨_,rfl⟩
 rw [q.ei,hb1] at ft
 rw [q.ek,hb2] at fu
 have okt:OkTbl t:=q.ht▸okS.tbl _ (List.getElem_mem q.hi)
 have okv:OkTbl v:=q.hv▸okU.tbl _ (List.getElem_mem q.hk)
 have pk:PkOk t:=pkOk_of q.zs t (q.ht▸List.getElem_mem q.hi)
 have t6:=okt.cols6
 have v6:=okv.cols6
 have v0:=okv.cols0
 have p6:=okt.pk6
 have gt:(s.tables.map eTbl).getD i []=[.str t.name,.sl 3 (t.cols.map eCol),.sl 1 (t.pk.map eInt1)]:=by rw [getD_map_lt _ _ _ q.hi,q.ht];rfl
 have gv:(u.tables.map eTbl).getD k []=[.str v.name,.sl 3 (v.cols.map eCol),.sl 1 (v.pk.map eInt1)]:=by rw [getD_map_lt _ _ _ q.hk,q.hv];rfl
 obtain ⟨c,hc,ec⟩:=colAt_nat t.cols st.column (by have:=okt.cols0;omega)
 have fc:=findColumn_sat t st.column (by omega)
 rw [ec] at fc
 obtain ⟨b,hb⟩:∃b,decide (0≤colAt t.cols st.column)=b:=⟨_,rfl⟩
 rw [hb] at fc
 obtain ⟨last,hla⟩:∃last,v.cols[v.cols.length - 1]'(by omega)=last:=⟨_,rfl⟩
 obtain ⟨a0,ha0⟩:∃a,t.cols[x0]=a:=⟨_,rfl⟩
 obtain ⟨a1,ha1⟩:∃a,t.cols[x1]=a:=⟨_,rfl⟩
 have gl:(v.cols.map eCol).getD (v.cols.length - 1) []=[.str last.name,.int .i64 last.kind,.bool last.nullable]:=by rw [getD_map_lt _ _ _ (by omega),hla];rfl
 have g0:(t.cols.map eCol).getD x0 []=[.str a0.name,.int .i64 a0.kind,.bool a0.nullable]:=by rw [getD_map_lt _ _ _ hx0,ha0];rfl
 have g1:(t.cols.map eCol).getD x1 []=[.str a1.name,.int .i64 a1.kind,.bool a1.nullable]:=by rw [getD_map_lt _ _ _ hx1,ha1];rfl
 have w1:((v.cols.length:Int) - 1).toNat=v.cols.length - 1:=by omega
 have sp:compT s u st=keyedT t [ren1 a0 old0B,ren1 a1 old1B,ren1 last newB]:=by
  unfold compT
  rw [if_neg (by omega)]
  simp only [q.tA,q.uA]
  rw [if_neg (by omega),if_neg (by omega),if_neg (by omega),if_neg (by omega),if_pos h1,l2]
  simp only [List.getD_cons_zero,List.getD_cons_succ,Int.toNat_natCast]
  rw [getD_lt _ hx0,ha0,getD_lt _ hx1,ha1,getD_lt _ (by omega),hla]
 rw [sp]
 have ky:=keyed_sat t [ren1 a0 old0B,ren1 a1 old1B,ren1 last newB] (by omega) (by omega) (by simp) pk
 have r0:=ren_old0 a0
 have r1:=ren_old1 a1
 have r2:=ren_new last
 simp only [eTblX,eCols,List.map_cons,List.map_nil,eCol,ren1] at ky
 refine ZE Tryz.func53 Tryz.ntmps53 fun w0 m0 F0=>?_
 refine ZVp (Z8 @eStp.eq_1 @eTblX @h1 @gt @gv @gl @w1 @l2) (Z3 (ft) (fu) (fc)) (Z1 (Zs 19)) Z0 ?_;repeat' (first|apply Zb|apply Zn|(apply Zm;intro h)|(apply Zk;intro K hK))
 refine dX tyOk mixed [(0,9),(10,8),(19,1)] [(9,[],[(0,1),(10,8),(19,1)]),(18,[],[(0,1),(19,1)]),(20,[],[(0,1)]),(21,[],[(0,1)]),(22,[],[]),(23,[],[])] [9,18,20,21,22,23] 8 fun K hK=>?_
 simp only [SG,segs] at hK ⊢
 refine ZU (Z4 @g0 @g1 (@List.getD_cons_zero.{0}) (@List.getD_cons_succ.{0})) ?_
 repeat' (first|((first|with_reducible refine qV tyOk fun K hK=>?_|refine Q2 ?_|((with_reducible first|refine qS ?_ ?_|refine qT ?_ ?_|refine qU ?_ ?_)<;>(intro h;try simp only [NM] at h))|((with_reducible refine CallJ.is ?_);(first|refine CallJ.pure (r0) ?_|refine CallJ.pure (r1) ?_|refine CallJ.pure (r2) ?_|refine CallJ.pure (ky) ?_|((apply CallJ.frozI [6] []);(focus (simp -dsimp (disch:=first|exact D|fail) only [go_sem,↓reduceIte,seval,g0,g1,List.getD_cons_zero,List.getD_cons_succ,Option.getD_none,RT,St.rest,St.freeze];rfl));(focus (first|exact (r0)|exact (r1)|exact (r2)|exact (ky))))))|(with_reducible first|refine VCy.some fun K hK=>?_|refine VCy.step fun K hK=>?_))<;>simp -dsimp (disch:=first|exact D|fail) only [go_sem,↓reduceIte,seval,g0,g1,List.getD_cons_zero,List.getD_cons_succ,Option.getD_none,RT,St.rest,St.freeze])|((with_reducible refine hK _ ?_);clear hK K)|(with_reducible refine VCy.intro fun K0 hK0=>?_)|((with_reducible refine VCy.fin ?_);(refine hK0 _ ?_);clear hK0 K0)|(with_reducible first|refine VCy.quiet ?_|refine VCy.none ?_)|((with_reducible refine VCy.keep ?_ ?_);focus ((simp -dsimp (disch:=first|exact D|fail) only [go_sem,↓reduceIte,seval,Stable_cons,Stable_nil,sameA_some,sameA_none,g0,g1,List.getD_cons_zero,List.getD_cons_succ,Option.getD_none,RT,St.rest,St.freeze]);first|done|exact E|fail))|refine Q1 ?_|((with_reducible refine qW (T:=TT) (b:=?_) ?_ ?_);rotate_left;exact rfl)|((with_reducible refine yS ?_ ?_)<;>(intro h;try simp only [NM] at h)))
 refine ZR (Z1 Tryz.results53) ?_
 rfl
set_option maxHeartbeats 64000000 in
theorem compTable_8 {s u:Sch} {st:Stp} {i k:Nat} {t v:Tbl} (q:CTab s u st i k t v) (h1:st.kind=8):Sat Tryz.prog 53 [.agg (eSch s),.agg (eSch u),.agg (eStp st)] (.v (.agg (eTbl (compT s u st)))):=by
 have hi:=q.hi
 have hk:=q.hk
 have okS:=okSch_of q.zs
 have okU:=okSch_of q.zu
 have ft:=findTable_sat s st.table (by have:=okS.n6;omega)
 have fu:=findTable_sat u st.table (by have:=okU.n6;omega)
 obtain ⟨b1,hb1⟩:∃b,decide (0≤tblAt s.tables st.table)=b:=⟨_,rfl⟩
 obtain ⟨b2,hb2⟩:∃b,decide (0≤tblAt u.tables st.table)=b:=⟨_,rfl⟩
 rw [q.ei,hb1] at ft
 rw [q.ek,hb2] at fu
 have okt:OkTbl t:=q.ht▸okS.tbl _ (List.getElem_mem q.hi)
 have okv:OkTbl v:=q.hv▸okU.tbl _ (List.getElem_mem q.hk)
 have pk:PkOk t:=pkOk_of q.zs t (q.ht▸List.getElem_mem q.hi)
 have t6:=okt.cols6
 have v6:=okv.cols6
 have v0:=okv.cols0
 have p6:=okt.pk6
 have gt:(s.tables.map eTbl).getD i []=[.str t.name,.sl 3 (t.cols.map eCol),.sl 1 (t.pk.map eInt1)]:=by rw [getD_map_lt _ _ _ q.hi,q.ht];rfl
 have gv:(u.tables.map eTbl).getD k []=[.str v.name,.sl 3 (v.cols.map eCol),.sl 1 (v.pk.map eInt1)]:=by rw [getD_map_lt _ _ _ q.hk,q.hv];rfl
 obtain ⟨c,hc,ec⟩:=colAt_nat t.cols st.column (by have:=okt.cols0;omega)
 have fc:=findColumn_sat t st.column (by omega)
 rw [ec] at fc
 obtain ⟨b,hb⟩:∃b,decide (0≤colAt t.cols st.column)=b:=⟨_,rfl⟩
 rw [hb] at fc
 obtain ⟨last,hla⟩:∃last,v.cols[v.cols.length - 1]'(by omega)=last:=⟨_,rfl⟩
 have gl:(v.cols.map eCol).getD (v.cols.length - 1) []=[.str last.name,.int .i64 last.kind,.bool last.nullable]:=by rw [getD_map_lt _ _ _ (by omega),hla];rfl
 have w1:((v.cols.length:Int) - 1).toNat=v.cols.length - 1:=by omega
 have sp:compT s u st=keyedT t [⟨otherB,2,false⟩]:=by
  unfold compT
  rw [if_neg (by omega)]
  simp only [q.tA,q.uA]
  rw [if_neg (by omega),if_neg (by omega),if_neg (by omega),if_neg (by omega),if_neg (by omega),if_pos h1]
 rw [sp]
 have ky:=keyed_sat t [⟨otherB,2,false⟩] (by omega) (by omega) (by simp) pk
 simp only [eTblX,eCols,List.map_cons,List.map_nil,eCol,otherB] at ky
 refine ZE Tryz.func53 Tryz.ntmps53 fun w0 m0 F0=>?_
 refine ZVp (Z7 @eStp.eq_1 @eTblX @h1 @gt @gv @gl @w1) (Z3 (ft) (fu) (fc)) (Z1 (Zs 21)) Z0 ?_;repeat' (first|apply Zb|apply Zn|(apply Zm;intro h))
 repeat' (first|((first|with_reducible refine qV tyOk fun K hK=>?_|refine Q2 ?_|((with_reducible first|refine qS ?_ ?_|refine qT ?_ ?_|refine qU ?_ ?_)<;>(intro h;try simp only [NM] at h))|((with_reducible refine CallJ.is ?_);(first|refine CallJ.pure (ky) ?_|((apply CallJ.frozI [6] []);(focus (simp -dsimp (disch:=first|exact D|fail) only [go_sem,↓reduceIte,seval,Option.getD_none,RT,St.rest,St.freeze];rfl));(focus (first|exact (ky)))))))<;>simp -dsimp (disch:=first|exact D|fail) only [go_sem,↓reduceIte,seval,Option.getD_none,RT,St.rest,St.freeze])|((with_reducible refine hK _ ?_);clear hK K)|refine Q1 ?_|((with_reducible refine qW (T:=TT) (b:=?_) ?_ ?_);rotate_left;exact rfl)|((with_reducible refine yS ?_ ?_)<;>(intro h;try simp only [NM] at h)))
 refine ZR (Z1 Tryz.results53) ?_
 rfl
set_option maxHeartbeats 64000000 in
theorem compTable_7 {s u:Sch} {st:Stp} {i k:Nat} {t v:Tbl} (q:CTab s u st i k t v) (h1:st.kind=7) (hl:t.cols.length≤v.cols.length):Sat Tryz.prog 53 [.agg (eSch s),.agg (eSch u),.agg (eStp st)] (.v (.agg (eTbl (compT s u st)))):=by
 have hi:=q.hi
 have hk:=q.hk
 have okS:=okSch_of q.zs
 have okU:=okSch_of q.zu
 have ft:=findTable_sat s st.table (by have:=okS.n6;omega)
 have fu:=findTable_sat u st.table (by have:=okU.n6;omega)
 obtain ⟨b1,hb1⟩:∃b,decide (0≤tblAt s.tables st.table)=b:=⟨_,rfl⟩
 obtain ⟨b2,hb2⟩:∃b,decide (0≤tblAt u.tables st.table)=b:=⟨_,rfl⟩
 rw [q.ei,hb1] at ft
 rw [q.ek,hb2] at fu
 have okt:OkTbl t:=q.ht▸okS.tbl _ (List.getElem_mem q.hi)
 have okv:OkTbl v:=q.hv▸okU.tbl _ (List.getElem_mem q.hk)
 have pk:PkOk t:=pkOk_of q.zs t (q.ht▸List.getElem_mem q.hi)
 have t6:=okt.cols6
 have v6:=okv.cols6
 have v0:=okv.cols0
 have p6:=okt.pk6
 have gt:(s.tables.map eTbl).getD i []=[.str t.name,.sl 3 (t.cols.map eCol),.sl 1 (t.pk.map eInt1)]:=by rw [getD_map_lt _ _ _ q.hi,q.ht];rfl
 have gv:(u.tables.map eTbl).getD k []=[.str v.name,.sl 3 (v.cols.map eCol),.sl 1 (v.pk.map eInt1)]:=by rw [getD_map_lt _ _ _ q.hk,q.hv];rfl
 obtain ⟨c,hc,ec⟩:=colAt_nat t.cols st.column (by have:=okt.cols0;omega)
 have fc:=findColumn_sat t st.column (by omega)
 rw [ec] at fc
 obtain ⟨b,hb⟩:∃b,decide (0≤colAt t.cols st.column)=b:=⟨_,rfl⟩
 rw [hb] at fc
 obtain ⟨last,hla⟩:∃last,v.cols[v.cols.length - 1]'(by omega)=last:=⟨_,rfl⟩
 have gl:(v.cols.map eCol).getD (v.cols.length - 1) []=[.str last.name,.int .i64 last.kind,.bool last.nullable]:=by rw [getD_map_lt _ _ _ (by omega),hla];rfl
 have w1:((v.cols.length:Int) - 1).toNat=v.cols.length - 1:=by omega
 obtain ⟨Nn,hN⟩:∃Nn,numC (v.cols.drop t.cols.length)=Nn:=⟨_,rfl⟩
 have sp:compT s u st=keyedT t Nn:=by
  unfold compT
  rw [if_neg (by omega)]
  simp only [q.tA,q.uA]
  rw [if_neg (by omega),if_neg (by omega),if_neg (by omega),if_neg (by omega),if_neg (by omega),if_neg (by omega),if_pos h1,hN]
 rw [sp]
 have ln:Nn.length≤6:=by
  rw [←hN]
  unfold numC
  rw [numK_len,List.length_drop]
  omega
 have ky:=keyed_sat t Nn (by omega) (by omega) (by omega) pk
 have nm:=numbered_sat (v.cols.drop t.cols.length) (by rw [List.length_drop];omega)
 rw [hN] at nm
 simp only [eTblX,eCols] at ky
 simp only [eCols,List.map_drop] at nm
 refine ZE Tryz.func53 Tryz.ntmps53 fun w0 m0 F0=>?_
 refine ZVp (Z7 @eStp.eq_1 @eTblX @h1 @gt @gv @gl @w1) (Z3 (ft) (fu) (fc)) (Z1 (Zs 23)) Z0 ?_;repeat' (first|apply Zb|apply Zn|(apply Zm;intro h)|(apply Zk;intro K hK))
 refine dX tyOk mixed [(0,6)] [(6,[],[(0,1)]),(7,[],[]),(8,[],[])] [6,7,8] 8 fun K hK=>?_
 simp only [SG,segs] at hK ⊢
 refine ZU Z0 ?_
 repeat' (first|((first|with_reducible refine qV tyOk fun K hK=>?_|refine Q2 ?_|((with_reducible first|refine qS ?_ ?_|refine qT ?_ ?_|refine qU ?_ ?_)<;>(intro h;try simp only [NM] at h))|((with_reducible refine CallJ.is ?_);(first|refine CallJ.pure (nm) ?_|refine CallJ.pure (ky) ?_|((apply CallJ.frozI [6] []);(focus (simp -dsimp (disch:=first|exact D|fail) only [go_sem,↓reduceIte,seval,Option.getD_none,RT,St.rest,St.freeze];rfl));(focus (first|exact (nm)|exact (ky))))))|(with_reducible first|refine VCy.some fun K hK=>?_|refine VCy.step fun K hK=>?_))<;>simp -dsimp (disch:=first|exact D|fail) only [go_sem,↓reduceIte,seval,Option.getD_none,RT,St.rest,St.freeze])|((with_reducible refine hK _ ?_);clear hK K)|(with_reducible refine VCy.intro fun K0 hK0=>?_)|((with_reducible refine VCy.fin ?_);(refine hK0 _ ?_);clear hK0 K0)|(with_reducible first|refine VCy.quiet ?_|refine VCy.none ?_)|((with_reducible refine VCy.keep ?_ ?_);focus ((simp -dsimp (disch:=first|exact D|fail) only [go_sem,↓reduceIte,seval,Stable_cons,Stable_nil,sameA_some,sameA_none,Option.getD_none,RT,St.rest,St.freeze]);first|done|exact E|fail))|refine Q1 ?_|((with_reducible refine qW (T:=TT) (b:=?_) ?_ ?_);rotate_left;exact rfl)|((with_reducible refine yS ?_ ?_)<;>(intro h;try simp only [NM] at h)))
 exact ZQ (Z1 Tryz.results53)
theorem keepAt_snoc (l:List Int) (cs:List Col) (k:Nat) (h:k<cs.length):keepAt l (cs.take (k+1)) 0=keepAt l (cs.take k) 0++(if l.elem (k:Int) then [cs[k]] else []):=by
 rw [take_snoc cs k h,keepAt_append,List.length_take,Nat.min_eq_left (by omega),Nat.zero_add]
 congr 1
set_option maxHeartbeats 64000000 in
theorem compTable_6 {s u:Sch} {st:Stp} {i k:Nat} {t v:Tbl} (q:CTab s u st i k t v) (hf:st.Fits) (h1:st.kind=6):Sat Tryz.prog 53 [.agg (eSch s),.agg (eSch u),.agg (eStp st)] (.v (.agg (eTbl (compT s u st)))):=by
 have hi:=q.hi
 have hk:=q.hk
 have okS:=okSch_of q.zs
 have okU:=okSch_of q.zu
 have ft:=findTable_sat s st.table (by have:=okS.n6;omega)
 have fu:=findTable_sat u st.table (by have:=okU.n6;omega)
 obtain ⟨b1,hb1⟩:∃b,decide (0≤tblAt s.tables st.table)=b:=⟨_,rfl⟩
 obtain ⟨b2,hb2⟩:∃b,decide (0≤tblAt u.tables st.table)=b:=⟨_,rfl⟩
 rw [q.ei,hb1] at ft
 rw [q.ek,hb2] at fu
 have okt:OkTbl t:=q.ht▸okS.tbl _ (List.getElem_mem q.hi)
 have okv:OkTbl v:=q.hv▸okU.tbl _ (List.getElem_mem q.hk)
 have pk:PkOk t:=pkOk_of q.zs t (q.ht▸List.getElem_mem q.hi)
 have t6:=okt.cols6
 have v6:=okv.cols6
 have v0:=okv.cols0
 have p6:=okt.pk6
 have gt:(s.tables.map eTbl).getD i []=[.str t.name,.sl 3 (t.cols.map eCol),.sl 1 (t.pk.map eInt1)]:=by rw [getD_map_lt _ _ _ q.hi,q.ht];rfl
 have gv:(u.tables.map eTbl).getD k []=[.str v.name,.sl 3 (v.cols.map eCol),.sl 1 (v.pk.map eInt1)]:=by rw [getD_map_lt _ _ _ q.hk,q.hv];rfl
 obtain ⟨c,hc,ec⟩:=colAt_nat t.cols st.column (by have:=okt.cols0;omega)
 have fc:=findColumn_sat t st.column (by omega)
 rw [ec] at fc
 obtain ⟨b,hb⟩:∃b,decide (0≤colAt t.cols st.column)=b:=⟨_,rfl⟩
 rw [hb] at fc
 obtain ⟨last,hla⟩:∃last,v.cols[v.cols.length - 1]'(by omega)=last:=⟨_,rfl⟩
 have gl:(v.cols.map eCol).getD (v.cols.length - 1) []=[.str last.name,.int .i64 last.kind,.bool last.nullable]:=by rw [getD_map_lt _ _ _ (by omega),hla];rfl
 have w1:((v.cols.length:Int) - 1).toNat=v.cols.length - 1:=by omega
 obtain ⟨M,hM⟩:∃M,keepAt st.cols t.cols 0=M:=⟨_,rfl⟩
 have lM:M.length≤6:=by rw [←hM];have:=keepAt_len st.cols t.cols 0;omega
 obtain ⟨Nn,hN⟩:∃Nn,numC M=Nn:=⟨_,rfl⟩
 have sp:compT s u st=keyedT t Nn:=by
  unfold compT
  rw [if_neg (by omega)]
  simp only [q.tA,q.uA]
  rw [if_neg (by omega),if_neg (by omega),if_neg (by omega),if_neg (by omega),if_neg (by omega),if_neg (by omega),if_neg (by omega),hM,hN]
 rw [sp]
 have ln:Nn.length≤6:=by
  rw [←hN]
  unfold numC
  rw [numK_len]
  omega
 have ky:=keyed_sat t Nn (by omega) (by omega) (by omega) pk
 have nm:=numbered_sat M (by omega)
 rw [hN] at nm
 simp only [eTblX,eCols] at ky
 simp only [eCols] at nm
 have f1:=hf.cols
 refine ZE Tryz.func53 Tryz.ntmps53 fun w0 m0 F0=>?_
 refine ZWp (Z7 @eStp.eq_1 @eTblX @h1 @gt @gv @gl @w1) (Z3 (ft) (fu) (fc)) ?_;repeat' (first|apply Zb|apply Zn|(apply Zm;intro h)|(apply Zk;intro K hK))
 refine AWP.loop (ι:={j:Nat // j≤t.cols.length}) (fun j=>⟨166,[(5,.v (.one (.ptr 5 0))),(6,.v (.one (.ptr 6 0))),(9,.v (.one (.ptr 9 0))),(16,.v (.one (.ref 16 0 (keepAt st.cols (t.cols.take j.1) 0).length))),(146,.v (.one (.sl 3 (t.cols.map eCol)))),(147,.v (oI t.cols.length)),(148,.v (oI j.1))],[(5,eStp st),(6,[.str ByteArray.empty,.nil 3,.nil 1]),(9,eTbl t)],[(16,⟨3,(keepAt st.cols (t.cols.take j.1) 0).map eCol,[]⟩)]⟩) (fun j=>t.cols.length - j.1) ⟨0,Nat.zero_le _⟩ ?_ fun ⟨j,hj⟩=>?_
 ·refine St.le_mk ?_ ?_ ?_<;>simp only [LE,EN,Nat.reduceEqDiff,reduceIte,Nat.reduceSub,eStp,h1,eTblX,List.take_zero,keepAt,List.map_nil,List.length_nil,Int.natCast_zero]
 simp only at hj ⊢
 rcases Nat.lt_or_ge j t.cols.length with hc|hc
 ·obtain ⟨x,hx⟩:∃x,t.cols[j]=x:=⟨_,rfl⟩
  have gc:(t.cols.map eCol).getD j []=[.str x.name,.int .i64 x.kind,.bool x.nullable]:=by rw [getD_map_lt _ _ _ hc,hx];rfl
  have ci:=containsInt_sat st.cols (j:Int) (by omega)
  have sn:=keepAt_snoc st.cols t.cols j hc
  have lk:=keepAt_len st.cols (t.cols.take j) 0
  rw [List.length_take] at lk
  obtain ⟨N,hNn⟩:∃N,keepAt st.cols (t.cols.take j) 0=N:=⟨_,rfl⟩
  rw [hNn] at sn lk ⊢
  cases hb:st.cols.elem (j:Int) with
  | true =>
   rw [hb] at ci sn
   rw [if_pos rfl,hx] at sn
   refine ZWp (Z2 @eStp.eq_1 @gc) (Z1 (ci)) ?_;repeat' (first|apply Zb|apply Zn|(apply Zm;intro h)|(apply Zk;intro K hK))
   refine ⟨⟨j+1,by omega⟩,by simp only;omega,?_⟩
   simp only [sn]
   exact ZN (Z6 @eStp.eq_1 @h1 @eTblX @eCol.eq_1 @Int.natCast_add @Int.natCast_one)
  | false =>
   rw [hb] at ci sn
   rw [if_neg (by simp),List.append_nil] at sn
   refine ZWp (Z2 @eStp.eq_1 @gc) (Z1 (ci)) ?_;repeat' (first|apply Zb|apply Zn|(apply Zm;intro h)|(apply Zk;intro K hK))
   refine ⟨⟨j+1,by omega⟩,by simp only;omega,?_⟩
   simp only [sn]
   exact ZL (Z6 @eStp.eq_1 @h1 @eTblX @eCol.eq_1 @Int.natCast_add @Int.natCast_one)
 ·have hj2:j=t.cols.length:=by omega
  subst hj2
  rw [List.take_length,hM]
  refine ZVp Z0 Z0 (Z1 (Zs 31)) Z0 ?_;repeat' (first|apply Zb|apply Zn|(apply Zm;intro h)|(apply Zk;intro K hK))
  refine dX tyOk mixed [(0,2)] [(2,[],[(0,1)]),(3,[],[]),(4,[],[])] [2,3,4] 8 fun K hK=>?_
  simp only [SG,segs] at hK ⊢
  refine ZU (Z1 @eTblX) ?_
  repeat' (first|((first|with_reducible refine qV tyOk fun K hK=>?_|refine Q2 ?_|((with_reducible first|refine qS ?_ ?_|refine qT ?_ ?_|refine qU ?_ ?_)<;>(intro h;try simp only [NM] at h))|((with_reducible refine CallJ.is ?_);(first|refine CallJ.pure (nm) ?_|refine CallJ.pure (ky) ?_|((apply CallJ.frozI [6] []);(focus (simp -dsimp (disch:=first|exact D|fail) only [go_sem,↓reduceIte,seval,eTblX,Option.getD_none,RT,St.rest,St.freeze];rfl));(focus (first|exact (nm)|exact (ky))))))|(with_reducible first|refine VCy.some fun K hK=>?_|refine VCy.step fun K hK=>?_))<;>simp -dsimp (disch:=first|exact D|fail) only [go_sem,↓reduceIte,seval,eTblX,Option.getD_none,RT,St.rest,St.freeze])|((with_reducible refine hK _ ?_);clear hK K)|(with_reducible refine VCy.intro fun K0 hK0=>?_)|((with_reducible refine VCy.fin ?_);(refine hK0 _ ?_);clear hK0 K0)|(with_reducible first|refine VCy.quiet ?_|refine VCy.none ?_)|((with_reducible refine VCy.keep ?_ ?_);focus ((simp -dsimp (disch:=first|exact D|fail) only [go_sem,↓reduceIte,seval,Stable_cons,Stable_nil,sameA_some,sameA_none,eTblX,Option.getD_none,RT,St.rest,St.freeze]);first|done|exact E|fail))|refine Q1 ?_|((with_reducible refine qW (T:=TT) (b:=?_) ?_ ?_);rotate_left;exact rfl)|((with_reducible refine yS ?_ ?_)<;>(intro h;try simp only [NM] at h)))
  exact ZQ (Z1 Tryz.results53)
theorem colAt_at {t:Tbl} (o:OkTbl t) {k:Nat} (hk:k<t.cols.length):colAt t.cols t.cols[k].name=(k:Int):=by
 rcases idx_cases (fun c=>sEq c.name t.cols[k].name) t.cols 0 with ⟨_,e2⟩|⟨j,hj,e1,e2,e3⟩
 ·have:=e2 _ (List.getElem_mem hk)
  rw [sEq_refl] at this
  cases this
 ·have e:colAt t.cols t.cols[k].name=(j:Int):=by unfold colAt;simpa using e1
  have h1:=(o.col k hk).2.1
  rw [e,mx0_nat] at h1
  rcases Nat.lt_or_ge k j with h|h
  ·have:=e3 k h
   rw [sEq_refl] at this
   cases this
  ·rw [e]
   omega
theorem col_ne {t:Tbl} (o:OkTbl t) {j k:Nat} (hj:j<t.cols.length) (hk:k<t.cols.length) (h:j≠k):t.cols[j].name≠t.cols[k].name:=fun e=>by
 have h1:=colAt_at o hj
 rw [e,colAt_at o hk] at h1
 omega
theorem tAt_lt {s:Sch} {i:Nat} (hi:i<s.tables.length):tAt s i=s.tables[i]:=by
 unfold tAt
 exact getD_lt _ hi
theorem tAt_set {s:Sch} {i:Nat} (hi:i<s.tables.length) (t:Tbl):tAt (setT s i t) i=t:=by
 unfold tAt setT
 rw [getD_lt _ (by simpa using hi)]
 simp
theorem cut_mem {α:Type} {l:List α} {i:Nat} {x:α} (h:x∈l.take i++l.drop (i+1)):∃j,∃hj:j<l.length,j≠i∧l[j]=x:=by
 rcases List.mem_append.1 h with h|h
 ·obtain ⟨j,hj,rfl⟩:=List.mem_take_iff_getElem.1 h
  exact ⟨j,by omega,by omega,rfl⟩
 ·obtain ⟨j,hj,rfl⟩:=List.mem_drop_iff_getElem.1 h
  exact ⟨i+1+j,by omega,by omega,rfl⟩
theorem cut_split {α:Type} {l:List α} {i:Nat} (h:i<l.length):l=l.take i++l[i]::l.drop (i+1):=by
 rw [List.getElem_cons_drop,List.take_append_drop]
structure PermT (T T2:Tbl) (π:Int→Int):Prop where
 name:T2.name=T.name
 len:T2.cols.length=T.cols.length
 rng:∀c,0≤c→c<(T.cols.length:Int)→0≤π c∧π c<(T.cols.length:Int)
 inj:∀c d,0≤c→c<(T.cols.length:Int)→0≤d→d<(T.cols.length:Int)→π c=π d→c=d
 sur:∀k,0≤k→k<(T.cols.length:Int)→∃c,0≤c∧c<(T.cols.length:Int)∧π c=k
 col:∀c,0≤c→c<(T.cols.length:Int)→T2.cols.getD (π c).toNat zCol=T.cols.getD c.toNat zCol
 pk:T2.pk=T.pk.map π
 mono:∀k,∀h:k<T.pk.length,∀h0:0<k,π (T.pk[k - 1]'(by omega))<π T.pk[k]
theorem getD_int {l:List Col} {c:Int} (h0:0≤c) (h:c<(l.length:Int)):l.getD c.toNat zCol=l[c.toNat]'(by omega):=getD_lt _ (by omega)
theorem PermT.ok {T T2:Tbl} {π:Int→Int} (p:PermT T T2 π) (o:OkTbl T):OkTbl T2:=by
 have ln:=p.len
 have back:∀k,∀h:k<T2.cols.length,∃c:Nat,∃hc:c<T.cols.length,π c=(k:Int)∧T2.cols[k]=T.cols[c]:=fun k h=>by
  obtain ⟨c,c0,c1,e⟩:=p.sur k (by omega) (by omega)
  refine ⟨c.toNat,by omega,by rw [Int.toNat_of_nonneg c0];exact e,?_⟩
  have:=p.col c c0 c1
  rw [e,getD_int c0 c1,getD_int (by omega) (by omega)] at this
  simpa using this
 refine ⟨by rw [p.name];exact o.name,by rw [p.len];exact o.cols0,by rw [p.len];exact o.cols6,fun k h=>?_,fun k h=>?_,by rw [p.pk,List.length_map];exact o.pk0⟩
 ·obtain ⟨c,hc,e,ec⟩:=back k h
  obtain ⟨h1,_,h3,h4⟩:=o.col c hc
  rw [ec]
  refine ⟨h1,?_,h3,h4⟩
  rcases idx_cases (fun x=>sEq x.name T.cols[c].name) T2.cols 0 with ⟨_,e2⟩|⟨j,hj,e1,e2,e3⟩
  ·have:=e2 _ (List.getElem_mem h)
   rw [ec,sEq_refl] at this
   cases this
  ·have e1:colAt T2.cols T.cols[c].name=(j:Int):=by unfold colAt;simpa using e1
   rw [e1,mx0_nat]
   obtain ⟨d,hd,ed,ecd⟩:=back j hj
   have e4:=sEq_iff.1 e2
   rw [ecd] at e4
   have:d=c:=Decidable.byContradiction fun hne=>col_ne o hd hc hne e4
   subst this
   omega
 ·have hk:k<T.pk.length:=by rw [p.pk,List.length_map] at h;exact h
  have e:T2.pk[k]=π T.pk[k]:=by simp [p.pk]
  obtain ⟨h1,h2,h3,_⟩:=o.key k hk
  obtain ⟨r1,r2⟩:=p.rng _ h1 h2
  rw [e]
  refine ⟨r1,by omega,by rw [p.col _ h1 h2];exact h3,fun h0=>?_⟩
  have e':T2.pk[k - 1]=π (T.pk[k - 1]'(by omega)):=by simp [p.pk]
  rw [e']
  exact p.mono k hk h0
theorem name_at {s:Sch} {n:ByteArray} {i:Nat} (hi:i<s.tables.length) (h:tblAt s.tables n=(i:Int)):s.tables[i].name=n:=by
 obtain ⟨j,hj,e,hn⟩:=tblAt_some (ts:=s.tables) (n:=n) (by omega)
 have:j=i:=by omega
 subst this
 exact hn
def kp (R:List Int) (c:Int):Bool:=!R.elem c
theorem kp_iff {R:List Int} {c:Int}:kp R c=true↔c ∉ R:=by
 unfold kp
 rw [Bool.not_eq_true',←Bool.not_eq_true,List.elem_iff]
theorem mem_seqI {m:Nat} {c:Int}:c∈seqI m↔0≤c∧c<(m:Int):=by
 unfold seqI
 rw [List.mem_map]
 constructor
 ·rintro ⟨n,hn,rfl⟩
  have:=List.mem_range.1 hn
  omega
 ·rintro ⟨h0,h1⟩
  exact ⟨c.toNat,List.mem_range.2 (by omega),by omega⟩
theorem seqI_nodup (m:Nat):(seqI m).Nodup:=by
 unfold seqI
 refine List.pairwise_map.2 (List.nodup_range.imp fun {a b} h e=>h ?_)
 exact Int.ofNat.inj e
theorem seqI_split {c m:Nat} (h:c<m):∃r,seqI m=seqI c++(c:Int)::r:=by
 obtain ⟨d,rfl⟩:∃d,m=c+1+d:=⟨m - c - 1,by omega⟩
 induction d with
 | zero=>exact ⟨[],by rw [Nat.add_zero,seqI_succ]⟩
 | succ d ih =>
  obtain ⟨r,hr⟩:=ih (by omega)
  exact ⟨r++[((c+1+d:Nat):Int)],by rw [←Nat.add_assoc,seqI_succ,hr];simp⟩
theorem filter_len {α:Type} (f:α→Bool):∀l:List α,l.length=(l.filter f).length+(l.filter fun x=>!f x).length
 | []=>rfl
 | x::r=>by
  have:=filter_len f r
  rw [List.filter_cons,List.filter_cons]
  cases f x<;>simp<;>omega
theorem seqI_len2 (m:Nat):(seqI m).length=m:=by simp [seqI]
theorem perm_len {α:Type} [DecidableEq α] {a b:List α} (ha:a.Nodup) (hb:b.Nodup) (h:∀x,x∈a↔x∈b):a.length=b.length:=((List.perm_ext_iff_of_nodup ha hb).2 h).length_eq
theorem nodup_lt {R:List Int} (h:R.Pairwise (·<·)):R.Nodup:=h.imp fun h=>by omega
theorem shiftI_eq {R:List Int} (hR:R.Pairwise (·<·)) (h0:∀r∈R,0≤r) (c:Nat):shiftI R c=(((seqI c).filter (kp R)).length:Int):=by
 have h1:=filter_len (kp R) (seqI c)
 rw [seqI_len2] at h1
 have h2:((seqI c).filter (fun x=>!kp R x)).length=(R.filter fun r=>decide (r<(c:Int))).length:=by
  refine perm_len ((seqI_nodup c).filter _) ((nodup_lt hR).filter _) fun x=>?_
  rw [List.mem_filter,List.mem_filter,mem_seqI]
  have:(!kp R x)=true↔x∈R:=by
   unfold kp
   rw [Bool.not_not,List.elem_iff]
  rw [this,decide_eq_true_eq]
  constructor
  ·rintro ⟨⟨_,h⟩,hx⟩;exact ⟨hx,h⟩
  ·rintro ⟨hx,h⟩;exact ⟨⟨h0 x hx,h⟩,hx⟩
 unfold shiftI
 omega
def allC (R:List Int) (m:Nat):List Int:=(seqI m).filter (kp R)++R
structure Moved (R:List Int) (m:Nat):Prop where
 lt:R.Pairwise (·<·)
 rng:∀r∈R,0≤r∧r<(m:Int)
theorem Moved.len {R:List Int} {m:Nat} (h:Moved R m):((seqI m).filter (kp R)).length+R.length=m:=by
 have h1:=filter_len (kp R) (seqI m)
 rw [seqI_len2] at h1
 have h2:((seqI m).filter (fun x=>!kp R x)).length=R.length:=by
  refine perm_len ((seqI_nodup m).filter _) (nodup_lt h.lt) fun x=>?_
  rw [List.mem_filter,mem_seqI]
  have:(!kp R x)=true↔x∈R:=by
   unfold kp
   rw [Bool.not_not,List.elem_iff]
  rw [this]
  exact ⟨fun q=>q.2,fun q=>⟨h.rng x q,q⟩⟩
 omega
theorem Moved.mem {R:List Int} {m:Nat} (h:Moved R m) {c:Int} (hc:c∈allC R m):0≤c∧c<(m:Int):=by
 rcases List.mem_append.1 hc with hc|hc
 ·exact mem_seqI.1 (List.mem_filter.1 hc).1
 ·exact h.rng c hc
def posC (R:List Int) (K:Nat) (c:Int):Int:=if R.elem c then (K:Int)+idx (fun x=>x==c) R 0 else shiftI R c
theorem idx_mem {R:List Int} {c:Int} (h:c∈R):∃j,∃hj:j<R.length,idx (fun x=>x==c) R 0=(j:Int)∧R[j]=c:=by
 rcases idx_cases (fun x=>x==c) R 0 with ⟨_,e2⟩|⟨j,hj,e1,e2,_⟩
 ·have:=e2 c h
  simp at this
 ·exact ⟨j,hj,by simpa using e1,by simpa using e2⟩
theorem Moved.pos {R:List Int} {m K:Nat} (h:Moved R m) (hK:K=((seqI m).filter (kp R)).length) {c:Int} (c0:0≤c) (c1:c<(m:Int)):0≤posC R K c∧posC R K c<(m:Int)∧(allC R m)[(posC R K c).toNat]?=some c:=by
 have hl:=h.len
 unfold posC allC
 by_cases e:R.elem c=true
 ·rw [if_pos e]
  obtain ⟨j,hj,ej,ec⟩:=idx_mem (List.elem_iff.1 e)
  rw [ej]
  refine ⟨by omega,by omega,?_⟩
  rw [List.getElem?_append_right (by omega),show ((K:Int)+(j:Int)).toNat - ((seqI m).filter (kp R)).length=j by omega,List.getElem?_eq_getElem hj,ec]
 ·rw [if_neg e]
  obtain ⟨n,rfl⟩:∃n:Nat,c=(n:Int):=⟨c.toNat,by omega⟩
  have hn:n<m:=by omega
  have hkp:kp R (n:Int)=true:=kp_iff.2 fun q=>e (List.elem_iff.2 q)
  obtain ⟨r,hr⟩:=seqI_split hn
  rw [shiftI_eq h.lt (fun r hr=>(h.rng r hr).1)]
  have hf:(seqI m).filter (kp R)=(seqI n).filter (kp R)++(n:Int)::r.filter (kp R):=by
   rw [hr,List.filter_append,List.filter_cons,if_pos hkp]
  have hlen:((seqI m).filter (kp R)).length=((seqI n).filter (kp R)).length+1+(r.filter (kp R)).length:=by rw [hf];simp;omega
  refine ⟨by omega,by omega,?_⟩
  rw [Int.toNat_natCast,List.getElem?_append_left (by omega),hf,List.getElem?_append_right (Nat.le_refl _)]
  simp
theorem Moved.mono {R:List Int} {m K:Nat} (h:Moved R m) {c d:Int} (c0:0≤c) (hcd:c<d) (hc:c ∉ R) (hd:d ∉ R):posC R K c<posC R K d:=by
 unfold posC
 rw [if_neg (fun q=>hc (List.elem_iff.1 q)),if_neg (fun q=>hd (List.elem_iff.1 q))]
 obtain ⟨n,rfl⟩:∃n:Nat,c=(n:Int):=⟨c.toNat,by omega⟩
 obtain ⟨k,rfl⟩:∃n:Nat,d=(n:Int):=⟨d.toNat,by omega⟩
 rw [shiftI_eq h.lt (fun r hr=>(h.rng r hr).1),shiftI_eq h.lt (fun r hr=>(h.rng r hr).1)]
 obtain ⟨r,hr⟩:=seqI_split (c:=n) (m:=k) (by omega)
 rw [hr,List.filter_append,List.filter_cons,if_pos (kp_iff.2 hc),List.length_append,List.length_cons]
 omega
theorem overlapI_zero {a b:List Int} (h:overlapI a b=0):∀c∈a,c ∉ b:=by
 unfold overlapI at h
 simp only at h
 split at h
 ·rename_i h0
  intro c hc hb
  have:c∈a.filter fun c=>b.elem c:=List.mem_filter.2 ⟨hc,List.elem_iff.2 hb⟩
  rw [List.eq_nil_of_length_eq_zero h0] at this
  cases this
 ·split at h<;>cases h
theorem splitE_zero {s:Sch} {T:Tbl} {st:Stp} (h:splitE s T st=0):Moved st.cols T.cols.length∧(∀c∈T.pk,c ∉ st.cols)∧∀t∈s.tables,t.name≠st.other:=by
 unfold splitE at h
 split at h
 ·rename_i e he
  exact absurd h (scan_ne (fun k x e he=>by
   split at he
   ·injection he with he;omega
   ·cases he) he)
 ·rename_i hs
  split at h
  ·cases h
  split at h
  ·cases h
  rename_i h2
  split at h
  ·cases h
  rename_i h3
  have hs:=scan_eq_none.1 hs
  have hc:∀j,∀hj:j<st.cols.length,0≤st.cols[j]∧st.cols[j]<(T.cols.length:Int)∧(∀_:0<j,st.cols[j - 1]<st.cols[j]):=fun j hj=>by
   have:=hs j hj
   split at this
   ·cases this
   ·rename_i q
    refine ⟨by omega,by omega,fun j0=>?_⟩
    have q2:¬ (0<(j:Int)∧st.cols[j]≤st.cols.getD ((j:Int) - 1).toNat 0):=fun z=>q (.inr (.inr z))
    rw [show ((j:Int) - 1).toNat=j - 1 by omega,getD_lt _ (by omega)] at q2
    omega
  refine ⟨⟨pairwise_of_adj (R:=(·<·)) (fun _ _ _ a b=>by omega) fun j hj=>(hc (j+1) hj).2.2 (by omega),fun r hr=>?_⟩,fun c hcp hr=>?_,tblAt_none.1 h3⟩
  ·obtain ⟨j,hj,rfl⟩:=List.mem_iff_getElem.1 hr
   exact ⟨(hc j hj).1,(hc j hj).2.1⟩
  ·exact overlapI_zero (Decidable.byContradiction h2) c hr hcp
def vw (ts:List Tbl) (n:ByteArray):Option Tbl:=ts.find? fun t=>sEq t.name n
theorem name_inj {ts:List Tbl} (hs:ts.Pairwise LtT) {a b:Tbl} (ha:a∈ts) (hb:b∈ts) (h:a.name=b.name):a=b:=by
 obtain ⟨i,hi,rfl⟩:=List.mem_iff_getElem.1 ha
 obtain ⟨j,hj,rfl⟩:=List.mem_iff_getElem.1 hb
 have h1:=tblAt_at hs hi
 rw [h,tblAt_at hs hj] at h1
 have:i=j:=by omega
 subst this
 rfl
theorem vw_some {ts:List Tbl} (hs:ts.Pairwise LtT) {n:ByteArray} {t:Tbl}:vw ts n=some t↔t∈ts∧t.name=n:=by
 unfold vw
 constructor
 ·intro h
  exact ⟨List.mem_of_find?_eq_some h,sEq_iff.1 (by have:=List.find?_some h;exact this)⟩
 ·rintro ⟨h1,h2⟩
  cases hf:ts.find? fun t=>sEq t.name n with
  | none =>
   have:=List.find?_eq_none.1 hf t h1
   rw [h2,sEq_refl] at this
   exact absurd rfl this
  | some u =>
   have h3:=List.mem_of_find?_eq_some hf
   have h4:sEq u.name n=true:=by have:=List.find?_some hf;exact this
   rw [name_inj hs h3 h1 (by rw [sEq_iff.1 h4,h2])]
theorem vw_none {ts:List Tbl} {n:ByteArray} (h:∀t∈ts,t.name≠n):vw ts n=none:=by
 unfold vw
 exact List.find?_eq_none.2 fun t ht=>by simp [sEq_ne (h t ht)]
theorem vw_append {a b:List Tbl} {n:ByteArray}:vw (a++b) n=(vw a n).or (vw b n):=by
 unfold vw
 rw [List.find?_append]
theorem vw_cons {t:Tbl} {b:List Tbl} {n:ByteArray}:vw (t::b) n=if t.name=n then some t else vw b n:=by
 unfold vw
 rw [List.find?_cons]
 by_cases h:t.name=n
 ·rw [sEq_iff.2 h,if_pos h]
 ·rw [sEq_ne h,if_neg h]
theorem vw_insert {A B:List Tbl} {t:Tbl} (hn:∀x∈A++B,x.name≠t.name) (n:ByteArray):vw (A++t::B) n=if t.name=n then some t else vw (A++B) n:=by
 rw [vw_append,vw_cons,vw_append]
 by_cases h:t.name=n
 ·rw [if_pos h,if_pos h,vw_none fun x hx=>h▸hn x (by simp [hx])]
  rfl
 ·rw [if_neg h,if_neg h]
theorem vw_set {ts:List Tbl} (hs:ts.Pairwise LtT) {i:Nat} (hi:i<ts.length) {t:Tbl} (h:t.name=ts[i].name) (n:ByteArray):vw (ts.set i t) n=if t.name=n then some t else vw ts n:=by
 have e1:=cut_split hi
 have e2:ts.set i t=ts.take i++t::ts.drop (i+1):=by
  rw [List.set_eq_take_append_cons_drop,if_pos hi]
 have hcut:∀x∈ts.take i++ts.drop (i+1),x.name≠ts[i].name:=fun x hx e=>by
  obtain ⟨j,hj,hji,rfl⟩:=cut_mem hx
  have:=tblAt_at hs hj
  rw [e,tblAt_at hs hi] at this
  omega
 rw [e2,vw_insert (fun x hx=>by rw [h];exact hcut x hx)]
 by_cases hn:t.name=n
 ·rw [if_pos hn,if_pos hn]
 ·rw [if_neg hn,if_neg hn]
  conv=>rhs;rw [e1]
  rw [vw_insert hcut,if_neg (by rw [←h];exact hn)]
abbrev View:=ByteArray→Option Tbl
def upd1 (L:View) (n:ByteArray) (x:Option Tbl):View:=fun m=>if m=n then x else L m
def addCol (T:Tbl) (st:Stp):Tbl:={T with cols:=T.cols++[⟨st.column,st.typ,st.value.kind==0⟩]}
def dropCols (T:Tbl) (R:List Int):Tbl:={T with cols:=dropAt R T.cols 0,pk:=T.pk.map (shiftI R)}
def altCol (T:Tbl) (st:Stp):Tbl :=
 let k:=colAt T.cols st.column
 let c:=T.cols.getD k.toNat zCol
 if st.kind=3 then setC T k.toNat {c with name:=st.newName} else if st.kind=5 then setC T k.toNat {c with kind:=st.typ} else dropCols T [k]
def concT (T:Tbl) (st:Stp):Tbl:=match st.cols with
 | [a,b]=>{dropCols T [a,b] with cols:=(dropCols T [a,b]).cols++[⟨st.column,3,(T.cols.getD a.toNat zCol).nullable&&(T.cols.getD b.toNat zCol).nullable⟩]}
 | _=>T
def splitO (T:Tbl) (st:Stp):Tbl:=⟨st.other,(T.pk++st.cols).map fun c=>T.cols.getD c.toNat zCol,seqI T.pk.length⟩
def stepV (st:Stp) (L:View):View :=
 if st.kind=13∨st.kind=14∨st.kind=15∨st.kind=16 then L
 else if st.kind=10 then upd1 L st.newTable.name (some st.newTable)
 else match L st.table with
  | none=>L
  | some T =>
   if st.kind=4 then upd1 (upd1 L st.table none) st.newName (some {T with name:=st.newName})
   else if st.kind=6 then upd1 (upd1 L st.table (some (dropCols T st.cols))) st.other (some (splitO T st))
   else if st.kind=7 then (match L st.other with
    | none=>L
    | some o=>upd1 (upd1 L st.table (some {T with cols:=T.cols++o.cols.drop T.pk.length})) st.other none)
   else if st.kind=8 then upd1 L st.other (some {T with name:=st.other})
   else if st.kind=9 then upd1 (upd1 L st.table (some ⟨T.name,T.cols++[⟨st.column,2,false⟩],T.pk++[(T.cols.length:Int)]⟩)) st.other none
   else if st.kind=11 then upd1 L st.table none
   else if st.kind=12 then upd1 L st.table (some (concT T st))
   else if st.kind=1 then upd1 L st.table (some (addCol T st))
   else upd1 L st.table (some (altCol T st))
theorem vw_at {ts:List Tbl} (hs:ts.Pairwise LtT) {n:ByteArray} {i:Nat} (hi:i<ts.length) (h:tblAt ts n=(i:Int)):vw ts n=some ts[i]:=by
 obtain ⟨j,hj,e,hn⟩:=tblAt_some (ts:=ts) (n:=n) (by omega)
 have:j=i:=by omega
 subst this
 exact (vw_some hs).2 ⟨List.getElem_mem hj,hn⟩
theorem vw_setT {s:Sch} (h:schE s=0) {n:ByteArray} {i:Nat} (hi:i<s.tables.length) (e:tblAt s.tables n=(i:Int)) {t:Tbl} (ht:t.name=n):vw (setT s i t).tables=upd1 (vw s.tables) n (some t):=by
 funext m
 unfold setT upd1
 rw [vw_set (sorted_of h) hi (by rw [ht,name_at hi e]),ht]
 by_cases q:m=n
 ·subst q;simp
 ·rw [if_neg (fun z=>q z.symm),if_neg q]
theorem vw_insertT {s:Sch} (h:s.tables.Pairwise LtT) {t:Tbl} (hn:∀x∈s.tables,x.name≠t.name):vw (insertT s t).tables=upd1 (vw s.tables) t.name (some t):=by
 obtain ⟨A,B,hAB,hp⟩:=place h t hn
 rw [insertT_eq hAB hp]
 funext m
 unfold upd1
 simp only
 rw [vw_insert (by rw [←hAB];exact hn),←hAB]
 by_cases q:m=t.name
 ·subst q;simp
 ·rw [if_neg (fun z=>q z.symm),if_neg q]
theorem vw_filter {ts:List Tbl} {n:ByteArray}:vw (ts.filter fun t=>!sEq t.name n)=upd1 (vw ts) n none:=by
 funext m
 unfold upd1
 induction ts with
 | nil=>simp [vw]
 | cons x r ih =>
  rw [List.filter_cons]
  by_cases hx:x.name=n
  ·rw [if_neg (by rw [sEq_iff.2 hx];decide),ih,vw_cons]
   by_cases q:m=n
   ·rw [if_pos q,if_pos q]
   ·rw [if_neg q,if_neg q,if_neg fun z=>q (z.symm.trans hx)]
  ·rw [if_pos (by rw [sEq_ne hx];rfl),vw_cons,ih,vw_cons]
   by_cases q:m=n
   ·rw [if_pos q,if_pos q]
    subst q
    rw [if_neg hx]
   ·rw [if_neg q,if_neg q]
theorem vw_remove {s:Sch} {n:ByteArray}:vw (removeT s n).tables=upd1 (vw s.tables) n none:=vw_filter
theorem remap_tables (s:Sch) (n:ByteArray) (g:Int→Int):(remapS s n g).tables=s.tables:=rfl
theorem removeC_tables {s:Sch} {i:Nat} {T:Tbl} (hT:tAt s i=T) (R:List Int):(removeC s i R).tables=(setT s i (dropCols T R)).tables:=by
 unfold removeC
 rw [hT]
 rfl
theorem step_view1 {s t:Sch} {st:Stp} (h:evoE s st=.ok t) (hk:st.kind=1∨st.kind=2∨st.kind=3∨st.kind=5∨st.kind=12):vw t.tables=stepV st (vw s.tables):=by
 obtain ⟨h1,_,h3,h4⟩:=evoE_parts h
 unfold evApply at h3
 rw [if_neg (by omega),if_neg (by omega),if_neg (by omega),if_neg (by omega),if_neg (by omega)] at h3
 simp only at h3
 split at h3
 ·cases h3
 rename_i hk0
 rw [if_neg (by omega),if_neg (by omega),if_neg (by omega),if_neg (by omega),if_neg (by omega),if_neg (by omega)] at h3
 obtain ⟨i,hi,ei,ni⟩:=tblAt_some hk0
 rw [ei,Int.toNat_natCast] at h3
 have hv:=vw_at (sorted_of h1) hi ei
 obtain ⟨T,hT⟩:∃T,s.tables[i]=T:=⟨_,rfl⟩
 rw [hT] at hv ni
 have ta:tAt s i=T:=by rw [tAt_lt hi,hT]
 unfold stepV
 rw [if_neg (by omega),if_neg (by omega),hv]
 simp only
 rw [if_neg (by omega),if_neg (by omega),if_neg (by omega),if_neg (by omega),if_neg (by omega),if_neg (by omega)]
 by_cases k12:st.kind=12
 ·rw [if_pos k12] at h3 ⊢
  unfold concatC at h3
  split at h3
  ·rename_i a b hab
   simp only at h3
   rw [ta] at h3
   split at h3
   ·cases h3
   split at h3
   ·cases h3
   split at h3
   ·cases h3
   split at h3
   ·cases h3
   injection h3 with h3
   subst h3
   have e1:tAt (removeC s i [a,b]) i=dropCols T [a,b]:=by
    unfold tAt
    rw [removeC_tables ta]
    exact tAt_set hi _
   rw [e1]
   have e2:(setT (removeC s i [a,b]) i {dropCols T [a,b] with cols:=(dropCols T [a,b]).cols++[⟨st.column,3,(T.cols.getD a.toNat zCol).nullable&&(T.cols.getD b.toNat zCol).nullable⟩]}).tables=(setT s i (concT T st)).tables:=by
    unfold setT concT
    rw [hab]
    simp only
    rw [removeC_tables ta]
    unfold setT
    simp
   rw [e2]
   exact vw_setT h1 hi ei (by unfold concT;rw [hab];exact ni)
  ·cases h3
 rw [if_neg k12] at h3 ⊢
 by_cases k1:st.kind=1
 ·rw [if_pos k1] at h3 ⊢
  unfold addC at h3
  simp only at h3
  split at h3
  ·cases h3
  injection h3 with h3
  subst h3
  rw [ta]
  exact vw_setT h1 hi ei ni
 rw [if_neg k1] at h3 ⊢
 unfold alterC at h3
 simp only at h3
 rw [ta] at h3
 split at h3
 ·cases h3
 by_cases k3:st.kind=3
 ·rw [if_pos k3] at h3
  split at h3
  ·cases h3
  injection h3 with h3
  subst h3
  have:altCol T st=setC T (colAt T.cols st.column).toNat {T.cols.getD (colAt T.cols st.column).toNat zCol with name:=st.newName}:=by unfold altCol;simp only;rw [if_pos k3]
  rw [this]
  exact vw_setT h1 hi ei ni
 rw [if_neg k3] at h3
 split at h3
 ·cases h3
 by_cases k5:st.kind=5
 ·rw [if_pos k5] at h3
  injection h3 with h3
  subst h3
  have:altCol T st=setC T (colAt T.cols st.column).toNat {T.cols.getD (colAt T.cols st.column).toNat zCol with kind:=st.typ}:=by unfold altCol;simp only;rw [if_neg k3,if_pos k5]
  rw [this]
  exact vw_setT h1 hi ei ni
 rw [if_neg k5] at h3
 split at h3
 ·cases h3
 injection h3 with h3
 subst h3
 have:altCol T st=dropCols T [colAt T.cols st.column]:=by unfold altCol;simp only;rw [if_neg k3,if_neg k5]
 rw [this,removeC_tables ta]
 exact vw_setT h1 hi ei ni
theorem vw_cut {ts:List Tbl} (hs:ts.Pairwise LtT) {i:Nat} (hi:i<ts.length) {n:ByteArray} (hn:ts[i].name=n):vw (ts.take i++ts.drop (i+1))=upd1 (vw ts) n none:=by
 have hcut:∀x∈ts.take i++ts.drop (i+1),x.name≠ts[i].name:=fun x hx e=>by
  obtain ⟨j,hj,hji,rfl⟩:=cut_mem hx
  have:=tblAt_at hs hj
  rw [e,tblAt_at hs hi] at this
  omega
 funext m
 unfold upd1
 by_cases q:m=n
 ·rw [if_pos q]
  subst q
  exact vw_none fun x hx=>hn▸hcut x hx
 ·rw [if_neg q]
  conv=>rhs;rw [cut_split hi]
  rw [vw_insert hcut,if_neg fun z=>q (z.symm.trans hn)]
theorem sorted_cut {ts:List Tbl} (hs:ts.Pairwise LtT) {i:Nat} (hi:i<ts.length):(ts.take i++ts.drop (i+1)).Pairwise LtT:=by
 have e:=cut_split hi
 rw [e] at hs
 have hp:=List.pairwise_append.1 hs
 exact List.pairwise_append.2 ⟨hp.1,(List.pairwise_cons.1 hp.2.1).2,fun a ha b hb=>hp.2.2 a ha b (List.mem_cons_of_mem _ hb)⟩
theorem sorted_set {ts:List Tbl} (hs:ts.Pairwise LtT) {i:Nat} (hi:i<ts.length) {t:Tbl} (h:t.name=ts[i].name):(ts.set i t).Pairwise LtT:=by
 have q1:(ts.map Tbl.name).Pairwise fun a b=>cmpS a b<0:=List.pairwise_map.2 hs
 rw [←set_names hi h] at q1
 exact (List.pairwise_map (f:=Tbl.name) (R:=fun a b=>cmpS a b<0)).1 q1
theorem dropFK_tables {s s1:Sch} {f:FK} (h:dropFK s f=.ok s1):s1.tables=s.tables:=by
 unfold dropFK at h
 simp only at h
 split at h
 ·cases h
 ·injection h with h;rw [←h]
theorem dropCon_tables {s s1:Sch} {c:Con} (h:dropCon s c=.ok s1):s1.tables=s.tables:=by
 unfold dropCon at h
 simp only at h
 split at h
 ·cases h
 ·injection h with h;rw [←h]
theorem step_view0 {s t:Sch} {st:Stp} (h:evoE s st=.ok t) (hk:st.kind=13∨st.kind=14∨st.kind=15∨st.kind=16∨st.kind=10):vw t.tables=stepV st (vw s.tables):=by
 obtain ⟨h1,_,h3,h4⟩:=evoE_parts h
 unfold evApply at h3
 unfold stepV
 by_cases k1:st.kind=13
 ·rw [if_pos k1] at h3
  rw [if_pos (by omega)]
  injection h3 with h3
  rw [←h3]
 rw [if_neg k1] at h3
 by_cases k2:st.kind=14
 ·rw [if_pos k2] at h3
  rw [if_pos (by omega),dropCon_tables h3]
 rw [if_neg k2] at h3
 by_cases k3:st.kind=15
 ·rw [if_pos k3] at h3
  rw [if_pos (by omega)]
  injection h3 with h3
  rw [←h3]
 rw [if_neg k3] at h3
 by_cases k4:st.kind=16
 ·rw [if_pos k4] at h3
  rw [if_pos (by omega),dropFK_tables h3]
 rw [if_neg k4,if_pos (by omega)] at h3
 rw [if_neg (by omega),if_pos (by omega)]
 unfold createT at h3
 split at h3
 ·cases h3
 rename_i hn
 injection h3 with h3
 rw [←h3]
 exact vw_insertT (sorted_of h1) (tblAt_none.1 hn)
theorem step_view2 {s t:Sch} {st:Stp} (h:evoE s st=.ok t) (hk:st.kind=4∨st.kind=6∨st.kind=7∨st.kind=8∨st.kind=9∨st.kind=11):vw t.tables=stepV st (vw s.tables):=by
 obtain ⟨h1,_,h3,h4⟩:=evoE_parts h
 have so:=sorted_of h1
 unfold evApply at h3
 rw [if_neg (by omega),if_neg (by omega),if_neg (by omega),if_neg (by omega),if_neg (by omega)] at h3
 simp only at h3
 split at h3
 ·cases h3
 rename_i hk0
 obtain ⟨i,hi,ei,ni⟩:=tblAt_some hk0
 rw [ei,Int.toNat_natCast] at h3
 have hv:=vw_at so hi ei
 obtain ⟨T,hT⟩:∃T,s.tables[i]=T:=⟨_,rfl⟩
 rw [hT] at hv ni
 have ta:tAt s i=T:=by rw [tAt_lt hi,hT]
 unfold stepV
 rw [if_neg (by omega),if_neg (by omega),hv]
 simp only
 by_cases k4:st.kind=4
 ·rw [if_pos k4] at h3 ⊢
  unfold renameT at h3
  split at h3
  ·cases h3
  rename_i hn
  simp only at h3
  injection h3 with h3
  rw [←h3,ta]
  simp only
  have hnm:=tblAt_none.1 hn
  rw [vw_insertT (s:={s with tables:=s.tables.take i++s.tables.drop (i+1)}) (sorted_cut so hi) (fun x hx=>by
   obtain ⟨j,hj,_,rfl⟩:=cut_mem hx
   exact hnm _ (List.getElem_mem hj))]
  simp only
  rw [vw_cut so hi (by rw [hT,ni])]
 rw [if_neg k4] at h3 ⊢
 by_cases k6:st.kind=6
 ·rw [if_pos k6] at h3 ⊢
  unfold splitT at h3
  simp only at h3
  rw [ta] at h3
  split at h3
  ·cases h3
  rename_i hE
  obtain ⟨_,_,hoth⟩:=splitE_zero (Decidable.byContradiction hE)
  split at h3
  ·cases h3
  split at h3
  ·cases h3
  injection h3 with h3
  rw [←h3]
  simp only
  have tb:(removeC ⟨s.tables,s.fks.map (splitFK T st),s.cons.map (splitCon T st)⟩ i st.cols).tables=(setT s i (dropCols T st.cols)).tables:=by
   exact (removeC_tables (s:=⟨s.tables,s.fks.map (splitFK T st),s.cons.map (splitCon T st)⟩) (T:=T) (show s.tables.getD i zTbl=T from (getD_lt _ hi).trans hT) st.cols).trans rfl
  have ts:(setT s i (dropCols T st.cols)).tables.Pairwise LtT:=sorted_set so hi (by rw [hT];rfl)
  have tn:∀x∈(setT s i (dropCols T st.cols)).tables,x.name≠st.other:=fun x hx e=>by
   have hx':x.name∈s.tables.map Tbl.name:=by
    have q:x.name∈(s.tables.set i (dropCols T st.cols)).map Tbl.name:=List.mem_map.2 ⟨x,hx,rfl⟩
    rw [set_names hi (by rw [hT];rfl)] at q
    exact q
   obtain ⟨y,hy,ey⟩:=List.mem_map.1 hx'
   exact hoth y hy (ey.trans e)
  rw [vw_insertT (by rw [tb];exact ts) (by rw [tb];exact tn),tb,vw_setT h1 hi ei (by exact ni)]
  rfl
 rw [if_neg k6] at h3 ⊢
 by_cases k7:st.kind=7
 ·rw [if_pos k7] at h3 ⊢
  unfold joinT at h3
  simp only at h3
  split at h3
  ·cases h3
  rename_i hk2
  obtain ⟨k,hkl,ek,nk⟩:=tblAt_some hk2
  rw [ek,Int.toNat_natCast] at h3
  have hv2:=vw_at so hkl ek
  rw [hv2]
  simp only
  obtain ⟨o,ho⟩:∃o,s.tables[k]=o:=⟨_,rfl⟩
  have tk:tAt s k=o:=by rw [tAt_lt hkl,ho]
  rw [ta,tk] at h3
  split at h3
  ·cases h3
  rename_i hne
  split at h3
  ·cases h3
  split at h3
  ·cases h3
  rename_i s1 hs1
  split at h3
  ·cases h3
  injection h3 with h3
  rw [←h3,ho]
  simp only
  have e1:(remapS s1 st.other (joinG T)).tables=s.tables:=(remap_tables _ _ _).trans (dropFK_tables hs1)
  rw [e1]
  have nT:({T with cols:=T.cols++o.cols.drop T.pk.length}:Tbl).name=s.tables[i].name:=by rw [hT]
  have hset:=sorted_set so hi nT
  have hik:i≠k:=fun e=>hne (.inl (by omega))
  have:=vw_cut hset (i:=k) (by simpa using hkl) (n:=st.other) (by rw [List.getElem_set_ne hik,nk])
  rw [this]
  have:=vw_setT h1 hi ei (t:={T with cols:=T.cols++o.cols.drop T.pk.length}) ni
  unfold setT at this
  rw [this]
 rw [if_neg k7] at h3 ⊢
 by_cases k8:st.kind=8
 ·rw [if_pos k8] at h3 ⊢
  unfold partT at h3
  simp only at h3
  rw [ta] at h3
  split at h3
  ·cases h3
  split at h3
  ·cases h3
  split at h3
  ·cases h3
  split at h3
  ·cases h3
  split at h3
  ·cases h3
  rename_i hn
  split at h3
  ·cases h3
  injection h3 with h3
  rw [←h3]
  exact vw_insertT (s:=⟨s.tables,_,_⟩) so (tblAt_none.1 hn)
 rw [if_neg k8] at h3 ⊢
 by_cases k9:st.kind=9
 ·rw [if_pos k9] at h3 ⊢
  unfold mergeT at h3
  simp only at h3
  split at h3
  ·cases h3
  rename_i hk2
  obtain ⟨k,hkl,ek,nk⟩:=tblAt_some hk2
  rw [ek,Int.toNat_natCast,ta,tAt_lt hkl,nk] at h3
  split at h3
  ·cases h3
  split at h3
  ·cases h3
  injection h3 with h3
  rw [←h3,vw_remove,vw_setT h1 hi ei (t:=⟨T.name,T.cols++[(⟨st.column,2,false⟩:Col)],T.pk++[(T.cols.length:Int)]⟩) ni]
 rw [if_neg k9] at h3 ⊢
 have k11:st.kind=11:=by omega
 rw [if_pos k11] at h3 ⊢
 unfold dropT at h3
 split at h3
 ·cases h3
 injection h3 with h3
 rw [←h3,vw_remove]
theorem step_view {s t:Sch} {st:Stp} (h:evoE s st=.ok t):vw t.tables=stepV st (vw s.tables):=by
 obtain ⟨_,hv,_,_⟩:=evoE_parts h
 have hk:1≤st.kind∧st.kind≤16:=by
  unfold evValE at hv
  split at hv
  ·cases hv
  ·omega
 by_cases h0:st.kind=13∨st.kind=14∨st.kind=15∨st.kind=16∨st.kind=10
 ·exact step_view0 h h0
 by_cases h1:st.kind=1∨st.kind=2∨st.kind=3∨st.kind=5∨st.kind=12
 ·exact step_view1 h h1
 exact step_view2 h (by omega)
theorem vw_tbl {ts:List Tbl} (hs:ts.Pairwise LtT) {n:ByteArray} {T:Tbl} (h:vw ts n=some T):∃k,∃hk:k<ts.length,tblAt ts n=(k:Int)∧ts[k]=T:=by
 obtain ⟨hm,hn⟩:=(vw_some hs).1 h
 obtain ⟨k,hk,rfl⟩:=List.mem_iff_getElem.1 hm
 exact ⟨k,hk,by rw [←hn];exact tblAt_at hs hk,rfl⟩
theorem step_tbl {s u:Sch} {st:Stp} (h:evoE s st=.ok u) (hk:st.kind≠10∧st.kind≠13∧st.kind≠14∧st.kind≠15∧st.kind≠16) :
  ∃i,∃hi:i<s.tables.length,tblAt s.tables st.table=(i:Int)∧s.tables[i].name=st.table∧vw s.tables st.table=some s.tables[i]:=by
 obtain ⟨h1,_,h3,_⟩:=evoE_parts h
 unfold evApply at h3
 rw [if_neg (by omega),if_neg (by omega),if_neg (by omega),if_neg (by omega),if_neg (by omega)] at h3
 simp only at h3
 split at h3
 ·cases h3
 rename_i q
 obtain ⟨i,hi,e1,e2⟩:=tblAt_some q
 exact ⟨i,hi,e1,e2,vw_at (sorted_of h1) hi e1⟩
theorem step_join {s u:Sch} {st:Stp} (h:evoE s st=.ok u) (hk:st.kind=7):st.table≠st.other∧∃o,vw s.tables st.other=some o:=by
 obtain ⟨h1,_,h3,_⟩:=evoE_parts h
 unfold evApply at h3
 rw [if_neg (by omega),if_neg (by omega),if_neg (by omega),if_neg (by omega),if_neg (by omega)] at h3
 simp only at h3
 split at h3
 ·cases h3
 rename_i q
 obtain ⟨i,hi,e1,e2⟩:=tblAt_some q
 rw [if_neg (by omega),if_neg (by omega)] at h3
 try rw [if_pos hk] at h3
 rw [e1,Int.toNat_natCast] at h3
 unfold joinT at h3
 simp only at h3
 split at h3
 ·cases h3
 rename_i q2
 obtain ⟨k,hk2,e3,e4⟩:=tblAt_some q2
 split at h3
 ·cases h3
 rename_i q3
 refine ⟨fun e=>q3 (.inl ?_),_,vw_at (sorted_of h1) hk2 e3⟩
 rw [e3,←e1,e,e3]
theorem step_two {s u:Sch} {st:Stp} (h:evoE s st=.ok u) (hk:st.kind=1∨st.kind=2∨st.kind=5∨st.kind=6∨st.kind=7∨st.kind=8∨st.kind=12) :
  ∃i k,∃hi:i<s.tables.length,∃hk:k<u.tables.length,tblAt s.tables st.table=(i:Int)∧tblAt u.tables st.table=(k:Int) ∧
   (st.kind=5→u.tables[k].cols.length=s.tables[i].cols.length)∧(st.kind=7→s.tables[i].cols.length≤u.tables[k].cols.length) ∧
   (st.kind=12→∃a b:Nat,st.cols=[(a:Int),(b:Int)]∧a<s.tables[i].cols.length∧b<s.tables[i].cols.length):=by
 obtain ⟨h1,_,h3,h4⟩:=evoE_parts h
 obtain ⟨i,hi,ei,ni,hv⟩:=step_tbl h (by omega)
 have sv:=congrFun (step_view h) st.table
 obtain ⟨T,hT⟩:∃T,s.tables[i]=T:=⟨_,rfl⟩
 suffices key:∃T',vw u.tables st.table=some T'∧(st.kind=5→T'.cols.length=T.cols.length)∧(st.kind=7→T.cols.length≤T'.cols.length)∧(st.kind=12→∃a b:Nat,st.cols=[(a:Int),(b:Int)]∧a<T.cols.length∧b<T.cols.length) by
  obtain ⟨T',hT',p5,p7,p12⟩:=key
  obtain ⟨k,hk2,ek,hk3⟩:=vw_tbl (sorted_of h4) hT'
  exact ⟨i,k,hi,hk2,ei,ek,by rw [hk3,hT];exact p5,by rw [hk3,hT];exact p7,by rw [hT];exact p12⟩
 unfold stepV at sv
 rw [if_neg (by omega),if_neg (by omega),hv,hT] at sv
 simp only at sv
 rw [if_neg (by omega)] at sv
 by_cases k6:st.kind=6
 ·rw [if_pos k6] at sv
  unfold upd1 at sv
  by_cases e:st.table=st.other
  ·rw [if_pos e] at sv
   exact ⟨_,sv,(fun q=>absurd q (by omega)),(fun q=>absurd q (by omega)),(fun q=>absurd q (by omega))⟩
  ·rw [if_neg e,if_pos rfl] at sv
   exact ⟨_,sv,(fun q=>absurd q (by omega)),(fun q=>absurd q (by omega)),(fun q=>absurd q (by omega))⟩
 rw [if_neg k6] at sv
 by_cases k7:st.kind=7
 ·rw [if_pos k7] at sv
  obtain ⟨ne,o,ho⟩:=step_join h k7
  rw [ho] at sv
  simp only at sv
  unfold upd1 at sv
  rw [if_neg ne,if_pos rfl] at sv
  exact ⟨_,sv,(fun q=>absurd q (by omega)),(fun _=>by simp),(fun q=>absurd q (by omega))⟩
 rw [if_neg k7] at sv
 by_cases k8:st.kind=8
 ·rw [if_pos k8] at sv
  unfold upd1 at sv
  by_cases e:st.table=st.other
  ·rw [if_pos e] at sv
   exact ⟨_,sv,(fun q=>absurd q (by omega)),(fun q=>absurd q (by omega)),(fun q=>absurd q (by omega))⟩
  ·rw [if_neg e,hv] at sv
   exact ⟨_,sv,(fun q=>absurd q (by omega)),(fun q=>absurd q (by omega)),(fun q=>absurd q (by omega))⟩
 rw [if_neg k8,if_neg (by omega),if_neg (by omega)] at sv
 by_cases k12:st.kind=12
 ·rw [if_pos k12] at sv
  unfold upd1 at sv
  rw [if_pos rfl] at sv
  refine ⟨_,sv,(fun q=>absurd q (by omega)),(fun q=>absurd q (by omega)),fun _=>?_⟩
  unfold evApply at h3
  rw [if_neg (by omega),if_neg (by omega),if_neg (by omega),if_neg (by omega),if_neg (by omega)] at h3
  simp only at h3
  split at h3
  ·cases h3
  repeat rw [if_neg (by omega)] at h3
  try rw [if_pos k12] at h3
  rw [ei,Int.toNat_natCast] at h3
  unfold concatC at h3
  split at h3
  ·rename_i a b hc
   simp only [tAt_lt hi,hT] at h3
   split at h3
   ·cases h3
   ·rename_i q
    exact ⟨a.toNat,b.toNat,by rw [hc,Int.toNat_of_nonneg (by omega),Int.toNat_of_nonneg (by omega)],by omega,by omega⟩
  ·cases h3
 rw [if_neg k12] at sv
 by_cases k1:st.kind=1
 ·rw [if_pos k1] at sv
  unfold upd1 at sv
  rw [if_pos rfl] at sv
  exact ⟨_,sv,(fun q=>absurd q (by omega)),(fun q=>absurd q (by omega)),(fun q=>absurd q (by omega))⟩
 rw [if_neg k1] at sv
 unfold upd1 at sv
 rw [if_pos rfl] at sv
 refine ⟨_,sv,(fun q=>?_),(fun q=>absurd q (by omega)),(fun q=>absurd q (by omega))⟩
 unfold altCol
 simp only
 rw [if_neg (by omega),if_pos q]
 simp [setC]
theorem kind_of {s u:Sch} {st:Stp} (h:evoE s st=.ok u):1≤st.kind∧st.kind≤16:=by
 obtain ⟨_,h2,_,_⟩:=evoE_parts h
 unfold evValE at h2
 split at h2
 ·cases h2
 ·omega
def Kone (st:Stp):Prop:=st.kind≠3∧st.kind≠4∧st.kind≠9∧st.kind≠13∧st.kind≠14∧st.kind≠15∧st.kind≠16
theorem compTable_sat {s u:Sch} {st:Stp} (h:evoE s st=.ok u) (hf:st.Fits) (hk:Kone st):Sat Tryz.prog 53 [.agg (eSch s),.agg (eSch u),.agg (eStp st)] (.v (.agg (eTbl (compT s u st)))):=by
 obtain ⟨b1,b2⟩:=kind_of h
 have zs:=(evoE_parts h).1
 have zu:=evoE_ok h
 unfold Kone at hk
 by_cases h10:st.kind=10
 ·exact compTable_new s u st hf h10
 by_cases h11:st.kind=11
 ·obtain ⟨i,hi,_⟩:=step_tbl h (by omega)
  exact compTable_old s u st zs (by omega) h11
 obtain ⟨i,k,hi,hk2,ei,ek,p5,p7,p12⟩:=step_two h (by omega)
 have q:CTab s u st i k s.tables[i] u.tables[k]:=⟨zs,zu,hi,hk2,by rw [ei,mx0_nat],by rw [ek,mx0_nat],rfl,rfl⟩
 by_cases h12:st.kind=1∨st.kind=2
 ·exact compTable12_sat s u st zs zu h12 hi ei hk2 ek
 by_cases h5:st.kind=5
 ·exact compTable_5 q h5 (p5 h5)
 by_cases hc:st.kind=12
 ·obtain ⟨a,b,e,ha,hb⟩:=p12 hc
  exact compTable_12 q hc e ha hb
 by_cases h8:st.kind=8
 ·exact compTable_8 q h8
 by_cases h7:st.kind=7
 ·exact compTable_7 q h7 (p7 h7)
 have h6:st.kind=6:=by clear p5 p7 p12;omega
 exact compTable_6 q hf h6
set_option maxHeartbeats 32000000 in
theorem compSchemaA_sat (s:Sch) (st:Stp) (hs:s.Fits) (hf:st.Fits):Sat Tryz.prog 21 [.agg (eSch s),.agg (eStp st)] (.tup [.agg (eSch (sOut (compE s st))),oI (rE (compE s st))]):=by
 have c1:=evoApply_sat s st hs hf
 cases hv:evoE s st with
 | error e =>
  have sp:compE s st=.error e:=by unfold compE;rw [hv]
  have he:=evoE_ne hv
  rw [hv] at c1
  rw [sp]
  unfold sOut rE at c1 ⊢
  simp only at c1 ⊢
  refine ZE Tryz.func21 Tryz.ntmps21 fun w0 m0 F0=>?_
  refine ZWp (Z2 @eStp.eq_1 @he) (Z1 (c1)) ?_;repeat' (first|apply Zb|apply Zn|(apply Zm;intro h))
  exact ZQ (Z1 Tryz.results21)
 | ok u =>
  rw [hv] at c1
  unfold sOut rE at c1
  simp only at c1
  by_cases h4:st.kind=13∨st.kind=14∨st.kind=15∨st.kind=16
  ·have sp:compE s st=.ok ⟨s.tables,[],[]⟩:=by unfold compE;rw [hv];simp only;rw [if_pos h4]
   have cl:=schClone_sat s (small_of (evoE_parts hv).1)
   rw [sp]
   unfold sOut rE
   simp only [eSchX] at cl c1 ⊢
   rcases h4 with h1|h1|h1|h1
   all_goals
    simp only [eStp,h1] at c1 ⊢
    refine ZE Tryz.func21 Tryz.ntmps21 fun w0 m0 F0=>?_
    refine ZWp Z0 (Z2 (c1) (cl)) ?_;repeat' (first|apply Zb|apply Zn|(apply Zm;intro h))
    exact ZQ (Z1 Tryz.results21)
  by_cases h3:st.kind=3∨st.kind=4∨st.kind=9
  ·have sp:compE s st=.ok ⟨[],[],[]⟩:=by unfold compE;rw [hv];simp only;rw [if_neg h4,if_pos h3]
   rw [sp]
   unfold sOut rE
   try simp only
   rcases h3 with h1|h1|h1
   all_goals
    simp only [eStp,h1] at c1 ⊢
    refine ZE Tryz.func21 Tryz.ntmps21 fun w0 m0 F0=>?_
    refine ZWp Z0 (Z1 (c1)) ?_;repeat' (first|apply Zb|apply Zn|(apply Zm;intro h))
    exact ZQ (Z1 Tryz.results21)
  ·have sp:compE s st=.ok ⟨[compT s u st],[],[]⟩:=by unfold compE;rw [hv];simp only;rw [if_neg h4,if_neg h3]
   have ct:=compTable_sat hv hf ⟨by omega,by omega,by omega,by omega,by omega,by omega,by omega⟩
   have n1:(st.kind==13)=false:=by simp;omega
   have n2:(st.kind==14)=false:=by simp;omega
   have n3:(st.kind==15)=false:=by simp;omega
   have n4:(st.kind==16)=false:=by simp;omega
   have n5:(st.kind==3)=false:=by simp;omega
   have n6:(st.kind==4)=false:=by simp;omega
   have n7:(st.kind==9)=false:=by simp;omega
   rw [sp]
   unfold sOut rE
   simp only [eTblX,eTbls,eFKs,eCons,List.map_cons,List.map_nil,eSch] at ct ⊢
   refine ZE Tryz.func21 Tryz.ntmps21 fun w0 m0 F0=>?_
   refine ZWp (Z8 @eStp.eq_1 @n1 @n2 @n3 @n4 @n5 @n6 @n7) (Z2 (c1) (ct)) ?_;repeat' (first|apply Zb|apply Zn|(apply Zm;intro h))
   exact ZQ (Z1 Tryz.results21)
theorem schemasA_ok (s:Sch) (st:Stp) (hs:s.Fits) (hf:st.Fits) {u v:Sch} (h:evoE s st=.ok u) (h2:compE s st=.ok v) :
  Sat Tryz.prog 54 [.agg (eSch s),.agg (eStp st)] (.tup [.agg (eSch u),.agg (eSch v),oI 0]):=by
 have c1:=evoApply_sat s st hs hf
 have c2:=compSchemaA_sat s st hs hf
 rw [h] at c1
 rw [h2] at c2
 unfold sOut rE at c1 c2
 simp only at c1 c2
 refine ZE Tryz.func54 Tryz.ntmps54 fun w0 m0 F0=>?_
 refine ZVp (Z1 @eStp.eq_1) (Z2 (c1) (c2)) (Z1 (Zd 5 [(0,3)] [(3,[],[(1,2)]),(4,[(5,1)],[(2,1)])] [3,4] 8)) Z0 ?_;repeat' (first|apply Zb|apply Zn|(apply Zm;intro h))
 exact ZQ (Z1 Tryz.results54)
theorem emptyCompA_ok (s:Sch) (st:Stp) (hs:s.Fits) (hf:st.Fits) {u v:Sch} (h:evoE s st=.ok u) (h2:compE s st=.ok v) (hv:v.tables.length≤1048576) :
  Sat Tryz.prog 22 [.agg (eSch s),.agg (eStp st)] (.tup [.one (eInst (emptyI v)),oI 0]):=by
 have c1:=schemasA_ok s st hs hf h h2
 have c2:=instEmpty_sat v (by omega)
 refine ZE Tryz.func22 Tryz.ntmps22 fun w0 m0 F0=>?_
 refine ZWp (Z1 @eStp.eq_1) (Z2 (c1) (c2)) ?_;repeat' (first|apply Zb|apply Zn|(apply Zm;intro h))
 exact ZQ (Z1 Tryz.results22)
theorem tAt_small {s:Sch} (h:Small s) (i:Nat):(tAt s i).cols.length≤6∧(tAt s i).pk.length≤6:=by
 unfold tAt
 rcases Nat.lt_or_ge i s.tables.length with hi|hi
 ·rw [getD_lt _ hi]
  exact h.table _ (List.getElem_mem hi)
 ·rw [List.getD_eq_getElem?_getD,List.getElem?_eq_none hi]
  exact ⟨by decide,by decide⟩
theorem keyedT_small {t:Tbl} {l:List Col} (h:t.cols.length≤6∧t.pk.length≤6) (hl:l.length≤6):(keyedT t l).cols.length≤1048576∧(keyedT t l).pk.length≤1048576:=by
 unfold keyedT
 simp only [List.length_append,kC_len,seqI_len]
 omega
theorem compT_small {s u:Sch} {st:Stp} (h:evoE s st=.ok u):(compT s u st).cols.length≤1048576∧(compT s u st).pk.length≤1048576:=by
 have ss:=small_of (evoE_parts h).1
 have su:=small_of (evoE_ok h)
 unfold compT
 split
 ·rename_i k
  have sv:=congrFun (step_view h) st.newTable.name
  unfold stepV upd1 at sv
  rw [if_neg (by omega),if_pos k] at sv
  simp only [if_true] at sv
  obtain ⟨j,hj,_,e⟩:=vw_tbl (sorted_of (evoE_ok h)) sv
  have:=su.table _ (List.getElem_mem hj)
  rw [e] at this
  omega
 ·simp only
  have ts:=tAt_small ss (mx0 (tblAt s.tables st.table)).toNat
  have tu:=tAt_small su (mx0 (tblAt u.tables st.table)).toNat
  have kn:∀l:List Col,(numC l).length=l.length:=fun l=>numK_len l _
  (repeat' split)
  ·omega
  all_goals refine keyedT_small ts ?_
  all_goals first
   | (simp;done)
   | (rw [kn,List.length_drop];omega)
   | (rw [kn];exact Nat.le_trans (keepAt_len _ _ _) ts.1)
theorem compE_shape2 {s u:Sch} {st:Stp} (h:evoE s st=.ok u):∃ts:List Tbl,compE s st=.ok ⟨ts,[],[]⟩∧(ts.length≤1∨ts.length=s.tables.length)∧∀t∈ts,t.cols.length≤1048576∧t.pk.length≤1048576:=by
 have ss:=small_of (evoE_parts h).1
 have k:=compT_small h
 unfold compE
 rw [h]
 simp only
 split
 ·exact ⟨_,rfl,.inr rfl,fun t ht=>by have:=ss.table t ht;omega⟩
 ·split
  ·exact ⟨_,rfl,.inl (by simp),fun t ht=>by cases ht⟩
  ·exact ⟨_,rfl,.inl (by simp),fun t ht=>by rw [List.mem_singleton.1 ht];exact k⟩
set_option maxHeartbeats 32000000 in
theorem complementConforms_sat (s:Sch) (st:Stp) (hs:s.Fits) (hf:st.Fits):Sat Tryz.prog 5 [.agg (eSch s),.agg (eStp st)] (.v (oB true)):=by
 have c0:=lensesWork_sat
 have c1:=compSchemaA_sat s st hs hf
 cases h:evoE s st with
 | error e =>
  have c2:=emptyComp_err s st hs hf h
  have sp:compE s st=.error e:=by unfold compE;rw [h]
  have he:=evoE_ne h
  rw [sp] at c1
  unfold sOut rE at c1
  simp only at c1
  refine ZE Tryz.func5 Tryz.ntmps5 fun w0 m0 F0=>?_
  refine ZWp (Z2 @eStp.eq_1 @he) (Z3 (c0) (c1) (c2)) ?_;repeat' (first|apply Zb|apply Zn|(apply Zm;intro h))
  exact ZQ (Z1 Tryz.results5)
 | ok u =>
  obtain ⟨ts,sp,hts,htb⟩:=compE_shape2 h
  have sl:=(small_of (evoE_parts h).1).tables
  have c2:=emptyCompA_ok s st hs hf h sp (by simp only;omega)
  rw [sp] at c1
  unfold sOut rE at c1
  simp only at c1
  have B:Bounds0 ⟨ts,[],[]⟩ (emptyI ⟨ts,[],[]⟩):=⟨by simp only;omega,fun t ht=>by have:=htb t ht;omega,fun f hf=>(by cases hf),by simp,by simp,fun r hr=>by
   obtain ⟨t,_,rfl⟩:=List.mem_map.1 hr
   simp⟩
  have c3:=conforms_sat ⟨ts,[],[]⟩ (emptyI ⟨ts,[],[]⟩) B (by simp [emptyI];omega)
  rw [confE_empty] at c3
  unfold eInst at c2 c3
  obtain ⟨X,hX⟩:∃X,(emptyI ⟨ts,[],[]⟩).map eRel=X:=⟨_,rfl⟩
  rw [hX] at c2 c3
  simp only [eSchX] at c1 c3
  refine ZE Tryz.func5 Tryz.ntmps5 fun w0 m0 F0=>?_
  refine ZWp (Z2 @eSchX @eStp.eq_1) (Z4 (c0) (c1) (c2) (c3)) ?_;repeat' (first|apply Zb|apply Zn|(apply Zm;intro h))
  ·exact ZQ (Z1 Tryz.results5)
  ·refine ZR (Z1 Tryz.results5) ?_
   rw [show ts.length=s.tables.length by omega]
   simp [oB]
end Go.Bw
