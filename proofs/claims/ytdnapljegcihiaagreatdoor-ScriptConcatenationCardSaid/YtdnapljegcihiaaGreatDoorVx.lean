/-
  WHAT IS PROVED HERE, of this translation: stp_eq, evApply_2, evApply_6, evoE_ne, schClone_sat, ren_old, compTable12_sat, tblAt_step, valB, bytesAt_of, byT_own, byT_of, .., encL_le, encL_ne, encode_sat, eqRows1_sat, eqRows_sat, eqInst1_sat, eqInst_sat, outK_len, outK_get, outK_set, outK_same.
  A theorem that ends in sat says what the function it names returns, whatever the state it is called in; the bounds on its arguments stand ahead of it.
-/
import Derived.Test.YtdnapljegcihiaaGreatDoorS6
import Derived.Lib.ItoaLen
import Derived.Test.YtdnapljegcihiaaGreatDoorVk
import Derived.Test.YtdnapljegcihiaaGreatDoorVl
import Derived.Test.YtdnapljegcihiaaGreatDoorVv
set_option linter.unusedSimpArgs false
set_option linter.unusedVariables false
namespace Go.Bw
open Go.Proofs
theorem stp_eq {a b:Stp}:a=b↔a.kind=b.kind∧a.table.toList=b.table.toList∧a.other.toList=b.other.toList∧a.column.toList=b.column.toList∧a.newName.toList=b.newName.toList∧a.typ=b.typ∧a.cols=b.cols∧a.op.toList=b.op.toList ∧
  (a.value.kind=b.value.kind∧a.value.int=b.value.int∧a.value.text.toList=b.value.text.toList)∧a.newTable=b.newTable ∧
  (a.con.table.toList=b.con.table.toList∧a.con.left=b.con.left∧a.con.op.toList=b.con.op.toList∧a.con.right=b.con.right∧a.con.value.kind=b.con.value.kind∧a.con.value.int=b.con.value.int∧a.con.value.text.toList=b.con.value.text.toList)∧a.fk=b.fk:=by
 constructor
 ·rintro rfl
  simp
 ·rintro ⟨h1,h2,h3,h4,h5,h6,h7,h8,h9,h10,h11,h12⟩
  have h9:=val_eq.2 h9
  have h11:=con_eq.2 h11
  cases a
  cases b
  simp only at *
  subst h1 h6 h7 h9 h10 h11 h12
  rw [bytes_ext h2,bytes_ext h3,bytes_ext h4,bytes_ext h5,bytes_ext h8]
set_option maxHeartbeats 32000000 in
theorem evApply_2 (s:Sch) (st:Stp) (sm:SmallS s) (hf:st.Fits) (hk:st.kind≠13∧st.kind≠14∧st.kind≠15∧st.kind≠16∧st.kind≠10) (h0:tblAt s.tables st.table=-1) :
  SatM Tryz.prog 38 [.one (.ptr 1000 0),.agg (eStp st)] (iB s) (iR s) (.v (oI (rE (evApply s st)))) (oBE (evApply s st)) (oRE (evApply s st)):=by
 have b1:=sm.tables
 have b3:=sm.fks
 have b4:=sm.cons
 have b5:∀f∈s.fks,f.cols.length≤1048576:=fun f hf=>by have:=(sm.fk f hf).1;omega
 have hc:=hf.cols
 have spec:evApply s st=.error 4:=by unfold evApply;rw [if_neg hk.1,if_neg hk.2.1,if_neg hk.2.2.1,if_neg hk.2.2.2.1,if_neg hk.2.2.2.2,h0];rfl
 have fs:=findTable_sat s st.table (by omega)
 rw [h0,mx0_neg] at fs
 obtain ⟨n1,n2,n3,n4,n5⟩:=hk
 rw [spec]
 unfold iB iR oBE oRE rE
 simp only
 refine ZM [1000] [1,2,3] Tryz.func38 Tryz.ntmps38 fun w0 m0 F0=>?_
 refine ZV (Z3 @eStp.eq_1 @frz_eTblO @frz_eFKO) (Z1 (fs)) (Z1 (Zd 14 [(0,5)] [(5,[(6,5)],[])] [5] 8)) Z0 ?_
 exact ZQ (Z1 Tryz.results38)
set_option maxHeartbeats 32000000 in
theorem evApply_6 (s:Sch) (st:Stp) (sm:SmallS s) (hf:st.Fits) (hpk:∀t∈s.tables,PkOk t) (hk:st.kind≠13∧st.kind≠14∧st.kind≠15∧st.kind≠16∧st.kind≠10) (j:Nat) (hj:j<s.tables.length) (h0:tblAt s.tables st.table=(j:Int)) (hq:st.kind≠4∧st.kind≠6∧st.kind≠7∧st.kind≠8∧st.kind≠9∧st.kind≠11∧st.kind≠12∧st.kind≠1) :
  SatM Tryz.prog 38 [.one (.ptr 1000 0),.agg (eStp st)] (iB s) (iR s) (.v (oI (rE (evApply s st)))) (oBE (evApply s st)) (oRE (evApply s st)):=by
 have b1:=sm.tables
 have b3:=sm.fks
 have b4:=sm.cons
 have b5:∀f∈s.fks,f.cols.length≤1048576:=fun f hf=>by have:=(sm.fk f hf).1;omega
 have hc:=hf.cols
 have fs:=findTable_sat s st.table (by omega)
 rw [h0,mx0_nat,decide_eq_true (show (0:Int)≤(j:Int) by omega)] at fs
 have s0:evApply s st=(if st.kind=4 then renameT s j st.newName else if st.kind=6 then splitT s j st else if st.kind=7 then joinT s j st.other else if st.kind=8 then partT s j st else if st.kind=9 then mergeT s j st else if st.kind=11 then dropT s st.table else if st.kind=12 then concatC s j st else if st.kind=1 then addC s j st else alterC s j st):=by
  unfold evApply;rw [if_neg hk.1,if_neg hk.2.1,if_neg hk.2.2.1,if_neg hk.2.2.2.1,if_neg hk.2.2.2.2];simp only [h0,Int.toNat_natCast];rw [if_neg (by omega)]
 obtain ⟨n1,n2,n3,n4,n5⟩:=hk
 have spec:evApply s st=alterC s j st:=by rw [s0,if_neg (by omega),if_neg (by omega),if_neg (by omega),if_neg (by omega),if_neg (by omega),if_neg (by omega),if_neg (by omega),if_neg (by omega)]
 have C:=alterColumn_satM s j st hj sm
 rw [spec]
 generalize alterC s j st=r at C ⊢
 unfold iB iR at C ⊢
 refine ZM [1000] [1,2,3] Tryz.func38 Tryz.ntmps38 fun w0 m0 F0=>?_
 refine ZV (Z3 @eStp.eq_1 @frz_eTblO @frz_eFKO) (Z1 (fs)) (Z2 (Zs 34) (Zd 14 [(0,5)] [(5,[(6,5)],[])] [5] 8)) Z0 ?_
 cases r with
 | error e =>
  unfold oBE oRE rE at C ⊢
  simp only [eStp] at C ⊢
  refine ZV (Z5 @okIds_ref @eStp.eq_1 @dropL_nil @dropL_nil' @dropL_cons) Z0 Z0 (Z1 (Zi [(1000,1000)] [(1000,1000),(1001,1001),(1002,1002)] [] [] [1000] [1000,1001,1002] [1000] [1000,1001,1002] (C))) ?_
  exact ZQ (Z1 Tryz.results38)
 | ok R =>
  unfold oBE oRE oB1 oR1 rE at C ⊢
  simp only [eStp] at C ⊢
  refine ZV (Z5 @okIds_ref @eStp.eq_1 @dropL_nil @dropL_nil' @dropL_cons) Z0 Z0 (Z1 (Zi [(1000,1000)] [(1000,1000),(1001,1001),(1002,1002)] [(1000,1000)] [(1,1),(2,2),(3,3)] [] [1000,1001,1002,1,2,3] [1000,1000] [1000,1001,1002,1,2,3] (C))) ?_
  exact ZQ (Z1 Tryz.results38)
theorem evoE_ne {s:Sch} {st:Stp} {e:Int} (h:evoE s st=.error e):e≠0:=by
 unfold evoE at h
 split at h
 ·rename_i q;injection h with h;rw [←h];exact q
 split at h
 ·rename_i q;injection h with h;rw [←h];exact q
 split at h
 ·rename_i q;injection h with h;rw [←h];exact evApply_ne q
 split at h
 ·rename_i q;injection h with h;rw [←h];exact q
 ·cases h
theorem schClone_sat (s:Sch) (h:Small s):Sat Tryz.prog 37 [.agg (eSch s)] (.v (.agg (eSch s))):=by
 have cl:=schClone_own s (by have:=h.tables;omega) (by have:=h.fks;omega) (by have:=h.cons;omega) (fun t ht=>by have:=h.table t ht;omega) (fun f hf=>by have:=h.fk f hf;omega)
 refine cl.frz (by
  simp -dsimp (disch:=first|exact D|fail) only [go_sem,↓reduceIte,seval,topL_ref,St.rest,roots,dropL_nil,eSch,frz_eTblO,frz_eFKO]
  )
theorem ren_old (c:Col):Sat Tryz.prog 99 [.agg [.str c.name,.int .i64 c.kind,.bool c.nullable],.one (.str ⟨#[111,108,100]⟩)] (.v (.agg [.str oldB,.int .i64 c.kind,.bool c.nullable])):=renamed_sat c oldB
set_option maxHeartbeats 64000000 in
theorem compTable12_sat (s u:Sch) (st:Stp) (zs:schE s=0) (zu:schE u=0) (hk:st.kind=1∨st.kind=2) {i k:Nat} (hi:i<s.tables.length) (ei:tblAt s.tables st.table=(i:Int)) (hk2:k<u.tables.length) (ek:tblAt u.tables st.table=(k:Int)) :
  Sat Tryz.prog 53 [.agg (eSch s),.agg (eSch u),.agg (eStp st)] (.v (.agg (eTbl (compT s u st)))):=by
 have okS:=okSch_of zs
 have okU:=okSch_of zu
 have ft:=findTable_sat s st.table (by have:=okS.n6;omega)
 rw [ei,mx0_nat,decide_eq_true (show (0:Int)≤(i:Int) by omega)] at ft
 have fu:=findTable_sat u st.table (by have:=okU.n6;omega)
 rw [ek,mx0_nat,decide_eq_true (show (0:Int)≤(k:Int) by omega)] at fu
 obtain ⟨t,ht⟩:∃t,s.tables[i]=t:=⟨_,rfl⟩
 obtain ⟨v,hv⟩:∃v,u.tables[k]=v:=⟨_,rfl⟩
 have htA:tAt s (mx0 (tblAt s.tables st.table)).toNat=t:=by rw [tblAt_nat ei];unfold tAt;rw [getD_lt _ hi,ht]
 have hvA:tAt u (mx0 (tblAt u.tables st.table)).toNat=v:=by rw [tblAt_nat ek];unfold tAt;rw [getD_lt _ hk2,hv]
 have okt:OkTbl t:=ht▸okS.tbl _ (List.getElem_mem hi)
 have okv:OkTbl v:=hv▸okU.tbl _ (List.getElem_mem hk2)
 have pk:PkOk t:=pkOk_of zs t (ht▸List.getElem_mem hi)
 have t6:=okt.cols6
 have v6:=okv.cols6
 have v0:=okv.cols0
 have p6:=okt.pk6
 have gt:(s.tables.map eTbl).getD i []=[.str t.name,.sl 3 (t.cols.map eCol),.sl 1 (t.pk.map eInt1)]:=by rw [getD_map_lt _ _ _ hi,ht];rfl
 have gv:(u.tables.map eTbl).getD k []=[.str v.name,.sl 3 (v.cols.map eCol),.sl 1 (v.pk.map eInt1)]:=by rw [getD_map_lt _ _ _ hk2,hv];rfl
 obtain ⟨c,hc,ec⟩:=colAt_nat t.cols st.column (by have:=okt.cols0;omega)
 have fc:=findColumn_sat t st.column (by omega)
 rw [ec] at fc
 obtain ⟨b,hb⟩:∃b,decide (0≤colAt t.cols st.column)=b:=⟨_,rfl⟩
 rw [hb] at fc
 obtain ⟨last,hl⟩:∃last,v.cols[v.cols.length - 1]'(by omega)=last:=⟨_,rfl⟩
 obtain ⟨old,ho⟩:∃old,t.cols[c]=old:=⟨_,rfl⟩
 have gl:(v.cols.map eCol).getD (v.cols.length - 1) []=[.str last.name,.int .i64 last.kind,.bool last.nullable]:=by rw [getD_map_lt _ _ _ (by omega),hl];rfl
 have go:(t.cols.map eCol).getD c []=[.str old.name,.int .i64 old.kind,.bool old.nullable]:=by rw [getD_map_lt _ _ _ hc,ho];rfl
 have w1:((v.cols.length:Int) - 1).toNat=v.cols.length - 1:=by omega
 have lc:(mx0 (colAt t.cols st.column)).toNat=c:=by rw [ec];omega
 rcases hk with h1|h1
 ·have sp:compT s u st=keyedT t [ren1 last oldB]:=by
   unfold compT
   rw [if_neg (by omega)]
   simp only [htA,hvA]
   rw [if_neg (by omega),if_pos h1,getD_lt _ (by omega),hl]
  rw [sp]
  have ky:=keyed_sat t [ren1 last oldB] (by omega) (by omega) (by simp) pk
  have rn:=ren_old last
  simp only [eTblX,eCols,List.map_cons,List.map_nil,eCol,ren1] at ky
  refine ZE Tryz.func53 Tryz.ntmps53 fun w0 m0 F0=>?_
  refine ZV (Z7 @eStp.eq_1 @eTblX @h1 @gt @gv @gl @w1) (Z3 (ft) (fu) (fc)) (Z1 (Zs 13)) Z0 ?_;repeat' (first|apply Zb|apply Zn|(apply Zk;intro K hK))
  refine dX tyOk mixed [(0,2)] [(2,[],[(0,1)]),(3,[],[(0,1)]),(4,[],[]),(5,[],[])] [2,3,4,5] 8 fun K hK=>?_
  simp only [SG,segs] at hK ⊢
  refine ZU Z0 ?_
  repeat' (first|((first|((with_reducible refine CallJ.is ?_);(first|refine CallJ.pure (rn) ?_|((apply CallJ.frozI [6] []);(focus (simp -dsimp (disch:=first|exact D|fail) only [go_sem,↓reduceIte,seval,Option.getD_none,RT,St.rest,St.freeze];rfl));(focus (first|exact (rn)|exact (ky))))))|(with_reducible refine VCy.step fun K hK=>?_))<;>simp -dsimp (disch:=first|exact D|fail) only [go_sem,↓reduceIte,seval,Option.getD_none,RT,St.rest,St.freeze])|((with_reducible refine hK _ ?_);clear hK K)|(with_reducible refine VCy.intro fun K0 hK0=>?_)|((with_reducible refine VCy.fin ?_);(refine hK0 _ ?_);clear hK0 K0)|(with_reducible first|refine VCy.quiet ?_|refine VCy.none ?_)|((with_reducible refine VCy.keep ?_ ?_);focus ((simp -dsimp (disch:=first|exact D|fail) only [go_sem,↓reduceIte,seval,Stable_cons,Stable_nil,sameA_some,sameA_none,Option.getD_none,RT,St.rest,St.freeze]);first|done|exact E|fail))|refine Q1 ?_|fail)
  refine ZR (Z1 Tryz.results53) ?_
  rfl
 ·have sp:compT s u st=keyedT t [ren1 old oldB]:=by
   unfold compT
   rw [if_neg (by omega)]
   simp only [htA,hvA]
   rw [if_neg (by omega),if_neg (by omega),if_pos h1,lc,getD_lt _ hc,ho]
  rw [sp]
  have ky:=keyed_sat t [ren1 old oldB] (by omega) (by omega) (by simp) pk
  have rn:=ren_old old
  simp only [eTblX,eCols,List.map_cons,List.map_nil,eCol,ren1] at ky
  refine ZE Tryz.func53 Tryz.ntmps53 fun w0 m0 F0=>?_
  refine ZV (Z7 @eStp.eq_1 @eTblX @h1 @gt @gv @gl @w1) (Z3 (ft) (fu) (fc)) (Z1 (Zs 15)) Z0 ?_;repeat' (first|apply Zb|apply Zn|(apply Zk;intro K hK))
  refine dX tyOk mixed [(0,6)] [(6,[],[(0,1)]),(7,[],[(0,1)]),(8,[],[]),(9,[],[])] [6,7,8,9] 8 fun K hK=>?_
  simp only [SG,segs] at hK ⊢
  refine ZU (Z1 @go) ?_
  repeat' (first|((first|((with_reducible refine CallJ.is ?_);(first|refine CallJ.pure (rn) ?_|((apply CallJ.frozI [6] []);(focus (simp -dsimp (disch:=first|exact D|fail) only [go_sem,↓reduceIte,seval,go,Option.getD_none,RT,St.rest,St.freeze];rfl));(focus (first|exact (rn)|exact (ky))))))|(with_reducible refine VCy.step fun K hK=>?_))<;>simp -dsimp (disch:=first|exact D|fail) only [go_sem,↓reduceIte,seval,go,Option.getD_none,RT,St.rest,St.freeze])|((with_reducible refine hK _ ?_);clear hK K)|(with_reducible refine VCy.intro fun K0 hK0=>?_)|((with_reducible refine VCy.fin ?_);(refine hK0 _ ?_);clear hK0 K0)|(with_reducible first|refine VCy.quiet ?_|refine VCy.none ?_)|((with_reducible refine VCy.keep ?_ ?_);focus ((simp -dsimp (disch:=first|exact D|fail) only [go_sem,↓reduceIte,seval,Stable_cons,Stable_nil,sameA_some,sameA_none,go,Option.getD_none,RT,St.rest,St.freeze]);first|done|exact E|fail))|refine Q1 ?_|fail)
  refine ZR (Z1 Tryz.results53) ?_
  rfl
theorem tblAt_step {s u:Sch} {st:Stp} (h:evoE s st=.ok u) (hk:st.kind=1∨st.kind=2):∃i k,∃_:i<s.tables.length,∃_:k<u.tables.length,tblAt s.tables st.table=(i:Int)∧tblAt u.tables st.table=(k:Int):=by
 obtain ⟨_,_,h3,h4⟩:=evoE_parts h
 unfold evApply at h3
 rw [if_neg (by omega),if_neg (by omega),if_neg (by omega),if_neg (by omega),if_neg (by omega)] at h3
 simp only at h3
 split at h3
 ·cases h3
 rename_i q
 obtain ⟨i,hi,e1,e2⟩:=tblAt_some q
 rw [if_neg (by omega),if_neg (by omega),if_neg (by omega),if_neg (by omega),if_neg (by omega),if_neg (by omega),if_neg (by omega),e1,Int.toNat_natCast] at h3
 have key:∀T:Tbl,T.name=st.table→u.tables=s.tables.set i T→tblAt u.tables st.table=(i:Int)∧i<u.tables.length:=by
  intro T hT hu
  have hl:i<u.tables.length:=by rw [hu,List.length_set];exact hi
  have hn:u.tables[i].name=st.table:=by
   have:u.tables[i]=T:=by simp [hu]
   rw [this,hT]
  rw [←hn]
  exact ⟨tblAt_at (sorted_of h4) hl,hl⟩
 have tn:(tAt s i).name=st.table:=by unfold tAt;rw [getD_lt _ hi,e2]
 rcases hk with h1|h1
 ·rw [if_pos h1] at h3
  unfold addC at h3
  simp only at h3
  split at h3
  ·cases h3
  injection h3 with h3
  obtain ⟨g1,g2⟩:=key {tAt s i with cols:=(tAt s i).cols++[⟨st.column,st.typ,st.value.kind==0⟩]} tn (by rw [←h3];rfl)
  exact ⟨i,i,hi,g2,e1,g1⟩
 ·rw [if_neg (by omega)] at h3
  unfold alterC at h3
  simp only at h3
  split at h3
  ·cases h3
  rw [if_neg (by omega)] at h3
  split at h3
  ·cases h3
  rw [if_neg (by omega)] at h3
  split at h3
  ·cases h3
  injection h3 with h3
  obtain ⟨g1,g2⟩:=key {tAt s i with cols:=dropAt [colAt (tAt s i).cols st.column] (tAt s i).cols 0,pk:=(tAt s i).pk.map (shiftI [colAt (tAt s i).cols st.column])} tn (by rw [←h3];rfl)
  exact ⟨i,i,hi,g2,e1,g1⟩
theorem valB (x v:Val):(x.kind==v.kind&&(x.int==v.int&&x.text.toList==v.text.toList))=decide (x=v):=by
 rw [Bool.eq_iff_iff,decide_eq_true_eq,val_eq]
 simp
section
open Go.Proofs Go.RowKit Go.Shelf
abbrev tB:TypeId:=5
theorem bytesAt_of {w:World} {G:Nat→Prop} {v:Value} {t:TypeId} {l:List UInt8} (h:ByT w G v t l):BytesAt w t v l.length (Lib.byteCells l):=by
 refine ⟨Lib.byteCells_length l,?_⟩
 rcases h with ⟨rfl,rfl⟩|⟨g,cap,cur,_,h1,h2,h3,h4,h5,h6⟩
 ·exact .inl ⟨rfl,rfl⟩
 ·exact .inr ⟨g,cap,cur,h1,h2,h3,h4,h5,h6⟩
theorem byT_own {w:World} {G:Nat→Prop} {v:Value} {t:TypeId} {l:List UInt8} (h:ByT w G v t l) {k:Nat} (hk:v.ownBlock=some k):G k:=by
 rcases h with ⟨rfl,rfl⟩|⟨g,cap,cur,h0,rfl,_⟩
 ·cases hk
 ·simp only [Value.ownBlock,Option.some.injEq] at hk
  exact hk▸h0
theorem byT_of {w:World} {v:Value} {t:TypeId} {l:List UInt8} {n:Nat} (h:BytesAt w t v n (Lib.byteCells l)):ByT w (fun k=>v.ownBlock=some k) v t l:=by
 have hn:l.length=n:=(Lib.byteCells_length l).symm.trans h.1
 subst hn
 rcases h.2 with ⟨rfl,h0⟩|⟨g,cap,cur,rfl,h2,h3,h4,h5,h6⟩
 ·exact .inl ⟨List.eq_nil_of_length_eq_zero h0,rfl⟩
 ·exact .inr ⟨g,cap,cur,rfl,rfl,h2,h3,h4,h5,h6⟩
theorem erep_str' {m:Mem} {ω:Wh} {v:Value} {s:ByteArray} (h:ERep m ω v (.str s)):v=.string s:=by
 have h:Rep m v (.str s):=h
 cases h;rfl
theorem ws_call {P:Program} {f:FuncId} {fn:Func} {c:Code} {args:Array Value} {w:World} {R:Value→World→Prop} (hf:P.funcs[f]?=some fn) (hb:fn.body=some c) (hn:(fn.name=="runtime.NumGoroutine")=false)
  (h:Calls P f args w fun e w'=>∃v,e=.returned v∧R v w'):CallsR P f args w R:=by
 refine .inr ⟨?_,h⟩
 simp only [callFunc,Sem.run_bind,program,Sem.run,Result.andThen_ok,hf]
 rw [hn,hb]
 simp
theorem args2 {m:Mem} {ω:Wh} {vs:List Value} {x y:L} (hA:ArgsRep m ω vs [.one x,.one y]):∃a b,vs=[a,b]∧ERep m ω a x∧ERep m ω b y:=by
 obtain ⟨h1,h2⟩:=hA
 match vs,h1 with
 | [a,b],_ =>
  obtain ⟨a',ha,ha'⟩:=h2 0 _ rfl
  obtain ⟨b',hb,hb'⟩:=h2 1 _ rfl
  simp only [List.getElem?_cons_zero,List.getElem?_cons_succ,Option.some.injEq] at ha hb
  subst ha;subst hb
  exact ⟨_,_,rfl,ha',hb'⟩
theorem bld_box {m:Mem} {w:World} {ω:Wh} {id:Nat} {c:L} {t:TypeId} {l:List UInt8} (h:BoxRep m w ω id [c,.byt t l]) :
  ∃p v e,w.heap[ω.box id]?=some (.cells #[p,v] e (0,0))∧ω.f false id (ω.box id)∧(∃G0,XRep m w ω G0 p c)∧BytesAt w t v l.length (Lib.byteCells l)∧v.ownBlock≠some (ω.box id)∧∀k,v.ownBlock=some k→ω.f false id k:=by
 obtain ⟨cs,e,h1,h2,h3,G,h4,h5,h6⟩:=h
 obtain ⟨p,hp,xp⟩:=h6 0 c rfl
 obtain ⟨v,hv,xv⟩:=h6 1 (.byt t l) rfl
 have hcs:cs=#[p,v]:=by
  obtain ⟨L⟩:=cs
  match L,h2 with
  | [a,b],_ =>
   simp only [List.getElem?_toArray,List.getElem?_cons_zero,List.getElem?_cons_succ,Option.some.injEq] at hp hv
   rw [hp,hv]
 subst hcs
 have xv:ByT w (G 1) v t l:=xv
 exact ⟨p,v,e,h1,h3,⟨_,xp⟩,bytesAt_of xv,fun e'=>(h4 1 _ (byT_own xv e')).2 rfl,fun k hk=>(h4 1 k (byT_own xv hk)).1⟩
theorem bld_after {P:Program} {w0:World} {m0:Mem} {F0:Home} {s:St} {a:Act} {w w':World} {m:Mem} {ω:Wh} {id:Nat} {ls0:List L} {t e:TypeId} {l:List UInt8} {n:Nat} {v v':Value}
  (h:CI P w0 m0 F0 s a w m ω) (hb:look s.box id=some ls0) (hf:ω.f false id (ω.box id)) (ho:∀k,v.ownBlock=some k→ω.f false id k)
  (h1:w'.heap[ω.box id]?=some (.cells #[.pointer (some ⟨ω.box id,0,none⟩),v'] e (0,0))) (h2:BytesAt w' t v' n (Lib.byteCells l)) (h3:v'.ownBlock≠some (ω.box id)) (h4:Moved w w' v v') (h5:KeptBut (fun k=>k=ω.box id∨v.ownBlock=some k) w w') :
  ∃ω',CI P w0 m0 F0 {s with box:=sput id [.ptr id 0,.byt t l] s.box} a w' m ω'∧ω'.box=ω.box∧ω'.row=ω.row:=by
 refine h.boxGrow hb h5.os h5.tape h5.output h5.size (fun k hk hn=>h5.block k hk ?_) h1 rfl (fun j k=>j=1∧v'.ownBlock=some k) (fun j k hj=>⟨?_,fun e'=>h3 (e'▸hj.2)⟩) (fun j j' k hj hj'=>hj.1.trans hj'.1.symm) fun j x hx=>?_
 ·rintro (rfl|hk2)
  ·exact hn hf
  ·exact hn (ho k hk2)
 ·rcases h4 with h4|⟨k',h6,h7,h8⟩
  ·exact .inl (ho k (h4▸hj.2))
  ·rw [h6] at hj
   obtain ⟨_,hj⟩:=hj
   injection hj with hj
   subst hj
   exact .inr ⟨h7,h8⟩
 ·match j,hx with
  | 0,hx =>
   simp only [List.getElem?_cons_zero,Option.some.injEq] at hx
   subst hx
   exact ⟨_,rfl,rfl⟩
  | 1,hx =>
   simp only [List.getElem?_cons_succ,List.getElem?_cons_zero,Option.some.injEq] at hx
   subst hx
   refine ⟨_,rfl,?_⟩
   have q:=byT_of h2
   show ByT w' (fun k=>1=1∧v'.ownBlock=some k) v' t l
   refine q.imp (fun q=>q) fun ⟨g,cap,cur,q1,q2⟩=>⟨g,cap,cur,⟨rfl,q1⟩,q2⟩
  | k+2,hx=>simp at hx
theorem strCells_bytes (s:ByteArray):Lib.strCells s=Lib.byteCells s.data.toList:=rfl
theorem byteCells_app (a b:List UInt8):Lib.byteCells a++Lib.byteCells b=Lib.byteCells (a++b):=by simp [Lib.byteCells]
theorem arep_ws {m:Mem} {ω:Wh} (n:Int):ARep m ω (.tuple #[.int .i64 n,.nilIface]) (.tup [.one (.int .i64 n),.one .any]):=by
 refine ⟨_,rfl,rfl,fun j x hx=>?_⟩
 match j,hx with
 | 0,hx =>
  simp only [List.getElem?_cons_zero,Option.some.injEq] at hx
  subst hx
  exact ⟨_,rfl,Rep.int _ _⟩
 | 1,hx =>
  simp only [List.getElem?_cons_succ,List.getElem?_cons_zero,Option.some.injEq] at hx
  subst hx
  exact ⟨_,rfl,Rep.any _ rfl⟩
 | k+2,hx=>simp at hx
theorem writeString_satM (l:List UInt8) (s:ByteArray) (hlen:l.length+s.size≤140737488355328) :
  SatM Tryz.prog 60 [.one (.ptr 1000 0),.one (.str s)] [(1000,[.ptr 1000 0,.byt tB l])] [] (.tup [.one (.int .i64 s.size),.one .any]) [(1000,[.ptr 1000 0,.byt tB (l++s.data.toList)])] []:=by
 refine ⟨fun m w vs ω hC hA=>?_⟩
 obtain ⟨a,b,rfl,ha,hb⟩:=args2 hA
 have ha:a=.pointer (some ⟨ω.box 1000,0,none⟩):=ha
 have hb:b=.string s:=erep_str' hb
 subst ha;subst hb
 obtain ⟨p,v,e,h1,h2,⟨G0,h3⟩,h4,h5,h6⟩:=bld_box (hC.box 1000 _ rfl)
 have h3:p=.pointer (some ⟨ω.box 1000,0,none⟩):=h3
 subst h3
 refine ws_call Tryz.func60 rfl (by kernel_rfl) ((Any.ws_used Tryz.bld166 Tryz.bldX (ω.box 1000) e v l.length (Lib.byteCells l) s w h1 h4 h5 hlen).mono fun en w' ⟨he,v',k1,k2,k3,k4,k5⟩=>⟨_,he,?_⟩)
 rw [strCells_bytes,byteCells_app] at k2
 obtain ⟨ω',q1,q2,q3⟩:=bld_after hC rfl h2 h6 k1 k2 k3 k4 k5
 exact ⟨m,ω',q1,arep_ws _⟩
theorem string_satM (l:List UInt8) (h0:l≠[]):SatM Tryz.prog 62 [.one (.ptr 1000 0)] [(1000,[.ptr 1000 0,.byt tB l])] [] (.v (.one (.str ⟨l.toArray⟩))) [] []:=by
 refine ⟨fun m w vs ω hC hA=>?_⟩
 obtain rfl:vs=[.pointer (some ⟨ω.box 1000,0,none⟩)]:=args1 hA fun v h=>h
 obtain ⟨p,v,e,h1,h2,⟨G0,h3⟩,h4,h5,h6⟩:=bld_box (hC.box 1000 _ rfl)
 refine ws_call Tryz.func62 rfl (by kernel_rfl) ((Any.str_all Tryz.bld169 Tryz.bldX (ω.box 1000) e p v l w h1 h4 h0).mono fun en w' ⟨he,g,k1,k2⟩=>⟨_,he,?_⟩)
 have hlive:(roots [(1000,[L.ptr 1000 0,.byt tB l])] []).live false 1000:=rfl
 obtain ⟨f1,f2,f3⟩:=hC.fresh false 1000 hlive g (h6 g k1)
 have hW:CI Tryz.prog w m (handed [(1000,[L.ptr 1000 0,.byt tB l])] [] ω) (roots [] []) a0 w m ω:=hC.weaken rfl (fun _ _ h=>h) (fun i ls h=>by cases h) (fun i ls h=>by cases h)
 exact ⟨m,ω,hW.touch k2 f2 (fun κ id hl=>by cases κ<;>cases hl) f3,Rep.str _⟩
end
section
open Go.Proofs Go.RowKit Go.Shelf
section
variable {P:Program} {T:TypeId→Option TI} {w0:World} {m0:Mem} {F0:Home} {s s':St} {a:Act} {w w':World} {m:Mem} {ω:Wh}
def StepsX (P:Program) (Q:Exit→Act→World→Prop):List Oper→Act→World→(Act→World→Prop)→Prop
 | [],a,w,K=>K a w
 | o::l,a,w,K=>o.guard=none∧o.wp P a w (fun a' w'=>StepsX P Q l a' w' K) Q
theorem StepsX_sound {ops:Array Oper} {Q:Exit→Act→World→Prop}:∀(l:List Oper) (k:Nat) (a:Act) (w:World),ops.toList.drop k=l→StepsX P Q l a w (Q .normal)→wpOps P ops Q (List.range' k l.length) a w
 | [],k,a,w,_,h=>h
 | o::l,k,a,w,hl,h=>by
  have hk:ops[k]?=some o:=by
   have:(ops.toList.drop k)[0]?=some o:=by rw [hl];rfl
   simpa [List.getElem?_drop] using this
  have hl':ops.toList.drop (k+1)=l:=by
   have:(ops.toList.drop k).drop 1=l:=by rw [hl];rfl
   simpa [List.drop_drop] using this
  obtain ⟨hg,h⟩:=h
  simp only [List.length_cons,List.range'_succ,wpOps,hk]
  have hw:Region.wanted o (yielded ops a.tmps)=true:=by simp [Region.wanted,hg]
  rw [if_pos hw]
  exact .inl (Oper.wp_mono (fun a' w' h=>StepsX_sound l (k+1) a' w' hl' h) h)
theorem wp_regionX {id:Nat} {l:List Oper} {Q:Exit→Act→World→Prop} (h:StepsX P Q l a w (Q .normal)):(Code.region id l.toArray false).wp P Q a w:=by
 refine wp_region ?_
 have:=StepsX_sound (ops:=l.toArray) l 0 a w (by simp) h
 have hlen:l.length=l.toArray.size:=by simp
 rwa [←List.range_eq_range',hlen] at this
theorem run_alloc {o:Oper} {e:TypeId} {inf:TypeInfo} {z:Value} (ho:o.op=.alloc e) (g1:P.info? e=some inf) (g2:inf.zero=some z) :
  (execOp a.eval o).run P w=.ok (.value (.pointer (some ⟨w.heap.size,0,none⟩))) (w.alloc (.cells z.cells e (0,0))):=by
 unfold execOp
 simp only [ho,Instr.alloc,zeroValue,typeInfo,program,newVar,newRow,newObj,Sem.run_bind,Sem.run,Result.andThen_ok,Sem.run_pure,g1,g2]
 rfl
theorem gives_callK {o:Oper} {c:Call} {f:FuncId} {xs:List V} {r:A} (ho:o.op=.call c) (h:CI P w0 m0 F0 s a w m ω) (hc:callOf T s c=some (f,xs)) (hS:Sat P f xs r) :
  Gives P o a w fun v w'=>∃m',CI P w0 m0 F0 s a w' m' ω∧ARep m' ω v (r.map L.clos)∧∀k,k<w.heap.size→w'.heap[k]?=w.heap[k]?:=by
 obtain ⟨vs,h1,h2⟩:=callOf_sound ho h hc
 refine (gives_of_callsR h1 (hS.call m w vs ω (CI.none h.goodN h.ok) h2)).mono fun v w' hp=>?_
 obtain ⟨m',ω',hC,hv⟩:=hp
 exact ⟨m',h.grow ⟨hC.keeps.os,hC.keeps.tape,hC.keeps.output,hC.keeps.size,fun k hk=>hC.keeps.block k hk owned_none⟩ hC.mle (fun x hx=>hC.mold x hx owned_none) hC.ok,hv.map fun v l hl=>L.clos_e hl,fun k hk=>hC.keeps.block k hk owned_none⟩
end
abbrev tBld:TypeId:=116
set_option maxHeartbeats 2000000 in
theorem bld_start {w0:World} {m0:Mem} {F0:Home} {Q:Exit→St→Prop} {c:Code} {i1 i2:Nat} {o1 o2 o3 o4 o5:Oper} {e:ByteArray} {sz:Nat} {xs:List (List L)} (hl:xs.length≤1048576)
  (h1:o1.op=.alloc tBld∧o1.dst=some 3∧o1.guard=none) (h2:o2.op=.move (.tmp 0)∧o2.dst=some 6∧o2.guard=none)
  (h3:o3.op=.call {callee:=.builtin .len,args:=#[.tmp 6],argTypes:=#[68]}∧o3.dst=some 7∧o3.guard=none)
  (h4:o4.op=.call {callee:=.value (.func 61),args:=#[.tmp 7],argTypes:=#[3]}∧o4.dst=some 8∧o4.guard=none)
  (h5:o5.op=.call {callee:=.value (.func 60),args:=#[.tmp 3,.tmp 8],argTypes:=#[tBld,9]}∧o5.dst=some 9∧o5.guard=none)
  (H:AWP Tryz.prog w0 m0 F0 c Q ⟨38,[(0,.v (.one (.sl sz xs))),(3,.v (.one (.ptr 3 0)))],[(3,[.ptr 3 0,.byt tB (Lib.itoa xs.length)])],[]⟩) :
  AWP Tryz.prog w0 m0 F0 (.seq (.region i1 #[o1] false) (.seq (.region i2 #[o2,o3,o4,o5] false) c)) Q ⟨38,[(2,.v (.one (.str e))),(0,.v (.one (.sl sz xs)))],[],[]⟩:=by
 intro a w ⟨m,ω,hC⟩
 refine wp_seq (wp_regionX (l:=[o1]) ⟨h1.2.2,?_⟩)
 -- the new builder
 have hT:tiOk Tryz.prog tBld _=true:=tyOk tBld _ rfl
 obtain ⟨inf,z,g1,g2,g3,_⟩:=(tiFacts hT).zero _ rfl
 have hz:z.cells=#[.pointer none,.slice none 0 0]:=by
  have e1:(Tryz.prog.info? tBld).map (·.zero)=some (some (.agg #[.pointer none,.slice none 0 0])):=by kernel_rfl
  rw [g1] at e1
  have e2:some z=some (.agg #[.pointer none,.slice none 0 0]):=g2.symm.trans (Option.some.inj e1)
  rw [Option.some.inj e2]
  rfl
 have hrun:=run_alloc (P:=Tryz.prog) (a:=a) (w:=w) h1.1 g1 g2
 refine gives_of_run (R:=fun v w'=>v=.pointer (some ⟨w.heap.size,0,none⟩)∧w'=w.alloc (.cells z.cells tBld (0,0))) hrun ⟨rfl,rfl⟩ _ _ fun v w1 ⟨hv,hw1⟩=>?_
 obtain ⟨ω1,hC1,hb1⟩:=hC.newBox 3 (by show 3<38;decide) z.cells tBld [.nilp,.nil 1] (by rw [hz];rfl) fun j l hj=>by
  rw [hz]
  match j,hj with
  | 0,hj=>simp only [List.getElem?_cons_zero,Option.some.injEq] at hj;subst hj;exact ⟨_,rfl,Rep.nilp⟩
  | 1,hj=>simp only [List.getElem?_cons_succ,List.getElem?_cons_zero,Option.some.injEq] at hj;subst hj;exact ⟨_,rfl,Rep.nil _⟩
  | k+2,hj=>simp at hj
 rw [←hw1] at hC1
 have hblk:w1.heap[ω1.box 3]?=some (.cells #[.pointer none,.slice none 0 0] tBld (0,0)):=by
  rw [hw1,hb1,hz]
  exact heap_alloc_new w _
 clear hrun hw1
 have hC2':=hC1.put (d:=3) (v:=v) (x:=.v (.one (.ptr 3 0))) (by show 3<38;decide) (by rw [hv];show _=_;rw [hb1])
 have hC2:CI Tryz.prog w0 m0 F0 ⟨38,[(3,.v (.one (.ptr 3 0))),(0,.v (.one (.sl sz xs)))],[(3,[.nilp,.nil 1])],[]⟩ (a.put (some 3) v) w1 m ω1:=by
  exact hC2'.weaken rfl (allIn_look ⟨rfl,rfl,trivial⟩) (allIn_look ⟨rfl,trivial⟩) (fun t x ht=>by cases ht)
 clear hC2' hC1
 rw [h1.2.1]
 refine wp_seq (wp_regionX (l:=[o2,o3,o4,o5]) ⟨h2.2.2,?_⟩)
 -- the row, its length
 obtain ⟨_,k2⟩:=givesA_move (P:=Tryz.prog) (T:=TT) (o:=o2) h2.1 hC2 (y:=.v (.one (.sl sz xs))) rfl
 obtain ⟨v2,m2,r2,hC3,a2⟩:=k2 (by simp [plainOp,h2.1])
 refine gives_of_run (R:=fun v w'=>v=v2∧w'=w1) r2 ⟨rfl,rfl⟩ _ _ fun v' w' ⟨e1,e2⟩=>?_
 rw [e1,e2]
 clear e1 e2
 rw [h2.2.1]
 have hC4:=hC3.put (d:=6) (by show 6<38;decide) a2
 refine ⟨h3.2.2,?_⟩
 obtain ⟨_,k3⟩:=givesA_len (P:=Tryz.prog) (T:=TT) (o:=o3) h3.1 (tyOk 68 _ rfl) hC4 (l:=.sl sz xs) rfl rfl rfl
 obtain ⟨v3,m3,r3,hC5,a3⟩:=k3 (by simp [plainOp,h3.1])
 refine gives_of_run (R:=fun v w'=>v=v3∧w'=w1) r3 ⟨rfl,rfl⟩ _ _ fun v' w' ⟨e1,e2⟩=>?_
 rw [e1,e2]
 clear e1 e2
 rw [h3.2.1]
 have hC6:=hC5.put (d:=7) (by show 7<38;decide) a3
 -- the numeral
 refine ⟨h4.2.2,?_⟩
 refine gives_callK (T:=TT) h4.1 hC6 (f:=61) (xs:=[.one (.int .i64 xs.length)]) rfl (itoa_sat xs.length (by omega) (by omega)) _ _ fun v4 w4 ⟨m4,hC7,a4,hk⟩=>?_
 rw [h4.2.1]
 have hC8:=hC7.put (d:=8) (by show 8<38;decide) a4
 have hlt:ω1.box 3<w1.heap.size:=by
  rcases Nat.lt_or_ge (ω1.box 3) w1.heap.size with h'|h'
  ·exact h'
  ·rw [Array.getElem?_eq_none h'] at hblk;cases hblk
 have hblk4:=(hk _ hlt).trans hblk
 -- the first write
 refine ⟨h5.2.2,?_⟩
 have hv4:v4=.string (itoaB xs.length):=erep_str' (ω:=ω1) a4
 have hrun:∀aa:Act,aa.eval (.tmp 3)=.pointer (some ⟨ω1.box 3,0,none⟩)→aa.eval (.tmp 8)=.string (itoaB xs.length)→(execOp aa.eval o5).run Tryz.prog w4=(callFunc 60 #[.pointer (some ⟨ω1.box 3,0,none⟩),.string (itoaB xs.length)]).run Tryz.prog w4:=by
  intro aa q1 q2
  have qf:aa.eval (.func 60)=.func (.func 60) #[] #[]:=rfl
  unfold execOp
  simp only [h5.1,qf,resolve,Deferred.ofValue,Sem.run_bind,Sem.run_pure,Result.andThen_ok,invoke,List.map_toArray,List.map_cons,List.map_nil,q1,q2]
  congr 2
 have hsz:(itoaB xs.length).size=(Lib.itoa xs.length).length:=by
  show (itoaB xs.length).data.size=_
  rw [←Array.length_toList]
  simp [itoaB]
 have hws:=(Any.ws_fresh Tryz.bld166 Tryz.bldX (ω1.box 3) (.slice none 0 0) 0 [] (itoaB xs.length) w4 hblk4 ⟨rfl,.inl ⟨rfl,rfl⟩⟩ (by simp [Value.ownBlock]) (by rw [hsz];have:=Lib.itoa_length_le xs.length (by omega) (by omega);omega))
 have e0:([]:List Value)++Lib.strCells (itoaB xs.length)=Lib.byteCells (Lib.itoa xs.length):=by simp [strCells_bytes,itoaB]
 rw [e0] at hws
 have hcr:=ws_call (R:=fun v w'=>v=.tuple #[.int .i64 (itoaB xs.length).size,.nilIface]∧∃v',w'.heap[ω1.box 3]?=some (.cells #[.pointer (some ⟨ω1.box 3,0,none⟩),v'] tBld (0,0))∧BytesAt w' tB v' (0+(itoaB xs.length).size) (Lib.byteCells (Lib.itoa xs.length))∧v'.ownBlock≠some (ω1.box 3)∧Moved w4 w' (.slice none 0 0) v'∧KeptBut (fun k=>k=ω1.box 3∨(Value.slice none 0 0).ownBlock=some k) w4 w')
  Tryz.func60 rfl (by kernel_rfl) (hws.mono fun en w' ⟨he,h⟩=>⟨_,he,rfl,h⟩)
 refine gives_of_callsR (hrun _ ?_ ?_) hcr _ _ fun v5 w5 ⟨hv5,v',k1,k2,k3,k4,k5⟩=>?_
 ·exact hC8.env 3 (.v (.one (.ptr 3 0))) rfl
 ·exact erep_str' (ω:=ω1) (hC8.env 8 (.v (.one (.str (itoaB xs.length)))) rfl)
 rw [h5.2.1]
 obtain ⟨_,_,_,_,hf3,_⟩:=hC8.box 3 [.nilp,.nil 1] rfl
 obtain ⟨ω',hC9,q2,q3⟩:=bld_after hC8 (id:=3) (ls0:=[.nilp,.nil 1]) rfl hf3 (fun k hk=>by cases hk) k1 k2 k3 k4 k5
 have hC10:=hC9.put (d:=9) (by show 9<38;decide) (hv5▸arep_ws (m:=m4) (ω:=ω') _)
 refine H _ _ (Conc.le ⟨m4,ω',hC10⟩ ⟨rfl,allIn_look ⟨rfl,rfl,trivial⟩,allIn_look ⟨rfl,trivial⟩,fun t x ht=>by cases ht⟩)
end
def cellB (v:Val):ByteArray:=(((((⟨#[124]⟩:ByteArray)++itoaB v.kind++⟨#[44]⟩)++itoaB v.int++⟨#[44]⟩)++itoaB (v.text.size:Int))++⟨#[44]⟩)++v.text
def encL (r:Row) (k:Nat):List UInt8:=Lib.itoa r.length++((r.take k).map fun v=>(cellB v).data.toList).flatten
def encB (r:Row):ByteArray:=⟨(encL r r.length).toArray⟩
theorem itoaB_size (n:Int) (h0:-9223372036854775808≤n) (h1:n≤9223372036854775807):(itoaB n).size≤21:=by
 have e:(itoaB n).size=(Lib.itoa n).length:=by
  show (itoaB n).data.size=_
  rw [←Array.length_toList]
  simp [itoaB]
 rw [e]
 exact Lib.itoa_length_le n h0 h1
theorem cellB_size {v:Val} (h:ValFits v):(cellB v).size≤1048643:=by
 have h1:=itoaB_size v.kind h.k0 h.k1
 have h2:=itoaB_size v.int h.i0 h.i1
 have h3:=itoaB_size (v.text.size:Int) (by omega) (by have:=h.t;omega)
 have h4:=h.t
 have b1:(⟨#[124]⟩:ByteArray).size=1:=rfl
 have b2:(⟨#[44]⟩:ByteArray).size=1:=rfl
 simp only [cellB,ByteArray.size_append,b1,b2]
 omega
theorem encL_zero (r:Row):encL r 0=Lib.itoa r.length:=by simp [encL]
theorem encL_succ {r:Row} {k:Nat} (h:k<r.length):encL r (k+1)=encL r k++(cellB r[k]).data.toList:=by
 rw [encL,take_snoc r k h,List.map_append,List.flatten_append,encL]
 simp only [List.map_cons,List.map_nil,List.flatten_cons,List.flatten_nil,List.append_nil,List.append_assoc]
theorem encL_le {r:Row} (h:RowFits r):∀k,k≤r.length→(encL r k).length≤21+k * 1048643
 | 0,_=>by
  rw [encL_zero]
  have:=Lib.itoa_length_le r.length (by omega) (by have:=h.n;omega)
  omega
 | k+1,hk=>by
  rw [encL_succ (by omega),List.length_append]
  have h1:=encL_le h k (by omega)
  have h2:=cellB_size (h.v r[k] (List.getElem_mem _))
  have h3:(cellB r[k]).data.toList.length=(cellB r[k]).size:=Array.length_toList
  omega
theorem encL_ne (r:Row) (k:Nat):encL r k≠[]:=by
 unfold encL
 intro h
 exact itoa_ne _ (List.append_eq_nil_iff.1 h).1
set_option maxHeartbeats 8000000 in
theorem encode_sat (r:Row) (hr:RowFits r):Sat Tryz.prog 29 [.one (eRow r)] (.v (.one (.str (encB r)))):=by
 have hn:=hr.n
 refine ZE Tryz.func29 Tryz.ntmps29 fun w0 m0 F0=>?_
 refine qA ?_
 refine qV tyOk fun K hK=>?_
 refine ZU Z0 ?_
 refine hK _ (qB ?_)
 try clear hK K
 refine bld_start (by simpa using hn) ⟨rfl,rfl,rfl⟩ ⟨rfl,rfl,rfl⟩ ⟨rfl,rfl,rfl⟩ ⟨rfl,rfl,rfl⟩ ⟨rfl,rfl,rfl⟩ ?_
 refine ZWp Z0 Z0 ?_;repeat' (first|apply Zb|apply Zn|(apply Zm;intro h)|(apply Zk;intro K hK))
 refine AWP.loop (ι:={k:Nat // k≤r.length}) (fun k=>⟨38,[(3,.v (.one (.ptr 3 0))),(10,.v (.one (eRow r))),(11,.v (oI r.length)),(12,.v (oI k.1))],[(3,[.ptr 3 0,.byt tB (encL r k.1)])],[]⟩) (fun k=>r.length - k.1) ⟨0,Nat.zero_le _⟩ ?_ fun ⟨k,hkl⟩=>?_
 ·exact ZL (Z1 @encL_zero)
 simp only
 rcases Nat.lt_or_ge k r.length with hc|hc
 ·have hv:=hr.v r[k] (List.getElem_mem _)
  have hs:=cellB_size hv
  have hL:=encL_le hr k hkl
  have ws:=writeString_satM (encL r k) (cellB r[k]) (by omega)
  have es:=encL_succ hc
  have i1:=itoa_sat r[k].kind hv.k0 hv.k1
  have i2:=itoa_sat r[k].int hv.i0 hv.i1
  have i3:=itoa_sat (r[k].text.size:Int) (by omega) (by have:=hv.t;omega)
  have z1:=itoaB_size r[k].kind hv.k0 hv.k1
  have z2:=itoaB_size r[k].int hv.i0 hv.i1
  have z3:=itoaB_size (r[k].text.size:Int) (by omega) (by have:=hv.t;omega)
  have z4:=hv.t
  have b1:(⟨#[124]⟩:ByteArray).size=1:=rfl
  have b2:(⟨#[44]⟩:ByteArray).size=1:=rfl
  unfold cellB at ws
  refine ZVp Z0 Z0 (Z1 (Zs 6)) Z0 ?_;repeat' (first|apply Zb|apply Zn|(apply Zm;intro h)|(apply Zk;intro K hK))
  refine dX tyOk mixed [(0,2),(5,2),(10,3),(16,2)] [(2,[(3,2)],[(5,2),(10,3),(16,2)]),(7,[(8,2)],[(3,2),(10,3),(16,2)]),(13,[(14,2),(18,1)],[(3,2),(8,2),(16,2)]),(19,[],[])] [2,7,13,19] 8 fun K hK=>?_
  simp only [SG,segs] at hK ⊢
  refine ZU (Z3 @ByteArray.size_append @b1 @b2) ?_
  refine ZVp (Z8 @ByteArray.size_append @b1 @b2 @okIds_ptr @okIds_byt @dropL_nil @dropL_nil' @dropL_cons) (Z3 (i1) (i2) (i3)) Z0 (Z1 (Zi [(1000,3)] [] [(1000,3)] [] [] [] [3,3] [] (ws))) ?_;repeat' (first|apply Zb|apply Zn|(apply Zm;intro h)|(apply Zk;intro K hK))
  refine ⟨⟨k+1,by omega⟩,by simp only;omega,?_⟩
  have ef:cellB r[k]=(((((⟨#[124]⟩:ByteArray)++itoaB r[k].kind++⟨#[44]⟩)++itoaB r[k].int++⟨#[44]⟩)++itoaB (r[k].text.size:Int))++⟨#[44]⟩)++r[k].text:=rfl
  rw [←ef]
  exact ZL (Z1 @es)
 ·have hk:k=r.length:=by omega
  subst hk
  refine ZVp (Z5 @okIds_ptr @okIds_byt @dropL_nil @dropL_nil' @dropL_cons) Z0 Z0 (Z1 (Zi [(1000,3)] [] [] [] [3] [] [3] [] (string_satM (encL r r.length) (encL_ne r r.length)))) ?_;repeat' (first|apply Zb|apply Zn|(apply Zm;intro h)|(apply Zk;intro K hK))
  refine ZR (Z1 Tryz.results29) ?_
  rfl
theorem eqRows1_sat (r:Row) (h:RowFits r):Sat Tryz.prog 111 [.one (eRow r),.one (eRow r)] (.v (oB true)):=by
 refine ZE Tryz.func111 Tryz.ntmps111 fun w0 m0 F0=>?_
 refine ZWpy Z0 (Z1 (encode_sat r h)) ?_;repeat' (first|apply Zb|apply Zn|(apply Zm;intro h))
 exact ZQ (Z1 Tryz.results111)
theorem eqRows_sat (l:List Row) (hlen:l.length≤140737488355328) (h:∀r∈l,RowFits r):Sat Tryz.prog 65 [.one (eRows l),.one (eRows l)] (.v (oB true)):=by
 have hq:=equalSelfRow_sat l 111 hlen fun r hr=>eqRows1_sat r (h r hr)
 refine ZE Tryz.func65 Tryz.ntmps65 fun w0 m0 F0=>?_
 refine ZWpy Z0 (Z1 (hq)) ?_;repeat' (first|apply Zb|apply Zn|(apply Zm;intro h))
 exact ZQ (Z1 Tryz.results65)
theorem eqInst1_sat (r:Rel) (h:RelF r):Sat Tryz.prog 64 [.agg (eRel r),.agg (eRel r)] (.v (oB true)):=by
 have hn:=h.1
 refine ZE Tryz.func64 Tryz.ntmps64 fun w0 m0 F0=>?_
 refine ZWpy Z0 (Z1 (eqRows_sat r.rows (by omega) h.2)) ?_;repeat' (first|apply Zb|apply Zn|(apply Zm;intro h))
 all_goals simp -dsimp (disch:=first|exact D|fail) only [retQ,Tryz.results64,resVals,cellRV,resOf,St.rest,St.freeze,RT,go_sem,↓reduceIte,seval]
 all_goals simp_all
theorem eqInst_sat (i:Inst) (hlen:i.length≤1048576) (h:∀r∈i,RelF r):Sat Tryz.prog 30 [.one (eInst i),.one (eInst i)] (.v (oB true)):=by
 have hq:=equalSelfRel_sat i 64 (by omega) fun r hr=>eqInst1_sat r (h r hr)
 refine ZE Tryz.func30 Tryz.ntmps30 fun w0 m0 F0=>?_
 refine ZWpy Z0 (Z1 (hq)) ?_;repeat' (first|apply Zb|apply Zn|(apply Zm;intro h))
 exact ZQ (Z1 Tryz.results30)
def outF (a:Sch) (inn:Inst) (t:Tbl):Rel:=⟨t.name,if 0≤tblAt a.tables t.name then (instTbl a inn t.name).2 else []⟩
def out0 (a b:Sch) (inn:Inst):Inst:=b.tables.map (outF a inn)
def outK (a b:Sch) (inn:Inst) (k:Nat):Inst:=(b.tables.take k).map (outF a inn)++(b.tables.drop k).map fun t=>⟨t.name,[]⟩
theorem outK_len (a b:Sch) (inn:Inst) (k:Nat) (hk:k≤b.tables.length):(outK a b inn k).length=b.tables.length:=by unfold outK;simp;omega
theorem outK_get (a b:Sch) (inn:Inst) (k:Nat) (hk:k<b.tables.length):((outK a b inn k).map eRel).getD k []=[.str b.tables[k].name,.sl 1 []]:=by
 rw [getD_map_lt _ _ _ (by rw [outK_len a b inn k (by omega)];exact hk)]
 unfold outK
 rw [List.getElem_append_right (by simp;omega)]
 simp [show min k b.tables.length=k by omega,eRel,eRows]
theorem outK_set (a b:Sch) (inn:Inst) (k:Nat) (hk:k<b.tables.length):((outK a b inn k).map eRel).set k (eRel (outF a inn b.tables[k]))=(outK a b inn (k+1)).map eRel:=by
 unfold outK
 rw [take_snoc b.tables k hk,List.drop_eq_getElem_cons hk]
 simp only [List.map_append,List.map_cons,List.map_nil,List.append_assoc,List.cons_append,List.nil_append]
 rw [List.set_append_right _ _ (by simp;omega)]
 have e0:k - (((b.tables.take k).map (outF a inn)).map eRel).length=0:=by simp;omega
 rw [e0]
 rfl
theorem outK_same (a b:Sch) (inn:Inst) (k:Nat) (hk:k<b.tables.length) (h:¬ 0≤tblAt a.tables b.tables[k].name):outK a b inn (k+1)=outK a b inn k:=by
 have e:outF a inn b.tables[k]=⟨b.tables[k].name,[]⟩:=by unfold outF;rw [if_neg h]
 unfold outK
 rw [take_snoc b.tables k hk,List.drop_eq_getElem_cons hk]
 simp only [List.map_append,List.map_cons,List.map_nil,List.append_assoc,List.cons_append,List.nil_append,e]
end Go.Bw
