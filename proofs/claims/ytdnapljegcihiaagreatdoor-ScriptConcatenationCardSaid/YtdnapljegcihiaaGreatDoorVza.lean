/-
  WHAT IS PROVED HERE, of this translation: evApply_5, Small.fits, dispatch_ins, dispatch_rem, comp0, b0b, b0d, Stp.Ok.fits, rd_stp, Edg.Ok.fits, Gr.Ok.fits.
  A theorem that ends in sat says what the function it names returns, whatever the state it is called in; the bounds on its arguments stand ahead of it.
-/
import Derived.Test.YtdnapljegcihiaaGreatDoorVv
import Derived.Test.YtdnapljegcihiaaGreatDoorVw
set_option linter.unusedSimpArgs false
set_option linter.unusedVariables false
namespace Go.Bw
open Go.Proofs
set_option maxHeartbeats 32000000 in
theorem evApply_5 (s:Sch) (st:Stp) (sm:SmallS s) (hf:st.Fits) (hpk:∀t∈s.tables,PkOk t) (hk:st.kind≠13∧st.kind≠14∧st.kind≠15∧st.kind≠16∧st.kind≠10) (j:Nat) (hj:j<s.tables.length) (h0:tblAt s.tables st.table=(j:Int)) (hq:st.kind=12∨st.kind=1) :
  SatM Tryz.prog 38 [.one (.ptr 1000 0),.agg (eStp st)] (iB s) (iR s) (.v (oI (rE (evApply s st)))) (oBE (evApply s st)) (oRE (evApply s st)):=by
 have b1:=sm.tables
 have b3:=sm.fks
 have b4:=sm.cons
 have b5:∀f∈s.fks,f.cols.length≤1048576:=fun f hf=>by have:=(sm.fk f hf).1;omega
 have hc:=hf.cols
 have fs:=findTable_sat s st.table (by omega)
 rw [h0,mx0_nat,decide_eq_true (show (0:Int)≤(j:Int) by omega)] at fs
 have s0:evApply s st=(if st.kind=4 then renameT s j st.newName else if st.kind=6 then splitT s j st else if st.kind=7 then joinT s j st.other else if st.kind=8 then partT s j st else if st.kind=9 then mergeT s j st else if st.kind=11 then dropT s st.table else if st.kind=12 then concatC s j st else if st.kind=1 then addC s j st else alterC s j st):=by
  unfold evApply;rw [if_neg hk.1,if_neg hk.2.1,if_neg hk.2.2.1,if_neg hk.2.2.2.1,if_neg hk.2.2.2.2];simp only [h0,Int.toNat_natCast];rw [if_neg (by omega)]
 obtain ⟨n1,n2,n3,n4,n5⟩:=hk
 rcases hq with hq|hq
 ·have spec:evApply s st=concatC s j st:=by rw [s0,if_neg (by omega),if_neg (by omega),if_neg (by omega),if_neg (by omega),if_neg (by omega),if_neg (by omega),if_pos hq]
  have C:=concatColumns_satM s j st hj sm (by omega)
  rw [spec]
  generalize concatC s j st=r at C ⊢
  unfold iB iR at C ⊢
  refine ZM [1000] [1,2,3] Tryz.func38 Tryz.ntmps38 fun w0 m0 F0=>?_
  refine ZVp (Z3 @eStp.eq_1 @frz_eTblO @frz_eFKO) (Z1 (fs)) (Z2 (Zs 31) (Zd 14 [(0,5)] [(5,[(6,5)],[])] [5] 8)) Z0 ?_;repeat' (first|apply Zb|apply Zn|(apply Zm;intro h))
  cases r with
  | error e =>
   unfold oBE oRE rE at C ⊢
   simp only [eStp] at C ⊢
   refine ZVp (Z5 @okIds_ref @eStp.eq_1 @dropL_nil @dropL_nil' @dropL_cons) Z0 Z0 (Z1 (Zi [(1000,1000)] [(1000,1000),(1001,1001),(1002,1002)] [] [] [1000] [1000,1001,1002] [1000] [1000,1001,1002] (C))) ?_;repeat' (first|apply Zb|apply Zn|(apply Zm;intro h))
   exact ZQ (Z1 Tryz.results38)
  | ok R =>
   unfold oBE oRE oB1 oR1 rE at C ⊢
   simp only [eStp] at C ⊢
   refine ZVp (Z5 @okIds_ref @eStp.eq_1 @dropL_nil @dropL_nil' @dropL_cons) Z0 Z0 (Z1 (Zi [(1000,1000)] [(1000,1000),(1001,1001),(1002,1002)] [(1000,1000)] [(1,1),(2,2),(3,3)] [] [1000,1001,1002,1,2,3] [1000,1000] [1000,1001,1002,1,2,3] (C))) ?_;repeat' (first|apply Zb|apply Zn|(apply Zm;intro h))
   exact ZQ (Z1 Tryz.results38)
 ·have spec:evApply s st=addC s j st:=by rw [s0,if_neg (by omega),if_neg (by omega),if_neg (by omega),if_neg (by omega),if_neg (by omega),if_neg (by omega),if_neg (by omega),if_pos hq]
  have C:=addColumn_satM s j st hj sm
  rw [spec]
  generalize addC s j st=r at C ⊢
  unfold iB iR at C ⊢
  refine ZM [1000] [1,2,3] Tryz.func38 Tryz.ntmps38 fun w0 m0 F0=>?_
  refine ZVp (Z3 @eStp.eq_1 @frz_eTblO @frz_eFKO) (Z1 (fs)) (Z2 (Zs 33) (Zd 14 [(0,5)] [(5,[(6,5)],[])] [5] 8)) Z0 ?_;repeat' (first|apply Zb|apply Zn|(apply Zm;intro h))
  cases r with
  | error e =>
   unfold oBE oRE rE at C ⊢
   simp only [eStp] at C ⊢
   refine ZVp (Z5 @okIds_ref @eStp.eq_1 @dropL_nil @dropL_nil' @dropL_cons) Z0 Z0 (Z1 (Zi [(1000,1000)] [(1000,1000),(1001,1001),(1002,1002)] [] [] [1000] [1000,1001,1002] [1000] [1000,1001,1002] (C))) ?_;repeat' (first|apply Zb|apply Zn|(apply Zm;intro h))
   exact ZQ (Z1 Tryz.results38)
  | ok R =>
   unfold oBE oRE oB1 oR1 rE at C ⊢
   simp only [eStp] at C ⊢
   refine ZVp (Z5 @okIds_ref @eStp.eq_1 @dropL_nil @dropL_nil' @dropL_cons) Z0 Z0 (Z1 (Zi [(1000,1000)] [(1000,1000),(1001,1001),(1002,1002)] [(1000,1000)] [(1,1),(2,2),(3,3)] [] [1000,1001,1002,1,2,3] [1000,1000] [1000,1001,1002,1,2,3] (C))) ?_;repeat' (first|apply Zb|apply Zn|(apply Zm;intro h))
   exact ZQ (Z1 Tryz.results38)
theorem Small.fits {s:Sch} (h:Small s):s.Fits :=
 ⟨by have:=h.tables;omega,fun t ht=>by have:=h.table t ht;omega,by have:=h.fks;omega,fun f hf=>by have:=h.fk f hf;omega,by have:=h.cons;omega⟩
set_option maxHeartbeats 16000000 in
theorem dispatch_ins (st:Stp) (fwd:Bool) (a b c:Sch) (inn comp:Inst) (no nn:Nat) (X Y X2 Y2:List (List L)) (hk:st.kind=1∧fwd=true∨st.kind=2∧fwd=false)
  (R:SatM Tryz.prog 140 [.one (.ptr 1000 0)] [(1000,mB st fwd a b c inn comp no nn 0)] [(1001,⟨2,X,[]⟩),(1002,⟨2,Y,[]⟩)] (.tup []) [(1000,mB st fwd a b c inn comp no nn 0)] [(1001,⟨2,X2,[]⟩),(1002,⟨2,Y2,[]⟩)]) :
  SatM Tryz.prog 106 [.one (.ptr 1000 0)] [(1000,mB st fwd a b c inn comp no nn 0)] [(1001,⟨2,X,[]⟩),(1002,⟨2,Y,[]⟩)] (.tup []) [(1000,mB st fwd a b c inn comp no nn 0)] [(1001,⟨2,X2,[]⟩),(1002,⟨2,Y2,[]⟩)]:=by
 rw [mBX,eSchX,eSchX,eSchX] at R ⊢
 unfold eStp at R ⊢
 simp only [List.cons_append,List.nil_append] at R ⊢
 rcases hk with ⟨h1,h2⟩|⟨h1,h2⟩
 ·subst h2
  rw [h1] at R ⊢
  refine ZM [1000] [1001,1002] Tryz.func106 Tryz.ntmps106 fun w0 m0 F0=>?_
  refine ZV (Z5 @okIds_ref @okIds_fr @dropL_nil @dropL_nil' @dropL_cons) Z0 Z0 (Z1 (Zi [(1000,1000)] [(1001,1001),(1002,1002)] [(1000,1000)] [(1001,1001),(1002,1002)] [] [] [1000,1000] [1001,1002,1001,1002] (R))) ?_
  exact ZQ (Z1 Tryz.results106)
 ·subst h2
  rw [h1] at R ⊢
  refine ZM [1000] [1001,1002] Tryz.func106 Tryz.ntmps106 fun w0 m0 F0=>?_
  refine ZV (Z5 @okIds_ref @okIds_fr @dropL_nil @dropL_nil' @dropL_cons) Z0 Z0 (Z1 (Zi [(1000,1000)] [(1001,1001),(1002,1002)] [(1000,1000)] [(1001,1001),(1002,1002)] [] [] [1000,1000] [1001,1002,1001,1002] (R))) ?_
  exact ZQ (Z1 Tryz.results106)
set_option maxHeartbeats 16000000 in
theorem dispatch_rem (st:Stp) (fwd:Bool) (a b c:Sch) (inn comp:Inst) (no nn:Nat) (X Y X2 Y2:List (List L)) (hk:st.kind=2∧fwd=true∨st.kind=1∧fwd=false)
  (R:SatM Tryz.prog 141 [.one (.ptr 1000 0)] [(1000,mB st fwd a b c inn comp no nn 0)] [(1001,⟨2,X,[]⟩),(1002,⟨2,Y,[]⟩)] (.tup []) [(1000,mB st fwd a b c inn comp no nn 0)] [(1001,⟨2,X2,[]⟩),(1002,⟨2,Y2,[]⟩)]) :
  SatM Tryz.prog 106 [.one (.ptr 1000 0)] [(1000,mB st fwd a b c inn comp no nn 0)] [(1001,⟨2,X,[]⟩),(1002,⟨2,Y,[]⟩)] (.tup []) [(1000,mB st fwd a b c inn comp no nn 0)] [(1001,⟨2,X2,[]⟩),(1002,⟨2,Y2,[]⟩)]:=by
 rw [mBX,eSchX,eSchX,eSchX] at R ⊢
 unfold eStp at R ⊢
 simp only [List.cons_append,List.nil_append] at R ⊢
 rcases hk with ⟨h1,h2⟩|⟨h1,h2⟩
 ·subst h2
  rw [h1] at R ⊢
  refine ZM [1000] [1001,1002] Tryz.func106 Tryz.ntmps106 fun w0 m0 F0=>?_
  refine ZV (Z5 @okIds_ref @okIds_fr @dropL_nil @dropL_nil' @dropL_cons) Z0 Z0 (Z1 (Zi [(1000,1000)] [(1001,1001),(1002,1002)] [(1000,1000)] [(1001,1001),(1002,1002)] [] [] [1000,1000] [1001,1002,1001,1002] (R))) ?_
  exact ZQ (Z1 Tryz.results106)
 ·subst h2
  rw [h1] at R ⊢
  refine ZM [1000] [1001,1002] Tryz.func106 Tryz.ntmps106 fun w0 m0 F0=>?_
  refine ZV (Z5 @okIds_ref @okIds_fr @dropL_nil @dropL_nil' @dropL_cons) Z0 Z0 (Z1 (Zi [(1000,1000)] [(1001,1001),(1002,1002)] [(1000,1000)] [(1001,1001),(1002,1002)] [] [] [1000,1000] [1001,1002,1001,1002] (R))) ?_
  exact ZQ (Z1 Tryz.results106)
def w0T:Tbl:=⟨bPeople,[⟨k0B,1,false⟩,⟨oldB,3,true⟩],[0]⟩
def w0:Sch:=⟨[w0T],[],[]⟩
theorem comp0:compE s0 st0=.ok w0:=by kernel_rfl
theorem b0b:Bounds0 w0 (pI []):=⟨by decide,by decide,by decide,by decide,by decide,by decide⟩
theorem b0d:Bounds0 w0 (pI [rAnn]):=⟨by decide,by decide,by decide,by decide,by decide,by decide⟩
section
structure Stp.Ok (s:Stp):Prop where
 cols:s.cols.length * 8≤reachBytes
 ncols:s.newTable.cols.length * 32≤reachBytes
 npk:s.newTable.pk.length * 8≤reachBytes
 fk:s.fk.cols.length * 8≤reachBytes
theorem Stp.Ok.fits {s:Stp} (h:s.Ok):s.Fits:=by
 obtain ⟨h1,h2,h3,h4⟩:=h
 rw [reachBytes_eq] at h1 h2 h3 h4
 exact ⟨by omega,by omega,by omega,by omega⟩
variable {w:World}
theorem rd_stp:Rd Tryz.prog w 38 eStp Stp.Ok :=
 (rd_struct Tryz.underlying38 (by kernel_rfl) (rdF_cons rfl cells_int rd_I (rdF_cons rfl cells_string rd_S (rdF_cons rfl cells_string rd_S (rdF_cons rfl cells_string rd_S (rdF_cons rfl cells_string rd_S (rdF_cons rfl cells_int rd_I
  (rdF_cons rfl cells_s_int rd_ints (rdF_cons rfl cells_string rd_S (rdF_cons rfl cells_Value rd_val (rdF_cons rfl cells_Table rd_tbl (rdF_cons rfl cells_Constraint rd_con (rdF_cons rfl cells_ForeignKey rd_fk rdF_nil))))))))))))).to
  (fun p=>⟨p.1,p.2.1,p.2.2.1,p.2.2.2.1,p.2.2.2.2.1,p.2.2.2.2.2.1,p.2.2.2.2.2.2.1,p.2.2.2.2.2.2.2.1,p.2.2.2.2.2.2.2.2.1,p.2.2.2.2.2.2.2.2.2.1,p.2.2.2.2.2.2.2.2.2.2.1,p.2.2.2.2.2.2.2.2.2.2.2.1⟩)
  (fun _=>by simp [eStp,eVal,eTbl,eCon,eFK,eInts,eCols]) fun _ h=>by
   obtain ⟨_,_,_,_,_,_,⟨h1,_⟩,_,_,h2,_,h3,_⟩:=h
   obtain ⟨_,⟨k1,_⟩,⟨k2,_⟩⟩:=h2
   obtain ⟨_,⟨k3,_⟩,_⟩:=h3
   exact ⟨h1,k1,k2,k3⟩
structure Edg.Ok (e:Edg):Prop where
 steps:e.steps.length * 352≤reachBytes∧∀c∈e.steps,Stp.Ok c
theorem Edg.Ok.fits {e:Edg} (h:e.Ok):e.Fits:=by
 have h1:=h.steps.1
 rw [reachBytes_eq] at h1
 exact ⟨by omega,fun st hs=>(h.steps.2 st hs).fits⟩
structure Gr.Ok (g:Gr):Prop where
 base:g.base.Ok
 edges:g.edges.length * 32≤reachBytes∧∀c∈g.edges,Edg.Ok c
theorem Gr.Ok.fits {g:Gr} (h:g.Ok):g.Fits:=by
 have h1:=h.edges.1
 rw [reachBytes_eq] at h1
 exact ⟨h.base.fits,by omega,fun e he=>(h.edges.2 e he).fits⟩
end
end Go.Bw
