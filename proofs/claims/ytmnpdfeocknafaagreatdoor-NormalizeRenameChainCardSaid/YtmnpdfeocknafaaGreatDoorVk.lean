/- Proved: contracts of functions of this translation, for every state, and what they rest on; bounds stand ahead. -/
import Derived.Test.YtmnpdfeocknafaaGreatDoorVf
import Derived.Test.YtmnpdfeocknafaaGreatDoorVi
set_option maxHeartbeats 64000000
set_option linter.unusedSimpArgs false
set_option linter.unusedVariables false
namespace Go.Bw
open Go.Proofs
theorem MW (s:aq) (h1:s.tables.length≤1099511627776):Sat Tryz.prog 20 [.agg (aC s)] (.v (.one (bp (qI s)))):=by
 refine ZE Tryz.func20 Tryz.ntmps20 fun w0 m0 F0=>?_
 refine rj Z0 Z0 ?_;repeat' (first|apply Zb|apply Zn|(apply Zm;intro h))
 refine ab.loop (ι:={k:Nat // k≤s.tables.length}) (fun k=>⟨21,[(3,.v (.one (.ref 3 0 k.1))),(7,.v (.one (.sl 3 (s.tables.map ap)))),(8,.v (oI s.tables.length)),(9,.v (oI k.1))],[],[(3,⟨2,((qI s).take k.1).map aH,[]⟩)]⟩) (fun k=>s.tables.length - k.1) ⟨0,bg _⟩ ?_ fun ⟨k,hkl⟩=>?_
 ·exact ZL Z0
 have hl:(qI s).length=s.tables.length:=by simp [qI]
 have hlen:((qI s).take k).length=k:=by rw [rV];omega
 rcases cV k s.tables.length with hc|hc
 ·refine rj (Z1 @hlen) Z0 ?_;repeat' (first|apply Zb|apply Zn|(apply Zm;intro h))
  refine ⟨⟨k+1,by omega⟩,by simp only;omega,?_⟩
  have e:(qI s).take (k+1)=(qI s).take k++[⟨s.tables[k].name,[]⟩]:=by
   rw [qd _ _ (by omega)]
   simp [qI]
  exact ZL (Z3 @e @aH.eq_1 @bm.eq_1)
 ·have hk:k=s.tables.length:=by omega
  refine rj Z0 Z0 ?_;repeat' (first|apply Zb|apply Zn|(apply Zm;intro h))
  refine ZR (Z1 Tryz.results20) ?_
  try rw [if_pos (by omega)]
  try subst hk
  all_goals try rw [←hl,dw]
def SR (t:au) (rows:List Row):Prop:=rows.Pairwise fun a b=>pX (keyOf t.pk a) (keyOf t.pk b)<0
theorem Lu {t:au}:∀{rows:List Row},(∀j,∀h:j+1<rows.length,pX (keyOf t.pk rows[j]) (keyOf t.pk rows[j+1])<0)→SR t rows
 | [],_=>.nil
 | x::l,h=>by
  have hl:SR t l:=Lu fun j hj=>h (j+1) (by simpa using hj)
  refine .cons (fun y hy=>?_) hl
  cases l with
  | nil=>cases hy
  | cons z l =>
   have h0:pX (keyOf t.pk x) (keyOf t.pk z)<0:=by simpa using h 0 (by simp)
   rcases List.mem_cons.1 hy with rfl|hy
   ·exact h0
   ·exact sW.trans _ _ _ h0 ((List.pairwise_cons.1 hl).1 y hy)
theorem Rc {t:au} {rows:List Row} (h:SR t rows):∀j,∀hj:j+1<rows.length,pX (keyOf t.pk rows[j]) (keyOf t.pk rows[j+1])<0 :=
 fun j hj=>List.pairwise_iff_getElem.1 h j (j+1) (by omega) hj (by omega)
theorem C3 (t:au) (rows:List Row):BM t rows↔rows.length≤24∧(∀x∈rows,xw t x=0)∧SR t rows:=by
 constructor
 ·rintro ⟨h1,h2,h3⟩
  refine ⟨h1,fun x hx=>?_,Lu h3⟩
  obtain ⟨j,hj,rfl⟩:=List.mem_iff_getElem.1 hx
  exact h2 j hj
 ·rintro ⟨h1,h2,h3⟩
  exact ⟨h1,fun j hj=>h2 _ (bl hj),fun j hj=>Rc h3 j hj⟩
theorem BM.sub {t:au} {l rows:List Row} (h:BM t rows) (hs:l.Sublist rows):BM t l:=by
 obtain ⟨h1,h2,h3⟩:=(C3 _ _).1 h
 exact (C3 _ _).2 ⟨pU hs.length_le h1,fun x hx=>h2 x (hs.subset hx),Kv hs h3⟩
section
abbrev yU (n:Int):Prop:=(Lit.int .i64 n).wf=true
structure fM.Ok (v:fM):Prop where
 kind:yU v.kind
 int:yU v.int
 text:v.text.size≤reachBytes
structure gK.Ok (c:gK):Prop where
 name:c.name.size≤reachBytes
 kind:yU c.kind
structure au.Ok (t:au):Prop where
 name:t.name.size≤reachBytes
 ae:t.ae.length * 32≤reachBytes∧∀c∈t.ae,c.Ok
 pk:t.pk.length * 8≤reachBytes∧∀n∈t.pk,yU n
structure FK.Ok (f:FK):Prop where
 table:f.table.size≤reachBytes
 ae:f.ae.length * 8≤reachBytes∧∀n∈f.ae,yU n
 ref:f.ref.size≤reachBytes
structure dN.Ok (c:dN):Prop where
 table:c.table.size≤reachBytes
 left:yU c.left
 op:c.op.size≤reachBytes
 right:yU c.right
 value:c.value.Ok
structure aq.Ok (s:aq):Prop where
 tables:s.tables.length * 64≤reachBytes∧∀t∈s.tables,t.Ok
 ak:s.ak.length * 56≤reachBytes∧∀f∈s.ak,f.Ok
 cons:s.cons.length * 80≤reachBytes∧∀c∈s.cons,c.Ok
def Row.Ok (r:Row):Prop:=r.length * 32≤reachBytes∧∀v∈r,v.Ok
def Qf (rs:List Row):Prop:=rs.length * 24≤reachBytes∧∀r∈rs,Row.Ok r
structure Rel.Ok (r:Rel):Prop where
 table:r.table.size≤reachBytes
 rows:Qf r.rows
def KQ (i:cZ):Prop:=i.length * 40≤reachBytes∧∀r∈i,r.Ok
structure da.Ok (c:da):Prop where
 kind:yU c.kind
 table:c.table.size≤reachBytes
 key:Row.Ok c.key
 row:Row.Ok c.row
variable {w:World}
theorem Ab:Rd Tryz.prog w 3 (fun n=>[.int .i64 n]) yU:=TP Tryz.underlying3
theorem xz:Rd Tryz.prog w 9 (fun s=>[.str s]) fun s=>s.size≤reachBytes:=TR Tryz.underlying9
theorem xI:Tryz.prog.cellsOf 3=1:=by kernel_rfl
theorem vz:Tryz.prog.cellsOf 9=1:=by kernel_rfl
theorem Pq:Tryz.prog.cellsOf 4=1:=by kernel_rfl
theorem DS:Tryz.prog.cellsOf 35=3:=by kernel_rfl
theorem Pr:Tryz.prog.cellsOf 25=1:=by kernel_rfl
theorem Hk:Tryz.prog.cellsOf 90=3:=by kernel_rfl
theorem FO:Tryz.prog.cellsOf 23=1:=by kernel_rfl
theorem FP:Tryz.prog.cellsOf 27=3:=by kernel_rfl
theorem Qg:Tryz.prog.cellsOf 29=1:=by kernel_rfl
theorem GH:Tryz.prog.cellsOf 39=3:=by kernel_rfl
theorem Qh:Tryz.prog.cellsOf 30=1:=by kernel_rfl
theorem GI:Tryz.prog.cellsOf 37=7:=by kernel_rfl
theorem Qi:Tryz.prog.cellsOf 31=1:=by kernel_rfl
theorem MQ:Tryz.prog.cellsOf 33=3:=by kernel_rfl
theorem TX:Tryz.prog.bytesOf 3=8:=by kernel_rfl
theorem TY:Tryz.prog.bytesOf 90=32:=by kernel_rfl
theorem TZ:Tryz.prog.bytesOf 27=64:=by kernel_rfl
theorem Ua:Tryz.prog.bytesOf 39=56:=by kernel_rfl
theorem Ub:Tryz.prog.bytesOf 37=80:=by kernel_rfl
theorem rd_val:Rd Tryz.prog w 35 bd fM.Ok :=
 (DR Tryz.underlying35 ⟨rfl,rfl,rfl⟩ ⟨xI,xI,vz⟩ DS Ab Ab xz).to (fun p=>⟨p.1,p.2.1,p.2.2.1⟩) (fun _=>by simp [bd]) fun _ h=>⟨h.1,h.2.1,h.2.2.1⟩
theorem Uc:Rd Tryz.prog w 90 aT gK.Ok :=
 (DR Tryz.underlying90 ⟨rfl,rfl,rfl⟩ ⟨vz,xI,Pq⟩ Hk xz Ab (TQ Tryz.underlying4)).to (fun p=>⟨p.1,p.2.1,p.2.2.1⟩) (fun _=>by simp [aT]) fun _ h=>⟨h.1,h.2.1⟩
theorem Ud:Rd Tryz.prog w 25 (fun l=>[cS l]) fun l=>l.length * 32≤reachBytes∧∀c∈l,gK.Ok c :=
 AN Tryz.underlying25 Hk TY (fun _=>rfl) Uc
theorem Ip:Rd Tryz.prog w 23 (fun l=>[bj l]) fun l=>l.length * 8≤reachBytes∧∀c∈l,yU c :=
 AN Tryz.underlying23 xI TX (fun _=>rfl) (eβ:=aX) Ab
theorem MR:Rd Tryz.prog w 27 ap au.Ok :=
 (DR Tryz.underlying27 ⟨rfl,rfl,rfl⟩ ⟨vz,Pr,FO⟩ FP xz Ud Ip).to (fun p=>⟨p.1,p.2.1,p.2.2.1⟩) (fun _=>by simp [ap]) fun _ h=>⟨h.1,h.2.1,h.2.2.1⟩
theorem Ue:Rd Tryz.prog w 29 (fun l=>[dW l]) fun l=>l.length * 64≤reachBytes∧∀c∈l,au.Ok c :=
 AN Tryz.underlying29 FP TZ (fun _=>rfl) MR
theorem MS:Rd Tryz.prog w 39 aL FK.Ok :=
 (DR Tryz.underlying39 ⟨rfl,rfl,rfl⟩ ⟨vz,FO,vz⟩ GH xz Ip xz).to (fun p=>⟨p.1,p.2.1,p.2.2.1⟩) (fun _=>by simp [aL]) fun _ h=>⟨h.1,h.2.1,h.2.2.1⟩
theorem Uf:Rd Tryz.prog w 30 (fun l=>[dI l]) fun l=>l.length * 56≤reachBytes∧∀c∈l,FK.Ok c :=
 AN Tryz.underlying30 GH Ua (fun _=>rfl) MS
theorem MT:Rd Tryz.prog w 37 aK dN.Ok :=
 (TS Tryz.underlying37 ⟨rfl,rfl,rfl,rfl,rfl⟩ ⟨vz,xI,vz,xI,DS⟩ GI xz Ab xz Ab rd_val).to (fun p=>⟨p.1,p.2.1,p.2.2.1,p.2.2.2.1,p.2.2.2.2.1⟩) (fun _=>by simp [aK,bd]) fun _ h=>⟨h.1,h.2.1,h.2.2.1,h.2.2.2.1,h.2.2.2.2.1⟩
theorem Ug:Rd Tryz.prog w 31 (fun l=>[dy l]) fun l=>l.length * 80≤reachBytes∧∀c∈l,dN.Ok c :=
 AN Tryz.underlying31 GI Ub (fun _=>rfl) MT
theorem Qj:Rd Tryz.prog w 33 aC aq.Ok :=
 (DR Tryz.underlying33 ⟨rfl,rfl,rfl⟩ ⟨Qg,Qh,Qi⟩ MQ Ue Uf Ug).to (fun p=>⟨p.1,p.2.1,p.2.2.1⟩) (fun _=>by simp [aC]) fun _ h=>⟨h.1,h.2.1,h.2.2.1⟩
theorem yr:reachBytes=140737488351232:=rfl
theorem aq.Ok.fits {s:aq} (h:s.Ok):s.Fits:=by
 obtain ⟨⟨a1,a2⟩,⟨b1,b2⟩,⟨c1,c2⟩⟩:=h
 rw [yr] at a1 b1 c1
 refine ⟨by omega,fun t ht=>?_,by omega,fun f hf=>?_,by omega⟩
 ·obtain ⟨_,⟨h1,_⟩,⟨h2,_⟩⟩:=a2 t ht
  rw [yr] at h1 h2
  exact ⟨by omega,by omega⟩
 ·obtain ⟨_,⟨h1,_⟩,_⟩:=b2 f hf
  rw [yr] at h1
  omega
end
section
variable {w:World}
def Hl (i:cZ):Prop:=i.length≤140737488355328∧∀r∈i,r.rows.length≤140737488355328∧∀x∈r.rows,x.length≤140737488355328
theorem KQ.fits {i:cZ} (h:KQ i):Hl i:=by
 obtain ⟨a1,a2⟩:=h
 rw [yr] at a1
 refine ⟨by omega,fun r hr=>?_⟩
 obtain ⟨_,b1,b2⟩:=a2 r hr
 rw [yr] at b1
 refine ⟨by omega,fun x hx=>?_⟩
 obtain ⟨c1,_⟩:=b2 x hx
 rw [yr] at c1
 omega
end
theorem Wp (r:List gK) (h1:r.length * 32≤140737488355328):db Tryz.prog 101 [.one (cS r)] [] [] (.v (.one (.ref 2 0 r.length))) [] [(2,⟨3,r.map aT,[]⟩)]:=by
 refine ZM [] [2] Tryz.func101 Tryz.ntmps101 fun w0 m0 F0=>?_
 refine ZW Z0 Z0 ?_;repeat' (first|apply Zb|apply Zn|(apply Zk;intro K hK))
 intro b hb
 refine hK _ ?_
 try clear hK K
 refine pK Z0 Z0 ?_;repeat' (first|apply Zb|apply Zn|(apply Zm;intro h)|(apply Zk;intro K hK))
 all_goals simp -dsimp (disch:=first|exact D|fail) only [aR,Tryz.results101,aQ,aS,aO,St.rest,St.freeze,RT,go_sem,↓reduceIte,seval]
 have h2:r=[]:=by
  cases r with
  | nil=>rfl
  | cons x r=>exact absurd ((hb _ rfl (by simp)).symm.trans ‹b=true›) (by decide)
 subst h2
 exact ⟨rfl,rfl⟩
theorem QR (r:List gK) (h1:r.length * 32≤140737488355328):Sat Tryz.prog 101 [.one (cS r)] (.v (.one (cS r))) :=
 (Wp r h1).rN (by
  simp -dsimp (disch:=first|exact D|fail) only [go_sem,↓reduceIte,seval,x8,St.rest,roots,bh,cS]
  )
theorem Wq (r:List Int) (h1:r.length * 8≤140737488355328):db Tryz.prog 61 [.one (bj r)] [] [] (.v (.one (.ref 2 0 r.length))) [] [(2,⟨1,r.map aX,[]⟩)]:=by
 refine ZM [] [2] Tryz.func61 Tryz.ntmps61 fun w0 m0 F0=>?_
 refine ZW Z0 Z0 ?_;repeat' (first|apply Zb|apply Zn|(apply Zk;intro K hK))
 intro b hb
 refine hK _ ?_
 try clear hK K
 refine pK Z0 Z0 ?_;repeat' (first|apply Zb|apply Zn|(apply Zm;intro h)|(apply Zk;intro K hK))
 all_goals simp -dsimp (disch:=first|exact D|fail) only [aR,Tryz.results61,aQ,aS,aO,St.rest,St.freeze,RT,go_sem,↓reduceIte,seval]
 have h2:r=[]:=by
  cases r with
  | nil=>rfl
  | cons x r=>exact absurd ((hb _ rfl (by simp)).symm.trans ‹b=true›) (by decide)
 subst h2
 exact ⟨rfl,rfl⟩
theorem Gd (r:List Int) (h1:r.length * 8≤140737488355328):Sat Tryz.prog 61 [.one (bj r)] (.v (.one (bj r))) :=
 (Wq r h1).rN (by
  simp -dsimp (disch:=first|exact D|fail) only [go_sem,↓reduceIte,seval,x8,St.rest,roots,bh,bj]
  )
theorem QB (t:au) (h1:t.ae.length * 32≤140737488355328) (h2:t.pk.length * 8≤140737488355328):Sat Tryz.prog 62 [.agg (ap t)] (.v (.agg (ap t))):=by
 refine ZE Tryz.func62 Tryz.ntmps62 fun w0 m0 F0=>?_
 refine ZW Z0 Z0 ?_;repeat' (first|apply Zb|apply Zn|(apply Zk;intro K hK))
 refine dX ah mixed [(0,4),(5,2)] [(4,[],[(0,2),(5,2)]),(7,[(8,1)],[(0,2)]),(9,[],[])] [4,7,9] 8 fun K hK=>?_
 simp only [SG,bb] at hK ⊢
 refine ZU Z0 ?_
 refine ZV Z0 (Z2 (QR t.ae h1) (Gd t.pk h2)) Z0 Z0 ?_;repeat' (first|apply Zb|apply Zn|(apply Zk;intro K hK))
 exact ZQ (Z1 Tryz.results62)
theorem M5 (s:aq) (i:Nat) (removed:List Int) (hi:i<s.tables.length) (hr:removed.length≤1048576) (h1:s.tables.length≤1048576) (h2:s.ak.length≤1048576) (h3:s.cons.length≤1048576)
  (hcl:s.tables[i].ae.length≤1048576) (hpl:s.tables[i].pk.length≤1048576) (hp:∀c∈s.tables[i].pk,-1048576≤c∧c≤1048576)
  (hn:∀k∈s.ak,k.ae.length≤1048576) (hf:∀k∈s.ak,aw k.table s.tables[i].name=true→∀c∈k.ae,-1048576≤c∧c≤1048576) (hc:∀k∈s.cons,aw k.table s.tables[i].name=true→(-1048576≤k.left∧k.left≤1048576)∧k.right≤1048576) :
  db Tryz.prog 140 [.one (.ptr 1000 0),oI i,.one (bj removed)] (iB s) (iR s) (.cR []) (iB (rL s i removed)) (iR (rL s i removed)):=by
 obtain ⟨t,ht⟩:∃t,s.tables[i]=t:=⟨_,rfl⟩
 have htA:bq s i=t:=by unfold bq;rw [bE _ hi,ht]
 rw [ht] at hcl hpl hp hf hc
 have rc:=Nq ⟨s.tables,s.ak,s.cons⟩ (qk s.tables i ⟨t.name,sh removed t.ae 0,t.pk.map (rz removed)⟩) s.tables.length t.name (rz removed) 188 [[bj removed]] h2 h3 hn
  (fun k hk hT c hc'=>Gf removed c hr (hf k hk hT c hc').1 (hf k hk hT c hc').2) (fun k hk hT=>⟨Gf removed _ hr (hc k hk hT).1.1 (hc k hk hT).1.2,fun h0=>Gf removed _ hr (by omega) (hc k hk hT).2⟩)
 simp only [aJ,aI] at rc
 have spec:rL s i removed=⟨s.tables.set i ⟨t.name,sh removed t.ae 0,t.pk.map (rz removed)⟩,s.ak.map (rH t.name (rz removed)),s.cons.map (tJ t.name (rz removed))⟩:=by
  unfold rL vM fh
  rw [htA]
 rw [spec]
 unfold iB iR
 simp only [bw,tw]
 have e0:s.tables.map eh=qk s.tables i t:=by unfold qk;rw [←ht,Bm]
 have rl:=xe s.tables i t
 have rg:=fun t=>BF (l:=s.tables) (k:=i) t hi
 have dl:=DU removed t.ae 0
 rw [e0]
 refine ZM [1000] [1000,1001,1002] Tryz.func140 Tryz.ntmps140 fun w0 m0 F0=>?_
 refine ZV Z0 Z0 (Z1 (Zs 1)) Z0 ?_
 refine ab.rN [1000] [1000,1001,1002] ?_
 refine ZS Z0 ?_
 refine ab.rD 1000 i 1 2000 rfl (vW _ hi) rfl (by decide) (by decide) ?_
 refine ZU (Z1 @rP) ?_
 refine ab.rD 1000 i 2 2001 rfl (xJ _ hi) (by simp [aP]) (by decide) (by decide) ?_
 refine ZU (Z1 @rP) ?_
 refine ZW (Z3 @rl @rg @eh.eq_1) Z0 ?_
 refine ab.loop (ι:={k:Nat // k≤t.ae.length}) (fun k=>⟨70,[(0,.v (.one (.ptr 1000 0))),(5,.v (.one (.fz [bj removed]))),(6,.v (.one (.dj 1000 i 0))),(7,.v (.one (.bD 188 [.fz [bj removed]]))),(8,.v (.one (.ref 8 0 (sh removed (t.ae.take k.1) 0).length))),(23,.v (.one (.ref 2000 0 t.ae.length))),(24,.v (oI t.ae.length)),(25,.v (oI k.1))],[(1000,[.ref 1000 0 s.tables.length,.ref 1001 0 s.ak.length,.ref 1002 0 s.cons.length])],[(8,⟨3,(sh removed (t.ae.take k.1) 0).map aT,[]⟩),(2000,⟨3,t.ae.map aT,[]⟩),(2001,⟨1,t.pk.map aX,[]⟩),(1000,⟨3,qk s.tables i t,[(i,2,.ref 2001 0 t.pk.length),(i,1,.ref 2000 0 t.ae.length)]⟩),(1001,⟨3,s.ak.map pS,[]⟩),(1002,⟨7,s.cons.map aK,[]⟩)]⟩) (fun k=>t.ae.length - k.1) ⟨0,bg _⟩ ?_ fun ⟨k,hkl⟩=>?_
 ·refine St.bN ?_ ?_ ?_<;>simp only [LE,EN,Nat.reduceEqDiff,reduceIte,Nat.reduceSub,c9,sh,bI,aI]
 simp only at hkl ⊢
 have dk:=DU removed (t.ae.take k) 0
 have tk:(t.ae.take k).length=k:=by simp;omega
 rw [tk] at dk
 rcases cV k t.ae.length with hk|hk
 ·have es:=qd t.ae k hk
  have ds:=Oh removed t.ae[k] (t.ae.take k) 0
  rw [←es,tk,cN] at ds
  have cc:=D5 removed (k:Int) (by omega)
  cases hx:removed.elem (k:Int) with
  | true =>
   rw [hx] at cc ds
   simp only [if_true,bM] at ds
   refine ZW (Z2 @rl @rg) (Z1 (cc)) ?_
   refine ⟨⟨k+1,by omega⟩,by simp only;omega,?_⟩
   exact ZL (Z1 @ds)
  | false =>
   rw [hx] at cc ds
   simp only [de,if_false] at ds
   refine ZW (Z2 @rl @rg) (Z1 (cc)) ?_
   refine ⟨⟨k+1,by omega⟩,by simp only;omega,?_⟩
   exact ZN (Z2 @ds @aT.eq_1)
 ·rw [du hk] at dk ⊢
  refine ZW (Z3 @rl @rg @eh.eq_1) Z0 ?_
  refine ab.loop (ι:={j:Nat // j≤t.pk.length}) (fun j=>⟨70,[(0,.v (.one (.ptr 1000 0))),(6,.v (.one (.dj 1000 i 0))),(7,.v (.one (.bD 188 [.fz [bj removed]]))),(8,.v (.one (.ref 8 0 (sh removed t.ae 0).length))),(42,.v (.one (.ref 2001 0 t.pk.length))),(43,.v (oI t.pk.length)),(44,.v (oI j.1))],[(1000,[.ref 1000 0 s.tables.length,.ref 1001 0 s.ak.length,.ref 1002 0 s.cons.length])],[(8,⟨3,(sh removed t.ae 0).map aT,[]⟩),(2000,⟨3,t.ae.map aT,[]⟩),(2001,⟨1,(pQ (rz removed) t.pk j.1).map aX,[]⟩),(1000,⟨3,qk s.tables i t,[(i,2,.ref 2001 0 t.pk.length),(i,1,.ref 2000 0 t.ae.length)]⟩),(1001,⟨3,s.ak.map pS,[]⟩),(1002,⟨7,s.cons.map aK,[]⟩)]⟩) (fun j=>t.pk.length - j.1) ⟨0,bg _⟩ ?_ fun ⟨j,hjl⟩=>?_
  ·exact ZL (Z1 @uK)
  simp only at hjl ⊢
  rcases cV j t.pk.length with hj|hj
  ·have ml:=tW (rz removed) t.pk j
   have mg:=zN aX (rz removed) t.pk j hj
   have ms:=zO aX (rz removed) t.pk j hj
   simp only [aX] at ms
   have hb:=hp t.pk[j] (bl hj)
   have hg:=Gf removed t.pk[j] hr hb.1 hb.2
   unfold wF at hg
   simp only [aJ,aI] at hg
   refine ZV (Z5 @rl @rg @eh.eq_1 @ml @mg) (Z1 (hg)) (Z1 (Zd 13 [(0,7)] [(7,[(8,1)],[(0,5)]),(9,[],[])] [7,9] 8)) Z0 ?_
   refine ⟨⟨j+1,by omega⟩,by simp only;omega,?_⟩
   exact ZL (Z1 @ms)
  ·have hj:j=t.pk.length:=by omega
   subst hj
   refine ZV (Z3 @rl @rg @eh.eq_1) Z0 (Z1 (Zs 16)) Z0 ?_
   refine ab.close 1000 i 1 8 rfl rfl (by decide) (by simp [aP]) (by simp [rl];exact hi) (by show 1<3;decide) rfl ?_
   refine ZU (Z3 @rG @rv @ru) ?_
   rw [AD _ _ _ _ _ (by rw [rl];exact hi)]
   have e1:=DV s.tables i t ⟨t.name,sh removed t.ae 0,t.pk⟩
   simp only [eh] at e1
   simp only [wZ,tP,e1]
   refine ab.close 1000 i 2 2001 rfl rfl (by decide) (by simp [aP,tW]) (by rw [xe];exact hi) (by show 2<3;decide) rfl ?_
   refine ZU (Z3 @rG @rv @ru) ?_
   rw [Cy _ hi,yu]
   have rl2:=xe s.tables i ⟨t.name,sh removed t.ae 0,t.pk.map (rz removed)⟩
   refine ZV (Z7 @rl2 @rg @eh.eq_1 @dz @bh @bt @bu) Z0 Z0 (Z1 (Zi [(1000,1000)] [(1000,1000),(1001,1001),(1002,1002)] [(1000,1000)] [(1000,1000),(1001,1001),(1002,1002)] [] [] [1000,1000] [1000,1001,1002,1000,1001,1002] (rc))) ?_
   refine ZR (Z1 Tryz.results140) ?_
   rfl
theorem Jp {s:aq} {c:dN} (h:yJ s c=0):∃i,∃hi:i<s.tables.length,aY s.tables c.table=(i:Int)∧0≤c.left∧c.left<s.tables[i].ae.length∧-1≤c.right∧c.right<s.tables[i].ae.length:=by
 unfold yJ at h
 split at h
 ·cases h
 rename_i h0
 rcases qn (fun t=>aw t.name c.table) s.tables 0 with ⟨e1,_⟩|⟨i,hi,e1,_⟩
 ·have e1:aY s.tables c.table=-1:=e1
  omega
 have e1:aY s.tables c.table=(i:Int):=by unfold aY;simpa using e1
 simp only [e1,bG,bE _ hi] at h
 split at h
 ·cases h
 rename_i h1
 refine ⟨i,hi,e1,?_⟩
 omega
theorem Bj {s:aq} (h:dC s=0):∀t∈s.tables,∀c∈t.pk,0≤c∧c<(t.ae.length:Int):=by
 intro t ht c hc
 have o:=(wJ h).vc t ht
 obtain ⟨k,hk,rfl⟩:=List.mem_iff_getElem.1 hc
 have:=o.key k hk
 exact ⟨this.1,this.2.1⟩
theorem Vt {s:aq} (h:dC s=0):sR s:=by
 have sm:=yY h
 have ok:=wJ h
 obtain ⟨h1,h2,h3,h4⟩:=(zj s).1 h
 refine ⟨sm.tables,fun t ht=>⟨(sm.table t ht).1,(sm.table t ht).2,fun c hc=>?_⟩,sm.ak,fun f hf=>⟨sm.fk f hf,fun c hc=>?_⟩,sm.cons,fun c hc=>?_⟩
 ·have:=Bj h t ht c hc
  have:=(sm.table t ht).1
  omega
 ·obtain ⟨j,hj,rfl⟩:=List.mem_iff_getElem.1 hf
  have h5:=h3 j hj
  unfold uZ at h5
  split at h5
  ·cases h5
  rename_i h6
  obtain ⟨i,q,hi,hq,_,_,_,h8⟩:=E2 (s:=s) (f:=s.ak[j]) (by simpa using h6)
  obtain ⟨k,hk,rfl⟩:=List.mem_iff_getElem.1 hc
  have:=h8 k hk
  have:=(sm.table _ (bl hi)).1
  omega
 ·obtain ⟨j,hj,rfl⟩:=List.mem_iff_getElem.1 hc
  have h5:=h4 j hj
  unfold vj at h5
  split at h5
  ·cases h5
  rename_i h6
  obtain ⟨i,hi,_,h7⟩:=Jp (s:=s) (c:=s.cons[j]) (by simpa using h6)
  have:=(sm.table _ (bl hi)).1
  omega
theorem sR.rm {s:aq} (sm:sR s) {i:Nat} (hi:i<s.tables.length) (removed:List Int) (hr:removed.length≤1048576) :
  db Tryz.prog 140 [.one (.ptr 1000 0),oI i,.one (bj removed)] (iB s) (iR s) (.cR []) (iB (rL s i removed)) (iR (rL s i removed)):=by
 have b1:=sm.tables
 have b2:=sm.ak
 have b3:=sm.cons
 obtain ⟨t1,t2,t3⟩:=sm.table s.tables[i] (bl hi)
 refine M5 s i removed hi hr (by omega) (by omega) (by omega) (by omega) (by omega) (fun c hc=>?_) (fun k hk=>?_) (fun k hk _ c hc=>?_) fun k hk _=>?_
 ·have:=t3 c hc;omega
 ·have:=(sm.fk k hk).1;omega
 ·have:=(sm.fk k hk).2 c hc;omega
 ·have:=sm.qH k hk;omega
def qv (l:List aG):L:=.sl 24 (l.map aj)
def xh:List aq→List aG→Db
 | acc,[]=>.ok acc
 | acc,st::r=>match dU (acc.getD (acc.length - 1) sA) st with
  | .error e=>.error e
  | .ok t=>xh (acc++[t]) r
def uC (s:aq) (l:List aG):Db:=if 6<l.length then .error 2 else if dC s≠0 then .error (dC s) else xh [s] l
def sC (s:aq) (l:List aG):sY:=match uC s l with
 | .error e=>.error e
 | .ok O=>.ok (O.getD (O.length - 1) sA)
theorem BU {s t:aq} {st:aG} (h:dU s st=.ok t):dC t=0:=by
 unfold dU at h
 split at h
 ·cases h
 split at h
 ·cases h
 split at h
 ·cases h
 split at h
 ·cases h
 ·rename_i q
  injection h with h
  subst h
  exact vu q
theorem Nv:∀{l:List aG} {acc O:List aq},(∀x∈acc,dC x=0)→xh acc l=.ok O→(∀x∈O,dC x=0)∧O.length=acc.length+l.length
 | [],acc,O,ha,h=>by injection h with h;subst h;exact ⟨ha,by simp⟩
 | st::r,acc,O,ha,h=>by
  rw [xh] at h
  split at h
  ·cases h
  ·rename_i t q
   obtain ⟨h1,h2⟩:=Nv (fun x hx=>by
    rcases List.mem_append.1 hx with hx|hx
    ·exact ha x hx
    ·rw [List.mem_singleton.1 hx];exact BU q) h
   exact ⟨h1,by rw [h2];simp;omega⟩
theorem Ny {s:aq} {l:List aG} {O:List aq} (h:uC s l=.ok O):(∀x∈O,dC x=0)∧O.length=1+l.length:=by
 unfold uC at h
 split at h
 ·cases h
 split at h
 ·cases h
 rename_i q
 have q:dC s=0:=vu q
 exact Nv (fun x hx=>by rw [List.mem_singleton.1 hx];exact q) h
theorem Py {s u:aq} {l:List aG} (h:sC s l=.ok u):dC u=0:=by
 unfold sC at h
 split at h
 ·cases h
 ·rename_i O q
  obtain ⟨h1,h2⟩:=Ny q
  injection h with h
  rw [bE _ (by omega)] at h
  rw [←h]
  exact h1 _ (bl _)
def sL (s:aq):List aG→sY
 | []=>.ok s
 | st::r=>match dU s st with
  | .error e=>.error e
  | .ok t=>sL t r
def Gw (O:List aq):aq:=O.getD (O.length - 1) sA
theorem OL (acc:List aq) (u:aq):Gw (acc++[u])=u:=by
 unfold Gw
 rw [bA,z7,C5,rM,ul (br _)]
 simp
def Gx (x:Db):sY:=match x with
 | .error e=>.error e
 | .ok O=>.ok (Gw O)
theorem OM:∀(l:List aG) (acc:List aq) (u:aq),Gx (xh (acc++[u]) l)=sL u l
 | [],acc,u=>by rw [xh,sL,Gx,OL]
 | st::r,acc,u=>by
  have h:(acc++[u]).getD ((acc++[u]).length - 1) sA=u:=OL acc u
  rw [xh,sL,h]
  cases dU u st with
  | error e=>rfl
  | ok t=>exact OM r (acc++[u]) t
theorem Gy (s:aq) (l:List aG):sC s l=if 6<l.length then .error 2 else if dC s≠0 then .error (dC s) else sL s l:=by
 have h:sC s l=Gx (uC s l):=by
  unfold sC Gx Gw
  cases uC s l<;>rfl
 rw [h]
 unfold uC
 by_cases h1:6<l.length
 ·rw [if_pos h1,if_pos h1];rfl
 ·rw [if_neg h1,if_neg h1]
  by_cases h2:dC s≠0
  ·rw [if_pos h2,if_pos h2];rfl
  ·rw [if_neg h2,if_neg h2]
   exact OM l [] s
structure vf where
 parent:Int
 steps:List aG
structure Gr where
 base:aq
 rh:List vf
theorem aa0 {s u:aq} {l:List aG} (h:sC s l=.ok u):l.length≤6:=by
 unfold sC uC at h
 by_cases h6:6<l.length
 ·rw [if_pos h6] at h;cases h
 ·omega
theorem KX (l:List aG):(l.map aj).map (fun x=>x.map (L.fD 4))=l.map aj:=vF (fun _=>rfl) l
theorem NF {ts:List au} {n:ByteArray} {i:Nat} (h:aY ts n=(i:Int)):(sI (aY ts n)).toNat=i:=by rw [h,rZ];omega
theorem J4 (cs:List gK) (n:ByteArray) (h:0<cs.length):∃c,c<cs.length∧sI (pP cs n)=(c:Int):=by
 rcases qn (fun u=>aw u.name n) cs 0 with ⟨e1,_⟩|⟨z,hz,e1,_,_⟩
 ·exact ⟨0,h,by show sI (idx _ cs 0)=_;rw [e1];rfl⟩
 ·exact ⟨z,hz,by show sI (idx _ cs 0)=_;rw [e1,cN,rZ]⟩
def CW (st:aG):Prop:=st.kind=1∨st.kind=2∨st.kind=3
theorem NG (t : au) (r : Row) (hpk : t.pk.length ≤ 1048576) (hr : r.length ≤ 1048576) : db Tryz.prog 104 [.agg (ap t), .one (.ref 1000 0 r.length)] [] [(1000, ⟨3, r.map bd, []⟩)] (.v (.one (.ref 4 0 t.pk.length))) [] [(1000, ⟨3, r.map bd, []⟩), (4, ⟨3, (keyOf t.pk r).map bd, []⟩)] := by
  refine ZM [] [1000, 4] Tryz.func104 Tryz.ntmps104 fun w0 m0 F0 => ?_
  refine ZW Z0 Z0 ?_
  refine ab.loop (ι := {k : Nat // k ≤ t.pk.length}) (fun k => ⟨35, [(1, .v (.one (.ref 1000 0 r.length))), (5, .v (.one (.ref 5 0 k.1))), (10, .v (.one (bj t.pk))), (11, .v (oI t.pk.length)), (12, .v (oI k.1))], [], [(1000, ⟨3, r.map bd, []⟩), (5, ⟨3, (keyOf (t.pk.take k.1) r).map bd, []⟩)]⟩) (fun k => t.pk.length - k.1) ⟨0, bg _⟩ ?_ fun ⟨k, hkl⟩ => ?_
  · exact ZL (Z1 @keyOf.eq_1)
  have hlen : (keyOf (t.pk.take k) r).length = k := by rw [vD]; simp; omega
  refine pK (Z1 @hlen) Z0 ?_; repeat' (first | apply Zb | apply Zn | (apply Zm; intro h))
  all_goals first
    | (refine ⟨⟨k + 1, by omega⟩, by simp only; omega, ?_⟩
       have hk : k < t.pk.length := by omega
       have e : keyOf (t.pk.take (k + 1)) r = keyOf (t.pk.take k) r ++ [wS r t.pk[k]] := by
         unfold keyOf
         rw [qd _ _ hk, dn]
         rfl
       first
         | (have h2 : t.pk[k].toNat < r.length := by omega
            have e2 : wS r t.pk[k] = r[t.pk[k].toNat]'h2 := by
              rw [wS, if_pos ⟨by omega, by omega⟩]
              exact bE _ h2
            exact ZL (Z2 @e @e2)
            )
         | (have e2 : wS r t.pk[k] = zV := by rw [wS, if_neg (by omega)]
            exact ZL (Z3 @e @e2 @zV.eq_1)
            )
         )
    | (have hk : k = t.pk.length := by omega
       refine ZR (Z1 Tryz.results104) ?_
       subst hk
       first | rfl | exact ⟨rfl, rfl⟩)
theorem VE (s:aq) (i:cZ) (name:ByteArray) (j:Nat) (hj:j<s.tables.length) (ej:aY s.tables name=(j:Int)) (hji:j<i.length) (h1:s.tables.length≤1048576) (h2:s.tables[j].ae.length≤1048576∧s.tables[j].pk.length≤1048576)
  (h3:i[j].rows.length≤1048576∧∀x∈i[j].rows,x.length≤1048576) :
  db Tryz.prog 67 [.agg (aC s),.one (bp i),.one (.str name)] [] [] (.cR [.agg (ap s.tables[j]),.one (.ref 7 0 i[j].rows.length)]) [] [(7,⟨1,i[j].rows.map xm,[]⟩)]:=by
 have ft:=qP s name (by omega)
 rw [ej,rZ,sB (show (0:Int)≤(j:Int) by omega)] at ft
 obtain ⟨t,ht⟩:∃t,s.tables[j]=t:=⟨_,rfl⟩
 obtain ⟨rl,hr⟩:∃rl,i[j]=rl:=⟨_,rfl⟩
 rw [ht] at h2 ⊢
 rw [hr] at h3 ⊢
 have ct:=Da t (by omega) (by omega)
 have cl:=VD rl.rows h3.1 h3.2
 have gt:(s.tables.map ap).getD j []=ap t:=by rw [bJ _ _ _ hj,ht]
 have gi:(i.map aH).getD j []=[.str rl.table,.sl 1 (rl.rows.map cU)]:=by rw [bJ _ _ _ hji,hr];rfl
 unfold bm at cl
 refine ZM [] [7] Tryz.func67 Tryz.ntmps67 fun w0 m0 F0=>?_
 refine ab.gq ?_
 refine ZV (Z5 @gt @gi @bh @bt @bu) (Z2 (ft) (ct)) (Z1 (Zd 7 [(0,6)] [(6,[],[(0,1)]),(7,[(8,1)],[])] [6,7] 8)) (Z1 (Zi [] [] [] [(2,37)] [] [37] [] [37] (cl))) ?_
 refine Gq.iN 37 7 rfl rfl (by decide) (.inl (gQ rfl)) ?_
 refine ZT Z0 ?_
 refine Gq.done ?_
 exact ZQ (Z1 Tryz.results67)
def Ld (o:Option aG):aG:=o.getD rQ
structure D4 (s u:aq) (st:aG) (i k:Nat) (t v:au):Prop where
 zs:dC s=0
 zu:dC u=0
 hi:i<s.tables.length
 hk:k<u.tables.length
 ei:sI (aY s.tables st.table)=(i:Int)
 ek:sI (aY u.tables st.table)=(k:Int)
 ht:s.tables[i]=t
 hv:u.tables[k]=v
theorem NN (s:aq) (h1:s.tables.length≤1048576):db Tryz.prog 20 [.agg (aC s)] [] [] (.v (.one (.ref 2 0 s.tables.length))) [] [(2,⟨2,(qI s).map aH,[]⟩)]:=by
 refine ZM [] [2] Tryz.func20 Tryz.ntmps20 fun w0 m0 F0=>?_
 refine ZW Z0 Z0 ?_
 refine ab.loop (ι:={k:Nat // k≤s.tables.length}) (fun k=>⟨21,[(3,.v (.one (.ref 3 0 k.1))),(7,.v (.one (.sl 3 (s.tables.map ap)))),(8,.v (oI s.tables.length)),(9,.v (oI k.1))],[],[(3,⟨2,((qI s).take k.1).map aH,[]⟩)]⟩) (fun k=>s.tables.length - k.1) ⟨0,bg _⟩ ?_ fun ⟨k,hkl⟩=>?_
 ·exact ZL Z0
 have hl:(qI s).length=s.tables.length:=by simp [qI]
 have hlen:((qI s).take k).length=k:=by rw [rV];omega
 rcases cV k s.tables.length with hc|hc
 ·refine ZW (Z1 @hlen) Z0 ?_
  refine ⟨⟨k+1,by omega⟩,by simp only;omega,?_⟩
  have e:(qI s).take (k+1)=(qI s).take k++[⟨s.tables[k].name,[]⟩]:=by
   rw [qd _ _ (by omega)]
   simp [qI]
  exact ZL (Z3 @e @aH.eq_1 @bm.eq_1)
 ·have hk:k=s.tables.length:=by omega
  subst hk
  refine ZW Z0 Z0 ?_
  simp -dsimp (disch:=first|exact D|fail) only [aR,Tryz.results20,aQ,aS,aO,St.rest,St.freeze,RT,go_sem,↓reduceIte,seval]
  all_goals rw [du (by omega)]
def xu (st:aG) (fwd:Bool) (a b c:aq) (aU comp:cZ) (no nn:Nat):List L:=aj st++([.bool fwd]++aC a++aC b++aC c++[.sl 2 (aU.map aH),.sl 2 (comp.map aH),.ref 51 0 no,.ref 56 0 nn,.int .i64 0])
def y0 (st:aG) (fwd:Bool) (a b c:aq) (aU comp o nw:cZ):List L:=aj st++([.bool fwd]++aC a++aC b++aC c++[.sl 2 (aU.map aH),.sl 2 (comp.map aH),.sl 2 (o.map aH),.sl 2 (nw.map aH),.int .i64 0])
def uk:aG:=⟨1,yf,ByteArray.empty,I0,ByteArray.empty,1,[],ByteArray.empty,⟨1,7,ByteArray.empty⟩,⟨ByteArray.empty,[],[]⟩,⟨ByteArray.empty,0,ByteArray.empty,0,⟨0,0,ByteArray.empty⟩⟩,⟨ByteArray.empty,[],ByteArray.empty⟩⟩
def vh:aG:=⟨3,yf,ByteArray.empty,I0,NS,0,[],ByteArray.empty,⟨0,0,ByteArray.empty⟩,⟨ByteArray.empty,[],[]⟩,⟨ByteArray.empty,0,ByteArray.empty,0,⟨0,0,ByteArray.empty⟩⟩,⟨ByteArray.empty,[],ByteArray.empty⟩⟩
end Go.Bw
