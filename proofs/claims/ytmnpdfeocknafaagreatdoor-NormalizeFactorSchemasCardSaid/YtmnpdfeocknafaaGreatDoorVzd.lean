/- Proved: contracts of functions of this translation, for every state, and what they rest on; bounds stand ahead. -/
import Derived.Lib.ItoaLen
import Derived.Test.YtmnpdfeocknafaaGreatDoorVx
import Derived.Test.YtmnpdfeocknafaaGreatDoorVza
set_option maxRecDepth 100000
set_option maxHeartbeats 64000000
set_option linter.unusedSimpArgs false
set_option linter.unusedVariables false
namespace Go.Bw
open Go.Proofs
theorem Nw:∀{l:List aG} {acc:List aq} {e:Int},xh acc l=.error e→e≠0
 | [],acc,e,h=>by cases h
 | st::r,acc,e,h=>by
  rw [xh] at h
  split at h
  ·rename_i q;injection h with h;rw [←h];exact EX q
  ·exact Nw h
theorem Nz {s:aq} {l:List aG} {e:Int} (h:uC s l=.error e):e≠0:=by
 unfold uC at h
 split at h
 ·injection h with h;omega
 split at h
 ·rename_i q;injection h with h;rw [←h];exact q
 ·exact Nw h
theorem Ht {s:aq} {l:List aG} {e:Int} (h:sC s l=.error e):e≠0:=by
 unfold sC at h
 split at h
 ·rename_i q;injection h with h;rw [←h];exact Nz q
 ·cases h
theorem VB {s u:aq} {st:aG} (h:dU s st=.ok u) (hk:st.kind=1∨st.kind=2):∃i k,∃_:i<s.tables.length,∃_:k<u.tables.length,aY s.tables st.table=(i:Int)∧aY u.tables st.table=(k:Int):=by
 obtain ⟨_,_,h3,h4⟩:=uj h
 unfold dD at h3
 rw [if_neg (by omega),if_neg (by omega),if_neg (by omega),if_neg (by omega),if_neg (by omega)] at h3
 simp only at h3
 split at h3
 ·cases h3
 rename_i q
 obtain ⟨i,hi,e1,e2⟩:=vd q
 rw [if_neg (by omega),if_neg (by omega),if_neg (by omega),if_neg (by omega),if_neg (by omega),if_neg (by omega),if_neg (by omega),e1,bG] at h3
 have key:∀T:au,T.name=st.table→u.tables=s.tables.set i T→aY u.tables st.table=(i:Int)∧i<u.tables.length:=by
  intro T hT hu
  have hl:i<u.tables.length:=by rw [hu,tw];exact hi
  have hn:u.tables[i].name=st.table:=by
   have:u.tables[i]=T:=by simp [hu]
   rw [this,hT]
  rw [←hn]
  exact ⟨xt (wX h4) hl,hl⟩
 have tn:(bq s i).name=st.table:=by unfold bq;rw [bE _ hi,e2]
 rcases hk with h1|h1
 ·rw [if_pos h1] at h3
  unfold vC at h3
  simp only at h3
  split at h3
  ·cases h3
  injection h3 with h3
  obtain ⟨g1,g2⟩:=key {bq s i with ae:=(bq s i).ae++[⟨st.dm,st.uy,st.value.kind==0⟩]} tn (by rw [←h3];rfl)
  exact ⟨i,i,hi,g2,e1,g1⟩
 ·rw [if_neg (by omega)] at h3
  unfold rF at h3
  simp only at h3
  split at h3
  ·cases h3
  rw [if_neg (by omega)] at h3
  split at h3
  ·cases h3
  rw [if_neg (by omega)] at h3
  split at h3
  ·cases h3
  injection h3 with h3
  obtain ⟨g1,g2⟩:=key {bq s i with ae:=sh [pP (bq s i).ae st.dm] (bq s i).ae 0,pk:=(bq s i).pk.map (rz [pP (bq s i).ae st.dm])} tn (by rw [←h3];rfl)
  exact ⟨i,i,hi,g2,e1,g1⟩
structure Jw (T T2:au) (π:Int→Int):Prop where
 name:T2.name=T.name
 len:T2.ae.length=T.ae.length
 yA:∀c,0≤c→c<(T.ae.length:Int)→0≤π c∧π c<(T.ae.length:Int)
 inj:∀c d,0≤c→c<(T.ae.length:Int)→0≤d→d<(T.ae.length:Int)→π c=π d→c=d
 Xb:∀k,0≤k→k<(T.ae.length:Int)→∃c,0≤c∧c<(T.ae.length:Int)∧π c=k
 CD:∀c,0≤c→c<(T.ae.length:Int)→T2.ae.getD (π c).toNat dF=T.ae.getD c.toNat dF
 pk:T2.pk=T.pk.map π
 mono:∀k,∀h:k<T.pk.length,∀h0:0<k,π (T.pk[k - 1]'(by omega))<π T.pk[k]
theorem OH {l:List gK} {c:Int} (h0:0≤c) (h:c<(l.length:Int)):l.getD c.toNat dF=l[c.toNat]'(by omega):=bE _ (by omega)
theorem Jw.ok {T T2:au} {π:Int→Int} (p:Jw T T2 π) (o:uD T):uD T2:=by
 have ln:=p.len
 have back:∀k,∀h:k<T2.ae.length,∃c:Nat,∃hc:c<T.ae.length,π c=(k:Int)∧T2.ae[k]=T.ae[c]:=fun k h=>by
  obtain ⟨c,c0,c1,e⟩:=p.Xb k (by omega) (by omega)
  refine ⟨c.toNat,by omega,by rw [Rp c0];exact e,?_⟩
  have:=p.CD c c0 c1
  rw [e,OH c0 c1,OH (by omega) (by omega)] at this
  simpa using this
 refine ⟨by rw [p.name];exact o.name,by rw [p.len];exact o.BV,by rw [p.len];exact o.zP,fun k h=>?_,fun k h=>?_,by rw [p.pk,bw];exact o.NC⟩
 ·obtain ⟨c,hc,e,ec⟩:=back k h
  obtain ⟨h1,_,h3,h4⟩:=o.CD c hc
  rw [ec]
  refine ⟨h1,?_,h3,h4⟩
  rcases qn (fun x=>aw x.name T.ae[c].name) T2.ae 0 with ⟨_,e2⟩|⟨j,hj,e1,e2,e3⟩
  ·have:=e2 _ (bl h)
   rw [ec,xA] at this
   cases this
  ·have e1:pP T2.ae T.ae[c].name=(j:Int):=by unfold pP;simpa using e1
   rw [e1,rZ]
   obtain ⟨d,hd,ed,ecd⟩:=back j hj
   have e4:=qo.1 e2
   rw [ecd] at e4
   have:d=c:=vu fun hne=>OF o hd hc hne e4
   subst this
   omega
 ·have hk:k<T.pk.length:=by rw [p.pk,bw] at h;exact h
  have e:T2.pk[k]=π T.pk[k]:=by simp [p.pk]
  obtain ⟨h1,h2,h3,_⟩:=o.key k hk
  obtain ⟨r1,r2⟩:=p.yA _ h1 h2
  rw [e]
  refine ⟨r1,by omega,by rw [p.CD _ h1 h2];exact h3,fun h0=>?_⟩
  have e':T2.pk[k - 1]=π (T.pk[k - 1]'(by omega)):=by simp [p.pk]
  rw [e']
  exact p.mono k hk h0
def IP:Except Int (List aG)→List aG
 | .error _=>[]
 | .ok l=>l
theorem D4.uA {s u:aq} {st:aG} {i k:Nat} {t v:au} (c:D4 s u st i k t v):bq u (sI (aY u.tables st.table)).toNat=v:=by
 rw [c.ek,bG];unfold bq;rw [bE _ c.hk,c.hv]
section
open Go.Proofs Go.RowKit Go.Shelf
section
variable {P:Program} {T:TypeId→Option TI} {w0:World} {m0:Mem} {F0:Home} {s s':St} {a:Act} {w w':World} {m:Mem} {ω:Wh}
def Iv (P:Program) (Q:Exit→Act→World→Prop):List Oper→Act→World→(Act→World→Prop)→Prop
 | [],a,w,K=>K a w
 | o::l,a,w,K=>o.guard=none∧o.wp P a w (fun a' w'=>Iv P Q l a' w' K) Q
theorem M3 {ops:Array Oper} {Q:Exit→Act→World→Prop}:∀(l:List Oper) (k:Nat) (a:Act) (w:World),ops.toList.drop k=l→Iv P Q l a w (Q .normal)→wpOps P ops Q (List.range' k l.length) a w
 | [],k,a,w,_,h=>h
 | o::l,k,a,w,hl,h=>by
  have hk:ops[k]?=some o:=by
   have:(ops.toList.drop k)[0]?=some o:=by rw [hl];rfl
   simpa [rJ] using this
  have hl':ops.toList.drop (k+1)=l:=by
   have:(ops.toList.drop k).drop 1=l:=by rw [hl];rfl
   simpa [Af] using this
  obtain ⟨hg,h⟩:=h
  simp only [bP,Ha,wpOps,hk]
  have hw:Region.wanted o (yielded ops a.tmps)=true:=by simp [Region.wanted,hg]
  rw [if_pos hw]
  exact .inl (Oper.wp_mono (fun a' w' h=>M3 l (k+1) a' w' hl' h) h)
theorem M4 {id:Nat} {l:List Oper} {Q:Exit→Act→World→Prop} (h:Iv P Q l a w (Q .normal)):(Code.region id l.toArray false).wp P Q a w:=by
 refine wp_region ?_
 have:=M3 (ops:=l.toArray) l 0 a w (by simp) h
 have hlen:l.length=l.toArray.size:=by simp
 rwa [←Hb,hlen] at this
theorem UB {o:Oper} {e:TypeId} {inf:TypeInfo} {z:Value} (ho:o.op=.alloc e) (g1:P.info? e=some inf) (g2:inf.zero=some z) :
  (execOp a.eval o).run P w=.ok (.value (.pointer (some ⟨w.heap.size,0,none⟩))) (w.alloc (.cells z.cells e (0,0))):=by
 unfold execOp
 simp only [ho,Instr.alloc,zeroValue,typeInfo,program,newVar,newRow,newObj,Sem.run_bind,Sem.run,Result.andThen_ok,Sem.run_pure,g1,g2]
 rfl
theorem UC {o:Oper} {c:Call} {f:FuncId} {xs:List V} {r:A} (ho:o.op=.call c) (h:CI P w0 m0 F0 s a w m ω) (hc:ez T s c=some (f,xs)) (hS:Sat P f xs r) :
  ym P o a w fun v w'=>∃m',CI P w0 m0 F0 s a w' m' ω∧sO m' ω v (r.map L.cP)∧∀k,k<w.heap.size→w'.heap[k]?=w.heap[k]?:=by
 obtain ⟨vs,h1,h2⟩:=EQ ho h hc
 refine (Cl h1 (hS.call m w vs ω (CI.none h.C7 h.ok) h2)).mono fun v w' hp=>?_
 obtain ⟨m',ω',hC,hv⟩:=hp
 exact ⟨m',h.grow ⟨hC.keeps.os,hC.keeps.tape,hC.keeps.output,hC.keeps.size,fun k hk=>hC.keeps.block k hk wV⟩ hC.qb (fun x hx=>hC.qc x hx wV) hC.ok,hv.map fun v l hl=>L.HU hl,fun k hk=>hC.keeps.block k hk wV⟩
end
abbrev zL:TypeId:=103
theorem UD {w0:World} {m0:Mem} {F0:Home} {Q:Exit→St→Prop} {c:Code} {i1 i2:Nat} {o1 o2 o3 o4 o5:Oper} {e:ByteArray} {sz:Nat} {xs:List (List L)} (hl:xs.length≤1048576)
  (h1:o1.op=.alloc zL∧o1.dst=some 3∧o1.guard=none) (h2:o2.op=.move (.tmp 0)∧o2.dst=some 6∧o2.guard=none)
  (h3:o3.op=.call {callee:=.builtin .len,args:=#[.tmp 6],argTypes:=#[54]}∧o3.dst=some 7∧o3.guard=none)
  (h4:o4.op=.call {callee:=.value (.func 37),args:=#[.tmp 7],argTypes:=#[3]}∧o4.dst=some 8∧o4.guard=none)
  (h5:o5.op=.call {callee:=.value (.func 36),args:=#[.tmp 3,.tmp 8],argTypes:=#[zL,9]}∧o5.dst=some 9∧o5.guard=none)
  (H:ab Tryz.prog w0 m0 F0 c Q ⟨38,[(0,.v (.one (.sl sz xs))),(3,.v (.one (.ptr 3 0)))],[(3,[.ptr 3 0,.rT tB (Lib.itoa xs.length)])],[]⟩) :
  ab Tryz.prog w0 m0 F0 (.seq (.region i1 #[o1] false) (.seq (.region i2 #[o2,o3,o4,o5] false) c)) Q ⟨38,[(2,.v (.one (.str e))),(0,.v (.one (.sl sz xs)))],[],[]⟩:=by
 intro a w ⟨m,ω,hC⟩
 refine wp_seq (M4 (l:=[o1]) ⟨h1.2.2,?_⟩)
 have hT:gM Tryz.prog zL _=true:=ah zL _ rfl
 obtain ⟨inf,z,g1,g2,g3,_⟩:=(iM hT).zero _ rfl
 have hz:z.cells=#[.pointer none,.slice none 0 0]:=by
  have e1:(Tryz.prog.info? zL).map (·.zero)=some (some (.agg #[.pointer none,.slice none 0 0])):=by kernel_rfl
  rw [g1] at e1
  have e2:some z=some (.agg #[.pointer none,.slice none 0 0]):=g2.symm.trans (Ae e1)
  rw [Ae e2]
  rfl
 have hrun:=UB (P:=Tryz.prog) (a:=a) (w:=w) h1.1 g1 g2
 refine sj (R:=fun v w'=>v=.pointer (some ⟨w.heap.size,0,none⟩)∧w'=w.alloc (.cells z.cells zL (0,0))) hrun ⟨rfl,rfl⟩ _ _ fun v w1 ⟨hv,hw1⟩=>?_
 obtain ⟨ω1,hC1,hb1⟩:=hC.xS 3 (by show 3<38;decide) z.cells zL [.sN,.nil 1] (by rw [hz];rfl) fun j l hj=>by
  rw [hz]
  match j,hj with
  | 0,hj=>simp only [c8,Option.some.injEq] at hj;subst hj;exact ⟨_,rfl,aM.sN⟩
  | 1,hj=>simp only [dr,c8,Option.some.injEq] at hj;subst hj;exact ⟨_,rfl,aM.nil _⟩
  | k+2,hj=>simp at hj
 rw [←hw1] at hC1
 have hblk:w1.heap[ω1.box 3]?=some (.cells #[.pointer none,.slice none 0 0] zL (0,0)):=by
  rw [hw1,hb1,hz]
  exact heap_alloc_new w _
 clear hrun hw1
 have hC2':=hC1.put (d:=3) (v:=v) (x:=.v (.one (.ptr 3 0))) (by show 3<38;decide) (by rw [hv];show _=_;rw [hb1])
 have hC2:CI Tryz.prog w0 m0 F0 ⟨38,[(3,.v (.one (.ptr 3 0))),(0,.v (.one (.sl sz xs)))],[(3,[.sN,.nil 1])],[]⟩ (a.put (some 3) v) w1 m ω1:=by
  exact hC2'.weaken rfl (x7 ⟨rfl,rfl,trivial⟩) (x7 ⟨rfl,trivial⟩) (fun t x ht=>by cases ht)
 clear hC2' hC1
 rw [h1.2.1]
 refine wp_seq (M4 (l:=[o2,o3,o4,o5]) ⟨h2.2.2,?_⟩)
 obtain ⟨_,k2⟩:=LQ (P:=Tryz.prog) (T:=TT) (o:=o2) h2.1 hC2 (y:=.v (.one (.sl sz xs))) rfl
 obtain ⟨v2,m2,r2,hC3,a2⟩:=k2 (by simp [wi,h2.1])
 refine sj (R:=fun v w'=>v=v2∧w'=w1) r2 ⟨rfl,rfl⟩ _ _ fun v' w' ⟨e1,e2⟩=>?_
 rw [e1,e2]
 clear e1 e2
 rw [h2.2.1]
 have hC4:=hC3.put (d:=6) (by show 6<38;decide) a2
 refine ⟨h3.2.2,?_⟩
 obtain ⟨_,k3⟩:=LS (P:=Tryz.prog) (T:=TT) (o:=o3) h3.1 (ah 54 _ rfl) hC4 (l:=.sl sz xs) rfl rfl rfl
 obtain ⟨v3,m3,r3,hC5,a3⟩:=k3 (by simp [wi,h3.1])
 refine sj (R:=fun v w'=>v=v3∧w'=w1) r3 ⟨rfl,rfl⟩ _ _ fun v' w' ⟨e1,e2⟩=>?_
 rw [e1,e2]
 clear e1 e2
 rw [h3.2.1]
 have hC6:=hC5.put (d:=7) (by show 7<38;decide) a3
 refine ⟨h4.2.2,?_⟩
 refine UC (T:=TT) h4.1 hC6 (f:=37) (xs:=[.one (.int .i64 xs.length)]) rfl (B6 xs.length (by omega) (by omega)) _ _ fun v4 w4 ⟨m4,hC7,a4,hk⟩=>?_
 rw [h4.2.1]
 have hC8:=hC7.put (d:=8) (by show 8<38;decide) a4
 have hlt:ω1.box 3<w1.heap.size:=by
  rcases cV (ω1.box 3) w1.heap.size with h'|h'
  ·exact h'
  ·rw [xR h'] at hblk;cases hblk
 have hblk4:=(hk _ hlt).trans hblk
 refine ⟨h5.2.2,?_⟩
 have hv4:v4=.string (qe xs.length):=It (ω:=ω1) a4
 have hrun:∀aa:Act,aa.eval (.tmp 3)=.pointer (some ⟨ω1.box 3,0,none⟩)→aa.eval (.tmp 8)=.string (qe xs.length)→(execOp aa.eval o5).run Tryz.prog w4=(callFunc 36 #[.pointer (some ⟨ω1.box 3,0,none⟩),.string (qe xs.length)]).run Tryz.prog w4:=by
  intro aa q1 q2
  have qf:aa.eval (.func 36)=.func (.func 36) #[] #[]:=rfl
  unfold execOp
  simp only [h5.1,qf,resolve,Deferred.ofValue,Sem.run_bind,Sem.run_pure,Result.andThen_ok,invoke,wb,aJ,aI,q1,q2]
  congr 2
 have hsz:(qe xs.length).size=(Lib.itoa xs.length).length:=by
  show (qe xs.length).data.size=_
  rw [←um]
  simp [qe]
 have hws:=(Any.ws_fresh Tryz.bld166 Tryz.bldX (ω1.box 3) (.slice none 0 0) 0 [] (qe xs.length) w4 hblk4 ⟨rfl,.inl ⟨rfl,rfl⟩⟩ (by simp [Value.ownBlock]) (by rw [hsz];have:=Lib.itoa_length_le xs.length (by omega) (by omega);omega))
 have e0:([]:List Value)++Lib.strCells (qe xs.length)=Lib.byteCells (Lib.itoa xs.length):=by simp [M1,qe]
 rw [e0] at hws
 have hcr:=Iu (R:=fun v w'=>v=.tuple #[.int .i64 (qe xs.length).size,.nilIface]∧∃v',w'.heap[ω1.box 3]?=some (.cells #[.pointer (some ⟨ω1.box 3,0,none⟩),v'] zL (0,0))∧BytesAt w' tB v' (0+(qe xs.length).size) (Lib.byteCells (Lib.itoa xs.length))∧v'.ownBlock≠some (ω1.box 3)∧Moved w4 w' (.slice none 0 0) v'∧KeptBut (fun k=>k=ω1.box 3∨(Value.slice none 0 0).ownBlock=some k) w4 w')
  Tryz.func36 rfl (by kernel_rfl) (hws.mono fun en w' ⟨he,h⟩=>⟨_,he,rfl,h⟩)
 refine Cl (hrun _ ?_ ?_) hcr _ _ fun v5 w5 ⟨hv5,v',k1,k2,k3,k4,k5⟩=>?_
 ·exact hC8.env 3 (.v (.one (.ptr 3 0))) rfl
 ·exact It (ω:=ω1) (hC8.env 8 (.v (.one (.str (qe xs.length)))) rfl)
 rw [h5.2.1]
 obtain ⟨_,_,_,_,hf3,_⟩:=hC8.box 3 [.sN,.nil 1] rfl
 obtain ⟨ω',hC9,q2,q3⟩:=M0 hC8 (id:=3) (ls0:=[.sN,.nil 1]) rfl hf3 (fun k hk=>by cases hk) k1 k2 k3 k4 k5
 have hC10:=hC9.put (d:=9) (by show 9<38;decide) (hv5▸M2 (m:=m4) (ω:=ω') _)
 refine H _ _ (ry.le ⟨m4,ω',hC10⟩ ⟨rfl,x7 ⟨rfl,rfl,trivial⟩,x7 ⟨rfl,trivial⟩,fun t x ht=>by cases ht⟩)
end
theorem La (r:Row) (hr:yt r):Sat Tryz.prog 16 [.one (cT r)] (.v (.one (.str (Dj r)))):=by
 have hn:=hr.n
 refine ZE Tryz.func16 Tryz.ntmps16 fun w0 m0 F0=>?_
 refine qA ?_
 refine qV ah fun K hK=>?_
 refine ZU Z0 ?_
 refine hK _ (qB ?_)
 try clear hK K
 refine UD (by simpa using hn) ⟨rfl,rfl,rfl⟩ ⟨rfl,rfl,rfl⟩ ⟨rfl,rfl,rfl⟩ ⟨rfl,rfl,rfl⟩ ⟨rfl,rfl,rfl⟩ ?_
 refine pK Z0 Z0 ?_;repeat' (first|apply Zb|apply Zn|(apply Zm;intro h)|(apply Zk;intro K hK))
 refine ab.loop (ι:={k:Nat // k≤r.length}) (fun k=>⟨38,[(3,.v (.one (.ptr 3 0))),(10,.v (.one (cT r))),(11,.v (oI r.length)),(12,.v (oI k.1))],[(3,[.ptr 3 0,.rT tB (wT r k.1)])],[]⟩) (fun k=>r.length - k.1) ⟨0,bg _⟩ ?_ fun ⟨k,hkl⟩=>?_
 ·exact ZL (Z1 @Ki)
 simp only
 rcases cV k r.length with hc|hc
 ·have hv:=hr.v r[k] (bl _)
  have hs:=N6 hv
  have hL:=Lh hr k hkl
  have ws:=Uz (wT r k) (y3 r[k]) (by omega)
  have es:=N7 hc
  have i1:=B6 r[k].kind hv.k0 hv.k1
  have i2:=B6 r[k].int hv.i0 hv.i1
  have i3:=B6 (r[k].text.size:Int) (by omega) (by have:=hv.t;omega)
  have z1:=zw r[k].kind hv.k0 hv.k1
  have z2:=zw r[k].int hv.i0 hv.i1
  have z3:=zw (r[k].text.size:Int) (by omega) (by have:=hv.t;omega)
  have z4:=hv.t
  have b1:(⟨#[124]⟩:ByteArray).size=1:=rfl
  have b2:(⟨#[44]⟩:ByteArray).size=1:=rfl
  unfold y3 at ws
  refine rC Z0 Z0 (Z1 (Zs 6)) Z0 ?_;repeat' (first|apply Zb|apply Zn|(apply Zm;intro h)|(apply Zk;intro K hK))
  refine dX ah mixed [(0,2),(5,2),(10,3),(16,2)] [(2,[(3,2)],[(5,2),(10,3),(16,2)]),(7,[(8,2)],[(3,2),(10,3),(16,2)]),(13,[(14,2),(18,1)],[(3,2),(8,2),(16,2)]),(19,[],[])] [2,7,13,19] 8 fun K hK=>?_
  simp only [SG,bb] at hK ⊢
  refine ZU (Z3 @Cg @b1 @b2) ?_
  refine rC (Z8 @Cg @b1 @b2 @Kj @Kk @bh @bt @bu) (Z3 (i1) (i2) (i3)) Z0 (Z1 (Zi [(1000,3)] [] [(1000,3)] [] [] [] [3,3] [] (ws))) ?_;repeat' (first|apply Zb|apply Zn|(apply Zm;intro h)|(apply Zk;intro K hK))
  refine ⟨⟨k+1,by omega⟩,by simp only;omega,?_⟩
  have ef:y3 r[k]=(((((⟨#[124]⟩:ByteArray)++qe r[k].kind++⟨#[44]⟩)++qe r[k].int++⟨#[44]⟩)++qe (r[k].text.size:Int))++⟨#[44]⟩)++r[k].text:=rfl
  rw [←ef]
  exact ZL (Z1 @es)
 ·have hk:k=r.length:=by omega
  subst hk
  refine rC (Z5 @Kj @Kk @bh @bt @bu) Z0 Z0 (Z1 (Zi [(1000,3)] [] [] [] [3] [] [3] [] (UA (wT r r.length) (We r r.length)))) ?_;repeat' (first|apply Zb|apply Zn|(apply Zm;intro h)|(apply Zk;intro K hK))
  refine ZR (Z1 Tryz.results16) ?_
  rfl
theorem KS (st:aG) (fwd:Bool) (a b c:aq) (aU comp:cZ) (no nn:Nat) (X Y X2 Y2:List (List L)) (hk:st.kind=1∧fwd=true∨st.kind=2∧fwd=false)
  (R:db Tryz.prog 108 [.one (.ptr 1000 0)] [(1000,mB st fwd a b c aU comp no nn 0)] [(1001,⟨2,X,[]⟩),(1002,⟨2,Y,[]⟩)] (.cR []) [(1000,mB st fwd a b c aU comp no nn 0)] [(1001,⟨2,X2,[]⟩),(1002,⟨2,Y2,[]⟩)]) :
  db Tryz.prog 68 [.one (.ptr 1000 0)] [(1000,mB st fwd a b c aU comp no nn 0)] [(1001,⟨2,X,[]⟩),(1002,⟨2,Y,[]⟩)] (.cR []) [(1000,mB st fwd a b c aU comp no nn 0)] [(1001,⟨2,X2,[]⟩),(1002,⟨2,Y2,[]⟩)]:=by
 rw [pJ,cM,cM,cM] at R ⊢
 unfold aj at R ⊢
 simp only [aW,aZ] at R ⊢
 rcases hk with ⟨h1,h2⟩|⟨h1,h2⟩
 ·subst h2
  rw [h1] at R ⊢
  refine ZM [1000] [1001,1002] Tryz.func68 Tryz.ntmps68 fun w0 m0 F0=>?_
  refine ZV (Z5 @dz @si @bh @bt @bu) Z0 Z0 (Z1 (Zi [(1000,1000)] [(1001,1001),(1002,1002)] [(1000,1000)] [(1001,1001),(1002,1002)] [] [] [1000,1000] [1001,1002,1001,1002] (R))) ?_
  exact ZQ (Z1 Tryz.results68)
 ·subst h2
  rw [h1] at R ⊢
  refine ZM [1000] [1001,1002] Tryz.func68 Tryz.ntmps68 fun w0 m0 F0=>?_
  refine ZV (Z5 @dz @si @bh @bt @bu) Z0 Z0 (Z1 (Zi [(1000,1000)] [(1001,1001),(1002,1002)] [(1000,1000)] [(1001,1001),(1002,1002)] [] [] [1000,1000] [1001,1002,1001,1002] (R))) ?_
  exact ZQ (Z1 Tryz.results68)
theorem VT (s:aq) (l:List aG) (src:cZ) (comps:List cZ) (O:List aq) (I N:List cZ) (c1:Sat Tryz.prog 50 [.agg (aC s),.one (qv l)] (.cR [.one (v7 O),oI 0])) (hl:l.length≤1048576) (hO:O.length=l.length+1) (hc:comps.length=l.length) (hN:N.length=l.length)
  (hI:I.length=l.length+1) (h0:I.getD 0 []=src) (c2:Sat Tryz.prog 64 [.agg (aC s),.one (bp src)] (.v (oI 0))) (c3:Sat Tryz.prog 65 [.one (bp src)] (.v (.one (bp src))))
  (hF:∀k,∀h:k<l.length,Sat Tryz.prog 14 [.agg (aC (O.getD k sA)),.agg (aj l[k]),.one (bp (I.getD k [])),.one (bp (comps.getD k []))] (.cR [.one (bp (I.getD (k+1) [])),.one (bp (N.getD k [])),oI 0])) :
  Sat Tryz.prog 47 [.agg (aC s),.one (qv l),.one (bp src),.one (CE comps)] (.cR [.one (bp (I.getD l.length [])),.one (CE N),oI 0]):=by
 unfold qv v7 at c1
 unfold qv CE
 unfold bp at c2 c3 ⊢
 refine ZE Tryz.func47 Tryz.ntmps47 fun w0 m0 F0=>?_
 refine rC Z0 (Z3 (c1) (c2) (c3)) (Z1 (Zs 10)) Z0 ?_;repeat' (first|apply Zb|apply Zn|(apply Zm;intro h)|(apply Zk;intro K hK))
 refine ab.Mq ah fun K hK=>?_
 refine tE.step fun K2 h9=>?_
 refine ZU Z0 ?_
 refine h9 _ ?_
 refine tE.step fun K4 h7=>?_
 refine ZU Z0 ?_
 refine h7 _ ?_
 refine tE.DI (To ah (n:=l.length) (k1:=.i64) (k2:=.i64) rfl rfl rfl rfl rfl (by show 24 * l.length≤_;omega) (by omega) (gQ rfl) ?_)
 refine tE.step fun K3 h8=>?_
 refine ZU Z0 ?_
 refine h8 _ ?_
 refine tE.fin (hK _ ?_)
 clear h8 h7 h9 hK K4 K3 K2 K
 refine pK Z0 Z0 ?_;repeat' (first|apply Zb|apply Zn|(apply Zm;intro h)|(apply Zk;intro K hK))
 refine ab.loop (ι:={k:Nat // k≤l.length}) (fun k=>⟨74,[(3,.v (.one (.sl 1 (comps.map tX)))),(11,.v (.one (.sl 3 (O.map aC)))),(14,.v (.one (.sl 2 ((I.getD k.1 []).map aH)))),(15,.v (.one (.ref 15 0 l.length))),(43,.v (.one (.sl 24 (l.map aj)))),(44,.v (oI l.length)),(45,.v (oI k.1))],[],[(15,⟨1,(xr N l.length k.1).map tX,[]⟩)]⟩) (fun k=>l.length - k.1) ⟨0,bg _⟩ ?_ fun ⟨k,hkl⟩=>?_
 ·refine St.bN ?_ ?_ ?_<;>simp only [LE,EN,Nat.reduceEqDiff,reduceIte,Nat.reduceSub,h0,xr,yh,c9,aZ,wc,YW,tX,bp,aI,s9]
 simp only at hkl ⊢
 rcases cV k l.length with hk|hk
 ·have xl:=VQ (N:=N) hkl hN
  have xs:=VR (N:=N) hk hN
  have gX:=VS (N:=N) hk hN
  have ev:=hF k hk
  obtain ⟨st,hst⟩:∃st,l[k]=st:=⟨_,rfl⟩
  rw [hst] at ev
  have gs:(l.map aj).getD k []=aj st:=by rw [bJ _ _ _ hk,hst]
  have hk2:k<O.length:=by omega
  have ga:(O.map aC).getD k []=aC (O.getD k sA):=by rw [bJ _ _ _ hk2,bE _ hk2]
  have hkN:k<N.length:=by omega
  have hkc:k<comps.length:=by omega
  rw [bE _ hkN,bE _ hkc] at ev
  obtain ⟨n,hn⟩:∃n,N[k]=n:=⟨_,rfl⟩
  obtain ⟨m,hm⟩:∃m,comps[k]=m:=⟨_,rfl⟩
  have gm:(comps.map tX).getD k []=[.sl 2 (m.map aH)]:=by rw [bJ _ _ _ hkc,hm];rfl
  rw [hn,hm] at ev
  rw [hn] at xs
  obtain ⟨c,hc⟩:∃c,O.getD k sA=c:=⟨_,rfl⟩
  rw [hc] at ga ev
  obtain ⟨i0,hi0⟩:∃i0,I.getD k []=i0:=⟨_,rfl⟩
  obtain ⟨i1,hi1⟩:∃i1,I.getD (k+1) []=i1:=⟨_,rfl⟩
  rw [hi0,hi1] at ev
  rw [hi0]
  unfold bp at ev
  obtain ⟨X,hX⟩:∃X,(xr N l.length k).map tX=X:=⟨_,rfl⟩
  have lX:X.length=l.length:=by rw [←hX,bw,xl]
  rw [hX] at xs gX ⊢
  have xs:X.set k [.sl 2 (n.map aH)]=(xr N l.length (k+1)).map tX:=xs
  refine rC (Z3 @gs @aj.eq_1 @lX) Z0 (Z1 (Zs 14)) Z0 ?_;repeat' (first|apply Zb|apply Zn|(apply Zm;intro h)|(apply Zk;intro K hK))
  refine dX ah mixed [(0,12)] [(12,[(13,4)],[(0,2)]),(17,[(18,1)],[(0,2),(15,2)]),(19,[(20,1)],[(16,1)])] [12,17,19] 8 fun K hK=>?_
  simp only [SG,bb] at hK ⊢
  refine ZU (Z3 @ga @gm @lX) ?_
  refine rC (Z4 @ga @gm @gX @lX) (Z1 (ev)) Z0 Z0 ?_;repeat' (first|apply Zb|apply Zn|(apply Zm;intro h)|(apply Zk;intro K hK))
  refine ⟨⟨k+1,by omega⟩,by simp only;omega,?_⟩
  simp only [hi1]
  exact ZL (Z5 @xs @tX.eq_1 @bp.eq_1 @iy @pO)
 ·have hk2:k=l.length:=by omega
  subst hk2
  have e:xr N l.length l.length=N:=by
   unfold xr
   rw [xB,du (by omega)]
   simp
  rw [e]
  refine pK (Z1 @hN) Z0 ?_;repeat' (first|apply Zb|apply Zn|(apply Zm;intro h)|(apply Zk;intro K hK))
  refine ZR (Z1 Tryz.results47) ?_
  have ef:(N.map tX).map (fun x=>x.map (L.fD 4))=N.map tX:=vF (fun _=>rfl) N
  simp [ef,hN]
def uA:aq:=⟨[⟨yf,[⟨F8,1,false⟩,⟨F7,3,true⟩,⟨I0,1,false⟩],[0]⟩],[],[]⟩
def F9:au:=⟨yf,[⟨NP,1,false⟩,⟨xZ,1,false⟩],[0]⟩
def wA:aq:=⟨[F9],[],[]⟩
theorem NU:dU s0 uk=.ok uA:=by kernel_rfl
theorem NV:dU uA vh=.ok uB:=by kernel_rfl
theorem NW:ud s0 uk=.ok wA:=by kernel_rfl
theorem NX:ud uA vh=.ok wB:=by kernel_rfl
theorem VU:uC s0 [uk,vh]=.ok [s0,uA,uB]:=by kernel_rfl
theorem NY:uA.Fits:=⟨by decide,by decide,by decide,by decide,by decide⟩
theorem VV:yI wA (pI []):=⟨by decide,by decide,by decide,by decide,by decide,by decide⟩
theorem VW:yI uA (pI [th]):=⟨by decide,by decide,by decide,by decide,by decide,by decide⟩
theorem Qn (st:aG) (fwd:Bool) (a b c:aq) (aU comp:cZ) (no nn:Nat) (X Y:List (List L)) (hk:st.kind=3) :
  db Tryz.prog 68 [.one (.ptr 1000 0)] [(1000,mB st fwd a b c aU comp no nn 0)] [(1001,⟨2,X,[]⟩),(1002,⟨2,Y,[]⟩)] (.cR []) [(1000,mB st fwd a b c aU comp no nn 0)] [(1001,⟨2,X,[]⟩),(1002,⟨2,Y,[]⟩)]:=by
 rw [pJ,cM,cM,cM]
 unfold aj
 simp only [aW,aZ]
 rw [hk]
 refine ZM [1000] [1001,1002] Tryz.func68 Tryz.ntmps68 fun w0 m0 F0=>?_
 refine pK Z0 Z0 ?_;repeat' (first|apply Zb|apply Zn|(apply Zm;intro h))
 exact ZQ (Z1 Tryz.results68)
section
structure aG.Ok (s:aG):Prop where
 ae:s.ae.length * 8≤reachBytes
 BT:s.pZ.ae.length * 32≤reachBytes
 CQ:s.pZ.pk.length * 8≤reachBytes
 fk:s.fk.ae.length * 8≤reachBytes
theorem aG.Ok.fits {s:aG} (h:s.Ok):s.Fits:=by
 obtain ⟨h1,h2,h3,h4⟩:=h
 rw [yr] at h1 h2 h3 h4
 exact ⟨by omega,by omega,by omega,by omega⟩
variable {w:World}
theorem Ui:Tryz.prog.cellsOf 41=24:=by kernel_rfl
theorem Uj:Tryz.prog.bytesOf 41=352:=by kernel_rfl
theorem Uk:Rd Tryz.prog w 41 aj aG.Ok :=
 (FN Tryz.underlying41 (by kernel_rfl) (tm rfl xI Ab (tm rfl vz xz (tm rfl vz xz (tm rfl vz xz (tm rfl vz xz (tm rfl xI Ab
  (tm rfl FO Ip (tm rfl vz xz (tm rfl DS rd_val (tm rfl FP MR (tm rfl GI MT (tm rfl GH MS FM))))))))))))).to
  (fun p=>⟨p.1,p.2.1,p.2.2.1,p.2.2.2.1,p.2.2.2.2.1,p.2.2.2.2.2.1,p.2.2.2.2.2.2.1,p.2.2.2.2.2.2.2.1,p.2.2.2.2.2.2.2.2.1,p.2.2.2.2.2.2.2.2.2.1,p.2.2.2.2.2.2.2.2.2.2.1,p.2.2.2.2.2.2.2.2.2.2.2.1⟩)
  (fun _=>by simp [aj,bd,ap,aK,aL,bj,cS]) fun _ h=>by
   obtain ⟨_,_,_,_,_,_,⟨h1,_⟩,_,_,h2,_,h3,_⟩:=h
   obtain ⟨_,⟨k1,_⟩,⟨k2,_⟩⟩:=h2
   obtain ⟨_,⟨k3,_⟩,_⟩:=h3
   exact ⟨h1,k1,k2,k3⟩
theorem MV:Rd Tryz.prog w 70 (fun l=>[qv l]) fun l=>l.length * 352≤reachBytes∧∀c∈l,aG.Ok c :=
 AN Tryz.underlying70 Ui Uj (fun _=>rfl) Uk
structure vf.Ok (e:vf):Prop where
 steps:e.steps.length * 352≤reachBytes∧∀c∈e.steps,aG.Ok c
theorem vf.Ok.fits {e:vf} (h:e.Ok):e.Fits:=by
 have h1:=h.steps.1
 rw [yr] at h1
 exact ⟨by omega,fun st hs=>(h.steps.2 st hs).fits⟩
structure Gr.Ok (g:Gr):Prop where
 base:g.base.Ok
 rh:g.rh.length * 32≤reachBytes∧∀c∈g.rh,vf.Ok c
theorem Gr.Ok.fits {g:Gr} (h:g.Ok):g.Fits:=by
 have h1:=h.rh.1
 rw [yr] at h1
 exact ⟨h.base.fits,by omega,fun e he=>(h.rh.2 e he).fits⟩
end
end Go.Bw
