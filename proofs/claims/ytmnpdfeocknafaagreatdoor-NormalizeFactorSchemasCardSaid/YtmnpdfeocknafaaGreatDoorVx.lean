/- Proved: contracts of functions of this translation, for every state, and what they rest on; bounds stand ahead. -/
import Derived.Test.YtmnpdfeocknafaaGreatDoorVv
set_option maxHeartbeats 64000000
set_option linter.unusedSimpArgs false
set_option linter.unusedVariables false
namespace Go.Bw
open Go.Proofs
theorem PS (a b : List au) (h1 : a.length ≤ 140737488355328) (h2 : b.length ≤ 140737488355328) (h3 : ∀ t ∈ a, t.ae.length ≤ 140737488355328 ∧ t.pk.length ≤ 140737488355328) (h4 : ∀ t ∈ b, t.ae.length ≤ 140737488355328) :
    Sat Tryz.prog 51 [.one (dW a), .one (dW b), .one (.bD 52 [])] (.v (oB (decide (a = b)))) := by
  refine ZE Tryz.func51 Tryz.ntmps51 fun w0 m0 F0 => ?_
  refine pK Z0 Z0 ?_; repeat' (first | apply Zb | apply Zn | (apply Zm; intro h))
  rotate_left
  · refine ZR (Z1 Tryz.results51) ?_
    have hn : ¬ a = b := fun e => by rw [e] at h; exact h rfl
    simp [hn]
  have hl : a.length = b.length := by omega
  refine ab.loop (ι := {k : Nat // k ≤ a.length ∧ a.take k = b.take k}) (fun k => ⟨32, [(1, .v (.one (dW b))), (2, .v (.one (.bD 52 []))), (15, .v (.one (dW a))), (16, .v (oI a.length)), (17, .v (oI k.1))], [], []⟩) (fun k => a.length - k.1) ⟨0, bg _, rfl⟩ ?_ fun ⟨k, hkl, hi⟩ => ?_
  · exact ZL Z0
  rcases cV k a.length with hc | hc
  · have hb : k < b.length := by omega
    repeat' (first | ((first | with_reducible refine qV ah fun K hK => ?_ | ((with_reducible refine ai.is ?_); (refine ai.pure (IR a[k] b[k] (h3 _ (bl hc)).1 (h4 _ (bl hb)) (h3 _ (bl hc)).2) ?_))) <;> simp -dsimp (disch := first | exact D | fail) only [go_sem, ↓reduceIte, seval]) | ((with_reducible refine hK _ ?_); clear hK K) | refine Q1 ?_ | ((with_reducible refine qW (T := TT) (b := ?_) ?_ ?_); rotate_left; exact rfl) | ((with_reducible refine yS ?_ ?_) <;> (intro h; try simp only [NM] at h)) | fail)
    all_goals first
      | (refine ⟨⟨k + 1, by omega, Cx hc hb hi ‹_›⟩, by simp only; omega, ?_⟩
         exact ZL Z0
         done)
      | (have hn : ¬ a = b := fun e => ‹¬ _› (get_of_eq hc hb e)
         refine ZR (Z1 Tryz.results51) ?_
         simp [hn])
  · have hk : a = b := by
      rw [du (by omega), du (by omega)] at hi
      exact hi
    refine ZW Z0 Z0 ?_
    refine ZR (Z1 Tryz.results51) ?_
    simp [hk]
theorem Ql (a b:aq) (ha:a.Fits) (hb:b.Fits):Sat Tryz.prog 24 [.agg (aC a),.agg (aC b)] (.v (oB (decide (a=b)))):=by
 have sp:decide (a=b)=(decide (a.tables=b.tables)&&(decide (a.ak=b.ak)&&decide (a.cons=b.cons))):=by
  rw [EM]
  simp only [qa,uv]
  constructor
  ·rintro rfl;exact ⟨rfl,rfl,rfl⟩
  ·rintro ⟨h1,h2,h3⟩;cases a;cases b;simp_all
 rw [sp]
 refine ZE Tryz.func24 Tryz.ntmps24 fun w0 m0 F0=>?_
 refine pK Z0 (Z3 (PS a.tables b.tables ha.tables hb.tables ha.table (fun t ht=>(hb.table t ht).1)) (JY a.ak b.ak ha.ak hb.ak ha.fk) (JZ a.cons b.cons ha.cons hb.cons)) ?_;repeat' (first|apply Zb|apply Zn|(apply Zm;intro h))
 all_goals simp -dsimp (disch:=first|exact D|fail) only [aR,Tryz.results24,aQ,aS,aO,St.rest,St.freeze,RT,go_sem,↓reduceIte,seval]
 all_goals simp_all
theorem uj {s t:aq} {st:aG} (h:dU s st=.ok t):dC s=0∧s5 st=0∧dD s st=.ok t∧dC t=0:=by
 unfold dU at h
 split at h
 ·cases h
 rename_i h1
 split at h
 ·cases h
 rename_i h2
 split at h
 ·cases h
 rename_i u hu
 split at h
 ·cases h
 rename_i h3
 injection h with h
 subst h
 exact ⟨vu h1,vu h2,hu,vu h3⟩
theorem BO {s t:aq} {st:aG} (h1:dC s=0) (h2:s5 st=0) (h3:dD s st=.ok t) (h4:dC t=0):dU s st=.ok t:=by
 unfold dU
 rw [if_neg (by omega),if_neg (by omega),h3]
 simp only
 rw [if_neg (by omega)]
theorem xA (a:ByteArray):aw a a=true:=qo.2 rfl
def Ed (st:aG):aG:={rQ with kind:=11,table:=st.pZ.name}
def Ee (st:aG):aG:={rQ with kind:=2,table:=st.table,dm:=st.dm,value:=st.value}
theorem HC {s:aq} (h:dC s=0) {f:FK} (hf:f∈s.ak):(∃t∈s.tables,t.name=f.table)∧∃t∈s.tables,t.name=f.ref:=by
 have:=((Gs _).1 ((zj _).1 h).2.2.1).1 f hf
 obtain ⟨i,q,hi,hq,e1,e2,_⟩:=E2 this
 obtain ⟨i',hi',_,n1⟩:=vd (ts:=s.tables) (n:=f.table) (by omega)
 obtain ⟨q',hq',_,n2⟩:=vd (ts:=s.tables) (n:=f.ref) (by omega)
 exact ⟨⟨_,bl hi',n1⟩,⟨_,bl hq',n2⟩⟩
theorem HD {s:aq} (h:dC s=0) {c:dN} (hc:c∈s.cons):∃t∈s.tables,t.name=c.table:=by
 have:=((G6 _).1 ((zj _).1 h).2.2.2).1 c hc
 obtain ⟨i,hi,e1,_⟩:=Jp this
 obtain ⟨i',hi',_,n1⟩:=vd (ts:=s.tables) (n:=c.table) (by omega)
 exact ⟨_,bl hi',n1⟩
theorem uO {a b:ByteArray} (h:a≠b):aw a b=false:=by
 cases hb:aw a b with
 | false=>rfl
 | true=>exact absurd (qo.1 hb) h
theorem W6 {s t:aq} {st:aG} (h:dU s st=.ok t) (hk:st.kind=10):dU t (Ed st)=.ok s:=by
 obtain ⟨h1,_,h3,h4⟩:=uj h
 unfold dD wI at h3
 rw [if_neg (by omega),if_neg (by omega),if_neg (by omega),if_neg (by omega),if_pos hk] at h3
 split at h3
 ·cases h3
 rename_i hn
 injection h3 with h3
 have hnm:=Ad.1 hn
 obtain ⟨A,B,hAB,hp⟩:=place (wX h1) st.pZ hnm
 rw [Ec hAB hp] at h3
 subst h3
 have ha:aY (A++st.pZ::B) st.pZ.name=((A.length:Nat):Int):=by
  have:=xt hp (i:=A.length) (by simp)
  simpa using this
 refine BO h4 (by simp [s5,uz,Ed]) ?_ h1
 have hfk:∀f∈s.ak,aw f.ref st.pZ.name=false∧aw f.table st.pZ.name=false:=fun f hf=>by
  obtain ⟨⟨t1,m1,e1⟩,t2,m2,e2⟩:=HC h1 hf
  exact ⟨uO (e2▸hnm t2 m2),uO (e1▸hnm t1 m1)⟩
 have hcn:∀c∈s.cons,aw c.table st.pZ.name=false:=fun c hc=>by
  obtain ⟨t1,m1,e1⟩:=HD h1 hc
  exact uO (e1▸hnm t1 m1)
 have f1:(s.ak.any fun f=>aw f.ref st.pZ.name&&!aw f.table st.pZ.name)=false:=by
  rw [Cd]
  intro f hf
  simp [(hfk f hf).1]
 have f2:(s.ak.filter fun f=>!aw f.table st.pZ.name)=s.ak:=List.filter_eq_self.2 fun f hf=>by simp [(hfk f hf).2]
 have f3:(s.cons.filter fun c=>!aw c.table st.pZ.name)=s.cons:=List.filter_eq_self.2 fun c hc=>by simp [hcn c hc]
 have f4:((A++st.pZ::B).filter fun t=>!aw t.name st.pZ.name)=A++B:=by
  rw [tZ,dL,if_neg (by simp [xA])]
  congr 1
  ·exact List.filter_eq_self.2 fun x hx=>by simp [uO (hnm x (by rw [hAB];simp [hx]))]
  ·exact List.filter_eq_self.2 fun x hx=>by simp [uO (hnm x (by rw [hAB];simp [hx]))]
 have e:(⟨A++B,s.ak,s.cons⟩:aq)=s:=by rw [←hAB]
 unfold dD Ed vZ xV
 simp only [ha,f1,f2,f3,f4,e]
 simp
theorem Js {α β:Type} (g:α→β) (p:β→Bool):∀(l:List α) (k:Nat),idx (fun x=>p (g x)) l k=idx p (l.map g) k
 | [],_=>rfl
 | x::r,k=>by rw [aJ,idx,idx,Js g p r]
theorem Ra {ts us:List au} (h:ts.map au.name=us.map au.name) (n:ByteArray):aY ts n=aY us n:=by
 unfold aY
 rw [Js au.name (fun m=>aw m n),Js au.name (fun m=>aw m n),h]
theorem Jt {ts:List au} {i:Nat} (hi:i<ts.length) {t:au} (h:t.name=ts[i].name):(ts.set i t).map au.name=ts.map au.name:=by
 rw [vJ,h]
 refine Kz (by simp) fun j h1 h2=>?_
 rw [KB]
 split
 ·rename_i e;subst e;simp
 ·rfl
theorem OB {α:Type} (l:List α) {i:Nat} (hi:i<l.length):l.set i l[i]=l:=by
 refine Kz (by simp) fun j h1 h2=>?_
 rw [KB]
 split
 ·rename_i e;subst e;rfl
 ·rfl
theorem OC {α:Type} (c:α):∀(l:List α) (k n:Nat),k+l.length=n→sh [(n:Int)] (l++[c]) k=l
 | [],k,n,h=>by
  have:k=n:=by simpa using h
  subst this
  simp [sh]
 | x::r,k,n,h=>by
  simp only [bP] at h
  rw [aW,sh,if_neg (by simp;omega),OC c r (k+1) n (by omega)]
theorem OD {n c:Int} (h:c<n):rz [n] c=c:=by
 unfold rz
 rw [dL,if_neg (by simp;omega)]
 simp
theorem Gt {l:List gK} {n:ByteArray}:¬ 0≤pP l n↔∀c∈l,c.name≠n:=by
 unfold pP
 rw [Gp]
 constructor
 ·intro h t ht e
  have:=h t ht
  rw [qo.2 e] at this
  cases this
 ·intro h t ht
  exact uO (h t ht)
theorem OE {l:List gK} {n:ByteArray} (h:¬ pP l n<0):∃i,∃hi:i<l.length,pP l n=(i:Int)∧l[i].name=n:=by
 rcases qn (fun t=>aw t.name n) l 0 with ⟨e1,_⟩|⟨i,hi,e1,e2,_⟩
 ·have e1:pP l n=-1:=e1
  omega
 ·exact ⟨i,hi,by unfold pP;simpa using e1,qo.1 e2⟩
theorem Ef {t:au} (o:uD t) {k:Nat} (hk:k<t.ae.length):pP t.ae t.ae[k].name=(k:Int):=by
 rcases qn (fun c=>aw c.name t.ae[k].name) t.ae 0 with ⟨_,e2⟩|⟨j,hj,e1,e2,e3⟩
 ·have:=e2 _ (bl hk)
  rw [xA] at this
  cases this
 ·have e:pP t.ae t.ae[k].name=(j:Int):=by unfold pP;simpa using e1
  have h1:=(o.CD k hk).2.1
  rw [e,rZ] at h1
  rcases cV k j with h|h
  ·have:=e3 k h
   rw [xA] at this
   cases this
  ·rw [e]
   omega
theorem OF {t:au} (o:uD t) {j k:Nat} (hj:j<t.ae.length) (hk:k<t.ae.length) (h:j≠k):t.ae[j].name≠t.ae[k].name:=fun e=>by
 have h1:=Ef o hj
 rw [e,Ef o hk] at h1
 omega
theorem Ks {s:aq} (h:dC s=0) {f:FK} (hf:f∈s.ak) {i:Nat} (hi:i<s.tables.length) (hn:f.table=s.tables[i].name):∀x∈f.ae,0≤x∧x<(s.tables[i].ae.length:Int):=by
 have:=((Gs _).1 ((zj _).1 h).2.2.1).1 f hf
 obtain ⟨i',q,hi',_,e1,_,_,hc⟩:=E2 this
 rw [hn,xt (wX h) hi] at e1
 have:i=i':=by omega
 subst this
 intro x hx
 obtain ⟨j,hj,rfl⟩:=List.mem_iff_getElem.1 hx
 exact hc j hj
theorem Kt {s:aq} (h:dC s=0) {c:dN} (hc:c∈s.cons) {i:Nat} (hi:i<s.tables.length) (hn:c.table=s.tables[i].name):0≤c.left∧c.left<(s.tables[i].ae.length:Int)∧c.right<(s.tables[i].ae.length:Int):=by
 have:=((G6 _).1 ((zj _).1 h).2.2.2).1 c hc
 obtain ⟨i',hi',e1,h1,h2,_,h3⟩:=Jp this
 rw [hn,xt (wX h) hi] at e1
 have:i=i':=by omega
 subst this
 exact ⟨h1,h2,h3⟩
theorem W7 {s:aq} (h:dC s=0) {i:Nat} (hi:i<s.tables.length) {g:Int→Int} (hg:∀x,x<(s.tables[i].ae.length:Int)→g x=x):vM s s.tables[i].name g=s:=by
 have e1:s.ak.map (rH s.tables[i].name g)=s.ak:=by
  conv=>rhs;rw [←CM s.ak]
  refine u6 fun f hf=>?_
  unfold rH
  split
  ·rename_i q
   have hc:=Ks h hf hi (qo.1 q)
   have e:f.ae.map g=f.ae:=by
    conv=>rhs;rw [←CM f.ae]
    exact u6 fun x hx=>hg x (hc x hx).2
   rw [e]
   rfl
  ·rfl
 have e2:s.cons.map (tJ s.tables[i].name g)=s.cons:=by
  conv=>rhs;rw [←CM s.cons]
  refine u6 fun c hc=>?_
  unfold tJ
  split
  ·rename_i q
   obtain ⟨_,h2,h3⟩:=Kt h hc hi (qo.1 q)
   rw [hg _ h2,hg _ h3]
   cases c
   simp
  ·rfl
 unfold vM
 rw [e1,e2]
theorem yz {s:aq} {i:Nat} (hi:i<s.tables.length):bq s i=s.tables[i]:=by
 unfold bq
 exact bE _ hi
theorem G7 {s:aq} {i:Nat} (hi:i<s.tables.length) (t:au):bq (fh s i t) i=t:=by
 unfold bq fh
 rw [bE _ (by simpa using hi)]
 simp
theorem Ju (s:aq) (i:Nat) (t u:au):fh (fh s i t) i u=fh s i u:=by
 unfold fh
 simp
theorem OG {s:aq} {i:Nat} (hi:i<s.tables.length):fh s i s.tables[i]=s:=by
 unfold fh
 rw [OB _ hi]
theorem HF {s:aq} {i:Nat} (hi:i<s.tables.length) {t:au} (h:t.name=s.tables[i].name) (n:ByteArray):aY (fh s i t).tables n=aY s.tables n:=Ra (Jt hi h) n
theorem W8 {s t:aq} {st:aG} (h:dU s st=.ok t) (hk:st.kind=1):dU t (Ee st)=.ok s:=by
 obtain ⟨h1,_,h3,h4⟩:=uj h
 unfold dD at h3
 rw [if_neg (by omega),if_neg (by omega),if_neg (by omega),if_neg (by omega),if_neg (by omega)] at h3
 simp only at h3
 split at h3
 ·cases h3
 rename_i hk0
 rw [if_neg (by omega),if_neg (by omega),if_neg (by omega),if_neg (by omega),if_neg (by omega),if_neg (by omega),if_neg (by omega)] at h3
 try rw [if_pos hk] at h3
 obtain ⟨i,hi,ei,ni⟩:=vd hk0
 rw [ei,bG] at h3
 unfold vC at h3
 simp only at h3
 split at h3
 ·cases h3
 rename_i hd
 have hd:=vu hd
 injection h3 with h3
 rw [yz hi] at h3
 obtain ⟨T,hT⟩:∃T,s.tables[i]=T:=⟨_,rfl⟩
 obtain ⟨c,hc⟩:∃c:gK,(⟨st.dm,st.uy,st.value.kind==0⟩:gK)=c:=⟨_,rfl⟩
 rw [hT] at h3
 rw [hc] at h3 hd
 have cn:c.name=st.dm:=by rw [←hc]
 subst h3
 refine BO h4 (by simp [s5,uz,Ee]) ?_ h1
 obtain ⟨n,hn⟩:∃n,T.ae.length=n:=⟨_,rfl⟩
 have hlen:s.tables[i].ae.length=n:=by rw [hT,hn]
 have hi2:i<(fh s i {T with ae:=T.ae++[c]}).tables.length:=by unfold fh;simpa using hi
 have hTm:T∈s.tables:=hT▸bl hi
 have ok2:=(wJ h4).vc {T with ae:=T.ae++[c]} (by
  unfold fh
  exact List.mem_iff_getElem.2 ⟨i,by simpa using hi,by simp⟩)
 have ea:aY (fh s i {T with ae:=T.ae++[c]}).tables st.table=(i:Int):=by
  rw [HF hi (by rw [hT]),ei]
 have ec:pP (T.ae++[c]) st.dm=(n:Int):=by
  have:=Ef ok2 (k:=n) (by simp;omega)
  simp only at this
  have e:(T.ae++[c])[n]'(by simp;omega)=c:=by
   rw [CN (by omega)]
   simp
  rw [e,cn] at this
  exact this
 have eg:(T.ae++[c]).getD n dF=c:=by
  rw [bE _ (by simp;omega),CN (by omega)]
  simp
 have hu:s6 (fh s i {T with ae:=T.ae++[c]}) {T with ae:=T.ae++[c]} (n:Int)=0:=by
  unfold s6 fh
  simp only
  have p1:T.pk.elem (n:Int)=false:=by
   cases hb:T.pk.elem (n:Int) with
   | false=>rfl
   | true =>
    have:=Bj h1 T hTm _ (List.elem_iff.1 hb)
    omega
  have p2:(s.ak.any fun f=>aw f.table T.name&&f.ae.elem (n:Int))=false:=by
   rw [Cd]
   intro f hf q
   rw [qa] at q
   have:=Ks h1 hf hi (by rw [hT];exact qo.1 q.1) _ (List.elem_iff.1 q.2)
   omega
  have p3:(s.cons.any fun k=>aw k.table T.name&&(k.left==(n:Int)||k.right==(n:Int)))=false:=by
   rw [Cd]
   intro k hk q
   rw [qa,wO,uP,uP] at q
   have:=Kt h1 hk hi (by rw [hT];exact qo.1 q.1)
   omega
  rw [p1,p2,p3]
  simp
 have hr:rL (fh s i {T with ae:=T.ae++[c]}) i [(n:Int)]=s:=by
  unfold rL
  simp only [G7 hi,Ju]
  have e1:T.pk.map (rz [(n:Int)])=T.pk:=by
   conv=>rhs;rw [←CM T.pk]
   exact u6 fun x hx=>OD (by have:=Bj h1 T hTm x hx;omega)
  rw [OC c T.ae 0 n (by omega),e1]
  have e2:fh s i {T with ae:=T.ae,pk:=T.pk}=s:=by
   have:({T with ae:=T.ae,pk:=T.pk}:au)=s.tables[i]:=by rw [hT]
   rw [this,OG hi]
  have e3:=W7 h1 hi (g:=rz [(n:Int)]) fun x hx=>OD (by omega)
  rw [hT] at e3
  exact (congrArg (fun q=>vM q T.name (rz [(n:Int)])) e2).trans e3
 unfold dD Ee rF
 simp only [ea,bG,G7 hi,ec,eg,hu,hd,hr]
 simp
 rw [if_neg (by omega),if_neg (by omega)]
def Eg (st:aG):aG:={rQ with kind:=st.kind,table:=st.table,dm:=st.cW,cW:=st.dm}
def Eh (st:aG):aG:={rQ with kind:=st.kind,table:=st.cW,cW:=st.table}
theorem W9 {s t:aq} {st:aG} (h:dU s st=.ok t) (hk:st.kind=3):dU t (Eg st)=.ok s:=by
 obtain ⟨h1,_,h3,h4⟩:=uj h
 unfold dD at h3
 rw [if_neg (by omega),if_neg (by omega),if_neg (by omega),if_neg (by omega),if_neg (by omega)] at h3
 simp only at h3
 split at h3
 ·cases h3
 rename_i hk0
 rw [if_neg (by omega),if_neg (by omega),if_neg (by omega),if_neg (by omega),if_neg (by omega),if_neg (by omega),if_neg (by omega),if_neg (by omega)] at h3
 obtain ⟨i,hi,ei,ni⟩:=vd hk0
 rw [ei,bG] at h3
 unfold rF at h3
 simp only at h3
 rw [yz hi] at h3
 obtain ⟨T,hT⟩:∃T,s.tables[i]=T:=⟨_,rfl⟩
 rw [hT] at h3
 split at h3
 ·cases h3
 rename_i hc0
 try rw [if_pos hk] at h3
 split at h3
 ·cases h3
 rename_i hn0
 injection h3 with h3
 obtain ⟨k,hkl,ek,nk⟩:=OE hc0
 rw [ek,bG,bE _ hkl] at h3
 have hTm:T∈s.tables:=hT▸bl hi
 have ok1:=(wJ h1).vc T hTm
 have hnn:=Gt.1 hn0
 obtain ⟨c,hc⟩:∃c,T.ae[k]=c:=⟨_,rfl⟩
 rw [hc] at h3 nk
 obtain ⟨c',hc'⟩:∃c':gK,({c with name:=st.cW}:gK)=c':=⟨_,rfl⟩
 rw [hc'] at h3
 have cn:c'.name=st.cW:=by rw [←hc']
 subst h3
 have hl:k<(qi T k c').ae.length:=by unfold qi;simpa using hkl
 have g1:(qi T k c').ae[k]=c':=by
  show (T.ae.set k c')[k]'(by simpa using hkl)=c'
  simp
 have ok2:=(wJ h4).vc (qi T k c') (by
  unfold fh
  exact List.mem_iff_getElem.2 ⟨i,by simpa using hi,by simp⟩)
 refine BO h4 (by simp [s5,uz,Eg,hk]) ?_ h1
 have ea:aY (fh s i (qi T k c')).tables st.table=(i:Int):=by rw [HF hi (by rw [hT];rfl),ei]
 have e1:pP (qi T k c').ae st.cW=(k:Int):=by
  have:=Ef ok2 hl
  rw [g1,cn] at this
  exact this
 have e2:¬ 0≤pP (qi T k c').ae st.dm:=by
  refine Gt.2 fun x hx=>?_
  obtain ⟨j,hj,rfl⟩:=List.mem_iff_getElem.1 hx
  have hj':j<T.ae.length:=by unfold qi at hj;simpa using hj
  by_cases hjk:k=j
  ·subst hjk
   rw [g1,cn,←nk,←hc]
   exact fun e=>hnn _ (bl hkl) e.symm
  ·have:(qi T k c').ae[j]=T.ae[j]:=by
    show (T.ae.set k c')[j]'(by simpa using hj')=T.ae[j]
    rw [Pe hjk]
   rw [this,←nk,←hc]
   exact OF ok1 hj' hkl fun e=>hjk e.symm
 have eg:(qi T k c').ae.getD k dF=c':=by rw [bE _ hl,g1]
 have ef:fh s i (qi (qi T k c') k {c' with name:=st.dm})=s:=by
  have e3:({c' with name:=st.dm}:gK)=T.ae[k]:=by rw [←hc',hc,←nk]
  have e4:qi (qi T k c') k T.ae[k]=T:=by
   unfold qi
   simp only [vP,OB T.ae hkl]
  rw [e3,e4,←hT,OG hi]
 unfold dD Eg rF
 simp only [ea,bG,G7 hi,e1,hk,eg,Ju,ef]
 simp
 rw [if_neg (by omega),if_neg (by omega),if_neg (by omega)]
theorem Gu {α:Type} {l:List α} {i:Nat} {x:α} (h:x∈l.take i++l.drop (i+1)):∃j,∃hj:j<l.length,j≠i∧l[j]=x:=by
 rcases List.mem_append.1 h with h|h
 ·obtain ⟨j,hj,rfl⟩:=List.mem_take_iff_getElem.1 h
  exact ⟨j,by omega,by omega,rfl⟩
 ·obtain ⟨j,hj,rfl⟩:=List.mem_drop_iff_getElem.1 h
  exact ⟨i+1+j,by omega,by omega,rfl⟩
theorem Gv {α:Type} {l:List α} {i:Nat} (h:i<l.length):l=l.take i++l[i]::l.drop (i+1):=by
 rw [XI,yK]
theorem Jv {old new x:ByteArray} (h:x≠new):c7 new old (c7 old new x)=x:=by
 unfold c7
 by_cases e:x=old
 ·subst e
  rw [if_pos (xA _),if_pos (xA _)]
 ·simp [uO e,uO h]
theorem Xa {s t:aq} {st:aG} (h:dU s st=.ok t) (hk:st.kind=4):dU t (Eh st)=.ok s:=by
 obtain ⟨h1,_,h3,h4⟩:=uj h
 unfold dD at h3
 rw [if_neg (by omega),if_neg (by omega),if_neg (by omega),if_neg (by omega),if_neg (by omega)] at h3
 simp only at h3
 split at h3
 ·cases h3
 rename_i hk0
 try rw [if_pos hk] at h3
 obtain ⟨i,hi,ei,ni⟩:=vd hk0
 rw [ei,bG] at h3
 unfold tV at h3
 split at h3
 ·cases h3
 rename_i hn
 simp only at h3
 injection h3 with h3
 rw [yz hi] at h3
 have hnm:=Ad.1 hn
 have so:=wX h1
 obtain ⟨T,hT⟩:∃T,s.tables[i]=T:=⟨_,rfl⟩
 rw [hT] at h3 ni
 have hTm:T∈s.tables:=hT▸bl hi
 have hsp:=Gv hi
 rw [hT] at hsp
 have hso:(s.tables.take i++T::s.tables.drop (i+1)).Pairwise qj:=hsp▸so
 have hbase:(s.tables.take i++s.tables.drop (i+1)).Pairwise qj:=by
  have hp:=List.pairwise_append.1 hso
  exact List.pairwise_append.2 ⟨hp.1,(List.pairwise_cons.1 hp.2.1).2,fun a ha b hb=>hp.2.2 a ha b (uW _ hb)⟩
 have hbm:∀x∈s.tables.take i++s.tables.drop (i+1),x∈s.tables∧x.name≠st.table:=fun x hx=>by
  obtain ⟨j,hj,hji,rfl⟩:=Gu hx
  refine ⟨bl hj,fun e=>?_⟩
  have:=xt so hj
  rw [e,ei] at this
  omega
 obtain ⟨A,B,hAB,hp⟩:=place hbase {T with name:=st.cW} fun x hx=>hnm x (hbm x hx).1
 rw [Ec (s:={s with tables:=s.tables.take i++s.tables.drop (i+1)}) hAB hp,ni] at h3
 simp only at h3
 subst h3
 refine BO h4 (by simp [s5,uz,Eh,hk]) ?_ h1
 have nne:st.cW≠st.table:=fun e=>hnm T hTm (by rw [ni,e])
 have ha:aY (A++{T with name:=st.cW}::B) st.cW=((A.length:Nat):Int):=by
  have:=xt hp (i:=A.length) (by simp)
  simpa using this
 have hb:¬ 0≤aY (A++{T with name:=st.cW}::B) st.table:=by
  refine Ad.2 fun x hx=>?_
  rcases List.mem_append.1 hx with hx|hx
  ·exact (hbm x (by rw [hAB];simp [hx])).2
  ·rcases List.mem_cons.1 hx with rfl|hx
   ·exact nne
   ·exact (hbm x (by rw [hAB];simp [hx])).2
 have hg:(A++{T with name:=st.cW}::B).getD A.length tL={T with name:=st.cW}:=by
  rw [bE _ (by simp)]
  simp
 have hcut:(A++{T with name:=st.cW}::B).take A.length++(A++{T with name:=st.cW}::B).drop (A.length+1)=s.tables.take i++s.tables.drop (i+1):=by
  rw [hAB]
  simp
 have f1:s.ak.map ((fun f:FK=>{f with table:=c7 st.cW st.table f.table,ref:=c7 st.cW st.table f.ref})∘fun f:FK=>{f with table:=c7 st.table st.cW f.table,ref:=c7 st.table st.cW f.ref})=s.ak:=by
  conv=>rhs;rw [←CM s.ak]
  refine u6 fun f hf=>?_
  obtain ⟨⟨t1,m1,e1⟩,t2,m2,e2⟩:=HC h1 hf
  simp only [Function.comp,Jv (e1▸hnm t1 m1),Jv (e2▸hnm t2 m2),id]
 have f2:s.cons.map ((fun c:dN=>{c with table:=c7 st.cW st.table c.table})∘fun c:dN=>{c with table:=c7 st.table st.cW c.table})=s.cons:=by
  conv=>rhs;rw [←CM s.cons]
  refine u6 fun c hc=>?_
  obtain ⟨t1,m1,e1⟩:=HD h1 hc
  simp only [Function.comp,Jv (e1▸hnm t1 m1),id]
 have eT:({({T with name:=st.cW}:au) with name:=st.table}:au)=T:=by rw [←ni]
 have ins:=Ec (s:={tables:=s.tables.take i++s.tables.drop (i+1),ak:=s.ak.map fun f=>{f with table:=c7 st.table st.cW f.table,ref:=c7 st.table st.cW f.ref},cons:=s.cons.map fun c=>{c with table:=c7 st.table st.cW c.table}}) rfl hso
 unfold dD Eh tV bq
 simp only [hk,ha,bG,hb,hg,hcut,eT,ins,wP,f1,f2,←hsp]
 simp
theorem EV (s:aq) (h:Small s):Sat Tryz.prog 34 [.agg (aC s)] (.v (.agg (aC s))):=by
 have cl:=Nt s (by have:=h.tables;omega) (by have:=h.ak;omega) (by have:=h.cons;omega) (fun t ht=>by have:=h.table t ht;omega) (fun f hf=>by have:=h.fk f hf;omega)
 refine cl.rN (by
  simp -dsimp (disch:=first|exact D|fail) only [go_sem,↓reduceIte,seval,x8,St.rest,roots,bh,aC,sU,pW]
  )
structure vf.Fits (e:vf):Prop where
 len:e.steps.length≤140737488355328
 step:∀st∈e.steps,st.Fits
structure Gr.Fits (g:Gr):Prop where
 base:g.base.Fits
 len:g.rh.length≤140737488355328
 BG:∀e∈g.rh,e.Fits
theorem Hq (x v:fM):(x.kind==v.kind&&(x.int==v.int&&x.text.toList==v.text.toList))=decide (x=v):=by
 rw [EM,uv,GV]
 simp
theorem Dg:rQ.Fits:=⟨by show 0 * 8≤_;decide,by show 0 * 32≤_;decide,by show 0 * 8≤_;decide,by show 0 * 8≤_;decide⟩
theorem abt (a b:List aG) (h1:a.length≤140737488355328) (h2:b.length≤140737488355328) (h3:∀s∈a,s.Fits) (h4:∀s∈b,s.Fits) :
  Sat Tryz.prog 56 [.one (qv a),.one (qv b),.one (.bD 57 [])] (.v (oB (decide (a=b)))):=by
 unfold qv
 refine ZE Tryz.func56 Tryz.ntmps56 fun w0 m0 F0=>?_
 refine rj Z0 Z0 ?_;repeat' (first|apply Zb|apply Zn|(apply Zm;intro h))
 rotate_left
 ·refine ZR (Z1 Tryz.results56) ?_
  have hn:¬ a=b:=fun e=>by rw [e] at h;exact h rfl
  simp [hn]
 have hl:a.length=b.length:=by omega
 refine ab.loop (ι:={k:Nat // k≤a.length∧a.take k=b.take k}) (fun k=>⟨32,[(1,.v (.one (.sl 24 (b.map aj)))),(2,.v (.one (.bD 57 []))),(15,.v (.one (.sl 24 (a.map aj)))),(16,.v (oI a.length)),(17,.v (oI k.1))],[],[]⟩) (fun k=>a.length - k.1) ⟨0,bg _,rfl⟩ ?_ fun ⟨k,hkl,hi⟩=>?_
 ·exact ZL Z0
 simp only at hkl hi ⊢
 rcases cV k a.length with hc|hc
 ·have hb:k<b.length:=by omega
  have g1:(a.map aj).getD k []=aj a[k]:=bJ _ _ _ hc
  have g2:(b.map aj).getD k []=aj b[k]:=bJ _ _ _ hb
  have c:=KT a[k] b[k] (h3 _ (bl hc)) (h4 _ (bl hb))
  by_cases he:a[k]=b[k]
  ·rw [sB he] at c
   refine rj (Z3 @g1 @g2 @aj.eq_1) (Z1 (c)) ?_;repeat' (first|apply Zb|apply Zn|(apply Zm;intro h))
   refine ⟨⟨k+1,by omega,Cx hc hb hi he⟩,by simp only;omega,?_⟩
   exact ZL Z0
  ·rw [yG he] at c
   have hn:¬ a=b:=fun e=>he (get_of_eq hc hb e)
   rw [yG hn]
   refine rj (Z3 @g1 @g2 @aj.eq_1) (Z1 (c)) ?_;repeat' (first|apply Zb|apply Zn|(apply Zm;intro h))
   exact ZQ (Z1 Tryz.results56)
 ·have hk:a=b:=by
   rw [du (by omega),du (by omega)] at hi
   exact hi
  refine rj Z0 Z0 ?_;repeat' (first|apply Zb|apply Zn|(apply Zm;intro h))
  refine ZR (Z1 Tryz.results56) ?_
  simp [hk]
theorem abu (a b:List aG) (h1:a.length≤140737488355328) (h2:b.length≤140737488355328) (h3:∀s∈a,s.Fits) (h4:∀s∈b,s.Fits) :
  Sat Tryz.prog 25 [.one (qv a),.one (qv b)] (.v (oB (decide (a=b)))):=by
 have c:=abt a b h1 h2 h3 h4
 refine ZE Tryz.func25 Tryz.ntmps25 fun w0 m0 F0=>?_
 refine pK Z0 (Z1 (c)) ?_;repeat' (first|apply Zb|apply Zn|(apply Zm;intro h))
 exact ZQ (Z1 Tryz.results25)
theorem GL (i:cZ) (h1:i.length≤1099511627776) (h2:∀r∈i,r.rows.length≤1099511627776∧∀x∈r.rows,x.length≤1099511627776):Sat Tryz.prog 65 [.one (bp i)] (.v (.one (bp i))) :=
 (Pt i h1 h2).rN (by
  simp -dsimp (disch:=first|exact D|fail) only [go_sem,↓reduceIte,seval,x8,St.rest,roots,bh,bp]
  )
theorem VK (r:cZ) (h1:r.length≤1048576):db Tryz.prog 69 [.one (bp r)] [] [] (.v (.one (.ref 2 0 r.length))) [] [(2,⟨2,r.map aH,[]⟩)]:=by
 refine ZM [] [2] Tryz.func69 Tryz.ntmps69 fun w0 m0 F0=>?_
 refine ZW Z0 Z0 ?_;repeat' (first|apply Zb|apply Zn|(apply Zk;intro K hK))
 intro b hb
 refine hK _ ?_
 try clear hK K
 refine pK Z0 Z0 ?_;repeat' (first|apply Zb|apply Zn|(apply Zm;intro h)|(apply Zk;intro K hK))
 all_goals simp -dsimp (disch:=first|exact D|fail) only [aR,Tryz.results69,aQ,aS,aO,St.rest,St.freeze,RT,go_sem,↓reduceIte,seval]
 have h2:r=[]:=by
  cases r with
  | nil=>rfl
  | cons x r=>exact absurd ((hb _ rfl (by simp)).symm.trans ‹b=true›) (by decide)
 subst h2
 exact ⟨rfl,rfl⟩
def AF (a:aq) (aU:cZ) (t:au):Rel:=⟨t.name,if 0≤aY a.tables t.name then (tD a aU t.name).2 else []⟩
def zf (a b:aq) (aU:cZ):cZ:=b.tables.map (AF a aU)
def vE (a b:aq) (aU:cZ) (k:Nat):cZ:=(b.tables.take k).map (AF a aU)++(b.tables.drop k).map fun t=>⟨t.name,[]⟩
theorem NO (a b:aq) (aU:cZ) (k:Nat) (hk:k≤b.tables.length):(vE a b aU k).length=b.tables.length:=by unfold vE;simp;omega
theorem VL (a b:aq) (aU:cZ) (k:Nat) (hk:k<b.tables.length):((vE a b aU k).map aH).getD k []=[.str b.tables[k].name,.sl 1 []]:=by
 rw [bJ _ _ _ (by rw [NO a b aU k (by omega)];exact hk)]
 unfold vE
 rw [CN (by simp;omega)]
 simp [show min k b.tables.length=k by omega,aH,bm]
theorem VM (a b:aq) (aU:cZ) (k:Nat) (hk:k<b.tables.length):((vE a b aU k).map aH).set k (aH (AF a aU b.tables[k]))=(vE a b aU (k+1)).map aH:=by
 unfold vE
 rw [qd b.tables k hk,uV hk]
 simp only [dn,aJ,aI,sV,aW,aZ]
 rw [z8 _ _ (by simp;omega)]
 have e0:k - (((b.tables.take k).map (AF a aU)).map aH).length=0:=by simp;omega
 rw [e0]
 rfl
theorem VN (a b:aq) (aU:cZ) (k:Nat) (hk:k<b.tables.length) (h:¬ 0≤aY a.tables b.tables[k].name):vE a b aU (k+1)=vE a b aU k:=by
 have e:AF a aU b.tables[k]=⟨b.tables[k].name,[]⟩:=by unfold AF;rw [if_neg h]
 unfold vE
 rw [qd b.tables k hk,uV hk]
 simp only [dn,aJ,aI,sV,aW,aZ,e]
theorem D3:s0.Fits:=⟨by decide,by decide,by decide,by decide,by decide⟩
theorem VR {N:List cZ} {n k:Nat} (h:k<n) (hN:N.length=n):((xr N n k).map tX).set k (tX (N[k]'(by omega)))=(xr N n (k+1)).map tX:=by
 have hk:k<N.length:=by omega
 have lt:(N.take k).length=k:=by rw [rV];omega
 rw [←vJ]
 congr 1
 unfold xr
 rw [z8 _ _ (by omega),lt,xB,qd N k hk]
 have e:n - k=(n - (k+1))+1:=by omega
 rw [e,EL,tP,sV]
 rfl
theorem I1:uk.Fits:=⟨by decide,by decide,by decide,by decide⟩
theorem I2:vh.Fits:=⟨by decide,by decide,by decide,by decide⟩
end Go.Bw
