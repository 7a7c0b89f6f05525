/-
  WHAT IS PROVED HERE, of this translation: Agree.refl, Agree.put, Agree.putOf, Agree.ghost, wp_agree, eval_agree, wanted_agree, CI.same, Stable.get, VCh.step, Stable_nil, Stable_cons, .., AWPi.weak, CI.rowAny, AWP.rowAny, append_ty, SemOp.retype, ERep.whf, VRep.whf, ARep.whf, XRep.whf, RCell.whf, CI.boxGrow.
  A theorem that ends in sat says what the function it names returns, whatever the state it is called in; the bounds on its arguments stand ahead of it.
-/
import Derived.Lib.AppendZerosOnto
import Derived.KernelRfl
import Derived.Test.YtdnapljegcihiaaGreatDoorProg
import Derived.Laws.MakeOwn
import Derived.Carry
import Derived.MapKept
import Derived.Test.YtdnapljegcihiaaGreatDoorVb
set_option linter.unusedSimpArgs false
set_option linter.unusedVariables false
namespace Go.Bw
open Go.RowKit
section
variable {P:Program} {w0:World} {m0:Mem} {s s':St} {a:Act} {w:World} {m:Mem} {ω:Wh} {F0:Home} {T:TypeId→Option TI}
def Agree (D:Nat→Prop) (a ag:Act):Prop:=ag.defers=a.defers∧ag.tmps.size=a.tmps.size∧∀d,¬ D d→ag.tmps[d]?=a.tmps[d]?
theorem Agree.refl (D:Nat→Prop) (a:Act):Agree D a a:=⟨rfl,rfl,fun _ _=>rfl⟩
theorem Agree.put {D:Nat→Prop} {a ag:Act} (h:Agree D a ag) (d:Option Tmp) (v:Value):Agree D (a.put d v) (ag.put d v):=by
 cases d with
 | none=>exact h
 | some d =>
  refine ⟨h.1,by simpa [Act.put] using h.2.1,fun e he=>?_⟩
  simp only [Act.put,Array.getElem?_setIfInBounds,h.2.1,h.2.2 e he]
theorem Agree.putOf {D D':Nat→Prop} {a ag:Act} (h:Agree D a ag) (d:Option Tmp) (v:Value) (hD:∀e,¬ D' e→D e→d=some e):Agree D' (a.put d v) (ag.put d v):=by
 cases d with
 | none =>
  refine ⟨h.1,h.2.1,fun e he=>h.2.2 e fun hd=>?_⟩
  cases hD e he hd
 | some d =>
  refine ⟨h.1,by simpa [Act.put] using h.2.1,fun e he=>?_⟩
  simp only [Act.put,Array.getElem?_setIfInBounds,h.2.1]
  by_cases hde:d=e
  ·simp [hde]
  ·rw [if_neg hde,if_neg hde]
   exact h.2.2 e fun hd=>hde (by have:=hD e he hd;injection this)
theorem Agree.ghost {D:Nat→Prop} {a ag:Act} (h:Agree D a ag) (d:Option Tmp) (v:Value) (hD:∀e,d=some e→D e):Agree D a (ag.put d v):=by
 cases d with
 | none=>exact h
 | some d =>
  refine ⟨h.1,by simpa [Act.put] using h.2.1,fun e he=>?_⟩
  have hde:d≠e:=fun hh=>he (hD e (by rw [hh]))
  simp only [Act.put,Array.getElem?_setIfInBounds,if_neg hde,h.2.2 e he]
theorem wp_agree {D:Nat→Prop} {o:Oper} {a ag:Act} {next:Act→World→Prop} {Q:Exit→Act→World→Prop} (he:execOp a.eval o=execOp ag.eval o) (hA:Agree D a ag)
  (h:o.wp P ag w (fun a' w'=>∀ar,Agree D ar a'→next ar w') (fun e a' w'=>∀ar,Agree D ar a'→Q e ar w')):o.wp P a w next Q:=by
 unfold Oper.wp at h ⊢
 rw [he]
 unfold Oper.upon at h ⊢
 split at h
 ·exact h _ (hA.put _ _)
 ·exact h _ (hA.put _ _)
 ·rename_i d w1 _
  have h1:Agree D {a with defers:=d::a.defers} {ag with defers:=d::ag.defers}:=⟨by show d::ag.defers=d::a.defers;rw [hA.1],hA.2.1,hA.2.2⟩
  exact h _ (h1.put _ _)
 ·refine h.mono fun e w' hr=>?_
  cases e with
  | returned v=>exact hr _ (hA.put _ _)
  | panicked c=>exact hr _ hA
  | outgrown =>
   obtain ⟨a1,w1,h1⟩:=hr
   exact ⟨a1,w1,h1 _ (Agree.refl _ _)⟩
 ·exact h.mono fun v w' hr=>hr _ (hA.put _ _)
 ·exact h _ hA
 ·exact h.elim
theorem eval_agree {D:Nat→Prop} {ops:Array Oper} {o:Oper} {a ag:Act} (hA:Agree D a ag) (hs:∀cs b,o.op≠.select cs b) (hl:∀t∈o.looksAt ops,¬ D t):execOp a.eval o=execOp ag.eval o:=by
 refine execOp_congr o hs fun x hx=>?_
 cases x with
 | tmp t =>
  have:=hA.2.2 t (hl t (operand_looks (by simpa using hx)))
  simp only [Act.eval,Array.getD_eq_getD_getElem?,this]
 | _=>rfl
theorem wanted_agree {D:Nat→Prop} {ops:Array Oper} {o:Oper} {a ag:Act} (hA:Agree D a ag) (hl:∀t∈o.looksAt ops,¬ D t):Region.wanted o (yielded ops a.tmps)=Region.wanted o (yielded ops ag.tmps):=by
 unfold Region.wanted
 cases hg:o.guard with
 | none=>rfl
 | some p =>
  obtain ⟨j,b⟩:=p
  have:yielded ops a.tmps j=yielded ops ag.tmps j:=by
   unfold yielded
   cases hd:(ops[j]?).bind (·.dst) with
   | none=>rfl
   | some t =>
    have:=hA.2.2 t (hl t (by simp [Oper.looksAt,hg,hd]))
    simp only [Option.bind_some,this]
  simp only [this]
def sameA (t:St) (d:Option Tmp) (y:A):Prop:=match d with|some d=>d<t.n∧look t.env d=some y|none=>True
theorem CI.same (h:CI P w0 m0 F0 s a w m ω) {d:Option Tmp} {y:A} {v:Value} (hs:sameA s d y) (hv:ARep m ω v y):CI P w0 m0 F0 s (a.put d v) w m ω:=by
 cases d with
 | none=>exact h
 | some d =>
  obtain ⟨h1,h2⟩:=hs
  refine (h.put h1 hv).ext rfl (fun t=>?_) rfl rfl
  show look s.env t=if d=t then some y else look s.env t
  split
  ·rename_i e;subst e;exact h2
  ·rfl
def Stable (P:Program) (T:TypeId→Option TI) (ops:Array Oper):List Oper→St→Prop
 | [],_=>True
 | o::l,t=>(match guardOf ops t o with|some true=>VVal P T o t (sameA t o.dst)|some false=>sameA t o.dst (.tup [])|none=>False)∧Stable P T ops l t
theorem Stable.get {ops:Array Oper} {t:St} {o:Oper}:∀{l:List Oper},Stable P T ops l t→o∈l→(match guardOf ops t o with|some true=>VVal P T o t (sameA t o.dst)|some false=>sameA t o.dst (.tup [])|none=>False)
 | x::l,h,ho=>by
  rcases List.mem_cons.1 ho with rfl|ho
  ·exact h.1
  ·exact Stable.get h.2 ho
def VCh (P:Program) (T:TypeId→Option TI) (ops:Array Oper) (lq:List Oper):List Oper→St→(St→Prop)→Prop
 | [],t,K=>Stable P T ops lq t∧K t
 | o::l,t,K=>Stable P T ops lq t∧VOps P T ops [o] t (fun t'=>VCh P T ops lq l t' K)
theorem VCh.step {ops:Array Oper} {lq l:List Oper} {o:Oper} {t:St} {K:St→Prop} (h1:Stable P T ops lq t) (h2:∀K2:St→Prop,(∀t',VCh P T ops lq l t' K→K2 t')→VOps P T ops [o] t K2):VCh P T ops lq (o::l) t K :=
 ⟨h1,h2 _ fun _ h=>h⟩
def noSelect (o:Oper):Bool:=match o.op with|.select ..=>false|_=>true
def segs (l:List Oper):List (Nat×Nat)→List Oper
 | []=>[]
 | p::r=>(l.drop p.1).take p.2++segs l r
theorem Stable_nil {ops:Array Oper} (t:St):Stable P T ops [] t=True:=rfl
theorem Stable_cons {ops:Array Oper} {d:Option Tmp} {op:Op} {ty:TypeId} {pos:String} {af:Array Edge} {l:List Oper} (t:St):Stable P T ops (⟨d,op,ty,pos,af,Option.none⟩::l) t=(VVal P T ⟨d,op,ty,pos,af,Option.none⟩ t (sameA t d)∧Stable P T ops l t):=rfl
theorem topL_clo2 (kb kr:List Nat) (s:St) (f:FuncId) (i o i' o':Nat):topL kb kr s (.clo f [.ptr i o,.ptr i' o'])=.clo f [topL kb kr s (.ptr i o),topL kb kr s (.ptr i' o')]:=rfl
theorem sameA_some (t:St) (d:Nat) (y:A):sameA t (some d) y=(d<t.n∧look t.env d=some y):=rfl
theorem sameA_none (t:St) (y:A):sameA t Option.none y=True:=rfl
end
end Go.Bw
namespace Go.Bw
variable {P:Program} {w0:World} {m0:Mem} {F0:Home}
theorem St.le_keep (ts:List Nat) (s:St):St.le ⟨s.n,keepL ts s.env,s.box,s.row⟩ s:=by
 refine ⟨rfl,fun t x hx=>?_,fun _ _ h=>h,fun _ _ h=>h⟩
 simp only [look_keepL] at hx
 split at hx
 ·exact hx
 ·cases hx
theorem AWP.keep {Q:Exit→St→Prop} {s:St} {c:Code} (ts:List Nat) (h:AWP P w0 m0 F0 c Q ⟨s.n,keepL ts s.env,s.box,s.row⟩):AWP P w0 m0 F0 c Q s :=
 AWP.weak (St.le_keep ts s) h
end Go.Bw
namespace Go.Bw
open Go.RowKit
variable {P:Program} {T:TypeId→Option TI} {w0:World} {m0:Mem} {F0:Home} {s:St} {ω:Wh}
def StabX (P:Program) (T:TypeId→Option TI) (ops:Array Oper) (t:St) (o:Oper):Prop:=match guardOf ops t o with
 | some true=>∃x,sameA t o.dst x∧VVal P T o t (fun y=>y=x)
 | some false=>sameA t o.dst (.tup [])
 | none=>False
theorem Stable.x {ops:Array Oper} {t:St} {l:List Oper} (h:Stable P T ops l t):∀o∈l,StabX P T ops t o:=by
 intro o ho
 have h1:=Stable.get h ho
 unfold StabX
 cases hg:guardOf ops t o with
 | none=>rw [hg] at h1;exact h1.elim
 | some b =>
  rw [hg] at h1
  cases b with
  | true =>
   obtain ⟨x,h2,h3⟩:=VVal_pick h1
   exact ⟨x,h2,h3⟩
  | false=>exact h1
def SemOp (P:Program) (o:Oper) (s:St) (K:St→Prop):Prop:=∀(w0:World) (m0:Mem) (F0:Home) (a:Act) (w:World) (m:Mem) (ω:Wh),CI P w0 m0 F0 s a w m ω→Follows P w0 m0 F0 o a w K
def VOne (P:Program) (T:TypeId→Option TI) (ops:Array Oper) (o:Oper) (s:St) (K:St→Prop):Prop:=(o.guard=none∧SemOp P o s K)∨VOps P T ops [o] s K
structure Link where
 op:Oper
 free:List Oper
 rest:List Oper
def VCy (P:Program) (T:TypeId→Option TI) (ops:Array Oper):List Link→St→(St→Prop)→Prop
 | [],t,K=>K t
 | p::l,t,K=>VOne P T ops p.op t (fun t'=>VHead P T ops p.free t' (fun t''=>Stable P T ops p.rest t''∧VCy P T ops l t'' K))
def VCx (P:Program) (T:TypeId→Option TI) (ops:Array Oper) (lq:List Oper) (l:List Link) (t:St) (K:St→Prop):Prop:=(∀o∈lq,StabX P T ops t o)∧VCy P T ops l t K
def unl (ops:Array Oper) (ce:List Nat) (dep:Nat) (l1:List Nat) (i:Nat):Bool:=ce.all fun j=>!(clo ops dep i).elem j||l1.elem j
def pickO (ops:Array Oper) (p:Nat→Bool):List Oper:=(List.range ops.size).filterMap fun i=>if p i then ops[i]? else none
theorem mem_pickO {ops:Array Oper} {p:Nat→Bool} {o:Oper}:o∈pickO ops p↔∃i,p i=true∧ops[i]?=some o:=by
 unfold pickO
 simp only [List.mem_filterMap,List.mem_range]
 constructor
 ·rintro ⟨i,hi,ho⟩
  split at ho
  ·rename_i hn
   exact ⟨i,hn,ho⟩
  ·cases ho
 ·rintro ⟨i,hi,ho⟩
  refine ⟨i,(Array.getElem?_eq_some_iff.1 ho).1,?_⟩
  rw [if_pos hi]
  exact ho
def quiet0 (ops:Array Oper) (ce:List Nat) (dep:Nat):List Oper:=pickO ops fun i=>!ce.elem i&&unl ops ce dep [] i
def quietNew (ops:Array Oper) (ce:List Nat) (dep:Nat) (l1:List Nat) (k:Nat):List Oper:=pickO ops fun i=>!ce.elem i&&!unl ops ce dep l1 i&&unl ops ce dep (l1++[k]) i
def quietOld (ops:Array Oper) (ce:List Nat) (dep:Nat) (l1:List Nat) (k:Nat):List Oper:=pickO ops fun i=>!ce.elem i&&unl ops ce dep l1 i&&!(l1++[k]).any fun j=>(clo ops dep j).elem i
def quietAft (ops:Array Oper) (ce:List Nat) (dep:Nat) (l1:List Nat):List Oper:=pickO ops fun i=>!ce.elem i&&unl ops ce dep l1 i&&!l1.any fun j=>(clo ops dep j).elem i
def chainLs (ops:Array Oper) (ce:List Nat) (dep:Nat):List Nat→List Nat→List Link
 | _,[]=>[]
 | l1,j::l2=>(match ops[j]? with|some o=>[⟨o,quietNew ops ce dep l1 j,quietOld ops ce dep l1 j⟩]|none=>[])++chainLs ops ce dep (l1++[j]) l2
def laterOk (ops:Array Oper) (o o':Oper):Prop:=(∀t∈o.looksAt ops,o'.dst≠some t)∧∀d,o.dst=some d→o'.dst≠some d
theorem steps_ghost (hT:TabOk P T) {ops:Array Oper} {w:World} {D:Nat→Prop} {a0:Act}:∀(l:List Oper) (s:St) (ps:List (Option Tmp×A)) (a:Act) (m:Mem),(∀o∈l,plainOp o=true∧∀d,o.dst=some d→D d)→ps.length=l.length →
  (∀(i:Nat) (o:Oper),l[i]?=some o→∃x,ps[i]?=some (o.dst,x)∧StepOK P T ops (puts s (ps.take i)) o x)→CI P w0 m0 F0 s a w m ω→Agree D a0 a→∃ag m',CI P w0 m0 F0 (puts s ps) ag w m' ω∧Agree D a0 ag
 | [],s,ps,a,m,_,hl,_,hC,hA=>by
  have:ps=[]:=List.length_eq_zero_iff.1 (by simpa using hl)
  subst this
  exact ⟨a,m,hC,hA⟩
 | o::l,s,ps,a,m,hp,hl,hs,hC,hA=>by
  obtain ⟨p1,p2⟩:=hp o (by simp)
  obtain ⟨x,h1,h2⟩:=hs 0 o rfl
  cases ps with
  | nil=>simp at h1
  | cons p ps =>
   simp only [List.getElem?_cons_zero,Option.some.injEq] at h1
   subst h1
   have hrest:=fun (a:Act) (m:Mem) (hC:CI P w0 m0 F0 (s.putO o.dst x) a w m ω) (hA:Agree D a0 a)=>steps_ghost hT l (s.putO o.dst x) ps a m (fun o ho=>hp o (by simp [ho])) (by simpa using hl) (fun i o' ho'=>by
    obtain ⟨y,h3,h4⟩:=hs (i+1) o' (by simpa using ho')
    exact ⟨y,by simpa using h3,by simpa [puts] using h4⟩) hC hA
   simp only [List.take_zero,puts] at h2
   obtain ⟨h0,⟨hg,hv⟩|⟨hg,rfl⟩⟩:=h2
   ·obtain ⟨y,rfl,hG⟩:=VVal_sound hT hv hC
    obtain ⟨v,m',_,hC',hv'⟩:=hG.2 p1
    exact hrest _ m' (hC'.putO h0 hv') (hA.ghost _ _ p2)
   ·exact hrest _ m (hC.putO h0 arep_undef) (hA.ghost _ _ p2)
theorem steps_stable {ops:Array Oper} {l:List Oper} {ps:List (Option Tmp×A)} {s:St} (hl:ps.length=l.length) (hp:l.Pairwise (laterOk ops)) (hself:∀o∈l,∀t∈o.looksAt ops,o.dst≠some t)
  (hs:∀(i:Nat) (o:Oper),l[i]?=some o→∃x,ps[i]?=some (o.dst,x)∧StepOK P T ops (puts s (ps.take i)) o x) :
  ∀o∈l,StabX P T ops (puts s ps) o:=by
 intro o ho
 obtain ⟨i,hi,rfl⟩:=List.mem_iff_getElem.1 ho
 obtain ⟨x,h1,h2⟩:=hs i l[i] (List.getElem?_eq_getElem hi)
 have hi':i<ps.length:=by omega
 have hpi:ps[i]=(l[i].dst,x):=by rw [List.getElem?_eq_getElem hi'] at h1;injection h1
 have hsplit:ps=ps.take i++(l[i].dst,x)::ps.drop (i+1):=by
  rw [←hpi,List.getElem_cons_drop,List.take_append_drop]
 have hdst:∀p∈ps.drop (i+1),∃o',laterOk ops l[i] o'∧p.1=o'.dst:=by
  intro p hp'
  obtain ⟨k,hk,rfl⟩:=List.mem_iff_getElem.1 hp'
  rw [List.length_drop] at hk
  have hk':i+1+k<l.length:=by omega
  obtain ⟨y,h3,_⟩:=hs (i+1+k) l[i+1+k] (List.getElem?_eq_getElem hk')
  refine ⟨l[i+1+k],List.pairwise_iff_getElem.1 hp i (i+1+k) hi hk' (by omega),?_⟩
  rw [List.getElem?_eq_getElem (by omega)] at h3
  injection h3 with h3
  rw [List.getElem_drop,h3]
 have hlook:∀t∈l[i].looksAt ops,look (puts s (ps.take i)).env t=look (puts s ps).env t:=by
  intro t ht
  conv=>rhs;rw [hsplit,puts_append]
  refine (look_puts_ne fun p hp' e=>?_).symm
  rcases List.mem_cons.1 hp' with rfl|hp'
  ·exact hself _ ho t ht e
  ·obtain ⟨o',h3,h4⟩:=hdst p hp'
   exact h3.1 t ht (h4▸e)
 have hsame:sameA (puts s ps) l[i].dst x:=by
  unfold sameA
  split
  ·rename_i d hd
   have h0:=h2.1
   rw [hd] at h0
   refine ⟨by rw [puts_n];have:d<(puts s (ps.take i)).n:=h0;rwa [puts_n] at this,?_⟩
   rw [hsplit,puts_append,puts,look_puts_ne fun p hp' e=>by
    obtain ⟨o',h3,h4⟩:=hdst p hp'
    exact h3.2 d hd (h4▸e)]
   rw [hd]
   show (if d=d then some x else _)=some x
   rw [if_pos rfl]
  ·trivial
 unfold StabX
 rw [←guardOf_congr hlook]
 have hbox:(puts s (ps.take i)).box=(puts s ps).box:=by rw [puts_box,puts_box]
 have hrow:(puts s ps).row=(puts s (ps.take i)).row:=by rw [puts_row,puts_row]
 obtain ⟨_,⟨hg,hv⟩|⟨hg,rfl⟩⟩:=h2
 ·rw [hg]
  have hv2:=VVal_congr (s':=puts s ps) (fun id ls h=>by rw [←hbox];exact h) hrow (fun y hy ty=>evalO_congr (fun t e=>hlook t (operand_looks (e▸hy))) ty) hv
  exact ⟨x,hsame,hv2⟩
 ·rw [hg]
  exact hsame
def linkOk (ops:Array Oper) (ce:List Nat) (dep:Nat):Bool :=
 (List.range ops.size).all fun i=>(ce.elem i||((ops[i]?).map plainOp).getD true)&&((ops[i]?).map noSelect).getD true &&
  (List.range ops.size).all fun j=>(decide (j<i)||ce.elem j||match dstAt ops j with|none=>true|some t=>!(looksAt ops i).elem t)&&(!(ce.elem i&&ce.elem j&&decide (j<i))||(clo ops dep i).elem j)
structure LinkFacts (ops:Array Oper) (ce:List Nat) (dep:Nat):Prop where
 plain:∀(i:Nat) (o:Oper),ops[i]?=some o→i ∉ ce→plainOp o=true
 sel:∀(i:Nat) (o:Oper),ops[i]?=some o→∀cs b,o.op≠.select cs b
 later:∀i j t,i<ops.size→j<ops.size→i≤j→j ∉ ce→dstAt ops j=some t→t ∉ looksAt ops i
 chain:∀i j,i<ops.size→j<ops.size→i∈ce→j∈ce→j<i→j∈clo ops dep i
theorem linkFacts {ops:Array Oper} {ce:List Nat} {dep:Nat} (h:linkOk ops ce dep=true):LinkFacts ops ce dep:=by
 unfold linkOk at h
 simp only [List.all_eq_true,List.mem_range,Bool.and_eq_true] at h
 refine ⟨fun i o ho hi=>?_,fun i o ho cs b hb=>?_,fun i j t hi hj hij hjc ht hl=>?_,fun i j hi hj h1 h2 hlt=>?_⟩
 ·have hin:i<ops.size:=(Array.getElem?_eq_some_iff.1 ho).1
  have h1:=(h i hin).1.1
  rw [ho] at h1
  simp only [Option.map_some,Option.getD_some,Bool.or_eq_true] at h1
  rcases h1 with h1|h1
  ·exact absurd (by simpa using h1) hi
  ·exact h1
 ·have hin:i<ops.size:=(Array.getElem?_eq_some_iff.1 ho).1
  have h1:=(h i hin).1.2
  rw [ho] at h1
  simp only [Option.map_some,Option.getD_some,noSelect,hb] at h1
  cases h1
 ·have h1:=((h i hi).2 j hj).1
  rw [ht] at h1
  simp only [Bool.or_eq_true,decide_eq_true_eq] at h1
  rcases h1 with (h1|h1)|h1
  ·omega
  ·exact hjc (by simpa using h1)
  ·have:(looksAt ops i).elem t=true:=by simpa using hl
   rw [this] at h1
   cases h1
 ·have h3:=((h i hi).2 j hj).2
  have e1:ce.elem i=true:=by simpa using h1
  have e2:ce.elem j=true:=by simpa using h2
  rw [e1,e2] at h3
  simp only [hlt,decide_true,Bool.and_self,Bool.not_true,Bool.false_or] at h3
  simpa using h3
theorem pickO_later {ops:Array Oper} {ce:List Nat} {dep:Nat} (F:DrawFacts ops ops.size dep) (G:LinkFacts ops ce dep) (p:Nat→Bool) (hp:∀i,p i=true→ce.elem i=false):(pickO ops p).Pairwise (laterOk ops)∧∀o∈pickO ops p,∀t∈o.looksAt ops,o.dst≠some t:=by
 constructor
 ·unfold pickO
  refine List.Pairwise.filterMap _ (fun i j hij o ho o' ho'=>?_) List.pairwise_lt_range
  split at ho
  case isFalse=>cases ho
  split at ho'
  case isFalse=>cases ho'
  rename_i hpi hpj
  have hjc:j ∉ ce:=by simpa using hp j hpj
  have hi:i<ops.size:=(Array.getElem?_eq_some_iff.1 ho).1
  have hj:j<ops.size:=(Array.getElem?_eq_some_iff.1 ho').1
  refine ⟨fun t ht e=>?_,fun d hd e=>?_⟩
  ·exact G.later i j t hi hj (by omega) hjc (by simp [dstAt,ho',e]) (by simpa [looksAt,ho] using ht)
  ·exact F.apart i j hi hj (by omega) d (by simp [dstAt,ho,hd]) (by simp [dstAt,ho',e])
 ·intro o ho t ht e
  obtain ⟨i,hpi,ho⟩:=mem_pickO.1 ho
  have hi:i<ops.size:=(Array.getElem?_eq_some_iff.1 ho).1
  have hic:i ∉ ce:=by simpa using hp i hpi
  exact G.later i i t hi hi (Nat.le_refl _) hic (by simp [dstAt,ho,e]) (by simpa [looksAt,ho] using ht)
theorem unl_iff {ops:Array Oper} {ce:List Nat} {dep:Nat} {l1:List Nat} {i:Nat}:unl ops ce dep l1 i=true↔∀j∈ce,j∈clo ops dep i→j∈l1:=by
 unfold unl
 simp only [List.all_eq_true,Bool.or_eq_true,Bool.not_eq_true',List.elem_eq_mem,decide_eq_false_iff_not,decide_eq_true_eq]
 exact forall₂_congr fun j _=>⟨fun h h2=>h.resolve_left fun h3=>h3 h2,fun h=>Decidable.or_iff_not_imp_left.2 fun h2=>h (Decidable.of_not_not h2)⟩
theorem AWP.drawX0 (hT:TabOk P T) (hm:P.follows .mixedOrders=true) {Q:Exit→St→Prop} {id:Nat} {ops:Array Oper} (ce:List Nat) (dep:Nat) (hord:ce.Pairwise (·<·)) (hchk:drawOk ops ops.size dep=true) (hch:linkOk ops ce dep=true)
  (h:VHead P T ops (quiet0 ops ce dep) s fun s'=>VCy P T ops (chainLs ops ce dep [] ce) s' (Q .normal)):AWP P w0 m0 F0 (.region id ops true) Q s:=by
 intro a w hc
 have F:=drawFacts hchk
 have G:=linkFacts hch
 obtain ⟨m,ω,hC⟩:=hc
 refine wp_region_any hm ?_
 have hg0:∀i,(Array.replicate ops.size false).getD i false=false:=fun i=>by
  rw [Array.getD_eq_getD_getElem?,Array.getElem?_replicate]
  split<;>rfl
 let D:(Nat→Bool)→List Nat→Nat→Prop:=fun S l1 d=>∃i,i ∉ ce∧unl ops ce dep l1 i=true∧S i=false∧dstAt ops i=some d
 have hqa:∀(l1:List Nat) (o:Oper) (i:Nat),i ∉ ce→ops[i]?=some o→unl ops ce dep l1 i=true→(∀j∈l1,i ∉ clo ops dep j)→o∈quietAft ops ce dep l1:=by
  intro l1 o i hi ho hu hj
  refine mem_pickO.2 ⟨i,?_,ho⟩
  have h1:ce.elem i=false:=by simpa using hi
  have h2:(l1.any fun j=>(clo ops dep j).elem i)=false:=by
   rw [List.any_eq_false]
   intro j hj'
   simpa using hj j hj'
  rw [h1,h2,hu]
  rfl
 refine draw_headE hT F (K:=Q .normal) (Q:=PostQ P w0 m0 F0 Q)
  (C:=fun S a w=>∃l1 l2 t,ce=l1++l2∧(∀j∈l1,S j=true)∧(∀j∈l2,S j=false)∧VCx P T ops (quietAft ops ce dep l1) (chainLs ops ce dep l1 l2) t (Q .normal)∧∃ag,Conc P w0 m0 F0 t ag w∧Agree (D S l1) a ag)
  (fun s a w h1 h2=>⟨s,h1,h2⟩) (fun S i a w o ho hi hSi htl hcl hcl2 hC' K' Q' hK=>?_) (fun S a w hall htl hC'=>?_) ops.size _ a _ 0 (by omega) (by simp) ?_ ?_ ?_ ?_
 ·obtain ⟨l1,l2,t,e1,e2,e3,hV,ag,⟨m,ω,hA⟩,hag⟩:=hC'
  have hin:i<ops.size:=(Array.getElem?_eq_some_iff.1 ho).1
  have hdone:∀j∈ce,S j=true→j∈l1:=by
   intro j hj hSj
   rw [e1] at hj
   rcases List.mem_append.1 hj with h|h
   ·exact h
   ·rw [e3 j h] at hSj;cases hSj
  have hlook:∀t∈o.looksAt ops,¬ D S l1 t:=by
   rintro t ht ⟨j,j1,_,j2,j3⟩
   have htl':t∈looksAt ops i:=by simpa [looksAt,ho] using ht
   have hjn:j<ops.size:=by
    rcases Nat.lt_or_ge j ops.size with h|h
    ·exact h
    ·simp [dstAt,Array.getElem?_eq_none h] at j3
   rcases Nat.lt_or_ge j i with hlt|hge
   ·have:=hcl j ((F.reads i j t hin hjn (by omega) j3 htl').1 hlt)
    rw [j2] at this
    cases this
   ·exact G.later i j t hin hjn hge j1 j3 htl'
  have hsel:=G.sel i o ho
  have hex:=eval_agree hag hsel hlook
  have hwa:=wanted_agree hag hlook
  rw [hwa]
  by_cases hic:i∈ce
  ·-- the chain
   have hi2:i∈l2:=by
    rw [e1] at hic
    rcases List.mem_append.1 hic with h|h
    ·have:=e2 i h;rw [hSi] at this;cases this
    ·exact h
   obtain ⟨k,l2',rfl⟩:∃k l2',l2=k::l2':=by
    cases l2 with
    | nil=>cases hi2
    | cons k l=>exact ⟨k,l,rfl⟩
   have hord2:(k::l2').Pairwise (·<·):=by rw [e1] at hord;exact (List.pairwise_append.1 hord).2.1
   have hki:k=i:=by
    rcases List.mem_cons.1 hi2 with h|h
    ·exact h.symm
    ·have hlt:=(List.pairwise_cons.1 hord2).1 i h
     have:=hcl k (G.chain i k hin (by omega) hic (by rw [e1];simp) hlt)
     rw [e3 k (by simp)] at this
     cases this
   subst hki
   have hnot:∀j∈l2',j≠k:=fun j hj e=>by have:=(List.pairwise_cons.1 hord2).1 j hj;omega
   have hV:=hV.2
   simp only [chainLs,ho,List.cons_append,List.nil_append,VCy] at hV
   have hunew:∀i',i' ∉ ce→unl ops ce dep l1 i'=false→S i'=false:=by
    intro i' _ hu
    cases hS:S i' with
    | false=>rfl
    | true =>
     have:unl ops ce dep l1 i'=true:=unl_iff.2 fun j hj hjc=>hdone j hj (hcl2 i' hS j hjc)
     rw [hu] at this
     cases this
   have hDD:∀d,D S l1 d→D (fun j=>if j=k then true else S j) (l1++[k]) d:=by
    rintro d ⟨j,j1,ju,j2,j3⟩
    have hjk:j≠k:=fun e=>j1 (e▸hic)
    exact ⟨j,j1,unl_iff.2 fun q hq hqc=>List.mem_append_left _ (unl_iff.1 ju q hq hqc),by simpa [hjk] using j2,j3⟩
   have hnext:∀t' ar ag' w',VHead P T ops (quietNew ops ce dep l1 k) t' (fun t''=>Stable P T ops (quietOld ops ce dep l1 k) t''∧VCy P T ops (chainLs ops ce dep (l1++[k]) l2') t'' (Q .normal))→Conc P w0 m0 F0 t' ag' w'→Agree (D S l1) ar ag'→K' ar w':=by
    rintro t' ar ag' w' h1 ⟨m2,ω2,h2⟩ h3
    obtain ⟨ps,hl,⟨hst,hK2⟩,hs⟩:=VHead_chain _ _ h1
    obtain ⟨hidx,hself⟩:=pickO_later F G (fun i=>!ce.elem i&&!unl ops ce dep l1 i&&unl ops ce dep (l1++[k]) i) (fun i hi=>by simp only [Bool.and_eq_true,Bool.not_eq_true'] at hi;exact hi.1.1)
    have hstab:=steps_stable hl hidx hself hs
    have h3':Agree (D (fun j=>if j=k then true else S j) (l1++[k])) ar ag':=⟨h3.1,h3.2.1,fun d hd=>h3.2.2 d fun h=>hd (hDD d h)⟩
    obtain ⟨ag2,m',h4,h5⟩:=steps_ghost (D:=D (fun j=>if j=k then true else S j) (l1++[k])) (a0:=ar) hT _ t' ps ag' m2 (fun o' ho'=>by
     obtain ⟨i',hi',ho'⟩:=mem_pickO.1 ho'
     simp only [Bool.and_eq_true,Bool.not_eq_true',List.elem_eq_mem,decide_eq_false_iff_not] at hi'
     obtain ⟨⟨q1,q2⟩,q3⟩:=hi'
     have hik:i'≠k:=fun e=>q1 (e▸hic)
     exact ⟨G.plain i' o' ho' q1,fun d hd=>⟨i',q1,q3,by simpa [hik] using hunew i' q1 q2,by simp [dstAt,ho',hd]⟩⟩) hl hs h2 h3'
    refine hK _ _ ⟨l1++[k],l2',puts t' ps,by rw [e1];simp,fun j hj=>?_,fun j hj=>?_,⟨fun o' ho'=>?_,hK2⟩,ag2,⟨m',ω2,h4⟩,h5⟩
    ·rcases List.mem_append.1 hj with h|h
     ·simp only [e2 j h,ite_self]
     ·have:j=k:=by simpa using h
      simp [this]
    ·simp only [hnot j hj,if_false];exact e3 j (by simp [hj])
    ·obtain ⟨i',hi',hoo⟩:=mem_pickO.1 ho'
     simp only [Bool.and_eq_true] at hi'
     obtain ⟨⟨q1,q2⟩,q3⟩:=hi'
     cases hu:unl ops ce dep l1 i' with
     | true=>exact hst.x o' (mem_pickO.2 ⟨i',by simp only [q1,hu,q3,Bool.and_self],hoo⟩)
     | false=>exact hstab o' (mem_pickO.2 ⟨i',by simp only [q1,hu,q2,Bool.not_false,Bool.and_self],hoo⟩)
   rcases hV with ⟨hg,hV⟩|hV
   ·have hw:Region.wanted o (yielded ops ag.tmps)=true:=by simp [Region.wanted,hg]
    rw [if_pos hw]
    exact .inl (wp_agree hex hag (hV _ _ _ _ _ _ _ hA _ _ fun s' a' w' h1 h2 ar har=>hnext s' ar a' w' h1 h2 har))
   simp only [VOps] at hV
   split at hV
   ·rename_i hg
    rw [if_pos (guardOf_sound hA hg)]
    exact .inl (wp_agree hex hag (VOp_sound hT hV hA _ _ fun s' a' w' h1 h2 ar har=>hnext s' ar a' w' h1 h2 har))
   ·rename_i hg
    rw [if_neg (by rw [guardOf_sound hA hg];simp)]
    obtain ⟨h1,h2⟩:=pk_elim hV
    exact hnext _ _ (ag.put o.dst undef) w h2 ⟨m,ω,hA.putO h1 arep_undef⟩ (hag.put _ _)
   ·cases hV
  ·-- a quiet one
   have hun:unl ops ce dep l1 i=true:=unl_iff.2 fun j hj hjc=>hdone j hj (hcl j hjc)
   have hst:=hV.1 o (hqa l1 o i hic ho hun fun j hj hij=>by
    have:=hcl2 j (e2 j hj) i hij
    rw [hSi] at this
    cases this)
   have hfin:∀v m',CI P w0 m0 F0 t (ag.put o.dst v) w m' ω→K' (a.put o.dst v) w:=fun v m' h1 =>
    hK _ _ ⟨l1,l2,t,e1,fun j hj=>by simp only [e2 j hj,ite_self],fun j hj=>by
     have:j≠i:=fun e=>hic (by rw [e1];simp [←e,hj])
     simp only [this,if_false];exact e3 j hj,hV,ag.put o.dst v,⟨m',ω,h1⟩,hag.putOf _ _ fun e h1 h2=>by
      obtain ⟨j,j1,ju,j2,j3⟩:=h2
      by_cases hji:j=i
      ·subst hji
       simpa [dstAt,ho] using j3
      ·exact absurd ⟨j,j1,ju,by simpa [hji] using j2,j3⟩ h1⟩
   unfold StabX at hst
   split at hst
   ·rename_i hg
    rw [if_pos (guardOf_sound hA hg)]
    obtain ⟨y,hy,hst⟩:=hst
    obtain ⟨x,hx,hG⟩:=VVal_sound hT hst hA
    have hx:sameA t o.dst x:=hx▸hy
    obtain ⟨v,m',hrun,hC2,hv⟩:=hG.2 (G.plain i o ho hic)
    refine .inl ?_
    unfold Oper.wp
    rw [hex,hrun,Oper.upon_value]
    exact hfin v m' (hC2.same hx hv)
   ·rename_i hg
    rw [if_neg (by rw [guardOf_sound hA hg];simp)]
    exact hfin _ m (hA.same hst arep_undef)
   ·cases hst
 ·obtain ⟨l1,l2,t,e1,e2,e3,hV,ag,hA,hag⟩:=hC'
  have hl2:∀(l1 l2:List Nat),(∀j∈l2,ops[j]?=none)→chainLs ops ce dep l1 l2=[]:=by
   intro l1 l2
   induction l2 generalizing l1 with
   | nil=>intro _;rfl
   | cons j l2 ih =>
    intro hj
    simp only [chainLs,hj j (by simp),List.nil_append]
    exact ih _ fun j' hj'=>hj j' (by simp [hj'])
  have hl2:=hl2 l1 l2 fun j hj=>by
   rcases Nat.lt_or_ge j ops.size with h|h
   ·have:=hall j h
    rw [e3 j hj] at this
    cases this
   ·exact Array.getElem?_eq_none h
  rw [hl2] at hV
  have hD:∀d,¬ D S l1 d:=by
   rintro d ⟨j,j1,_,j2,j3⟩
   rcases Nat.lt_or_ge j ops.size with h|h
   ·have:=hall j h
    rw [j2] at this
    cases this
   ·simp [dstAt,Array.getElem?_eq_none h] at j3
  have hea:ag=a:=by
   obtain ⟨h1,h2,h3⟩:=hag
   cases ag
   cases a
   simp only at h1 h2 h3
   subst h1
   congr 1
   exact Array.ext_getElem? fun d=>h3 d (hD d)
  subst hea
  refine ⟨t,?_,hA⟩
  have hd:ops.toList.drop ops.size=[]:=by apply List.drop_eq_nil_of_le;simp
  rw [hd]
  exact hV.2
 ·rw [List.filter_eq_nil_iff.2 (fun i _=>by rw [hg0];simp)]
  rfl
 ·intro i _ hb
  rw [hg0] at hb
  cases hb
 ·intro i _
  exact hg0 i
 ·obtain ⟨ps,hl,hK,hs⟩:=VHead_chain _ _ h
  obtain ⟨hidx,hself⟩:=pickO_later F G (fun i=>!ce.elem i&&unl ops ce dep [] i) (fun i hi=>by simp only [Bool.and_eq_true,Bool.not_eq_true'] at hi;exact hi.1)
  have hstab:=steps_stable hl hidx hself hs
  obtain ⟨ag,m',h2,h3⟩:=steps_ghost (D:=D (fun i=>(Array.replicate ops.size false).getD i false) []) (a0:=a) hT _ s ps a m (fun o ho=>by
   obtain ⟨i,hi,ho⟩:=mem_pickO.1 ho
   simp only [Bool.and_eq_true,Bool.not_eq_true',List.elem_eq_mem,decide_eq_false_iff_not] at hi
   exact ⟨G.plain i o ho hi.1,fun d hd=>⟨i,hi.1,hi.2,hg0 i,by simp [dstAt,ho,hd]⟩⟩) hl hs hC.draw (Agree.refl _ _)
  refine ⟨[],ce,puts s ps,rfl,fun j hj=>(by cases hj),fun j _=>hg0 j,⟨fun o ho=>hstab o ?_,hK⟩,ag,⟨m',ω,h2⟩,h3⟩
  obtain ⟨i,hi,ho⟩:=mem_pickO.1 ho
  simp only [Bool.and_eq_true] at hi
  exact mem_pickO.2 ⟨i,by simp only [hi.1,Bool.and_self],ho⟩
def segx (l:List Oper):List (Nat×List (Nat×Nat)×List (Nat×Nat))→List Link
 | []=>[]
 | p::r=>(match l[p.1]? with|some o=>[⟨o,segs l p.2.1,segs l p.2.2⟩]|none=>[])++segx l r
theorem AWP.drawX (hT:TabOk P T) (hm:P.follows .mixedOrders=true) {Q:Exit→St→Prop} {id:Nat} {l:List Oper} (sq:List (Nat×Nat)) (sx:List (Nat×List (Nat×Nat)×List (Nat×Nat))) (ce:List Nat) (dep:Nat) (hord:ce.Pairwise (·<·)) (hchk:drawOk l.toArray l.toArray.size dep=true) (hch:linkOk l.toArray ce dep=true)
  (h1:quiet0 l.toArray ce dep=segs l sq) (h2:chainLs l.toArray ce dep [] ce=segx l sx)
  (h:∀K2:St→Prop,(∀s',(∀K:St→Prop,(∀s',Q .normal s'→K s')→VCy P T l.toArray (segx l sx) s' K)→K2 s')→VHead P T l.toArray (segs l sq) s K2):AWP P w0 m0 F0 (.region id l.toArray true) Q s :=
 AWP.drawX0 hT hm ce dep hord hchk hch (by rw [h1,h2];exact h _ fun s' h=>h _ fun _ h=>h)
theorem VCy.step {ops:Array Oper} {lq ln:List Oper} {o:Oper} {l:List Link} {t:St} {K:St→Prop} (h:∀K2:St→Prop,(∀t',VHead P T ops ln t' (fun t''=>Stable P T ops lq t''∧VCy P T ops l t'' K)→K2 t')→VOps P T ops [o] t K2):VCy P T ops (⟨o,ln,lq⟩::l) t K :=
 .inr (h _ fun _ h=>h)
theorem VCy.sem {ops:Array Oper} {lq ln:List Oper} {o:Oper} {l:List Link} {t:St} {K:St→Prop} (hg:o.guard=.none) (h:∀K2:St→Prop,(∀t',VHead P T ops ln t' (fun t''=>Stable P T ops lq t''∧VCy P T ops l t'' K)→K2 t')→SemOp P o t K2):VCy P T ops (⟨o,ln,lq⟩::l) t K :=
 .inl ⟨hg,h _ fun _ h=>h⟩
theorem VCy.none {ops:Array Oper} {lq:List Oper} {l:List Link} {t:St} {K:St→Prop} (h:Stable P T ops lq t∧VCy P T ops l t K):VHead P T ops [] t (fun t''=>Stable P T ops lq t''∧VCy P T ops l t'' K):=h
theorem VCy.some {ops:Array Oper} {lq ln:List Oper} {o:Oper} {l:List Link} {t:St} {K:St→Prop} (h:∀K2:St→Prop,(∀t',(Stable P T ops lq t'∧VCy P T ops l t' K)→K2 t')→VHead P T ops (o::ln) t K2):VHead P T ops (o::ln) t (fun t''=>Stable P T ops lq t''∧VCy P T ops l t'' K) :=
 h _ fun _ h=>h
theorem VCy.intro {A:(St→Prop)→Prop} {ops:Array Oper} {l:List Link} {t:St} (h:∀K:St→Prop,A K→VCy P T ops l t K):∀K:St→Prop,A K→VCy P T ops l t K:=h
theorem VCy.keep {ops:Array Oper} {t:St} {l:List Oper} {A:Prop} (h1:Stable P T ops l t) (h:A):Stable P T ops l t∧A:=⟨h1,h⟩
theorem VCy.quiet {ops:Array Oper} {t:St} {A:Prop} (h:A):Stable P T ops [] t∧A:=⟨trivial,h⟩
theorem VCy.fin {ops:Array Oper} {t:St} {K:St→Prop} (h:K t):VCy P T ops [] t K:=h
end Go.Bw
namespace Go.Bw
open Go.RowKit
variable {P:Program} {T:TypeId→Option TI} {w0:World} {m0:Mem} {F0:Home} {s:St} {ω:Wh}
inductive CT where
 | leaf
 | fail
 | none
 | cons (p:Link) (kid rest:CT)
def VCt (P:Program) (T:TypeId→Option TI) (ops:Array Oper):CT→St→(St→Prop)→Prop
 | .leaf,t,K=>K t
 | .fail,_,_=>False
 | .none,_,_=>True
 | .cons p kid rest,t,K=>VOne P T ops p.op t (fun t'=>VHead P T ops p.free t' (fun t''=>Stable P T ops p.rest t''∧VCt P T ops kid t'' K))∧VCt P T ops rest t K
def kidsOf (ops:Array Oper) (ce:List Nat) (dep:Nat) (l1:List Nat) (kid:Nat→CT):List Nat→CT
 | []=>.none
 | k::r=>if l1.elem k||!unl ops ce dep l1 k then kidsOf ops ce dep l1 kid r else match ops[k]? with
  | some o=>.cons ⟨o,quietNew ops ce dep l1 k,quietOld ops ce dep l1 k⟩ (kid k) (kidsOf ops ce dep l1 kid r)
  | none=>.fail
def chainTree (ops:Array Oper) (ce:List Nat) (dep:Nat):Nat→List Nat→CT
 | 0,l1=>if ce.all (fun j=>l1.elem j) then .leaf else .fail
 | n+1,l1=>if ce.all (fun j=>l1.elem j) then .leaf else kidsOf ops ce dep l1 (fun k=>chainTree ops ce dep n (l1++[k])) ce
theorem kid_of {ops:Array Oper} {ce:List Nat} {dep:Nat} {l1:List Nat} {kid:Nat→CT} {t:St} {K:St→Prop} {k:Nat} {o:Oper} (ho:ops[k]?=some o) (h1:k ∉ l1) (h2:unl ops ce dep l1 k=true):∀(l:List Nat),k∈l→VCt P T ops (kidsOf ops ce dep l1 kid l) t K →
  VOne P T ops o t (fun t'=>VHead P T ops (quietNew ops ce dep l1 k) t' (fun t''=>Stable P T ops (quietOld ops ce dep l1 k) t''∧VCt P T ops (kid k) t'' K))
 | q::r,hk,h=>by
  unfold kidsOf at h
  by_cases hq:q=k
  ·subst hq
   rw [if_neg (by simp [h1,h2])] at h
   rw [ho] at h
   exact h.1
  ·have hk:k∈r:=by
    rcases List.mem_cons.1 hk with e|e
    ·exact absurd e.symm hq
    ·exact e
   split at h
   ·exact kid_of ho h1 h2 r hk h
   ·split at h
    ·exact kid_of ho h1 h2 r hk h.2
    ·exact h.elim
def freeOk (ops:Array Oper) (ce:List Nat):Bool :=
 (List.range ops.size).all fun i=>(ce.elem i||((ops[i]?).map plainOp).getD true)&&((ops[i]?).map noSelect).getD true &&
  (List.range ops.size).all fun j=>(decide (j<i)||ce.elem j||match dstAt ops j with|none=>true|some t=>!(looksAt ops i).elem t)
structure FreeFacts (ops:Array Oper) (ce:List Nat):Prop where
 plain:∀(i:Nat) (o:Oper),ops[i]?=some o→i ∉ ce→plainOp o=true
 sel:∀(i:Nat) (o:Oper),ops[i]?=some o→∀cs b,o.op≠.select cs b
 later:∀i j t,i<ops.size→j<ops.size→i≤j→j ∉ ce→dstAt ops j=some t→t ∉ looksAt ops i
theorem freeFacts {ops:Array Oper} {ce:List Nat} (h:freeOk ops ce=true):FreeFacts ops ce:=by
 unfold freeOk at h
 simp only [List.all_eq_true,List.mem_range,Bool.and_eq_true] at h
 refine ⟨fun i o ho hi=>?_,fun i o ho cs b hb=>?_,fun i j t hi hj hij hjc ht hl=>?_⟩
 ·have hin:i<ops.size:=(Array.getElem?_eq_some_iff.1 ho).1
  have h1:=(h i hin).1.1
  rw [ho] at h1
  simp only [Option.map_some,Option.getD_some,Bool.or_eq_true] at h1
  rcases h1 with h1|h1
  ·exact absurd (by simpa using h1) hi
  ·exact h1
 ·have hin:i<ops.size:=(Array.getElem?_eq_some_iff.1 ho).1
  have h1:=(h i hin).1.2
  rw [ho] at h1
  simp only [Option.map_some,Option.getD_some,noSelect,hb] at h1
  cases h1
 ·have h1:=(h i hi).2 j hj
  rw [ht] at h1
  simp only [Bool.or_eq_true,decide_eq_true_eq] at h1
  rcases h1 with (h1|h1)|h1
  ·omega
  ·exact hjc (by simpa using h1)
  ·have:(looksAt ops i).elem t=true:=by simpa using hl
   rw [this] at h1
   cases h1
theorem pickO_free {ops:Array Oper} {ce:List Nat} {dep:Nat} (F:DrawFacts ops ops.size dep) (G:FreeFacts ops ce) (p:Nat→Bool) (hp:∀i,p i=true→ce.elem i=false):(pickO ops p).Pairwise (laterOk ops)∧∀o∈pickO ops p,∀t∈o.looksAt ops,o.dst≠some t:=by
 constructor
 ·unfold pickO
  refine List.Pairwise.filterMap _ (fun i j hij o ho o' ho'=>?_) List.pairwise_lt_range
  split at ho
  case isFalse=>cases ho
  split at ho'
  case isFalse=>cases ho'
  rename_i hpi hpj
  have hjc:j ∉ ce:=by simpa using hp j hpj
  have hi:i<ops.size:=(Array.getElem?_eq_some_iff.1 ho).1
  have hj:j<ops.size:=(Array.getElem?_eq_some_iff.1 ho').1
  refine ⟨fun t ht e=>?_,fun d hd e=>?_⟩
  ·exact G.later i j t hi hj (by omega) hjc (by simp [dstAt,ho',e]) (by simpa [looksAt,ho] using ht)
  ·exact F.apart i j hi hj (by omega) d (by simp [dstAt,ho,hd]) (by simp [dstAt,ho',e])
 ·intro o ho t ht e
  obtain ⟨i,hpi,ho⟩:=mem_pickO.1 ho
  have hi:i<ops.size:=(Array.getElem?_eq_some_iff.1 ho).1
  have hic:i ∉ ce:=by simpa using hp i hpi
  exact G.later i i t hi hi (Nat.le_refl _) hic (by simp [dstAt,ho,e]) (by simpa [looksAt,ho] using ht)
theorem AWP.drawY0 (hT:TabOk P T) (hm:P.follows .mixedOrders=true) {Q:Exit→St→Prop} {id:Nat} {ops:Array Oper} (ce:List Nat) (dep:Nat) (hce:∀j∈ce,j<ops.size) (hchk:drawOk ops ops.size dep=true) (hch:freeOk ops ce=true)
  (h:VHead P T ops (quiet0 ops ce dep) s fun s'=>VCt P T ops (chainTree ops ce dep ce.length []) s' (Q .normal)):AWP P w0 m0 F0 (.region id ops true) Q s:=by
 intro a w hc
 have F:=drawFacts hchk
 have G:=freeFacts hch
 obtain ⟨m,ω,hC⟩:=hc
 refine wp_region_any hm ?_
 have hg0:∀i,(Array.replicate ops.size false).getD i false=false:=fun i=>by
  rw [Array.getD_eq_getD_getElem?,Array.getElem?_replicate]
  split<;>rfl
 let D:(Nat→Bool)→List Nat→Nat→Prop:=fun S l1 d=>∃i,i ∉ ce∧unl ops ce dep l1 i=true∧S i=false∧dstAt ops i=some d
 have hqa:∀(l1:List Nat) (o:Oper) (i:Nat),i ∉ ce→ops[i]?=some o→unl ops ce dep l1 i=true→(∀j∈l1,i ∉ clo ops dep j)→o∈quietAft ops ce dep l1:=by
  intro l1 o i hi ho hu hj
  refine mem_pickO.2 ⟨i,?_,ho⟩
  have h1:ce.elem i=false:=by simpa using hi
  have h2:(l1.any fun j=>(clo ops dep j).elem i)=false:=by
   rw [List.any_eq_false]
   intro j hj'
   simpa using hj j hj'
  rw [h1,h2,hu]
  rfl
 refine draw_headE hT F (K:=Q .normal) (Q:=PostQ P w0 m0 F0 Q)
  (C:=fun S a w=>∃l1 n t,(∀j∈l1,S j=true)∧(∀j∈ce,j ∉ l1→S j=false)∧(∀o∈quietAft ops ce dep l1,StabX P T ops t o)∧VCt P T ops (chainTree ops ce dep n l1) t (Q .normal)∧∃ag,Conc P w0 m0 F0 t ag w∧Agree (D S l1) a ag)
  (fun s a w h1 h2=>⟨s,h1,h2⟩) (fun S i a w o ho hi hSi htl hcl hcl2 hC' K' Q' hK=>?_) (fun S a w hall htl hC'=>?_) ops.size _ a _ 0 (by omega) (by simp) ?_ ?_ ?_ ?_
 ·obtain ⟨l1,n,t,e2,e3,hSt,hV,ag,⟨m,ω,hA⟩,hag⟩:=hC'
  have hin:i<ops.size:=(Array.getElem?_eq_some_iff.1 ho).1
  have hdone:∀j∈ce,S j=true→j∈l1:=by
   intro j hj hSj
   by_cases h:j∈l1
   ·exact h
   ·rw [e3 j hj h] at hSj;cases hSj
  have hlook:∀t∈o.looksAt ops,¬ D S l1 t:=by
   rintro t ht ⟨j,j1,_,j2,j3⟩
   have htl':t∈looksAt ops i:=by simpa [looksAt,ho] using ht
   have hjn:j<ops.size:=by
    rcases Nat.lt_or_ge j ops.size with h|h
    ·exact h
    ·simp [dstAt,Array.getElem?_eq_none h] at j3
   rcases Nat.lt_or_ge j i with hlt|hge
   ·have:=hcl j ((F.reads i j t hin hjn (by omega) j3 htl').1 hlt)
    rw [j2] at this
    cases this
   ·exact G.later i j t hin hjn hge j1 j3 htl'
  have hsel:=G.sel i o ho
  have hex:=eval_agree hag hsel hlook
  have hwa:=wanted_agree hag hlook
  rw [hwa]
  by_cases hic:i∈ce
  ·-- the chain
   have hk1:i ∉ l1:=fun h=>by rw [e2 i h] at hSi;cases hSi
   have hun:unl ops ce dep l1 i=true:=unl_iff.2 fun j hj hjc=>hdone j hj (hcl j hjc)
   have hnall:(ce.all fun j=>l1.elem j)=false:=by
    rw [List.all_eq_false]
    exact ⟨i,hic,by simpa using hk1⟩
   obtain ⟨n,rfl⟩:∃n',n=n'+1:=by
    cases n with
    | zero =>
     rw [chainTree,hnall] at hV
     exact hV.elim
    | succ n=>exact ⟨n,rfl⟩
   rw [chainTree,hnall] at hV
   have hV:=kid_of ho hk1 hun ce hic hV
   generalize i=k at *
   have hunew:∀i',i' ∉ ce→unl ops ce dep l1 i'=false→S i'=false:=by
    intro i' _ hu
    cases hS:S i' with
    | false=>rfl
    | true =>
     have:unl ops ce dep l1 i'=true:=unl_iff.2 fun j hj hjc=>hdone j hj (hcl2 i' hS j hjc)
     rw [hu] at this
     cases this
   have hDD:∀d,D S l1 d→D (fun j=>if j=k then true else S j) (l1++[k]) d:=by
    rintro d ⟨j,j1,ju,j2,j3⟩
    have hjk:j≠k:=fun e=>j1 (e▸hic)
    exact ⟨j,j1,unl_iff.2 fun q hq hqc=>List.mem_append_left _ (unl_iff.1 ju q hq hqc),by simpa [hjk] using j2,j3⟩
   have hnext:∀t' ar ag' w',VHead P T ops (quietNew ops ce dep l1 k) t' (fun t''=>Stable P T ops (quietOld ops ce dep l1 k) t''∧VCt P T ops (chainTree ops ce dep n (l1++[k])) t'' (Q .normal))→Conc P w0 m0 F0 t' ag' w'→Agree (D S l1) ar ag'→K' ar w':=by
    rintro t' ar ag' w' h1 ⟨m2,ω2,h2⟩ h3
    obtain ⟨ps,hl,⟨hst,hK2⟩,hs⟩:=VHead_chain _ _ h1
    obtain ⟨hidx,hself⟩:=pickO_free F G (fun i=>!ce.elem i&&!unl ops ce dep l1 i&&unl ops ce dep (l1++[k]) i) (fun i hi=>by simp only [Bool.and_eq_true,Bool.not_eq_true'] at hi;exact hi.1.1)
    have hstab:=steps_stable hl hidx hself hs
    have h3':Agree (D (fun j=>if j=k then true else S j) (l1++[k])) ar ag':=⟨h3.1,h3.2.1,fun d hd=>h3.2.2 d fun h=>hd (hDD d h)⟩
    obtain ⟨ag2,m',h4,h5⟩:=steps_ghost (D:=D (fun j=>if j=k then true else S j) (l1++[k])) (a0:=ar) hT _ t' ps ag' m2 (fun o' ho'=>by
     obtain ⟨i',hi',ho'⟩:=mem_pickO.1 ho'
     simp only [Bool.and_eq_true,Bool.not_eq_true',List.elem_eq_mem,decide_eq_false_iff_not] at hi'
     obtain ⟨⟨q1,q2⟩,q3⟩:=hi'
     have hik:i'≠k:=fun e=>q1 (e▸hic)
     exact ⟨G.plain i' o' ho' q1,fun d hd=>⟨i',q1,q3,by simpa [hik] using hunew i' q1 q2,by simp [dstAt,ho',hd]⟩⟩) hl hs h2 h3'
    refine hK _ _ ⟨l1++[k],n,puts t' ps,fun j hj=>?_,fun j hj hjn=>?_,fun o' ho'=>?_,hK2,ag2,⟨m',ω2,h4⟩,h5⟩
    ·rcases List.mem_append.1 hj with h|h
     ·simp only [e2 j h,ite_self]
     ·have:j=k:=by simpa using h
      simp [this]
    ·have h1:j ∉ l1:=fun h=>hjn (List.mem_append_left _ h)
     have h2:j≠k:=fun h=>hjn (by simp [h])
     simp only [h2,if_false];exact e3 j hj h1
    ·obtain ⟨i',hi',hoo⟩:=mem_pickO.1 ho'
     simp only [Bool.and_eq_true] at hi'
     obtain ⟨⟨q1,q2⟩,q3⟩:=hi'
     cases hu:unl ops ce dep l1 i' with
     | true=>exact hst.x o' (mem_pickO.2 ⟨i',by simp only [q1,hu,q3,Bool.and_self],hoo⟩)
     | false=>exact hstab o' (mem_pickO.2 ⟨i',by simp only [q1,hu,q2,Bool.not_false,Bool.and_self],hoo⟩)
   rcases hV with ⟨hg,hV⟩|hV
   ·have hw:Region.wanted o (yielded ops ag.tmps)=true:=by simp [Region.wanted,hg]
    rw [if_pos hw]
    exact .inl (wp_agree hex hag (hV _ _ _ _ _ _ _ hA _ _ fun s' a' w' h1 h2 ar har=>hnext s' ar a' w' h1 h2 har))
   simp only [VOps] at hV
   split at hV
   ·rename_i hg
    rw [if_pos (guardOf_sound hA hg)]
    exact .inl (wp_agree hex hag (VOp_sound hT hV hA _ _ fun s' a' w' h1 h2 ar har=>hnext s' ar a' w' h1 h2 har))
   ·rename_i hg
    rw [if_neg (by rw [guardOf_sound hA hg];simp)]
    obtain ⟨h1,h2⟩:=pk_elim hV
    exact hnext _ _ (ag.put o.dst undef) w h2 ⟨m,ω,hA.putO h1 arep_undef⟩ (hag.put _ _)
   ·cases hV
  ·-- a quiet one
   have hun:unl ops ce dep l1 i=true:=unl_iff.2 fun j hj hjc=>hdone j hj (hcl j hjc)
   have hst:=hSt o (hqa l1 o i hic ho hun fun j hj hij=>by
    have:=hcl2 j (e2 j hj) i hij
    rw [hSi] at this
    cases this)
   have hfin:∀v m',CI P w0 m0 F0 t (ag.put o.dst v) w m' ω→K' (a.put o.dst v) w:=fun v m' h1 =>
    hK _ _ ⟨l1,n,t,fun j hj=>by simp only [e2 j hj,ite_self],fun j hj hjn=>by
     have:j≠i:=fun e=>hic (e▸hj)
     simp only [this,if_false];exact e3 j hj hjn,hSt,hV,ag.put o.dst v,⟨m',ω,h1⟩,hag.putOf _ _ fun e h1 h2=>by
      obtain ⟨j,j1,ju,j2,j3⟩:=h2
      by_cases hji:j=i
      ·subst hji
       simpa [dstAt,ho] using j3
      ·exact absurd ⟨j,j1,ju,by simpa [hji] using j2,j3⟩ h1⟩
   unfold StabX at hst
   split at hst
   ·rename_i hg
    rw [if_pos (guardOf_sound hA hg)]
    obtain ⟨y,hy,hst⟩:=hst
    obtain ⟨x,hx,hG⟩:=VVal_sound hT hst hA
    have hx:sameA t o.dst x:=hx▸hy
    obtain ⟨v,m',hrun,hC2,hv⟩:=hG.2 (G.plain i o ho hic)
    refine .inl ?_
    unfold Oper.wp
    rw [hex,hrun,Oper.upon_value]
    exact hfin v m' (hC2.same hx hv)
   ·rename_i hg
    rw [if_neg (by rw [guardOf_sound hA hg];simp)]
    exact hfin _ m (hA.same hst arep_undef)
   ·cases hst
 ·obtain ⟨l1,n,t,e2,e3,hSt,hV,ag,hA,hag⟩:=hC'
  have hin:∀j∈ce,j<ops.size→j∈l1:=by
   intro j hj hjs
   have h1:=hall j hjs
   by_cases h:j∈l1
   ·exact h
   ·rw [e3 j hj h] at h1;cases h1
  have hKt:Q .normal t:=by
   have hall2:(ce.all fun j=>l1.elem j)=true∨∃j∈ce,j ∉ l1∧ops[j]?=none:=by
    cases hb:ce.all fun j=>l1.elem j with
    | true=>exact .inl rfl
    | false =>
     rw [List.all_eq_false] at hb
     obtain ⟨j,hj,hjn⟩:=hb
     refine .inr ⟨j,hj,by simpa using hjn,?_⟩
     rcases Nat.lt_or_ge j ops.size with h|h
     ·exact absurd (hin j hj h) (by simpa using hjn)
     ·exact Array.getElem?_eq_none h
   rcases hall2 with hb|⟨j,hj,hjn,hjo⟩
   ·cases n with
    | zero=>rw [chainTree,hb] at hV;exact hV
    | succ n=>rw [chainTree,hb] at hV;exact hV
   ·have:j<ops.size:=hce j hj
    rw [Array.getElem?_eq_none_iff] at hjo
    omega
  have hD:∀d,¬ D S l1 d:=by
   rintro d ⟨j,j1,_,j2,j3⟩
   rcases Nat.lt_or_ge j ops.size with h|h
   ·have:=hall j h
    rw [j2] at this
    cases this
   ·simp [dstAt,Array.getElem?_eq_none h] at j3
  have hea:ag=a:=by
   obtain ⟨h1,h2,h3⟩:=hag
   cases ag
   cases a
   simp only at h1 h2 h3
   subst h1
   congr 1
   exact Array.ext_getElem? fun d=>h3 d (hD d)
  subst hea
  refine ⟨t,?_,hA⟩
  have hd:ops.toList.drop ops.size=[]:=by apply List.drop_eq_nil_of_le;simp
  rw [hd]
  exact hKt
 ·rw [List.filter_eq_nil_iff.2 (fun i _=>by rw [hg0];simp)]
  rfl
 ·intro i _ hb
  rw [hg0] at hb
  cases hb
 ·intro i _
  exact hg0 i
 ·obtain ⟨ps,hl,hK,hs⟩:=VHead_chain _ _ h
  obtain ⟨hidx,hself⟩:=pickO_free F G (fun i=>!ce.elem i&&unl ops ce dep [] i) (fun i hi=>by simp only [Bool.and_eq_true,Bool.not_eq_true'] at hi;exact hi.1)
  have hstab:=steps_stable hl hidx hself hs
  obtain ⟨ag,m',h2,h3⟩:=steps_ghost (D:=D (fun i=>(Array.replicate ops.size false).getD i false) []) (a0:=a) hT _ s ps a m (fun o ho=>by
   obtain ⟨i,hi,ho⟩:=mem_pickO.1 ho
   simp only [Bool.and_eq_true,Bool.not_eq_true',List.elem_eq_mem,decide_eq_false_iff_not] at hi
   exact ⟨G.plain i o ho hi.1,fun d hd=>⟨i,hi.1,hi.2,hg0 i,by simp [dstAt,ho,hd]⟩⟩) hl hs hC.draw (Agree.refl _ _)
  refine ⟨[],ce.length,puts s ps,fun j hj=>(by cases hj),fun j _ _=>hg0 j,fun o ho=>hstab o ?_,hK,ag,⟨m',ω,h2⟩,h3⟩
  obtain ⟨i,hi,ho⟩:=mem_pickO.1 ho
  simp only [Bool.and_eq_true] at hi
  exact mem_pickO.2 ⟨i,by simp only [hi.1,Bool.and_self],ho⟩
inductive PT where
 | leaf
 | none
 | cons (i:Nat) (free rest:List (Nat×Nat)) (kid rest':PT)
def segt (l:List Oper):PT→CT
 | .leaf=>.leaf
 | .none=>.none
 | .cons i f q kid r=>match l[i]? with|some o=>.cons ⟨o,segs l f,segs l q⟩ (segt l kid) (segt l r)|none=>.fail
theorem segt_leaf (l:List Oper):segt l .leaf=.leaf:=rfl
theorem segt_none (l:List Oper):segt l .none=.none:=rfl
theorem segt_cons (l:List Oper) (i:Nat) (f q:List (Nat×Nat)) (kid r:PT):segt l (.cons i f q kid r)=(match l[i]? with|some o=>.cons ⟨o,segs l f,segs l q⟩ (segt l kid) (segt l r)|none=>.fail):=rfl
theorem AWP.drawY (hT:TabOk P T) (hm:P.follows .mixedOrders=true) {Q:Exit→St→Prop} {id:Nat} {l:List Oper} (sq:List (Nat×Nat)) (pt:PT) (ce:List Nat) (dep:Nat) (hce:∀j∈ce,j<l.toArray.size) (hchk:drawOk l.toArray l.toArray.size dep=true) (hch:freeOk l.toArray ce=true)
  (h1:quiet0 l.toArray ce dep=segs l sq) (h2:chainTree l.toArray ce dep ce.length []=segt l pt)
  (h:∀K2:St→Prop,(∀s',(∀K:St→Prop,(∀s',Q .normal s'→K s')→VCt P T l.toArray (segt l pt) s' K)→K2 s')→VHead P T l.toArray (segs l sq) s K2):AWP P w0 m0 F0 (.region id l.toArray true) Q s :=
 AWP.drawY0 hT hm ce dep hce hchk hch (by rw [h1,h2];exact h _ fun s' h=>h _ fun _ h=>h)
theorem VCt.step {ops:Array Oper} {lq ln:List Oper} {o:Oper} {kid:CT} {t:St} {K:St→Prop} (h:∀K2:St→Prop,(∀t',VHead P T ops ln t' (fun t''=>Stable P T ops lq t''∧VCt P T ops kid t'' K)→K2 t')→VOps P T ops [o] t K2):VCt P T ops (.cons ⟨o,ln,lq⟩ kid .none) t K :=
 ⟨.inr (h _ fun _ h=>h),trivial⟩
theorem VCt.fork {ops:Array Oper} {lq ln:List Oper} {o:Oper} {kid:CT} {p:Link} {k2 r2:CT} {t:St} {K:St→Prop} (h:∀K2:St→Prop,(∀t',VHead P T ops ln t' (fun t''=>Stable P T ops lq t''∧VCt P T ops kid t'' K)→K2 t')→VOps P T ops [o] t K2) (h2:VCt P T ops (.cons p k2 r2) t K):VCt P T ops (.cons ⟨o,ln,lq⟩ kid (.cons p k2 r2)) t K :=
 ⟨.inr (h _ fun _ h=>h),h2⟩
theorem VCt.none {ops:Array Oper} {lq:List Oper} {kid:CT} {t:St} {K:St→Prop} (h:Stable P T ops lq t∧VCt P T ops kid t K):VHead P T ops [] t (fun t''=>Stable P T ops lq t''∧VCt P T ops kid t'' K):=h
theorem VCt.some {ops:Array Oper} {lq ln:List Oper} {o:Oper} {kid:CT} {t:St} {K:St→Prop} (h:∀K2:St→Prop,(∀t',(Stable P T ops lq t'∧VCt P T ops kid t' K)→K2 t')→VHead P T ops (o::ln) t K2):VHead P T ops (o::ln) t (fun t''=>Stable P T ops lq t''∧VCt P T ops kid t'' K) :=
 h _ fun _ h=>h
theorem VCt.intro {A:(St→Prop)→Prop} {ops:Array Oper} {kid:CT} {t:St} (h:∀K:St→Prop,A K→VCt P T ops kid t K):∀K:St→Prop,A K→VCt P T ops kid t K:=h
theorem VCt.fin {ops:Array Oper} {t:St} {K:St→Prop} (h:K t):VCt P T ops .leaf t K:=h
end Go.Bw
namespace Go.Bw
open Go.RowKit
section
variable {P:Program} {T:TypeId→Option TI} {w0:World} {m0:Mem} {F0:Home} {s s':St} {a:Act} {w:World} {m:Mem} {ω:Wh}
def VOpsX (P:Program) (T:TypeId→Option TI) (ops:Array Oper):List Oper→St→(St→Prop)→Prop
 | [],s,K=>K s
 | o::l,s,K=>(o.guard=none∧SemOp P o s fun s'=>VOpsX P T ops l s' K)∨VOps P T ops [o] s fun s'=>VOpsX P T ops l s' K
theorem VOpsX.sem {ops:Array Oper} {d:Option Tmp} {op:Op} {ty:TypeId} {pos:String} {af:Array Edge} {l:List Oper} {K:St→Prop} (h:SemOp P ⟨d,op,ty,pos,af,Option.none⟩ s fun s'=>VOpsX P T ops l s' K):VOpsX P T ops (⟨d,op,ty,pos,af,Option.none⟩::l) s K:=.inl ⟨rfl,h⟩
theorem VOpsX.step {ops:Array Oper} {o:Oper} {l:List Oper} {K:St→Prop} (h:∀K2:St→Prop,(∀s',VOpsX P T ops l s' K→K2 s')→VOps P T ops [o] s K2):VOpsX P T ops (o::l) s K:=.inr (h _ fun _ h=>h)
theorem VOpsX.fin {ops:Array Oper} {K:St→Prop} (h:K s):VOpsX P T ops [] s K:=h
theorem VOpsX_sound (hT:TabOk P T) {ops:Array Oper} {K:St→Prop} {Q:Exit→Act→World→Prop} (hQ:∀s a w,K s→Conc P w0 m0 F0 s a w→Q .normal a w) :
  ∀(l:List Oper) (k:Nat) (s:St) (a:Act) (w:World),ops.toList.drop k=l→VOpsX P T ops l s K→Conc P w0 m0 F0 s a w→wpOps P ops Q (List.range' k l.length) a w
 | [],k,s,a,w,_,hV,hC=>hQ s a w hV hC
 | o::l,k,s,a,w,hl,hV,hC=>by
  have hk:ops[k]?=some o:=by
   have:(ops.toList.drop k)[0]?=some o:=by rw [hl];rfl
   simpa [List.getElem?_drop] using this
  have hl':ops.toList.drop (k+1)=l:=by
   have:(ops.toList.drop k).drop 1=l:=by rw [hl];rfl
   simpa [List.drop_drop] using this
  obtain ⟨m,ω,h⟩:=hC
  simp only [List.length_cons,List.range'_succ,wpOps,hk]
  rcases hV with ⟨hg,hV⟩|hV
  ·have hw:Region.wanted o (yielded ops a.tmps)=true:=by simp [Region.wanted,hg]
   rw [if_pos hw]
   exact .inl (hV _ _ _ a w m ω h _ _ fun s' a' w' hK hc=>VOpsX_sound hT hQ l (k+1) s' a' w' hl' hK hc)
  ·simp only [VOps] at hV
   split at hV
   ·rename_i hg
    rw [if_pos (guardOf_sound h hg)]
    exact .inl (VOp_sound hT hV h _ _ fun s' a' w' hK hc=>VOpsX_sound hT hQ l (k+1) s' a' w' hl' hK hc)
   ·rename_i hg
    rw [if_neg (by rw [guardOf_sound h hg];simp)]
    obtain ⟨h1,h2⟩:=pk_elim hV
    exact VOpsX_sound hT hQ l (k+1) _ _ w hl' h2 ⟨m,ω,h.putO h1 arep_undef⟩
   ·cases hV
theorem AWP.regionX (hT:TabOk P T) {id:Nat} {Q:Exit→St→Prop} {l:List Oper} (h:∀K:St→Prop,(∀s',Q .normal s'→K s')→VOpsX P T l.toArray l s K):AWP P w0 m0 F0 (.region id l.toArray false) Q s:=by
 intro a w hc
 refine wp_region ?_
 have:=VOpsX_sound hT (ops:=l.toArray) (K:=Q .normal) (Q:=PostQ P w0 m0 F0 Q) (fun s a w h1 h2=>⟨s,h1,h2⟩) l 0 s a w (by simp) (h _ fun _ h=>h) hc
 have hlen:l.length=l.toArray.size:=by simp
 rwa [←List.range_eq_range',hlen] at this
theorem AWP.isRegion (id:Nat) {ops:Array Oper} {d:Bool} {Q:Exit→St→Prop} (h:AWP P w0 m0 F0 (.region id ops d) Q s):AWP P w0 m0 F0 (.region id ops d) Q s:=h
end
end Go.Bw
namespace Go.Bw
open Go.RowKit
section
variable {P:Program} {w0:World} {m0:Mem} {s:St} {a:Act} {w:World} {m:Mem} {ω:Wh} {F0:Home}
def setCell (xs:List (List L)) (i j:Nat) (l:L):List (List L):=xs.set i ((xs.getD i []).set j l)
theorem setCell_length (xs:List (List L)) (i j:Nat) (l:L):(setCell xs i j l).length=xs.length:=by simp [setCell]
theorem setCell_sz {xs:List (List L)} {i j:Nat} {l:L} {sz:Nat} (h:∀x∈xs,x.length=sz):∀x∈setCell xs i j l,x.length=sz:=by
 intro x hx
 unfold setCell at hx
 by_cases hi:i<xs.length
 ·rcases List.mem_or_eq_of_mem_set hx with hx|rfl
  ·exact h x hx
  ·rw [List.length_set,List.getD_eq_getElem?_getD,List.getElem?_eq_getElem hi]
   exact h _ (List.getElem_mem hi)
 ·rw [List.set_eq_of_length_le (by omega)] at hx
  exact h x hx
theorem cellOf_setCell {xs:List (List L)} {i j:Nat} {l u:L} {i' j':Nat} (h:cellOf (setCell xs i j l) i' j'=some u):(i'=i∧j'=j∧u=l)∨(¬(i'=i∧j'=j)∧cellOf xs i' j'=some u):=by
 unfold cellOf setCell at h
 rw [List.getElem?_set] at h
 by_cases e:i=i'
 ·subst e
  rw [if_pos rfl] at h
  by_cases hi:i<xs.length
  ·rw [if_pos hi] at h
   simp only [Option.bind_some] at h
   rw [List.getElem?_set] at h
   by_cases e2:j=j'
   ·subst e2
    rw [if_pos rfl] at h
    split at h
    ·injection h with h
     exact .inl ⟨rfl,rfl,h.symm⟩
    ·cases h
   ·rw [if_neg e2] at h
    refine .inr ⟨fun q=>e2 q.2.symm,?_⟩
    unfold cellOf
    rw [List.getElem?_eq_getElem hi]
    rw [List.getD_eq_getElem?_getD,List.getElem?_eq_getElem hi] at h
    exact h
  ·rw [if_neg hi] at h
   cases h
 ·rw [if_neg e] at h
  exact .inr ⟨fun q=>e q.1.symm,h⟩
def ovCut (i j:Nat):List (Nat×Nat×L)→List (Nat×Nat×L)
 | []=>[]
 | p::r=>if p.1=i∧p.2.1=j then ovCut i j r else p::ovCut i j r
theorem ovGet_cut (i j:Nat):∀(o:List (Nat×Nat×L)) (i' j':Nat),ovGet (ovCut i j o) i' j'=if i'=i∧j'=j then none else ovGet o i' j'
 | [],i',j'=>by simp [ovCut,ovGet]
 | (a,b,l)::r,i',j'=>by
  rw [ovCut]
  split
  ·rename_i h
   rw [ovGet_cut i j r i' j']
   split
   ·rfl
   ·rename_i h2
    simp only at h
    rw [ovGet,if_neg (fun q=>h2 ⟨q.1.symm.trans h.1,q.2.symm.trans h.2⟩)]
  ·rename_i h
   rw [ovGet,ovGet_cut i j r i' j',ovGet]
   split
   ·rename_i h2
    rw [if_neg]
    rintro ⟨rfl,rfl⟩
    exact h ⟨h2.1,h2.2⟩
   ·rfl
theorem CI.swapRow (h:CI P w0 m0 F0 s a w m ω) {id:Nat} {r r2:RowC} (hr:look s.row id=some r) (F2:Nat→Prop) (hB:RowRepG m w ω (ω.row id) F2 r2)
  (hF:∀k,F2 k→(k<w.heap.size∧(w0.heap.size≤k∨F0 k)∧∀x v,m x=some v→x.block≠k)∧∀κ id',s.live κ id'→¬ (κ=true∧id'=id)→¬ ω.f κ id' k) :
  ∃ω',CI P w0 m0 F0 {s with row:=(id,r2)::del id s.row} a w m ω'∧ω'.row=ω.row∧ω'.box=ω.box∧(∀κ id',¬ (κ=true∧id'=id)→ω'.f κ id'=ω.f κ id')∧ω'.f true id=F2:=by
 have hw:CI P w0 m0 F0 {s with row:=del id s.row} a w m ω:=h.weaken rfl (fun _ _ h=>h) (fun _ _ h=>h) fun i r' h'=>by
  rw [look_del] at h'
  split at h'
  ·cases h'
  ·exact h'
 have hn:look (del id s.row) id=Option.none:=by rw [look_del,if_pos rfl]
 have live:∀κ i,({s with row:=del id s.row}:St).live κ i→s.live κ i∧¬ (κ=true∧i=id):=by
  intro κ i hl
  cases κ with
  | false=>exact ⟨hl,by simp⟩
  | true =>
   have hl:(look (del id s.row) i).isSome:=hl
   rw [look_del] at hl
   split at hl
   ·cases hl
   ·rename_i hne
    exact ⟨hl,fun q=>hne q.2⟩
 have h3:=hw.reF (fun κ i=>if κ=true∧i=id then F2 else ω.f κ i) fun κ i hl=>by rw [if_neg (live κ i hl).2]
 have hE:∀v l,ERep m ω v l→ERep m {ω with f:=fun κ i=>if κ=true∧i=id then F2 else ω.f κ i} v l:=by
  intro v l hl
  cases l with
  | clo f' caps=>obtain ⟨vs,h1,h2,h3⟩:=hl;exact ⟨vs,h1,h2,fun i u hu=>let ⟨x,h4,h5⟩:=h3 i u hu;⟨x,h4,h5.imp (fun h=>h) (fun hp=>by cases u<;>exact hp)⟩⟩
  | _=>exact hl
 refine ⟨_,h3.addRow id r2 hn (fun b hb=>h.home.row id b hb (by rw [hr];rfl)) ?_ ?_ ?_,rfl,rfl,fun κ i hne=>?_,?_⟩
 ·have:=hB.remap (g:=fun l=>l) ⟨Mem.le_refl m,hE,fun _ _=>rfl,fun _ _=>rfl⟩
  have e:r2.map (fun l=>l)=r2:=by cases r2;simp [RowC.map]
  rw [e] at this
  unfold RowRep
  simp only [true_and,if_true]
  exact this
 ·intro k hk
  simp only [true_and,if_true] at hk
  exact (hF k hk).1
 ·intro κ i hl k hk hk'
  obtain ⟨l1,l2⟩:=live κ i hl
  simp only [if_neg l2] at hk
  simp only [true_and,if_true] at hk'
  exact (hF k hk').2 κ i l1 l2 hk
 ·simp only [if_neg hne]
 ·simp only [true_and,if_true]
def St.closeR (s:St) (id:Nat) (r:RowC) (i j id':Nat) (r':RowC):St :=
 {s.noRow id' with row:=(id,⟨r.sz,setCell r.xs i j (.own r'.sz r'.xs),ovCut i j (r.map (L.noRow id')).ov⟩)::Bw.del id (s.noRow id').row}
theorem ovGet_noRow {id':Nat} {r:RowC} (i j:Nat):ovGet (r.map (L.noRow id')).ov i j=(ovGet r.ov i j).map (L.noRow id'):=by
 simp only [RowC.map]
 rw [ovGet_map]
theorem CI.close (h:CI P w0 m0 F0 s a w m ω) {id id' i j:Nat} {r r':RowC} (hr:look s.row id=some r) (hr':look s.row id'=some r') (hne:id≠id') (ho:ovGet r.ov i j=some (.ref id' 0 r'.xs.length)) (hi:i<r.xs.length) (hj:j<r.sz) (hov:r'.ov=[]) :
  ∃ω',CI P w0 m0 F0 (s.closeR id r i j id' r') a w m ω':=by
 have l1:s.live true id:=by show (look s.row id).isSome;rw [hr];rfl
 have l2:s.live true id':=by show (look s.row id').isSome;rw [hr'];rfl
 have hap:∀k,ω.f true id k→ω.f true id' k→False:=fun k k1 k2=>hne (h.apart _ _ _ _ l1 l2 k k1 k2).2
 have R:=h.row id r hr
 have R':=h.row id' r' hr'
 obtain ⟨q1,q2,q3⟩:=R
 cases hb:(ω.row id).blk with
 | none=>rw [hb] at q3;have:=q3.1;rw [this] at hi;exact absurd hi (by simp)
 | some b =>
 rw [hb] at q3
 obtain ⟨cs,e,g1,g2,g3,g4,g5,G,g6,g7,g8⟩:=q3
 have hx:r.xs[i].length=r.sz:=q2 _ (List.getElem_mem hi)
 obtain ⟨v,hv,hRC⟩:=g8 i j (r.xs[i][j]'(by omega)) (by unfold cellOf;rw [List.getElem?_eq_getElem hi];simp only [Option.bind_some];exact List.getElem?_eq_getElem _)
 rw [ho] at hRC
 have hRC:RefAt (ω.row id') 0 r'.xs.length v:=hRC
 have crep:CRep m w (ω.f true id') v (.own r'.sz r'.xs):=by
  obtain ⟨p1,p2,p3⟩:=R'
  cases hb':(ω.row id').blk with
  | none =>
   rw [hb'] at p3
   rcases hRC with ⟨_,_,_,rfl⟩|⟨b',ad,hq,_⟩
   ·rw [p3.1];exact .ownNil _
   ·rw [hb'] at hq;cases hq
  | some b' =>
   rw [hb'] at p3
   rcases hRC with ⟨hq,_⟩|⟨b2,ad,hq,hle,rfl,had⟩
   ·rw [hb'] at hq;cases hq
   rw [hb'] at hq
   injection hq with hq
   subst hq
   obtain ⟨cs',e',t1,t2,t3,t4,t5,G',t6,t7,t8⟩:=p3
   have had:=had (.inr rfl)
   rw [Nat.zero_mul] at had
   subst had
   rw [Nat.sub_zero]
   refine .own b' r'.xs.length (ω.row id').cap r'.sz r'.xs cs' e' (fun i j=>(cs'[i * r'.sz+j]?).getD undef) G' t5 t1 rfl t3 t4.1 t2 p2 t6 t7 (fun i j u hu=>?_) (fun i j u hu=>?_) t4.2.2
   ·obtain ⟨v,t9,_⟩:=t8 i j u hu
    simp only [t9,Option.getD_some]
   ·obtain ⟨v,t9,t10⟩:=t8 i j u hu
    rw [hov] at t10
    simp only [t9,Option.getD_some]
    exact t10
 have h1:=h.noRow id' ⟨Option.none,0,0⟩ (fun _=>False)
 have hE:∀{v l},ERep m ω v l→ERep m {box:=ω.box,row:=upd ω.row id' ⟨Option.none,0,0⟩,f:=fun κ i=>if κ=true∧i=id' then (fun _=>False) else ω.f κ i} v (l.noRow id'):=fun hl=>by
  refine noRow_e (ω:=ω) (fun i hi=>?_) ?_ hl
  ·simp [upd,hi]
  ·rfl
 have hlk:look (s.noRow id').row id=some (r.map (L.noRow id')):=by
  simp only [St.noRow]
  rw [look_map (RowC.map (L.noRow id')),look_del,if_neg hne,hr]
  rfl
 obtain ⟨ω',hC,_⟩:=h1.swapRow (r2:=⟨r.sz,setCell r.xs i j (.own r'.sz r'.xs),ovCut i j (r.map (L.noRow id')).ov⟩) hlk (fun k=>ω.f true id k∨ω.f true id' k) (by
  have er:(upd ω.row id' ⟨Option.none,0,0⟩) id=ω.row id:=by simp [upd,hne]
  refine ⟨by show ((upd ω.row id' ⟨Option.none,0,0⟩) id).sz=_;rw [er];exact q1,setCell_sz q2,?_⟩
  show match ((upd ω.row id' ⟨Option.none,0,0⟩) id).blk with|Option.none=>_|some b=>_
  simp only [er,hb]
  refine ⟨cs,e,g1,g2,by rw [setCell_length];exact g3,⟨g4.1,fun l hl=>?_,g4.2.2⟩,.inl g5,fun i0 j0=>if i0=i∧j0=j then ω.f true id' else G i0 j0,fun i0 j0 k hk=>?_,fun i0 j0 i1 j1 k hk hk'=>?_,fun i0 j0 u hu=>?_⟩
  ·rw [setCell_length,ovGet_cut] at hl
   split at hl
   ·cases hl
   ·rw [ovGet_noRow,Option.map_eq_some_iff] at hl
    obtain ⟨l0,hl,_⟩:=hl
    rw [setCell_length]
    exact g4.2.1 l0 hl
  ·replace hk:(if i0=i∧j0=j then ω.f true id' else G i0 j0) k:=hk
   split at hk
   ·exact ⟨.inr hk,fun e=>hap b g5 (e▸hk)⟩
   ·exact ⟨.inl (g6 _ _ _ hk).1,(g6 _ _ _ hk).2⟩
  ·replace hk:(if i0=i∧j0=j then ω.f true id' else G i0 j0) k:=hk
   replace hk':(if i1=i∧j1=j then ω.f true id' else G i1 j1) k:=hk'
   split at hk<;>split at hk'
   ·rename_i c1 c2
    exact ⟨c1.1.trans c2.1.symm,c1.2.trans c2.2.symm⟩
   ·exact (hap k (g6 _ _ _ hk').1 hk).elim
   ·exact (hap k (g6 _ _ _ hk).1 hk').elim
   ·exact g7 _ _ _ _ _ hk hk'
  ·rcases cellOf_setCell hu with ⟨rfl,rfl,rfl⟩|⟨hn,hu⟩
   ·refine ⟨v,hv,?_⟩
    rw [ovGet_cut,if_pos ⟨rfl,rfl⟩]
    simp only [and_self,if_true]
    exact crep
   ·obtain ⟨v0,u1,u2⟩:=g8 i0 j0 u hu
    refine ⟨v0,u1,?_⟩
    rw [ovGet_cut,if_neg hn,ovGet_noRow]
    simp only [if_neg hn]
    cases hq:ovGet r.ov i0 j0 with
    | none=>rw [hq] at u2;exact u2
    | some l=>rw [hq] at u2;exact hE u2) (by
  intro k hk
  refine ⟨?_,fun κ i0 hl hn hk'=>?_⟩
  ·rcases hk with hk|hk
   ·exact h.fresh _ _ l1 k hk
   ·exact h.fresh _ _ l2 k hk
  ·have hl':s.live κ i0∧¬ (κ=true∧i0=id'):=by
    cases κ with
    | false =>
     obtain ⟨x,hx⟩:=Option.isSome_iff_exists.1 hl
     obtain ⟨y,hy,_⟩:=map_look hx
     exact ⟨by show (look s.box i0).isSome;rw [hy];rfl,by simp⟩
    | true =>
     obtain ⟨x,hx⟩:=Option.isSome_iff_exists.1 hl
     obtain ⟨y,hy,_⟩:=map_look hx
     rw [look_del] at hy
     split at hy
     ·cases hy
     ·rename_i hne2
      exact ⟨by show (look s.row i0).isSome;rw [hy];rfl,fun q=>hne2 q.2⟩
   simp only [if_neg hl'.2] at hk'
   rcases hk with hk|hk
   ·have:=h.apart _ _ _ _ hl'.1 l1 k hk' hk
    exact hn ⟨this.1,this.2⟩
   ·have:=h.apart _ _ _ _ hl'.1 l2 k hk' hk
    exact hl'.2 ⟨this.1,this.2⟩)
 exact ⟨ω',hC⟩
theorem AWP.close {Q:Exit→St→Prop} {c:Code} (id i j id':Nat) {r r':RowC} (hr:look s.row id=some r) (hr':look s.row id'=some r') (hne:id≠id') (ho:ovGet r.ov i j=some (.ref id' 0 r'.xs.length)) (hi:i<r.xs.length) (hj:j<r.sz) (hov:r'.ov=[])
  (h:AWP P w0 m0 F0 c Q (s.closeR id r i j id' r')):AWP P w0 m0 F0 c Q s:=fun a w ⟨_,_,hC⟩ =>
 let ⟨_,h1⟩:=hC.close hr hr' hne ho hi hj hov
 h a w ⟨_,_,h1⟩
def St.openR (s:St) (id:Nat) (r:RowC) (i j id' sz:Nat) (xs:List (List L)):St :=
 {s.noRow id' with row:=(id',⟨sz,xs,[]⟩)::(id,⟨r.sz,r.xs,(i,j,.ref id' 0 xs.length)::(r.map (L.noRow id')).ov⟩)::Bw.del id (s.noRow id').row}
theorem own_rd {G:Nat→Prop} {v:Value} {sz:Nat} {xs:List (List L)} (h:CRep m w G v (.own sz xs)):∃ri:RowI,RefAt ri 0 xs.length v∧∀ω':Wh,RowRepG m w ω' ri G ⟨sz,xs,[]⟩:=by
 cases h with
 | fr h=>cases h
 | ownNil=>exact ⟨⟨none,0,sz⟩,.inl ⟨rfl,rfl,rfl,rfl⟩,fun ω'=>⟨rfl,fun x hx=>(by cases hx),rfl,rfl⟩⟩
 | own b n cap sz xs cs e vals G' hb hh hn hcap hcm hcs hsz hG hD hv hc hone =>
  subst hn
  refine ⟨⟨some b,cap,sz⟩,.inr ⟨b,⟨b,0,none⟩,rfl,(by show 0+xs.length≤cap;omega),(by rw [Nat.sub_zero]),fun _=>(by rw [Nat.zero_mul])⟩,fun ω'=>⟨rfl,hsz,cs,e,hh,hcs,hcap,⟨hcm,fun l hl=>(by cases hl),hone⟩,hb,G',hG,hD,fun i j u hu=>⟨vals i j,hv i j u hu,hc i j u hu⟩⟩⟩
theorem CI.openC (h:CI P w0 m0 F0 s a w m ω) {id id' i j sz:Nat} {xs:List (List L)} {r:RowC} (hr:look s.row id=some r) (hc:cellOf r.xs i j=some (.own sz xs)) (ho:ovGet r.ov i j=Option.none) (hne:id≠id') (hbig:2000≤id') :
  ∃ω',CI P w0 m0 F0 (s.openR id r i j id' sz xs) a w m ω':=by
 have l1:s.live true id:=by show (look s.row id).isSome;rw [hr];rfl
 obtain ⟨q1,q2,q3⟩:=h.row id r hr
 have hi:i<r.xs.length:=by
  unfold cellOf at hc
  cases hx:r.xs[i]? with
  | none=>rw [hx] at hc;cases hc
  | some x=>exact (List.getElem?_eq_some_iff.1 hx).1
 cases hb:(ω.row id).blk with
 | none=>rw [hb] at q3;have:=q3.1;rw [this] at hi;exact absurd hi (by simp)
 | some b =>
 rw [hb] at q3
 obtain ⟨cs,e,g1,g2,g3,g4,g5,G,g6,g7,g8⟩:=q3
 obtain ⟨v,hv,hRC⟩:=g8 i j _ hc
 rw [ho] at hRC
 obtain ⟨ri,hRA,hRR⟩:=own_rd hRC
 have h1:=h.noRow id' ri (fun _=>False)
 have hE:∀{v l},ERep m ω v l→ERep m {box:=ω.box,row:=upd ω.row id' ri,f:=fun κ i=>if κ=true∧i=id' then (fun _=>False) else ω.f κ i} v (l.noRow id'):=fun hl=>by
  refine noRow_e (ω:=ω) (fun i hi=>?_) ?_ hl
  ·simp [upd,hi]
  ·rfl
 have hlk:look (s.noRow id').row id=some (r.map (L.noRow id')):=by
  simp only [St.noRow]
  rw [look_map (RowC.map (L.noRow id')),look_del,if_neg hne,hr]
  rfl
 have live1:∀κ i0,(s.noRow id').live κ i0→s.live κ i0∧¬ (κ=true∧i0=id'):=by
  intro κ i0 hl
  cases κ with
  | false =>
   obtain ⟨x,hx⟩:=Option.isSome_iff_exists.1 hl
   obtain ⟨y,hy,_⟩:=map_look hx
   exact ⟨by show (look s.box i0).isSome;rw [hy];rfl,by simp⟩
  | true =>
   obtain ⟨x,hx⟩:=Option.isSome_iff_exists.1 hl
   obtain ⟨y,hy,_⟩:=map_look hx
   rw [look_del] at hy
   split at hy
   ·cases hy
   ·rename_i hne2
    exact ⟨by show (look s.row i0).isSome;rw [hy];rfl,fun q=>hne2 q.2⟩
 obtain ⟨ω',hC,e1,e2,e3,e4⟩:=h1.swapRow (r2:=⟨r.sz,r.xs,(i,j,.ref id' 0 xs.length)::(r.map (L.noRow id')).ov⟩) hlk (fun k=>ω.f true id k∧¬ G i j k) (by
  have er:(upd ω.row id' ri) id=ω.row id:=by simp [upd,hne]
  refine ⟨by show ((upd ω.row id' ri) id).sz=_;rw [er];exact q1,q2,?_⟩
  show match ((upd ω.row id' ri) id).blk with|Option.none=>_|some b=>_
  simp only [er,hb]
  refine ⟨cs,e,g1,g2,g3,⟨g4.1,fun l hl=>?_,g4.2.2⟩,⟨g5,fun q=>(g6 _ _ _ q).2 rfl⟩,fun i0 j0 k=>G i0 j0 k∧¬ (i0=i∧j0=j),fun i0 j0 k hk=>⟨⟨(g6 _ _ _ hk.1).1,fun q=>hk.2 (g7 _ _ _ _ _ hk.1 q)⟩,(g6 _ _ _ hk.1).2⟩,fun i0 j0 i1 j1 k hk hk'=>g7 _ _ _ _ _ hk.1 hk'.1,fun i0 j0 u hu=>?_⟩
  ·replace hl:ovGet ((i,j,L.ref id' 0 xs.length)::(r.map (L.noRow id')).ov) r.xs.length 0=some l:=hl
   rw [ovGet,if_neg (fun q=>by omega),ovGet_noRow,Option.map_eq_some_iff] at hl
   obtain ⟨l0,hl,_⟩:=hl
   exact g4.2.1 l0 hl
  ·obtain ⟨v0,u1,u2⟩:=g8 i0 j0 u hu
   refine ⟨v0,u1,?_⟩
   rw [ovGet]
   by_cases hn:i=i0∧j=j0
   ·obtain ⟨rfl,rfl⟩:=hn
    rw [if_pos ⟨rfl,rfl⟩]
    rw [hv] at u1
    injection u1 with u1
    subst u1
    show RefAt ((upd ω.row id' ri) id') 0 xs.length v
    simp only [upd,if_true]
    exact hRA
   ·rw [if_neg hn,ovGet_noRow]
    cases hq:ovGet r.ov i0 j0 with
    | none =>
     rw [hq] at u2
     exact CRep.sub u2 fun k hk=>⟨hk,fun q=>hn ⟨q.1.symm,q.2.symm⟩⟩
    | some l=>rw [hq] at u2;exact hE u2) (by
  intro k hk
  refine ⟨h.fresh _ _ l1 k hk.1,fun κ i0 hl hn hk'=>?_⟩
  obtain ⟨p1,p2⟩:=live1 κ i0 hl
  simp only [if_neg p2] at hk'
  have:=h.apart _ _ _ _ p1 l1 k hk' hk.1
  exact hn ⟨this.1,this.2⟩)
 have hnone:look ((id,(⟨r.sz,r.xs,(i,j,.ref id' 0 xs.length)::(r.map (L.noRow id')).ov⟩:RowC))::Bw.del id (s.noRow id').row) id'=Option.none:=by
  rw [look,if_neg hne,look_del,if_neg (Ne.symm hne)]
  exact noRow_none s id'
 have h3:=hC.reF (fun κ x=>if κ=true∧x=id' then G i j else ω'.f κ x) fun κ x hl=>by
  rw [if_neg]
  rintro ⟨rfl,rfl⟩
  have hl:(look ((id,(⟨r.sz,r.xs,(i,j,.ref x 0 xs.length)::(r.map (L.noRow x)).ov⟩:RowC))::Bw.del id (s.noRow x).row) x).isSome:=hl
  rw [hnone] at hl
  cases hl
 refine ⟨_,h3.addRow id' ⟨sz,xs,[]⟩ hnone (fun b hb=>?_) ?_ ?_ ?_⟩
 ·have:=(h.home.big id' (.inr (by rw [hb];rfl))).2.2
  omega
 ·unfold RowRep
  simp only [e1,true_and,if_true,upd]
  exact hRR _
 ·intro k hk
  simp only [true_and,if_true] at hk
  exact h.fresh _ _ l1 k (g6 _ _ _ hk).1
 ·intro κ x hl k hk hk'
  simp only [true_and,if_true] at hk'
  have hx:¬ (κ=true∧x=id'):=by
   rintro ⟨rfl,rfl⟩
   have hl:(look ((id,(⟨r.sz,r.xs,(i,j,.ref x 0 xs.length)::(r.map (L.noRow x)).ov⟩:RowC))::Bw.del id (s.noRow x).row) x).isSome:=hl
   rw [hnone] at hl
   cases hl
  simp only [if_neg hx] at hk
  by_cases hy:κ=true∧x=id
  ·obtain ⟨rfl,rfl⟩:=hy
   rw [e4] at hk
   exact hk.2 hk'
  ·rw [e3 κ x hy] at hk
   simp only [if_neg hx] at hk
   have hl':s.live κ x:=by
    cases κ with
    | false =>
     have hl:(s.noRow id').live false x:=hl
     exact (live1 _ _ hl).1
    | true =>
     have hl:(look ((id,(⟨r.sz,r.xs,(i,j,.ref id' 0 xs.length)::(r.map (L.noRow id')).ov⟩:RowC))::Bw.del id (s.noRow id').row) x).isSome:=hl
     have hxi:id≠x:=fun e=>hy ⟨rfl,e.symm⟩
     rw [look,if_neg hxi,look_del,if_neg (Ne.symm hxi)] at hl
     exact (live1 true x hl).1
   have:=h.apart _ _ _ _ hl' l1 k hk (g6 _ _ _ hk').1
   exact hy ⟨this.1,this.2⟩
theorem AWP.openC {Q:Exit→St→Prop} {c:Code} (id i j id':Nat) {sz:Nat} {xs:List (List L)} {r:RowC} (hr:look s.row id=some r) (hc:cellOf r.xs i j=some (.own sz xs)) (ho:ovGet r.ov i j=none) (hne:id≠id') (hbig:2000≤id')
  (h:AWP P w0 m0 F0 c Q (s.openR id r i j id' sz xs)):AWP P w0 m0 F0 c Q s:=fun a w ⟨_,_,hC⟩ =>
 let ⟨_,h1⟩:=hC.openC hr hc ho hne hbig
 h a w ⟨_,_,h1⟩
def St.nilBoxR (s:St) (id:Nat) (ls:List L) (o id' sz:Nat):St :=
 ⟨s.n,(s.noRow id').env,(id,(ls.map (L.noRow id')).set o (.ref id' 0 0))::Bw.del id (s.noRow id').box,(id',⟨sz,[],[]⟩)::(s.noRow id').row⟩
theorem CI.nilBox (h:CI P w0 m0 F0 s a w m ω) {id o id' sz:Nat} {ls:List L} (hb:look s.box id=some ls) (hl:ls[o]?=some (.nil sz)) (hid:id'<s.n∨2000≤id'):∃ω',CI P w0 m0 F0 (s.nilBoxR id ls o id' sz) a w m ω':=by
 have l1:s.live false id:=by show (look s.box id).isSome;rw [hb];rfl
 obtain ⟨cs,e,b1,b2,b3,G,b4,b5,b6⟩:=h.box id ls hb
 have h1:=h.noRow id' ⟨Option.none,0,sz⟩ (fun _=>False)
 have hE:∀{v l},ERep m ω v l→ERep m {box:=ω.box,row:=upd ω.row id' ⟨Option.none,0,sz⟩,f:=fun κ i=>if κ=true∧i=id' then (fun _=>False) else ω.f κ i} v (l.noRow id'):=fun hl=>by
  refine noRow_e (ω:=ω) (fun i hi=>?_) ?_ hl
  ·simp [upd,hi]
  ·rfl
 have R:Remap m m ω {box:=ω.box,row:=upd ω.row id' ⟨Option.none,0,sz⟩,f:=fun κ i=>if κ=true∧i=id' then (fun _=>False) else ω.f κ i} (L.noRow id'):=⟨Mem.le_refl m,fun v l hl=>hE hl,fun _ _=>rfl,fun _ _=>rfl⟩
 have live1:∀κ i0,(s.noRow id').live κ i0→s.live κ i0∧¬ (κ=true∧i0=id'):=by
  intro κ i0 hl
  cases κ with
  | false =>
   obtain ⟨x,hx⟩:=Option.isSome_iff_exists.1 hl
   obtain ⟨y,hy,_⟩:=map_look hx
   exact ⟨by show (look s.box i0).isSome;rw [hy];rfl,by simp⟩
  | true =>
   obtain ⟨x,hx⟩:=Option.isSome_iff_exists.1 hl
   obtain ⟨y,hy,_⟩:=map_look hx
   rw [look_del] at hy
   split at hy
   ·cases hy
   ·rename_i hne2
    exact ⟨by show (look s.row i0).isSome;rw [hy];rfl,fun q=>hne2 q.2⟩
 have h2:CI P w0 m0 F0 ⟨s.n,(s.noRow id').env,Bw.del id (s.noRow id').box,(s.noRow id').row⟩ a w m _:=h1.weaken rfl (fun _ _ h=>h) (fun i ls' h'=>by
  rw [look_del] at h'
  split at h'
  ·cases h'
  ·exact h') (fun _ _ h=>h)
 have live2:∀κ i0,(⟨s.n,(s.noRow id').env,Bw.del id (s.noRow id').box,(s.noRow id').row⟩:St).live κ i0→(s.noRow id').live κ i0∧¬ (κ=false∧i0=id):=by
  intro κ i0 hl
  cases κ with
  | true=>exact ⟨hl,by simp⟩
  | false =>
   have hl:(look (Bw.del id (s.noRow id').box) i0).isSome:=hl
   rw [look_del] at hl
   split at hl
   ·cases hl
   ·rename_i hne2
    exact ⟨hl,fun q=>hne2 q.2⟩
 have h3:=h2.addBox id ((ls.map (L.noRow id')).set o (.ref id' 0 0)) (by show look (Bw.del id (s.noRow id').box) id=_;rw [look_del,if_pos rfl]) (fun b hbb=>h.home.box id b hbb l1) (by
  refine ⟨cs,e,b1,by simpa using b2,by simpa using b3,G,by simpa using b4,b5,fun j l hj=>?_⟩
  rw [List.getElem?_set] at hj
  split at hj
  ·rename_i hoj
   subst hoj
   split at hj
   ·injection hj with hj
    subst hj
    obtain ⟨v,c1,c2⟩:=b6 o _ hl
    have c2:Rep m v (.nil sz):=c2
    refine ⟨v,c1,?_⟩
    show RefAt ((upd ω.row id' ⟨Option.none,0,sz⟩) id') 0 0 v
    simp only [upd,if_true]
    cases c2
    exact .inl ⟨rfl,rfl,rfl,rfl⟩
   ·cases hj
  ·simp only [List.getElem?_map,Option.map_eq_some_iff] at hj
   obtain ⟨l0,hj,rfl⟩:=hj
   obtain ⟨v,c1,c2⟩:=b6 j l0 hj
   exact ⟨v,c1,c2.remap R⟩)
  (fun k hk=>by simp only [Bool.false_eq_true,false_and,if_false] at hk;exact h.fresh _ _ l1 k hk)
  (fun κ x hx k hk hk'=>by
   obtain ⟨p1,p2⟩:=live2 κ x hx
   obtain ⟨p3,p4⟩:=live1 κ x p1
   simp only [if_neg p4] at hk
   simp only [Bool.false_eq_true,false_and,if_false] at hk'
   have:=h.apart _ _ _ _ p3 l1 k hk hk'
   exact p2 ⟨this.1,this.2⟩)
 refine ⟨_,h3.addRow id' ⟨sz,[],[]⟩ (noRow_none s id') (fun b hbb=>?_) ?_ (fun k hk=>?_) (fun κ x _ k _ hk'=>?_)⟩
 ·have:=h.home.big id' (.inr (by rw [hbb];rfl))
  omega
 ·unfold RowRep
  simp only [upd,if_true]
  exact ⟨rfl,fun x hx=>(by cases hx),rfl,rfl⟩
 ·simp only [true_and,if_true] at hk
 ·simp only [true_and,if_true] at hk'
theorem AWP.nilBox {Q:Exit→St→Prop} {c:Code} (id o id':Nat) {sz:Nat} {ls:List L} (hb:look s.box id=some ls) (hl:ls[o]?=some (.nil sz)) (hid:id'<s.n∨2000≤id')
  (h:AWP P w0 m0 F0 c Q (s.nilBoxR id ls o id' sz)):AWP P w0 m0 F0 c Q s:=fun a w ⟨_,_,hC⟩ =>
 let ⟨_,h1⟩:=hC.nilBox hb hl hid
 h a w ⟨_,_,h1⟩
theorem ovCut_nil (i j:Nat):ovCut i j []=[]:=rfl
theorem ovCut_cons (i j a b:Nat) (l:L) (r:List (Nat×Nat×L)):ovCut i j ((a,b,l)::r)=if a=i∧b=j then ovCut i j r else (a,b,l)::ovCut i j r:=rfl
theorem closeR_mk (n:Nat) (e:List (Nat×A)) (b:List (Nat×List L)) (k:List (Nat×RowC)) (id i j id' sz sz':Nat) (xs xs':List (List L)) (ov ov':List (Nat×Nat×L)):St.closeR ⟨n,e,b,k⟩ id ⟨sz,xs,ov⟩ i j id' ⟨sz',xs',ov'⟩ =
  ⟨n,e.map fun p=>(p.1,p.2.map (L.noRow id')),b.map fun p=>(p.1,p.2.map (L.noRow id')),(id,⟨sz,setCell xs i j (.own sz' xs'),ovCut i j (ov.map fun p=>(p.1,p.2.1,L.noRow id' p.2.2))⟩)::Bw.del id ((Bw.del id' k).map fun p=>(p.1,p.2.map (L.noRow id')))⟩:=rfl
theorem openR_mk (n:Nat) (e:List (Nat×A)) (b:List (Nat×List L)) (k:List (Nat×RowC)) (id i j id' sz sz':Nat) (xs xs':List (List L)) (ov:List (Nat×Nat×L)):St.openR ⟨n,e,b,k⟩ id ⟨sz,xs,ov⟩ i j id' sz' xs' =
  ⟨n,e.map fun p=>(p.1,p.2.map (L.noRow id')),b.map fun p=>(p.1,p.2.map (L.noRow id')),(id',⟨sz',xs',[]⟩)::(id,⟨sz,xs,(i,j,.ref id' 0 xs'.length)::(ov.map fun p=>(p.1,p.2.1,L.noRow id' p.2.2))⟩)::Bw.del id ((Bw.del id' k).map fun p=>(p.1,p.2.map (L.noRow id')))⟩:=rfl
theorem nilBoxR_mk (n:Nat) (e:List (Nat×A)) (b:List (Nat×List L)) (k:List (Nat×RowC)) (id o id' sz:Nat) (ls:List L):St.nilBoxR ⟨n,e,b,k⟩ id ls o id' sz =
  ⟨n,e.map fun p=>(p.1,p.2.map (L.noRow id')),(id,(ls.map (L.noRow id')).set o (.ref id' 0 0))::Bw.del id (b.map fun p=>(p.1,p.2.map (L.noRow id'))),(id',⟨sz,[],[]⟩)::((Bw.del id' k).map fun p=>(p.1,p.2.map (L.noRow id')))⟩:=rfl
end
end Go.Bw
namespace Go.Bw
open Go.RowKit
section
variable {P:Program} {w0:World} {m0:Mem} {s:St} {a:Act} {w:World} {m:Mem} {ω:Wh} {F0:Home}
theorem V.map_id (x:V):x.map (fun l=>l)=x:=by cases x<;>simp [V.map]
theorem A.map_id (x:A):x.map (fun l=>l)=x:=by
 cases x with
 | v x=>simp [A.map,V.map_id]
 | tup xs =>
  simp only [A.map]
  congr 1
  exact (List.map_congr_left fun x _=>V.map_id x).trans (List.map_id xs)
def frzXs (xs:List (List L)):List (List L):=xs.map fun x=>x.map (L.frzN 4)
theorem CI.frzRow (h:CI P w0 m0 F0 s a w m ω) {id:Nat} {r:RowC} (hr:look s.row id=some r) :
  ∃m' ω',CI P w0 m0 F0 {s with row:=(id,⟨r.sz,frzXs r.xs,r.ov⟩)::del id s.row} a w m' ω':=by
 have hlive:s.live true id:=by show (look s.row id).isSome;rw [hr];rfl
 obtain ⟨q1,q2,q3⟩:=h.row id r hr
 have hw:CI P w0 m0 F0 {s with row:=del id s.row} a w m ω:=h.weaken rfl (fun _ _ h=>h) (fun _ _ h=>h) fun i r' h'=>by
  rw [look_del] at h'
  split at h'
  ·cases h'
  ·exact h'
 have hn:look (del id s.row) id=Option.none:=by rw [look_del,if_pos rfl]
 have live:∀κ i,({s with row:=del id s.row}:St).live κ i→s.live κ i∧¬ (κ=true∧i=id):=by
  intro κ i hl
  cases κ with
  | false=>exact ⟨hl,by simp⟩
  | true =>
   have hl:(look (del id s.row) i).isSome:=hl
   rw [look_del] at hl
   split at hl
   ·cases hl
   ·rename_i hne
    exact ⟨hl,fun q=>hne q.2⟩
 have hsz:∀x∈frzXs r.xs,x.length=r.sz:=by
  intro x hx
  obtain ⟨y,hy,rfl⟩:=List.mem_map.1 hx
  simpa using q2 y hy
 have hlen:(frzXs r.xs).length=r.xs.length:=by simp [frzXs]
 cases hb:(ω.row id).blk with
 | none =>
  rw [hb] at q3
  refine ⟨m,ω,hw.addRow id _ hn (fun b hbb=>h.home.row id b hbb hlive) ?_ (fun k hk=>h.fresh true id hlive k hk) (fun κ i hl k hk hk'=>?_)⟩
  ·refine ⟨q1,hsz,?_⟩
   rw [hb]
   exact ⟨by rw [q3.1];rfl,q3.2⟩
  ·obtain ⟨l1,l2⟩:=live κ i hl
   have:=h.apart _ _ _ _ l1 hlive k hk hk'
   exact l2 ⟨this.1,this.2⟩
 | some b =>
  rw [hb] at q3
  obtain ⟨cs,e,g1,g2,g3,g4,g5,G,g6,g7,g8⟩:=q3
  let F:Nat→Prop:=fun k=>∃i j,G i j k
  have hFf:∀k,F k→ω.f true id k∧k≠b:=fun k ⟨i,j,hk⟩=>g6 i j k hk
  have hF:∀x v,m x=some v→¬ F x.block:=fun x v hx hk=>(h.fresh true id hlive _ (hFf _ hk).1).2.2 x v hx rfl
  have hle:=frzMem_le (w:=w) hF
  have h2:=hw.reF (fun κ i=>if κ=true∧i=id then (fun k=>ω.f true id k∧¬ F k) else ω.f κ i) fun κ i hl=>by rw [if_neg (live κ i hl).2]
  have hE:∀v l,ERep m {ω with f:=fun κ i=>if κ=true∧i=id then (fun k=>ω.f true id k∧¬ F k) else ω.f κ i} v l→ERep (frzMem m w F) {ω with f:=fun κ i=>if κ=true∧i=id then (fun k=>ω.f true id k∧¬ F k) else ω.f κ i} v l:=fun v l hl=>hl.mono hle
  have h3:=h2.remap (s':={s with row:=del id s.row}) (m':=frzMem m w F) (g:=fun l=>l) ⟨hle,hE,fun _ _=>rfl,fun _ _=>rfl⟩ rfl (fun t x hx=>⟨x,hx,(A.map_id x).symm⟩) (fun i ls hi=>⟨ls,hi,by simp,rfl,rfl⟩)
   (fun i r' hi=>⟨r',hi,by cases r';simp [RowC.map],rfl,rfl⟩) (frzMem_ok h.ok) (fun x=>by
    by_cases hx:F x.block
    ·refine .inr ⟨(h.fresh true id hlive _ (hFf _ hx).1).2.1,fun κ i hl hk=>?_⟩
     obtain ⟨l1,l2⟩:=live κ i hl
     simp only [if_neg l2] at hk
     have:=h.apart _ _ _ _ l1 hlive _ hk (hFf _ hx).1
     exact l2 ⟨this.1,this.2⟩
    ·exact .inl (frzMem_out hx))
  refine ⟨_,_,h3.addRow id ⟨r.sz,frzXs r.xs,r.ov⟩ hn (fun b hbb=>h.home.row id b hbb hlive) ?_ (fun k hk=>?_) (fun κ i hl k hk hk'=>?_)⟩
  ·refine ⟨q1,hsz,?_⟩
   simp only [true_and,if_true,hb]
   refine ⟨cs,e,g1,g2,by rw [hlen];exact g3,⟨g4.1,fun l hl=>(by simp only [hlen] at hl ⊢;exact g4.2.1 l hl),g4.2.2⟩,⟨g5,fun hk=>(hFf _ hk).2 rfl⟩,fun _ _ _=>False,fun _ _ _ hk=>hk.elim,fun _ _ _ _ _ hk=>hk.elim,fun i j u hu=>?_⟩
   obtain ⟨u',hu',rfl⟩:=cellOf_map r.xs (L.frzN 4) i j u hu
   obtain ⟨v,k1,k2⟩:=g8 i j u' hu'
   refine ⟨v,k1,?_⟩
   simp only
   cases ho:ovGet r.ov i j with
   | none =>
    rw [ho] at k2
    have k2:CRep m w (G i j) v u':=k2
    exact .fr (k2.frz hle (fun x hx=>frzMem_in (m:=m) ⟨i,j,hx⟩) 4)
   | some l =>
    rw [ho] at k2
    have k2:ERep m ω v l:=k2
    have k3:=k2.mono hle
    show ERep (frzMem m w F) _ v l
    cases l with
    | clo f' caps=>obtain ⟨vs,c1,c2,c3⟩:=k3;exact ⟨vs,c1,c2,fun i u hu=>let ⟨x,c4,c5⟩:=c3 i u hu;⟨x,c4,c5.imp (fun h=>h) (fun hp=>by cases u<;>exact hp)⟩⟩
    | _=>exact k3
  ·simp only [true_and,if_true] at hk
   obtain ⟨k1,k2,k3⟩:=h.fresh true id hlive k hk.1
   refine ⟨k1,k2,fun x v hx he=>?_⟩
   by_cases hx':F x.block
   ·exact hk.2 (he▸hx')
   ·rw [frzMem_out hx'] at hx
    exact k3 x v hx he
  ·obtain ⟨l1,l2⟩:=live κ i hl
   simp only [if_neg l2] at hk
   simp only [true_and,if_true] at hk'
   have:=h.apart _ _ _ _ l1 hlive k hk hk'.1
   exact l2 ⟨this.1,this.2⟩
def St.frzR (s:St) (id:Nat) (r:RowC):St:={s with row:=(id,⟨r.sz,frzXs r.xs,r.ov⟩)::Bw.del id s.row}
theorem AWP.frzR {Q:Exit→St→Prop} {c:Code} (id:Nat) {r:RowC} (hr:look s.row id=some r) (h:AWP P w0 m0 F0 c Q (s.frzR id r)):AWP P w0 m0 F0 c Q s:=fun a w ⟨_,_,hC⟩ =>
 let ⟨_,_,h1⟩:=hC.frzRow hr
 h a w ⟨_,_,h1⟩
theorem frzR_mk (n:Nat) (e:List (Nat×A)) (b:List (Nat×List L)) (k:List (Nat×RowC)) (id sz:Nat) (xs:List (List L)) (ov:List (Nat×Nat×L)):St.frzR ⟨n,e,b,k⟩ id ⟨sz,xs,ov⟩=⟨n,e,b,(id,⟨sz,frzXs xs,ov⟩)::Bw.del id k⟩:=rfl
theorem AWP.cutR {Q:Exit→St→Prop} {c:Code} (id k:Nat) {r:RowC} (hr:look s.row id=some r) (hov:r.ov=[]) (hk:k≤r.xs.length) (h:AWP P w0 m0 F0 c Q {s with row:=sput id ⟨r.sz,r.xs.take k,[]⟩ s.row}):AWP P w0 m0 F0 c Q s:=fun a w ⟨_,_,hC⟩ =>
 h a w ⟨_,_,hC.rowCut hr (fun i j _=>by rw [hov];rfl) hk⟩
def L.ren0 (a b:Nat):L→L
 | .eptr i k o=>if i=a then .eptr b k o else .eptr i k o
 | .ref i lo n=>if i=a then .ref b lo n else .ref i lo n
 | l=>l
def L.ren (a b:Nat):L→L
 | .clo f caps=>.clo f (caps.map (L.ren0 a b))
 | l=>l.ren0 a b
theorem ren_e {a b:Nat} (hb:ω.row b=ω.row a) {v:Value} {l:L} (h:ERep m ω v l):ERep m ω v (l.ren a b):=by
 have hP:∀x u,Rep m x u∨PRep ω x u→Rep m x (u.ren0 a b)∨PRep ω x (u.ren0 a b):=by
  intro x u hu
  cases u with
  | eptr i k o =>
   simp only [L.ren0]
   split
   ·rename_i hi
    rcases hu with hu|hu
    ·cases hu
    ·refine .inr ?_
     subst hi
     show ∃q,(ω.row b).blk=some q∧_
     rw [hb]
     exact hu
   ·exact hu
  | ref i lo n =>
   rcases hu with hu|hu
   ·cases hu
   ·cases hu
  | _=>exact hu
 cases l with
 | eptr i k o =>
  simp only [L.ren,L.ren0]
  split
  ·rename_i hi
   subst hi
   show ∃q,(ω.row b).blk=some q∧_
   rw [hb]
   exact h
  ·exact h
 | ref i lo n =>
  simp only [L.ren,L.ren0]
  split
  ·rename_i hi
   subst hi
   show RefAt (ω.row b) lo n v
   rw [hb]
   exact h
  ·exact h
 | clo f caps =>
  obtain ⟨vs,h1,h2,h3⟩:=h
  refine ⟨vs,h1,by simpa using h2,fun i u hu=>?_⟩
  simp only [List.getElem?_map,Option.map_eq_some_iff] at hu
  obtain ⟨u0,hu,rfl⟩:=hu
  obtain ⟨x,h4,h5⟩:=h3 i u0 hu
  exact ⟨x,h4,hP x u0 h5⟩
 | _=>exact h
def St.renR (s:St) (id id':Nat) (r:RowC):St :=
 let s1:=({s with row:=Bw.del id s.row}:St).noRow id'
 {n:=s.n,env:=s1.env.map fun p=>(p.1,p.2.map (L.ren id id')),box:=s1.box.map fun p=>(p.1,p.2.map (L.ren id id')),row:=(id',r)::s1.row.map fun p=>(p.1,p.2.map (L.ren id id'))}
theorem CI.renRow (h:CI P w0 m0 F0 s a w m ω) {id id':Nat} {r:RowC} (hr:look s.row id=some r) (hov:r.ov=[]) (hne:id≠id') (hid:id'<s.n∨2000≤id'):∃ω',CI P w0 m0 F0 (s.renR id id' r) a w m ω':=by
 have hlive:s.live true id:=by show (look s.row id).isSome;rw [hr];rfl
 have hR:RowRepG m w ω (ω.row id) (ω.f true id) r:=h.row id r hr
 have hw:CI P w0 m0 F0 {s with row:=del id s.row} a w m ω:=h.weaken rfl (fun _ _ h=>h) (fun _ _ h=>h) fun i r' h'=>by
  rw [look_del] at h'
  split at h'
  ·cases h'
  ·exact h'
 have live:∀κ i,(({s with row:=del id s.row}:St).noRow id').live κ i→s.live κ i∧¬ (κ=true∧i=id)∧¬ (κ=true∧i=id'):=by
  intro κ i hl
  cases κ with
  | false =>
   obtain ⟨x,hx⟩:=Option.isSome_iff_exists.1 hl
   obtain ⟨y,hy,_⟩:=map_look hx
   exact ⟨by show (look s.box i).isSome;rw [hy];rfl,by simp,by simp⟩
  | true =>
   obtain ⟨x,hx⟩:=Option.isSome_iff_exists.1 hl
   obtain ⟨y,hy,_⟩:=map_look hx
   rw [look_del] at hy
   split at hy
   ·cases hy
   ·rename_i h1
    rw [look_del] at hy
    split at hy
    ·cases hy
    ·rename_i h2
     exact ⟨by show (look s.row i).isSome;rw [hy];rfl,fun q=>h2 q.2,fun q=>h1 q.2⟩
 have h2:=hw.noRow id' (ω.row id) (ω.f true id)
 have hrow:(upd ω.row id' (ω.row id)) id'=(upd ω.row id' (ω.row id)) id:=by simp [upd,hne]
 have h3:=h2.remap (s':={n:=s.n,env:=(({s with row:=del id s.row}:St).noRow id').env.map fun p=>(p.1,p.2.map (L.ren id id')),box:=(({s with row:=del id s.row}:St).noRow id').box.map fun p=>(p.1,p.2.map (L.ren id id')),row:=(({s with row:=del id s.row}:St).noRow id').row.map fun p=>(p.1,p.2.map (L.ren id id'))})
  (g:=L.ren id id') ⟨Mem.le_refl m,fun v l hl=>ren_e hrow hl,fun _ _=>rfl,fun _ _=>rfl⟩ rfl (fun t x hx=>map_look hx) (fun i ls hi=>by
   obtain ⟨y,hy,rfl⟩:=map_look hi
   exact ⟨y,hy,rfl,rfl,rfl⟩) (fun i ls hi=>by
   obtain ⟨y,hy,rfl⟩:=map_look hi
   exact ⟨y,hy,rfl,rfl,rfl⟩) h.ok (fun x=>.inl rfl)
 have hn:look ((({s with row:=del id s.row}:St).noRow id').row.map fun p=>(p.1,p.2.map (L.ren id id'))) id'=Option.none:=by
  rw [look_map (RowC.map (L.ren id id')),noRow_none]
  rfl
 have live3:∀κ i,({n:=s.n,env:=(({s with row:=del id s.row}:St).noRow id').env.map fun p=>(p.1,p.2.map (L.ren id id')),box:=(({s with row:=del id s.row}:St).noRow id').box.map fun p=>(p.1,p.2.map (L.ren id id')),row:=(({s with row:=del id s.row}:St).noRow id').row.map fun p=>(p.1,p.2.map (L.ren id id'))}:St).live κ i→(({s with row:=del id s.row}:St).noRow id').live κ i:=by
  intro κ i hl
  cases κ with
  | false =>
   obtain ⟨x,hx⟩:=Option.isSome_iff_exists.1 hl
   obtain ⟨y,hy,_⟩:=map_look hx
   show (look _ i).isSome;rw [hy];rfl
  | true =>
   obtain ⟨x,hx⟩:=Option.isSome_iff_exists.1 hl
   obtain ⟨y,hy,_⟩:=map_look hx
   show (look _ i).isSome;rw [hy];rfl
 refine ⟨_,h3.addRow id' r hn (fun b hbb=>?_) ?_ (fun k hk=>?_) (fun κ i hl k hk hk'=>?_)⟩
 ·have:=(h.home.big id' (.inr (by rw [hbb];rfl))).2.2
  have:=(h.home.big id' (.inr (by rw [hbb];rfl))).1
  omega
 ·unfold RowRep
  simp only [true_and,if_true,upd]
  obtain ⟨q1,q2,q3⟩:=hR
  refine ⟨q1,q2,?_⟩
  split at q3
  ·exact q3
  ·obtain ⟨cs,e,g1,g2,g3,g4,g5,G,g6,g7,g8⟩:=q3
   refine ⟨cs,e,g1,g2,g3,g4,g5,G,g6,g7,fun i j u hu=>?_⟩
   obtain ⟨v,g9,g10⟩:=g8 i j u hu
   rw [hov] at g10 ⊢
   exact ⟨v,g9,g10⟩
 ·simp only [true_and,if_true] at hk
  exact h.fresh true id hlive k hk
 ·obtain ⟨l1,l2,l3⟩:=live κ i (live3 κ i hl)
  simp only [if_neg l3] at hk
  simp only [true_and,if_true] at hk'
  have:=h.apart _ _ _ _ l1 hlive k hk hk'
  exact l2 ⟨this.1,this.2⟩
theorem AWP.renR {Q:Exit→St→Prop} {c:Code} (id id':Nat) {r:RowC} (hr:look s.row id=some r) (hov:r.ov=[]) (hne:id≠id') (hid:id'<s.n∨2000≤id') (h:AWP P w0 m0 F0 c Q (s.renR id id' r)):AWP P w0 m0 F0 c Q s:=fun a w ⟨_,_,hC⟩ =>
 let ⟨_,h1⟩:=hC.renRow hr hov hne hid
 h a w ⟨_,_,h1⟩
theorem renR_mk (n:Nat) (e:List (Nat×A)) (b:List (Nat×List L)) (k:List (Nat×RowC)) (id id':Nat) (r:RowC):St.renR ⟨n,e,b,k⟩ id id' r =
  ⟨n,(e.map fun p=>(p.1,p.2.map (L.noRow id'))).map fun p=>(p.1,p.2.map (L.ren id id')),(b.map fun p=>(p.1,p.2.map (L.noRow id'))).map fun p=>(p.1,p.2.map (L.ren id id')),
   (id',r)::((Bw.del id' (Bw.del id k)).map fun p=>(p.1,p.2.map (L.noRow id'))).map fun p=>(p.1,p.2.map (L.ren id id'))⟩:=rfl
def Gq (P:Program) (w0:World) (m0:Mem) (F0:Home) (Q:Exit→St→Prop) (e:Exit) (s:St):Prop:=∀a w,Conc P w0 m0 F0 s a w→∃s',Q e s'∧Conc P w0 m0 F0 s' a w
theorem AWP.gq {Q:Exit→St→Prop} {c:Code} (h:AWP P w0 m0 F0 c (Gq P w0 m0 F0 Q) s):AWP P w0 m0 F0 c Q s:=fun a w hc=>wp_mono (h a w hc) fun _ a' w' ⟨_,hq,hC⟩=>hq a' w' hC
theorem Gq.done {Q:Exit→St→Prop} {e:Exit} (h:Q e s):Gq P w0 m0 F0 Q e s:=fun _ _ hc=>⟨s,h,hc⟩
theorem Gq.frzR {Q:Exit→St→Prop} {e:Exit} (id:Nat) {r:RowC} (hr:look s.row id=some r) (h:Gq P w0 m0 F0 Q e (s.frzR id r)):Gq P w0 m0 F0 Q e s:=fun a w ⟨_,_,hC⟩ =>
 let ⟨_,_,h1⟩:=hC.frzRow hr
 h a w ⟨_,_,h1⟩
theorem Gq.cutR {Q:Exit→St→Prop} {e:Exit} (id k:Nat) {r:RowC} (hr:look s.row id=some r) (hov:r.ov=[]) (hk:k≤r.xs.length) (h:Gq P w0 m0 F0 Q e {s with row:=sput id ⟨r.sz,r.xs.take k,[]⟩ s.row}):Gq P w0 m0 F0 Q e s:=fun a w ⟨_,_,hC⟩ =>
 h a w ⟨_,_,hC.rowCut hr (fun i j _=>by rw [hov];rfl) hk⟩
theorem Gq.renR {Q:Exit→St→Prop} {e:Exit} (id id':Nat) {r:RowC} (hr:look s.row id=some r) (hov:r.ov=[]) (hne:id≠id') (hid:id'<s.n∨2000≤id') (h:Gq P w0 m0 F0 Q e (s.renR id id' r)):Gq P w0 m0 F0 Q e s:=fun a w ⟨_,_,hC⟩ =>
 let ⟨_,h1⟩:=hC.renRow hr hov hne hid
 h a w ⟨_,_,h1⟩
theorem Gq.close {Q:Exit→St→Prop} {e:Exit} (id i j id':Nat) {r r':RowC} (hr:look s.row id=some r) (hr':look s.row id'=some r') (hne:id≠id') (ho:ovGet r.ov i j=some (.ref id' 0 r'.xs.length)) (hi:i<r.xs.length) (hj:j<r.sz) (hov:r'.ov=[])
  (h:Gq P w0 m0 F0 Q e (s.closeR id r i j id' r')):Gq P w0 m0 F0 Q e s:=fun a w ⟨_,_,hC⟩ =>
 let ⟨_,h1⟩:=hC.close hr hr' hne ho hi hj hov
 h a w ⟨_,_,h1⟩
end
end Go.Bw
namespace Go.Bw
theorem CallJ.frzThen {P:Program} {T:TypeId→Option TI} {ops:Array Oper} {d:Option Tmp} {l:List Oper} {s:St} {K:St→Prop} {f:FuncId} {xs:List V} (kb kr:List Nat)
  (h:CallJ P T ops d l (s.freeze kb kr) K (f,xs.map fun x=>x.map (topL kb kr (s.rest kb kr)))):CallJ P T ops d l s K (f,xs):=by
 obtain ⟨s',hM,hK⟩:=h
 refine ⟨s',fun w0 m0 F0 a w m ω hC vs hA=>?_,hK⟩
 obtain ⟨m',h',hle,hg⟩:=hC.freeze kb kr
 refine hM w0 m0 F0 a w m' ω h' vs ⟨by simpa using hA.1,fun i x hi=>?_⟩
 rw [List.getElem?_map,Option.map_eq_some_iff] at hi
 obtain ⟨x0,hi,rfl⟩:=hi
 obtain ⟨v,h1,h2⟩:=hA.2 i x0 hi
 exact ⟨v,h1,h2.map hg⟩
end Go.Bw
namespace Go.Bw
open Go.RowKit
section
variable {P:Program} {T:TypeId→Option TI} {w0:World} {m0:Mem} {F0:Home} {s s':St} {a:Act} {w:World} {m:Mem} {ω:Wh}
theorem moves_appendGrow {o:Oper} {t e:TypeId} {i j:TI} {x y:Operand} {ty:TypeId} {d id n:Nat} {r:RowC} {z:List L} {ys:List (List L)} (ho:o.op=.call {callee:=.builtin .append,args:=#[x,y],argTypes:=#[t,t]})
  (hd:o.dst=some d) (hn:d<s.n) (hT:tiOk P t i=true) (he:i.elem=some e) (hE:tiOk P e j=true) (hz:j.zero=some z) (hsz:j.size=r.sz) (hzl:z.length=r.sz) (h:CI P w0 m0 F0 s a w m ω)
  (hx:evalO T s ty x=some (.v (.one (.ref id 0 n)))) (hb:look s.row id=some r) (hov:r.ov=[]) (hnx:n≤r.xs.length) (hno:noOwn (r.xs.take n)) (hy:SliceRd m w ω (a.eval y) r.sz ys [])
  (hgr:(ω.row id).cap<n+ys.length) (hbs:(n+ys.length) * j.bytes≤140737488355328) (hm:n+ys.length≤9223372036854775807) :
  Moves P w0 m0 F0 o a w (s.appended none d r.sz (r.xs.take n++ys) []):=by
 have hu:=(tiFacts hT).elem e he
 obtain ⟨inf,zv,g1,g2,g3,_⟩:=(tiFacts hE).zero z hz
 obtain ⟨inf',g4,g5,g6⟩:=(tiFacts hE).info
 rw [g1] at g4
 injection g4 with g4
 subst g4
 rw [hsz] at g5
 have hzs:zv.cells.size=r.sz:=by
  have:=(matchAll_rep (m:=m) zv.cells.toList z g3).1
  simpa [hzl] using this
 obtain ⟨q,hq⟩:=run_call_builtin (P:=P) (a:=a) (w:=w) ho
 have hv1:RefAt (ω.row id) 0 n (a.eval x):=evalO_sound h hx
 generalize hax:a.eval x=v1 at *
 generalize hay:a.eval y=v2 at *
 have hrun:(execOp a.eval o).run P w=((Builtin.append_ #[t,t] o.type #[v1,v2]).run P w).andThen fun v w'=>.ok (.value v) w':=by
  rw [hq]
  simp only [List.map_toArray,List.map_cons,List.map_nil,hax,hay,builtin,Sem.run_bind,Sem.run_pure]
 have hmaxw:maxLen=9223372036854775807:=rfl
 obtain ⟨A2,c2,rfl,hc2,hys,hnone,hnews⟩:=hy
 obtain ⟨q1,q2,q3⟩:=h.row id r hb
 have hlx:(r.xs.take n).length=n:=by simp;omega
 -- the capacity, the elements
 have key:∃(olds news:List Value) (old:Nat),olds.length=n * r.sz∧news.length=ys.length * r.sz∧(∀v∈olds,v.oneCell'=true)∧(∀v∈news,v.oneCell'=true) ∧
   (∀i j u,cellOf (r.xs.take n) i j=some u→∃v,olds[i * r.sz+j]?=some v∧CRep m w (fun _=>False) v u)∧(∀i j u,cellOf ys i j=some u→∃v,news[i * r.sz+j]?=some v∧CRep m w (fun _=>False) v u) ∧
   (Builtin.append_ #[t,t] o.type #[v1,.slice A2 ys.length c2]).run P w=.ok (.slice (some ⟨w.heap.size,0,none⟩) (n+ys.length) (grownCap w (n+ys.length) old e))
    (w.drew.alloc (.cells (olds.toArray++news.toArray++Builtin.zeroCells zv.cells (grownCap w (n+ys.length) old e - (n+ys.length))) e)):=by
  cases A2 with
  | none =>
   have hy0:=hnone rfl
   subst hy0
   exfalso
   rcases hv1 with ⟨k0,_,hn0,hvv⟩|⟨b,ad,k1,k2,hvv,k4⟩
   ·subst hn0;simp at hgr
   ·simp at hgr;omega
  | some ad2 =>
   obtain ⟨news,hnl,hnc,hn1,hnr⟩:=hnews ad2 rfl
   rcases hv1 with ⟨k0,_,hn0,hvv⟩|⟨b,ad,k1,k2,hvv,k4⟩
   ·subst hn0
    have hr:=run_append_nil (P:=P) w t o.type e inf zv hu g1 g2 ad2 ys.length c2 news (by rw [g5];exact hnl) hnc (by omega) (by omega) (by rw [Nat.zero_add] at hbs;rw [g6];omega)
    refine ⟨[],news,0,by simp,hnl,by simp,hn1,fun i j u hu'=>by simp [cellOf] at hu',hnr,?_⟩
    rw [hvv,hr]
    simp
   ·have had:=k4 (.inr rfl)
    simp only [Nat.zero_mul] at had
    subst had
    obtain ⟨cs,e',G,p1,p2,p3,p4,p5,olds,p6,p7,p8,p9⟩:=row_flat h hb k1 (lo:=0) (n:=n) (by omega)
    simp only [List.drop_zero,Nat.zero_mul,Nat.zero_add] at p7 p9
    have hr:=run_append_grow (P:=P) w t o.type e inf zv hu g1 g2 ⟨b,0,none⟩ n (ω.row id).cap olds (by rw [g5];exact p6) (fun j u hj=>by
     rw [cell_row p1]
     have hlt:j<n * r.sz:=by rw [←p6];exact (List.getElem?_eq_some_iff.1 hj).1
     rw [p7,List.getElem?_take,if_pos hlt] at hj
     simpa using hj) ad2 ys.length c2 news (by rw [g5];exact hnl) hnc (by omega) (by omega) (growslice_fits (by omega) (by rw [g6];exact hbs))
    refine ⟨olds,news,(ω.row id).cap,p6,hnl,p8,hn1,fun i j u hu=>?_,hnr,?_⟩
    ·obtain ⟨v,h1,h2⟩:=p9 i j u hu
     obtain ⟨x,hx',hux⟩:=cellOf_mem hu
     rw [hov] at h2
     exact ⟨v,h1,RCell.noOwn (o:=none) h2 (hno x hx' u hux) _⟩
    ·rw [hvv,Nat.sub_zero]
     exact hr
 obtain ⟨olds,news,old,hol,hnl,hon,hn1,hor,hnr,hr⟩:=key
 have hge:=grownCap_ge w (n+ys.length) old e
 have hcm:grownCap w (n+ys.length) old e≤maxLen:=grownCap_le_maxLen w _ old e (by rw [hmaxw];exact hm)
 generalize grownCap w (n+ys.length) old e=C at hr hge hcm
 obtain ⟨y1,y2,_⟩:=zeroRd (m:=m) g3 (C - (n+ys.length))
 rw [hzl] at y1
 have hbl:Below w.heap.size w (w.drew.alloc (.cells (olds.toArray++news.toArray++Builtin.zeroCells zv.cells (C - (n+ys.length))) e)):=((Below.refl _ w).drew).alloc (Nat.le_refl _) _
 have hh:(w.drew.alloc (.cells (olds.toArray++news.toArray++Builtin.zeroCells zv.cells (C - (n+ys.length))) e)).heap[w.heap.size]?=_:=heap_alloc_new w.drew _
 have hsize:=(Array.getElem?_eq_some_iff.1 hh).1
 have hysz:(Builtin.zeroCells zv.cells (C - (n+ys.length))).size=(C - (n+ys.length)) * r.sz:=by rw [←Array.length_toList];exact y1
 obtain ⟨ω',hC,hri,_⟩:=h.rowNew (r:=⟨r.sz,r.xs.take n++ys,[]⟩) none d hn ⟨some w.heap.size,C,r.sz⟩ (fun q=>q=w.heap.size) (.inl hbl) (fun q hq=>.inr ⟨by omega,by rw [hq];exact hsize⟩) (by
  refine ⟨rfl,fun x hx=>?_,?_⟩
  ·rcases List.mem_append.1 hx with hx|hx
   ·exact q2 x (List.mem_of_mem_take hx)
   ·exact hys x hx
  ·refine ⟨_,e,hh,?_,by simp;omega,⟨hcm,fun l hl=>(by cases hl),fun q v hq=>?_⟩,rfl,fun _ _ _=>False,(fun i j k hk=>hk.elim),(fun i j i' j' k hk=>hk.elim),fun i j u hu=>?_⟩
   ·simp only [Array.size_append,List.size_toArray,hysz,hol,hnl,←Nat.add_mul]
    congr 1
    omega
   ·have hm':=Array.mem_of_getElem? hq
    simp only [Array.mem_append,List.mem_toArray] at hm'
    rcases hm' with (hm'|hm')|hm'
    ·exact hon v hm'
    ·exact hn1 v hm'
    ·exact y2 v (by simpa using hm')
   ·show ∃v,_∧CRep m _ _ v u
    rcases cellOf_append hu with ⟨hi,hu⟩|⟨hi,hu⟩
    ·obtain ⟨v,h1,h2⟩:=hor i j u hu
     have hlt:=(List.getElem?_eq_some_iff.1 h1).1
     refine ⟨v,?_,CRep.keep (Mem.le_refl m) h2 fun k hk=>hk.elim⟩
     rw [Array.getElem?_append_left (by simp;omega),Array.getElem?_append_left (by simpa using hlt)]
     simpa using h1
    ·rw [hlx] at hi hu
     obtain ⟨v,h1,h2⟩:=hnr _ j u hu
     have hlt:=(List.getElem?_eq_some_iff.1 h1).1
     have hle:n * r.sz≤i * r.sz:=Nat.mul_le_mul_right _ hi
     rw [Nat.sub_mul] at hlt h1
     refine ⟨v,?_,CRep.keep (Mem.le_refl m) h2 fun k hk=>hk.elim⟩
     rw [Array.getElem?_append_left (by simp;omega),Array.getElem?_append_right (by simp;omega)]
     simp only [List.size_toArray,List.getElem?_toArray]
     rw [←h1]
     congr 1
     omega)
 refine gives_of_run (w':=_) (by rw [hrun,hr];rfl) ?_
 rw [hd]
 refine ⟨m,ω',hC.put (by rw [newRow0_n];exact hn) ?_⟩
 show RefAt (ω'.row d) 0 _ _
 rw [hri]
 have hl2:(r.xs.take n++ys).length=n+ys.length:=by simp;omega
 rw [hl2]
 exact .inr ⟨w.heap.size,⟨w.heap.size,0,none⟩,rfl,by simp;omega,by simp,fun _=>by simp⟩
structure TwoK (A B:Prop):Prop where
 a:A
 b:B
def app2K (s:St) (j:TI) (z:List L) (d:Nat) (K:St→Prop):L→L→Prop
 | .ref id lo n,.ref id' lo' k=>mT (look s.row id) fun r=>mT (look s.row id') fun r'=>(lo=0∧lo'=0∧r.ov=[]∧r'.ov=[]∧n=r.xs.length∧k=r'.xs.length∧noOwn r.xs∧noOwn r'.xs)∧(j.size=r.sz∧r'.sz=r.sz∧z.length=r.sz) ∧
   ((n+k) * j.bytes≤140737488355328∧n+k≤9223372036854775807)∧d<s.n∧TwoK (K (St.put {s with row:=sput id ⟨r.sz,r.xs++r'.xs,[]⟩ s.row} d (.v (.one (.ref id 0 (n+k)))))) (K (s.appended none d r.sz (r.xs++r'.xs) []))
 | _,_=>False
theorem app2K_rr (j:TI) (z:List L) (d:Nat) (K:St→Prop) (id lo n id' lo' k:Nat):app2K s j z d K (.ref id lo n) (.ref id' lo' k)=mT (look s.row id) fun r=>mT (look s.row id') fun r'=>(lo=0∧lo'=0∧r.ov=[]∧r'.ov=[]∧n=r.xs.length∧k=r'.xs.length∧noOwn r.xs∧noOwn r'.xs)∧(j.size=r.sz∧r'.sz=r.sz∧z.length=r.sz) ∧
   ((n+k) * j.bytes≤140737488355328∧n+k≤9223372036854775807)∧d<s.n∧TwoK (K (St.put {s with row:=sput id ⟨r.sz,r.xs++r'.xs,[]⟩ s.row} d (.v (.one (.ref id 0 (n+k)))))) (K (s.appended none d r.sz (r.xs++r'.xs) [])):=rfl
theorem app2K_ref {j:TI} {z:List L} {d:Nat} {K:St→Prop}:∀{l1 l2:L},app2K s j z d K l1 l2→∃id lo n id' lo' k,l1=.ref id lo n∧l2=.ref id' lo' k
 | .ref id lo n,.ref id' lo' k,_=>⟨id,lo,n,id',lo',k,rfl,rfl⟩
theorem semApp2 (hT:TabOk P T) {t ty:TypeId} {x y:Operand} {d:Nat} {pos:String} {af:Array Edge} {K:St→Prop}
  (h:mT (elemTI T t) fun j=>mT j.zero fun z=>mT (oneOf (evalO T s t x)) fun l1=>mT (oneOf (evalO T s t y)) fun l2=>app2K s j z d K l1 l2) :
  SemOp P ⟨some d,.call ⟨.builtin .append,#[x,y],#[t,t]⟩,ty,pos,af,Option.none⟩ s K:=by
 intro w0 m0 F0 a w m ω hC
 obtain ⟨j,hj,h⟩:=mO_elim h
 obtain ⟨z,hz,h⟩:=mO_elim h
 obtain ⟨l1,hl1,h⟩:=mO_elim h
 obtain ⟨l2,hl2,h⟩:=mO_elim h
 obtain ⟨i,e,hi,he,hje,hio,hjo⟩:=elemTI_some hT hj
 have hl1:=oneOf_some hl1
 have hl2:=oneOf_some hl2
 obtain ⟨id,lo,n,id',lo',k,rfl,rfl⟩:=app2K_ref h
 obtain ⟨r,hr,h⟩:=mO_elim h
 obtain ⟨r',hr',h⟩:=mO_elim h
 obtain ⟨⟨rfl,rfl,hov,hov',rfl,rfl,hno,hno'⟩,⟨hs1,hs2,hs3⟩,⟨hb1,hb2⟩,hd,hK1,hK2⟩:=h
 have hy:SliceRd m w ω (a.eval y) r.sz r'.xs []:=by
  have hv2:ERep m ω (a.eval y) (.ref id' 0 r'.xs.length):=evalO_sound hC hl2
  have:=sliceRd_ref (ov:=[]) hC hv2 hr' (by omega) hno' (fun i j _=>by rw [hov'];rfl)
  rw [hs2] at this
  simpa using this
 obtain ⟨p,hcap,hpm,hP⟩:=hC.rowPad hr hov
 rcases Nat.lt_or_ge (ω.row id).cap (r.xs.length+r'.xs.length) with hlt|hge
 ·have hM:=moves_appendGrow (o:=⟨some d,.call ⟨.builtin .append,#[x,y],#[t,t]⟩,ty,pos,af,Option.none⟩) rfl rfl hd hio he hjo hz hs1 hs3 hC hl1 hr hov (Nat.le_refl _) (by rw [List.take_length];exact hno) hy hlt hb1 hb2
  rw [List.take_length] at hM
  exact hM.follows hK2
 ·have hlen:(padRow r p).xs.length=r.xs.length+p:=by simp [padRow]
  have hlk:look ({s with row:=sput id (padRow r p) s.row}:St).row id=some (padRow r p):=by show look (sput _ _ _) _=_;rw [look_sput,if_pos rfl]
  have hQ:=hP.rowCut (k:=r.xs.length+p) hlk (fun i j hi=>by
   rw [hlen] at hi
   simp only [padRow,ovGet]
   rw [if_neg (by omega)]) (by rw [hlen];exact Nat.le_refl _)
  rw [List.take_of_length_le (by rw [hlen];exact Nat.le_refl _)] at hQ
  have hsame:∀(c:RowC),sput id c (sput id (padRow r p) s.row)=sput id c s.row:=fun c=>by
   unfold sput
   simp only [Bw.del,if_true]
   congr 1
   induction s.row with
   | nil=>rfl
   | cons q l ih =>
    obtain ⟨q1,q2⟩:=q
    simp only [Bw.del]
    split
    ·exact ih
    ·rename_i hne
     simp only [Bw.del,if_neg hne,ih]
  simp only [hsame] at hQ
  have hlk2:look ({s with row:=sput id ⟨(padRow r p).sz,(padRow r p).xs,[]⟩ s.row}:St).row id=some ⟨(padRow r p).sz,(padRow r p).xs,[]⟩:=by show look (sput _ _ _) _=_;rw [look_sput,if_pos rfl]
  have hl1':evalO T ({s with row:=sput id ⟨(padRow r p).sz,(padRow r p).xs,[]⟩ s.row}:St) t x=some (A.v (V.one (L.ref id 0 r.xs.length))):=by rw [←hl1];cases x<;>rfl
  have hM:=moves_appendIn (s:={s with row:=sput id ⟨(padRow r p).sz,(padRow r p).xs,[]⟩ s.row}) (r:=⟨(padRow r p).sz,(padRow r p).xs,[]⟩) (n:=r.xs.length) (o:=⟨some d,.call ⟨.builtin .append,#[x,y],#[t,t]⟩,ty,pos,af,Option.none⟩) rfl rfl hd hio he hjo hs1 hQ hl1' hlk2 rfl hy (by show r.xs.length+r'.xs.length≤(padRow r p).xs.length;rw [hlen];omega)
  intro next Q hn
  refine hM next Q fun v w' hc=>?_
  obtain ⟨m',ω',hC'⟩:=hc
  refine hn _ _ w' hK1 ⟨m',ω',?_⟩
  have hl3:(((padRow r p).xs.take r.xs.length++r'.xs)++(padRow r p).xs.drop (r.xs.length+r'.xs.length)).take (r.xs.length+r'.xs.length)=r.xs++r'.xs:=by
   have e1:(padRow r p).xs.take r.xs.length=r.xs:=by simp [padRow]
   rw [e1,List.take_left' (by simp)]
  have hZ:=hC'.rowCut (k:=r.xs.length+r'.xs.length) (id:=id) (r:=⟨(padRow r p).sz,(padRow r p).xs.take r.xs.length++r'.xs++(padRow r p).xs.drop (r.xs.length+r'.xs.length),[]⟩) (by show look (sput _ _ _) _=_;rw [look_sput,if_pos rfl]) (fun _ _ _=>rfl) (by simp [padRow])
  simp only [hl3] at hZ
  have hs:∀(c1 c2 c3:RowC),sput id c1 (sput id c2 (sput id c3 s.row))=sput id c1 s.row:=fun c1 c2 c3=>by
   unfold sput
   simp only [Bw.del,if_true]
   congr 1
   induction s.row with
   | nil=>rfl
   | cons q l ih =>
    obtain ⟨q1,q2⟩:=q
    simp only [Bw.del]
    split
    ·exact ih
    ·rename_i hne
     simp only [Bw.del,if_neg hne,ih]
  refine hZ.weaken rfl (fun _ _ h=>h) (fun _ _ h=>h) fun q rq hq=>?_
  have hq:look (sput id ⟨r.sz,r.xs++r'.xs,[]⟩ s.row) q=some rq:=hq
  show look (sput id _ (sput id _ (sput id _ s.row))) q=some rq
  rw [hs]
  exact hq
theorem VCy.app2 (hT:TabOk P T) {ops:Array Oper} {lq ln:List Oper} {x y:Operand} {t ty:TypeId} {d:Nat} {pos:String} {af:Array Edge} {l:List Link} {s:St} {K:St→Prop}
  (h:∀K2:St→Prop,(∀t',VHead P T ops ln t' (fun t''=>Stable P T ops lq t''∧VCy P T ops l t'' K)→K2 t')→mT (elemTI T t) fun j=>mT j.zero fun z=>mT (oneOf (evalO T s t x)) fun l1=>mT (oneOf (evalO T s t y)) fun l2=>app2K s j z d K2 l1 l2) :
  VCy P T ops (⟨⟨Option.some d,.call ⟨.builtin .append,#[x,y],#[t,t]⟩,ty,pos,af,Option.none⟩,ln,lq⟩::l) s K :=
 VCy.sem rfl fun K2 hK=>semApp2 hT (h K2 hK)
theorem AWP.mid {Q:Exit→St→Prop} {c c':Code} (s2:St) (h1:AWP P w0 m0 F0 c (Gq P w0 m0 F0 fun e s'=>e=.normal∧St.le s2 s') s) (h2:AWP P w0 m0 F0 c' Q s2):AWP P w0 m0 F0 c (thenQ (AWP P w0 m0 F0 c' Q) Q) s :=
 fun a w hc=>wp_mono (h1 a w hc) fun e a' w' ⟨s',hq,hC⟩=>by
  obtain ⟨s'',⟨he,hs⟩,hC2⟩:=hq a' w' hC
  subst he
  exact ⟨s2,h2,hC2.le hs⟩
theorem AWP.midB {Q:Exit→St→Prop} {c c':Code} {id:Nat} (s2:St) (h1:AWP P w0 m0 F0 c (Gq P w0 m0 F0 fun e s'=>e=.exit id∧St.le s2 s') s) (h2:AWP P w0 m0 F0 c' Q s2):AWP P w0 m0 F0 c (blockQ id (thenQ (AWP P w0 m0 F0 c' Q) Q)) s :=
 fun a w hc=>wp_mono (h1 a w hc) fun e a' w' ⟨s',hq,hC⟩=>by
  obtain ⟨s'',⟨he,hs⟩,hC2⟩:=hq a' w' hC
  subst he
  refine ⟨s2,?_,hC2.le hs⟩
  show (if id=id then AWP P w0 m0 F0 c' Q s2 else _)
  rw [if_pos rfl]
  exact h2
end
end Go.Bw
namespace Go.Bw
open Go.RowKit
section
variable {P:Program} {T:TypeId→Option TI} {w0:World} {m0:Mem} {F0:Home} {s s':St} {a:Act} {w:World} {m:Mem} {ω:Wh}
def peekXs (xs:List (List L)):List (List L):=xs.map fun x=>x.map L.peek
theorem CRep.peek {F:Nat→Prop} {v:Value} {u:L} (h:CRep m w F v u):CRep m w (fun _=>False) v u.peek:=by
 cases h with
 | fr h =>
  cases u with
  | own=>cases h
  | byt=>cases h
  | _=>exact .fr h
 | ownNil sz=>exact .fr (.any _ rfl)
 | own=>exact .fr (.any _ rfl)
theorem CI.rowMove (h:CI P w0 m0 F0 s a w m ω) {id:Nat} {r:RowC} (hb:look s.row id=some r) (hov:r.ov=[]) {b:Nat} (hblk:(ω.row id).blk=some b)
  {cur:Array Value} {e:TypeId} (hcur:w.heap[b]?=some (.cells cur e (0,0))) {p q k:Nat} (hpq:p≤q) (hfit:q+k≤r.xs.length) {news:List Value} (hnews:news=(cur.toList.drop (q * r.sz)).take (k * r.sz)) (hnl:news.length=k * r.sz) (hn1:∀u∈news,u.oneCell'=true) :
  p * r.sz+news.length≤cur.size∧CI P w0 m0 F0 {s with row:=sput id ⟨r.sz,r.xs.take p++(r.xs.drop q).take k++peekXs (r.xs.drop (p+k)),[]⟩ s.row} a (w.setRow b (cur.toList.take (p * r.sz)++news++cur.toList.drop (p * r.sz+news.length)).toArray) m ω:=by
 obtain ⟨g1,g2,g3⟩:=h.row id r hb
 rw [hblk] at g3
 obtain ⟨cs,e',k1,k2,k3,k4,k5,G,k6,k7,k8⟩:=g3
 have hlive:s.live true id:=by show (look s.row id).isSome;rw [hb];rfl
 rw [hcur] at k1
 injection (Option.some.inj k1) with q1 q2
 subst q1
 have hfit':p * r.sz+news.length≤cur.size:=by rw [hnl,k2,←Nat.add_mul];exact Nat.mul_le_mul_right _ (by omega)
 refine ⟨hfit',?_⟩
 have hget:=fun k=>store_get hfit' k
 have hsize:=store_size hfit'
 generalize (cur.toList.take (p * r.sz)++news++cur.toList.drop (p * r.sz+news.length)).toArray=cs' at hget hsize ⊢
 have hg:=grownBy_setRow w b cs'
 have hpl:(r.xs.take p).length=p:=by simp;omega
 have hkl:((r.xs.drop q).take k).length=k:=by simp;omega
 have hpk:(r.xs.take p++(r.xs.drop q).take k).length=p+k:=by rw [List.length_append,hpl,hkl]
 have hlen:(r.xs.take p++(r.xs.drop q).take k++peekXs (r.xs.drop (p+k))).length=r.xs.length:=by simp [peekXs];omega
 have hxs:∀x∈r.xs.take p++(r.xs.drop q).take k++peekXs (r.xs.drop (p+k)),x.length=r.sz:=by
  intro x hx
  simp only [List.mem_append] at hx
  rcases hx with (hx|hx)|hx
  ·exact g2 x (List.mem_of_mem_take hx)
  ·exact g2 x (List.mem_of_mem_drop (List.mem_of_mem_take hx))
  ·obtain ⟨y,hy,rfl⟩:=List.mem_map.1 hx
   rw [List.length_map]
   exact g2 y (List.mem_of_mem_drop hy)
 have hkeep:∀i j c,G i j c→(w.setRow b cs').heap[c]?=w.heap[c]?:=fun i j c hc=>by
  have hk':=k6 i j c hc
  exact hg.block c (h.fresh true id hlive c hk'.1).1 fun e=>by injection e with e;exact hk'.2 e
 refine h.rowUpd hb hblk hg (setRow_heap w b cur _ e _ hcur) (by rw [hsize];exact k2) g1 hxs (by simp only [hlen];exact k3) ⟨k4.1,fun l hl=>(by cases hl),fun q v hq=>?_⟩
  (fun i j c=>(i<p∧G i j c)∨(p≤i∧i<p+k∧G (q+(i - p)) j c)) (fun i j c hc=>?_) (fun i j i' j' c hc hc'=>?_) fun i j u hu=>?_
 ·rw [hget] at hq
  split at hq
  ·exact hn1 v (List.mem_of_getElem? hq)
  ·exact k4.2.2 q v hq
 ·rcases hc with hc|hc
  ·exact k6 _ _ _ hc.2
  ·exact k6 _ _ _ hc.2.2
 ·rcases hc with hc|hc<;>rcases hc' with hc'|hc'
  ·exact k7 _ _ _ _ _ hc.2 hc'.2
  ·have:=(k7 _ _ _ _ _ hc.2 hc'.2.2).1;omega
  ·have:=(k7 _ _ _ _ _ hc.2.2 hc'.2).1;omega
  ·have:=k7 _ _ _ _ _ hc.2.2 hc'.2.2;exact ⟨by omega,this.2⟩
 ·simp only at hu ⊢
  obtain ⟨hi,hj⟩:=cell_lt hxs hu
  rw [hlen] at hi
  rw [hget]
  have ovn:∀i j,ovGet r.ov i j=Option.none:=fun i j=>by rw [hov];rfl
  have hmul:∀c,i<c→i * r.sz+j<c * r.sz:=fun c hc=>by
   have:(i+1) * r.sz≤c * r.sz:=Nat.mul_le_mul_right _ hc
   rw [Nat.add_mul] at this
   omega
  have hmul2:∀c,c≤i→c * r.sz≤i * r.sz:=fun c hc=>Nat.mul_le_mul_right _ hc
  rcases cellOf_append hu with ⟨h1,h2⟩|⟨h1,h2⟩
  ·rcases cellOf_append h2 with ⟨h3,h4⟩|⟨h3,h4⟩
   ·rw [hpl] at h3
    have h4':cellOf r.xs i j=some u:=by
     unfold cellOf at h4 ⊢
     rwa [List.getElem?_take,if_pos h3] at h4
    obtain ⟨v,h5,h6⟩:=k8 i j u h4'
    rw [ovn] at h6
    have:=hmul p h3
    rw [if_neg (by omega)]
    exact ⟨v,h5,CRep.keep (Mem.le_refl m) (CRep.sub (F':=fun c=>(i<p∧G i j c)∨(p≤i∧i<p+k∧G (q+(i - p)) j c)) h6 fun c hc=>.inl ⟨h3,hc⟩) fun c hc=>by
     rcases hc with hc|hc
     ·exact hkeep _ _ _ hc.2
     ·exact hkeep _ _ _ hc.2.2⟩
   ·rw [hpl] at h3 h4
    rw [hpk] at h1
    have h4':cellOf r.xs (q+(i - p)) j=some u:=by
     unfold cellOf at h4 ⊢
     rwa [List.getElem?_take,if_pos (by omega),List.getElem?_drop] at h4
    obtain ⟨v,h5,h6⟩:=k8 _ j u h4'
    rw [ovn] at h6
    have m1:=hmul2 p h3
    have m2:=hmul (p+k) h1
    rw [Nat.add_mul] at m2
    rw [if_pos ⟨by omega,by omega⟩]
    refine ⟨v,?_,CRep.keep (Mem.le_refl m) (CRep.sub (F':=fun c=>(i<p∧G i j c)∨(p≤i∧i<p+k∧G (q+(i - p)) j c)) h6 fun c hc=>.inr ⟨h3,h1,hc⟩) fun c hc=>by
     rcases hc with hc|hc
     ·exact hkeep _ _ _ hc.2
     ·exact hkeep _ _ _ hc.2.2⟩
    rw [hnews,List.getElem?_take,if_pos (by omega),List.getElem?_drop]
    have e1:q * r.sz+(i * r.sz+j - p * r.sz)=(q+(i - p)) * r.sz+j:=by
     rw [Nat.add_mul,Nat.sub_mul]
     omega
    rw [e1]
    simpa using h5
  ·rw [hpk] at h1 h2
   obtain ⟨u',h4,rfl⟩:=cellOf_map _ L.peek _ _ _ h2
   have h4':cellOf r.xs i j=some u':=by
    unfold cellOf at h4 ⊢
    rwa [List.getElem?_drop,show p+k+(i - (p+k))=i by omega] at h4
   obtain ⟨v,h5,h6⟩:=k8 i j u' h4'
   rw [ovn] at h6
   have m1:=hmul2 (p+k) h1
   rw [Nat.add_mul] at m1
   rw [if_neg (by omega)]
   have h6:CRep m w (G i j) v u':=h6
   exact ⟨v,h5,CRep.sub (CRep.keep (Mem.le_refl m) h6.peek fun c hc=>hc.elim) fun c hc=>hc.elim⟩
theorem moves_appendInO {o:Oper} {t e:TypeId} {i j:TI} {x y:Operand} {ty:TypeId} {d id n q k:Nat} {r:RowC} (ho:o.op=.call {callee:=.builtin .append,args:=#[x,y],argTypes:=#[t,t]})
  (hd:o.dst=some d) (hn:d<s.n) (hT:tiOk P t i=true) (he:i.elem=some e) (hE:tiOk P e j=true) (hsz:j.size=r.sz) (h:CI P w0 m0 F0 s a w m ω)
  (hx:evalO T s ty x=some (.v (.one (.ref id 0 n)))) (hy:evalO T s ty y=some (.v (.one (.ref id q k)))) (hb:look s.row id=some r) (hov:r.ov=[]) (hnq:n≤q) (hfit:q+k≤r.xs.length) :
  Moves P w0 m0 F0 o a w (St.put {s with row:=sput id ⟨r.sz,r.xs.take n++(r.xs.drop q).take k++peekXs (r.xs.drop (n+k)),[]⟩ s.row} d (.v (.one (.ref id 0 (n+k))))):=by
 have hu:=(tiFacts hT).elem e he
 obtain ⟨inf,g1,g5,g6⟩:=(tiFacts hE).info
 rw [hsz] at g5
 obtain ⟨qq,hq⟩:=run_call_builtin (P:=P) (a:=a) (w:=w) ho
 have hv1:RefAt (ω.row id) 0 n (a.eval x):=evalO_sound h hx
 have hv2:RefAt (ω.row id) q k (a.eval y):=evalO_sound h hy
 generalize hax:a.eval x=v1 at *
 generalize hay:a.eval y=v2 at *
 have hrun:(execOp a.eval o).run P w=((Builtin.append_ #[t,t] o.type #[v1,v2]).run P w).andThen fun v w'=>.ok (.value v) w':=by
  rw [hq]
  simp only [List.map_toArray,List.map_cons,List.map_nil,hax,hay,builtin,Sem.run_bind,Sem.run_pure]
 obtain ⟨q1,q2,q3⟩:=h.row id r hb
 rcases hv1 with ⟨k0,_,hn0,hvv⟩|⟨b,ad,k1,k2,hvv,k4⟩
 ·rw [k0] at q3
  rw [q3.1] at hfit
  simp only [List.length_nil] at hfit
  have hk0:k=0:=by omega
  have hq0:q=0:=by omega
  subst hk0 hq0 hn0
  rcases hv2 with ⟨_,_,_,hv2⟩|⟨b,_,e2,_⟩
  ·refine gives_of_run (v:=v1) (w':=w) (by
    rw [hrun,hvv,hv2]
    simp [Builtin.append_,run_underlying hu,sizeOf,typeInfo,g1,Builtin.lenOf,Builtin.firstCells,Result.andThen]) ?_
   rw [hd]
   have hr:(⟨r.sz,r.xs.take 0++(r.xs.drop 0).take 0++peekXs (r.xs.drop (0+0)),[]⟩:RowC)=r:=by
    cases r
    simp only at hov q3
    subst hov
    rw [q3.1]
    rfl
   rw [hr]
   exact ⟨m,ω,(h.rowSame hb).put hn (.inl ⟨k0,rfl,rfl,hvv⟩)⟩
  ·rw [k0] at e2
   cases e2
 ·have had:=k4 (.inr rfl)
  simp only [Nat.zero_mul] at had
  subst had
  subst hvv
  rw [k1] at q3
  obtain ⟨cur,e',p1,p2,p3,p4,p5,_⟩:=q3
  rcases hv2 with ⟨e2,_,_,_⟩|⟨b',ad',e2,l2,hv2,l4⟩
  ·rw [k1] at e2
   cases e2
  rw [k1] at e2
  injection e2 with e2
  subst e2
  subst hv2
  obtain ⟨cs,e'',G,r1,r2,r3,r4,r5,news,r6,r7,r8,r9⟩:=row_flat h hb k1 (lo:=q) (n:=k) hfit
  rw [p1] at r1
  injection (Option.some.inj r1) with r1
  subst r1
  obtain ⟨hf,hC⟩:=h.rowMove hb hov k1 p1 hnq hfit r7 r6 r8
  have hcell:∀(c:Nat) (u:Value),news[c]?=some u→w.cell? (ad'.add c)=some u:=by
   intro c u hcu
   have hc:c<k * r.sz:=by rw [←r6];exact (List.getElem?_eq_some_iff.1 hcu).1
   have hlt:q<(ω.row id).cap:=by
    rcases Nat.eq_zero_or_pos k with h0|h0
    ·rw [h0] at hc;simp at hc
    ·omega
   rw [l4 (.inl hlt),Addr.add_lit,cell_of_row w _ _ cur e' (0,0) p1,q1]
   rw [r7,List.getElem?_take,if_pos hc,List.getElem?_drop] at hcu
   simpa using hcu
  have hr:=run_append_room' (P:=P) (w:=w) t o.type e e' inf hu g1 b n ((ω.row id).cap - 0) cur p1 ad' k ((ω.row id).cap - q) news (by rw [g5];exact r6) hcell r8 (by omega) (by rw [g5];exact hf)
  rw [g5] at hr
  refine gives_of_run (w':=_) (by rw [hrun,hr];rfl) ?_
  rw [hd]
  exact ⟨m,ω,hC.put hn (.inr ⟨b,_,k1,by omega,rfl,fun _=>by simp⟩)⟩
def appOK (s:St) (j:TI) (d:Nat) (K:St→Prop):L→L→Prop
 | .ref id lo n,.ref id' q k=>mT (look s.row id) fun r=>(id=id'∧lo=0∧r.ov=[]∧n≤q∧q+k≤r.xs.length∧j.size=r.sz)∧d<s.n∧K (St.put {s with row:=sput id ⟨r.sz,r.xs.take n++(r.xs.drop q).take k++peekXs (r.xs.drop (n+k)),[]⟩ s.row} d (.v (.one (.ref id 0 (n+k)))))
 | _,_=>False
theorem appOK_rr (j:TI) (d:Nat) (K:St→Prop) (id lo n id' q k:Nat):appOK s j d K (.ref id lo n) (.ref id' q k)=mT (look s.row id) fun r=>(id=id'∧lo=0∧r.ov=[]∧n≤q∧q+k≤r.xs.length∧j.size=r.sz)∧d<s.n∧K (St.put {s with row:=sput id ⟨r.sz,r.xs.take n++(r.xs.drop q).take k++peekXs (r.xs.drop (n+k)),[]⟩ s.row} d (.v (.one (.ref id 0 (n+k))))):=rfl
theorem appOK_ref {j:TI} {d:Nat} {K:St→Prop}:∀{l1 l2:L},appOK s j d K l1 l2→∃id lo n id' q k,l1=.ref id lo n∧l2=.ref id' q k
 | .ref id lo n,.ref id' q k,_=>⟨id,lo,n,id',q,k,rfl,rfl⟩
theorem semAppO (hT:TabOk P T) {t ty:TypeId} {x y:Operand} {d:Nat} {pos:String} {af:Array Edge} {K:St→Prop}
  (h:mT (elemTI T t) fun j=>mT (oneOf (evalO T s t x)) fun l1=>mT (oneOf (evalO T s t y)) fun l2=>appOK s j d K l1 l2) :
  SemOp P ⟨some d,.call ⟨.builtin .append,#[x,y],#[t,t]⟩,ty,pos,af,Option.none⟩ s K:=by
 intro w0 m0 F0 a w m ω hC
 obtain ⟨j,hj,h⟩:=mO_elim h
 obtain ⟨l1,hl1,h⟩:=mO_elim h
 obtain ⟨l2,hl2,h⟩:=mO_elim h
 obtain ⟨i,e,hi,he,hje,hio,hjo⟩:=elemTI_some hT hj
 have hl1:=oneOf_some hl1
 have hl2:=oneOf_some hl2
 obtain ⟨id,lo,n,id',q,k,rfl,rfl⟩:=appOK_ref h
 obtain ⟨r,hr,h⟩:=mO_elim h
 obtain ⟨⟨rfl,rfl,hov,h1,h2,h3⟩,hd,hK⟩:=h
 exact (moves_appendInO (o:=⟨some d,.call ⟨.builtin .append,#[x,y],#[t,t]⟩,ty,pos,af,Option.none⟩) rfl rfl hd hio he hjo h3 hC hl1 hl2 hr hov h1 h2).follows hK
theorem VCy.appO (hT:TabOk P T) {ops:Array Oper} {lq ln:List Oper} {x y:Operand} {t ty:TypeId} {d:Nat} {pos:String} {af:Array Edge} {l:List Link} {s:St} {K:St→Prop}
  (h:∀K2:St→Prop,(∀t',VHead P T ops ln t' (fun t''=>Stable P T ops lq t''∧VCy P T ops l t'' K)→K2 t')→mT (elemTI T t) fun j=>mT (oneOf (evalO T s t x)) fun l1=>mT (oneOf (evalO T s t y)) fun l2=>appOK s j d K2 l1 l2) :
  VCy P T ops (⟨⟨Option.some d,.call ⟨.builtin .append,#[x,y],#[t,t]⟩,ty,pos,af,Option.none⟩,ln,lq⟩::l) s K :=
 VCy.sem rfl fun K2 hK=>semAppO hT (h K2 hK)
end
end Go.Bw
namespace Go.Bw
open Go.RowKit
section
variable {P:Program} {w0:World} {m0:Mem} {F0:Home} {s:St} {a:Act} {w:World} {m:Mem} {ω:Wh}
def ofLen (n:Nat):L:=.sl 0 (List.replicate n [])
theorem ofLen_rep {id lo n:Nat} {v:Value} (h:ERep m ω v (.ref id lo n)):ERep m ω v (ofLen n):=by
 rcases h with ⟨_,_,rfl,rfl⟩|⟨b,ad,_,h2,rfl,_⟩
 ·exact Rep.slNil 0
 ·refine Rep.sl ad n _ 0 _ (fun _ _=>undef) (by simp) (by omega) (fun x hx=>by rw [List.eq_of_mem_replicate hx];rfl) (fun i j u hu=>?_) (fun i j u hu=>?_)
  ·have:=(cell_lt (sz:=0) (fun x hx=>by rw [List.eq_of_mem_replicate hx];rfl) hu).2
   omega
  ·have:=(cell_lt (sz:=0) (fun x hx=>by rw [List.eq_of_mem_replicate hx];rfl) hu).2
   omega
theorem CI.boxLen (h:CI P w0 m0 F0 s a w m ω) {id k i lo n:Nat} {ls:List L} (hb:look s.box id=some ls) (hl:ls[k]?=some (.ref i lo n)):CI P w0 m0 F0 {s with box:=sput id (ls.set k (ofLen n)) s.box} a w m ω:=by
 have live:∀κ q,({s with box:=sput id (ls.set k (ofLen n)) s.box}:St).live κ q→s.live κ q:=by
  intro κ q hq
  cases κ with
  | false =>
   have hq:(look (sput id (ls.set k (ofLen n)) s.box) q).isSome:=hq
   rw [look_sput] at hq
   show (look s.box q).isSome
   split at hq
   ·rename_i e;subst e;rw [hb];rfl
   ·exact hq
  | true=>exact hq
 refine {size:=h.size,defers:=h.defers,keeps:=h.keeps,mle:=h.mle,mold:=h.mold,ok:=h.ok,env:=h.env,box:=fun q ls' hq=>?_,row:=h.row,fresh:=fun κ q hq=>h.fresh κ q (live κ q hq),apart:=fun κ q κ' q' hq hq'=>h.apart κ q κ' q' (live κ q hq) (live κ' q' hq'),home:=⟨h.home.big,fun q b hq hl=>h.home.box q b hq (live false q hl),h.home.row⟩,good:=h.good}
 simp only [look_sput] at hq
 split at hq
 ·rename_i e
  subst e
  injection hq with hq
  subst hq
  obtain ⟨cs,e,g1,g2,g3,G,g4,g5,g6⟩:=h.box _ ls hb
  refine ⟨cs,e,g1,by simpa using g2,g3,G,g4,g5,fun j l hj=>?_⟩
  rw [List.getElem?_set] at hj
  split at hj
  ·rename_i ek
   subst ek
   split at hj
   ·injection hj with hj
    subst hj
    obtain ⟨v,k1,k2⟩:=g6 _ _ hl
    exact ⟨v,k1,ERep.xrep (ofLen_rep k2)⟩
   ·cases hj
  ·exact g6 j l hj
 ·exact h.box q ls' hq
theorem AWP.lenB {Q:Exit→St→Prop} {c:Code} (id k:Nat) {i lo n:Nat} {ls:List L} (hb:look s.box id=some ls) (hl:ls[k]?=some (.ref i lo n)) (h:AWP P w0 m0 F0 c Q {s with box:=sput id (ls.set k (ofLen n)) s.box}):AWP P w0 m0 F0 c Q s:=fun a w ⟨_,_,hC⟩ =>
 h a w ⟨_,_,hC.boxLen hb hl⟩
theorem boxLen_mk (n0:Nat) (e:List (Nat×A)) (b:List (Nat×List L)) (k:List (Nat×RowC)) (id n:Nat) (ls:List L) (q:Nat):({(⟨n0,e,b,k⟩:St) with box:=sput id (ls.set q (ofLen n)) b}:St)=⟨n0,e,(id,ls.set q (ofLen n))::Bw.del id b,k⟩:=rfl
end
end Go.Bw
namespace Go.Bw
theorem D {p:Prop} (h:p:=by first|omega|(simp only [LN];omega)|fail):p:=h
theorem E {p:Prop} (h:p:=by first|with_reducible assumption|omega|(repeat' with_reducible refine And.intro ?_ ?_)<;>(first|with_reducible rfl|with_reducible assumption|omega)|fail):p:=h
theorem Q1 {g n:Prop} (k:n) (h:n→g:=by
 first
  | (with_reducible first|exact qA|exact qB|exact qC|exact qD|exact qE|exact qF|exact qL|exact qM|exact qN|exact qO|exact qQ|exact qX|exact qY|exact qZ)
  | exact qR rfl
  | with_reducible exact And.intro (by first|with_reducible rfl|with_reducible assumption|omega|(simp only [LN];first|done|with_reducible rfl|omega)|(simp only [NM,LN];first|done|with_reducible assumption|omega)|(and_intros<;>first|with_reducible assumption|omega|(simp only [LN];omega))|fail)
  | ((with_reducible refine CondG.isT ?_);first|with_reducible rfl|with_reducible assumption|(simp only [NM,LN];first|done|with_reducible assumption|omega)|fail)
  | ((with_reducible refine CondG.isF ?_);first|with_reducible rfl|with_reducible assumption|(simp only [NM,LN];first|done|with_reducible assumption|omega)|fail)
  | fail):g:=h k
theorem Q2 {g n:Prop} (k:n) (h:n→g:=by
 first
  | ((with_reducible first|refine GOn.isT ?_|refine HOn.isT ?_|refine pickK.isT ?_);first|with_reducible rfl|with_reducible assumption|(simp only [NM,LN];first|done|with_reducible assumption|omega)|fail)
  | ((with_reducible first|refine GOn.isF ?_|refine HOn.isF ?_|refine pickK.isF ?_);first|with_reducible rfl|with_reducible assumption|(simp only [NM,LN];first|done|with_reducible assumption|omega)|fail)
  | fail):g:=h k
theorem SG:(∀{l:List Oper},segx l []=[])∧(∀{l:List Oper} {i:Nat} {q f:List (Nat×Nat)} {r:List (Nat×List (Nat×Nat)×List (Nat×Nat))},segx l ((i,f,q)::r)=(match l[i]? with|some o=>[⟨o,segs l f,segs l q⟩]|none=>[])++segx l r) ∧
  (∀{α:Type} {a:α} {l:List α} {n:Nat},(a::l).drop (n+1)=l.drop n)∧(∀{α:Type} {l:List α},l.drop 0=l)∧(∀{α:Type} {a:α} {l:List α} {n:Nat},(a::l).take (n+1)=a::l.take n)∧(∀{α:Type} {l:List α},l.take 0=[]) ∧
  (∀{α:Type} {a:α} {l:List α},(a::l)[0]?=some a)∧(∀{α:Type} {a:α} {l:List α} {n:Nat},(a::l)[n+1]?=l[n]?)∧(∀{α:Type} {a:α} {l r:List α},(a::l)++r=a::(l++r))∧(∀{α:Type} {l:List α},[]++l=l)∧(∀{α:Type} {l:List α},l++[]=l) :=
 ⟨rfl,rfl,rfl,rfl,rfl,rfl,rfl,rfl,rfl,rfl,List.append_nil _⟩
section
variable {P:Program} {T:TypeId→Option TI} {w0:World} {m0:Mem} {F0:Home} {s:St}
theorem dX (hT:TabOk P T) (hm:P.follows .mixedOrders=true) {Q:Exit→St→Prop} {id:Nat} {l:List Oper} (sq:List (Nat×Nat)) (sx:List (Nat×List (Nat×Nat)×List (Nat×Nat))) (ce:List Nat) (dep:Nat)
  (h:∀K2:St→Prop,(∀s',(∀K:St→Prop,(∀s',Q .normal s'→K s')→VCy P T l.toArray (segx l sx) s' K)→K2 s')→VHead P T l.toArray (segs l sq) s K2) (hord:ce.Pairwise (·<·):=by decide) (hchk:drawOk l.toArray l.toArray.size dep=true:=by kernel_rfl) (hch:linkOk l.toArray ce dep=true:=by kernel_rfl)
  (h1:quiet0 l.toArray ce dep=segs l sq:=by kernel_rfl) (h2:chainLs l.toArray ce dep [] ce=segx l sx:=by kernel_rfl):AWP P w0 m0 F0 (.region id l.toArray true) Q s:=AWP.drawX hT hm sq sx ce dep hord hchk hch h1 h2 h
theorem dY (hT:TabOk P T) (hm:P.follows .mixedOrders=true) {Q:Exit→St→Prop} {id:Nat} {l:List Oper} (sq:List (Nat×Nat)) (pt:PT) (ce:List Nat) (dep:Nat)
  (h:∀K2:St→Prop,(∀s',(∀K:St→Prop,(∀s',Q .normal s'→K s')→VCt P T l.toArray (segt l pt) s' K)→K2 s')→VHead P T l.toArray (segs l sq) s K2) (hce:∀j∈ce,j<l.toArray.size:=by decide) (hchk:drawOk l.toArray l.toArray.size dep=true:=by kernel_rfl) (hch:freeOk l.toArray ce=true:=by kernel_rfl)
  (h1:quiet0 l.toArray ce dep=segs l sq:=by kernel_rfl) (h2:chainTree l.toArray ce dep ce.length []=segt l pt:=by kernel_rfl):AWP P w0 m0 F0 (.region id l.toArray true) Q s:=AWP.drawY hT hm sq pt ce dep hce hchk hch h1 h2 h
theorem sM (hT:TabOk P T) (kb kr:List Nat) {f:FuncId} {fn:Func} {c:Code} {xs:List V} {bx bx':Boxes} {rw rw':Rows} {r:A} (hf:P.funcs[f]?=some fn)
  (h:∀w0 m0 F0,AWP P w0 m0 F0 c (retQ T fn kb kr r bx' rw') {n:=fn.ntmps,env:=envOf 0 xs,box:=bx,row:=rw}) (hb:fn.body=some c:=by exact rfl) (hn:(fn.name=="runtime.NumGoroutine")=false:=by kernel_rfl) (hx:xs.length≤fn.ntmps∧fn.ntmps≤1000:=by exact ⟨Nat.le_of_ble_eq_true rfl,Nat.le_of_ble_eq_true rfl⟩):SatM P f xs bx rw r bx' rw' :=
 satM_of_body hT kb kr hf hb hn hx h
theorem sS (hT:TabOk P T) {f:FuncId} {fn:Func} {c:Code} {xs:List V} {r:A} (hf:P.funcs[f]?=some fn)
  (h:∀w0 m0 F0,AWP P w0 m0 F0 c (retQ T fn [] [] r [] []) {n:=fn.ntmps,env:=envOf 0 xs,box:=[],row:=[]}) (hb:fn.body=some c:=by exact rfl) (hn:(fn.name=="runtime.NumGoroutine")=false:=by kernel_rfl) (hx:xs.length≤fn.ntmps∧fn.ntmps≤1000:=by exact ⟨Nat.le_of_ble_eq_true rfl,Nat.le_of_ble_eq_true rfl⟩):Sat P f xs r :=
 sat_of_body hT hf hb hn hx h
end
end Go.Bw
namespace Go.Bw
open Go.Proofs
def tyTab:List (Nat×TI):=[
 (2,{size:=1,bytes:=8,agg:=false,elem:=none,fields:=none,isStr:=false,zero:=some [.int .i64 0]}),
 (3,{size:=1,bytes:=8,agg:=false,elem:=none,fields:=none,isStr:=false,zero:=some [.int .i64 0]}),
 (4,{size:=1,bytes:=1,agg:=false,elem:=none,fields:=none,isStr:=false,zero:=some [.bool false]}),
 (5,{size:=1,bytes:=1,agg:=false,elem:=none,fields:=none,isStr:=false,zero:=some [.int .u8 0]}),
 (9,{size:=1,bytes:=16,agg:=false,elem:=none,fields:=none,isStr:=true,zero:=some [.str ByteArray.empty]}),
 (12,{size:=1,bytes:=8,agg:=false,elem:=none,fields:=none,isStr:=false,zero:=some [.int .u64 0]}),
 (13,{size:=2,bytes:=24,agg:=true,elem:=none,fields:=some [(0,9),(1,12)],isStr:=false,zero:=some [.str ByteArray.empty,.int .u64 0]}),
 (21,{size:=1,bytes:=4,agg:=false,elem:=none,fields:=none,isStr:=false,zero:=some [.int .i32 0]}),
 (22,{size:=1,bytes:=24,agg:=false,elem:=some 32,fields:=none,isStr:=false,zero:=some [.nil 3]}),
 (23,{size:=1,bytes:=24,agg:=false,elem:=some 36,fields:=none,isStr:=false,zero:=some [.nil 3]}),
 (24,{size:=1,bytes:=24,agg:=false,elem:=some 34,fields:=none,isStr:=false,zero:=some [.nil 7]}),
 (25,{size:=3,bytes:=72,agg:=true,elem:=none,fields:=some [(0,22),(1,23),(2,24)],isStr:=false,zero:=some [.nil 3,.nil 3,.nil 7]}),
 (26,{size:=3,bytes:=72,agg:=true,elem:=none,fields:=some [(0,22),(1,23),(2,24)],isStr:=false,zero:=some [.nil 3,.nil 3,.nil 7]}),
 (27,{size:=1,bytes:=24,agg:=false,elem:=some 3,fields:=none,isStr:=false,zero:=some [.nil 1]}),
 (28,{size:=3,bytes:=32,agg:=true,elem:=none,fields:=some [(0,3),(1,3),(2,9)],isStr:=false,zero:=some [.int .i64 0,.int .i64 0,.str ByteArray.empty]}),
 (29,{size:=3,bytes:=32,agg:=true,elem:=none,fields:=some [(0,3),(1,3),(2,9)],isStr:=false,zero:=some [.int .i64 0,.int .i64 0,.str ByteArray.empty]}),
 (30,{size:=1,bytes:=24,agg:=false,elem:=some 51,fields:=none,isStr:=false,zero:=some [.nil 3]}),
 (31,{size:=3,bytes:=64,agg:=true,elem:=none,fields:=some [(0,9),(1,30),(2,27)],isStr:=false,zero:=some [.str ByteArray.empty,.nil 3,.nil 1]}),
 (32,{size:=3,bytes:=64,agg:=true,elem:=none,fields:=some [(0,9),(1,30),(2,27)],isStr:=false,zero:=some [.str ByteArray.empty,.nil 3,.nil 1]}),
 (33,{size:=7,bytes:=80,agg:=true,elem:=none,fields:=some [(0,9),(1,3),(2,9),(3,3),(4,29)],isStr:=false,zero:=some [.str ByteArray.empty,.int .i64 0,.str ByteArray.empty,.int .i64 0,.int .i64 0,.int .i64 0,.str ByteArray.empty]}),
 (34,{size:=7,bytes:=80,agg:=true,elem:=none,fields:=some [(0,9),(1,3),(2,9),(3,3),(4,29)],isStr:=false,zero:=some [.str ByteArray.empty,.int .i64 0,.str ByteArray.empty,.int .i64 0,.int .i64 0,.int .i64 0,.str ByteArray.empty]}),
 (35,{size:=3,bytes:=56,agg:=true,elem:=none,fields:=some [(0,9),(1,27),(2,9)],isStr:=false,zero:=some [.str ByteArray.empty,.nil 1,.str ByteArray.empty]}),
 (36,{size:=3,bytes:=56,agg:=true,elem:=none,fields:=some [(0,9),(1,27),(2,9)],isStr:=false,zero:=some [.str ByteArray.empty,.nil 1,.str ByteArray.empty]}),
 (37,{size:=24,bytes:=352,agg:=true,elem:=none,fields:=some [(0,3),(1,9),(2,9),(3,9),(4,9),(5,3),(6,27),(7,9),(8,29),(11,32),(14,34),(21,36)],isStr:=false,zero:=some [.int .i64 0,.str ByteArray.empty,.str ByteArray.empty,.str ByteArray.empty,.str ByteArray.empty,.int .i64 0,.nil 1,.str ByteArray.empty,.int .i64 0,.int .i64 0,.str ByteArray.empty,.str ByteArray.empty,.nil 3,.nil 1,.str ByteArray.empty,.int .i64 0,.str ByteArray.empty,.int .i64 0,.int .i64 0,.int .i64 0,.str ByteArray.empty,.str ByteArray.empty,.nil 1,.str ByteArray.empty]}),
 (38,{size:=24,bytes:=352,agg:=true,elem:=none,fields:=some [(0,3),(1,9),(2,9),(3,9),(4,9),(5,3),(6,27),(7,9),(8,29),(11,32),(14,34),(21,36)],isStr:=false,zero:=some [.int .i64 0,.str ByteArray.empty,.str ByteArray.empty,.str ByteArray.empty,.str ByteArray.empty,.int .i64 0,.nil 1,.str ByteArray.empty,.int .i64 0,.int .i64 0,.str ByteArray.empty,.str ByteArray.empty,.nil 3,.nil 1,.str ByteArray.empty,.int .i64 0,.str ByteArray.empty,.int .i64 0,.int .i64 0,.int .i64 0,.str ByteArray.empty,.str ByteArray.empty,.nil 1,.str ByteArray.empty]}),
 (40,{size:=1,bytes:=8,agg:=false,elem:=none,fields:=none,isStr:=false,zero:=some [.int .i64 0]}),
 (50,{size:=3,bytes:=32,agg:=true,elem:=none,fields:=some [(0,9),(1,3),(2,4)],isStr:=false,zero:=some [.str ByteArray.empty,.int .i64 0,.bool false]}),
 (51,{size:=3,bytes:=32,agg:=true,elem:=none,fields:=some [(0,9),(1,3),(2,4)],isStr:=false,zero:=some [.str ByteArray.empty,.int .i64 0,.bool false]}),
 (54,{size:=1,bytes:=24,agg:=false,elem:=some 63,fields:=none,isStr:=false,zero:=some [.nil 2]}),
 (55,{size:=1,bytes:=24,agg:=false,elem:=some 63,fields:=none,isStr:=false,zero:=some [.nil 2]}),
 (59,{size:=1,bytes:=24,agg:=false,elem:=some 9,fields:=none,isStr:=false,zero:=some [.nil 1]}),
 (61,{size:=1,bytes:=24,agg:=false,elem:=some 68,fields:=none,isStr:=false,zero:=some [.nil 1]}),
 (62,{size:=2,bytes:=40,agg:=true,elem:=none,fields:=some [(0,9),(1,61)],isStr:=false,zero:=some [.str ByteArray.empty,.nil 1]}),
 (63,{size:=2,bytes:=40,agg:=true,elem:=none,fields:=some [(0,9),(1,61)],isStr:=false,zero:=some [.str ByteArray.empty,.nil 1]}),
 (67,{size:=1,bytes:=24,agg:=false,elem:=some 29,fields:=none,isStr:=false,zero:=some [.nil 3]}),
 (68,{size:=1,bytes:=24,agg:=false,elem:=some 29,fields:=none,isStr:=false,zero:=some [.nil 3]}),
 (81,{size:=1,bytes:=24,agg:=false,elem:=some 38,fields:=none,isStr:=false,zero:=some [.nil 24]}),
 (82,{size:=1,bytes:=24,agg:=false,elem:=some 38,fields:=none,isStr:=false,zero:=some [.nil 24]}),
 (110,{size:=39,bytes:=680,agg:=true,elem:=none,fields:=some [(0,38),(24,4),(25,26),(28,26),(31,26),(34,55),(35,55),(36,55),(37,55),(38,40)],isStr:=false,zero:=some [.int .i64 0,.str ByteArray.empty,.str ByteArray.empty,.str ByteArray.empty,.str ByteArray.empty,.int .i64 0,.nil 1,.str ByteArray.empty,.int .i64 0,.int .i64 0,.str ByteArray.empty,.str ByteArray.empty,.nil 3,.nil 1,.str ByteArray.empty,.int .i64 0,.str ByteArray.empty,.int .i64 0,.int .i64 0,.int .i64 0,.str ByteArray.empty,.str ByteArray.empty,.nil 1,.str ByteArray.empty,.bool false,.nil 3,.nil 3,.nil 7,.nil 3,.nil 3,.nil 7,.nil 3,.nil 3,.nil 7,.nil 2,.nil 2,.nil 2,.nil 2,.int .i64 0]}),
 (111,{size:=39,bytes:=680,agg:=true,elem:=none,fields:=some [(0,38),(24,4),(25,26),(28,26),(31,26),(34,55),(35,55),(36,55),(37,55),(38,40)],isStr:=false,zero:=some [.int .i64 0,.str ByteArray.empty,.str ByteArray.empty,.str ByteArray.empty,.str ByteArray.empty,.int .i64 0,.nil 1,.str ByteArray.empty,.int .i64 0,.int .i64 0,.str ByteArray.empty,.str ByteArray.empty,.nil 3,.nil 1,.str ByteArray.empty,.int .i64 0,.str ByteArray.empty,.int .i64 0,.int .i64 0,.int .i64 0,.str ByteArray.empty,.str ByteArray.empty,.nil 1,.str ByteArray.empty,.bool false,.nil 3,.nil 3,.nil 7,.nil 3,.nil 3,.nil 7,.nil 3,.nil 3,.nil 7,.nil 2,.nil 2,.nil 2,.nil 2,.int .i64 0]}),
 (114,{size:=1,bytes:=24,agg:=false,elem:=some 5,fields:=none,isStr:=false,zero:=some [.nil 1]}),
 (115,{size:=2,bytes:=32,agg:=true,elem:=none,fields:=some [(0,113),(1,114)],isStr:=false,zero:=some [.nilp,.nil 1]}),
 (116,{size:=2,bytes:=32,agg:=true,elem:=none,fields:=some [(0,113),(1,114)],isStr:=false,zero:=some [.nilp,.nil 1]}),
 (130,{size:=1,bytes:=24,agg:=false,elem:=some 55,fields:=none,isStr:=false,zero:=some [.nil 1]}),
 (135,{size:=1,bytes:=24,agg:=false,elem:=some 26,fields:=none,isStr:=false,zero:=some [.nil 3]}),
 (138,{size:=1,bytes:=24,agg:=false,elem:=some 82,fields:=none,isStr:=false,zero:=some [.nil 1]}),
 (220,{size:=1,bytes:=8,agg:=false,elem:=none,fields:=none,isStr:=false,zero:=some [.int .u64 0]}),
 (243,{size:=1,bytes:=4,agg:=false,elem:=none,fields:=none,isStr:=false,zero:=some [.int .u32 0]}),
 (246,{size:=1,bytes:=8,agg:=false,elem:=none,fields:=none,isStr:=false,zero:=some [.int .u64 0]}),
 (265,{size:=1,bytes:=8,agg:=false,elem:=none,fields:=none,isStr:=false,zero:=some [.int .i64 0]}),
 (275,{size:=3,bytes:=48,agg:=true,elem:=none,fields:=some [(0,9),(1,9),(2,118)],isStr:=false,zero:=none}),
 (276,{size:=3,bytes:=48,agg:=true,elem:=none,fields:=some [(0,9),(1,9),(2,118)],isStr:=false,zero:=none}),
 (282,{size:=1,bytes:=16,agg:=true,elem:=none,fields:=some [(0,9)],isStr:=false,zero:=some [.str ByteArray.empty]}),
 (283,{size:=1,bytes:=16,agg:=true,elem:=none,fields:=some [(0,9)],isStr:=false,zero:=some [.str ByteArray.empty]})]
def TT (t:TypeId):Option TI:=look tyTab t
theorem look_mem {α:Type} {x:α}:∀(e:List (Nat×α)) (i:Nat),look e i=some x→(i,x)∈e
 | [],_,h=>by cases h
 | (t,y)::e,i,h=>by
  simp only [look] at h
  split at h
  ·injection h with h;subst h;subst t;simp
  ·exact List.mem_cons_of_mem _ (look_mem e i h)
theorem tyAll:(tyTab.all fun p=>tiOk Tryz.prog p.1 p.2)=true:=by kernel_rfl
theorem tyOk:TabOk Tryz.prog TT:=fun t i h=>List.all_eq_true.1 tyAll (t,i) (look_mem tyTab t h)
theorem TT_2:TT 2=some {size:=1,bytes:=8,agg:=false,elem:=none,fields:=none,isStr:=false,zero:=some [.int .i64 0]}:=rfl
theorem TT_3:TT 3=some {size:=1,bytes:=8,agg:=false,elem:=none,fields:=none,isStr:=false,zero:=some [.int .i64 0]}:=rfl
theorem TT_4:TT 4=some {size:=1,bytes:=1,agg:=false,elem:=none,fields:=none,isStr:=false,zero:=some [.bool false]}:=rfl
theorem TT_5:TT 5=some {size:=1,bytes:=1,agg:=false,elem:=none,fields:=none,isStr:=false,zero:=some [.int .u8 0]}:=rfl
theorem TT_9:TT 9=some {size:=1,bytes:=16,agg:=false,elem:=none,fields:=none,isStr:=true,zero:=some [.str ByteArray.empty]}:=rfl
theorem TT_12:TT 12=some {size:=1,bytes:=8,agg:=false,elem:=none,fields:=none,isStr:=false,zero:=some [.int .u64 0]}:=rfl
theorem TT_13:TT 13=some {size:=2,bytes:=24,agg:=true,elem:=none,fields:=some [(0,9),(1,12)],isStr:=false,zero:=some [.str ByteArray.empty,.int .u64 0]}:=rfl
theorem TT_21:TT 21=some {size:=1,bytes:=4,agg:=false,elem:=none,fields:=none,isStr:=false,zero:=some [.int .i32 0]}:=rfl
theorem TT_22:TT 22=some {size:=1,bytes:=24,agg:=false,elem:=some 32,fields:=none,isStr:=false,zero:=some [.nil 3]}:=rfl
theorem TT_23:TT 23=some {size:=1,bytes:=24,agg:=false,elem:=some 36,fields:=none,isStr:=false,zero:=some [.nil 3]}:=rfl
theorem TT_24:TT 24=some {size:=1,bytes:=24,agg:=false,elem:=some 34,fields:=none,isStr:=false,zero:=some [.nil 7]}:=rfl
theorem TT_25:TT 25=some {size:=3,bytes:=72,agg:=true,elem:=none,fields:=some [(0,22),(1,23),(2,24)],isStr:=false,zero:=some [.nil 3,.nil 3,.nil 7]}:=rfl
theorem TT_26:TT 26=some {size:=3,bytes:=72,agg:=true,elem:=none,fields:=some [(0,22),(1,23),(2,24)],isStr:=false,zero:=some [.nil 3,.nil 3,.nil 7]}:=rfl
theorem TT_27:TT 27=some {size:=1,bytes:=24,agg:=false,elem:=some 3,fields:=none,isStr:=false,zero:=some [.nil 1]}:=rfl
theorem TT_28:TT 28=some {size:=3,bytes:=32,agg:=true,elem:=none,fields:=some [(0,3),(1,3),(2,9)],isStr:=false,zero:=some [.int .i64 0,.int .i64 0,.str ByteArray.empty]}:=rfl
theorem TT_29:TT 29=some {size:=3,bytes:=32,agg:=true,elem:=none,fields:=some [(0,3),(1,3),(2,9)],isStr:=false,zero:=some [.int .i64 0,.int .i64 0,.str ByteArray.empty]}:=rfl
theorem TT_30:TT 30=some {size:=1,bytes:=24,agg:=false,elem:=some 51,fields:=none,isStr:=false,zero:=some [.nil 3]}:=rfl
theorem TT_31:TT 31=some {size:=3,bytes:=64,agg:=true,elem:=none,fields:=some [(0,9),(1,30),(2,27)],isStr:=false,zero:=some [.str ByteArray.empty,.nil 3,.nil 1]}:=rfl
theorem TT_32:TT 32=some {size:=3,bytes:=64,agg:=true,elem:=none,fields:=some [(0,9),(1,30),(2,27)],isStr:=false,zero:=some [.str ByteArray.empty,.nil 3,.nil 1]}:=rfl
theorem TT_33:TT 33=some {size:=7,bytes:=80,agg:=true,elem:=none,fields:=some [(0,9),(1,3),(2,9),(3,3),(4,29)],isStr:=false,zero:=some [.str ByteArray.empty,.int .i64 0,.str ByteArray.empty,.int .i64 0,.int .i64 0,.int .i64 0,.str ByteArray.empty]}:=rfl
theorem TT_34:TT 34=some {size:=7,bytes:=80,agg:=true,elem:=none,fields:=some [(0,9),(1,3),(2,9),(3,3),(4,29)],isStr:=false,zero:=some [.str ByteArray.empty,.int .i64 0,.str ByteArray.empty,.int .i64 0,.int .i64 0,.int .i64 0,.str ByteArray.empty]}:=rfl
theorem TT_35:TT 35=some {size:=3,bytes:=56,agg:=true,elem:=none,fields:=some [(0,9),(1,27),(2,9)],isStr:=false,zero:=some [.str ByteArray.empty,.nil 1,.str ByteArray.empty]}:=rfl
theorem TT_36:TT 36=some {size:=3,bytes:=56,agg:=true,elem:=none,fields:=some [(0,9),(1,27),(2,9)],isStr:=false,zero:=some [.str ByteArray.empty,.nil 1,.str ByteArray.empty]}:=rfl
theorem TT_37:TT 37=some {size:=24,bytes:=352,agg:=true,elem:=none,fields:=some [(0,3),(1,9),(2,9),(3,9),(4,9),(5,3),(6,27),(7,9),(8,29),(11,32),(14,34),(21,36)],isStr:=false,zero:=some [.int .i64 0,.str ByteArray.empty,.str ByteArray.empty,.str ByteArray.empty,.str ByteArray.empty,.int .i64 0,.nil 1,.str ByteArray.empty,.int .i64 0,.int .i64 0,.str ByteArray.empty,.str ByteArray.empty,.nil 3,.nil 1,.str ByteArray.empty,.int .i64 0,.str ByteArray.empty,.int .i64 0,.int .i64 0,.int .i64 0,.str ByteArray.empty,.str ByteArray.empty,.nil 1,.str ByteArray.empty]}:=rfl
theorem TT_38:TT 38=some {size:=24,bytes:=352,agg:=true,elem:=none,fields:=some [(0,3),(1,9),(2,9),(3,9),(4,9),(5,3),(6,27),(7,9),(8,29),(11,32),(14,34),(21,36)],isStr:=false,zero:=some [.int .i64 0,.str ByteArray.empty,.str ByteArray.empty,.str ByteArray.empty,.str ByteArray.empty,.int .i64 0,.nil 1,.str ByteArray.empty,.int .i64 0,.int .i64 0,.str ByteArray.empty,.str ByteArray.empty,.nil 3,.nil 1,.str ByteArray.empty,.int .i64 0,.str ByteArray.empty,.int .i64 0,.int .i64 0,.int .i64 0,.str ByteArray.empty,.str ByteArray.empty,.nil 1,.str ByteArray.empty]}:=rfl
theorem TT_40:TT 40=some {size:=1,bytes:=8,agg:=false,elem:=none,fields:=none,isStr:=false,zero:=some [.int .i64 0]}:=rfl
theorem TT_50:TT 50=some {size:=3,bytes:=32,agg:=true,elem:=none,fields:=some [(0,9),(1,3),(2,4)],isStr:=false,zero:=some [.str ByteArray.empty,.int .i64 0,.bool false]}:=rfl
theorem TT_51:TT 51=some {size:=3,bytes:=32,agg:=true,elem:=none,fields:=some [(0,9),(1,3),(2,4)],isStr:=false,zero:=some [.str ByteArray.empty,.int .i64 0,.bool false]}:=rfl
theorem TT_54:TT 54=some {size:=1,bytes:=24,agg:=false,elem:=some 63,fields:=none,isStr:=false,zero:=some [.nil 2]}:=rfl
theorem TT_55:TT 55=some {size:=1,bytes:=24,agg:=false,elem:=some 63,fields:=none,isStr:=false,zero:=some [.nil 2]}:=rfl
theorem TT_59:TT 59=some {size:=1,bytes:=24,agg:=false,elem:=some 9,fields:=none,isStr:=false,zero:=some [.nil 1]}:=rfl
theorem TT_61:TT 61=some {size:=1,bytes:=24,agg:=false,elem:=some 68,fields:=none,isStr:=false,zero:=some [.nil 1]}:=rfl
theorem TT_62:TT 62=some {size:=2,bytes:=40,agg:=true,elem:=none,fields:=some [(0,9),(1,61)],isStr:=false,zero:=some [.str ByteArray.empty,.nil 1]}:=rfl
theorem TT_63:TT 63=some {size:=2,bytes:=40,agg:=true,elem:=none,fields:=some [(0,9),(1,61)],isStr:=false,zero:=some [.str ByteArray.empty,.nil 1]}:=rfl
theorem TT_67:TT 67=some {size:=1,bytes:=24,agg:=false,elem:=some 29,fields:=none,isStr:=false,zero:=some [.nil 3]}:=rfl
theorem TT_68:TT 68=some {size:=1,bytes:=24,agg:=false,elem:=some 29,fields:=none,isStr:=false,zero:=some [.nil 3]}:=rfl
theorem TT_81:TT 81=some {size:=1,bytes:=24,agg:=false,elem:=some 38,fields:=none,isStr:=false,zero:=some [.nil 24]}:=rfl
theorem TT_82:TT 82=some {size:=1,bytes:=24,agg:=false,elem:=some 38,fields:=none,isStr:=false,zero:=some [.nil 24]}:=rfl
theorem TT_110:TT 110=some {size:=39,bytes:=680,agg:=true,elem:=none,fields:=some [(0,38),(24,4),(25,26),(28,26),(31,26),(34,55),(35,55),(36,55),(37,55),(38,40)],isStr:=false,zero:=some [.int .i64 0,.str ByteArray.empty,.str ByteArray.empty,.str ByteArray.empty,.str ByteArray.empty,.int .i64 0,.nil 1,.str ByteArray.empty,.int .i64 0,.int .i64 0,.str ByteArray.empty,.str ByteArray.empty,.nil 3,.nil 1,.str ByteArray.empty,.int .i64 0,.str ByteArray.empty,.int .i64 0,.int .i64 0,.int .i64 0,.str ByteArray.empty,.str ByteArray.empty,.nil 1,.str ByteArray.empty,.bool false,.nil 3,.nil 3,.nil 7,.nil 3,.nil 3,.nil 7,.nil 3,.nil 3,.nil 7,.nil 2,.nil 2,.nil 2,.nil 2,.int .i64 0]}:=rfl
theorem TT_111:TT 111=some {size:=39,bytes:=680,agg:=true,elem:=none,fields:=some [(0,38),(24,4),(25,26),(28,26),(31,26),(34,55),(35,55),(36,55),(37,55),(38,40)],isStr:=false,zero:=some [.int .i64 0,.str ByteArray.empty,.str ByteArray.empty,.str ByteArray.empty,.str ByteArray.empty,.int .i64 0,.nil 1,.str ByteArray.empty,.int .i64 0,.int .i64 0,.str ByteArray.empty,.str ByteArray.empty,.nil 3,.nil 1,.str ByteArray.empty,.int .i64 0,.str ByteArray.empty,.int .i64 0,.int .i64 0,.int .i64 0,.str ByteArray.empty,.str ByteArray.empty,.nil 1,.str ByteArray.empty,.bool false,.nil 3,.nil 3,.nil 7,.nil 3,.nil 3,.nil 7,.nil 3,.nil 3,.nil 7,.nil 2,.nil 2,.nil 2,.nil 2,.int .i64 0]}:=rfl
theorem TT_114:TT 114=some {size:=1,bytes:=24,agg:=false,elem:=some 5,fields:=none,isStr:=false,zero:=some [.nil 1]}:=rfl
theorem TT_115:TT 115=some {size:=2,bytes:=32,agg:=true,elem:=none,fields:=some [(0,113),(1,114)],isStr:=false,zero:=some [.nilp,.nil 1]}:=rfl
theorem TT_116:TT 116=some {size:=2,bytes:=32,agg:=true,elem:=none,fields:=some [(0,113),(1,114)],isStr:=false,zero:=some [.nilp,.nil 1]}:=rfl
theorem TT_130:TT 130=some {size:=1,bytes:=24,agg:=false,elem:=some 55,fields:=none,isStr:=false,zero:=some [.nil 1]}:=rfl
theorem TT_135:TT 135=some {size:=1,bytes:=24,agg:=false,elem:=some 26,fields:=none,isStr:=false,zero:=some [.nil 3]}:=rfl
theorem TT_138:TT 138=some {size:=1,bytes:=24,agg:=false,elem:=some 82,fields:=none,isStr:=false,zero:=some [.nil 1]}:=rfl
theorem TT_220:TT 220=some {size:=1,bytes:=8,agg:=false,elem:=none,fields:=none,isStr:=false,zero:=some [.int .u64 0]}:=rfl
theorem TT_243:TT 243=some {size:=1,bytes:=4,agg:=false,elem:=none,fields:=none,isStr:=false,zero:=some [.int .u32 0]}:=rfl
theorem TT_246:TT 246=some {size:=1,bytes:=8,agg:=false,elem:=none,fields:=none,isStr:=false,zero:=some [.int .u64 0]}:=rfl
theorem TT_265:TT 265=some {size:=1,bytes:=8,agg:=false,elem:=none,fields:=none,isStr:=false,zero:=some [.int .i64 0]}:=rfl
theorem TT_275:TT 275=some {size:=3,bytes:=48,agg:=true,elem:=none,fields:=some [(0,9),(1,9),(2,118)],isStr:=false,zero:=none}:=rfl
theorem TT_276:TT 276=some {size:=3,bytes:=48,agg:=true,elem:=none,fields:=some [(0,9),(1,9),(2,118)],isStr:=false,zero:=none}:=rfl
theorem TT_282:TT 282=some {size:=1,bytes:=16,agg:=true,elem:=none,fields:=some [(0,9)],isStr:=false,zero:=some [.str ByteArray.empty]}:=rfl
theorem TT_283:TT 283=some {size:=1,bytes:=16,agg:=true,elem:=none,fields:=some [(0,9)],isStr:=false,zero:=some [.str ByteArray.empty]}:=rfl
theorem eqK_29:eqK Tryz.prog 29=some [0,0,2]:=by kernel_rfl
theorem eqK_34:eqK Tryz.prog 34=some [2,0,2,0,0,0,2]:=by kernel_rfl
theorem eqK_51:eqK Tryz.prog 51=some [2,0,1]:=by kernel_rfl
theorem eqK_283:eqK Tryz.prog 283=some [2]:=by kernel_rfl
theorem convK_2:convK Tryz.prog 2=some .i64:=by kernel_rfl
theorem convK_3:convK Tryz.prog 3=some .i64:=by kernel_rfl
theorem convK_5:convK Tryz.prog 5=some .u8:=by kernel_rfl
theorem convK_12:convK Tryz.prog 12=some .u64:=by kernel_rfl
theorem convK_21:convK Tryz.prog 21=some .i32:=by kernel_rfl
theorem convK_40:convK Tryz.prog 40=some .i64:=by kernel_rfl
theorem convK_220:convK Tryz.prog 220=some .u64:=by kernel_rfl
theorem convK_243:convK Tryz.prog 243=some .u32:=by kernel_rfl
theorem convK_246:convK Tryz.prog 246=some .u64:=by kernel_rfl
theorem convK_265:convK Tryz.prog 265=some .i64:=by kernel_rfl
theorem boolTy_4:boolTy Tryz.prog 4=true:=by kernel_rfl
theorem mixed:Tryz.prog.follows .mixedOrders=true:=by kernel_rfl
structure Val where
 kind:Int
 int:Int
 text:ByteArray
 deriving DecidableEq,Inhabited
abbrev Row:=List Val
structure Col where
 name:ByteArray
 kind:Int
 nullable:Bool
 deriving DecidableEq,Inhabited
structure Tbl where
 name:ByteArray
 cols:List Col
 pk:List Int
 deriving DecidableEq,Inhabited
structure FK where
 table:ByteArray
 cols:List Int
 ref:ByteArray
 deriving DecidableEq,Inhabited
structure Con where
 table:ByteArray
 left:Int
 op:ByteArray
 right:Int
 value:Val
 deriving DecidableEq,Inhabited
structure Sch where
 tables:List Tbl
 fks:List FK
 cons:List Con
 deriving DecidableEq,Inhabited
structure Rel where
 table:ByteArray
 rows:List Row
 deriving DecidableEq,Inhabited
abbrev Inst:=List Rel
structure Chg where
 kind:Int
 table:ByteArray
 key:Row
 row:Row
 deriving DecidableEq,Inhabited
def eVal (v:Val):List L:=[.int .i64 v.kind,.int .i64 v.int,.str v.text]
def eRow (r:Row):L:=.sl 3 (r.map eVal)
def eRow1 (r:Row):List L:=[eRow r]
def eRows (rs:List Row):L:=.sl 1 (rs.map eRow1)
def eInt1 (n:Int):List L:=[.int .i64 n]
def eInts (l:List Int):L:=.sl 1 (l.map eInt1)
def eCol (c:Col):List L:=[.str c.name,.int .i64 c.kind,.bool c.nullable]
def eCols (l:List Col):L:=.sl 3 (l.map eCol)
def eTbl (t:Tbl):List L:=[.str t.name,eCols t.cols,eInts t.pk]
def eTbls (l:List Tbl):L:=.sl 3 (l.map eTbl)
def eFK (f:FK):List L:=[.str f.table,eInts f.cols,.str f.ref]
def eFKs (l:List FK):L:=.sl 3 (l.map eFK)
def eCon (c:Con):List L:=[.str c.table,.int .i64 c.left,.str c.op,.int .i64 c.right,.int .i64 c.value.kind,.int .i64 c.value.int,.str c.value.text]
def eCons (l:List Con):L:=.sl 7 (l.map eCon)
def eSch (s:Sch):List L:=[eTbls s.tables,eFKs s.fks,eCons s.cons]
def eRel (r:Rel):List L:=[.str r.table,eRows r.rows]
def eInst (i:Inst):L:=.sl 2 (i.map eRel)
def eChg (c:Chg):List L:=[.int .i64 c.kind,.str c.table,eRow c.key,eRow c.row]
def eChgs (l:List Chg):L:=.sl 4 (l.map eChg)
theorem frz_map {α:Type} {e:α→List L} (h:∀x,(e x).map (L.frzN 4)=e x) (l:List α):(l.map e).map (fun x=>x.map (L.frzN 4))=l.map e:=by
 rw [List.map_map]
 exact List.map_congr_left fun x _=>h x
theorem frz_eVal (l:List Val):(l.map eVal).map (fun x=>x.map (L.frzN 4))=l.map eVal:=frz_map (fun _=>rfl) l
theorem frz_eRow1 (l:List Row):(l.map eRow1).map (fun x=>x.map (L.frzN 4))=l.map eRow1:=frz_map (fun _=>rfl) l
theorem frz_eInt1 (l:List Int):(l.map eInt1).map (fun x=>x.map (L.frzN 4))=l.map eInt1:=frz_map (fun _=>rfl) l
theorem frz_eCol (l:List Col):(l.map eCol).map (fun x=>x.map (L.frzN 4))=l.map eCol:=frz_map (fun _=>rfl) l
theorem frz_eTbl (l:List Tbl):(l.map eTbl).map (fun x=>x.map (L.frzN 4))=l.map eTbl:=frz_map (fun _=>rfl) l
theorem frz_eFK (l:List FK):(l.map eFK).map (fun x=>x.map (L.frzN 4))=l.map eFK:=frz_map (fun _=>rfl) l
theorem frz_eCon (l:List Con):(l.map eCon).map (fun x=>x.map (L.frzN 4))=l.map eCon:=frz_map (fun _=>rfl) l
theorem frz_eRel (l:List Rel):(l.map eRel).map (fun x=>x.map (L.frzN 4))=l.map eRel:=frz_map (fun _=>rfl) l
theorem frz_eChg (l:List Chg):(l.map eChg).map (fun x=>x.map (L.frzN 4))=l.map eChg:=frz_map (fun _=>rfl) l
theorem noOwn_eVal (l:List Val):noOwn (l.map eVal)=True:=noOwn_map (fun _=>rfl) l
theorem noOwn_eRow1 (l:List Row):noOwn (l.map eRow1)=True:=noOwn_map (fun _=>rfl) l
theorem noOwn_eInt1 (l:List Int):noOwn (l.map eInt1)=True:=noOwn_map (fun _=>rfl) l
theorem noOwn_eCol (l:List Col):noOwn (l.map eCol)=True:=noOwn_map (fun _=>rfl) l
theorem noOwn_eTbl (l:List Tbl):noOwn (l.map eTbl)=True:=noOwn_map (fun _=>rfl) l
theorem noOwn_eFK (l:List FK):noOwn (l.map eFK)=True:=noOwn_map (fun _=>rfl) l
theorem noOwn_eCon (l:List Con):noOwn (l.map eCon)=True:=noOwn_map (fun _=>rfl) l
theorem noOwn_eRel (l:List Rel):noOwn (l.map eRel)=True:=noOwn_map (fun _=>rfl) l
theorem noOwn_eChg (l:List Chg):noOwn (l.map eChg)=True:=noOwn_map (fun _=>rfl) l
abbrev oI (n:Int):V:=.one (.int .i64 n)
abbrev oB (b:Bool):V:=.one (.bool b)
abbrev oS (s:ByteArray):V:=.one (.str s)
theorem EN:(∀(v:Val),eVal v=[.int .i64 v.kind,.int .i64 v.int,.str v.text])∧(∀(r:Row),eRow r=.sl 3 (r.map eVal))∧(∀(r:Row),eRow1 r=[eRow r])∧(∀(rs:List Row),eRows rs=.sl 1 (rs.map eRow1))∧(∀(n:Int),eInt1 n=[.int .i64 n])∧(∀(l:List Int),eInts l=.sl 1 (l.map eInt1))∧(∀(c:Col),eCol c=[.str c.name,.int .i64 c.kind,.bool c.nullable])∧(∀(l:List Col),eCols l=.sl 3 (l.map eCol))∧(∀(t:Tbl),eTbl t=[.str t.name,eCols t.cols,eInts t.pk])∧(∀(l:List Tbl),eTbls l=.sl 3 (l.map eTbl))∧(∀(f:FK),eFK f=[.str f.table,eInts f.cols,.str f.ref])∧(∀(l:List FK),eFKs l=.sl 3 (l.map eFK))∧(∀(c:Con),eCon c=[.str c.table,.int .i64 c.left,.str c.op,.int .i64 c.right,.int .i64 c.value.kind,.int .i64 c.value.int,.str c.value.text])∧(∀(l:List Con),eCons l=.sl 7 (l.map eCon))∧(∀(s:Sch),eSch s=[eTbls s.tables,eFKs s.fks,eCons s.cons])∧(∀(r:Rel),eRel r=[.str r.table,eRows r.rows])∧(∀(i:Inst),eInst i=.sl 2 (i.map eRel))∧(∀(c:Chg),eChg c=[.int .i64 c.kind,.str c.table,eRow c.key,eRow c.row])∧(∀(l:List Chg),eChgs l=.sl 4 (l.map eChg)) :=
 ⟨fun _=>rfl,fun _=>rfl,fun _=>rfl,fun _=>rfl,fun _=>rfl,fun _=>rfl,fun _=>rfl,fun _=>rfl,fun _=>rfl,fun _=>rfl,fun _=>rfl,fun _=>rfl,fun _=>rfl,fun _=>rfl,fun _=>rfl,fun _=>rfl,fun _=>rfl,fun _=>rfl,fun _=>rfl⟩
end Go.Bw
namespace Go.Bw
open Go.RowKit
section
variable {P:Program} {T:TypeId→Option TI} {w0:World} {m0:Mem} {F0:Home} {s s':St} {a:Act} {w:World} {m:Mem} {ω:Wh}
theorem int_eval {x:Operand} {ty:TypeId} {k:IntKind} {n:Int} (h:CI P w0 m0 F0 s a w m ω) (hx:evalO T s ty x=some (.v (.one (.int k n)))):a.eval x=.int k n:=by
 have hv:Rep m (a.eval x) (.int k n):=evalO_sound h hx
 generalize a.eval x=u at hv ⊢
 cases hv
 rfl
end
end Go.Bw
namespace Go.Bw
open Go.RowKit
section
variable {P:Program} {T:TypeId→Option TI} {w0:World} {m0:Mem} {F0:Home} {s s':St} {a a':Act} {w w':World} {m m':Mem} {ω ω':Wh} {b:Nat} {ks:List Int}
def nowHome (F0:Home) (s:St) (ω:Wh):Home:=⟨fun k=>∃κ id,s.live κ id∧ω.f κ id k,F0.box,F0.row⟩
theorem CI.nowOwn (h:CI P w0 m0 F0 s a w m ω):∀k,(nowHome F0 s ω).own k→w0.heap.size≤k∨F0 k:=fun k ⟨κ,id,hl,hf⟩=>(h.fresh κ id hl k hf).2.1
theorem CI.now (h:CI P w0 m0 F0 s a w m ω):CI P w m (nowHome F0 s ω) s a w m ω where
 size:=h.size
 defers:=h.defers
 keeps:=Keeps.refl _ _
 mle:=Mem.le_refl _
 mold:=fun _ _ _=>rfl
 ok:=h.ok
 env:=h.env
 box:=h.box
 row:=h.row
 fresh:=fun κ id hl k hk=>⟨(h.fresh κ id hl k hk).1,.inr ⟨κ,id,hl,hk⟩,(h.fresh κ id hl k hk).2.2⟩
 apart:=h.apart
 home:=⟨h.home.big,h.home.box,h.home.row⟩
 good:=h.goodFor h.nowOwn
theorem CI.back (h:CI P w0 m0 F0 s a w m ω) (h':CI P w m (nowHome F0 s ω) s' a' w' m' ω'):CI P w0 m0 F0 s' a' w' m' ω' where
 size:=h'.size
 defers:=h'.defers
 keeps:=h.keeps.chain h'.keeps h.nowOwn
 mle:=Mem.le_trans h.mle h'.mle
 mold:=fun x hx hn=>(h'.mold x (Nat.lt_of_lt_of_le hx h.keeps.size) fun hf=>(h.nowOwn _ hf).elim (by omega) hn).trans (h.mold x hx hn)
 ok:=h'.ok
 env:=h'.env
 box:=h'.box
 row:=h'.row
 fresh:=fun κ id hl k hk=>⟨(h'.fresh κ id hl k hk).1,(h'.fresh κ id hl k hk).2.1.elim (fun q=>.inl (Nat.le_trans h.keeps.size q)) (h.nowOwn k),(h'.fresh κ id hl k hk).2.2⟩
 apart:=h'.apart
 home:=⟨h'.home.big,h'.home.box,h'.home.row⟩
 good:=h.good
def kvs (ks:List Int):List (Value×Value):=ks.map fun k=>(.int .i64 k,.bool true)
structure MapAt (w0:World) (s:St) (w:World) (m:Mem) (ω:Wh) (b:Nat) (ks:List Int):Prop where
 new:w0.heap.size≤b
 holds:∃es clk,w.heap[b]?=some (.map es clk)∧es.toList.map (fun e=>(e.key,e.val))=kvs ks
 own:∀κ id,s.live κ id→¬ ω.f κ id b
 mem:∀x v,m x=some v→x.block≠b
theorem MapAt.lt (h:MapAt w0 s w m ω b ks):b<w.heap.size:=by
 obtain ⟨_,_,h,_⟩:=h.holds
 exact (Array.getElem?_eq_some_iff.1 h).1
theorem MapAt.back (h:CI P w0 m0 F0 s a w m ω) (hM:MapAt w0 s w m ω b ks) (h':CI P w m (nowHome F0 s ω) s' a' w' m' ω'):MapAt w0 s' w' m' ω' b ks:=by
 have nb:¬ (nowHome F0 s ω).own b:=fun ⟨κ,id,hl,hf⟩=>hM.own κ id hl hf
 have lt:=hM.lt
 refine ⟨hM.new,?_,fun κ id hl hf=>(h'.fresh κ id hl b hf).2.1.elim (by omega) nb,fun x v hx hb=>?_⟩
 ·obtain ⟨es,clk,h1,h2⟩:=hM.holds
  exact ⟨es,clk,(h'.keeps.block b lt nb).trans h1,h2⟩
 ·have e:=h'.mold x (by rw [hb];exact lt) (by rw [hb];exact nb)
  exact hM.mem x v (e▸hx) hb
theorem MapAt.put (h:MapAt w0 s w m ω b ks) (d:Option Tmp) (x:A):MapAt w0 (s.putO d x) w m ω b ks:=by
 cases d<;>exact ⟨h.new,h.holds,h.own,h.mem⟩
def ConcM (P:Program) (w0:World) (m0:Mem) (F0:Home) (b:Nat) (ks:List Int) (s:St) (a:Act) (w:World):Prop:=∃m ω,CI P w0 m0 F0 s a w m ω∧MapAt w0 s w m ω b ks
def PostM (P:Program) (w0:World) (m0:Mem) (F0:Home) (b:Nat) (Q:Exit→List Int→St→Prop) (e:Exit) (a:Act) (w:World):Prop:=∃ks s,Q e ks s∧ConcM P w0 m0 F0 b ks s a w
def AWPm (P:Program) (w0:World) (m0:Mem) (F0:Home) (b:Nat) (c:Code) (Q:Exit→List Int→St→Prop) (ks:List Int) (s:St):Prop :=
 ∀a w,ConcM P w0 m0 F0 b ks s a w→c.wp P (PostM P w0 m0 F0 b Q) a w
theorem ConcM.back (h:CI P w0 m0 F0 s a w m ω) (hM:MapAt w0 s w m ω b ks) (h':Conc P w m (nowHome F0 s ω) s' a' w'):ConcM P w0 m0 F0 b ks s' a' w':=by
 obtain ⟨m',ω',h'⟩:=h'
 exact ⟨m',ω',h.back h',hM.back h h'⟩
section rules
variable {Q:Exit→List Int→St→Prop}
theorem AWPm.of {c:Code} (h:∀w1 m1 F1,AWP P w1 m1 F1 c (fun e s'=>Q e ks s') s):AWPm P w0 m0 F0 b c Q ks s:=by
 intro a w ⟨m,ω,hC,hM⟩
 refine wp_mono (h _ _ _ a w ⟨m,ω,hC.now⟩) fun e a' w' ⟨s',hq,hC'⟩=>⟨ks,s',hq,ConcM.back hC hM hC'⟩
def thenM (R:List Int→St→Prop) (Q:Exit→List Int→St→Prop):Exit→List Int→St→Prop
 | .normal,ks,s=>R ks s
 | e,ks,s=>Q e ks s
def blockM (id:Nat) (Q:Exit→List Int→St→Prop):Exit→List Int→St→Prop
 | .exit id',ks,s=>if id'=id then Q .normal ks s else Q (.exit id') ks s
 | e,ks,s=>Q e ks s
theorem AWPm.seq {x y:Code} (h:AWPm P w0 m0 F0 b x (thenM (AWPm P w0 m0 F0 b y Q) Q) ks s):AWPm P w0 m0 F0 b (.seq x y) Q ks s:=by
 intro a w hc
 refine wp_seq (wp_mono (h a w hc) fun e a' w' he=>?_)
 obtain ⟨ks',s',h1,h2⟩:=he
 cases e with
 | normal=>exact h1 a' w' h2
 | _=>exact ⟨ks',s',h1,h2⟩
theorem AWPm.block {id:Nat} {c:Code} (h:AWPm P w0 m0 F0 b c (blockM id Q) ks s):AWPm P w0 m0 F0 b (.block id c) Q ks s:=by
 intro a w hc
 refine wp_block (wp_mono (h a w hc) fun e a' w' he=>?_)
 obtain ⟨ks',s',h1,h2⟩:=he
 cases e with
 | exit id' =>
  simp only [blockM] at h1
  simp only [Exit.inBlock]
  split at h1
  ·rename_i hid;rw [if_pos hid];exact ⟨ks',s',h1,h2⟩
  ·rename_i hid;rw [if_neg hid];exact ⟨ks',s',h1,h2⟩
 | _=>exact ⟨ks',s',h1,h2⟩
theorem AWPm.skip (h:Q .normal ks s):AWPm P w0 m0 F0 b .skip Q ks s:=fun _ _ hc=>wp_skip ⟨ks,s,h,hc⟩
theorem AWPm.exit {id:Nat} (h:Q (.exit id) ks s):AWPm P w0 m0 F0 b (.exit id) Q ks s:=fun _ _ hc=>wp_exit ⟨ks,s,h,hc⟩
theorem AWPm.cond {c:Operand} {x y:Code} (v:Bool) (hv:boolOf (evalO T s 0 c)=some v) (h1:v=true→AWPm P w0 m0 F0 b x Q ks s) (h2:v=false→AWPm P w0 m0 F0 b y Q ks s):AWPm P w0 m0 F0 b (.cond c x y) Q ks s:=by
 intro a w hc
 obtain ⟨m,ω,h,hM⟩:=hc
 have he:a.eval c=.bool v:=bool_of h (boolOf_some hv)
 exact wp_cond_split he (fun e=>h1 e a w ⟨m,ω,h,hM⟩) (fun e=>h2 e a w ⟨m,ω,h,hM⟩)
theorem ConcM.le (h:ConcM P w0 m0 F0 b ks s a w) (hl:St.le s' s):ConcM P w0 m0 F0 b ks s' a w:=by
 obtain ⟨m,ω,h,hM⟩:=h
 refine ⟨m,ω,h.weaken hl.1 hl.2.1 hl.2.2.1 hl.2.2.2,hM.new,hM.holds,fun κ id hv=>hM.own κ id ?_,hM.mem⟩
 cases κ with
 | false =>
  obtain ⟨x,hx⟩:=Option.isSome_iff_exists.1 hv
  show (look s.box id).isSome
  rw [hl.2.2.1 _ _ hx]
  rfl
 | true =>
  obtain ⟨x,hx⟩:=Option.isSome_iff_exists.1 hv
  show (look s.row id).isSome
  rw [hl.2.2.2 _ _ hx]
  rfl
theorem AWPm.weak {c:Code} (hl:St.le s' s) (h:AWPm P w0 m0 F0 b c Q ks s'):AWPm P w0 m0 F0 b c Q ks s:=fun a w hc=>h a w (hc.le hl)
theorem AWPm.loop {ι:Type} {c:Code} (I:ι→List Int×St) (μ:ι→Nat) (i0:ι) (hk:(I i0).1=ks) (h0:St.le (I i0).2 s)
  (round:∀i,AWPm P w0 m0 F0 b c (thenM (fun ks' s'=>∃j,μ j<μ i∧(I j).1=ks'∧St.le (I j).2 s') Q) (I i).1 (I i).2):AWPm P w0 m0 F0 b (.loop c) Q ks s:=by
 intro a w hc
 have key:∀n i a w,μ i=n→ConcM P w0 m0 F0 b (I i).1 (I i).2 a w→∀(f:Frame) (k:List Item) (cs:List Frame),
   ∃e a' w',PostM P w0 m0 F0 b Q e a' w'∧Arrives P (lone (f.at a (.code c::.inLoop c::k)) cs w) f k cs e a' w':=by
  intro n
  induction n using Nat.strongRecOn with
  | _ n ih =>
   intro i a w hn hC f k cs
   obtain ⟨e,a₁,w₁,⟨ks1,s1,hq,hc1⟩,harr⟩:=round i a w hC f (.inLoop c::k) cs
   cases e with
   | normal =>
    obtain ⟨j,hlt,hks,hle⟩:=hq
    subst hks
    obtain ⟨e₂,a₂,w₂,hq₂,harr₂⟩:=ih (μ j) (hn▸hlt) j a₁ w₁ rfl (hc1.le hle) f k cs
    exact ⟨e₂,a₂,w₂,hq₂,.of_steps (Steps.trans harr (.one step_inLoop)) harr₂⟩
   | exit id=>exact ⟨_,a₁,w₁,⟨ks1,s1,hq,hc1⟩,.pass (x:=.inLoop c) rfl (fun _ _=>.inl (by simp)) harr⟩
   | goto l=>exact ⟨_,a₁,w₁,⟨ks1,s1,hq,hc1⟩,.pass (x:=.inLoop c) rfl (fun _ _=>.inl (by simp)) harr⟩
   | ret=>exact ⟨_,a₁,w₁,⟨ks1,s1,hq,hc1⟩,.pass (x:=.inLoop c) rfl (fun _ _=>.inl (by simp)) harr⟩
   | panic ch=>exact ⟨_,a₁,w₁,⟨ks1,s1,hq,hc1⟩,.pass (x:=.inLoop c) rfl (fun _ _=>.inl (by simp)) harr⟩
   | outgrown=>exact ⟨_,a₁,w₁,⟨ks1,s1,hq,hc1⟩,.pass (x:=.inLoop c) rfl (fun _ _=>.inl (by simp)) harr⟩
 intro f k cs
 obtain ⟨e,a',w',hq,harr⟩:=key _ i0 a w rfl (hk▸hc.le h0) f k cs
 exact ⟨e,a',w',hq,.of_steps (.one step_loop) harr⟩
theorem AWPm.at {c:Code} (e0:Exit) (s2:St) (h1:∀w1 m1 F1,AWP P w1 m1 F1 c (Gq P w1 m1 F1 fun e s'=>e=e0∧St.le s2 s') s) (h2:Q e0 ks s2):AWPm P w0 m0 F0 b c Q ks s:=by
 intro a w ⟨m,ω,hC,hM⟩
 refine wp_mono (h1 _ _ _ a w ⟨m,ω,hC.now⟩) fun e a' w' ⟨s',hq,hC'⟩=>?_
 obtain ⟨s'',⟨he,hs⟩,hC2⟩:=hq a' w' hC'
 subst he
 exact ⟨ks,s2,h2,(ConcM.back hC hM hC2).le hs⟩
end rules
def MapTy (P:Program) (t:TypeId):Prop:=∃kt et inf,P.underlying t=some (.map kt et)∧P.underlying kt=some (.int .i64)∧P.info? et=some inf∧inf.zero=some (.bool false)
theorem isKey_i64 (n:Int):MapKept.IsKey (.int .i64) (.int .i64 n):=by simp [MapKept.IsKey]
theorem kvs_keys {es:List MapEntry} (h:es.map (fun e=>(e.key,e.val))=kvs ks):∀x∈es,(∃n∈ks,x.key=.int .i64 n)∧x.val=.bool true:=by
 intro x hx
 have:(x.key,x.val)∈kvs ks:=h▸List.mem_map.2 ⟨x,hx,rfl⟩
 obtain ⟨n,hn,e⟩:=List.mem_map.1 this
 injection e with e1 e2
 exact ⟨⟨n,hn,e1.symm⟩,e2.symm⟩
theorem kvs_has {es:List MapEntry} (h:es.map (fun e=>(e.key,e.val))=kvs ks) {n:Int} (hn:n∈ks):∃x∈es,x.key=.int .i64 n:=by
 have:((.int .i64 n,.bool true):Value×Value)∈kvs ks:=List.mem_map.2 ⟨n,hn,rfl⟩
 rw [←h] at this
 obtain ⟨x,hx,e⟩:=List.mem_map.1 this
 injection e with e1 e2
 exact ⟨x,hx,e1⟩
theorem kvs_find {es:List MapEntry} (h:es.map (fun e=>(e.key,e.val))=kvs ks) (n:Int) :
  (n ∉ ks∧Instr.findNow (.int .i64) (.int .i64 n) es 0=some none)∨(n∈ks∧∃j e,Instr.findNow (.int .i64) (.int .i64 n) es 0=some (some (j,.bool true))∧es[j]?=some e∧e.key=.int .i64 n∧e.val=.bool true):=by
 have hk:=kvs_keys h
 rcases MapKept.findNow_spec (isKey_i64 n) es 0 (fun x hx=>by obtain ⟨⟨q,_,e⟩,_⟩:=hk x hx;rw [e];exact isKey_i64 q) with ⟨h1,h2⟩|⟨j,e,h1,h2,h3⟩
 ·exact .inl ⟨fun hn=>by obtain ⟨x,hx,e⟩:=kvs_has h hn;exact h2 x hx e,h1⟩
 ·obtain ⟨⟨q,hq,e1⟩,e2⟩:=hk e (List.mem_of_getElem? h2)
  rw [h3] at e1
  injection e1 with _ e1
  subst e1
  exact .inr ⟨hq,j,e,by rw [h1,e2,Nat.zero_add],h2,h3,e2⟩
theorem run_look {t:TypeId} (hT:MapTy P t) {es:Array MapEntry} {clk:Nat} (hb:w.heap[b]?=some (.map es clk)) (he:es.toList.map (fun e=>(e.key,e.val))=kvs ks) (n:Int) :
  (Instr.lookup t (.map (some b)) (.int .i64 n) false).run P w=.ok (.bool (decide (n∈ks))) w:=by
 obtain ⟨kt,et,inf,h1,h2,h3,h4⟩:=hT
 rcases kvs_find he n with ⟨hn,hf⟩|⟨hn,j,e,hf,_,_,_⟩
 ·simp [Instr.lookup,run_underlying h1,MapKept.run_getObj_map hb,MapKept.run_checkKey h2 (isKey_i64 n),MapKept.run_findKey h2 hf,Result.andThen,zeroValue,typeInfo,h3,h4,hn]
 ·simp [Instr.lookup,run_underlying h1,MapKept.run_getObj_map hb,MapKept.run_checkKey h2 (isKey_i64 n),MapKept.run_findKey h2 hf,Result.andThen,hn]
def ins (ks:List Int) (n:Int):List Int:=if n∈ks then ks else ks++[n]
theorem raw_eval {ty:TypeId} {x:Operand} {v:Value} (h:CI P w0 m0 F0 s a w m ω) (hx:evalO T s ty x=some (.v (.one (.raw v)))):a.eval x=v:=by
 have hv:Rep m (a.eval x) (.raw v):=evalO_sound h hx
 generalize a.eval x=u at hv ⊢
 cases hv
 rfl
theorem bool_eval {ty:TypeId} {x:Operand} {v:Bool} (h:CI P w0 m0 F0 s a w m ω) (hx:evalO T s ty x=some (.v (.one (.bool v)))):a.eval x=.bool v:=by
 have hv:Rep m (a.eval x) (.bool v):=evalO_sound h hx
 generalize a.eval x=u at hv ⊢
 cases hv
 rfl
theorem run_upd {t:TypeId} (hT:MapTy P t) {es:Array MapEntry} {clk:Nat} (hb:w.heap[b]?=some (.map es clk)) (he:es.toList.map (fun e=>(e.key,e.val))=kvs ks) (n:Int) :
  ∃es' clk',(Instr.mapUpdate t (.map (some b)) (.int .i64 n) (.bool true)).run P w=.ok () {w with heap:=w.heap.setIfInBounds b (.map es' clk')}∧es'.toList.map (fun e=>(e.key,e.val))=kvs (ins ks n):=by
 obtain ⟨kt,et,inf,h1,h2,h3,h4⟩:=hT
 rcases kvs_find he n with ⟨hn,hf⟩|⟨hn,j,e,hf,hj,hk,hv⟩
 ·refine ⟨es.push ⟨.int .i64 n,.bool true,clk⟩,clk+1,?_,?_⟩
  ·simp [Instr.mapUpdate,run_underlying h1,MapKept.run_getObj_map hb,MapKept.run_checkKey h2 (isKey_i64 n),MapKept.run_findKey h2 hf,MapKept.run_setObj_map _ hb,Result.andThen]
  ·unfold ins
   rw [if_neg hn]
   simp [kvs] at he ⊢
   exact he
 ·have hj':es[j]?=some e:=by simpa using hj
  refine ⟨es.modify j fun e=>{e with key:=.int .i64 n,val:=.bool true},clk,?_,?_⟩
  ·simp [Instr.mapUpdate,run_underlying h1,MapKept.run_getObj_map hb,MapKept.run_checkKey h2 (isKey_i64 n),MapKept.run_findKey h2 hf,hj',hk,MapKept.run_keyThatStays (isKey_i64 n),MapKept.run_setObj_map _ hb,Result.andThen]
  ·unfold ins
   rw [if_pos hn,←he]
   apply List.ext_getElem?
   intro i
   simp only [List.getElem?_map,Array.getElem?_toList,Array.getElem?_modify]
   by_cases hij:j=i
   ·subst hij
    rw [if_pos rfl,hj']
    simp [hk,hv]
   ·rw [if_neg hij]
def IsLook (P:Program) (T:TypeId→Option TI) (b:Nat) (o:Oper) (s:St) (d:Nat) (n:Int):Prop :=
 o.guard=none∧o.dst=some d∧d<s.n∧∃t x y ty,o.op=.lookup t x y false∧MapTy P t∧evalO T s 0 x=some (.v (.one (.raw (.map (some b)))))∧evalO T s ty y=some (.v (.one (.int .i64 n)))
def IsUpd (P:Program) (T:TypeId→Option TI) (b:Nat) (o:Oper) (s:St) (n:Int):Prop :=
 o.guard=none∧o.dst=none∧∃t x y z ty ty',o.op=.mapUpdate t x y z∧MapTy P t∧evalO T s 0 x=some (.v (.one (.raw (.map (some b)))))∧evalO T s ty y=some (.v (.one (.int .i64 n)))∧evalO T s ty' z=some (.v (.one (.bool true)))
def VOpsM (P:Program) (T:TypeId→Option TI) (b:Nat) (ops:Array Oper):List Oper→List Int→St→(List Int→St→Prop)→Prop
 | [],ks,s,K=>K ks s
 | o::l,ks,s,K=>VOps P T ops [o] s (fun s'=>VOpsM P T b ops l ks s' K)∨(∃d n,IsLook P T b o s d n∧VOpsM P T b ops l ks (s.put d (.v (.one (.bool (decide (n∈ks)))))) K)∨∃n,IsUpd P T b o s n∧VOpsM P T b ops l (ins ks n) s K
theorem VOpsM.step {ops:Array Oper} {o:Oper} {l:List Oper} {K:List Int→St→Prop} (h:∀K2:St→Prop,(∀s',VOpsM P T b ops l ks s' K→K2 s')→VOps P T ops [o] s K2):VOpsM P T b ops (o::l) ks s K:=.inl (h _ fun _ h=>h)
theorem VOpsM.look {ops:Array Oper} {l:List Oper} {K:List Int→St→Prop} {t ty ty':TypeId} {x y:Operand} {d:Nat} {pos:String} {af:Array Edge} (n:Int) (hT:MapTy P t) (hx:evalO T s 0 x=some (.v (.one (.raw (.map (some b))))))
  (hy:evalO T s ty' y=some (.v (.one (.int .i64 n)))) (hd:d<s.n) (h:VOpsM P T b ops l ks (s.put d (.v (.one (.bool (decide (n∈ks)))))) K):VOpsM P T b ops (⟨some d,.lookup t x y false,ty,pos,af,Option.none⟩::l) ks s K :=
 .inr (.inl ⟨d,n,⟨rfl,rfl,hd,t,x,y,ty',rfl,hT,hx,hy⟩,h⟩)
theorem VOpsM.upd {ops:Array Oper} {l:List Oper} {K:List Int→St→Prop} {t ty ty1 ty2:TypeId} {x y z:Operand} {pos:String} {af:Array Edge} (n:Int) (hT:MapTy P t) (hx:evalO T s 0 x=some (.v (.one (.raw (.map (some b))))))
  (hy:evalO T s ty1 y=some (.v (.one (.int .i64 n)))) (hz:evalO T s ty2 z=some (.v (.one (.bool true)))) (h:VOpsM P T b ops l (ins ks n) s K):VOpsM P T b ops (⟨Option.none,.mapUpdate t x y z,ty,pos,af,Option.none⟩::l) ks s K :=
 .inr (.inr ⟨n,⟨rfl,rfl,t,x,y,z,ty1,ty2,rfl,hT,hx,hy,hz⟩,h⟩)
theorem VOpsM.fin {ops:Array Oper} {K:List Int→St→Prop} (h:K ks s):VOpsM P T b ops [] ks s K:=h
theorem VOpsM_sound (hT:TabOk P T) {ops:Array Oper} {K:List Int→St→Prop} {Q:Exit→Act→World→Prop} (hQ:∀ks s a w,K ks s→ConcM P w0 m0 F0 b ks s a w→Q .normal a w) :
  ∀(l:List Oper) (k:Nat) (ks:List Int) (s:St) (a:Act) (w:World),ops.toList.drop k=l→VOpsM P T b ops l ks s K→ConcM P w0 m0 F0 b ks s a w→wpOps P ops Q (List.range' k l.length) a w
 | [],k,ks,s,a,w,_,hV,hC=>hQ ks s a w hV hC
 | o::l,k,ks,s,a,w,hl,hV,hC=>by
  have hk:ops[k]?=some o:=by
   have:(ops.toList.drop k)[0]?=some o:=by rw [hl];rfl
   simpa [List.getElem?_drop] using this
  have hl':ops.toList.drop (k+1)=l:=by
   have:(ops.toList.drop k).drop 1=l:=by rw [hl];rfl
   simpa [List.drop_drop] using this
  obtain ⟨m,ω,h,hM⟩:=hC
  simp only [List.length_cons,List.range'_succ,wpOps,hk]
  rcases hV with hV|⟨d,n,⟨hg,hd,hdn,t,x,y,ty,hop,hTy,hx,hy⟩,hV⟩|⟨n,⟨hg,hd,t,x,y,z,ty,ty',hop,hTy,hx,hy,hz⟩,hV⟩
  ·simp only [VOps] at hV
   split at hV
   ·rename_i hg
    rw [if_pos (guardOf_sound h hg)]
    exact .inl (VOp_sound hT hV h.now _ _ fun s' a' w' hK hc=>VOpsM_sound hT hQ l (k+1) ks s' a' w' hl' hK (ConcM.back h hM hc))
   ·rename_i hg
    rw [if_neg (by rw [guardOf_sound h hg];simp)]
    obtain ⟨h1,h2⟩:=pk_elim hV
    exact VOpsM_sound hT hQ l (k+1) ks _ _ w hl' h2 ⟨m,ω,h.putO h1 arep_undef,hM.put _ _⟩
   ·cases hV
  ·have hw:Region.wanted o (yielded ops a.tmps)=true:=by simp [Region.wanted,hg]
   rw [if_pos hw]
   obtain ⟨es,clk,hb,he⟩:=hM.holds
   have hrun:(execOp a.eval o).run P w=.ok (.value (.bool (decide (n∈ks)))) w:=by
    unfold execOp
    simp only [hop,raw_eval h hx,int_eval h hy,Sem.run_bind,run_look hTy hb he n,Result.andThen_ok,Sem.run_pure]
   exact .inl (gives_of_run (R:=fun v w'=>v=.bool (decide (n∈ks))∧w'=w) hrun ⟨rfl,rfl⟩ _ _ fun v w' ⟨hv,hw'⟩=>by
    subst hv hw'
    rw [hd]
    exact VOpsM_sound hT hQ l (k+1) ks _ _ _ hl' hV ⟨m,ω,h.put hdn (Rep.bool _),hM.put (some d) _⟩)
  ·have hw:Region.wanted o (yielded ops a.tmps)=true:=by simp [Region.wanted,hg]
   rw [if_pos hw]
   obtain ⟨es,clk,hb,he⟩:=hM.holds
   obtain ⟨es',clk',hr,he'⟩:=run_upd hTy hb he n
   have lt:=hM.lt
   have hgr:w.grownBy {w with heap:=w.heap.setIfInBounds b (.map es' clk')} (some b) :=
    ⟨rfl,rfl,rfl,by simp,fun k hk hne=>(MapKept.heap_set hb).2 k (fun e=>hne (by rw [e]))⟩
   have hM':∀u:Unit,MapAt w0 s {w with heap:=w.heap.setIfInBounds b (.map es' clk')} m ω b (ins ks n):=fun _=>⟨hM.new,⟨es',clk',(MapKept.heap_set hb).1,he'⟩,hM.own,hM.mem⟩
   have hC':=h.touch hgr (.inl hM.new) hM.own hM.mem
   refine .inl ?_
   unfold Oper.wp
   have hrun:(execOp a.eval o).run P w=.ok .skip {w with heap:=w.heap.setIfInBounds b (.map es' clk')}:=by
    unfold execOp
    simp only [hop,raw_eval h hx,int_eval h hy,bool_eval h hz,Sem.run_bind,hr,Result.andThen_ok,Sem.run_pure]
   rw [hrun,Oper.upon_skip]
   rw [hd]
   exact VOpsM_sound hT hQ l (k+1) _ _ _ _ hl' hV ⟨m,ω,hC',hM' ()⟩
theorem AWPm.region (hT:TabOk P T) {id:Nat} {Q:Exit→List Int→St→Prop} {l:List Oper} (h:∀K:List Int→St→Prop,(∀ks' s',Q .normal ks' s'→K ks' s')→VOpsM P T b l.toArray l ks s K):AWPm P w0 m0 F0 b (.region id l.toArray false) Q ks s:=by
 intro a w hc
 refine wp_region ?_
 have:=VOpsM_sound hT (ops:=l.toArray) (K:=Q .normal) (Q:=PostM P w0 m0 F0 b Q) (fun ks s a w h1 h2=>⟨ks,s,h1,h2⟩) l 0 ks s a w (by simp) (h _ fun _ _ h=>h) hc
 have hlen:l.length=l.toArray.size:=by simp
 rwa [←List.range_eq_range',hlen] at this
end
end Go.Bw
namespace Go.Bw
open Go.RowKit
section
variable {P:Program} {T:TypeId→Option TI} {w0:World} {m0:Mem} {F0:Home} {s:St} {Q:Exit→St→Prop} {c:Code}
def AWPi (P:Program) (w0:World) (m0:Mem) (F0:Home) (c:Code) (Q:Exit→St→Prop) (s:St):Prop :=
 ∀a w,Conc P w0 m0 F0 s a w→∀(b:Frame) (k:List Item) (cs:List Frame),∃e a' w',PostQ P w0 m0 F0 Q e a' w'∧Arrives P (lone (b.at a (.code c::.inLoop c::k)) cs w) b k cs e a' w'
theorem AWPi.round (h:AWP P w0 m0 F0 c (thenQ (AWPi P w0 m0 F0 c Q) Q) s):AWPi P w0 m0 F0 c Q s:=by
 intro a w hc b k cs
 obtain ⟨e,a₁,w₁,⟨s1,hq,hc1⟩,harr⟩:=h a w hc b (.inLoop c::k) cs
 cases e with
 | normal =>
  obtain ⟨e₂,a₂,w₂,hq₂,harr₂⟩:=hq a₁ w₁ hc1 b k cs
  exact ⟨e₂,a₂,w₂,hq₂,.of_steps (Steps.trans harr (.one step_inLoop)) harr₂⟩
 | exit id=>exact ⟨_,a₁,w₁,⟨s1,hq,hc1⟩,.pass (x:=.inLoop c) rfl (fun _ _=>.inl (by simp)) harr⟩
 | goto l=>exact ⟨_,a₁,w₁,⟨s1,hq,hc1⟩,.pass (x:=.inLoop c) rfl (fun _ _=>.inl (by simp)) harr⟩
 | ret=>exact ⟨_,a₁,w₁,⟨s1,hq,hc1⟩,.pass (x:=.inLoop c) rfl (fun _ _=>.inl (by simp)) harr⟩
 | panic ch=>exact ⟨_,a₁,w₁,⟨s1,hq,hc1⟩,.pass (x:=.inLoop c) rfl (fun _ _=>.inl (by simp)) harr⟩
 | outgrown=>exact ⟨_,a₁,w₁,⟨s1,hq,hc1⟩,.pass (x:=.inLoop c) rfl (fun _ _=>.inl (by simp)) harr⟩
theorem AWPi.weak {s':St} (hl:St.le s' s) (h:AWPi P w0 m0 F0 c Q s'):AWPi P w0 m0 F0 c Q s:=fun a w hc=>h a w (hc.le hl)
end
end Go.Bw
namespace Go.Bw
open Go.RowKit
section
variable {P:Program} {T:TypeId→Option TI} {w0:World} {m0:Mem} {F0:Home} {s:St} {a:Act} {w:World} {m:Mem} {ω:Wh} {Q:Exit→St→Prop} {c:Code}
theorem CI.rowAny (h:CI P w0 m0 F0 s a w m ω) {id i j:Nat} {r:RowC} (hr:look s.row id=some r) (hi:i<r.xs.length) :
  CI P w0 m0 F0 {s with row:=sput id ⟨r.sz,setCell r.xs i j .any,ovCut i j r.ov⟩ s.row} a w m ω:=by
 refine h.rowRe hr ?_
 obtain ⟨q1,q2,q3⟩:=h.row id r hr
 refine ⟨q1,setCell_sz q2,?_⟩
 cases hb:(ω.row id).blk with
 | none =>
  rw [hb] at q3
  exfalso
  rw [q3.1] at hi
  simp at hi
 | some b =>
  rw [hb] at q3
  obtain ⟨cs,e,k1,k2,k3,k4,k5,G,k6,k7,k8⟩:=q3
  refine ⟨cs,e,k1,k2,by simpa [setCell_length] using k3,⟨k4.1,fun l hl=>?_,k4.2.2⟩,k5,G,k6,k7,fun i' j' u hu=>?_⟩
  ·simp only [setCell_length] at hl ⊢
   rw [ovGet_cut,if_neg (by omega)] at hl
   exact k4.2.1 l hl
  ·simp only at hu ⊢
   rw [ovGet_cut]
   rcases cellOf_setCell hu with ⟨rfl,rfl,rfl⟩|⟨hn,hu'⟩
   ·rw [if_pos ⟨rfl,rfl⟩]
    have hj:j'<r.sz:=(cell_lt (setCell_sz q2) hu).2
    have hx:r.xs[i'].length=r.sz:=q2 _ (List.getElem_mem hi)
    have hc:cellOf r.xs i' j'=some (r.xs[i'][j']'(by omega)):=by simp [cellOf,hi,hx,hj]
    obtain ⟨v,h1,h2⟩:=k8 i' j' _ hc
    refine ⟨v,h1,.fr (.any _ ?_)⟩
    cases ho:ovGet r.ov i' j' with
    | none=>rw [ho] at h2;exact CRep.oneCell h2
    | some l=>rw [ho] at h2;exact ERep.oneCell h2
   ·rw [if_neg hn]
    exact k8 i' j' u hu'
theorem AWP.rowAny (id i j:Nat) {r:RowC} (hr:look s.row id=some r) (hi:i<r.xs.length) (h:AWP P w0 m0 F0 c Q {s with row:=sput id ⟨r.sz,setCell r.xs i j .any,ovCut i j r.ov⟩ s.row}):AWP P w0 m0 F0 c Q s:=fun a w ⟨_,_,hC⟩ =>
 h a w ⟨_,_,hC.rowAny hr hi⟩
end
end Go.Bw
namespace Go.Bw
open Go.RowKit
section
variable {P:Program} {T:TypeId→Option TI} {s:St}
theorem append_ty {t t' ty e e':TypeId} (ht:P.underlying t=some (.slice e)) (ht':P.underlying t'=some (.slice e')) (args:Array Value) (w:World):(Builtin.append_ #[t,t'] ty args).run P w=(Builtin.append_ #[t,t] ty args).run P w:=by
 unfold Builtin.append_
 simp only [List.getElem?_toArray,List.getElem?_cons_zero,List.getElem?_cons_succ]
 cases h0:args[0]? with
 | none=>rfl
 | some x =>
  cases h1:args[1]? with
  | none=>rfl
  | some y =>
   simp only [Sem.run_bind,run_underlying ht,run_underlying ht',Result.andThen_ok]
   cases x<;>first|rfl|simp only [Sem.run_bind,Sem.run_pure,run_underlying ht,run_underlying ht',Result.andThen_ok]
theorem SemOp.retype (hT:TabOk P T) {ops:Array Oper} {t t' ty e e':TypeId} {x y:Operand} {d:Option Tmp} {pos:String} {af:Array Edge} {K:St→Prop} (ht:P.underlying t=some (.slice e)) (ht':P.underlying t'=some (.slice e'))
  (h:∀K2:St→Prop,(∀s',K s'→K2 s')→VOps P T ops [⟨d,.call ⟨.builtin .append,#[x,y],#[t,t]⟩,ty,pos,af,none⟩] s K2):SemOp P ⟨d,.call ⟨.builtin .append,#[x,y],#[t,t']⟩,ty,pos,af,none⟩ s K:=by
 intro w0 m0 F0 a w m ω hC next Q hn
 have h0:VOp P T ⟨d,.call ⟨.builtin .append,#[x,y],#[t,t]⟩,ty,pos,af,none⟩ s K:=h K fun _ q=>q
 have:=VOp_sound hT h0 hC next Q hn
 unfold Oper.wp at this ⊢
 have e1:(execOp a.eval ⟨d,.call ⟨.builtin .append,#[x,y],#[t,t']⟩,ty,pos,af,none⟩).run P w=(execOp a.eval ⟨d,.call ⟨.builtin .append,#[x,y],#[t,t]⟩,ty,pos,af,none⟩).run P w:=by
  unfold execOp
  simp only [resolve,invoke,Sem.run_bind,Sem.run_pure,Result.andThen_ok,builtin,append_ty ht ht']
 rw [e1]
 exact this
end
end Go.Bw
namespace Go.Bw
open Go.RowKit
section
variable {P:Program} {T:TypeId→Option TI} {w0:World} {m0:Mem} {F0:Home} {s s':St} {a:Act} {w w':World} {m:Mem} {ω:Wh}
theorem ERep.whf {m:Mem} {ω:Wh} (f:Bool→Nat→Nat→Prop) {v:Value} {l:L} (h:ERep m ω v l):ERep m {ω with f:=f} v l:=by
 cases l<;>exact h
theorem VRep.whf {m:Mem} {ω:Wh} (f:Bool→Nat→Nat→Prop) {v:Value} {x:V} (h:VRep m ω v x):VRep m {ω with f:=f} v x:=by
 cases x with
 | one l=>exact ERep.whf f h
 | agg ls=>obtain ⟨cs,h1,h2,h3⟩:=h;exact ⟨cs,h1,h2,fun j l hl=>let ⟨u,h4,h5⟩:=h3 j l hl;⟨u,h4,h5.whf f⟩⟩
theorem ARep.whf {m:Mem} {ω:Wh} (f:Bool→Nat→Nat→Prop) {v:Value} {x:A} (h:ARep m ω v x):ARep m {ω with f:=f} v x:=by
 cases x with
 | v x=>exact VRep.whf f h
 | tup xs=>obtain ⟨vs,h1,h2,h3⟩:=h;exact ⟨vs,h1,h2,fun j x hx=>let ⟨u,h4,h5⟩:=h3 j x hx;⟨u,h4,h5.whf f⟩⟩
theorem XRep.whf {m:Mem} {w:World} {ω:Wh} (f:Bool→Nat→Nat→Prop) {G:Nat→Prop} {v:Value} {l:L} (h:XRep m w ω G v l):XRep m w {ω with f:=f} G v l:=by
 rcases h.cases with ⟨sz,xs,rfl,h⟩|⟨_,h⟩|⟨t,q,rfl,h⟩
 ·exact h
 ·exact (h.whf f).xrep
 ·exact h
theorem RCell.whf {m:Mem} {w:World} {ω:Wh} (f:Bool→Nat→Nat→Prop) {G:Nat→Prop} {v:Value} {u:L} {o:Option L} (h:RCell m w ω G v u o):RCell m w {ω with f:=f} G v u o:=by
 cases o with
 | none=>exact h
 | some l=>exact ERep.whf (ω:=ω) f h
theorem CI.boxGrow (h:CI P w0 m0 F0 s a w m ω) {id:Nat} {ls0 ls:List L} (hb:look s.box id=some ls0)
  (hos:w'.os=w.os) (htp:w'.tape=w.tape) (hout:w'.output=w.output) (hsz:w.heap.size≤w'.heap.size) (hk:∀k,k<w.heap.size→¬ ω.f false id k→w'.heap[k]?=w.heap[k]?)
  {cs:Array Value} {e:TypeId} (hh:w'.heap[ω.box id]?=some (.cells cs e (0,0))) (hs:cs.size=ls.length) (G:Nat→Nat→Prop)
  (hG:∀j k,G j k→(ω.f false id k∨(w.heap.size≤k∧k<w'.heap.size))∧k≠ω.box id) (hD:∀j j' k,G j k→G j' k→j=j')
  (hc:∀(j:Nat) (l:L),ls[j]?=some l→∃v,cs[j]?=some v∧XRep m w' ω (G j) v l) :
  ∃ω',CI P w0 m0 F0 {s with box:=sput id ls s.box} a w' m ω'∧ω'.box=ω.box∧ω'.row=ω.row:=by
 obtain ⟨cs0,e0,g1,g2,g3,_⟩:=h.box id ls0 hb
 have hlive:s.live false id:=by show (look s.box id).isSome;rw [hb];rfl
 have hf:=h.fresh false id hlive
 have hl':∀κ i,({s with box:=sput id ls s.box}:St).live κ i→s.live κ i:=by
  intro κ i hl
  cases κ with
  | true=>exact hl
  | false =>
   simp only [St.live] at hl ⊢
   rw [look_sput] at hl
   split at hl
   ·rename_i e;subst e;rw [hb];rfl
   ·exact hl
 let f':Bool→Nat→Nat→Prop:=fun κ i k=>ω.f κ i k∨(κ=false∧i=id∧w.heap.size≤k∧k<w'.heap.size)
 have hlt:∀κ i,s.live κ i→∀k,ω.f κ i k→k<w.heap.size:=fun κ i hl k hk=>(h.fresh κ i hl k hk).1
 have hf':∀κ i,¬ (κ=false∧i=id)→f' κ i=ω.f κ i:=fun κ i hn=>by
  funext k
  simp only [f',eq_iff_iff]
  exact ⟨fun h=>h.elim (fun h=>h) fun h=>absurd ⟨h.1,h.2.1⟩ hn,fun h=>.inl h⟩
 refine ⟨{ω with f:=f'},?_,rfl,rfl⟩
 refine {size:=h.size,defers:=h.defers,keeps:=⟨hos.trans h.keeps.os,htp.trans h.keeps.tape,hout.trans h.keeps.output,Nat.le_trans h.keeps.size hsz,fun k h1 h2=>?_⟩,mle:=h.mle,mold:=h.mold,ok:=fun x v hx=>?_,env:=fun t x hx=>(h.env t x hx).whf f',box:=?_,row:=?_,fresh:=?_,apart:=?_,home:=⟨h.home.big,fun i b hb' hi=>h.home.box i b hb' (hl' false i hi),h.home.row⟩,good:=h.good}
 ·have hk1:k<w.heap.size:=Nat.lt_of_lt_of_le h1 h.keeps.size
  rw [hk k hk1 fun hw=>by
   rcases (hf k hw).2.1 with h3|h3
   ·omega
   ·exact h2 h3]
  exact h.keeps.block k h1 h2
 ·have hx':=h.ok x v hx
  rw [World.cell?_of_block (hk x.block (World.block_lt_of_cell? w x hx') fun hw=>(hf _ hw).2.2 x v hx rfl)]
  exact hx'
 ·intro i l hi
  simp only at hi
  rw [look_sput] at hi
  split at hi
  ·rename_i e'
   injection hi with hi
   subst hi;subst e'
   exact ⟨cs,e,hh,hs,.inl g3,G,fun j k hj=>⟨(hG j k hj).1.imp (fun q=>q) fun q=>⟨rfl,rfl,q.1,q.2⟩,(hG j k hj).2⟩,hD,fun j l hj=>let ⟨v,h1,h2⟩:=hc j l hj;⟨v,h1,h2.whf f'⟩⟩
  ·rename_i hne
   obtain ⟨cs1,e1,k1,k2,k3,G1,k4,k5,k6⟩:=h.box i l hi
   have hli:s.live false i:=by show (look s.box i).isSome;rw [hi];rfl
   have keep:∀k,ω.f false i k→w'.heap[k]?=w.heap[k]?:=fun k hw=>hk k (hlt _ _ hli k hw) fun hw'=>hne (h.apart _ _ _ _ hli hlive k hw hw').2
   refine ⟨cs1,e1,(keep _ k3).trans k1,k2,.inl k3,G1,fun j k hj=>⟨.inl (k4 j k hj).1,(k4 j k hj).2⟩,k5,fun j u hj=>?_⟩
   obtain ⟨v,q1,q2⟩:=k6 j u hj
   exact ⟨v,q1,(q2.keep (Mem.le_refl m) fun k hw=>keep k (k4 j k hw).1).whf f'⟩
 ·intro i r hi
  have hli:s.live true i:=by show (look s.row i).isSome;rw [hi];rfl
  have keep:∀k,ω.f true i k→w'.heap[k]?=w.heap[k]?:=fun k hw=>hk k (hlt _ _ hli k hw) fun hw'=>by cases (h.apart _ _ _ _ hli hlive k hw hw').1
  obtain ⟨q1,q2,q3⟩:=h.row i r hi
  refine ⟨q1,q2,?_⟩
  revert q3
  show (match (ω.row i).blk with|Option.none=>_|some b=>_)→(match (ω.row i).blk with|Option.none=>_|some b=>_)
  cases hblk:(ω.row i).blk with
  | none=>exact fun q3=>q3
  | some b =>
   intro q3
   obtain ⟨cs1,e1,k1,k2,k3,k4,k5,G1,k6,k7,k8⟩:=q3
   refine ⟨cs1,e1,(keep _ k5).trans k1,k2,k3,k4,.inl k5,G1,fun i' j k hj=>⟨.inl (k6 i' j k hj).1,(k6 i' j k hj).2⟩,k7,fun i' j u hj=>?_⟩
   obtain ⟨v,p1,p2⟩:=k8 i' j u hj
   exact ⟨v,p1,(p2.keep (Mem.le_refl m) fun k hw=>keep k (k6 i' j k hw).1).whf f'⟩
 ·intro κ i hl k hw
  rcases hw with hw|⟨rfl,rfl,h1,h2⟩
  ·obtain ⟨p1,p2,p3⟩:=h.fresh κ i (hl' κ i hl) k hw
   exact ⟨Nat.lt_of_lt_of_le p1 hsz,p2,p3⟩
  ·refine ⟨h2,.inl (Nat.le_trans h.keeps.size h1),fun x v hx e=>?_⟩
   have:=World.block_lt_of_cell? w x (h.ok x v hx)
   omega
 ·intro κ i κ' i' hl hl2 k hw hw'
  have l1:=hl' κ i hl
  have l2:=hl' κ' i' hl2
  rcases hw with hw|⟨rfl,rfl,h1,h2⟩<;>rcases hw' with hw'|⟨rfl,rfl,h3,h4⟩
  ·exact h.apart κ i κ' i' l1 l2 k hw hw'
  ·have:=hlt _ _ l1 k hw;omega
  ·have:=hlt _ _ l2 k hw';omega
  ·exact ⟨rfl,rfl⟩
end
end Go.Bw
namespace Go.Bw
open Go.Proofs
attribute [go_sem ↓] VOps_nil VOps_cons VOp_callJ VVal_callH VOps_guard GOn_tt GOn_ff GOn_tf GOn_ft GOn_not GOn_none HOn_none HOn_tt HOn_ff HOn_tf HOn_ft HOn_not VHead_nil VHead_cons VHead_guard VVal_move VVal_assign VVal_pickE pickK_true pickK_false VVal_not VVal_neg negK_int VVal_load loadK_fz loadK_ptr loadK_eptr VVal_fieldAddr VVal_field VVal_indexAddr idxK_sl idxK_ref VVal_index indexK_str VVal_extract VVal_binOp binK_one binK_agg VVal_build VVal_buildSlice VVal_makeFunc VVal_slice sliceK_str sliceK_sl sliceK_nil sliceK_ref VVal_slice3 VVal_nilCheck VVal_convert convKk_int convKk_str VVal_len VVal_max VVal_min VOp_assign assignK_int assignK_bool assignK_str assignK_clo assignK_sl assignK_nil assignK_ref assignK_agg assignK_fz assignK_ptr assignK_eptr assignK_any VOp_box VOp_alloc VOp_store storeK_ptr storeK_eptr VOp_buildSlice VOp_append appK_rr appK_rs appK_rn appK_ri appK_nr appK_ns appK_nn appK_ni appStd_eq VOp_copy copyK_ref VOp_clear clearK_ref VOp_cap VOp_eqNil VOp_move VOp_pick VOp_not VOp_neg VOp_load VOp_fieldAddr VOp_field VOp_indexAddr VOp_index VOp_extract VOp_binTmp VOp_binInt VOp_binStr VOp_binPtr VOp_build VOp_makeFunc VOp_slice VOp_nilCheck VOp_convert VOp_len VOp_max VOp_min mO_some mT_some pk_some pk_none look_cons del_cons
attribute [go_sem] guardB gOf int_bne beq_true beq_false Bool.not_not gSlot pickK_true pickK_false negK_int loadK_fz loadK_ptr loadK_eptr idxK_sl idxK_ref indexK_str binK_one binK_agg sliceK_str sliceK_sl sliceK_nil sliceK_ref convKk_int convKk_str maxL minL assignK_int assignK_bool assignK_str assignK_clo assignK_sl assignK_nil assignK_ref assignK_agg assignK_fz assignK_ptr assignK_eptr assignK_any nilRow_eq takeRow_eq appended_eq storeK_ptr storeK_eptr store_mk appIn_eq appMk_eq marked_eq ovOut_nil ovOut_cons ovIn_nil ovIn_cons padRow_eq ysC capK_nil capK_ref ioSt_mk outB_nil outR_nil outB outR inB_nil inB_cons inR_nil inR_cons L.kl L.kl0 L.ids L.ids0 Option.getD_some evalO constA mO_some mT_some put_mk putO_some putO_none okD_some okD_none pk_some pk_none look_nil del_nil sput noBox_mk noRow_mk newBox_eq newRow0_eq St.killRow RowC.kill rowMap_mk rowOf ovAll ovAdd ovDel ovGet ovShift dstOf ysOf overlay_nil overlay_nil' overlay A.map V.map L.noPtr L.noPtr0 L.noRow L.noRow0 L.peek L.norm L.flat clos_int clos_bool clos_str clos_sl clos_nil clos_any clos_fz L.clos L.isFz L.kd moveL fieldOff eqCells eqCell eqOp oneOf boolOf intOfA tupOf vOf aggOf isPtrLike isSlice lenKind lenL nL elemTI loadV asV binL intBin intDivL shrL boolBin strBin strAdd ptrNil boundN partCells fillL placesOf setL chunks repL capsOf capL callOf argsOf frzV_int frzV_bool frzV_str frzV_sl frzV_nil frzV_fz frzV_any frzV_own frzV_clo frzV_ref frzV_eptr frzV_ptr frzRow_nil frzRow_ov frzRs_nil frzRs_cons frzCs_nil frzCs_cons frzO_some frzO_none frzN_int frzN_bool frzN_str frzN_sl frzN_nil frzN_any frzN_own List.map_cons List.map_nil List.cons_append List.nil_append List.append_nil List.length_cons List.length_nil List.length_map List.length_append List.headD_cons List.tail_cons List.getElem?_cons_zero List.getElem?_cons_succ List.drop_zero List.drop_succ_cons List.drop_nil List.take_succ_cons List.take_zero List.take_nil List.take_length List.filter_cons List.filter_nil List.elem_cons List.elem_nil List.all_cons List.all_nil Option.bind_some Option.map_some Option.some.injEq bne_self_eq_false beq_self_eq_true if_true if_false Bool.false_eq_true true_and and_true and_self Nat.zero_add Nat.add_zero Nat.zero_le Int.toNat_natCast Int.toNat_zero Option.isSome_some List.getElem?_toArray decide_true decide_false ge_iff_le gt_iff_lt Bool.not_true Bool.not_false Nat.le_refl Bool.and_true Bool.true_and Bool.and_false Bool.false_and eVal eRow eRow1 eRows eInt1 eInts eCol eCols eTbl eTbls eFK eFKs eCon eCons eSch eRel eInst eChg eChgs szOf getD_map_lt wrap_nat wrap_in List.take_of_length_le frz_eVal frz_eRow1 frz_eInt1 frz_eCol frz_eTbl frz_eFK frz_eCon frz_eRel frz_eChg noOwn_nil noOwn_cons noOwn_append L.isOwn noOwn_eVal noOwn_eRow1 noOwn_eInt1 noOwn_eCol noOwn_eTbl noOwn_eFK noOwn_eCon noOwn_eRel noOwn_eChg convK_2 convK_3 convK_5 convK_12 convK_21 convK_40 convK_220 convK_243 convK_246 convK_265 TT_2 TT_3 TT_4 TT_5 TT_9 TT_12 TT_13 TT_21 TT_22 TT_23 TT_24 TT_25 TT_26 TT_27 TT_28 TT_29 TT_30 TT_31 TT_32 TT_33 TT_34 TT_35 TT_36 TT_37 TT_38 TT_40 TT_50 TT_51 TT_54 TT_55 TT_59 TT_61 TT_62 TT_63 TT_67 TT_68 TT_81 TT_82 TT_110 TT_111 TT_114 TT_115 TT_116 TT_130 TT_135 TT_138 TT_220 TT_243 TT_246 TT_265 TT_275 TT_276 TT_282 TT_283 boolTy_4 eqK_29 eqK_34 eqK_51 eqK_283
attribute [congr] VOps.congr VHead.congr VOp.congr VVal.congr pk.congr assignK.congr appK.congr appStd.congr copyK.congr clearK.congr storeK.congr loadK.congr idxK.congr sliceK.congr indexK.congr binK.congr convKk.congr
structure Ex (p:Prop):Prop where
 e:p
structure Gl (p:Prop):Prop where
 g:p
structure Bo (a b:Prop):Prop where
 x:a
 y:b
structure Im (p:Prop) (a:p→Prop):Prop where
 f:∀h:p,a h
theorem Im.i {p:Prop} {a:p→Prop} (h:Im p a):∀h:p,a h:=h.f
theorem Z0:Ex True:=⟨trivial⟩
inductive Nl:Prop|mk
theorem Zb {a b:Prop} (x:a) (y:b):Bo a b:=⟨x,y⟩
theorem Zn:Nl:=.mk
theorem Zm {p:Prop} {a:p→Prop} (h:∀h:p,a h):Im p a:=⟨h⟩
structure Kw (p:Prop):Prop where
 f:p
theorem Zk {p:Prop} (h:p):Kw p:=⟨h⟩
structure Kx (p:Prop):Prop where
 f:p
theorem Zx {p:Prop} (h:p):Kx p:=⟨h⟩
inductive Ch (T1 R1 T2 R2 T3 R3 T4 R4 T5 R5 T6 R6 T7 R7 T8 R8 T9 R9 T10 R10 T11 R11 T12 R12:Prop):Prop|mk
theorem Ch.e1 {T1 R1 T2 R2 T3 R3 T4 R4 T5 R5 T6 R6 T7 R7 T8 R8 T9 R9 T10 R10 T11 R11 T12 R12:Prop} (h:Gl (Bo T1 R1)) (_:Ch T1 R1 T2 R2 T3 R3 T4 R4 T5 R5 T6 R6 T7 R7 T8 R8 T9 R9 T10 R10 T11 R11 T12 R12):T1:=h.g.x
theorem Ch.e2 {T1 R1 T2 R2 T3 R3 T4 R4 T5 R5 T6 R6 T7 R7 T8 R8 T9 R9 T10 R10 T11 R11 T12 R12:Prop} (h:Gl (Bo T1 (Bo T2 R2))) (_:Ch T1 R1 T2 R2 T3 R3 T4 R4 T5 R5 T6 R6 T7 R7 T8 R8 T9 R9 T10 R10 T11 R11 T12 R12):T2:=h.g.y.x
theorem Ch.e3 {T1 R1 T2 R2 T3 R3 T4 R4 T5 R5 T6 R6 T7 R7 T8 R8 T9 R9 T10 R10 T11 R11 T12 R12:Prop} (h:Gl (Bo T1 (Bo T2 (Bo T3 R3)))) (_:Ch T1 R1 T2 R2 T3 R3 T4 R4 T5 R5 T6 R6 T7 R7 T8 R8 T9 R9 T10 R10 T11 R11 T12 R12):T3:=h.g.y.y.x
theorem Ch.e4 {T1 R1 T2 R2 T3 R3 T4 R4 T5 R5 T6 R6 T7 R7 T8 R8 T9 R9 T10 R10 T11 R11 T12 R12:Prop} (h:Gl (Bo T1 (Bo T2 (Bo T3 (Bo T4 R4))))) (_:Ch T1 R1 T2 R2 T3 R3 T4 R4 T5 R5 T6 R6 T7 R7 T8 R8 T9 R9 T10 R10 T11 R11 T12 R12):T4:=h.g.y.y.y.x
theorem Ch.e5 {T1 R1 T2 R2 T3 R3 T4 R4 T5 R5 T6 R6 T7 R7 T8 R8 T9 R9 T10 R10 T11 R11 T12 R12:Prop} (h:Gl (Bo T1 (Bo T2 (Bo T3 (Bo T4 (Bo T5 R5)))))) (_:Ch T1 R1 T2 R2 T3 R3 T4 R4 T5 R5 T6 R6 T7 R7 T8 R8 T9 R9 T10 R10 T11 R11 T12 R12):T5:=h.g.y.y.y.y.x
theorem Ch.e6 {T1 R1 T2 R2 T3 R3 T4 R4 T5 R5 T6 R6 T7 R7 T8 R8 T9 R9 T10 R10 T11 R11 T12 R12:Prop} (h:Gl (Bo T1 (Bo T2 (Bo T3 (Bo T4 (Bo T5 (Bo T6 R6))))))) (_:Ch T1 R1 T2 R2 T3 R3 T4 R4 T5 R5 T6 R6 T7 R7 T8 R8 T9 R9 T10 R10 T11 R11 T12 R12):T6:=h.g.y.y.y.y.y.x
theorem Ch.e7 {T1 R1 T2 R2 T3 R3 T4 R4 T5 R5 T6 R6 T7 R7 T8 R8 T9 R9 T10 R10 T11 R11 T12 R12:Prop} (h:Gl (Bo T1 (Bo T2 (Bo T3 (Bo T4 (Bo T5 (Bo T6 (Bo T7 R7)))))))) (_:Ch T1 R1 T2 R2 T3 R3 T4 R4 T5 R5 T6 R6 T7 R7 T8 R8 T9 R9 T10 R10 T11 R11 T12 R12):T7:=h.g.y.y.y.y.y.y.x
theorem Ch.e8 {T1 R1 T2 R2 T3 R3 T4 R4 T5 R5 T6 R6 T7 R7 T8 R8 T9 R9 T10 R10 T11 R11 T12 R12:Prop} (h:Gl (Bo T1 (Bo T2 (Bo T3 (Bo T4 (Bo T5 (Bo T6 (Bo T7 (Bo T8 R8))))))))) (_:Ch T1 R1 T2 R2 T3 R3 T4 R4 T5 R5 T6 R6 T7 R7 T8 R8 T9 R9 T10 R10 T11 R11 T12 R12):T8:=h.g.y.y.y.y.y.y.y.x
theorem Ch.e9 {T1 R1 T2 R2 T3 R3 T4 R4 T5 R5 T6 R6 T7 R7 T8 R8 T9 R9 T10 R10 T11 R11 T12 R12:Prop} (h:Gl (Bo T1 (Bo T2 (Bo T3 (Bo T4 (Bo T5 (Bo T6 (Bo T7 (Bo T8 (Bo T9 R9)))))))))) (_:Ch T1 R1 T2 R2 T3 R3 T4 R4 T5 R5 T6 R6 T7 R7 T8 R8 T9 R9 T10 R10 T11 R11 T12 R12):T9:=h.g.y.y.y.y.y.y.y.y.x
theorem Ch.e10 {T1 R1 T2 R2 T3 R3 T4 R4 T5 R5 T6 R6 T7 R7 T8 R8 T9 R9 T10 R10 T11 R11 T12 R12:Prop} (h:Gl (Bo T1 (Bo T2 (Bo T3 (Bo T4 (Bo T5 (Bo T6 (Bo T7 (Bo T8 (Bo T9 (Bo T10 R10))))))))))) (_:Ch T1 R1 T2 R2 T3 R3 T4 R4 T5 R5 T6 R6 T7 R7 T8 R8 T9 R9 T10 R10 T11 R11 T12 R12):T10:=h.g.y.y.y.y.y.y.y.y.y.x
theorem Ch.e11 {T1 R1 T2 R2 T3 R3 T4 R4 T5 R5 T6 R6 T7 R7 T8 R8 T9 R9 T10 R10 T11 R11 T12 R12:Prop} (h:Gl (Bo T1 (Bo T2 (Bo T3 (Bo T4 (Bo T5 (Bo T6 (Bo T7 (Bo T8 (Bo T9 (Bo T10 (Bo T11 R11)))))))))))) (_:Ch T1 R1 T2 R2 T3 R3 T4 R4 T5 R5 T6 R6 T7 R7 T8 R8 T9 R9 T10 R10 T11 R11 T12 R12):T11:=h.g.y.y.y.y.y.y.y.y.y.y.x
theorem Ch.e12 {T1 R1 T2 R2 T3 R3 T4 R4 T5 R5 T6 R6 T7 R7 T8 R8 T9 R9 T10 R10 T11 R11 T12 R12:Prop} (h:Gl (Bo T1 (Bo T2 (Bo T3 (Bo T4 (Bo T5 (Bo T6 (Bo T7 (Bo T8 (Bo T9 (Bo T10 (Bo T11 (Bo T12 R12))))))))))))) (_:Ch T1 R1 T2 R2 T3 R3 T4 R4 T5 R5 T6 R6 T7 R7 T8 R8 T9 R9 T10 R10 T11 R11 T12 R12):T12:=h.g.y.y.y.y.y.y.y.y.y.y.y.x
theorem Ch.f0:Ch Nl Nl Nl Nl Nl Nl Nl Nl Nl Nl Nl Nl Nl Nl Nl Nl Nl Nl Nl Nl Nl Nl Nl Nl:=.mk
theorem Ch.f1 {T1:Prop}:Ch T1 Nl Nl Nl Nl Nl Nl Nl Nl Nl Nl Nl Nl Nl Nl Nl Nl Nl Nl Nl Nl Nl Nl Nl:=.mk
theorem Ch.f2 {T1 R1 T2:Prop}:Ch T1 R1 T2 Nl Nl Nl Nl Nl Nl Nl Nl Nl Nl Nl Nl Nl Nl Nl Nl Nl Nl Nl Nl Nl:=.mk
theorem Ch.f3 {T1 R1 T2 R2 T3:Prop}:Ch T1 R1 T2 R2 T3 Nl Nl Nl Nl Nl Nl Nl Nl Nl Nl Nl Nl Nl Nl Nl Nl Nl Nl Nl:=.mk
theorem Ch.f4 {T1 R1 T2 R2 T3 R3 T4:Prop}:Ch T1 R1 T2 R2 T3 R3 T4 Nl Nl Nl Nl Nl Nl Nl Nl Nl Nl Nl Nl Nl Nl Nl Nl Nl:=.mk
theorem Ch.f5 {T1 R1 T2 R2 T3 R3 T4 R4 T5:Prop}:Ch T1 R1 T2 R2 T3 R3 T4 R4 T5 Nl Nl Nl Nl Nl Nl Nl Nl Nl Nl Nl Nl Nl Nl Nl:=.mk
theorem Ch.f6 {T1 R1 T2 R2 T3 R3 T4 R4 T5 R5 T6:Prop}:Ch T1 R1 T2 R2 T3 R3 T4 R4 T5 R5 T6 Nl Nl Nl Nl Nl Nl Nl Nl Nl Nl Nl Nl Nl:=.mk
theorem Ch.f7 {T1 R1 T2 R2 T3 R3 T4 R4 T5 R5 T6 R6 T7:Prop}:Ch T1 R1 T2 R2 T3 R3 T4 R4 T5 R5 T6 R6 T7 Nl Nl Nl Nl Nl Nl Nl Nl Nl Nl Nl:=.mk
theorem Ch.f8 {T1 R1 T2 R2 T3 R3 T4 R4 T5 R5 T6 R6 T7 R7 T8:Prop}:Ch T1 R1 T2 R2 T3 R3 T4 R4 T5 R5 T6 R6 T7 R7 T8 Nl Nl Nl Nl Nl Nl Nl Nl Nl:=.mk
theorem Ch.f9 {T1 R1 T2 R2 T3 R3 T4 R4 T5 R5 T6 R6 T7 R7 T8 R8 T9:Prop}:Ch T1 R1 T2 R2 T3 R3 T4 R4 T5 R5 T6 R6 T7 R7 T8 R8 T9 Nl Nl Nl Nl Nl Nl Nl:=.mk
theorem Ch.f10 {T1 R1 T2 R2 T3 R3 T4 R4 T5 R5 T6 R6 T7 R7 T8 R8 T9 R9 T10:Prop}:Ch T1 R1 T2 R2 T3 R3 T4 R4 T5 R5 T6 R6 T7 R7 T8 R8 T9 R9 T10 Nl Nl Nl Nl Nl:=.mk
theorem Ch.f11 {T1 R1 T2 R2 T3 R3 T4 R4 T5 R5 T6 R6 T7 R7 T8 R8 T9 R9 T10 R10 T11:Prop}:Ch T1 R1 T2 R2 T3 R3 T4 R4 T5 R5 T6 R6 T7 R7 T8 R8 T9 R9 T10 R10 T11 Nl Nl Nl:=.mk
theorem Ch.f12 {T1 R1 T2 R2 T3 R3 T4 R4 T5 R5 T6 R6 T7 R7 T8 R8 T9 R9 T10 R10 T11 R11 T12:Prop}:Ch T1 R1 T2 R2 T3 R3 T4 R4 T5 R5 T6 R6 T7 R7 T8 R8 T9 R9 T10 R10 T11 R11 T12 Nl:=.mk
inductive Sp:Nat→Prop|mk (n:Nat):Sp n
theorem Zs (n:Nat):Sp n:=.mk n
inductive Dx:Nat→List (Nat×Nat)→List (Nat×List (Nat×Nat)×List (Nat×Nat))→List Nat→Nat→Prop|mk (n:Nat) (a:List (Nat×Nat)) (b:List (Nat×List (Nat×Nat)×List (Nat×Nat))) (c:List Nat) (d:Nat):Dx n a b c d
theorem Zd (n:Nat) (a:List (Nat×Nat)) (b:List (Nat×List (Nat×Nat)×List (Nat×Nat))) (c:List Nat) (d:Nat):Dx n a b c d:=.mk n a b c d
inductive Iq:Ids→Ids→Ids→Ids→List Nat→List Nat→List Nat→List Nat→Prop→Prop|mk (a b c d:Ids) (e f g h:List Nat) {p:Prop} (q:p):Iq a b c d e f g h p
theorem Zi (a b c d:Ids) (e f g h:List Nat) {p:Prop} (q:p):Iq a b c d e f g h p:=.mk a b c d e f g h q
theorem Iq.c {a b c d:Ids} {e f g h:List Nat} {p:Prop} (q:Iq a b c d e f g h p):p:=by cases q;assumption
theorem Z1 {a:Prop} (a1:a):Ex (a∧True):=⟨a1,trivial⟩
theorem Z2 {a b:Prop} (a1:a) (b1:b):Ex (a∧b∧True):=⟨a1,b1,trivial⟩
theorem Z3 {a b c:Prop} (a1:a) (b1:b) (c1:c):Ex (a∧b∧c∧True):=⟨a1,b1,c1,trivial⟩
theorem Z4 {a b c d:Prop} (a1:a) (b1:b) (c1:c) (d1:d):Ex (a∧b∧c∧d∧True):=⟨a1,b1,c1,d1,trivial⟩
theorem Z5 {a b c d e:Prop} (a1:a) (b1:b) (c1:c) (d1:d) (e1:e):Ex (a∧b∧c∧d∧e∧True):=⟨a1,b1,c1,d1,e1,trivial⟩
theorem Z6 {a b c d e f:Prop} (a1:a) (b1:b) (c1:c) (d1:d) (e1:e) (f1:f):Ex (a∧b∧c∧d∧e∧f∧True):=⟨a1,b1,c1,d1,e1,f1,trivial⟩
theorem Z7 {a b c d e f g:Prop} (a1:a) (b1:b) (c1:c) (d1:d) (e1:e) (f1:f) (g1:g):Ex (a∧b∧c∧d∧e∧f∧g∧True):=⟨a1,b1,c1,d1,e1,f1,g1,trivial⟩
theorem Z8 {a b c d e f g h:Prop} (a1:a) (b1:b) (c1:c) (d1:d) (e1:e) (f1:f) (g1:g) (h1:h):Ex (a∧b∧c∧d∧e∧f∧g∧h∧True):=⟨a1,b1,c1,d1,e1,f1,g1,h1,trivial⟩
theorem Z9 {a b c d e f g h i:Prop} (a1:a) (b1:b) (c1:c) (d1:d) (e1:e) (f1:f) (g1:g) (h1:h) (i1:i):Ex (a∧b∧c∧d∧e∧f∧g∧h∧i∧True):=⟨a1,b1,c1,d1,e1,f1,g1,h1,i1,trivial⟩
theorem Z10 {a b c d e f g h i j:Prop} (a1:a) (b1:b) (c1:c) (d1:d) (e1:e) (f1:f) (g1:g) (h1:h) (i1:i) (j1:j):Ex (a∧b∧c∧d∧e∧f∧g∧h∧i∧j∧True):=⟨a1,b1,c1,d1,e1,f1,g1,h1,i1,j1,trivial⟩
theorem Z11 {a b c d e f g h i j k:Prop} (a1:a) (b1:b) (c1:c) (d1:d) (e1:e) (f1:f) (g1:g) (h1:h) (i1:i) (j1:j) (k1:k):Ex (a∧b∧c∧d∧e∧f∧g∧h∧i∧j∧k∧True):=⟨a1,b1,c1,d1,e1,f1,g1,h1,i1,j1,k1,trivial⟩
theorem Z12 {a b c d e f g h i j k l:Prop} (a1:a) (b1:b) (c1:c) (d1:d) (e1:e) (f1:f) (g1:g) (h1:h) (i1:i) (j1:j) (k1:k) (l1:l):Ex (a∧b∧c∧d∧e∧f∧g∧h∧i∧j∧k∧l∧True):=⟨a1,b1,c1,d1,e1,f1,g1,h1,i1,j1,k1,l1,trivial⟩
section
variable {P:Program} {T:TypeId→Option TI} {w0:World} {m0:Mem} {F0:Home} {s:St}
theorem rS {n:Nat} (_:Sp n) {ops:Array Oper} {d:Bool} {Q:Exit→St→Prop} (h:AWP P w0 m0 F0 (.region n ops d) Q s):AWP P w0 m0 F0 (.region n ops d) Q s:=h
theorem dG {id dep:Nat} {sq:List (Nat×Nat)} {sx:List (Nat×List (Nat×Nat)×List (Nat×Nat))} {ce:List Nat} (_:Dx id sq sx ce dep) (hT:TabOk P T) (hm:P.follows .mixedOrders=true) {Q:Exit→St→Prop} {l:List Oper}
  (h:∀K2:St→Prop,(∀s',(∀K:St→Prop,(∀s',Q .normal s'→K s')→VCy P T l.toArray (segx l sx) s' K)→K2 s')→VHead P T l.toArray (segs l sq) s K2) (hord:ce.Pairwise (·<·):=by decide) (hchk:drawOk l.toArray l.toArray.size dep=true:=by kernel_rfl) (hch:linkOk l.toArray ce dep=true:=by kernel_rfl)
  (h1:quiet0 l.toArray ce dep=segs l sq:=by kernel_rfl) (h2:chainLs l.toArray ce dep [] ce=segx l sx:=by kernel_rfl):AWP P w0 m0 F0 (.region id l.toArray true) Q s:=AWP.drawX hT hm sq sx ce dep hord hchk hch h1 h2 h
theorem iG {ops:Array Oper} {d:Option Tmp} {l:List Oper} {K:St→Prop} {f:FuncId} {xs ys:List V} {bx bx':Boxes} {rw rw':Rows} {r:A} {σb σr τb τr:Ids} {kb kr ib ir:List Nat}
  (q:Iq σb σr τb τr kb kr ib ir (SatM P f ys bx rw r bx' rw')) (gs:(goodIds σb&&goodIds σr&&goodIds τb&&goodIds τr&&okIn σb bx&&okIn σr rw&&okOut s.n σb τb bx'&&okOut s.n σr τr rw'&&ys.all (okV σb σr))=true)
  (hd:deadOf σb τb=kb∧deadOf σr τr=kr∧idsOf σb τb=ib∧idsOf σr τr=ir) (hx:ys.map (V.map (L.ids σb σr))=xs) (hin:inB s σb σr bx∧inR s σr rw)
  (hk:s.okD d∧VOps P T ops l ((ioSt s kb kr ib ir (outB τb τr bx') (outR τb τr rw')).putO d (r.map (L.ids τb τr))) K):CallJ P T ops d l s K (f,xs):=CallJ.io σb σr τb τr kb kr ib ir q.c gs hd hx hin hk
end
theorem ZE {f:FuncId} {fn:Func} {c:Code} {xs:List V} {r:A} {N:Nat} {B:Prop} (hf:Tryz.prog.funcs[f]?=some fn) (e:fn.ntmps=N) (h:B) (hb:fn.body=some c:=by exact rfl) (hn:(fn.name=="runtime.NumGoroutine")=false:=by kernel_rfl) (hx:xs.length≤fn.ntmps∧fn.ntmps≤1000:=by exact ⟨Nat.le_of_ble_eq_true rfl,Nat.le_of_ble_eq_true rfl⟩) (k:Ex (fn.ntmps=N)→Gl B→∀w0 m0 F0,AWP Tryz.prog w0 m0 F0 c (retQ TT fn [] [] r [] []) {n:=fn.ntmps,env:=envOf 0 xs,box:=[],row:=[]}:=by
 intro e h
 simp only [e.e,envOf,Nat.reduceAdd]
 with_reducible exact h.g):Sat Tryz.prog f xs r :=
 sS tyOk hf (k ⟨e⟩ ⟨h⟩) hb hn hx
theorem ZM (kb kr:List Nat) {f:FuncId} {fn:Func} {c:Code} {xs:List V} {bx bx1:Boxes} {rw rw1:Rows} {r:A} {N:Nat} {B:Prop} (hf:Tryz.prog.funcs[f]?=some fn) (e:fn.ntmps=N) (h:B) (hb:fn.body=some c:=by exact rfl) (hn:(fn.name=="runtime.NumGoroutine")=false:=by kernel_rfl) (hx:xs.length≤fn.ntmps∧fn.ntmps≤1000:=by exact ⟨Nat.le_of_ble_eq_true rfl,Nat.le_of_ble_eq_true rfl⟩) (k:Ex (fn.ntmps=N)→Gl B→∀w0 m0 F0,AWP Tryz.prog w0 m0 F0 c (retQ TT fn kb kr r bx1 rw1) {n:=fn.ntmps,env:=envOf 0 xs,box:=bx,row:=rw}:=by
 intro e h
 simp only [e.e,envOf,Nat.reduceAdd]
 with_reducible exact h.g):SatM Tryz.prog f xs bx rw r bx1 rw1 :=
 sM tyOk kb kr hf (k ⟨e⟩ ⟨h⟩) hb hn hx
theorem ZL {A X:Prop} (x:Ex X) (k:Ex X→A:=by
 intro x
 refine St.le_mk ?_ ?_ ?_<;>simp only [LE,EN,Nat.reduceEqDiff,reduceIte,Nat.reduceSub,x.e]):A:=k x
theorem ZN {A X:Prop} (x:Ex X) (k:Ex X→A:=by
 intro x
 refine St.le_mk ?_ ?_ ?_<;>simp only [LE,EN,Nat.reduceEqDiff,reduceIte,Nat.reduceSub,List.length_append,List.length_cons,List.length_nil,Nat.zero_add,Nat.add_assoc,List.map_append,List.map_cons,List.map_nil,List.append_assoc,List.cons_append,List.take_zero,List.set_cons_zero,List.set_cons_succ,List.set_set,List.getD_cons_zero,List.length_set,Option.getD_none,List.nil_append,List.append_nil,List.length_map,List.length_replicate,List.range_zero,x.e]):A:=k x
theorem ZQ {A X:Prop} (x:Ex X) (k:Ex X→A:=by
 intro x
 simp -dsimp (disch:=first|exact D|fail) only [retQ,x.e,resVals,cellRV,resOf,St.rest,St.freeze,RT,go_sem,↓reduceIte,seval]):A:=k x
theorem ZR {A B X:Prop} (x:Ex X) (h:B) (k:Ex X→Gl B→A:=by
 intro x h
 simp -dsimp (disch:=first|exact D|fail) only [retQ,x.e,resVals,cellRV,resOf,St.rest,St.freeze,RT,go_sem,↓reduceIte,seval]
 with_reducible exact h.g):A:=k x ⟨h⟩
theorem ZS {A B X:Prop} (x:Ex X) (h:B) (k:Ex X→Gl B→A:=by
 intro x h
 simp -dsimp (disch:=first|exact D|fail) only [go_sem,↓reduceIte,seval,RT,St.rest,St.freeze,Option.getD_none,x.e]
 with_reducible exact h.g):A:=k x ⟨h⟩
theorem ZT {A B X:Prop} (x:Ex X) (h:B) (k:Ex X→Gl B→A:=by
 intro x h
 simp -dsimp (disch:=first|exact D|fail) only [go_sem,↓reduceIte,seval,renR_mk,L.ren,L.ren0,Option.getD_none,x.e]
 with_reducible exact h.g):A:=k x ⟨h⟩
theorem ZU {A B X:Prop} (x:Ex X) (h:B) (k:Ex X→Gl B→A:=by
 intro x h
 simp -dsimp (disch:=first|exact D|fail) only [go_sem,↓reduceIte,seval,Option.getD_none,x.e]
 with_reducible exact h.g):A:=k x ⟨h⟩
theorem ZV {A B X C DD II T1 R1 T2 R2 T3 R3 T4 R4 T5 R5 T6 R6 T7 R7 T8 R8 T9 R9 T10 R10 T11 R11 T12 R12:Prop} (x:Ex X) (c:Ex C) (d:Ex DD) (i:Ex II) (h:B) (k:Ex X→Ex C→Ex DD→Ex II→Ch T1 R1 T2 R2 T3 R3 T4 R4 T5 R5 T6 R6 T7 R7 T8 R8 T9 R9 T10 R10 T11 R11 T12 R12→Gl B→A:=by
 intro x c d i r h
 repeat' (first
  | ((first
   | ((fail_if_success (refine rS d.e.1 ?_));(with_reducible refine qV tyOk fun KZ hKZ=>?_))
   | (refine dG d.e.1 tyOk mixed fun KZ hKZ=>?_;simp only [SG,segs] at hKZ ⊢)
   | (refine dG d.e.2.1 tyOk mixed fun KZ hKZ=>?_;simp only [SG,segs] at hKZ ⊢)
   | (refine dG d.e.2.2.1 tyOk mixed fun KZ hKZ=>?_;simp only [SG,segs] at hKZ ⊢)
   | (refine dG d.e.2.2.2.1 tyOk mixed fun KZ hKZ=>?_;simp only [SG,segs] at hKZ ⊢)
   | (refine dG d.e.2.2.2.2.1 tyOk mixed fun KZ hKZ=>?_;simp only [SG,segs] at hKZ ⊢)
   | (refine dG d.e.2.2.2.2.2.1 tyOk mixed fun KZ hKZ=>?_;simp only [SG,segs] at hKZ ⊢)
   | refine Q2 ?_
   | ((with_reducible refine CallJ.is ?_);(first|refine iG i.e.1 rfl ⟨rfl,rfl,rfl,rfl⟩ ?_ ?_ ?_|refine iG i.e.2.1 rfl ⟨rfl,rfl,rfl,rfl⟩ ?_ ?_ ?_|refine iG i.e.2.2.1 rfl ⟨rfl,rfl,rfl,rfl⟩ ?_ ?_ ?_))
   | ((with_reducible refine CallJ.is ?_);(first|refine CallJ.pure (c.e.1 ..) ?_|refine CallJ.pure (c.e.2.1 ..) ?_|refine CallJ.pure (c.e.2.2.1 ..) ?_|refine CallJ.pure (c.e.2.2.2.1 ..) ?_|refine CallJ.pure (c.e.2.2.2.2.1 ..) ?_|refine CallJ.pure (c.e.2.2.2.2.2.1 ..) ?_|((apply CallJ.lentI);(focus (simp -dsimp (disch:=first|exact D|fail) only [go_sem,↓reduceIte,seval,Option.getD_none,x.e];rfl));(focus (first|exact (c.e.1 ..)|exact (c.e.2.1 ..)|exact (c.e.2.2.1 ..)|exact (c.e.2.2.2.1 ..)|exact (c.e.2.2.2.2.1 ..)|exact (c.e.2.2.2.2.2.1 ..))))))
   | ((with_reducible refine CallH.is ?_);(first|refine CallH.intro (c.e.1 ..) ?_|refine CallH.intro (c.e.2.1 ..) ?_|refine CallH.intro (c.e.2.2.1 ..) ?_|refine CallH.intro (c.e.2.2.2.1 ..) ?_|refine CallH.intro (c.e.2.2.2.2.1 ..) ?_|refine CallH.intro (c.e.2.2.2.2.2.1 ..) ?_))
   | (with_reducible first|refine VCy.some fun KZ hKZ=>?_|refine VCy.step fun KZ hKZ=>?_|refine VCt.some fun KZ hKZ=>?_|refine VCt.step fun KZ hKZ=>?_))<;>simp -dsimp (disch:=first|exact D|fail) only [go_sem,↓reduceIte,seval,Option.getD_none,x.e])
  | ((with_reducible refine hKZ _ ?_);clear hKZ KZ)
  | (with_reducible refine hK _ ?_)
  | (with_reducible refine TwoK.mk ?_ ?_)
  | (with_reducible first|refine VCy.intro fun KY hKY=>?_|refine VCt.intro fun KY hKY=>?_)
  | ((with_reducible first|refine VCy.fin ?_|refine VCt.fin ?_);first|((refine hKY _ ?_);clear hKY KY)|(refine hK0 _ ?_))
  | (with_reducible first|refine VCy.quiet ?_|refine VCy.none ?_|refine VCt.none ?_)
  | ((with_reducible refine VCy.keep ?_ ?_);focus ((simp -dsimp (disch:=first|exact D|fail) only [go_sem,↓reduceIte,seval,Option.getD_none,Stable_cons,Stable_nil,sameA_some,sameA_none,x.e];first|done|exact E|fail)))
  | ((with_reducible refine VCt.fork (fun KZ hKZ=>?_) ?_);(focus (simp -dsimp (disch:=first|exact D|fail) only [go_sem,↓reduceIte,seval,Option.getD_none,x.e])))
  | refine Q1 ?_
  | ((with_reducible refine qW (T:=TT) (b:=?_) ?_ ?_);rotate_left;exact rfl)
  | fail)
 all_goals (repeat (first|(revert hZ;refine Im.i ?_)|(revert hKZ;revert KZ;refine Kw.f ?_)|(revert hKY;revert KY;refine Kx.f ?_)))
 first
  | (with_reducible exact h.g;done)
  | (all_goals first|with_reducible exact Ch.e1 h r|with_reducible exact Ch.e2 h r|with_reducible exact Ch.e3 h r|with_reducible exact Ch.e4 h r|with_reducible exact Ch.e5 h r|with_reducible exact Ch.e6 h r|with_reducible exact Ch.e7 h r|with_reducible exact Ch.e8 h r|with_reducible exact Ch.e9 h r|with_reducible exact Ch.e10 h r|with_reducible exact Ch.e11 h r|with_reducible exact Ch.e12 h r)) (t:Ch T1 R1 T2 R2 T3 R3 T4 R4 T5 R5 T6 R6 T7 R7 T8 R8 T9 R9 T10 R10 T11 R11 T12 R12:=by first|with_reducible exact Ch.f0|with_reducible exact Ch.f1|with_reducible exact Ch.f2|with_reducible exact Ch.f3|with_reducible exact Ch.f4|with_reducible exact Ch.f5|with_reducible exact Ch.f6|with_reducible exact Ch.f7|with_reducible exact Ch.f8|with_reducible exact Ch.f9|with_reducible exact Ch.f10|with_reducible exact Ch.f11|with_reducible exact Ch.f12):A:=k x c d i t ⟨h⟩
theorem ZVo {A B X C DD II T1 R1 T2 R2 T3 R3 T4 R4 T5 R5 T6 R6 T7 R7 T8 R8 T9 R9 T10 R10 T11 R11 T12 R12:Prop} (x:Ex X) (c:Ex C) (d:Ex DD) (i:Ex II) (h:B) (k:Ex X→Ex C→Ex DD→Ex II→Ch T1 R1 T2 R2 T3 R3 T4 R4 T5 R5 T6 R6 T7 R7 T8 R8 T9 R9 T10 R10 T11 R11 T12 R12→Gl B→A:=by
 intro x c d i r h
 repeat' (first
  | ((first
   | ((fail_if_success (refine rS d.e.1 ?_));(with_reducible refine qV tyOk fun KZ hKZ=>?_))
   | (refine dG d.e.1 tyOk mixed fun KZ hKZ=>?_;simp only [SG,segs] at hKZ ⊢)
   | (refine dG d.e.2.1 tyOk mixed fun KZ hKZ=>?_;simp only [SG,segs] at hKZ ⊢)
   | (refine dG d.e.2.2.1 tyOk mixed fun KZ hKZ=>?_;simp only [SG,segs] at hKZ ⊢)
   | (refine dG d.e.2.2.2.1 tyOk mixed fun KZ hKZ=>?_;simp only [SG,segs] at hKZ ⊢)
   | (refine dG d.e.2.2.2.2.1 tyOk mixed fun KZ hKZ=>?_;simp only [SG,segs] at hKZ ⊢)
   | (refine dG d.e.2.2.2.2.2.1 tyOk mixed fun KZ hKZ=>?_;simp only [SG,segs] at hKZ ⊢)
   | refine Q2 ?_
   | ((with_reducible refine CallJ.is ?_);(first|refine iG i.e.1 rfl ⟨rfl,rfl,rfl,rfl⟩ ?_ ?_ ?_|refine iG i.e.2.1 rfl ⟨rfl,rfl,rfl,rfl⟩ ?_ ?_ ?_|refine iG i.e.2.2.1 rfl ⟨rfl,rfl,rfl,rfl⟩ ?_ ?_ ?_))
   | ((with_reducible refine CallJ.is ?_);(first|refine CallJ.pure (c.e.1 ..) ?_|refine CallJ.pure (c.e.2.1 ..) ?_|refine CallJ.pure (c.e.2.2.1 ..) ?_|refine CallJ.pure (c.e.2.2.2.1 ..) ?_|refine CallJ.pure (c.e.2.2.2.2.1 ..) ?_|refine CallJ.pure (c.e.2.2.2.2.2.1 ..) ?_|((apply CallJ.lentI);(focus (simp -dsimp (disch:=first|exact D|fail) only [go_sem,↓reduceIte,seval,Option.getD_none,x.e];rfl));(focus (first|exact (c.e.1 ..)|exact (c.e.2.1 ..)|exact (c.e.2.2.1 ..)|exact (c.e.2.2.2.1 ..)|exact (c.e.2.2.2.2.1 ..)|exact (c.e.2.2.2.2.2.1 ..))))))
   | ((with_reducible refine CallH.is ?_);(first|refine CallH.intro (c.e.1 ..) ?_|refine CallH.intro (c.e.2.1 ..) ?_|refine CallH.intro (c.e.2.2.1 ..) ?_|refine CallH.intro (c.e.2.2.2.1 ..) ?_|refine CallH.intro (c.e.2.2.2.2.1 ..) ?_|refine CallH.intro (c.e.2.2.2.2.2.1 ..) ?_))
   | with_reducible refine VCy.appO tyOk fun KZ hKZ=>?_
   | (with_reducible first|refine VCy.some fun KZ hKZ=>?_|refine VCy.step fun KZ hKZ=>?_|refine VCt.some fun KZ hKZ=>?_|refine VCt.step fun KZ hKZ=>?_))<;>simp -dsimp (disch:=first|exact D|fail) only [go_sem,↓reduceIte,seval,Option.getD_none,x.e])
  | ((with_reducible refine hKZ _ ?_);clear hKZ KZ)
  | (with_reducible refine hK _ ?_)
  | (with_reducible refine TwoK.mk ?_ ?_)
  | (with_reducible first|refine VCy.intro fun KY hKY=>?_|refine VCt.intro fun KY hKY=>?_)
  | ((with_reducible first|refine VCy.fin ?_|refine VCt.fin ?_);first|((refine hKY _ ?_);clear hKY KY)|(refine hK0 _ ?_))
  | (with_reducible first|refine VCy.quiet ?_|refine VCy.none ?_|refine VCt.none ?_)
  | ((with_reducible refine VCy.keep ?_ ?_);focus ((simp -dsimp (disch:=first|exact D|fail) only [go_sem,↓reduceIte,seval,Option.getD_none,Stable_cons,Stable_nil,sameA_some,sameA_none,x.e];first|done|exact E|fail)))
  | ((with_reducible refine VCt.fork (fun KZ hKZ=>?_) ?_);(focus (simp -dsimp (disch:=first|exact D|fail) only [go_sem,↓reduceIte,seval,Option.getD_none,x.e])))
  | refine Q1 ?_
  | ((with_reducible refine qW (T:=TT) (b:=?_) ?_ ?_);rotate_left;exact rfl)
  | fail)
 all_goals (repeat (first|(revert hZ;refine Im.i ?_)|(revert hKZ;revert KZ;refine Kw.f ?_)|(revert hKY;revert KY;refine Kx.f ?_)))
 first
  | (with_reducible exact h.g;done)
  | (all_goals first|with_reducible exact Ch.e1 h r|with_reducible exact Ch.e2 h r|with_reducible exact Ch.e3 h r|with_reducible exact Ch.e4 h r|with_reducible exact Ch.e5 h r|with_reducible exact Ch.e6 h r|with_reducible exact Ch.e7 h r|with_reducible exact Ch.e8 h r|with_reducible exact Ch.e9 h r|with_reducible exact Ch.e10 h r|with_reducible exact Ch.e11 h r|with_reducible exact Ch.e12 h r)) (t:Ch T1 R1 T2 R2 T3 R3 T4 R4 T5 R5 T6 R6 T7 R7 T8 R8 T9 R9 T10 R10 T11 R11 T12 R12:=by first|with_reducible exact Ch.f0|with_reducible exact Ch.f1|with_reducible exact Ch.f2|with_reducible exact Ch.f3|with_reducible exact Ch.f4|with_reducible exact Ch.f5|with_reducible exact Ch.f6|with_reducible exact Ch.f7|with_reducible exact Ch.f8|with_reducible exact Ch.f9|with_reducible exact Ch.f10|with_reducible exact Ch.f11|with_reducible exact Ch.f12):A:=k x c d i t ⟨h⟩
theorem ZVp {A B X C DD II T1 R1 T2 R2 T3 R3 T4 R4 T5 R5 T6 R6 T7 R7 T8 R8 T9 R9 T10 R10 T11 R11 T12 R12:Prop} (x:Ex X) (c:Ex C) (d:Ex DD) (i:Ex II) (h:B) (k:Ex X→Ex C→Ex DD→Ex II→Ch T1 R1 T2 R2 T3 R3 T4 R4 T5 R5 T6 R6 T7 R7 T8 R8 T9 R9 T10 R10 T11 R11 T12 R12→Gl B→A:=by
 intro x c d i r h
 repeat' (first
  | ((first
   | ((fail_if_success (refine rS d.e.1 ?_));(with_reducible refine qV tyOk fun KZ hKZ=>?_))
   | (refine dG d.e.1 tyOk mixed fun KZ hKZ=>?_;simp only [SG,segs] at hKZ ⊢)
   | (refine dG d.e.2.1 tyOk mixed fun KZ hKZ=>?_;simp only [SG,segs] at hKZ ⊢)
   | (refine dG d.e.2.2.1 tyOk mixed fun KZ hKZ=>?_;simp only [SG,segs] at hKZ ⊢)
   | (refine dG d.e.2.2.2.1 tyOk mixed fun KZ hKZ=>?_;simp only [SG,segs] at hKZ ⊢)
   | (refine dG d.e.2.2.2.2.1 tyOk mixed fun KZ hKZ=>?_;simp only [SG,segs] at hKZ ⊢)
   | (refine dG d.e.2.2.2.2.2.1 tyOk mixed fun KZ hKZ=>?_;simp only [SG,segs] at hKZ ⊢)
   | refine Q2 ?_
   | ((with_reducible first|refine qS ?_ ?_|refine qT ?_ ?_|refine qU ?_ ?_)<;>(intro hZ;try simp only [NM] at hZ))
   | ((with_reducible refine CallJ.is ?_);(first|refine iG i.e.1 rfl ⟨rfl,rfl,rfl,rfl⟩ ?_ ?_ ?_|refine iG i.e.2.1 rfl ⟨rfl,rfl,rfl,rfl⟩ ?_ ?_ ?_|refine iG i.e.2.2.1 rfl ⟨rfl,rfl,rfl,rfl⟩ ?_ ?_ ?_))
   | ((with_reducible refine CallJ.is ?_);(first|refine CallJ.pure (c.e.1 ..) ?_|refine CallJ.pure (c.e.2.1 ..) ?_|refine CallJ.pure (c.e.2.2.1 ..) ?_|refine CallJ.pure (c.e.2.2.2.1 ..) ?_|refine CallJ.pure (c.e.2.2.2.2.1 ..) ?_|refine CallJ.pure (c.e.2.2.2.2.2.1 ..) ?_|((apply CallJ.lentI);(focus (simp -dsimp (disch:=first|exact D|fail) only [go_sem,↓reduceIte,seval,Option.getD_none,x.e];rfl));(focus (first|exact (c.e.1 ..)|exact (c.e.2.1 ..)|exact (c.e.2.2.1 ..)|exact (c.e.2.2.2.1 ..)|exact (c.e.2.2.2.2.1 ..)|exact (c.e.2.2.2.2.2.1 ..))))))
   | ((with_reducible refine CallH.is ?_);(first|refine CallH.intro (c.e.1 ..) ?_|refine CallH.intro (c.e.2.1 ..) ?_|refine CallH.intro (c.e.2.2.1 ..) ?_|refine CallH.intro (c.e.2.2.2.1 ..) ?_|refine CallH.intro (c.e.2.2.2.2.1 ..) ?_|refine CallH.intro (c.e.2.2.2.2.2.1 ..) ?_))
   | (with_reducible first|refine VCy.some fun KZ hKZ=>?_|refine VCy.step fun KZ hKZ=>?_|refine VCt.some fun KZ hKZ=>?_|refine VCt.step fun KZ hKZ=>?_))<;>simp -dsimp (disch:=first|exact D|fail) only [go_sem,↓reduceIte,seval,Option.getD_none,x.e])
  | ((with_reducible refine hKZ _ ?_);clear hKZ KZ)
  | (with_reducible refine hK _ ?_)
  | (with_reducible refine TwoK.mk ?_ ?_)
  | (with_reducible first|refine VCy.intro fun KY hKY=>?_|refine VCt.intro fun KY hKY=>?_)
  | ((with_reducible first|refine VCy.fin ?_|refine VCt.fin ?_);first|((refine hKY _ ?_);clear hKY KY)|(refine hK0 _ ?_))
  | (with_reducible first|refine VCy.quiet ?_|refine VCy.none ?_|refine VCt.none ?_)
  | ((with_reducible refine VCy.keep ?_ ?_);focus ((simp -dsimp (disch:=first|exact D|fail) only [go_sem,↓reduceIte,seval,Option.getD_none,Stable_cons,Stable_nil,sameA_some,sameA_none,x.e];first|done|exact E|fail)))
  | ((with_reducible refine VCt.fork (fun KZ hKZ=>?_) ?_);(focus (simp -dsimp (disch:=first|exact D|fail) only [go_sem,↓reduceIte,seval,Option.getD_none,x.e])))
  | refine Q1 ?_
  | ((with_reducible refine qW (T:=TT) (b:=?_) ?_ ?_);rotate_left;exact rfl)
  | ((with_reducible refine yS ?_ ?_)<;>(intro hZ;try simp only [NM] at hZ))
  | fail)
 all_goals (repeat (first|(revert hZ;refine Im.i ?_)|(revert hKZ;revert KZ;refine Kw.f ?_)|(revert hKY;revert KY;refine Kx.f ?_)))
 first
  | (with_reducible exact h.g;done)
  | (all_goals first|with_reducible exact Ch.e1 h r|with_reducible exact Ch.e2 h r|with_reducible exact Ch.e3 h r|with_reducible exact Ch.e4 h r|with_reducible exact Ch.e5 h r|with_reducible exact Ch.e6 h r|with_reducible exact Ch.e7 h r|with_reducible exact Ch.e8 h r|with_reducible exact Ch.e9 h r|with_reducible exact Ch.e10 h r|with_reducible exact Ch.e11 h r|with_reducible exact Ch.e12 h r)) (t:Ch T1 R1 T2 R2 T3 R3 T4 R4 T5 R5 T6 R6 T7 R7 T8 R8 T9 R9 T10 R10 T11 R11 T12 R12:=by first|with_reducible exact Ch.f0|with_reducible exact Ch.f1|with_reducible exact Ch.f2|with_reducible exact Ch.f3|with_reducible exact Ch.f4|with_reducible exact Ch.f5|with_reducible exact Ch.f6|with_reducible exact Ch.f7|with_reducible exact Ch.f8|with_reducible exact Ch.f9|with_reducible exact Ch.f10|with_reducible exact Ch.f11|with_reducible exact Ch.f12):A:=k x c d i t ⟨h⟩
theorem ZVt {A B X C DD II T1 R1 T2 R2 T3 R3 T4 R4 T5 R5 T6 R6 T7 R7 T8 R8 T9 R9 T10 R10 T11 R11 T12 R12:Prop} (x:Ex X) (c:Ex C) (d:Ex DD) (i:Ex II) (h:B) (k:Ex X→Ex C→Ex DD→Ex II→Ch T1 R1 T2 R2 T3 R3 T4 R4 T5 R5 T6 R6 T7 R7 T8 R8 T9 R9 T10 R10 T11 R11 T12 R12→Gl B→A:=by
 intro x c d i r h
 repeat' (first
  | ((first
   | ((fail_if_success (refine rS d.e.1 ?_));(with_reducible refine qV tyOk fun KZ hKZ=>?_))
   | (refine dG d.e.1 tyOk mixed fun KZ hKZ=>?_;simp only [SG,segs] at hKZ ⊢)
   | (refine dG d.e.2.1 tyOk mixed fun KZ hKZ=>?_;simp only [SG,segs] at hKZ ⊢)
   | (refine dG d.e.2.2.1 tyOk mixed fun KZ hKZ=>?_;simp only [SG,segs] at hKZ ⊢)
   | (refine dG d.e.2.2.2.1 tyOk mixed fun KZ hKZ=>?_;simp only [SG,segs] at hKZ ⊢)
   | (refine dG d.e.2.2.2.2.1 tyOk mixed fun KZ hKZ=>?_;simp only [SG,segs] at hKZ ⊢)
   | (refine dG d.e.2.2.2.2.2.1 tyOk mixed fun KZ hKZ=>?_;simp only [SG,segs] at hKZ ⊢)
   | refine Q2 ?_
   | ((with_reducible refine CallJ.is ?_);(first|refine iG i.e.1 rfl ⟨rfl,rfl,rfl,rfl⟩ ?_ ?_ ?_|refine iG i.e.2.1 rfl ⟨rfl,rfl,rfl,rfl⟩ ?_ ?_ ?_|refine iG i.e.2.2.1 rfl ⟨rfl,rfl,rfl,rfl⟩ ?_ ?_ ?_))
   | ((with_reducible refine CallJ.is ?_);(first|refine CallJ.pure (c.e.1 ..) ?_|refine CallJ.pure (c.e.2.1 ..) ?_|refine CallJ.pure (c.e.2.2.1 ..) ?_|refine CallJ.pure (c.e.2.2.2.1 ..) ?_|refine CallJ.pure (c.e.2.2.2.2.1 ..) ?_|refine CallJ.pure (c.e.2.2.2.2.2.1 ..) ?_|((apply CallJ.lentI);(focus (simp -dsimp (disch:=first|exact D|fail) only [go_sem,↓reduceIte,seval,Option.getD_none,x.e];rfl));(focus (first|exact (c.e.1 ..)|exact (c.e.2.1 ..)|exact (c.e.2.2.1 ..)|exact (c.e.2.2.2.1 ..)|exact (c.e.2.2.2.2.1 ..)|exact (c.e.2.2.2.2.2.1 ..))))))
   | ((with_reducible refine CallH.is ?_);(first|refine CallH.intro (c.e.1 ..) ?_|refine CallH.intro (c.e.2.1 ..) ?_|refine CallH.intro (c.e.2.2.1 ..) ?_|refine CallH.intro (c.e.2.2.2.1 ..) ?_|refine CallH.intro (c.e.2.2.2.2.1 ..) ?_|refine CallH.intro (c.e.2.2.2.2.2.1 ..) ?_))
   | with_reducible refine VCy.app2 tyOk fun KZ hKZ=>?_
   | (with_reducible first|refine VCy.some fun KZ hKZ=>?_|refine VCy.step fun KZ hKZ=>?_|refine VCt.some fun KZ hKZ=>?_|refine VCt.step fun KZ hKZ=>?_))<;>simp -dsimp (disch:=first|exact D|fail) only [go_sem,↓reduceIte,seval,Option.getD_none,x.e])
  | ((with_reducible refine hKZ _ ?_);clear hKZ KZ)
  | (with_reducible refine hK _ ?_)
  | (with_reducible refine TwoK.mk ?_ ?_)
  | (with_reducible first|refine VCy.intro fun KY hKY=>?_|refine VCt.intro fun KY hKY=>?_)
  | ((with_reducible first|refine VCy.fin ?_|refine VCt.fin ?_);first|((refine hKY _ ?_);clear hKY KY)|(refine hK0 _ ?_))
  | (with_reducible first|refine VCy.quiet ?_|refine VCy.none ?_|refine VCt.none ?_)
  | ((with_reducible refine VCy.keep ?_ ?_);focus ((simp -dsimp (disch:=first|exact D|fail) only [go_sem,↓reduceIte,seval,Option.getD_none,Stable_cons,Stable_nil,sameA_some,sameA_none,x.e];first|done|exact E|fail)))
  | ((with_reducible refine VCt.fork (fun KZ hKZ=>?_) ?_);(focus (simp -dsimp (disch:=first|exact D|fail) only [go_sem,↓reduceIte,seval,Option.getD_none,x.e])))
  | refine Q1 ?_
  | ((with_reducible refine qW (T:=TT) (b:=?_) ?_ ?_);rotate_left;exact rfl)
  | fail)
 all_goals (repeat (first|(revert hZ;refine Im.i ?_)|(revert hKZ;revert KZ;refine Kw.f ?_)|(revert hKY;revert KY;refine Kx.f ?_)))
 first
  | (with_reducible exact h.g;done)
  | (all_goals first|with_reducible exact Ch.e1 h r|with_reducible exact Ch.e2 h r|with_reducible exact Ch.e3 h r|with_reducible exact Ch.e4 h r|with_reducible exact Ch.e5 h r|with_reducible exact Ch.e6 h r|with_reducible exact Ch.e7 h r|with_reducible exact Ch.e8 h r|with_reducible exact Ch.e9 h r|with_reducible exact Ch.e10 h r|with_reducible exact Ch.e11 h r|with_reducible exact Ch.e12 h r)) (t:Ch T1 R1 T2 R2 T3 R3 T4 R4 T5 R5 T6 R6 T7 R7 T8 R8 T9 R9 T10 R10 T11 R11 T12 R12:=by first|with_reducible exact Ch.f0|with_reducible exact Ch.f1|with_reducible exact Ch.f2|with_reducible exact Ch.f3|with_reducible exact Ch.f4|with_reducible exact Ch.f5|with_reducible exact Ch.f6|with_reducible exact Ch.f7|with_reducible exact Ch.f8|with_reducible exact Ch.f9|with_reducible exact Ch.f10|with_reducible exact Ch.f11|with_reducible exact Ch.f12):A:=k x c d i t ⟨h⟩
theorem ZVy {A B X C DD II T1 R1 T2 R2 T3 R3 T4 R4 T5 R5 T6 R6 T7 R7 T8 R8 T9 R9 T10 R10 T11 R11 T12 R12:Prop} (x:Ex X) (c:Ex C) (d:Ex DD) (i:Ex II) (h:B) (k:Ex X→Ex C→Ex DD→Ex II→Ch T1 R1 T2 R2 T3 R3 T4 R4 T5 R5 T6 R6 T7 R7 T8 R8 T9 R9 T10 R10 T11 R11 T12 R12→Gl B→A:=by
 intro x c d i r h
 repeat' (first
  | ((first
   | ((fail_if_success (refine rS d.e.1 ?_));(with_reducible refine qV tyOk fun KZ hKZ=>?_))
   | (refine dG d.e.1 tyOk mixed fun KZ hKZ=>?_;simp only [SG,segs] at hKZ ⊢)
   | (refine dG d.e.2.1 tyOk mixed fun KZ hKZ=>?_;simp only [SG,segs] at hKZ ⊢)
   | (refine dG d.e.2.2.1 tyOk mixed fun KZ hKZ=>?_;simp only [SG,segs] at hKZ ⊢)
   | (refine dG d.e.2.2.2.1 tyOk mixed fun KZ hKZ=>?_;simp only [SG,segs] at hKZ ⊢)
   | (refine dG d.e.2.2.2.2.1 tyOk mixed fun KZ hKZ=>?_;simp only [SG,segs] at hKZ ⊢)
   | (refine dG d.e.2.2.2.2.2.1 tyOk mixed fun KZ hKZ=>?_;simp only [SG,segs] at hKZ ⊢)
   | refine Q2 ?_
   | with_reducible refine yD tyOk mixed 6 (by kernel_rfl) fun KZ hKZ=>?_
   | ((with_reducible refine CallJ.is ?_);(first|refine iG i.e.1 rfl ⟨rfl,rfl,rfl,rfl⟩ ?_ ?_ ?_|refine iG i.e.2.1 rfl ⟨rfl,rfl,rfl,rfl⟩ ?_ ?_ ?_|refine iG i.e.2.2.1 rfl ⟨rfl,rfl,rfl,rfl⟩ ?_ ?_ ?_))
   | ((with_reducible refine CallJ.is ?_);(first|refine CallJ.pure (c.e.1 ..) ?_|refine CallJ.pure (c.e.2.1 ..) ?_|refine CallJ.pure (c.e.2.2.1 ..) ?_|refine CallJ.pure (c.e.2.2.2.1 ..) ?_|refine CallJ.pure (c.e.2.2.2.2.1 ..) ?_|refine CallJ.pure (c.e.2.2.2.2.2.1 ..) ?_|((apply CallJ.lentI);(focus (simp -dsimp (disch:=first|exact D|fail) only [go_sem,↓reduceIte,seval,Option.getD_none,x.e];rfl));(focus (first|exact (c.e.1 ..)|exact (c.e.2.1 ..)|exact (c.e.2.2.1 ..)|exact (c.e.2.2.2.1 ..)|exact (c.e.2.2.2.2.1 ..)|exact (c.e.2.2.2.2.2.1 ..))))))
   | ((with_reducible refine CallH.is ?_);(first|refine CallH.intro (c.e.1 ..) ?_|refine CallH.intro (c.e.2.1 ..) ?_|refine CallH.intro (c.e.2.2.1 ..) ?_|refine CallH.intro (c.e.2.2.2.1 ..) ?_|refine CallH.intro (c.e.2.2.2.2.1 ..) ?_|refine CallH.intro (c.e.2.2.2.2.2.1 ..) ?_))
   | (with_reducible first|refine VCy.some fun KZ hKZ=>?_|refine VCy.step fun KZ hKZ=>?_|refine VCt.some fun KZ hKZ=>?_|refine VCt.step fun KZ hKZ=>?_))<;>simp -dsimp (disch:=first|exact D|fail) only [go_sem,↓reduceIte,seval,Option.getD_none,x.e])
  | ((with_reducible refine hKZ _ ?_);clear hKZ KZ)
  | (with_reducible refine hK _ ?_)
  | (with_reducible refine TwoK.mk ?_ ?_)
  | (with_reducible first|refine VCy.intro fun KY hKY=>?_|refine VCt.intro fun KY hKY=>?_)
  | ((with_reducible first|refine VCy.fin ?_|refine VCt.fin ?_);first|((refine hKY _ ?_);clear hKY KY)|(refine hK0 _ ?_))
  | (with_reducible first|refine VCy.quiet ?_|refine VCy.none ?_|refine VCt.none ?_)
  | ((with_reducible refine VCy.keep ?_ ?_);focus ((simp -dsimp (disch:=first|exact D|fail) only [go_sem,↓reduceIte,seval,Option.getD_none,Stable_cons,Stable_nil,sameA_some,sameA_none,x.e];first|done|exact E|fail)))
  | ((with_reducible refine VCt.fork (fun KZ hKZ=>?_) ?_);(focus (simp -dsimp (disch:=first|exact D|fail) only [go_sem,↓reduceIte,seval,Option.getD_none,x.e])))
  | refine Q1 ?_
  | ((with_reducible refine qW (T:=TT) (b:=?_) ?_ ?_);rotate_left;exact rfl)
  | fail)
 all_goals (repeat (first|(revert hZ;refine Im.i ?_)|(revert hKZ;revert KZ;refine Kw.f ?_)|(revert hKY;revert KY;refine Kx.f ?_)))
 first
  | (with_reducible exact h.g;done)
  | (all_goals first|with_reducible exact Ch.e1 h r|with_reducible exact Ch.e2 h r|with_reducible exact Ch.e3 h r|with_reducible exact Ch.e4 h r|with_reducible exact Ch.e5 h r|with_reducible exact Ch.e6 h r|with_reducible exact Ch.e7 h r|with_reducible exact Ch.e8 h r|with_reducible exact Ch.e9 h r|with_reducible exact Ch.e10 h r|with_reducible exact Ch.e11 h r|with_reducible exact Ch.e12 h r)) (t:Ch T1 R1 T2 R2 T3 R3 T4 R4 T5 R5 T6 R6 T7 R7 T8 R8 T9 R9 T10 R10 T11 R11 T12 R12:=by first|with_reducible exact Ch.f0|with_reducible exact Ch.f1|with_reducible exact Ch.f2|with_reducible exact Ch.f3|with_reducible exact Ch.f4|with_reducible exact Ch.f5|with_reducible exact Ch.f6|with_reducible exact Ch.f7|with_reducible exact Ch.f8|with_reducible exact Ch.f9|with_reducible exact Ch.f10|with_reducible exact Ch.f11|with_reducible exact Ch.f12):A:=k x c d i t ⟨h⟩
theorem ZW {A B X C T1 R1 T2 R2 T3 R3 T4 R4 T5 R5 T6 R6 T7 R7 T8 R8 T9 R9 T10 R10 T11 R11 T12 R12:Prop} (x:Ex X) (c:Ex C) (h:B) (k:Ex X→Ex C→Ch T1 R1 T2 R2 T3 R3 T4 R4 T5 R5 T6 R6 T7 R7 T8 R8 T9 R9 T10 R10 T11 R11 T12 R12→Gl B→A:=by
 intro x c r h
 repeat' (first
  | ((first
   | with_reducible refine qV tyOk fun KZ hKZ=>?_
   | refine Q2 ?_
   | ((with_reducible refine CallJ.is ?_);(first|refine CallJ.pure (c.e.1 ..) ?_|refine CallJ.pure (c.e.2.1 ..) ?_|refine CallJ.pure (c.e.2.2.1 ..) ?_|refine CallJ.pure (c.e.2.2.2.1 ..) ?_|refine CallJ.pure (c.e.2.2.2.2.1 ..) ?_|refine CallJ.pure (c.e.2.2.2.2.2.1 ..) ?_|((apply CallJ.lentI);(focus (simp -dsimp (disch:=first|exact D|fail) only [go_sem,↓reduceIte,seval,Option.getD_none,x.e];rfl));(focus (first|exact (c.e.1 ..)|exact (c.e.2.1 ..)|exact (c.e.2.2.1 ..)|exact (c.e.2.2.2.1 ..)|exact (c.e.2.2.2.2.1 ..)|exact (c.e.2.2.2.2.2.1 ..))))))
   | ((with_reducible refine CallH.is ?_);(first|refine CallH.intro (c.e.1 ..) ?_|refine CallH.intro (c.e.2.1 ..) ?_|refine CallH.intro (c.e.2.2.1 ..) ?_|refine CallH.intro (c.e.2.2.2.1 ..) ?_|refine CallH.intro (c.e.2.2.2.2.1 ..) ?_|refine CallH.intro (c.e.2.2.2.2.2.1 ..) ?_)))<;>simp -dsimp (disch:=first|exact D|fail) only [go_sem,↓reduceIte,seval,Option.getD_none,x.e])
  | ((with_reducible refine hKZ _ ?_);clear hKZ KZ)
  | (with_reducible refine hK _ ?_)
  | refine Q1 ?_
  | ((with_reducible refine qW (T:=TT) (b:=?_) ?_ ?_);rotate_left;exact rfl)
  | fail)
 all_goals (repeat (first|(revert hZ;refine Im.i ?_)|(revert hKZ;revert KZ;refine Kw.f ?_)|(revert hKY;revert KY;refine Kx.f ?_)))
 first
  | (with_reducible exact h.g;done)
  | (all_goals first|with_reducible exact Ch.e1 h r|with_reducible exact Ch.e2 h r|with_reducible exact Ch.e3 h r|with_reducible exact Ch.e4 h r|with_reducible exact Ch.e5 h r|with_reducible exact Ch.e6 h r|with_reducible exact Ch.e7 h r|with_reducible exact Ch.e8 h r|with_reducible exact Ch.e9 h r|with_reducible exact Ch.e10 h r|with_reducible exact Ch.e11 h r|with_reducible exact Ch.e12 h r)) (t:Ch T1 R1 T2 R2 T3 R3 T4 R4 T5 R5 T6 R6 T7 R7 T8 R8 T9 R9 T10 R10 T11 R11 T12 R12:=by first|with_reducible exact Ch.f0|with_reducible exact Ch.f1|with_reducible exact Ch.f2|with_reducible exact Ch.f3|with_reducible exact Ch.f4|with_reducible exact Ch.f5|with_reducible exact Ch.f6|with_reducible exact Ch.f7|with_reducible exact Ch.f8|with_reducible exact Ch.f9|with_reducible exact Ch.f10|with_reducible exact Ch.f11|with_reducible exact Ch.f12):A:=k x c t ⟨h⟩
theorem ZWp {A B X C T1 R1 T2 R2 T3 R3 T4 R4 T5 R5 T6 R6 T7 R7 T8 R8 T9 R9 T10 R10 T11 R11 T12 R12:Prop} (x:Ex X) (c:Ex C) (h:B) (k:Ex X→Ex C→Ch T1 R1 T2 R2 T3 R3 T4 R4 T5 R5 T6 R6 T7 R7 T8 R8 T9 R9 T10 R10 T11 R11 T12 R12→Gl B→A:=by
 intro x c r h
 repeat' (first
  | ((first
   | with_reducible refine qV tyOk fun KZ hKZ=>?_
   | refine Q2 ?_
   | ((with_reducible first|refine qS ?_ ?_|refine qT ?_ ?_|refine qU ?_ ?_)<;>(intro hZ;try simp only [NM] at hZ))
   | ((with_reducible refine CallJ.is ?_);(first|refine CallJ.pure (c.e.1 ..) ?_|refine CallJ.pure (c.e.2.1 ..) ?_|refine CallJ.pure (c.e.2.2.1 ..) ?_|refine CallJ.pure (c.e.2.2.2.1 ..) ?_|refine CallJ.pure (c.e.2.2.2.2.1 ..) ?_|refine CallJ.pure (c.e.2.2.2.2.2.1 ..) ?_|((apply CallJ.lentI);(focus (simp -dsimp (disch:=first|exact D|fail) only [go_sem,↓reduceIte,seval,Option.getD_none,x.e];rfl));(focus (first|exact (c.e.1 ..)|exact (c.e.2.1 ..)|exact (c.e.2.2.1 ..)|exact (c.e.2.2.2.1 ..)|exact (c.e.2.2.2.2.1 ..)|exact (c.e.2.2.2.2.2.1 ..))))))
   | ((with_reducible refine CallH.is ?_);(first|refine CallH.intro (c.e.1 ..) ?_|refine CallH.intro (c.e.2.1 ..) ?_|refine CallH.intro (c.e.2.2.1 ..) ?_|refine CallH.intro (c.e.2.2.2.1 ..) ?_|refine CallH.intro (c.e.2.2.2.2.1 ..) ?_|refine CallH.intro (c.e.2.2.2.2.2.1 ..) ?_)))<;>simp -dsimp (disch:=first|exact D|fail) only [go_sem,↓reduceIte,seval,Option.getD_none,x.e])
  | ((with_reducible refine hKZ _ ?_);clear hKZ KZ)
  | (with_reducible refine hK _ ?_)
  | refine Q1 ?_
  | ((with_reducible refine qW (T:=TT) (b:=?_) ?_ ?_);rotate_left;exact rfl)
  | ((with_reducible refine yS ?_ ?_)<;>(intro hZ;try simp only [NM] at hZ))
  | fail)
 all_goals (repeat (first|(revert hZ;refine Im.i ?_)|(revert hKZ;revert KZ;refine Kw.f ?_)|(revert hKY;revert KY;refine Kx.f ?_)))
 first
  | (with_reducible exact h.g;done)
  | (all_goals first|with_reducible exact Ch.e1 h r|with_reducible exact Ch.e2 h r|with_reducible exact Ch.e3 h r|with_reducible exact Ch.e4 h r|with_reducible exact Ch.e5 h r|with_reducible exact Ch.e6 h r|with_reducible exact Ch.e7 h r|with_reducible exact Ch.e8 h r|with_reducible exact Ch.e9 h r|with_reducible exact Ch.e10 h r|with_reducible exact Ch.e11 h r|with_reducible exact Ch.e12 h r)) (t:Ch T1 R1 T2 R2 T3 R3 T4 R4 T5 R5 T6 R6 T7 R7 T8 R8 T9 R9 T10 R10 T11 R11 T12 R12:=by first|with_reducible exact Ch.f0|with_reducible exact Ch.f1|with_reducible exact Ch.f2|with_reducible exact Ch.f3|with_reducible exact Ch.f4|with_reducible exact Ch.f5|with_reducible exact Ch.f6|with_reducible exact Ch.f7|with_reducible exact Ch.f8|with_reducible exact Ch.f9|with_reducible exact Ch.f10|with_reducible exact Ch.f11|with_reducible exact Ch.f12):A:=k x c t ⟨h⟩
theorem ZWpy {A B X C T1 R1 T2 R2 T3 R3 T4 R4 T5 R5 T6 R6 T7 R7 T8 R8 T9 R9 T10 R10 T11 R11 T12 R12:Prop} (x:Ex X) (c:Ex C) (h:B) (k:Ex X→Ex C→Ch T1 R1 T2 R2 T3 R3 T4 R4 T5 R5 T6 R6 T7 R7 T8 R8 T9 R9 T10 R10 T11 R11 T12 R12→Gl B→A:=by
 intro x c r h
 repeat' (first
  | ((first
   | with_reducible refine qV tyOk fun KZ hKZ=>?_
   | refine Q2 ?_
   | ((with_reducible first|refine qS ?_ ?_|refine qT ?_ ?_|refine qU ?_ ?_)<;>(intro hZ;try simp only [NM] at hZ))
   | with_reducible refine yD tyOk mixed 6 (by kernel_rfl) fun KZ hKZ=>?_
   | ((with_reducible refine CallJ.is ?_);(first|refine CallJ.pure (c.e.1 ..) ?_|refine CallJ.pure (c.e.2.1 ..) ?_|refine CallJ.pure (c.e.2.2.1 ..) ?_|refine CallJ.pure (c.e.2.2.2.1 ..) ?_|refine CallJ.pure (c.e.2.2.2.2.1 ..) ?_|refine CallJ.pure (c.e.2.2.2.2.2.1 ..) ?_|((apply CallJ.lentI);(focus (simp -dsimp (disch:=first|exact D|fail) only [go_sem,↓reduceIte,seval,Option.getD_none,x.e];rfl));(focus (first|exact (c.e.1 ..)|exact (c.e.2.1 ..)|exact (c.e.2.2.1 ..)|exact (c.e.2.2.2.1 ..)|exact (c.e.2.2.2.2.1 ..)|exact (c.e.2.2.2.2.2.1 ..))))))
   | ((with_reducible refine CallH.is ?_);(first|refine CallH.intro (c.e.1 ..) ?_|refine CallH.intro (c.e.2.1 ..) ?_|refine CallH.intro (c.e.2.2.1 ..) ?_|refine CallH.intro (c.e.2.2.2.1 ..) ?_|refine CallH.intro (c.e.2.2.2.2.1 ..) ?_|refine CallH.intro (c.e.2.2.2.2.2.1 ..) ?_)))<;>simp -dsimp (disch:=first|exact D|fail) only [go_sem,↓reduceIte,seval,Option.getD_none,x.e])
  | ((with_reducible refine hKZ _ ?_);clear hKZ KZ)
  | (with_reducible refine hK _ ?_)
  | refine Q1 ?_
  | ((with_reducible refine qW (T:=TT) (b:=?_) ?_ ?_);rotate_left;exact rfl)
  | ((with_reducible refine yS ?_ ?_)<;>(intro hZ;try simp only [NM] at hZ))
  | fail)
 all_goals (repeat (first|(revert hZ;refine Im.i ?_)|(revert hKZ;revert KZ;refine Kw.f ?_)|(revert hKY;revert KY;refine Kx.f ?_)))
 first
  | (with_reducible exact h.g;done)
  | (all_goals first|with_reducible exact Ch.e1 h r|with_reducible exact Ch.e2 h r|with_reducible exact Ch.e3 h r|with_reducible exact Ch.e4 h r|with_reducible exact Ch.e5 h r|with_reducible exact Ch.e6 h r|with_reducible exact Ch.e7 h r|with_reducible exact Ch.e8 h r|with_reducible exact Ch.e9 h r|with_reducible exact Ch.e10 h r|with_reducible exact Ch.e11 h r|with_reducible exact Ch.e12 h r)) (t:Ch T1 R1 T2 R2 T3 R3 T4 R4 T5 R5 T6 R6 T7 R7 T8 R8 T9 R9 T10 R10 T11 R11 T12 R12:=by first|with_reducible exact Ch.f0|with_reducible exact Ch.f1|with_reducible exact Ch.f2|with_reducible exact Ch.f3|with_reducible exact Ch.f4|with_reducible exact Ch.f5|with_reducible exact Ch.f6|with_reducible exact Ch.f7|with_reducible exact Ch.f8|with_reducible exact Ch.f9|with_reducible exact Ch.f10|with_reducible exact Ch.f11|with_reducible exact Ch.f12):A:=k x c t ⟨h⟩
theorem ZWy {A B X C T1 R1 T2 R2 T3 R3 T4 R4 T5 R5 T6 R6 T7 R7 T8 R8 T9 R9 T10 R10 T11 R11 T12 R12:Prop} (x:Ex X) (c:Ex C) (h:B) (k:Ex X→Ex C→Ch T1 R1 T2 R2 T3 R3 T4 R4 T5 R5 T6 R6 T7 R7 T8 R8 T9 R9 T10 R10 T11 R11 T12 R12→Gl B→A:=by
 intro x c r h
 repeat' (first
  | ((first
   | with_reducible refine qV tyOk fun KZ hKZ=>?_
   | refine Q2 ?_
   | with_reducible refine yD tyOk mixed 6 (by kernel_rfl) fun KZ hKZ=>?_
   | ((with_reducible refine CallJ.is ?_);(first|refine CallJ.pure (c.e.1 ..) ?_|refine CallJ.pure (c.e.2.1 ..) ?_|refine CallJ.pure (c.e.2.2.1 ..) ?_|refine CallJ.pure (c.e.2.2.2.1 ..) ?_|refine CallJ.pure (c.e.2.2.2.2.1 ..) ?_|refine CallJ.pure (c.e.2.2.2.2.2.1 ..) ?_|((apply CallJ.lentI);(focus (simp -dsimp (disch:=first|exact D|fail) only [go_sem,↓reduceIte,seval,Option.getD_none,x.e];rfl));(focus (first|exact (c.e.1 ..)|exact (c.e.2.1 ..)|exact (c.e.2.2.1 ..)|exact (c.e.2.2.2.1 ..)|exact (c.e.2.2.2.2.1 ..)|exact (c.e.2.2.2.2.2.1 ..))))))
   | ((with_reducible refine CallH.is ?_);(first|refine CallH.intro (c.e.1 ..) ?_|refine CallH.intro (c.e.2.1 ..) ?_|refine CallH.intro (c.e.2.2.1 ..) ?_|refine CallH.intro (c.e.2.2.2.1 ..) ?_|refine CallH.intro (c.e.2.2.2.2.1 ..) ?_|refine CallH.intro (c.e.2.2.2.2.2.1 ..) ?_)))<;>simp -dsimp (disch:=first|exact D|fail) only [go_sem,↓reduceIte,seval,Option.getD_none,x.e])
  | ((with_reducible refine hKZ _ ?_);clear hKZ KZ)
  | (with_reducible refine hK _ ?_)
  | refine Q1 ?_
  | ((with_reducible refine qW (T:=TT) (b:=?_) ?_ ?_);rotate_left;exact rfl)
  | fail)
 all_goals (repeat (first|(revert hZ;refine Im.i ?_)|(revert hKZ;revert KZ;refine Kw.f ?_)|(revert hKY;revert KY;refine Kx.f ?_)))
 first
  | (with_reducible exact h.g;done)
  | (all_goals first|with_reducible exact Ch.e1 h r|with_reducible exact Ch.e2 h r|with_reducible exact Ch.e3 h r|with_reducible exact Ch.e4 h r|with_reducible exact Ch.e5 h r|with_reducible exact Ch.e6 h r|with_reducible exact Ch.e7 h r|with_reducible exact Ch.e8 h r|with_reducible exact Ch.e9 h r|with_reducible exact Ch.e10 h r|with_reducible exact Ch.e11 h r|with_reducible exact Ch.e12 h r)) (t:Ch T1 R1 T2 R2 T3 R3 T4 R4 T5 R5 T6 R6 T7 R7 T8 R8 T9 R9 T10 R10 T11 R11 T12 R12:=by first|with_reducible exact Ch.f0|with_reducible exact Ch.f1|with_reducible exact Ch.f2|with_reducible exact Ch.f3|with_reducible exact Ch.f4|with_reducible exact Ch.f5|with_reducible exact Ch.f6|with_reducible exact Ch.f7|with_reducible exact Ch.f8|with_reducible exact Ch.f9|with_reducible exact Ch.f10|with_reducible exact Ch.f11|with_reducible exact Ch.f12):A:=k x c t ⟨h⟩
end Go.Bw
