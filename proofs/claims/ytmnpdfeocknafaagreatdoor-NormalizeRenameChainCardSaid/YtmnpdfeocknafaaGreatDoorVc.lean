/- Proved: contracts of functions of this translation, for every state, and what they rest on; bounds stand ahead. -/
import Derived.Lib.AppendZerosOnto
import Derived.KernelRfl
import Derived.Test.YtmnpdfeocknafaaGreatDoorProg
import Derived.Laws.MakeOwn
import Derived.Carry
import Derived.MapKept
import Derived.Test.YtmnpdfeocknafaaGreatDoorVb
set_option linter.unusedSimpArgs false
set_option linter.unusedVariables false
namespace Go.Bw
open Go.RowKit
section
variable {P:Program} {w0:World} {m0:Mem} {s s':St} {a:Act} {w:World} {m:Mem} {ω:Wh} {F0:Home} {T:TypeId→Option TI}
def rU (D:Nat→Prop) (a ag:Act):Prop:=ag.defers=a.defers∧ag.tmps.size=a.tmps.size∧∀d,¬ D d→ag.tmps[d]?=a.tmps[d]?
theorem rU.refl (D:Nat→Prop) (a:Act):rU D a a:=⟨rfl,rfl,fun _ _=>rfl⟩
theorem rU.put {D:Nat→Prop} {a ag:Act} (h:rU D a ag) (d:Option Tmp) (v:Value):rU D (a.put d v) (ag.put d v):=by
 cases d with
 | none=>exact h
 | some d =>
  refine ⟨h.1,by simpa [Act.put] using h.2.1,fun e he=>?_⟩
  simp only [Act.put,Pa,h.2.1,h.2.2 e he]
theorem rU.KK {D D':Nat→Prop} {a ag:Act} (h:rU D a ag) (d:Option Tmp) (v:Value) (hD:∀e,¬ D' e→D e→d=some e):rU D' (a.put d v) (ag.put d v):=by
 cases d with
 | none =>
  refine ⟨h.1,h.2.1,fun e he=>h.2.2 e fun hd=>?_⟩
  cases hD e he hd
 | some d =>
  refine ⟨h.1,by simpa [Act.put] using h.2.1,fun e he=>?_⟩
  simp only [Act.put,Pa,h.2.1]
  by_cases hde:d=e
  ·simp [hde]
  ·rw [if_neg hde,if_neg hde]
   exact h.2.2 e fun hd=>hde (by have:=hD e he hd;injection this)
theorem rU.JV {D:Nat→Prop} {a ag:Act} (h:rU D a ag) (d:Option Tmp) (v:Value) (hD:∀e,d=some e→D e):rU D a (ag.put d v):=by
 cases d with
 | none=>exact h
 | some d =>
  refine ⟨h.1,by simpa [Act.put] using h.2.1,fun e he=>?_⟩
  have hde:d≠e:=fun hh=>he (hD e (by rw [hh]))
  simp only [Act.put,Pa,if_neg hde,h.2.2 e he]
theorem EU {D:Nat→Prop} {o:Oper} {a ag:Act} {next:Act→World→Prop} {Q:Exit→Act→World→Prop} (he:execOp a.eval o=execOp ag.eval o) (hA:rU D a ag)
  (h:o.wp P ag w (fun a' w'=>∀ar,rU D ar a'→next ar w') (fun e a' w'=>∀ar,rU D ar a'→Q e ar w')):o.wp P a w next Q:=by
 unfold Oper.wp at h ⊢
 rw [he]
 unfold Oper.upon at h ⊢
 split at h
 ·exact h _ (hA.put _ _)
 ·exact h _ (hA.put _ _)
 ·rename_i d w1 _
  have h1:rU D {a with defers:=d::a.defers} {ag with defers:=d::ag.defers}:=⟨by show d::ag.defers=d::a.defers;rw [hA.1],hA.2.1,hA.2.2⟩
  exact h _ (h1.put _ _)
 ·refine h.mono fun e w' hr=>?_
  cases e with
  | returned v=>exact hr _ (hA.put _ _)
  | panicked c=>exact hr _ hA
  | outgrown =>
   obtain ⟨a1,w1,h1⟩:=hr
   exact ⟨a1,w1,h1 _ (rU.refl _ _)⟩
 ·exact h.mono fun v w' hr=>hr _ (hA.put _ _)
 ·exact h _ hA
 ·exact h.elim
theorem KL {D:Nat→Prop} {ops:Array Oper} {o:Oper} {a ag:Act} (hA:rU D a ag) (hs:∀cs b,o.op≠.select cs b) (hl:∀t∈o.looksAt ops,¬ D t):execOp a.eval o=execOp ag.eval o:=by
 refine execOp_congr o hs fun x hx=>?_
 cases x with
 | tmp t =>
  have:=hA.2.2 t (hl t (GC (by simpa using hx)))
  simp only [Act.eval,vt,this]
 | _=>rfl
theorem KM {D:Nat→Prop} {ops:Array Oper} {o:Oper} {a ag:Act} (hA:rU D a ag) (hl:∀t∈o.looksAt ops,¬ D t):Region.wanted o (yielded ops a.tmps)=Region.wanted o (yielded ops ag.tmps):=by
 unfold Region.wanted
 cases hg:o.guard with
 | none=>rfl
 | some p =>
  obtain ⟨j,b⟩:=p
  have:yielded ops a.tmps j=yielded ops ag.tmps j:=by
   unfold yielded
   cases hd:(ops[j]?).bind (·.dst) with
   | none=>rfl
   | some t =>
    have:=hA.2.2 t (hl t (by simp [Oper.looksAt,hg,hd]))
    simp only [dJ,this]
  simp only [this]
def wC (t:St) (d:Option Tmp) (y:A):Prop:=match d with|some d=>d<t.n∧look t.env d=some y|none=>True
theorem CI.same (h:CI P w0 m0 F0 s a w m ω) {d:Option Tmp} {y:A} {v:Value} (hs:wC s d y) (hv:sO m ω v y):CI P w0 m0 F0 s (a.put d v) w m ω:=by
 cases d with
 | none=>exact h
 | some d =>
  obtain ⟨h1,h2⟩:=hs
  refine (h.put h1 hv).ext rfl (fun t=>?_) rfl rfl
  show look s.env t=if d=t then some y else look s.env t
  split
  ·rename_i e;subst e;exact h2
  ·rfl
def qK (P:Program) (T:TypeId→Option TI) (ops:Array Oper):List Oper→St→Prop
 | [],_=>True
 | o::l,t=>(match guardOf ops t o with|some true=>bF P T o t (wC t o.dst)|some false=>wC t o.dst (.cR [])|none=>False)∧qK P T ops l t
theorem qK.get {ops:Array Oper} {t:St} {o:Oper}:∀{l:List Oper},qK P T ops l t→o∈l→(match guardOf ops t o with|some true=>bF P T o t (wC t o.dst)|some false=>wC t o.dst (.cR [])|none=>False)
 | x::l,h,ho=>by
  rcases List.mem_cons.1 ho with rfl|ho
  ·exact h.1
  ·exact qK.get h.2 ho
def Cs (P:Program) (T:TypeId→Option TI) (ops:Array Oper) (lq:List Oper):List Oper→St→(St→Prop)→Prop
 | [],t,K=>qK P T ops lq t∧K t
 | o::l,t,K=>qK P T ops lq t∧bL P T ops [o] t (fun t'=>Cs P T ops lq l t' K)
theorem Cs.step {ops:Array Oper} {lq l:List Oper} {o:Oper} {t:St} {K:St→Prop} (h1:qK P T ops lq t) (h2:∀K2:St→Prop,(∀t',Cs P T ops lq l t' K→K2 t')→bL P T ops [o] t K2):Cs P T ops lq (o::l) t K :=
 ⟨h1,h2 _ fun _ h=>h⟩
def noSelect (o:Oper):Bool:=match o.op with|.select ..=>false|_=>true
def bb (l:List Oper):List (Nat×Nat)→List Oper
 | []=>[]
 | p::r=>(l.drop p.1).take p.2++bb l r
theorem gD {ops:Array Oper} (t:St):qK P T ops [] t=True:=rfl
theorem gE {ops:Array Oper} {d:Option Tmp} {op:Op} {ty:TypeId} {pos:String} {af:Array Edge} {l:List Oper} (t:St):qK P T ops (⟨d,op,ty,pos,af,Option.none⟩::l) t=(bF P T ⟨d,op,ty,pos,af,Option.none⟩ t (wC t d)∧qK P T ops l t):=rfl
theorem S0 (kb kr:List Nat) (s:St) (f:FuncId) (i o i' o':Nat):pV kb kr s (.bD f [.ptr i o,.ptr i' o'])=.bD f [pV kb kr s (.ptr i o),pV kb kr s (.ptr i' o')]:=rfl
theorem gF (t:St) (d:Nat) (y:A):wC t (some d) y=(d<t.n∧look t.env d=some y):=rfl
theorem gG (t:St) (y:A):wC t Option.none y=True:=rfl
end
end Go.Bw
namespace Go.Bw
variable {P:Program} {w0:World} {m0:Mem} {F0:Home}
theorem St.S1 (ts:List Nat) (s:St):St.le ⟨s.n,uw ts s.env,s.box,s.row⟩ s:=by
 refine ⟨rfl,fun t x hx=>?_,fun _ _ h=>h,fun _ _ h=>h⟩
 simp only [Ck] at hx
 split at hx
 ·exact hx
 ·cases hx
theorem ab.keep {Q:Exit→St→Prop} {s:St} {c:Code} (ts:List Nat) (h:ab P w0 m0 F0 c Q ⟨s.n,uw ts s.env,s.box,s.row⟩):ab P w0 m0 F0 c Q s :=
 ab.Dw (St.S1 ts s) h
end Go.Bw
namespace Go.Bw
open Go.RowKit
variable {P:Program} {T:TypeId→Option TI} {w0:World} {m0:Mem} {F0:Home} {s:St} {ω:Wh}
def Az (P:Program) (T:TypeId→Option TI) (ops:Array Oper) (t:St) (o:Oper):Prop:=match guardOf ops t o with
 | some true=>∃x,wC t o.dst x∧bF P T o t (fun y=>y=x)
 | some false=>wC t o.dst (.cR [])
 | none=>False
theorem qK.x {ops:Array Oper} {t:St} {l:List Oper} (h:qK P T ops l t):∀o∈l,Az P T ops t o:=by
 intro o ho
 have h1:=qK.get h ho
 unfold Az
 cases hg:guardOf ops t o with
 | none=>rw [hg] at h1;exact h1.elim
 | some b =>
  rw [hg] at h1
  cases b with
  | true =>
   obtain ⟨x,h2,h3⟩:=L2 h1
   exact ⟨x,h2,h3⟩
  | false=>exact h1
def ya (P:Program) (o:Oper) (s:St) (K:St→Prop):Prop:=∀(w0:World) (m0:Mem) (F0:Home) (a:Act) (w:World) (m:Mem) (ω:Wh),CI P w0 m0 F0 s a w m ω→As P w0 m0 F0 o a w K
def Ic (P:Program) (T:TypeId→Option TI) (ops:Array Oper) (o:Oper) (s:St) (K:St→Prop):Prop:=(o.guard=none∧ya P o s K)∨bL P T ops [o] s K
structure w9 where
 op:Oper
 free:List Oper
 rest:List Oper
def an (P:Program) (T:TypeId→Option TI) (ops:Array Oper):List w9→St→(St→Prop)→Prop
 | [],t,K=>K t
 | p::l,t,K=>Ic P T ops p.op t (fun t'=>cQ P T ops p.free t' (fun t''=>qK P T ops p.rest t''∧an P T ops l t'' K))
def S2 (P:Program) (T:TypeId→Option TI) (ops:Array Oper) (lq:List Oper) (l:List w9) (t:St) (K:St→Prop):Prop:=(∀o∈lq,Az P T ops t o)∧an P T ops l t K
def sr (ops:Array Oper) (ce:List Nat) (dep:Nat) (l1:List Nat) (i:Nat):Bool:=ce.all fun j=>!(bD ops dep i).elem j||l1.elem j
def xG (ops:Array Oper) (p:Nat→Bool):List Oper:=(List.range ops.size).filterMap fun i=>if p i then ops[i]? else none
theorem uQ {ops:Array Oper} {p:Nat→Bool} {o:Oper}:o∈xG ops p↔∃i,p i=true∧ops[i]?=some o:=by
 unfold xG
 simp only [List.mem_filterMap,AX]
 constructor
 ·rintro ⟨i,hi,ho⟩
  split at ho
  ·rename_i hn
   exact ⟨i,hn,ho⟩
  ·cases ho
 ·rintro ⟨i,hi,ho⟩
  refine ⟨i,(Array.getElem?_eq_some_iff.1 ho).1,?_⟩
  rw [if_pos hi]
  exact ho
def Bz (ops:Array Oper) (ce:List Nat) (dep:Nat):List Oper:=xG ops fun i=>!ce.elem i&&sr ops ce dep [] i
def DF (ops:Array Oper) (ce:List Nat) (dep:Nat) (l1:List Nat) (k:Nat):List Oper:=xG ops fun i=>!ce.elem i&&!sr ops ce dep l1 i&&sr ops ce dep (l1++[k]) i
def DG (ops:Array Oper) (ce:List Nat) (dep:Nat) (l1:List Nat) (k:Nat):List Oper:=xG ops fun i=>!ce.elem i&&sr ops ce dep l1 i&&!(l1++[k]).any fun j=>(bD ops dep j).elem i
def Fv (ops:Array Oper) (ce:List Nat) (dep:Nat) (l1:List Nat):List Oper:=xG ops fun i=>!ce.elem i&&sr ops ce dep l1 i&&!l1.any fun j=>(bD ops dep j).elem i
def yO (ops:Array Oper) (ce:List Nat) (dep:Nat):List Nat→List Nat→List w9
 | _,[]=>[]
 | l1,j::l2=>(match ops[j]? with|some o=>[⟨o,DF ops ce dep l1 j,DG ops ce dep l1 j⟩]|none=>[])++yO ops ce dep (l1++[j]) l2
def Fw (ops:Array Oper) (o o':Oper):Prop:=(∀t∈o.looksAt ops,o'.dst≠some t)∧∀d,o.dst=some d→o'.dst≠some d
theorem DH (hT:pR P T) {ops:Array Oper} {w:World} {D:Nat→Prop} {a0:Act}:∀(l:List Oper) (s:St) (ps:List (Option Tmp×A)) (a:Act) (m:Mem),(∀o∈l,wi o=true∧∀d,o.dst=some d→D d)→ps.length=l.length →
  (∀(i:Nat) (o:Oper),l[i]?=some o→∃x,ps[i]?=some (o.dst,x)∧Br P T ops (pM s (ps.take i)) o x)→CI P w0 m0 F0 s a w m ω→rU D a0 a→∃ag m',CI P w0 m0 F0 (pM s ps) ag w m' ω∧rU D a0 ag
 | [],s,ps,a,m,_,hl,_,hC,hA=>by
  have:ps=[]:=List.length_eq_zero_iff.1 (by simpa using hl)
  subst this
  exact ⟨a,m,hC,hA⟩
 | o::l,s,ps,a,m,hp,hl,hs,hC,hA=>by
  obtain ⟨p1,p2⟩:=hp o (by simp)
  obtain ⟨x,h1,h2⟩:=hs 0 o rfl
  cases ps with
  | nil=>simp at h1
  | cons p ps =>
   simp only [c8,Option.some.injEq] at h1
   subst h1
   have hrest:=fun (a:Act) (m:Mem) (hC:CI P w0 m0 F0 (s.fw o.dst x) a w m ω) (hA:rU D a0 a)=>DH hT l (s.fw o.dst x) ps a m (fun o ho=>hp o (by simp [ho])) (by simpa using hl) (fun i o' ho'=>by
    obtain ⟨y,h3,h4⟩:=hs (i+1) o' (by simpa using ho')
    exact ⟨y,by simpa using h3,by simpa [pM] using h4⟩) hC hA
   simp only [c9,pM] at h2
   obtain ⟨h0,⟨hg,hv⟩|⟨hg,rfl⟩⟩:=h2
   ·obtain ⟨y,rfl,hG⟩:=CO hT hv hC
    obtain ⟨v,m',_,hC',hv'⟩:=hG.2 p1
    exact hrest _ m' (hC'.fw h0 hv') (hA.JV _ _ p2)
   ·exact hrest _ m (hC.fw h0 w7) (hA.JV _ _ p2)
theorem Fx {ops:Array Oper} {l:List Oper} {ps:List (Option Tmp×A)} {s:St} (hl:ps.length=l.length) (hp:l.Pairwise (Fw ops)) (hself:∀o∈l,∀t∈o.looksAt ops,o.dst≠some t)
  (hs:∀(i:Nat) (o:Oper),l[i]?=some o→∃x,ps[i]?=some (o.dst,x)∧Br P T ops (pM s (ps.take i)) o x) :
  ∀o∈l,Az P T ops (pM s ps) o:=by
 intro o ho
 obtain ⟨i,hi,rfl⟩:=List.mem_iff_getElem.1 ho
 obtain ⟨x,h1,h2⟩:=hs i l[i] (ig hi)
 have hi':i<ps.length:=by omega
 have hpi:ps[i]=(l[i].dst,x):=by rw [ig hi'] at h1;injection h1
 have hsplit:ps=ps.take i++(l[i].dst,x)::ps.drop (i+1):=by
  rw [←hpi,XI,yK]
 have hdst:∀p∈ps.drop (i+1),∃o',Fw ops l[i] o'∧p.1=o'.dst:=by
  intro p hp'
  obtain ⟨k,hk,rfl⟩:=List.mem_iff_getElem.1 hp'
  rw [wu] at hk
  have hk':i+1+k<l.length:=by omega
  obtain ⟨y,h3,_⟩:=hs (i+1+k) l[i+1+k] (ig hk')
  refine ⟨l[i+1+k],List.pairwise_iff_getElem.1 hp i (i+1+k) hi hk' (by omega),?_⟩
  rw [ig (by omega)] at h3
  injection h3 with h3
  rw [List.getElem_drop,h3]
 have hlook:∀t∈l[i].looksAt ops,look (pM s (ps.take i)).env t=look (pM s ps).env t:=by
  intro t ht
  conv=>rhs;rw [hsplit,Hg]
  refine (Hh fun p hp' e=>?_).symm
  rcases List.mem_cons.1 hp' with rfl|hp'
  ·exact hself _ ho t ht e
  ·obtain ⟨o',h3,h4⟩:=hdst p hp'
   exact h3.1 t ht (h4▸e)
 have hsame:wC (pM s ps) l[i].dst x:=by
  unfold wC
  split
  ·rename_i d hd
   have h0:=h2.1
   rw [hd] at h0
   refine ⟨by rw [xE];have:d<(pM s (ps.take i)).n:=h0;rwa [xE] at this,?_⟩
   rw [hsplit,Hg,pM,Hh fun p hp' e=>by
    obtain ⟨o',h3,h4⟩:=hdst p hp'
    exact h3.2 d hd (h4▸e)]
   rw [hd]
   show (if d=d then some x else _)=some x
   rw [if_pos rfl]
  ·trivial
 unfold Az
 rw [←H2 hlook]
 have hbox:(pM s (ps.take i)).box=(pM s ps).box:=by rw [yB,yB]
 have hrow:(pM s ps).row=(pM s (ps.take i)).row:=by rw [xT,xT]
 obtain ⟨_,⟨hg,hv⟩|⟨hg,rfl⟩⟩:=h2
 ·rw [hg]
  have hv2:=L1 (s':=pM s ps) (fun id ls h=>by rw [←hbox];exact h) hrow (fun y hy ty=>KI (fun t e=>hlook t (GC (e▸hy))) ty) hv
  exact ⟨x,hsame,hv2⟩
 ·rw [hg]
  exact hsame
def Ct (ops:Array Oper) (ce:List Nat) (dep:Nat):Bool :=
 (List.range ops.size).all fun i=>(ce.elem i||((ops[i]?).map wi).getD true)&&((ops[i]?).map noSelect).getD true &&
  (List.range ops.size).all fun j=>(decide (j<i)||ce.elem j||match qm ops j with|none=>true|some t=>!(looksAt ops i).elem t)&&(!(ce.elem i&&ce.elem j&&decide (j<i))||(bD ops dep i).elem j)
structure Ml (ops:Array Oper) (ce:List Nat) (dep:Nat):Prop where
 plain:∀(i:Nat) (o:Oper),ops[i]?=some o→i ∉ ce→wi o=true
 sG:∀(i:Nat) (o:Oper),ops[i]?=some o→∀cs b,o.op≠.select cs b
 later:∀i j t,i<ops.size→j<ops.size→i≤j→j ∉ ce→qm ops j=some t→t ∉ looksAt ops i
 chain:∀i j,i<ops.size→j<ops.size→i∈ce→j∈ce→j<i→j∈bD ops dep i
theorem S3 {ops:Array Oper} {ce:List Nat} {dep:Nat} (h:Ct ops ce dep=true):Ml ops ce dep:=by
 unfold Ct at h
 simp only [zC,AX,qa] at h
 refine ⟨fun i o ho hi=>?_,fun i o ho cs b hb=>?_,fun i j t hi hj hij hjc ht hl=>?_,fun i j hi hj h1 h2 hlt=>?_⟩
 ·have hin:i<ops.size:=(Array.getElem?_eq_some_iff.1 ho).1
  have h1:=(h i hin).1.1
  rw [ho] at h1
  simp only [dv,eE,wO] at h1
  rcases h1 with h1|h1
  ·exact absurd (by simpa using h1) hi
  ·exact h1
 ·have hin:i<ops.size:=(Array.getElem?_eq_some_iff.1 ho).1
  have h1:=(h i hin).1.2
  rw [ho] at h1
  simp only [dv,eE,noSelect,hb] at h1
  cases h1
 ·have h1:=((h i hi).2 j hj).1
  rw [ht] at h1
  simp only [wO,uv] at h1
  rcases h1 with (h1|h1)|h1
  ·omega
  ·exact hjc (by simpa using h1)
  ·have:(looksAt ops i).elem t=true:=by simpa using hl
   rw [this] at h1
   cases h1
 ·have h3:=((h i hi).2 j hj).2
  have e1:ce.elem i=true:=by simpa using h1
  have e2:ce.elem j=true:=by simpa using h2
  rw [e1,e2] at h3
  simp only [hlt,fO,Am,fi,Rh] at h3
  simpa using h3
theorem Mm {ops:Array Oper} {ce:List Nat} {dep:Nat} (F:BQ ops ops.size dep) (G:Ml ops ce dep) (p:Nat→Bool) (hp:∀i,p i=true→ce.elem i=false):(xG ops p).Pairwise (Fw ops)∧∀o∈xG ops p,∀t∈o.looksAt ops,o.dst≠some t:=by
 constructor
 ·unfold xG
  refine XJ _ (fun i j hij o ho o' ho'=>?_) XK
  split at ho
  case isFalse=>cases ho
  split at ho'
  case isFalse=>cases ho'
  rename_i hpi hpj
  have hjc:j ∉ ce:=by simpa using hp j hpj
  have hi:i<ops.size:=(Array.getElem?_eq_some_iff.1 ho).1
  have hj:j<ops.size:=(Array.getElem?_eq_some_iff.1 ho').1
  refine ⟨fun t ht e=>?_,fun d hd e=>?_⟩
  ·exact G.later i j t hi hj (by omega) hjc (by simp [qm,ho',e]) (by simpa [looksAt,ho] using ht)
  ·exact F.apart i j hi hj (by omega) d (by simp [qm,ho,hd]) (by simp [qm,ho',e])
 ·intro o ho t ht e
  obtain ⟨i,hpi,ho⟩:=uQ.1 ho
  have hi:i<ops.size:=(Array.getElem?_eq_some_iff.1 ho).1
  have hic:i ∉ ce:=by simpa using hp i hpi
  exact G.later i i t hi hi (br _) hic (by simp [qm,ho,e]) (by simpa [looksAt,ho] using ht)
theorem zI {ops:Array Oper} {ce:List Nat} {dep:Nat} {l1:List Nat} {i:Nat}:sr ops ce dep l1 i=true↔∀j∈ce,j∈bD ops dep i→j∈l1:=by
 unfold sr
 simp only [zC,wO,wY,E6,AK,uv]
 exact forall₂_congr fun j _=>⟨fun h h2=>h.resolve_left fun h3=>h3 h2,fun h=>Decidable.or_iff_not_imp_left.2 fun h2=>h (Decidable.of_not_not h2)⟩
theorem ab.S4 (hT:pR P T) (hm:P.follows .mixedOrders=true) {Q:Exit→St→Prop} {id:Nat} {ops:Array Oper} (ce:List Nat) (dep:Nat) (hord:ce.Pairwise (·<·)) (hchk:wj ops ops.size dep=true) (hch:Ct ops ce dep=true)
  (h:cQ P T ops (Bz ops ce dep) s fun s'=>an P T ops (yO ops ce dep [] ce) s' (Q .normal)):ab P w0 m0 F0 (.region id ops true) Q s:=by
 intro a w hc
 have F:=GD hchk
 have G:=S3 hch
 obtain ⟨m,ω,hC⟩:=hc
 refine wp_region_any hm ?_
 have hg0:∀i,(Array.replicate ops.size false).getD i false=false:=fun i=>by
  rw [vt,Ky]
  split<;>rfl
 let D:(Nat→Bool)→List Nat→Nat→Prop:=fun S l1 d=>∃i,i ∉ ce∧sr ops ce dep l1 i=true∧S i=false∧qm ops i=some d
 have hqa:∀(l1:List Nat) (o:Oper) (i:Nat),i ∉ ce→ops[i]?=some o→sr ops ce dep l1 i=true→(∀j∈l1,i ∉ bD ops dep j)→o∈Fv ops ce dep l1:=by
  intro l1 o i hi ho hu hj
  refine uQ.2 ⟨i,?_,ho⟩
  have h1:ce.elem i=false:=by simpa using hi
  have h2:(l1.any fun j=>(bD ops dep j).elem i)=false:=by
   rw [Cd]
   intro j hj'
   simpa using hj j hj'
  rw [h1,h2,hu]
  rfl
 refine JT hT F (K:=Q .normal) (Q:=Aa P w0 m0 F0 Q)
  (C:=fun S a w=>∃l1 l2 t,ce=l1++l2∧(∀j∈l1,S j=true)∧(∀j∈l2,S j=false)∧S2 P T ops (Fv ops ce dep l1) (yO ops ce dep l1 l2) t (Q .normal)∧∃ag,ry P w0 m0 F0 t ag w∧rU (D S l1) a ag)
  (fun s a w h1 h2=>⟨s,h1,h2⟩) (fun S i a w o ho hi hSi htl hcl hcl2 hC' K' Q' hK=>?_) (fun S a w hall htl hC'=>?_) ops.size _ a _ 0 (by omega) (by simp) ?_ ?_ ?_ ?_
 ·obtain ⟨l1,l2,t,e1,e2,e3,hV,ag,⟨m,ω,hA⟩,hag⟩:=hC'
  have hin:i<ops.size:=(Array.getElem?_eq_some_iff.1 ho).1
  have hdone:∀j∈ce,S j=true→j∈l1:=by
   intro j hj hSj
   rw [e1] at hj
   rcases List.mem_append.1 hj with h|h
   ·exact h
   ·rw [e3 j h] at hSj;cases hSj
  have hlook:∀t∈o.looksAt ops,¬ D S l1 t:=by
   rintro t ht ⟨j,j1,_,j2,j3⟩
   have htl':t∈looksAt ops i:=by simpa [looksAt,ho] using ht
   have hjn:j<ops.size:=by
    rcases cV j ops.size with h|h
    ·exact h
    ·simp [qm,xR h] at j3
   rcases cV j i with hlt|hge
   ·have:=hcl j ((F.reads i j t hin hjn (by omega) j3 htl').1 hlt)
    rw [j2] at this
    cases this
   ·exact G.later i j t hin hjn hge j1 j3 htl'
  have hsel:=G.sG i o ho
  have hex:=KL hag hsel hlook
  have hwa:=KM hag hlook
  rw [hwa]
  by_cases hic:i∈ce
  ·
   have hi2:i∈l2:=by
    rw [e1] at hic
    rcases List.mem_append.1 hic with h|h
    ·have:=e2 i h;rw [hSi] at this;cases this
    ·exact h
   obtain ⟨k,l2',rfl⟩:∃k l2',l2=k::l2':=by
    cases l2 with
    | nil=>cases hi2
    | cons k l=>exact ⟨k,l,rfl⟩
   have hord2:(k::l2').Pairwise (·<·):=by rw [e1] at hord;exact (List.pairwise_append.1 hord).2.1
   have hki:k=i:=by
    rcases List.mem_cons.1 hi2 with h|h
    ·exact h.symm
    ·have hlt:=(List.pairwise_cons.1 hord2).1 i h
     have:=hcl k (G.chain i k hin (by omega) hic (by rw [e1];simp) hlt)
     rw [e3 k (by simp)] at this
     cases this
   subst hki
   have hnot:∀j∈l2',j≠k:=fun j hj e=>by have:=(List.pairwise_cons.1 hord2).1 j hj;omega
   have hV:=hV.2
   simp only [yO,ho,aW,aZ,an] at hV
   have hunew:∀i',i' ∉ ce→sr ops ce dep l1 i'=false→S i'=false:=by
    intro i' _ hu
    cases hS:S i' with
    | false=>rfl
    | true =>
     have:sr ops ce dep l1 i'=true:=zI.2 fun j hj hjc=>hdone j hj (hcl2 i' hS j hjc)
     rw [hu] at this
     cases this
   have hDD:∀d,D S l1 d→D (fun j=>if j=k then true else S j) (l1++[k]) d:=by
    rintro d ⟨j,j1,ju,j2,j3⟩
    have hjk:j≠k:=fun e=>j1 (e▸hic)
    exact ⟨j,j1,zI.2 fun q hq hqc=>AJ _ (zI.1 ju q hq hqc),by simpa [hjk] using j2,j3⟩
   have hnext:∀t' ar ag' w',cQ P T ops (DF ops ce dep l1 k) t' (fun t''=>qK P T ops (DG ops ce dep l1 k) t''∧an P T ops (yO ops ce dep (l1++[k]) l2') t'' (Q .normal))→ry P w0 m0 F0 t' ag' w'→rU (D S l1) ar ag'→K' ar w':=by
    rintro t' ar ag' w' h1 ⟨m2,ω2,h2⟩ h3
    obtain ⟨ps,hl,⟨hst,hK2⟩,hs⟩:=B3 _ _ h1
    obtain ⟨hidx,hself⟩:=Mm F G (fun i=>!ce.elem i&&!sr ops ce dep l1 i&&sr ops ce dep (l1++[k]) i) (fun i hi=>by simp only [qa,wY] at hi;exact hi.1.1)
    have hstab:=Fx hl hidx hself hs
    have h3':rU (D (fun j=>if j=k then true else S j) (l1++[k])) ar ag':=⟨h3.1,h3.2.1,fun d hd=>h3.2.2 d fun h=>hd (hDD d h)⟩
    obtain ⟨ag2,m',h4,h5⟩:=DH (D:=D (fun j=>if j=k then true else S j) (l1++[k])) (a0:=ar) hT _ t' ps ag' m2 (fun o' ho'=>by
     obtain ⟨i',hi',ho'⟩:=uQ.1 ho'
     simp only [qa,wY,E6,AK] at hi'
     obtain ⟨⟨q1,q2⟩,q3⟩:=hi'
     have hik:i'≠k:=fun e=>q1 (e▸hic)
     exact ⟨G.plain i' o' ho' q1,fun d hd=>⟨i',q1,q3,by simpa [hik] using hunew i' q1 q2,by simp [qm,ho',hd]⟩⟩) hl hs h2 h3'
    refine hK _ _ ⟨l1++[k],l2',pM t' ps,by rw [e1];simp,fun j hj=>?_,fun j hj=>?_,⟨fun o' ho'=>?_,hK2⟩,ag2,⟨m',ω2,h4⟩,h5⟩
    ·rcases List.mem_append.1 hj with h|h
     ·simp only [e2 j h,ite_self]
     ·have:j=k:=by simpa using h
      simp [this]
    ·simp only [hnot j hj,if_false];exact e3 j (by simp [hj])
    ·obtain ⟨i',hi',hoo⟩:=uQ.1 ho'
     simp only [qa] at hi'
     obtain ⟨⟨q1,q2⟩,q3⟩:=hi'
     cases hu:sr ops ce dep l1 i' with
     | true=>exact hst.x o' (uQ.2 ⟨i',by simp only [q1,hu,q3,Am],hoo⟩)
     | false=>exact hstab o' (uQ.2 ⟨i',by simp only [q1,hu,q2,fB,Am],hoo⟩)
   rcases hV with ⟨hg,hV⟩|hV
   ·have hw:Region.wanted o (yielded ops ag.tmps)=true:=by simp [Region.wanted,hg]
    rw [if_pos hw]
    exact .inl (EU hex hag (hV _ _ _ _ _ _ _ hA _ _ fun s' a' w' h1 h2 ar har=>hnext s' ar a' w' h1 h2 har))
   simp only [bL] at hV
   split at hV
   ·rename_i hg
    rw [if_pos (uq hA hg)]
    exact .inl (EU hex hag (Ba hT hV hA _ _ fun s' a' w' h1 h2 ar har=>hnext s' ar a' w' h1 h2 har))
   ·rename_i hg
    rw [if_neg (by rw [uq hA hg];simp)]
    obtain ⟨h1,h2⟩:=yM hV
    exact hnext _ _ (ag.put o.dst undef) w h2 ⟨m,ω,hA.fw h1 w7⟩ (hag.put _ _)
   ·cases hV
  ·
   have hun:sr ops ce dep l1 i=true:=zI.2 fun j hj hjc=>hdone j hj (hcl j hjc)
   have hst:=hV.1 o (hqa l1 o i hic ho hun fun j hj hij=>by
    have:=hcl2 j (e2 j hj) i hij
    rw [hSi] at this
    cases this)
   have hfin:∀v m',CI P w0 m0 F0 t (ag.put o.dst v) w m' ω→K' (a.put o.dst v) w:=fun v m' h1 =>
    hK _ _ ⟨l1,l2,t,e1,fun j hj=>by simp only [e2 j hj,ite_self],fun j hj=>by
     have:j≠i:=fun e=>hic (by rw [e1];simp [←e,hj])
     simp only [this,if_false];exact e3 j hj,hV,ag.put o.dst v,⟨m',ω,h1⟩,hag.KK _ _ fun e h1 h2=>by
      obtain ⟨j,j1,ju,j2,j3⟩:=h2
      by_cases hji:j=i
      ·subst hji
       simpa [qm,ho] using j3
      ·exact absurd ⟨j,j1,ju,by simpa [hji] using j2,j3⟩ h1⟩
   unfold Az at hst
   split at hst
   ·rename_i hg
    rw [if_pos (uq hA hg)]
    obtain ⟨y,hy,hst⟩:=hst
    obtain ⟨x,hx,hG⟩:=CO hT hst hA
    have hx:wC t o.dst x:=hx▸hy
    obtain ⟨v,m',hrun,hC2,hv⟩:=hG.2 (G.plain i o ho hic)
    refine .inl ?_
    unfold Oper.wp
    rw [hex,hrun,Oper.upon_value]
    exact hfin v m' (hC2.same hx hv)
   ·rename_i hg
    rw [if_neg (by rw [uq hA hg];simp)]
    exact hfin _ m (hA.same hst w7)
   ·cases hst
 ·obtain ⟨l1,l2,t,e1,e2,e3,hV,ag,hA,hag⟩:=hC'
  have hl2:∀(l1 l2:List Nat),(∀j∈l2,ops[j]?=none)→yO ops ce dep l1 l2=[]:=by
   intro l1 l2
   induction l2 generalizing l1 with
   | nil=>intro _;rfl
   | cons j l2 ih =>
    intro hj
    simp only [yO,hj j (by simp),aZ]
    exact ih _ fun j' hj'=>hj j' (by simp [hj'])
  have hl2:=hl2 l1 l2 fun j hj=>by
   rcases cV j ops.size with h|h
   ·have:=hall j h
    rw [e3 j hj] at this
    cases this
   ·exact xR h
  rw [hl2] at hV
  have hD:∀d,¬ D S l1 d:=by
   rintro d ⟨j,j1,_,j2,j3⟩
   rcases cV j ops.size with h|h
   ·have:=hall j h
    rw [j2] at this
    cases this
   ·simp [qm,xR h] at j3
  have hea:ag=a:=by
   obtain ⟨h1,h2,h3⟩:=hag
   cases ag
   cases a
   simp only at h1 h2 h3
   subst h1
   congr 1
   exact Rk fun d=>h3 d (hD d)
  subst hea
  refine ⟨t,?_,hA⟩
  have hd:ops.toList.drop ops.size=[]:=by apply EK;simp
  rw [hd]
  exact hV.2
 ·rw [List.filter_eq_nil_iff.2 (fun i _=>by rw [hg0];simp)]
  rfl
 ·intro i _ hb
  rw [hg0] at hb
  cases hb
 ·intro i _
  exact hg0 i
 ·obtain ⟨ps,hl,hK,hs⟩:=B3 _ _ h
  obtain ⟨hidx,hself⟩:=Mm F G (fun i=>!ce.elem i&&sr ops ce dep [] i) (fun i hi=>by simp only [qa,wY] at hi;exact hi.1)
  have hstab:=Fx hl hidx hself hs
  obtain ⟨ag,m',h2,h3⟩:=DH (D:=D (fun i=>(Array.replicate ops.size false).getD i false) []) (a0:=a) hT _ s ps a m (fun o ho=>by
   obtain ⟨i,hi,ho⟩:=uQ.1 ho
   simp only [qa,wY,E6,AK] at hi
   exact ⟨G.plain i o ho hi.1,fun d hd=>⟨i,hi.1,hi.2,hg0 i,by simp [qm,ho,hd]⟩⟩) hl hs hC.draw (rU.refl _ _)
  refine ⟨[],ce,pM s ps,rfl,fun j hj=>(by cases hj),fun j _=>hg0 j,⟨fun o ho=>hstab o ?_,hK⟩,ag,⟨m',ω,h2⟩,h3⟩
  obtain ⟨i,hi,ho⟩:=uQ.1 ho
  simp only [qa] at hi
  exact uQ.2 ⟨i,by simp only [hi.1,Am],ho⟩
def yo (l:List Oper):List (Nat×List (Nat×Nat)×List (Nat×Nat))→List w9
 | []=>[]
 | p::r=>(match l[p.1]? with|some o=>[⟨o,bb l p.2.1,bb l p.2.2⟩]|none=>[])++yo l r
theorem ab.Mn (hT:pR P T) (hm:P.follows .mixedOrders=true) {Q:Exit→St→Prop} {id:Nat} {l:List Oper} (sq:List (Nat×Nat)) (sx:List (Nat×List (Nat×Nat)×List (Nat×Nat))) (ce:List Nat) (dep:Nat) (hord:ce.Pairwise (·<·)) (hchk:wj l.toArray l.toArray.size dep=true) (hch:Ct l.toArray ce dep=true)
  (h1:Bz l.toArray ce dep=bb l sq) (h2:yO l.toArray ce dep [] ce=yo l sx)
  (h:∀K2:St→Prop,(∀s',(∀K:St→Prop,(∀s',Q .normal s'→K s')→an P T l.toArray (yo l sx) s' K)→K2 s')→cQ P T l.toArray (bb l sq) s K2):ab P w0 m0 F0 (.region id l.toArray true) Q s :=
 ab.S4 hT hm ce dep hord hchk hch (by rw [h1,h2];exact h _ fun s' h=>h _ fun _ h=>h)
theorem an.step {ops:Array Oper} {lq ln:List Oper} {o:Oper} {l:List w9} {t:St} {K:St→Prop} (h:∀K2:St→Prop,(∀t',cQ P T ops ln t' (fun t''=>qK P T ops lq t''∧an P T ops l t'' K)→K2 t')→bL P T ops [o] t K2):an P T ops (⟨o,ln,lq⟩::l) t K :=
 .inr (h _ fun _ h=>h)
theorem an.DI {ops:Array Oper} {lq ln:List Oper} {o:Oper} {l:List w9} {t:St} {K:St→Prop} (hg:o.guard=.none) (h:∀K2:St→Prop,(∀t',cQ P T ops ln t' (fun t''=>qK P T ops lq t''∧an P T ops l t'' K)→K2 t')→ya P o t K2):an P T ops (⟨o,ln,lq⟩::l) t K :=
 .inl ⟨hg,h _ fun _ h=>h⟩
theorem an.none {ops:Array Oper} {lq:List Oper} {l:List w9} {t:St} {K:St→Prop} (h:qK P T ops lq t∧an P T ops l t K):cQ P T ops [] t (fun t''=>qK P T ops lq t''∧an P T ops l t'' K):=h
theorem an.some {ops:Array Oper} {lq ln:List Oper} {o:Oper} {l:List w9} {t:St} {K:St→Prop} (h:∀K2:St→Prop,(∀t',(qK P T ops lq t'∧an P T ops l t' K)→K2 t')→cQ P T ops (o::ln) t K2):cQ P T ops (o::ln) t (fun t''=>qK P T ops lq t''∧an P T ops l t'' K) :=
 h _ fun _ h=>h
theorem an.intro {A:(St→Prop)→Prop} {ops:Array Oper} {l:List w9} {t:St} (h:∀K:St→Prop,A K→an P T ops l t K):∀K:St→Prop,A K→an P T ops l t K:=h
theorem an.keep {ops:Array Oper} {t:St} {l:List Oper} {A:Prop} (h1:qK P T ops l t) (h:A):qK P T ops l t∧A:=⟨h1,h⟩
theorem an.quiet {ops:Array Oper} {t:St} {A:Prop} (h:A):qK P T ops [] t∧A:=⟨trivial,h⟩
theorem an.fin {ops:Array Oper} {t:St} {K:St→Prop} (h:K t):an P T ops [] t K:=h
end Go.Bw
namespace Go.Bw
open Go.RowKit
variable {P:Program} {T:TypeId→Option TI} {w0:World} {m0:Mem} {F0:Home} {s:St} {ω:Wh}
inductive CT where
 | leaf
 | fail
 | none
 | cons (p:w9) (kid rest:CT)
def c6 (P:Program) (T:TypeId→Option TI) (ops:Array Oper):CT→St→(St→Prop)→Prop
 | .leaf,t,K=>K t
 | .fail,_,_=>False
 | .none,_,_=>True
 | .cons p kid rest,t,K=>Ic P T ops p.op t (fun t'=>cQ P T ops p.free t' (fun t''=>qK P T ops p.rest t''∧c6 P T ops kid t'' K))∧c6 P T ops rest t K
def DJ (ops:Array Oper) (ce:List Nat) (dep:Nat) (l1:List Nat) (kid:Nat→CT):List Nat→CT
 | []=>.none
 | k::r=>if l1.elem k||!sr ops ce dep l1 k then DJ ops ce dep l1 kid r else match ops[k]? with
  | some o=>.cons ⟨o,DF ops ce dep l1 k,DG ops ce dep l1 k⟩ (kid k) (DJ ops ce dep l1 kid r)
  | none=>.fail
def yP (ops:Array Oper) (ce:List Nat) (dep:Nat):Nat→List Nat→CT
 | 0,l1=>if ce.all (fun j=>l1.elem j) then .leaf else .fail
 | n+1,l1=>if ce.all (fun j=>l1.elem j) then .leaf else DJ ops ce dep l1 (fun k=>yP ops ce dep n (l1++[k])) ce
theorem Ie {ops:Array Oper} {ce:List Nat} {dep:Nat} {l1:List Nat} {kid:Nat→CT} {t:St} {K:St→Prop} {k:Nat} {o:Oper} (ho:ops[k]?=some o) (h1:k ∉ l1) (h2:sr ops ce dep l1 k=true):∀(l:List Nat),k∈l→c6 P T ops (DJ ops ce dep l1 kid l) t K →
  Ic P T ops o t (fun t'=>cQ P T ops (DF ops ce dep l1 k) t' (fun t''=>qK P T ops (DG ops ce dep l1 k) t''∧c6 P T ops (kid k) t'' K))
 | q::r,hk,h=>by
  unfold DJ at h
  by_cases hq:q=k
  ·subst hq
   rw [if_neg (by simp [h1,h2])] at h
   rw [ho] at h
   exact h.1
  ·have hk:k∈r:=by
    rcases List.mem_cons.1 hk with e|e
    ·exact absurd e.symm hq
    ·exact e
   split at h
   ·exact Ie ho h1 h2 r hk h
   ·split at h
    ·exact Ie ho h1 h2 r hk h.2
    ·exact h.elim
def DK (ops:Array Oper) (ce:List Nat):Bool :=
 (List.range ops.size).all fun i=>(ce.elem i||((ops[i]?).map wi).getD true)&&((ops[i]?).map noSelect).getD true &&
  (List.range ops.size).all fun j=>(decide (j<i)||ce.elem j||match qm ops j with|none=>true|some t=>!(looksAt ops i).elem t)
structure Mo (ops:Array Oper) (ce:List Nat):Prop where
 plain:∀(i:Nat) (o:Oper),ops[i]?=some o→i ∉ ce→wi o=true
 sG:∀(i:Nat) (o:Oper),ops[i]?=some o→∀cs b,o.op≠.select cs b
 later:∀i j t,i<ops.size→j<ops.size→i≤j→j ∉ ce→qm ops j=some t→t ∉ looksAt ops i
theorem S5 {ops:Array Oper} {ce:List Nat} (h:DK ops ce=true):Mo ops ce:=by
 unfold DK at h
 simp only [zC,AX,qa] at h
 refine ⟨fun i o ho hi=>?_,fun i o ho cs b hb=>?_,fun i j t hi hj hij hjc ht hl=>?_⟩
 ·have hin:i<ops.size:=(Array.getElem?_eq_some_iff.1 ho).1
  have h1:=(h i hin).1.1
  rw [ho] at h1
  simp only [dv,eE,wO] at h1
  rcases h1 with h1|h1
  ·exact absurd (by simpa using h1) hi
  ·exact h1
 ·have hin:i<ops.size:=(Array.getElem?_eq_some_iff.1 ho).1
  have h1:=(h i hin).1.2
  rw [ho] at h1
  simp only [dv,eE,noSelect,hb] at h1
  cases h1
 ·have h1:=(h i hi).2 j hj
  rw [ht] at h1
  simp only [wO,uv] at h1
  rcases h1 with (h1|h1)|h1
  ·omega
  ·exact hjc (by simpa using h1)
  ·have:(looksAt ops i).elem t=true:=by simpa using hl
   rw [this] at h1
   cases h1
theorem Mp {ops:Array Oper} {ce:List Nat} {dep:Nat} (F:BQ ops ops.size dep) (G:Mo ops ce) (p:Nat→Bool) (hp:∀i,p i=true→ce.elem i=false):(xG ops p).Pairwise (Fw ops)∧∀o∈xG ops p,∀t∈o.looksAt ops,o.dst≠some t:=by
 constructor
 ·unfold xG
  refine XJ _ (fun i j hij o ho o' ho'=>?_) XK
  split at ho
  case isFalse=>cases ho
  split at ho'
  case isFalse=>cases ho'
  rename_i hpi hpj
  have hjc:j ∉ ce:=by simpa using hp j hpj
  have hi:i<ops.size:=(Array.getElem?_eq_some_iff.1 ho).1
  have hj:j<ops.size:=(Array.getElem?_eq_some_iff.1 ho').1
  refine ⟨fun t ht e=>?_,fun d hd e=>?_⟩
  ·exact G.later i j t hi hj (by omega) hjc (by simp [qm,ho',e]) (by simpa [looksAt,ho] using ht)
  ·exact F.apart i j hi hj (by omega) d (by simp [qm,ho,hd]) (by simp [qm,ho',e])
 ·intro o ho t ht e
  obtain ⟨i,hpi,ho⟩:=uQ.1 ho
  have hi:i<ops.size:=(Array.getElem?_eq_some_iff.1 ho).1
  have hic:i ∉ ce:=by simpa using hp i hpi
  exact G.later i i t hi hi (br _) hic (by simp [qm,ho,e]) (by simpa [looksAt,ho] using ht)
theorem ab.S6 (hT:pR P T) (hm:P.follows .mixedOrders=true) {Q:Exit→St→Prop} {id:Nat} {ops:Array Oper} (ce:List Nat) (dep:Nat) (hce:∀j∈ce,j<ops.size) (hchk:wj ops ops.size dep=true) (hch:DK ops ce=true)
  (h:cQ P T ops (Bz ops ce dep) s fun s'=>c6 P T ops (yP ops ce dep ce.length []) s' (Q .normal)):ab P w0 m0 F0 (.region id ops true) Q s:=by
 intro a w hc
 have F:=GD hchk
 have G:=S5 hch
 obtain ⟨m,ω,hC⟩:=hc
 refine wp_region_any hm ?_
 have hg0:∀i,(Array.replicate ops.size false).getD i false=false:=fun i=>by
  rw [vt,Ky]
  split<;>rfl
 let D:(Nat→Bool)→List Nat→Nat→Prop:=fun S l1 d=>∃i,i ∉ ce∧sr ops ce dep l1 i=true∧S i=false∧qm ops i=some d
 have hqa:∀(l1:List Nat) (o:Oper) (i:Nat),i ∉ ce→ops[i]?=some o→sr ops ce dep l1 i=true→(∀j∈l1,i ∉ bD ops dep j)→o∈Fv ops ce dep l1:=by
  intro l1 o i hi ho hu hj
  refine uQ.2 ⟨i,?_,ho⟩
  have h1:ce.elem i=false:=by simpa using hi
  have h2:(l1.any fun j=>(bD ops dep j).elem i)=false:=by
   rw [Cd]
   intro j hj'
   simpa using hj j hj'
  rw [h1,h2,hu]
  rfl
 refine JT hT F (K:=Q .normal) (Q:=Aa P w0 m0 F0 Q)
  (C:=fun S a w=>∃l1 n t,(∀j∈l1,S j=true)∧(∀j∈ce,j ∉ l1→S j=false)∧(∀o∈Fv ops ce dep l1,Az P T ops t o)∧c6 P T ops (yP ops ce dep n l1) t (Q .normal)∧∃ag,ry P w0 m0 F0 t ag w∧rU (D S l1) a ag)
  (fun s a w h1 h2=>⟨s,h1,h2⟩) (fun S i a w o ho hi hSi htl hcl hcl2 hC' K' Q' hK=>?_) (fun S a w hall htl hC'=>?_) ops.size _ a _ 0 (by omega) (by simp) ?_ ?_ ?_ ?_
 ·obtain ⟨l1,n,t,e2,e3,hSt,hV,ag,⟨m,ω,hA⟩,hag⟩:=hC'
  have hin:i<ops.size:=(Array.getElem?_eq_some_iff.1 ho).1
  have hdone:∀j∈ce,S j=true→j∈l1:=by
   intro j hj hSj
   by_cases h:j∈l1
   ·exact h
   ·rw [e3 j hj h] at hSj;cases hSj
  have hlook:∀t∈o.looksAt ops,¬ D S l1 t:=by
   rintro t ht ⟨j,j1,_,j2,j3⟩
   have htl':t∈looksAt ops i:=by simpa [looksAt,ho] using ht
   have hjn:j<ops.size:=by
    rcases cV j ops.size with h|h
    ·exact h
    ·simp [qm,xR h] at j3
   rcases cV j i with hlt|hge
   ·have:=hcl j ((F.reads i j t hin hjn (by omega) j3 htl').1 hlt)
    rw [j2] at this
    cases this
   ·exact G.later i j t hin hjn hge j1 j3 htl'
  have hsel:=G.sG i o ho
  have hex:=KL hag hsel hlook
  have hwa:=KM hag hlook
  rw [hwa]
  by_cases hic:i∈ce
  ·
   have hk1:i ∉ l1:=fun h=>by rw [e2 i h] at hSi;cases hSi
   have hun:sr ops ce dep l1 i=true:=zI.2 fun j hj hjc=>hdone j hj (hcl j hjc)
   have hnall:(ce.all fun j=>l1.elem j)=false:=by
    rw [XL]
    exact ⟨i,hic,by simpa using hk1⟩
   obtain ⟨n,rfl⟩:∃n',n=n'+1:=by
    cases n with
    | zero =>
     rw [yP,hnall] at hV
     exact hV.elim
    | succ n=>exact ⟨n,rfl⟩
   rw [yP,hnall] at hV
   have hV:=Ie ho hk1 hun ce hic hV
   generalize i=k at *
   have hunew:∀i',i' ∉ ce→sr ops ce dep l1 i'=false→S i'=false:=by
    intro i' _ hu
    cases hS:S i' with
    | false=>rfl
    | true =>
     have:sr ops ce dep l1 i'=true:=zI.2 fun j hj hjc=>hdone j hj (hcl2 i' hS j hjc)
     rw [hu] at this
     cases this
   have hDD:∀d,D S l1 d→D (fun j=>if j=k then true else S j) (l1++[k]) d:=by
    rintro d ⟨j,j1,ju,j2,j3⟩
    have hjk:j≠k:=fun e=>j1 (e▸hic)
    exact ⟨j,j1,zI.2 fun q hq hqc=>AJ _ (zI.1 ju q hq hqc),by simpa [hjk] using j2,j3⟩
   have hnext:∀t' ar ag' w',cQ P T ops (DF ops ce dep l1 k) t' (fun t''=>qK P T ops (DG ops ce dep l1 k) t''∧c6 P T ops (yP ops ce dep n (l1++[k])) t'' (Q .normal))→ry P w0 m0 F0 t' ag' w'→rU (D S l1) ar ag'→K' ar w':=by
    rintro t' ar ag' w' h1 ⟨m2,ω2,h2⟩ h3
    obtain ⟨ps,hl,⟨hst,hK2⟩,hs⟩:=B3 _ _ h1
    obtain ⟨hidx,hself⟩:=Mp F G (fun i=>!ce.elem i&&!sr ops ce dep l1 i&&sr ops ce dep (l1++[k]) i) (fun i hi=>by simp only [qa,wY] at hi;exact hi.1.1)
    have hstab:=Fx hl hidx hself hs
    have h3':rU (D (fun j=>if j=k then true else S j) (l1++[k])) ar ag':=⟨h3.1,h3.2.1,fun d hd=>h3.2.2 d fun h=>hd (hDD d h)⟩
    obtain ⟨ag2,m',h4,h5⟩:=DH (D:=D (fun j=>if j=k then true else S j) (l1++[k])) (a0:=ar) hT _ t' ps ag' m2 (fun o' ho'=>by
     obtain ⟨i',hi',ho'⟩:=uQ.1 ho'
     simp only [qa,wY,E6,AK] at hi'
     obtain ⟨⟨q1,q2⟩,q3⟩:=hi'
     have hik:i'≠k:=fun e=>q1 (e▸hic)
     exact ⟨G.plain i' o' ho' q1,fun d hd=>⟨i',q1,q3,by simpa [hik] using hunew i' q1 q2,by simp [qm,ho',hd]⟩⟩) hl hs h2 h3'
    refine hK _ _ ⟨l1++[k],n,pM t' ps,fun j hj=>?_,fun j hj hjn=>?_,fun o' ho'=>?_,hK2,ag2,⟨m',ω2,h4⟩,h5⟩
    ·rcases List.mem_append.1 hj with h|h
     ·simp only [e2 j h,ite_self]
     ·have:j=k:=by simpa using h
      simp [this]
    ·have h1:j ∉ l1:=fun h=>hjn (AJ _ h)
     have h2:j≠k:=fun h=>hjn (by simp [h])
     simp only [h2,if_false];exact e3 j hj h1
    ·obtain ⟨i',hi',hoo⟩:=uQ.1 ho'
     simp only [qa] at hi'
     obtain ⟨⟨q1,q2⟩,q3⟩:=hi'
     cases hu:sr ops ce dep l1 i' with
     | true=>exact hst.x o' (uQ.2 ⟨i',by simp only [q1,hu,q3,Am],hoo⟩)
     | false=>exact hstab o' (uQ.2 ⟨i',by simp only [q1,hu,q2,fB,Am],hoo⟩)
   rcases hV with ⟨hg,hV⟩|hV
   ·have hw:Region.wanted o (yielded ops ag.tmps)=true:=by simp [Region.wanted,hg]
    rw [if_pos hw]
    exact .inl (EU hex hag (hV _ _ _ _ _ _ _ hA _ _ fun s' a' w' h1 h2 ar har=>hnext s' ar a' w' h1 h2 har))
   simp only [bL] at hV
   split at hV
   ·rename_i hg
    rw [if_pos (uq hA hg)]
    exact .inl (EU hex hag (Ba hT hV hA _ _ fun s' a' w' h1 h2 ar har=>hnext s' ar a' w' h1 h2 har))
   ·rename_i hg
    rw [if_neg (by rw [uq hA hg];simp)]
    obtain ⟨h1,h2⟩:=yM hV
    exact hnext _ _ (ag.put o.dst undef) w h2 ⟨m,ω,hA.fw h1 w7⟩ (hag.put _ _)
   ·cases hV
  ·
   have hun:sr ops ce dep l1 i=true:=zI.2 fun j hj hjc=>hdone j hj (hcl j hjc)
   have hst:=hSt o (hqa l1 o i hic ho hun fun j hj hij=>by
    have:=hcl2 j (e2 j hj) i hij
    rw [hSi] at this
    cases this)
   have hfin:∀v m',CI P w0 m0 F0 t (ag.put o.dst v) w m' ω→K' (a.put o.dst v) w:=fun v m' h1 =>
    hK _ _ ⟨l1,n,t,fun j hj=>by simp only [e2 j hj,ite_self],fun j hj hjn=>by
     have:j≠i:=fun e=>hic (e▸hj)
     simp only [this,if_false];exact e3 j hj hjn,hSt,hV,ag.put o.dst v,⟨m',ω,h1⟩,hag.KK _ _ fun e h1 h2=>by
      obtain ⟨j,j1,ju,j2,j3⟩:=h2
      by_cases hji:j=i
      ·subst hji
       simpa [qm,ho] using j3
      ·exact absurd ⟨j,j1,ju,by simpa [hji] using j2,j3⟩ h1⟩
   unfold Az at hst
   split at hst
   ·rename_i hg
    rw [if_pos (uq hA hg)]
    obtain ⟨y,hy,hst⟩:=hst
    obtain ⟨x,hx,hG⟩:=CO hT hst hA
    have hx:wC t o.dst x:=hx▸hy
    obtain ⟨v,m',hrun,hC2,hv⟩:=hG.2 (G.plain i o ho hic)
    refine .inl ?_
    unfold Oper.wp
    rw [hex,hrun,Oper.upon_value]
    exact hfin v m' (hC2.same hx hv)
   ·rename_i hg
    rw [if_neg (by rw [uq hA hg];simp)]
    exact hfin _ m (hA.same hst w7)
   ·cases hst
 ·obtain ⟨l1,n,t,e2,e3,hSt,hV,ag,hA,hag⟩:=hC'
  have hin:∀j∈ce,j<ops.size→j∈l1:=by
   intro j hj hjs
   have h1:=hall j hjs
   by_cases h:j∈l1
   ·exact h
   ·rw [e3 j hj h] at h1;cases h1
  have hKt:Q .normal t:=by
   have hall2:(ce.all fun j=>l1.elem j)=true∨∃j∈ce,j ∉ l1∧ops[j]?=none:=by
    cases hb:ce.all fun j=>l1.elem j with
    | true=>exact .inl rfl
    | false =>
     rw [XL] at hb
     obtain ⟨j,hj,hjn⟩:=hb
     refine .inr ⟨j,hj,by simpa using hjn,?_⟩
     rcases cV j ops.size with h|h
     ·exact absurd (hin j hj h) (by simpa using hjn)
     ·exact xR h
   rcases hall2 with hb|⟨j,hj,hjn,hjo⟩
   ·cases n with
    | zero=>rw [yP,hb] at hV;exact hV
    | succ n=>rw [yP,hb] at hV;exact hV
   ·have:j<ops.size:=hce j hj
    rw [Array.getElem?_eq_none_iff] at hjo
    omega
  have hD:∀d,¬ D S l1 d:=by
   rintro d ⟨j,j1,_,j2,j3⟩
   rcases cV j ops.size with h|h
   ·have:=hall j h
    rw [j2] at this
    cases this
   ·simp [qm,xR h] at j3
  have hea:ag=a:=by
   obtain ⟨h1,h2,h3⟩:=hag
   cases ag
   cases a
   simp only at h1 h2 h3
   subst h1
   congr 1
   exact Rk fun d=>h3 d (hD d)
  subst hea
  refine ⟨t,?_,hA⟩
  have hd:ops.toList.drop ops.size=[]:=by apply EK;simp
  rw [hd]
  exact hKt
 ·rw [List.filter_eq_nil_iff.2 (fun i _=>by rw [hg0];simp)]
  rfl
 ·intro i _ hb
  rw [hg0] at hb
  cases hb
 ·intro i _
  exact hg0 i
 ·obtain ⟨ps,hl,hK,hs⟩:=B3 _ _ h
  obtain ⟨hidx,hself⟩:=Mp F G (fun i=>!ce.elem i&&sr ops ce dep [] i) (fun i hi=>by simp only [qa,wY] at hi;exact hi.1)
  have hstab:=Fx hl hidx hself hs
  obtain ⟨ag,m',h2,h3⟩:=DH (D:=D (fun i=>(Array.replicate ops.size false).getD i false) []) (a0:=a) hT _ s ps a m (fun o ho=>by
   obtain ⟨i,hi,ho⟩:=uQ.1 ho
   simp only [qa,wY,E6,AK] at hi
   exact ⟨G.plain i o ho hi.1,fun d hd=>⟨i,hi.1,hi.2,hg0 i,by simp [qm,ho,hd]⟩⟩) hl hs hC.draw (rU.refl _ _)
  refine ⟨[],ce.length,pM s ps,fun j hj=>(by cases hj),fun j _ _=>hg0 j,fun o ho=>hstab o ?_,hK,ag,⟨m',ω,h2⟩,h3⟩
  obtain ⟨i,hi,ho⟩:=uQ.1 ho
  simp only [qa] at hi
  exact uQ.2 ⟨i,by simp only [hi.1,Am],ho⟩
inductive PT where
 | leaf
 | none
 | cons (i:Nat) (free rest:List (Nat×Nat)) (kid rest':PT)
def yp (l:List Oper):PT→CT
 | .leaf=>.leaf
 | .none=>.none
 | .cons i f q kid r=>match l[i]? with|some o=>.cons ⟨o,bb l f,bb l q⟩ (yp l kid) (yp l r)|none=>.fail
theorem vT (l:List Oper):yp l .leaf=.leaf:=rfl
theorem vU (l:List Oper):yp l .none=.none:=rfl
theorem vV (l:List Oper) (i:Nat) (f q:List (Nat×Nat)) (kid r:PT):yp l (.cons i f q kid r)=(match l[i]? with|some o=>.cons ⟨o,bb l f,bb l q⟩ (yp l kid) (yp l r)|none=>.fail):=rfl
theorem ab.S7 (hT:pR P T) (hm:P.follows .mixedOrders=true) {Q:Exit→St→Prop} {id:Nat} {l:List Oper} (sq:List (Nat×Nat)) (pt:PT) (ce:List Nat) (dep:Nat) (hce:∀j∈ce,j<l.toArray.size) (hchk:wj l.toArray l.toArray.size dep=true) (hch:DK l.toArray ce=true)
  (h1:Bz l.toArray ce dep=bb l sq) (h2:yP l.toArray ce dep ce.length []=yp l pt)
  (h:∀K2:St→Prop,(∀s',(∀K:St→Prop,(∀s',Q .normal s'→K s')→c6 P T l.toArray (yp l pt) s' K)→K2 s')→cQ P T l.toArray (bb l sq) s K2):ab P w0 m0 F0 (.region id l.toArray true) Q s :=
 ab.S6 hT hm ce dep hce hchk hch (by rw [h1,h2];exact h _ fun s' h=>h _ fun _ h=>h)
theorem c6.step {ops:Array Oper} {lq ln:List Oper} {o:Oper} {kid:CT} {t:St} {K:St→Prop} (h:∀K2:St→Prop,(∀t',cQ P T ops ln t' (fun t''=>qK P T ops lq t''∧c6 P T ops kid t'' K)→K2 t')→bL P T ops [o] t K2):c6 P T ops (.cons ⟨o,ln,lq⟩ kid .none) t K :=
 ⟨.inr (h _ fun _ h=>h),trivial⟩
theorem c6.fork {ops:Array Oper} {lq ln:List Oper} {o:Oper} {kid:CT} {p:w9} {k2 r2:CT} {t:St} {K:St→Prop} (h:∀K2:St→Prop,(∀t',cQ P T ops ln t' (fun t''=>qK P T ops lq t''∧c6 P T ops kid t'' K)→K2 t')→bL P T ops [o] t K2) (h2:c6 P T ops (.cons p k2 r2) t K):c6 P T ops (.cons ⟨o,ln,lq⟩ kid (.cons p k2 r2)) t K :=
 ⟨.inr (h _ fun _ h=>h),h2⟩
theorem c6.none {ops:Array Oper} {lq:List Oper} {kid:CT} {t:St} {K:St→Prop} (h:qK P T ops lq t∧c6 P T ops kid t K):cQ P T ops [] t (fun t''=>qK P T ops lq t''∧c6 P T ops kid t'' K):=h
theorem c6.some {ops:Array Oper} {lq ln:List Oper} {o:Oper} {kid:CT} {t:St} {K:St→Prop} (h:∀K2:St→Prop,(∀t',(qK P T ops lq t'∧c6 P T ops kid t' K)→K2 t')→cQ P T ops (o::ln) t K2):cQ P T ops (o::ln) t (fun t''=>qK P T ops lq t''∧c6 P T ops kid t'' K) :=
 h _ fun _ h=>h
theorem c6.intro {A:(St→Prop)→Prop} {ops:Array Oper} {kid:CT} {t:St} (h:∀K:St→Prop,A K→c6 P T ops kid t K):∀K:St→Prop,A K→c6 P T ops kid t K:=h
theorem c6.fin {ops:Array Oper} {t:St} {K:St→Prop} (h:K t):c6 P T ops .leaf t K:=h
end Go.Bw
namespace Go.Bw
open Go.RowKit
section
variable {P:Program} {T:TypeId→Option TI} {w0:World} {m0:Mem} {F0:Home} {s s':St} {a:Act} {w:World} {m:Mem} {ω:Wh}
def tE (P:Program) (T:TypeId→Option TI) (ops:Array Oper):List Oper→St→(St→Prop)→Prop
 | [],s,K=>K s
 | o::l,s,K=>(o.guard=none∧ya P o s fun s'=>tE P T ops l s' K)∨bL P T ops [o] s fun s'=>tE P T ops l s' K
theorem tE.DI {ops:Array Oper} {d:Option Tmp} {op:Op} {ty:TypeId} {pos:String} {af:Array Edge} {l:List Oper} {K:St→Prop} (h:ya P ⟨d,op,ty,pos,af,Option.none⟩ s fun s'=>tE P T ops l s' K):tE P T ops (⟨d,op,ty,pos,af,Option.none⟩::l) s K:=.inl ⟨rfl,h⟩
theorem tE.step {ops:Array Oper} {o:Oper} {l:List Oper} {K:St→Prop} (h:∀K2:St→Prop,(∀s',tE P T ops l s' K→K2 s')→bL P T ops [o] s K2):tE P T ops (o::l) s K:=.inr (h _ fun _ h=>h)
theorem tE.fin {ops:Array Oper} {K:St→Prop} (h:K s):tE P T ops [] s K:=h
theorem Fy (hT:pR P T) {ops:Array Oper} {K:St→Prop} {Q:Exit→Act→World→Prop} (hQ:∀s a w,K s→ry P w0 m0 F0 s a w→Q .normal a w) :
  ∀(l:List Oper) (k:Nat) (s:St) (a:Act) (w:World),ops.toList.drop k=l→tE P T ops l s K→ry P w0 m0 F0 s a w→wpOps P ops Q (List.range' k l.length) a w
 | [],k,s,a,w,_,hV,hC=>hQ s a w hV hC
 | o::l,k,s,a,w,hl,hV,hC=>by
  have hk:ops[k]?=some o:=by
   have:(ops.toList.drop k)[0]?=some o:=by rw [hl];rfl
   simpa [rJ] using this
  have hl':ops.toList.drop (k+1)=l:=by
   have:(ops.toList.drop k).drop 1=l:=by rw [hl];rfl
   simpa [Af] using this
  obtain ⟨m,ω,h⟩:=hC
  simp only [bP,Ha,wpOps,hk]
  rcases hV with ⟨hg,hV⟩|hV
  ·have hw:Region.wanted o (yielded ops a.tmps)=true:=by simp [Region.wanted,hg]
   rw [if_pos hw]
   exact .inl (hV _ _ _ a w m ω h _ _ fun s' a' w' hK hc=>Fy hT hQ l (k+1) s' a' w' hl' hK hc)
  ·simp only [bL] at hV
   split at hV
   ·rename_i hg
    rw [if_pos (uq h hg)]
    exact .inl (Ba hT hV h _ _ fun s' a' w' hK hc=>Fy hT hQ l (k+1) s' a' w' hl' hK hc)
   ·rename_i hg
    rw [if_neg (by rw [uq h hg];simp)]
    obtain ⟨h1,h2⟩:=yM hV
    exact Fy hT hQ l (k+1) _ _ w hl' h2 ⟨m,ω,h.fw h1 w7⟩
   ·cases hV
theorem ab.Mq (hT:pR P T) {id:Nat} {Q:Exit→St→Prop} {l:List Oper} (h:∀K:St→Prop,(∀s',Q .normal s'→K s')→tE P T l.toArray l s K):ab P w0 m0 F0 (.region id l.toArray false) Q s:=by
 intro a w hc
 refine wp_region ?_
 have:=Fy hT (ops:=l.toArray) (K:=Q .normal) (Q:=Aa P w0 m0 F0 Q) (fun s a w h1 h2=>⟨s,h1,h2⟩) l 0 s a w (by simp) (h _ fun _ h=>h) hc
 have hlen:l.length=l.toArray.size:=by simp
 rwa [←Hb,hlen] at this
theorem ab.bC (id:Nat) {ops:Array Oper} {d:Bool} {Q:Exit→St→Prop} (h:ab P w0 m0 F0 (.region id ops d) Q s):ab P w0 m0 F0 (.region id ops d) Q s:=h
end
end Go.Bw
namespace Go.Bw
open Go.RowKit
section
variable {P:Program} {w0:World} {m0:Mem} {s:St} {a:Act} {w:World} {m:Mem} {ω:Wh} {F0:Home}
def setCell (xs:List (List L)) (i j:Nat) (l:L):List (List L):=xs.set i ((xs.getD i []).set j l)
theorem Cu (xs:List (List L)) (i j:Nat) (l:L):(setCell xs i j l).length=xs.length:=by simp [setCell]
theorem If {xs:List (List L)} {i j:Nat} {l:L} {sz:Nat} (h:∀x∈xs,x.length=sz):∀x∈setCell xs i j l,x.length=sz:=by
 intro x hx
 unfold setCell at hx
 by_cases hi:i<xs.length
 ·rcases LC hx with hx|rfl
  ·exact h x hx
  ·rw [tw,rM,ig hi]
   exact h _ (bl hi)
 ·rw [YU (by omega)] at hx
  exact h x hx
theorem Mr {xs:List (List L)} {i j:Nat} {l u:L} {i' j':Nat} (h:cellOf (setCell xs i j l) i' j'=some u):(i'=i∧j'=j∧u=l)∨(¬(i'=i∧j'=j)∧cellOf xs i' j'=some u):=by
 unfold cellOf setCell at h
 rw [Ce] at h
 by_cases e:i=i'
 ·subst e
  rw [if_pos rfl] at h
  by_cases hi:i<xs.length
  ·rw [if_pos hi] at h
   simp only [dJ] at h
   rw [Ce] at h
   by_cases e2:j=j'
   ·subst e2
    rw [if_pos rfl] at h
    split at h
    ·injection h with h
     exact .inl ⟨rfl,rfl,h.symm⟩
    ·cases h
   ·rw [if_neg e2] at h
    refine .inr ⟨fun q=>e2 q.2.symm,?_⟩
    unfold cellOf
    rw [ig hi]
    rw [rM,ig hi] at h
    exact h
  ·rw [if_neg hi] at h
   cases h
 ·rw [if_neg e] at h
  exact .inr ⟨fun q=>e q.1.symm,h⟩
def wE (i j:Nat):List (Nat×Nat×L)→List (Nat×Nat×L)
 | []=>[]
 | p::r=>if p.1=i∧p.2.1=j then wE i j r else p::wE i j r
theorem BA (i j:Nat):∀(o:List (Nat×Nat×L)) (i' j':Nat),aP (wE i j o) i' j'=if i'=i∧j'=j then none else aP o i' j'
 | [],i',j'=>by simp [wE,aP]
 | (a,b,l)::r,i',j'=>by
  rw [wE]
  split
  ·rename_i h
   rw [BA i j r i' j']
   split
   ·rfl
   ·rename_i h2
    simp only at h
    rw [aP,if_neg (fun q=>h2 ⟨q.1.symm.trans h.1,q.2.symm.trans h.2⟩)]
  ·rename_i h
   rw [aP,BA i j r i' j',aP]
   split
   ·rename_i h2
    rw [if_neg]
    rintro ⟨rfl,rfl⟩
    exact h ⟨h2.1,h2.2⟩
   ·rfl
theorem CI.Ms (h:CI P w0 m0 F0 s a w m ω) {id:Nat} {r r2:aN} (hr:look s.row id=some r) (F2:Nat→Prop) (hB:uo m w ω (ω.row id) F2 r2)
  (hF:∀k,F2 k→(k<w.heap.size∧(w0.heap.size≤k∨F0 k)∧∀x v,m x=some v→x.block≠k)∧∀κ id',s.live κ id'→¬ (κ=true∧id'=id)→¬ ω.f κ id' k) :
  ∃ω',CI P w0 m0 F0 {s with row:=(id,r2)::del id s.row} a w m ω'∧ω'.row=ω.row∧ω'.box=ω.box∧(∀κ id',¬ (κ=true∧id'=id)→ω'.f κ id'=ω.f κ id')∧ω'.f true id=F2:=by
 have hw:CI P w0 m0 F0 {s with row:=del id s.row} a w m ω:=h.weaken rfl (fun _ _ h=>h) (fun _ _ h=>h) fun i r' h'=>by
  rw [re] at h'
  split at h'
  ·cases h'
  ·exact h'
 have hn:look (del id s.row) id=Option.none:=by rw [re,if_pos rfl]
 have live:∀κ i,({s with row:=del id s.row}:St).live κ i→s.live κ i∧¬ (κ=true∧i=id):=by
  intro κ i hl
  cases κ with
  | false=>exact ⟨hl,by simp⟩
  | true =>
   have hl:(look (del id s.row) i).isSome:=hl
   rw [re] at hl
   split at hl
   ·cases hl
   ·rename_i hne
    exact ⟨hl,fun q=>hne q.2⟩
 have h3:=hw.H9 (fun κ i=>if κ=true∧i=id then F2 else ω.f κ i) fun κ i hl=>by rw [if_neg (live κ i hl).2]
 have hE:∀v l,bi m ω v l→bi m {ω with f:=fun κ i=>if κ=true∧i=id then F2 else ω.f κ i} v l:=by
  intro v l hl
  cases l with
  | bD f' caps=>obtain ⟨vs,h1,h2,h3⟩:=hl;exact ⟨vs,h1,h2,fun i u hu=>let ⟨x,h4,h5⟩:=h3 i u hu;⟨x,h4,h5.imp (fun h=>h) (fun hp=>by cases u<;>exact hp)⟩⟩
  | _=>exact hl
 refine ⟨_,h3.Av id r2 hn (fun b hb=>h.home.row id b hb (by rw [hr];rfl)) ?_ ?_ ?_,rfl,rfl,fun κ i hne=>?_,?_⟩
 ·have:=hB.sX (g:=fun l=>l) ⟨Mem.le_refl m,hE,fun _ _=>rfl,fun _ _=>rfl⟩
  have e:r2.map (fun l=>l)=r2:=by cases r2;simp [aN.map]
  rw [e] at this
  unfold vL
  simp only [true_and,if_true]
  exact this
 ·intro k hk
  simp only [true_and,if_true] at hk
  exact (hF k hk).1
 ·intro κ i hl k hk hk'
  obtain ⟨l1,l2⟩:=live κ i hl
  simp only [if_neg l2] at hk
  simp only [true_and,if_true] at hk'
  exact (hF k hk').2 κ i l1 l2 hk
 ·simp only [if_neg hne]
 ·simp only [true_and,if_true]
def St.Fz (s:St) (id:Nat) (r:aN) (i j id':Nat) (r':aN):St :=
 {s.aV id' with row:=(id,⟨r.sz,setCell r.xs i j (.own r'.sz r'.xs),wE i j (r.map (L.aV id')).ov⟩)::Bw.del id (s.aV id').row}
theorem FA {id':Nat} {r:aN} (i j:Nat):aP (r.map (L.aV id')).ov i j=(aP r.ov i j).map (L.aV id'):=by
 simp only [aN.map]
 rw [E9]
theorem CI.close (h:CI P w0 m0 F0 s a w m ω) {id id' i j:Nat} {r r':aN} (hr:look s.row id=some r) (hr':look s.row id'=some r') (hne:id≠id') (ho:aP r.ov i j=some (.ref id' 0 r'.xs.length)) (hi:i<r.xs.length) (hj:j<r.sz) (hov:r'.ov=[]) :
  ∃ω',CI P w0 m0 F0 (s.Fz id r i j id' r') a w m ω':=by
 have l1:s.live true id:=by show (look s.row id).isSome;rw [hr];rfl
 have l2:s.live true id':=by show (look s.row id').isSome;rw [hr'];rfl
 have hap:∀k,ω.f true id k→ω.f true id' k→False:=fun k k1 k2=>hne (h.apart _ _ _ _ l1 l2 k k1 k2).2
 have R:=h.row id r hr
 have R':=h.row id' r' hr'
 obtain ⟨q1,q2,q3⟩:=R
 cases hb:(ω.row id).sT with
 | none=>rw [hb] at q3;have:=q3.1;rw [this] at hi;exact absurd hi (by simp)
 | some b =>
 rw [hb] at q3
 obtain ⟨cs,e,g1,g2,g3,g4,g5,G,g6,g7,g8⟩:=q3
 have hx:r.xs[i].length=r.sz:=q2 _ (bl hi)
 obtain ⟨v,hv,hRC⟩:=g8 i j (r.xs[i][j]'(by omega)) (by unfold cellOf;rw [ig hi];simp only [dJ];exact ig _)
 rw [ho] at hRC
 have hRC:rk (ω.row id') 0 r'.xs.length v:=hRC
 have crep:eS m w (ω.f true id') v (.own r'.sz r'.xs):=by
  obtain ⟨p1,p2,p3⟩:=R'
  cases hb':(ω.row id').sT with
  | none =>
   rw [hb'] at p3
   rcases hRC with ⟨_,_,_,rfl⟩|⟨b',ad,hq,_⟩
   ·rw [p3.1];exact .yj _
   ·rw [hb'] at hq;cases hq
  | some b' =>
   rw [hb'] at p3
   rcases hRC with ⟨hq,_⟩|⟨b2,ad,hq,hle,rfl,had⟩
   ·rw [hb'] at hq;cases hq
   rw [hb'] at hq
   injection hq with hq
   subst hq
   obtain ⟨cs',e',t1,t2,t3,t4,t5,G',t6,t7,t8⟩:=p3
   have had:=had (.inr rfl)
   rw [zA] at had
   subst had
   rw [wc]
   refine .own b' r'.xs.length (ω.row id').cap r'.sz r'.xs cs' e' (fun i j=>(cs'[i * r'.sz+j]?).getD undef) G' t5 t1 rfl t3 t4.1 t2 p2 t6 t7 (fun i j u hu=>?_) (fun i j u hu=>?_) t4.2.2
   ·obtain ⟨v,t9,_⟩:=t8 i j u hu
    simp only [t9,eE]
   ·obtain ⟨v,t9,t10⟩:=t8 i j u hu
    rw [hov] at t10
    simp only [t9,eE]
    exact t10
 have h1:=h.aV id' ⟨Option.none,0,0⟩ (fun _=>False)
 have hE:∀{v l},bi m ω v l→bi m {box:=ω.box,row:=pY ω.row id' ⟨Option.none,0,0⟩,f:=fun κ i=>if κ=true∧i=id' then (fun _=>False) else ω.f κ i} v (l.aV id'):=fun hl=>by
  refine Aw (ω:=ω) (fun i hi=>?_) ?_ hl
  ·simp [pY,hi]
  ·rfl
 have hlk:look (s.aV id').row id=some (r.map (L.aV id')):=by
  simp only [St.aV]
  rw [yH (aN.map (L.aV id')),re,if_neg hne,hr]
  rfl
 obtain ⟨ω',hC,_⟩:=h1.Ms (r2:=⟨r.sz,setCell r.xs i j (.own r'.sz r'.xs),wE i j (r.map (L.aV id')).ov⟩) hlk (fun k=>ω.f true id k∨ω.f true id' k) (by
  have er:(pY ω.row id' ⟨Option.none,0,0⟩) id=ω.row id:=by simp [pY,hne]
  refine ⟨by show ((pY ω.row id' ⟨Option.none,0,0⟩) id).sz=_;rw [er];exact q1,If q2,?_⟩
  show match ((pY ω.row id' ⟨Option.none,0,0⟩) id).sT with|Option.none=>_|some b=>_
  simp only [er,hb]
  refine ⟨cs,e,g1,g2,by rw [Cu];exact g3,⟨g4.1,fun l hl=>?_,g4.2.2⟩,.inl g5,fun i0 j0=>if i0=i∧j0=j then ω.f true id' else G i0 j0,fun i0 j0 k hk=>?_,fun i0 j0 i1 j1 k hk hk'=>?_,fun i0 j0 u hu=>?_⟩
  ·rw [Cu,BA] at hl
   split at hl
   ·cases hl
   ·rw [FA,rI] at hl
    obtain ⟨l0,hl,_⟩:=hl
    rw [Cu]
    exact g4.2.1 l0 hl
  ·replace hk:(if i0=i∧j0=j then ω.f true id' else G i0 j0) k:=hk
   split at hk
   ·exact ⟨.inr hk,fun e=>hap b g5 (e▸hk)⟩
   ·exact ⟨.inl (g6 _ _ _ hk).1,(g6 _ _ _ hk).2⟩
  ·replace hk:(if i0=i∧j0=j then ω.f true id' else G i0 j0) k:=hk
   replace hk':(if i1=i∧j1=j then ω.f true id' else G i1 j1) k:=hk'
   split at hk<;>split at hk'
   ·rename_i c1 c2
    exact ⟨c1.1.trans c2.1.symm,c1.2.trans c2.2.symm⟩
   ·exact (hap k (g6 _ _ _ hk').1 hk).elim
   ·exact (hap k (g6 _ _ _ hk).1 hk').elim
   ·exact g7 _ _ _ _ _ hk hk'
  ·rcases Mr hu with ⟨rfl,rfl,rfl⟩|⟨hn,hu⟩
   ·refine ⟨v,hv,?_⟩
    rw [BA,if_pos ⟨rfl,rfl⟩]
    simp only [and_self,if_true]
    exact crep
   ·obtain ⟨v0,u1,u2⟩:=g8 i0 j0 u hu
    refine ⟨v0,u1,?_⟩
    rw [BA,if_neg hn,FA]
    simp only [if_neg hn]
    cases hq:aP r.ov i0 j0 with
    | none=>rw [hq] at u2;exact u2
    | some l=>rw [hq] at u2;exact hE u2) (by
  intro k hk
  refine ⟨?_,fun κ i0 hl hn hk'=>?_⟩
  ·rcases hk with hk|hk
   ·exact h.fresh _ _ l1 k hk
   ·exact h.fresh _ _ l2 k hk
  ·have hl':s.live κ i0∧¬ (κ=true∧i0=id'):=by
    cases κ with
    | false =>
     obtain ⟨x,hx⟩:=Option.isSome_iff_exists.1 hl
     obtain ⟨y,hy,_⟩:=rR hx
     exact ⟨by show (look s.box i0).isSome;rw [hy];rfl,by simp⟩
    | true =>
     obtain ⟨x,hx⟩:=Option.isSome_iff_exists.1 hl
     obtain ⟨y,hy,_⟩:=rR hx
     rw [re] at hy
     split at hy
     ·cases hy
     ·rename_i hne2
      exact ⟨by show (look s.row i0).isSome;rw [hy];rfl,fun q=>hne2 q.2⟩
   simp only [if_neg hl'.2] at hk'
   rcases hk with hk|hk
   ·have:=h.apart _ _ _ _ hl'.1 l1 k hk' hk
    exact hn ⟨this.1,this.2⟩
   ·have:=h.apart _ _ _ _ hl'.1 l2 k hk' hk
    exact hl'.2 ⟨this.1,this.2⟩)
 exact ⟨ω',hC⟩
theorem ab.close {Q:Exit→St→Prop} {c:Code} (id i j id':Nat) {r r':aN} (hr:look s.row id=some r) (hr':look s.row id'=some r') (hne:id≠id') (ho:aP r.ov i j=some (.ref id' 0 r'.xs.length)) (hi:i<r.xs.length) (hj:j<r.sz) (hov:r'.ov=[])
  (h:ab P w0 m0 F0 c Q (s.Fz id r i j id' r')):ab P w0 m0 F0 c Q s:=fun a w ⟨_,_,hC⟩ =>
 let ⟨_,h1⟩:=hC.close hr hr' hne ho hi hj hov
 h a w ⟨_,_,h1⟩
def St.Ig (s:St) (id:Nat) (r:aN) (i j id' sz:Nat) (xs:List (List L)):St :=
 {s.aV id' with row:=(id',⟨sz,xs,[]⟩)::(id,⟨r.sz,r.xs,(i,j,.ref id' 0 xs.length)::(r.map (L.aV id')).ov⟩)::Bw.del id (s.aV id').row}
theorem S9 {G:Nat→Prop} {v:Value} {sz:Nat} {xs:List (List L)} (h:eS m w G v (.own sz xs)):∃ri:zD,rk ri 0 xs.length v∧∀ω':Wh,uo m w ω' ri G ⟨sz,xs,[]⟩:=by
 cases h with
 | fr h=>cases h
 | yj=>exact ⟨⟨none,0,sz⟩,.inl ⟨rfl,rfl,rfl,rfl⟩,fun ω'=>⟨rfl,fun x hx=>(by cases hx),rfl,rfl⟩⟩
 | own b n cap sz xs cs e vals G' hb hh hn hcap hcm hcs hsz hG hD hv hc hone =>
  subst hn
  refine ⟨⟨some b,cap,sz⟩,.inr ⟨b,⟨b,0,none⟩,rfl,(by show 0+xs.length≤cap;omega),(by rw [wc]),fun _=>(by rw [zA])⟩,fun ω'=>⟨rfl,hsz,cs,e,hh,hcs,hcap,⟨hcm,fun l hl=>(by cases hl),hone⟩,hb,G',hG,hD,fun i j u hu=>⟨vals i j,hv i j u hu,hc i j u hu⟩⟩⟩
theorem CI.rD (h:CI P w0 m0 F0 s a w m ω) {id id' i j sz:Nat} {xs:List (List L)} {r:aN} (hr:look s.row id=some r) (hc:cellOf r.xs i j=some (.own sz xs)) (ho:aP r.ov i j=Option.none) (hne:id≠id') (hbig:2000≤id') :
  ∃ω',CI P w0 m0 F0 (s.Ig id r i j id' sz xs) a w m ω':=by
 have l1:s.live true id:=by show (look s.row id).isSome;rw [hr];rfl
 obtain ⟨q1,q2,q3⟩:=h.row id r hr
 have hi:i<r.xs.length:=by
  unfold cellOf at hc
  cases hx:r.xs[i]? with
  | none=>rw [hx] at hc;cases hc
  | some x=>exact (List.getElem?_eq_some_iff.1 hx).1
 cases hb:(ω.row id).sT with
 | none=>rw [hb] at q3;have:=q3.1;rw [this] at hi;exact absurd hi (by simp)
 | some b =>
 rw [hb] at q3
 obtain ⟨cs,e,g1,g2,g3,g4,g5,G,g6,g7,g8⟩:=q3
 obtain ⟨v,hv,hRC⟩:=g8 i j _ hc
 rw [ho] at hRC
 obtain ⟨ri,hRA,hRR⟩:=S9 hRC
 have h1:=h.aV id' ri (fun _=>False)
 have hE:∀{v l},bi m ω v l→bi m {box:=ω.box,row:=pY ω.row id' ri,f:=fun κ i=>if κ=true∧i=id' then (fun _=>False) else ω.f κ i} v (l.aV id'):=fun hl=>by
  refine Aw (ω:=ω) (fun i hi=>?_) ?_ hl
  ·simp [pY,hi]
  ·rfl
 have hlk:look (s.aV id').row id=some (r.map (L.aV id')):=by
  simp only [St.aV]
  rw [yH (aN.map (L.aV id')),re,if_neg hne,hr]
  rfl
 have live1:∀κ i0,(s.aV id').live κ i0→s.live κ i0∧¬ (κ=true∧i0=id'):=by
  intro κ i0 hl
  cases κ with
  | false =>
   obtain ⟨x,hx⟩:=Option.isSome_iff_exists.1 hl
   obtain ⟨y,hy,_⟩:=rR hx
   exact ⟨by show (look s.box i0).isSome;rw [hy];rfl,by simp⟩
  | true =>
   obtain ⟨x,hx⟩:=Option.isSome_iff_exists.1 hl
   obtain ⟨y,hy,_⟩:=rR hx
   rw [re] at hy
   split at hy
   ·cases hy
   ·rename_i hne2
    exact ⟨by show (look s.row i0).isSome;rw [hy];rfl,fun q=>hne2 q.2⟩
 obtain ⟨ω',hC,e1,e2,e3,e4⟩:=h1.Ms (r2:=⟨r.sz,r.xs,(i,j,.ref id' 0 xs.length)::(r.map (L.aV id')).ov⟩) hlk (fun k=>ω.f true id k∧¬ G i j k) (by
  have er:(pY ω.row id' ri) id=ω.row id:=by simp [pY,hne]
  refine ⟨by show ((pY ω.row id' ri) id).sz=_;rw [er];exact q1,q2,?_⟩
  show match ((pY ω.row id' ri) id).sT with|Option.none=>_|some b=>_
  simp only [er,hb]
  refine ⟨cs,e,g1,g2,g3,⟨g4.1,fun l hl=>?_,g4.2.2⟩,⟨g5,fun q=>(g6 _ _ _ q).2 rfl⟩,fun i0 j0 k=>G i0 j0 k∧¬ (i0=i∧j0=j),fun i0 j0 k hk=>⟨⟨(g6 _ _ _ hk.1).1,fun q=>hk.2 (g7 _ _ _ _ _ hk.1 q)⟩,(g6 _ _ _ hk.1).2⟩,fun i0 j0 i1 j1 k hk hk'=>g7 _ _ _ _ _ hk.1 hk'.1,fun i0 j0 u hu=>?_⟩
  ·replace hl:aP ((i,j,L.ref id' 0 xs.length)::(r.map (L.aV id')).ov) r.xs.length 0=some l:=hl
   rw [aP,if_neg (fun q=>by omega),FA,rI] at hl
   obtain ⟨l0,hl,_⟩:=hl
   exact g4.2.1 l0 hl
  ·obtain ⟨v0,u1,u2⟩:=g8 i0 j0 u hu
   refine ⟨v0,u1,?_⟩
   rw [aP]
   by_cases hn:i=i0∧j=j0
   ·obtain ⟨rfl,rfl⟩:=hn
    rw [if_pos ⟨rfl,rfl⟩]
    rw [hv] at u1
    injection u1 with u1
    subst u1
    show rk ((pY ω.row id' ri) id') 0 xs.length v
    simp only [pY,if_true]
    exact hRA
   ·rw [if_neg hn,FA]
    cases hq:aP r.ov i0 j0 with
    | none =>
     rw [hq] at u2
     exact eS.sub u2 fun k hk=>⟨hk,fun q=>hn ⟨q.1.symm,q.2.symm⟩⟩
    | some l=>rw [hq] at u2;exact hE u2) (by
  intro k hk
  refine ⟨h.fresh _ _ l1 k hk.1,fun κ i0 hl hn hk'=>?_⟩
  obtain ⟨p1,p2⟩:=live1 κ i0 hl
  simp only [if_neg p2] at hk'
  have:=h.apart _ _ _ _ p1 l1 k hk' hk.1
  exact hn ⟨this.1,this.2⟩)
 have hnone:look ((id,(⟨r.sz,r.xs,(i,j,.ref id' 0 xs.length)::(r.map (L.aV id')).ov⟩:aN))::Bw.del id (s.aV id').row) id'=Option.none:=by
  rw [look,if_neg hne,re,if_neg (Ne.symm hne)]
  exact Fs s id'
 have h3:=hC.H9 (fun κ x=>if κ=true∧x=id' then G i j else ω'.f κ x) fun κ x hl=>by
  rw [if_neg]
  rintro ⟨rfl,rfl⟩
  have hl:(look ((id,(⟨r.sz,r.xs,(i,j,.ref x 0 xs.length)::(r.map (L.aV x)).ov⟩:aN))::Bw.del id (s.aV x).row) x).isSome:=hl
  rw [hnone] at hl
  cases hl
 refine ⟨_,h3.Av id' ⟨sz,xs,[]⟩ hnone (fun b hb=>?_) ?_ ?_ ?_⟩
 ·have:=(h.home.tz id' (.inr (by rw [hb];rfl))).2.2
  omega
 ·unfold vL
  simp only [e1,true_and,if_true,pY]
  exact hRR _
 ·intro k hk
  simp only [true_and,if_true] at hk
  exact h.fresh _ _ l1 k (g6 _ _ _ hk).1
 ·intro κ x hl k hk hk'
  simp only [true_and,if_true] at hk'
  have hx:¬ (κ=true∧x=id'):=by
   rintro ⟨rfl,rfl⟩
   have hl:(look ((id,(⟨r.sz,r.xs,(i,j,.ref x 0 xs.length)::(r.map (L.aV x)).ov⟩:aN))::Bw.del id (s.aV x).row) x).isSome:=hl
   rw [hnone] at hl
   cases hl
  simp only [if_neg hx] at hk
  by_cases hy:κ=true∧x=id
  ·obtain ⟨rfl,rfl⟩:=hy
   rw [e4] at hk
   exact hk.2 hk'
  ·rw [e3 κ x hy] at hk
   simp only [if_neg hx] at hk
   have hl':s.live κ x:=by
    cases κ with
    | false =>
     have hl:(s.aV id').live false x:=hl
     exact (live1 _ _ hl).1
    | true =>
     have hl:(look ((id,(⟨r.sz,r.xs,(i,j,.ref id' 0 xs.length)::(r.map (L.aV id')).ov⟩:aN))::Bw.del id (s.aV id').row) x).isSome:=hl
     have hxi:id≠x:=fun e=>hy ⟨rfl,e.symm⟩
     rw [look,if_neg hxi,re,if_neg (Ne.symm hxi)] at hl
     exact (live1 true x hl).1
   have:=h.apart _ _ _ _ hl' l1 k hk (g6 _ _ _ hk').1
   exact hy ⟨this.1,this.2⟩
theorem ab.rD {Q:Exit→St→Prop} {c:Code} (id i j id':Nat) {sz:Nat} {xs:List (List L)} {r:aN} (hr:look s.row id=some r) (hc:cellOf r.xs i j=some (.own sz xs)) (ho:aP r.ov i j=none) (hne:id≠id') (hbig:2000≤id')
  (h:ab P w0 m0 F0 c Q (s.Ig id r i j id' sz xs)):ab P w0 m0 F0 c Q s:=fun a w ⟨_,_,hC⟩ =>
 let ⟨_,h1⟩:=hC.rD hr hc ho hne hbig
 h a w ⟨_,_,h1⟩
def St.Ih (s:St) (id:Nat) (ls:List L) (o id' sz:Nat):St :=
 ⟨s.n,(s.aV id').env,(id,(ls.map (L.aV id')).set o (.ref id' 0 0))::Bw.del id (s.aV id').box,(id',⟨sz,[],[]⟩)::(s.aV id').row⟩
theorem CI.BB (h:CI P w0 m0 F0 s a w m ω) {id o id' sz:Nat} {ls:List L} (hb:look s.box id=some ls) (hl:ls[o]?=some (.nil sz)) (hid:id'<s.n∨2000≤id'):∃ω',CI P w0 m0 F0 (s.Ih id ls o id' sz) a w m ω':=by
 have l1:s.live false id:=by show (look s.box id).isSome;rw [hb];rfl
 obtain ⟨cs,e,b1,b2,b3,G,b4,b5,b6⟩:=h.box id ls hb
 have h1:=h.aV id' ⟨Option.none,0,sz⟩ (fun _=>False)
 have hE:∀{v l},bi m ω v l→bi m {box:=ω.box,row:=pY ω.row id' ⟨Option.none,0,sz⟩,f:=fun κ i=>if κ=true∧i=id' then (fun _=>False) else ω.f κ i} v (l.aV id'):=fun hl=>by
  refine Aw (ω:=ω) (fun i hi=>?_) ?_ hl
  ·simp [pY,hi]
  ·rfl
 have R:Au m m ω {box:=ω.box,row:=pY ω.row id' ⟨Option.none,0,sz⟩,f:=fun κ i=>if κ=true∧i=id' then (fun _=>False) else ω.f κ i} (L.aV id'):=⟨Mem.le_refl m,fun v l hl=>hE hl,fun _ _=>rfl,fun _ _=>rfl⟩
 have live1:∀κ i0,(s.aV id').live κ i0→s.live κ i0∧¬ (κ=true∧i0=id'):=by
  intro κ i0 hl
  cases κ with
  | false =>
   obtain ⟨x,hx⟩:=Option.isSome_iff_exists.1 hl
   obtain ⟨y,hy,_⟩:=rR hx
   exact ⟨by show (look s.box i0).isSome;rw [hy];rfl,by simp⟩
  | true =>
   obtain ⟨x,hx⟩:=Option.isSome_iff_exists.1 hl
   obtain ⟨y,hy,_⟩:=rR hx
   rw [re] at hy
   split at hy
   ·cases hy
   ·rename_i hne2
    exact ⟨by show (look s.row i0).isSome;rw [hy];rfl,fun q=>hne2 q.2⟩
 have h2:CI P w0 m0 F0 ⟨s.n,(s.aV id').env,Bw.del id (s.aV id').box,(s.aV id').row⟩ a w m _:=h1.weaken rfl (fun _ _ h=>h) (fun i ls' h'=>by
  rw [re] at h'
  split at h'
  ·cases h'
  ·exact h') (fun _ _ h=>h)
 have live2:∀κ i0,(⟨s.n,(s.aV id').env,Bw.del id (s.aV id').box,(s.aV id').row⟩:St).live κ i0→(s.aV id').live κ i0∧¬ (κ=false∧i0=id):=by
  intro κ i0 hl
  cases κ with
  | true=>exact ⟨hl,by simp⟩
  | false =>
   have hl:(look (Bw.del id (s.aV id').box) i0).isSome:=hl
   rw [re] at hl
   split at hl
   ·cases hl
   ·rename_i hne2
    exact ⟨hl,fun q=>hne2 q.2⟩
 have h3:=h2.wk id ((ls.map (L.aV id')).set o (.ref id' 0 0)) (by show look (Bw.del id (s.aV id').box) id=_;rw [re,if_pos rfl]) (fun b hbb=>h.home.box id b hbb l1) (by
  refine ⟨cs,e,b1,by simpa using b2,by simpa using b3,G,by simpa using b4,b5,fun j l hj=>?_⟩
  rw [Ce] at hj
  split at hj
  ·rename_i hoj
   subst hoj
   split at hj
   ·injection hj with hj
    subst hj
    obtain ⟨v,c1,c2⟩:=b6 o _ hl
    have c2:aM m v (.nil sz):=c2
    refine ⟨v,c1,?_⟩
    show rk ((pY ω.row id' ⟨Option.none,0,sz⟩) id') 0 0 v
    simp only [pY,if_true]
    cases c2
    exact .inl ⟨rfl,rfl,rfl,rfl⟩
   ·cases hj
  ·simp only [ql,rI] at hj
   obtain ⟨l0,hj,rfl⟩:=hj
   obtain ⟨v,c1,c2⟩:=b6 j l0 hj
   exact ⟨v,c1,c2.sX R⟩)
  (fun k hk=>by simp only [de,Rl,if_false] at hk;exact h.fresh _ _ l1 k hk)
  (fun κ x hx k hk hk'=>by
   obtain ⟨p1,p2⟩:=live2 κ x hx
   obtain ⟨p3,p4⟩:=live1 κ x p1
   simp only [if_neg p4] at hk
   simp only [de,Rl,if_false] at hk'
   have:=h.apart _ _ _ _ p3 l1 k hk hk'
   exact p2 ⟨this.1,this.2⟩)
 refine ⟨_,h3.Av id' ⟨sz,[],[]⟩ (Fs s id') (fun b hbb=>?_) ?_ (fun k hk=>?_) (fun κ x _ k _ hk'=>?_)⟩
 ·have:=h.home.tz id' (.inr (by rw [hbb];rfl))
  omega
 ·unfold vL
  simp only [pY,if_true]
  exact ⟨rfl,fun x hx=>(by cases hx),rfl,rfl⟩
 ·simp only [true_and,if_true] at hk
 ·simp only [true_and,if_true] at hk'
theorem ab.BB {Q:Exit→St→Prop} {c:Code} (id o id':Nat) {sz:Nat} {ls:List L} (hb:look s.box id=some ls) (hl:ls[o]?=some (.nil sz)) (hid:id'<s.n∨2000≤id')
  (h:ab P w0 m0 F0 c Q (s.Ih id ls o id' sz)):ab P w0 m0 F0 c Q s:=fun a w ⟨_,_,hC⟩ =>
 let ⟨_,h1⟩:=hC.BB hb hl hid
 h a w ⟨_,_,h1⟩
theorem ru (i j:Nat):wE i j []=[]:=rfl
theorem rv (i j a b:Nat) (l:L) (r:List (Nat×Nat×L)):wE i j ((a,b,l)::r)=if a=i∧b=j then wE i j r else (a,b,l)::wE i j r:=rfl
theorem rG (n:Nat) (e:List (Nat×A)) (b:List (Nat×List L)) (k:List (Nat×aN)) (id i j id' sz sz':Nat) (xs xs':List (List L)) (ov ov':List (Nat×Nat×L)):St.Fz ⟨n,e,b,k⟩ id ⟨sz,xs,ov⟩ i j id' ⟨sz',xs',ov'⟩ =
  ⟨n,e.map fun p=>(p.1,p.2.map (L.aV id')),b.map fun p=>(p.1,p.2.map (L.aV id')),(id,⟨sz,setCell xs i j (.own sz' xs'),wE i j (ov.map fun p=>(p.1,p.2.1,L.aV id' p.2.2))⟩)::Bw.del id ((Bw.del id' k).map fun p=>(p.1,p.2.map (L.aV id')))⟩:=rfl
theorem rP (n:Nat) (e:List (Nat×A)) (b:List (Nat×List L)) (k:List (Nat×aN)) (id i j id' sz sz':Nat) (xs xs':List (List L)) (ov:List (Nat×Nat×L)):St.Ig ⟨n,e,b,k⟩ id ⟨sz,xs,ov⟩ i j id' sz' xs' =
  ⟨n,e.map fun p=>(p.1,p.2.map (L.aV id')),b.map fun p=>(p.1,p.2.map (L.aV id')),(id',⟨sz',xs',[]⟩)::(id,⟨sz,xs,(i,j,.ref id' 0 xs'.length)::(ov.map fun p=>(p.1,p.2.1,L.aV id' p.2.2))⟩)::Bw.del id ((Bw.del id' k).map fun p=>(p.1,p.2.map (L.aV id')))⟩:=rfl
theorem DL (n:Nat) (e:List (Nat×A)) (b:List (Nat×List L)) (k:List (Nat×aN)) (id o id' sz:Nat) (ls:List L):St.Ih ⟨n,e,b,k⟩ id ls o id' sz =
  ⟨n,e.map fun p=>(p.1,p.2.map (L.aV id')),(id,(ls.map (L.aV id')).set o (.ref id' 0 0))::Bw.del id (b.map fun p=>(p.1,p.2.map (L.aV id'))),(id',⟨sz,[],[]⟩)::((Bw.del id' k).map fun p=>(p.1,p.2.map (L.aV id')))⟩:=rfl
end
end Go.Bw
namespace Go.Bw
open Go.RowKit
section
variable {P:Program} {w0:World} {m0:Mem} {s:St} {a:Act} {w:World} {m:Mem} {ω:Wh} {F0:Home}
theorem V.map_id (x:V):x.map (fun l=>l)=x:=by cases x<;>simp [V.map]
theorem A.map_id (x:A):x.map (fun l=>l)=x:=by
 cases x with
 | v x=>simp [A.map,V.map_id]
 | cR xs =>
  simp only [A.map]
  congr 1
  exact (u6 fun x _=>V.map_id x).trans (CM xs)
def tF (xs:List (List L)):List (List L):=xs.map fun x=>x.map (L.fD 4)
theorem CI.uf (h:CI P w0 m0 F0 s a w m ω) {id:Nat} {r:aN} (hr:look s.row id=some r) :
  ∃m' ω',CI P w0 m0 F0 {s with row:=(id,⟨r.sz,tF r.xs,r.ov⟩)::del id s.row} a w m' ω':=by
 have hlive:s.live true id:=by show (look s.row id).isSome;rw [hr];rfl
 obtain ⟨q1,q2,q3⟩:=h.row id r hr
 have hw:CI P w0 m0 F0 {s with row:=del id s.row} a w m ω:=h.weaken rfl (fun _ _ h=>h) (fun _ _ h=>h) fun i r' h'=>by
  rw [re] at h'
  split at h'
  ·cases h'
  ·exact h'
 have hn:look (del id s.row) id=Option.none:=by rw [re,if_pos rfl]
 have live:∀κ i,({s with row:=del id s.row}:St).live κ i→s.live κ i∧¬ (κ=true∧i=id):=by
  intro κ i hl
  cases κ with
  | false=>exact ⟨hl,by simp⟩
  | true =>
   have hl:(look (del id s.row) i).isSome:=hl
   rw [re] at hl
   split at hl
   ·cases hl
   ·rename_i hne
    exact ⟨hl,fun q=>hne q.2⟩
 have hsz:∀x∈tF r.xs,x.length=r.sz:=by
  intro x hx
  obtain ⟨y,hy,rfl⟩:=List.mem_map.1 hx
  simpa using q2 y hy
 have hlen:(tF r.xs).length=r.xs.length:=by simp [tF]
 cases hb:(ω.row id).sT with
 | none =>
  rw [hb] at q3
  refine ⟨m,ω,hw.Av id _ hn (fun b hbb=>h.home.row id b hbb hlive) ?_ (fun k hk=>h.fresh true id hlive k hk) (fun κ i hl k hk hk'=>?_)⟩
  ·refine ⟨q1,hsz,?_⟩
   rw [hb]
   exact ⟨by rw [q3.1];rfl,q3.2⟩
  ·obtain ⟨l1,l2⟩:=live κ i hl
   have:=h.apart _ _ _ _ l1 hlive k hk hk'
   exact l2 ⟨this.1,this.2⟩
 | some b =>
  rw [hb] at q3
  obtain ⟨cs,e,g1,g2,g3,g4,g5,G,g6,g7,g8⟩:=q3
  let F:Nat→Prop:=fun k=>∃i j,G i j k
  have hFf:∀k,F k→ω.f true id k∧k≠b:=fun k ⟨i,j,hk⟩=>g6 i j k hk
  have hF:∀x v,m x=some v→¬ F x.block:=fun x v hx hk=>(h.fresh true id hlive _ (hFf _ hk).1).2.2 x v hx rfl
  have hle:=EO (w:=w) hF
  have h2:=hw.H9 (fun κ i=>if κ=true∧i=id then (fun k=>ω.f true id k∧¬ F k) else ω.f κ i) fun κ i hl=>by rw [if_neg (live κ i hl).2]
  have hE:∀v l,bi m {ω with f:=fun κ i=>if κ=true∧i=id then (fun k=>ω.f true id k∧¬ F k) else ω.f κ i} v l→bi (wU m w F) {ω with f:=fun κ i=>if κ=true∧i=id then (fun k=>ω.f true id k∧¬ F k) else ω.f κ i} v l:=fun v l hl=>hl.mono hle
  have h3:=h2.sX (s':={s with row:=del id s.row}) (m':=wU m w F) (g:=fun l=>l) ⟨hle,hE,fun _ _=>rfl,fun _ _=>rfl⟩ rfl (fun t x hx=>⟨x,hx,(A.map_id x).symm⟩) (fun i ls hi=>⟨ls,hi,by simp,rfl,rfl⟩)
   (fun i r' hi=>⟨r',hi,by cases r';simp [aN.map],rfl,rfl⟩) (EP h.ok) (fun x=>by
    by_cases hx:F x.block
    ·refine .inr ⟨(h.fresh true id hlive _ (hFf _ hx).1).2.1,fun κ i hl hk=>?_⟩
     obtain ⟨l1,l2⟩:=live κ i hl
     simp only [if_neg l2] at hk
     have:=h.apart _ _ _ _ l1 hlive _ hk (hFf _ hx).1
     exact l2 ⟨this.1,this.2⟩
    ·exact .inl (AZ hx))
  refine ⟨_,_,h3.Av id ⟨r.sz,tF r.xs,r.ov⟩ hn (fun b hbb=>h.home.row id b hbb hlive) ?_ (fun k hk=>?_) (fun κ i hl k hk hk'=>?_)⟩
  ·refine ⟨q1,hsz,?_⟩
   simp only [true_and,if_true,hb]
   refine ⟨cs,e,g1,g2,by rw [hlen];exact g3,⟨g4.1,fun l hl=>(by simp only [hlen] at hl ⊢;exact g4.2.1 l hl),g4.2.2⟩,⟨g5,fun hk=>(hFf _ hk).2 rfl⟩,fun _ _ _=>False,fun _ _ _ hk=>hk.elim,fun _ _ _ _ _ hk=>hk.elim,fun i j u hu=>?_⟩
   obtain ⟨u',hu',rfl⟩:=Ci r.xs (L.fD 4) i j u hu
   obtain ⟨v,k1,k2⟩:=g8 i j u' hu'
   refine ⟨v,k1,?_⟩
   simp only
   cases ho:aP r.ov i j with
   | none =>
    rw [ho] at k2
    have k2:eS m w (G i j) v u':=k2
    exact .fr (k2.rN hle (fun x hx=>C6 (m:=m) ⟨i,j,hx⟩) 4)
   | some l =>
    rw [ho] at k2
    have k2:bi m ω v l:=k2
    have k3:=k2.mono hle
    show bi (wU m w F) _ v l
    cases l with
    | bD f' caps=>obtain ⟨vs,c1,c2,c3⟩:=k3;exact ⟨vs,c1,c2,fun i u hu=>let ⟨x,c4,c5⟩:=c3 i u hu;⟨x,c4,c5.imp (fun h=>h) (fun hp=>by cases u<;>exact hp)⟩⟩
    | _=>exact k3
  ·simp only [true_and,if_true] at hk
   obtain ⟨k1,k2,k3⟩:=h.fresh true id hlive k hk.1
   refine ⟨k1,k2,fun x v hx he=>?_⟩
   by_cases hx':F x.block
   ·exact hk.2 (he▸hx')
   ·rw [AZ hx'] at hx
    exact k3 x v hx he
  ·obtain ⟨l1,l2⟩:=live κ i hl
   simp only [if_neg l2] at hk
   simp only [true_and,if_true] at hk'
   have:=h.apart _ _ _ _ l1 hlive k hk hk'.1
   exact l2 ⟨this.1,this.2⟩
def St.eM (s:St) (id:Nat) (r:aN):St:={s with row:=(id,⟨r.sz,tF r.xs,r.ov⟩)::Bw.del id s.row}
theorem ab.eM {Q:Exit→St→Prop} {c:Code} (id:Nat) {r:aN} (hr:look s.row id=some r) (h:ab P w0 m0 F0 c Q (s.eM id r)):ab P w0 m0 F0 c Q s:=fun a w ⟨_,_,hC⟩ =>
 let ⟨_,_,h1⟩:=hC.uf hr
 h a w ⟨_,_,h1⟩
theorem fG (n:Nat) (e:List (Nat×A)) (b:List (Nat×List L)) (k:List (Nat×aN)) (id sz:Nat) (xs:List (List L)) (ov:List (Nat×Nat×L)):St.eM ⟨n,e,b,k⟩ id ⟨sz,xs,ov⟩=⟨n,e,b,(id,⟨sz,tF xs,ov⟩)::Bw.del id k⟩:=rfl
theorem ab.wW {Q:Exit→St→Prop} {c:Code} (id k:Nat) {r:aN} (hr:look s.row id=some r) (hov:r.ov=[]) (hk:k≤r.xs.length) (h:ab P w0 m0 F0 c Q {s with row:=bz id ⟨r.sz,r.xs.take k,[]⟩ s.row}):ab P w0 m0 F0 c Q s:=fun a w ⟨_,_,hC⟩ =>
 h a w ⟨_,_,hC.DE hr (fun i j _=>by rw [hov];rfl) hk⟩
def L.sg (a b:Nat):L→L
 | .dj i k o=>if i=a then .dj b k o else .dj i k o
 | .ref i lo n=>if i=a then .ref b lo n else .ref i lo n
 | l=>l
def L.c7 (a b:Nat):L→L
 | .bD f caps=>.bD f (caps.map (L.sg a b))
 | l=>l.sg a b
theorem Tb {a b:Nat} (hb:ω.row b=ω.row a) {v:Value} {l:L} (h:bi m ω v l):bi m ω v (l.c7 a b):=by
 have hP:∀x u,aM m x u∨tT ω x u→aM m x (u.sg a b)∨tT ω x (u.sg a b):=by
  intro x u hu
  cases u with
  | dj i k o =>
   simp only [L.sg]
   split
   ·rename_i hi
    rcases hu with hu|hu
    ·cases hu
    ·refine .inr ?_
     subst hi
     show ∃q,(ω.row b).sT=some q∧_
     rw [hb]
     exact hu
   ·exact hu
  | ref i lo n =>
   rcases hu with hu|hu
   ·cases hu
   ·cases hu
  | _=>exact hu
 cases l with
 | dj i k o =>
  simp only [L.c7,L.sg]
  split
  ·rename_i hi
   subst hi
   show ∃q,(ω.row b).sT=some q∧_
   rw [hb]
   exact h
  ·exact h
 | ref i lo n =>
  simp only [L.c7,L.sg]
  split
  ·rename_i hi
   subst hi
   show rk (ω.row b) lo n v
   rw [hb]
   exact h
  ·exact h
 | bD f caps =>
  obtain ⟨vs,h1,h2,h3⟩:=h
  refine ⟨vs,h1,by simpa using h2,fun i u hu=>?_⟩
  simp only [ql,rI] at hu
  obtain ⟨u0,hu,rfl⟩:=hu
  obtain ⟨x,h4,h5⟩:=h3 i u0 hu
  exact ⟨x,h4,hP x u0 h5⟩
 | _=>exact h
def St.iN (s:St) (id id':Nat) (r:aN):St :=
 let s1:=({s with row:=Bw.del id s.row}:St).aV id'
 {n:=s.n,env:=s1.env.map fun p=>(p.1,p.2.map (L.c7 id id')),box:=s1.box.map fun p=>(p.1,p.2.map (L.c7 id id')),row:=(id',r)::s1.row.map fun p=>(p.1,p.2.map (L.c7 id id'))}
theorem CI.Mu (h:CI P w0 m0 F0 s a w m ω) {id id':Nat} {r:aN} (hr:look s.row id=some r) (hov:r.ov=[]) (hne:id≠id') (hid:id'<s.n∨2000≤id'):∃ω',CI P w0 m0 F0 (s.iN id id' r) a w m ω':=by
 have hlive:s.live true id:=by show (look s.row id).isSome;rw [hr];rfl
 have hR:uo m w ω (ω.row id) (ω.f true id) r:=h.row id r hr
 have hw:CI P w0 m0 F0 {s with row:=del id s.row} a w m ω:=h.weaken rfl (fun _ _ h=>h) (fun _ _ h=>h) fun i r' h'=>by
  rw [re] at h'
  split at h'
  ·cases h'
  ·exact h'
 have live:∀κ i,(({s with row:=del id s.row}:St).aV id').live κ i→s.live κ i∧¬ (κ=true∧i=id)∧¬ (κ=true∧i=id'):=by
  intro κ i hl
  cases κ with
  | false =>
   obtain ⟨x,hx⟩:=Option.isSome_iff_exists.1 hl
   obtain ⟨y,hy,_⟩:=rR hx
   exact ⟨by show (look s.box i).isSome;rw [hy];rfl,by simp,by simp⟩
  | true =>
   obtain ⟨x,hx⟩:=Option.isSome_iff_exists.1 hl
   obtain ⟨y,hy,_⟩:=rR hx
   rw [re] at hy
   split at hy
   ·cases hy
   ·rename_i h1
    rw [re] at hy
    split at hy
    ·cases hy
    ·rename_i h2
     exact ⟨by show (look s.row i).isSome;rw [hy];rfl,fun q=>h2 q.2,fun q=>h1 q.2⟩
 have h2:=hw.aV id' (ω.row id) (ω.f true id)
 have hrow:(pY ω.row id' (ω.row id)) id'=(pY ω.row id' (ω.row id)) id:=by simp [pY,hne]
 have h3:=h2.sX (s':={n:=s.n,env:=(({s with row:=del id s.row}:St).aV id').env.map fun p=>(p.1,p.2.map (L.c7 id id')),box:=(({s with row:=del id s.row}:St).aV id').box.map fun p=>(p.1,p.2.map (L.c7 id id')),row:=(({s with row:=del id s.row}:St).aV id').row.map fun p=>(p.1,p.2.map (L.c7 id id'))})
  (g:=L.c7 id id') ⟨Mem.le_refl m,fun v l hl=>Tb hrow hl,fun _ _=>rfl,fun _ _=>rfl⟩ rfl (fun t x hx=>rR hx) (fun i ls hi=>by
   obtain ⟨y,hy,rfl⟩:=rR hi
   exact ⟨y,hy,rfl,rfl,rfl⟩) (fun i ls hi=>by
   obtain ⟨y,hy,rfl⟩:=rR hi
   exact ⟨y,hy,rfl,rfl,rfl⟩) h.ok (fun x=>.inl rfl)
 have hn:look ((({s with row:=del id s.row}:St).aV id').row.map fun p=>(p.1,p.2.map (L.c7 id id'))) id'=Option.none:=by
  rw [yH (aN.map (L.c7 id id')),Fs]
  rfl
 have live3:∀κ i,({n:=s.n,env:=(({s with row:=del id s.row}:St).aV id').env.map fun p=>(p.1,p.2.map (L.c7 id id')),box:=(({s with row:=del id s.row}:St).aV id').box.map fun p=>(p.1,p.2.map (L.c7 id id')),row:=(({s with row:=del id s.row}:St).aV id').row.map fun p=>(p.1,p.2.map (L.c7 id id'))}:St).live κ i→(({s with row:=del id s.row}:St).aV id').live κ i:=by
  intro κ i hl
  cases κ with
  | false =>
   obtain ⟨x,hx⟩:=Option.isSome_iff_exists.1 hl
   obtain ⟨y,hy,_⟩:=rR hx
   show (look _ i).isSome;rw [hy];rfl
  | true =>
   obtain ⟨x,hx⟩:=Option.isSome_iff_exists.1 hl
   obtain ⟨y,hy,_⟩:=rR hx
   show (look _ i).isSome;rw [hy];rfl
 refine ⟨_,h3.Av id' r hn (fun b hbb=>?_) ?_ (fun k hk=>?_) (fun κ i hl k hk hk'=>?_)⟩
 ·have:=(h.home.tz id' (.inr (by rw [hbb];rfl))).2.2
  have:=(h.home.tz id' (.inr (by rw [hbb];rfl))).1
  omega
 ·unfold vL
  simp only [true_and,if_true,pY]
  obtain ⟨q1,q2,q3⟩:=hR
  refine ⟨q1,q2,?_⟩
  split at q3
  ·exact q3
  ·obtain ⟨cs,e,g1,g2,g3,g4,g5,G,g6,g7,g8⟩:=q3
   refine ⟨cs,e,g1,g2,g3,g4,g5,G,g6,g7,fun i j u hu=>?_⟩
   obtain ⟨v,g9,g10⟩:=g8 i j u hu
   rw [hov] at g10 ⊢
   exact ⟨v,g9,g10⟩
 ·simp only [true_and,if_true] at hk
  exact h.fresh true id hlive k hk
 ·obtain ⟨l1,l2,l3⟩:=live κ i (live3 κ i hl)
  simp only [if_neg l3] at hk
  simp only [true_and,if_true] at hk'
  have:=h.apart _ _ _ _ l1 hlive k hk hk'
  exact l2 ⟨this.1,this.2⟩
theorem ab.iN {Q:Exit→St→Prop} {c:Code} (id id':Nat) {r:aN} (hr:look s.row id=some r) (hov:r.ov=[]) (hne:id≠id') (hid:id'<s.n∨2000≤id') (h:ab P w0 m0 F0 c Q (s.iN id id' r)):ab P w0 m0 F0 c Q s:=fun a w ⟨_,_,hC⟩ =>
 let ⟨_,h1⟩:=hC.Mu hr hov hne hid
 h a w ⟨_,_,h1⟩
theorem tC (n:Nat) (e:List (Nat×A)) (b:List (Nat×List L)) (k:List (Nat×aN)) (id id':Nat) (r:aN):St.iN ⟨n,e,b,k⟩ id id' r =
  ⟨n,(e.map fun p=>(p.1,p.2.map (L.aV id'))).map fun p=>(p.1,p.2.map (L.c7 id id')),(b.map fun p=>(p.1,p.2.map (L.aV id'))).map fun p=>(p.1,p.2.map (L.c7 id id')),
   (id',r)::((Bw.del id' (Bw.del id k)).map fun p=>(p.1,p.2.map (L.aV id'))).map fun p=>(p.1,p.2.map (L.c7 id id'))⟩:=rfl
def Gq (P:Program) (w0:World) (m0:Mem) (F0:Home) (Q:Exit→St→Prop) (e:Exit) (s:St):Prop:=∀a w,ry P w0 m0 F0 s a w→∃s',Q e s'∧ry P w0 m0 F0 s' a w
theorem ab.gq {Q:Exit→St→Prop} {c:Code} (h:ab P w0 m0 F0 c (Gq P w0 m0 F0 Q) s):ab P w0 m0 F0 c Q s:=fun a w hc=>wp_mono (h a w hc) fun _ a' w' ⟨_,hq,hC⟩=>hq a' w' hC
theorem Gq.done {Q:Exit→St→Prop} {e:Exit} (h:Q e s):Gq P w0 m0 F0 Q e s:=fun _ _ hc=>⟨s,h,hc⟩
theorem Gq.eM {Q:Exit→St→Prop} {e:Exit} (id:Nat) {r:aN} (hr:look s.row id=some r) (h:Gq P w0 m0 F0 Q e (s.eM id r)):Gq P w0 m0 F0 Q e s:=fun a w ⟨_,_,hC⟩ =>
 let ⟨_,_,h1⟩:=hC.uf hr
 h a w ⟨_,_,h1⟩
theorem Gq.wW {Q:Exit→St→Prop} {e:Exit} (id k:Nat) {r:aN} (hr:look s.row id=some r) (hov:r.ov=[]) (hk:k≤r.xs.length) (h:Gq P w0 m0 F0 Q e {s with row:=bz id ⟨r.sz,r.xs.take k,[]⟩ s.row}):Gq P w0 m0 F0 Q e s:=fun a w ⟨_,_,hC⟩ =>
 h a w ⟨_,_,hC.DE hr (fun i j _=>by rw [hov];rfl) hk⟩
theorem Gq.iN {Q:Exit→St→Prop} {e:Exit} (id id':Nat) {r:aN} (hr:look s.row id=some r) (hov:r.ov=[]) (hne:id≠id') (hid:id'<s.n∨2000≤id') (h:Gq P w0 m0 F0 Q e (s.iN id id' r)):Gq P w0 m0 F0 Q e s:=fun a w ⟨_,_,hC⟩ =>
 let ⟨_,h1⟩:=hC.Mu hr hov hne hid
 h a w ⟨_,_,h1⟩
theorem Gq.close {Q:Exit→St→Prop} {e:Exit} (id i j id':Nat) {r r':aN} (hr:look s.row id=some r) (hr':look s.row id'=some r') (hne:id≠id') (ho:aP r.ov i j=some (.ref id' 0 r'.xs.length)) (hi:i<r.xs.length) (hj:j<r.sz) (hov:r'.ov=[])
  (h:Gq P w0 m0 F0 Q e (s.Fz id r i j id' r')):Gq P w0 m0 F0 Q e s:=fun a w ⟨_,_,hC⟩ =>
 let ⟨_,h1⟩:=hC.close hr hr' hne ho hi hj hov
 h a w ⟨_,_,h1⟩
end
end Go.Bw
namespace Go.Bw
theorem ai.Mv {P:Program} {T:TypeId→Option TI} {ops:Array Oper} {d:Option Tmp} {l:List Oper} {s:St} {K:St→Prop} {f:FuncId} {xs:List V} (kb kr:List Nat)
  (h:ai P T ops d l (s.freeze kb kr) K (f,xs.map fun x=>x.map (pV kb kr (s.rest kb kr)))):ai P T ops d l s K (f,xs):=by
 obtain ⟨s',hM,hK⟩:=h
 refine ⟨s',fun w0 m0 F0 a w m ω hC vs hA=>?_,hK⟩
 obtain ⟨m',h',hle,hg⟩:=hC.freeze kb kr
 refine hM w0 m0 F0 a w m' ω h' vs ⟨by simpa using hA.1,fun i x hi=>?_⟩
 rw [ql,rI] at hi
 obtain ⟨x0,hi,rfl⟩:=hi
 obtain ⟨v,h1,h2⟩:=hA.2 i x0 hi
 exact ⟨v,h1,h2.map hg⟩
end Go.Bw
namespace Go.Bw
open Go.RowKit
section
variable {P:Program} {T:TypeId→Option TI} {w0:World} {m0:Mem} {F0:Home} {s s':St} {a:Act} {w:World} {m:Mem} {ω:Wh}
theorem Tc {o:Oper} {t e:TypeId} {i j:TI} {x y:Operand} {ty:TypeId} {d id n:Nat} {r:aN} {z:List L} {ys:List (List L)} (ho:o.op=.call {callee:=.builtin .append,args:=#[x,y],argTypes:=#[t,t]})
  (hd:o.dst=some d) (hn:d<s.n) (hT:gM P t i=true) (he:i.elem=some e) (hE:gM P e j=true) (hz:j.zero=some z) (hsz:j.size=r.sz) (hzl:z.length=r.sz) (h:CI P w0 m0 F0 s a w m ω)
  (hx:aE T s ty x=some (.v (.one (.ref id 0 n)))) (hb:look s.row id=some r) (hov:r.ov=[]) (hnx:n≤r.xs.length) (hno:pT (r.xs.take n)) (hy:yL m w ω (a.eval y) r.sz ys [])
  (hgr:(ω.row id).cap<n+ys.length) (hbs:(n+ys.length) * j.bytes≤140737488355328) (hm:n+ys.length≤9223372036854775807) :
  rY P w0 m0 F0 o a w (s.appended none d r.sz (r.xs.take n++ys) []):=by
 have hu:=(iM hT).elem e he
 obtain ⟨inf,zv,g1,g2,g3,_⟩:=(iM hE).zero z hz
 obtain ⟨inf',g4,g5,g6⟩:=(iM hE).info
 rw [g1] at g4
 injection g4 with g4
 subst g4
 rw [hsz] at g5
 have hzs:zv.cells.size=r.sz:=by
  have:=(yl (m:=m) zv.cells.toList z g3).1
  simpa [hzl] using this
 obtain ⟨q,hq⟩:=w3 (P:=P) (a:=a) (w:=w) ho
 have hv1:rk (ω.row id) 0 n (a.eval x):=iS h hx
 generalize hax:a.eval x=v1 at *
 generalize hay:a.eval y=v2 at *
 have hrun:(execOp a.eval o).run P w=((Builtin.append_ #[t,t] o.type #[v1,v2]).run P w).andThen fun v w'=>.ok (.value v) w':=by
  rw [hq]
  simp only [wb,aJ,aI,hax,hay,builtin,Sem.run_bind,Sem.run_pure]
 have hmaxw:maxLen=9223372036854775807:=rfl
 obtain ⟨A2,c2,rfl,hc2,hys,hnone,hnews⟩:=hy
 obtain ⟨q1,q2,q3⟩:=h.row id r hb
 have hlx:(r.xs.take n).length=n:=by simp;omega
 have key:∃(olds news:List Value) (old:Nat),olds.length=n * r.sz∧news.length=ys.length * r.sz∧(∀v∈olds,v.oneCell'=true)∧(∀v∈news,v.oneCell'=true) ∧
   (∀i j u,cellOf (r.xs.take n) i j=some u→∃v,olds[i * r.sz+j]?=some v∧eS m w (fun _=>False) v u)∧(∀i j u,cellOf ys i j=some u→∃v,news[i * r.sz+j]?=some v∧eS m w (fun _=>False) v u) ∧
   (Builtin.append_ #[t,t] o.type #[v1,.slice A2 ys.length c2]).run P w=.ok (.slice (some ⟨w.heap.size,0,none⟩) (n+ys.length) (grownCap w (n+ys.length) old e))
    (w.drew.alloc (.cells (olds.toArray++news.toArray++Builtin.zeroCells zv.cells (grownCap w (n+ys.length) old e - (n+ys.length))) e)):=by
  cases A2 with
  | none =>
   have hy0:=hnone rfl
   subst hy0
   exfalso
   rcases hv1 with ⟨k0,_,hn0,hvv⟩|⟨b,ad,k1,k2,hvv,k4⟩
   ·subst hn0;simp at hgr
   ·simp at hgr;omega
  | some ad2 =>
   obtain ⟨news,hnl,hnc,hn1,hnr⟩:=hnews ad2 rfl
   rcases hv1 with ⟨k0,_,hn0,hvv⟩|⟨b,ad,k1,k2,hvv,k4⟩
   ·subst hn0
    have hr:=run_append_nil (P:=P) w t o.type e inf zv hu g1 g2 ad2 ys.length c2 news (by rw [g5];exact hnl) hnc (by omega) (by omega) (by rw [cN] at hbs;rw [g6];omega)
    refine ⟨[],news,0,by simp,hnl,by simp,hn1,fun i j u hu'=>by simp [cellOf] at hu',hnr,?_⟩
    rw [hvv,hr]
    simp
   ·have had:=k4 (.inr rfl)
    simp only [zA] at had
    subst had
    obtain ⟨cs,e',G,p1,p2,p3,p4,p5,olds,p6,p7,p8,p9⟩:=Dp h hb k1 (lo:=0) (n:=n) (by omega)
    simp only [dA,zA,cN] at p7 p9
    have hr:=run_append_grow (P:=P) w t o.type e inf zv hu g1 g2 ⟨b,0,none⟩ n (ω.row id).cap olds (by rw [g5];exact p6) (fun j u hj=>by
     rw [Dn p1]
     have hlt:j<n * r.sz:=by rw [←p6];exact (List.getElem?_eq_some_iff.1 hj).1
     rw [p7,qg,if_pos hlt] at hj
     simpa using hj) ad2 ys.length c2 news (by rw [g5];exact hnl) hnc (by omega) (by omega) (growslice_fits (by omega) (by rw [g6];exact hbs))
    refine ⟨olds,news,(ω.row id).cap,p6,hnl,p8,hn1,fun i j u hu=>?_,hnr,?_⟩
    ·obtain ⟨v,h1,h2⟩:=p9 i j u hu
     obtain ⟨x,hx',hux⟩:=Ia hu
     rw [hov] at h2
     exact ⟨v,h1,sQ.pT (o:=none) h2 (hno x hx' u hux) _⟩
    ·rw [hvv,wc]
     exact hr
 obtain ⟨olds,news,old,hol,hnl,hon,hn1,hor,hnr,hr⟩:=key
 have hge:=grownCap_ge w (n+ys.length) old e
 have hcm:grownCap w (n+ys.length) old e≤maxLen:=grownCap_le_maxLen w _ old e (by rw [hmaxw];exact hm)
 generalize grownCap w (n+ys.length) old e=C at hr hge hcm
 obtain ⟨y1,y2,_⟩:=By (m:=m) g3 (C - (n+ys.length))
 rw [hzl] at y1
 have hbl:Below w.heap.size w (w.drew.alloc (.cells (olds.toArray++news.toArray++Builtin.zeroCells zv.cells (C - (n+ys.length))) e)):=((Below.refl _ w).drew).alloc (br _) _
 have hh:(w.drew.alloc (.cells (olds.toArray++news.toArray++Builtin.zeroCells zv.cells (C - (n+ys.length))) e)).heap[w.heap.size]?=_:=heap_alloc_new w.drew _
 have hsize:=(Array.getElem?_eq_some_iff.1 hh).1
 have hysz:(Builtin.zeroCells zv.cells (C - (n+ys.length))).size=(C - (n+ys.length)) * r.sz:=by rw [←um];exact y1
 obtain ⟨ω',hC,hri,_⟩:=h.Ap (r:=⟨r.sz,r.xs.take n++ys,[]⟩) none d hn ⟨some w.heap.size,C,r.sz⟩ (fun q=>q=w.heap.size) (.inl hbl) (fun q hq=>.inr ⟨by omega,by rw [hq];exact hsize⟩) (by
  refine ⟨rfl,fun x hx=>?_,?_⟩
  ·rcases List.mem_append.1 hx with hx|hx
   ·exact q2 x (tv hx)
   ·exact hys x hx
  ·refine ⟨_,e,hh,?_,by simp;omega,⟨hcm,fun l hl=>(by cases hl),fun q v hq=>?_⟩,rfl,fun _ _ _=>False,(fun i j k hk=>hk.elim),(fun i j i' j' k hk=>hk.elim),fun i j u hu=>?_⟩
   ·simp only [JF,El,hysz,hol,hnl,←rK]
    congr 1
    omega
   ·have hm':=EJ hq
    simp only [JG,JH] at hm'
    rcases hm' with (hm'|hm')|hm'
    ·exact hon v hm'
    ·exact hn1 v hm'
    ·exact y2 v (by simpa using hm')
   ·show ∃v,_∧eS m _ _ v u
    rcases zF hu with ⟨hi,hu⟩|⟨hi,hu⟩
    ·obtain ⟨v,h1,h2⟩:=hor i j u hu
     have hlt:=(List.getElem?_eq_some_iff.1 h1).1
     refine ⟨v,?_,eS.keep (Mem.le_refl m) h2 fun k hk=>hk.elim⟩
     rw [x5 (by simp;omega),x5 (by simpa using hlt)]
     simpa using h1
    ·rw [hlx] at hi hu
     obtain ⟨v,h1,h2⟩:=hnr _ j u hu
     have hlt:=(List.getElem?_eq_some_iff.1 h1).1
     have hle:n * r.sz≤i * r.sz:=tj _ hi
     rw [Em] at hlt h1
     refine ⟨v,?_,eS.keep (Mem.le_refl m) h2 fun k hk=>hk.elim⟩
     rw [x5 (by simp;omega),JI (by simp;omega)]
     simp only [El,gB]
     rw [←h1]
     congr 1
     omega)
 refine sj (w':=_) (by rw [hrun,hr];rfl) ?_
 rw [hd]
 refine ⟨m,ω',hC.put (by rw [Ao];exact hn) ?_⟩
 show rk (ω'.row d) 0 _ _
 rw [hri]
 have hl2:(r.xs.take n++ys).length=n+ys.length:=by simp;omega
 rw [hl2]
 exact .inr ⟨w.heap.size,⟨w.heap.size,0,none⟩,rfl,by simp;omega,by simp,fun _=>by simp⟩
structure Ag (A B:Prop):Prop where
 a:A
 b:B
def FB (s:St) (j:TI) (z:List L) (d:Nat) (K:St→Prop):L→L→Prop
 | .ref id lo n,.ref id' lo' k=>mT (look s.row id) fun r=>mT (look s.row id') fun r'=>(lo=0∧lo'=0∧r.ov=[]∧r'.ov=[]∧n=r.xs.length∧k=r'.xs.length∧pT r.xs∧pT r'.xs)∧(j.size=r.sz∧r'.sz=r.sz∧z.length=r.sz) ∧
   ((n+k) * j.bytes≤140737488355328∧n+k≤9223372036854775807)∧d<s.n∧Ag (K (St.put {s with row:=bz id ⟨r.sz,r.xs++r'.xs,[]⟩ s.row} d (.v (.one (.ref id 0 (n+k)))))) (K (s.appended none d r.sz (r.xs++r'.xs) []))
 | _,_=>False
theorem Ij (j:TI) (z:List L) (d:Nat) (K:St→Prop) (id lo n id' lo' k:Nat):FB s j z d K (.ref id lo n) (.ref id' lo' k)=mT (look s.row id) fun r=>mT (look s.row id') fun r'=>(lo=0∧lo'=0∧r.ov=[]∧r'.ov=[]∧n=r.xs.length∧k=r'.xs.length∧pT r.xs∧pT r'.xs)∧(j.size=r.sz∧r'.sz=r.sz∧z.length=r.sz) ∧
   ((n+k) * j.bytes≤140737488355328∧n+k≤9223372036854775807)∧d<s.n∧Ag (K (St.put {s with row:=bz id ⟨r.sz,r.xs++r'.xs,[]⟩ s.row} d (.v (.one (.ref id 0 (n+k)))))) (K (s.appended none d r.sz (r.xs++r'.xs) [])):=rfl
theorem Td {j:TI} {z:List L} {d:Nat} {K:St→Prop}:∀{l1 l2:L},FB s j z d K l1 l2→∃id lo n id' lo' k,l1=.ref id lo n∧l2=.ref id' lo' k
 | .ref id lo n,.ref id' lo' k,_=>⟨id,lo,n,id',lo',k,rfl,rfl⟩
theorem Te (hT:pR P T) {t ty:TypeId} {x y:Operand} {d:Nat} {pos:String} {af:Array Edge} {K:St→Prop}
  (h:mT (dt T t) fun j=>mT j.zero fun z=>mT (oneOf (aE T s t x)) fun l1=>mT (oneOf (aE T s t y)) fun l2=>FB s j z d K l1 l2) :
  ya P ⟨some d,.call ⟨.builtin .append,#[x,y],#[t,t]⟩,ty,pos,af,Option.none⟩ s K:=by
 intro w0 m0 F0 a w m ω hC
 obtain ⟨j,hj,h⟩:=aF h
 obtain ⟨z,hz,h⟩:=aF h
 obtain ⟨l1,hl1,h⟩:=aF h
 obtain ⟨l2,hl2,h⟩:=aF h
 obtain ⟨i,e,hi,he,hje,hio,hjo⟩:=wx hT hj
 have hl1:=rf hl1
 have hl2:=rf hl2
 obtain ⟨id,lo,n,id',lo',k,rfl,rfl⟩:=Td h
 obtain ⟨r,hr,h⟩:=aF h
 obtain ⟨r',hr',h⟩:=aF h
 obtain ⟨⟨rfl,rfl,hov,hov',rfl,rfl,hno,hno'⟩,⟨hs1,hs2,hs3⟩,⟨hb1,hb2⟩,hd,hK1,hK2⟩:=h
 have hy:yL m w ω (a.eval y) r.sz r'.xs []:=by
  have hv2:bi m ω (a.eval y) (.ref id' 0 r'.xs.length):=iS hC hl2
  have:=Du (ov:=[]) hC hv2 hr' (by omega) hno' (fun i j _=>by rw [hov'];rfl)
  rw [hs2] at this
  simpa using this
 obtain ⟨p,hcap,hpm,hP⟩:=hC.Mi hr hov
 rcases cV (ω.row id).cap (r.xs.length+r'.xs.length) with hlt|hge
 ·have hM:=Tc (o:=⟨some d,.call ⟨.builtin .append,#[x,y],#[t,t]⟩,ty,pos,af,Option.none⟩) rfl rfl hd hio he hjo hz hs1 hs3 hC hl1 hr hov (br _) (by rw [dw];exact hno) hy hlt hb1 hb2
  rw [dw] at hM
  exact hM.follows hK2
 ·have hlen:(qz r p).xs.length=r.xs.length+p:=by simp [qz]
  have hlk:look ({s with row:=bz id (qz r p) s.row}:St).row id=some (qz r p):=by show look (bz _ _ _) _=_;rw [yk,if_pos rfl]
  have hQ:=hP.DE (k:=r.xs.length+p) hlk (fun i j hi=>by
   rw [hlen] at hi
   simp only [qz,aP]
   rw [if_neg (by omega)]) (by rw [hlen];exact br _)
  rw [du (by rw [hlen];exact br _)] at hQ
  have hsame:∀(c:aN),bz id c (bz id (qz r p) s.row)=bz id c s.row:=fun c=>by
   unfold bz
   simp only [Bw.del,if_true]
   congr 1
   induction s.row with
   | nil=>rfl
   | cons q l ih =>
    obtain ⟨q1,q2⟩:=q
    simp only [Bw.del]
    split
    ·exact ih
    ·rename_i hne
     simp only [Bw.del,if_neg hne,ih]
  simp only [hsame] at hQ
  have hlk2:look ({s with row:=bz id ⟨(qz r p).sz,(qz r p).xs,[]⟩ s.row}:St).row id=some ⟨(qz r p).sz,(qz r p).xs,[]⟩:=by show look (bz _ _ _) _=_;rw [yk,if_pos rfl]
  have hl1':aE T ({s with row:=bz id ⟨(qz r p).sz,(qz r p).xs,[]⟩ s.row}:St) t x=some (A.v (V.one (L.ref id 0 r.xs.length))):=by rw [←hl1];cases x<;>rfl
  have hM:=LY (s:={s with row:=bz id ⟨(qz r p).sz,(qz r p).xs,[]⟩ s.row}) (r:=⟨(qz r p).sz,(qz r p).xs,[]⟩) (n:=r.xs.length) (o:=⟨some d,.call ⟨.builtin .append,#[x,y],#[t,t]⟩,ty,pos,af,Option.none⟩) rfl rfl hd hio he hjo hs1 hQ hl1' hlk2 rfl hy (by show r.xs.length+r'.xs.length≤(qz r p).xs.length;rw [hlen];omega)
  intro next Q hn
  refine hM next Q fun v w' hc=>?_
  obtain ⟨m',ω',hC'⟩:=hc
  refine hn _ _ w' hK1 ⟨m',ω',?_⟩
  have hl3:(((qz r p).xs.take r.xs.length++r'.xs)++(qz r p).xs.drop (r.xs.length+r'.xs.length)).take (r.xs.length+r'.xs.length)=r.xs++r'.xs:=by
   have e1:(qz r p).xs.take r.xs.length=r.xs:=by simp [qz]
   rw [e1,ve (by simp)]
  have hZ:=hC'.DE (k:=r.xs.length+r'.xs.length) (id:=id) (r:=⟨(qz r p).sz,(qz r p).xs.take r.xs.length++r'.xs++(qz r p).xs.drop (r.xs.length+r'.xs.length),[]⟩) (by show look (bz _ _ _) _=_;rw [yk,if_pos rfl]) (fun _ _ _=>rfl) (by simp [qz])
  simp only [hl3] at hZ
  have hs:∀(c1 c2 c3:aN),bz id c1 (bz id c2 (bz id c3 s.row))=bz id c1 s.row:=fun c1 c2 c3=>by
   unfold bz
   simp only [Bw.del,if_true]
   congr 1
   induction s.row with
   | nil=>rfl
   | cons q l ih =>
    obtain ⟨q1,q2⟩:=q
    simp only [Bw.del]
    split
    ·exact ih
    ·rename_i hne
     simp only [Bw.del,if_neg hne,ih]
  refine hZ.weaken rfl (fun _ _ h=>h) (fun _ _ h=>h) fun q rq hq=>?_
  have hq:look (bz id ⟨r.sz,r.xs++r'.xs,[]⟩ s.row) q=some rq:=hq
  show look (bz id _ (bz id _ (bz id _ s.row))) q=some rq
  rw [hs]
  exact hq
theorem an.Pn (hT:pR P T) {ops:Array Oper} {lq ln:List Oper} {x y:Operand} {t ty:TypeId} {d:Nat} {pos:String} {af:Array Edge} {l:List w9} {s:St} {K:St→Prop}
  (h:∀K2:St→Prop,(∀t',cQ P T ops ln t' (fun t''=>qK P T ops lq t''∧an P T ops l t'' K)→K2 t')→mT (dt T t) fun j=>mT j.zero fun z=>mT (oneOf (aE T s t x)) fun l1=>mT (oneOf (aE T s t y)) fun l2=>FB s j z d K2 l1 l2) :
  an P T ops (⟨⟨Option.some d,.call ⟨.builtin .append,#[x,y],#[t,t]⟩,ty,pos,af,Option.none⟩,ln,lq⟩::l) s K :=
 an.DI rfl fun K2 hK=>Te hT (h K2 hK)
theorem ab.we {Q:Exit→St→Prop} {c c':Code} (s2:St) (h1:ab P w0 m0 F0 c (Gq P w0 m0 F0 fun e s'=>e=.normal∧St.le s2 s') s) (h2:ab P w0 m0 F0 c' Q s2):ab P w0 m0 F0 c (wz (ab P w0 m0 F0 c' Q) Q) s :=
 fun a w hc=>wp_mono (h1 a w hc) fun e a' w' ⟨s',hq,hC⟩=>by
  obtain ⟨s'',⟨he,hs⟩,hC2⟩:=hq a' w' hC
  subst he
  exact ⟨s2,h2,hC2.le hs⟩
theorem ab.BC {Q:Exit→St→Prop} {c c':Code} {id:Nat} (s2:St) (h1:ab P w0 m0 F0 c (Gq P w0 m0 F0 fun e s'=>e=.exit id∧St.le s2 s') s) (h2:ab P w0 m0 F0 c' Q s2):ab P w0 m0 F0 c (zG id (wz (ab P w0 m0 F0 c' Q) Q)) s :=
 fun a w hc=>wp_mono (h1 a w hc) fun e a' w' ⟨s',hq,hC⟩=>by
  obtain ⟨s'',⟨he,hs⟩,hC2⟩:=hq a' w' hC
  subst he
  refine ⟨s2,?_,hC2.le hs⟩
  show (if id=id then ab P w0 m0 F0 c' Q s2 else _)
  rw [if_pos rfl]
  exact h2
end
end Go.Bw
namespace Go.Bw
open Go.RowKit
section
variable {P:Program} {T:TypeId→Option TI} {w0:World} {m0:Mem} {F0:Home} {s s':St} {a:Act} {w:World} {m:Mem} {ω:Wh}
def xH (xs:List (List L)):List (List L):=xs.map fun x=>x.map L.dQ
theorem eS.dQ {F:Nat→Prop} {v:Value} {u:L} (h:eS m w F v u):eS m w (fun _=>False) v u.dQ:=by
 cases h with
 | fr h =>
  cases u with
  | own=>cases h
  | rT=>cases h
  | _=>exact .fr h
 | yj sz=>exact .fr (.any _ rfl)
 | own=>exact .fr (.any _ rfl)
theorem CI.Tf (h:CI P w0 m0 F0 s a w m ω) {id:Nat} {r:aN} (hb:look s.row id=some r) (hov:r.ov=[]) {b:Nat} (hblk:(ω.row id).sT=some b)
  {cur:Array Value} {e:TypeId} (hcur:w.heap[b]?=some (.cells cur e (0,0))) {p q k:Nat} (hpq:p≤q) (hfit:q+k≤r.xs.length) {news:List Value} (hnews:news=(cur.toList.drop (q * r.sz)).take (k * r.sz)) (hnl:news.length=k * r.sz) (hn1:∀u∈news,u.oneCell'=true) :
  p * r.sz+news.length≤cur.size∧CI P w0 m0 F0 {s with row:=bz id ⟨r.sz,r.xs.take p++(r.xs.drop q).take k++xH (r.xs.drop (p+k)),[]⟩ s.row} a (w.setRow b (cur.toList.take (p * r.sz)++news++cur.toList.drop (p * r.sz+news.length)).toArray) m ω:=by
 obtain ⟨g1,g2,g3⟩:=h.row id r hb
 rw [hblk] at g3
 obtain ⟨cs,e',k1,k2,k3,k4,k5,G,k6,k7,k8⟩:=g3
 have hlive:s.live true id:=by show (look s.row id).isSome;rw [hb];rfl
 rw [hcur] at k1
 injection (Ae k1) with q1 q2
 subst q1
 have hfit':p * r.sz+news.length≤cur.size:=by rw [hnl,k2,←rK];exact tj _ (by omega)
 refine ⟨hfit',?_⟩
 have hget:=fun k=>Ds hfit' k
 have hsize:=Dr hfit'
 generalize (cur.toList.take (p * r.sz)++news++cur.toList.drop (p * r.sz+news.length)).toArray=cs' at hget hsize ⊢
 have hg:=Dq w b cs'
 have hpl:(r.xs.take p).length=p:=by simp;omega
 have hkl:((r.xs.drop q).take k).length=k:=by simp;omega
 have hpk:(r.xs.take p++(r.xs.drop q).take k).length=p+k:=by rw [bA,hpl,hkl]
 have hlen:(r.xs.take p++(r.xs.drop q).take k++xH (r.xs.drop (p+k))).length=r.xs.length:=by simp [xH];omega
 have hxs:∀x∈r.xs.take p++(r.xs.drop q).take k++xH (r.xs.drop (p+k)),x.length=r.sz:=by
  intro x hx
  simp only [yg] at hx
  rcases hx with (hx|hx)|hx
  ·exact g2 x (tv hx)
  ·exact g2 x (zB (tv hx))
  ·obtain ⟨y,hy,rfl⟩:=List.mem_map.1 hx
   rw [bw]
   exact g2 y (zB hy)
 have hkeep:∀i j c,G i j c→(w.setRow b cs').heap[c]?=w.heap[c]?:=fun i j c hc=>by
  have hk':=k6 i j c hc
  exact hg.block c (h.fresh true id hlive c hk'.1).1 fun e=>by injection e with e;exact hk'.2 e
 refine h.Hi hb hblk hg (setRow_heap w b cur _ e _ hcur) (by rw [hsize];exact k2) g1 hxs (by simp only [hlen];exact k3) ⟨k4.1,fun l hl=>(by cases hl),fun q v hq=>?_⟩
  (fun i j c=>(i<p∧G i j c)∨(p≤i∧i<p+k∧G (q+(i - p)) j c)) (fun i j c hc=>?_) (fun i j i' j' c hc hc'=>?_) fun i j u hu=>?_
 ·rw [hget] at hq
  split at hq
  ·exact hn1 v (rX hq)
  ·exact k4.2.2 q v hq
 ·rcases hc with hc|hc
  ·exact k6 _ _ _ hc.2
  ·exact k6 _ _ _ hc.2.2
 ·rcases hc with hc|hc<;>rcases hc' with hc'|hc'
  ·exact k7 _ _ _ _ _ hc.2 hc'.2
  ·have:=(k7 _ _ _ _ _ hc.2 hc'.2.2).1;omega
  ·have:=(k7 _ _ _ _ _ hc.2.2 hc'.2).1;omega
  ·have:=k7 _ _ _ _ _ hc.2.2 hc'.2.2;exact ⟨by omega,this.2⟩
 ·simp only at hu ⊢
  obtain ⟨hi,hj⟩:=Ax hxs hu
  rw [hlen] at hi
  rw [hget]
  have ovn:∀i j,aP r.ov i j=Option.none:=fun i j=>by rw [hov];rfl
  have hmul:∀c,i<c→i * r.sz+j<c * r.sz:=fun c hc=>by
   have:(i+1) * r.sz≤c * r.sz:=tj _ hc
   rw [rK] at this
   omega
  have hmul2:∀c,c≤i→c * r.sz≤i * r.sz:=fun c hc=>tj _ hc
  rcases zF hu with ⟨h1,h2⟩|⟨h1,h2⟩
  ·rcases zF h2 with ⟨h3,h4⟩|⟨h3,h4⟩
   ·rw [hpl] at h3
    have h4':cellOf r.xs i j=some u:=by
     unfold cellOf at h4 ⊢
     rwa [qg,if_pos h3] at h4
    obtain ⟨v,h5,h6⟩:=k8 i j u h4'
    rw [ovn] at h6
    have:=hmul p h3
    rw [if_neg (by omega)]
    exact ⟨v,h5,eS.keep (Mem.le_refl m) (eS.sub (F':=fun c=>(i<p∧G i j c)∨(p≤i∧i<p+k∧G (q+(i - p)) j c)) h6 fun c hc=>.inl ⟨h3,hc⟩) fun c hc=>by
     rcases hc with hc|hc
     ·exact hkeep _ _ _ hc.2
     ·exact hkeep _ _ _ hc.2.2⟩
   ·rw [hpl] at h3 h4
    rw [hpk] at h1
    have h4':cellOf r.xs (q+(i - p)) j=some u:=by
     unfold cellOf at h4 ⊢
     rwa [qg,if_pos (by omega),rJ] at h4
    obtain ⟨v,h5,h6⟩:=k8 _ j u h4'
    rw [ovn] at h6
    have m1:=hmul2 p h3
    have m2:=hmul (p+k) h1
    rw [rK] at m2
    rw [if_pos ⟨by omega,by omega⟩]
    refine ⟨v,?_,eS.keep (Mem.le_refl m) (eS.sub (F':=fun c=>(i<p∧G i j c)∨(p≤i∧i<p+k∧G (q+(i - p)) j c)) h6 fun c hc=>.inr ⟨h3,h1,hc⟩) fun c hc=>by
     rcases hc with hc|hc
     ·exact hkeep _ _ _ hc.2
     ·exact hkeep _ _ _ hc.2.2⟩
    rw [hnews,qg,if_pos (by omega),rJ]
    have e1:q * r.sz+(i * r.sz+j - p * r.sz)=(q+(i - p)) * r.sz+j:=by
     rw [rK,Em]
     omega
    rw [e1]
    simpa using h5
  ·rw [hpk] at h1 h2
   obtain ⟨u',h4,rfl⟩:=Ci _ L.dQ _ _ _ h2
   have h4':cellOf r.xs i j=some u':=by
    unfold cellOf at h4 ⊢
    rwa [rJ,show p+k+(i - (p+k))=i by omega] at h4
   obtain ⟨v,h5,h6⟩:=k8 i j u' h4'
   rw [ovn] at h6
   have m1:=hmul2 (p+k) h1
   rw [rK] at m1
   rw [if_neg (by omega)]
   have h6:eS m w (G i j) v u':=h6
   exact ⟨v,h5,eS.sub (eS.keep (Mem.le_refl m) h6.dQ fun c hc=>hc.elim) fun c hc=>hc.elim⟩
theorem Tg {o:Oper} {t e:TypeId} {i j:TI} {x y:Operand} {ty:TypeId} {d id n q k:Nat} {r:aN} (ho:o.op=.call {callee:=.builtin .append,args:=#[x,y],argTypes:=#[t,t]})
  (hd:o.dst=some d) (hn:d<s.n) (hT:gM P t i=true) (he:i.elem=some e) (hE:gM P e j=true) (hsz:j.size=r.sz) (h:CI P w0 m0 F0 s a w m ω)
  (hx:aE T s ty x=some (.v (.one (.ref id 0 n)))) (hy:aE T s ty y=some (.v (.one (.ref id q k)))) (hb:look s.row id=some r) (hov:r.ov=[]) (hnq:n≤q) (hfit:q+k≤r.xs.length) :
  rY P w0 m0 F0 o a w (St.put {s with row:=bz id ⟨r.sz,r.xs.take n++(r.xs.drop q).take k++xH (r.xs.drop (n+k)),[]⟩ s.row} d (.v (.one (.ref id 0 (n+k))))):=by
 have hu:=(iM hT).elem e he
 obtain ⟨inf,g1,g5,g6⟩:=(iM hE).info
 rw [hsz] at g5
 obtain ⟨qq,hq⟩:=w3 (P:=P) (a:=a) (w:=w) ho
 have hv1:rk (ω.row id) 0 n (a.eval x):=iS h hx
 have hv2:rk (ω.row id) q k (a.eval y):=iS h hy
 generalize hax:a.eval x=v1 at *
 generalize hay:a.eval y=v2 at *
 have hrun:(execOp a.eval o).run P w=((Builtin.append_ #[t,t] o.type #[v1,v2]).run P w).andThen fun v w'=>.ok (.value v) w':=by
  rw [hq]
  simp only [wb,aJ,aI,hax,hay,builtin,Sem.run_bind,Sem.run_pure]
 obtain ⟨q1,q2,q3⟩:=h.row id r hb
 rcases hv1 with ⟨k0,_,hn0,hvv⟩|⟨b,ad,k1,k2,hvv,k4⟩
 ·rw [k0] at q3
  rw [q3.1] at hfit
  simp only [bI] at hfit
  have hk0:k=0:=by omega
  have hq0:q=0:=by omega
  subst hk0 hq0 hn0
  rcases hv2 with ⟨_,_,_,hv2⟩|⟨b,_,e2,_⟩
  ·refine sj (v:=v1) (w':=w) (by
    rw [hrun,hvv,hv2]
    simp [Builtin.append_,run_underlying hu,sizeOf,typeInfo,g1,Builtin.lenOf,Builtin.firstCells,Result.andThen]) ?_
   rw [hd]
   have hr:(⟨r.sz,r.xs.take 0++(r.xs.drop 0).take 0++xH (r.xs.drop (0+0)),[]⟩:aN)=r:=by
    cases r
    simp only at hov q3
    subst hov
    rw [q3.1]
    rfl
   rw [hr]
   exact ⟨m,ω,(h.Ft hb).put hn (.inl ⟨k0,rfl,rfl,hvv⟩)⟩
  ·rw [k0] at e2
   cases e2
 ·have had:=k4 (.inr rfl)
  simp only [zA] at had
  subst had
  subst hvv
  rw [k1] at q3
  obtain ⟨cur,e',p1,p2,p3,p4,p5,_⟩:=q3
  rcases hv2 with ⟨e2,_,_,_⟩|⟨b',ad',e2,l2,hv2,l4⟩
  ·rw [k1] at e2
   cases e2
  rw [k1] at e2
  injection e2 with e2
  subst e2
  subst hv2
  obtain ⟨cs,e'',G,r1,r2,r3,r4,r5,news,r6,r7,r8,r9⟩:=Dp h hb k1 (lo:=q) (n:=k) hfit
  rw [p1] at r1
  injection (Ae r1) with r1
  subst r1
  obtain ⟨hf,hC⟩:=h.Tf hb hov k1 p1 hnq hfit r7 r6 r8
  have hcell:∀(c:Nat) (u:Value),news[c]?=some u→w.cell? (ad'.add c)=some u:=by
   intro c u hcu
   have hc:c<k * r.sz:=by rw [←r6];exact (List.getElem?_eq_some_iff.1 hcu).1
   have hlt:q<(ω.row id).cap:=by
    rcases vi k with h0|h0
    ·rw [h0] at hc;simp at hc
    ·omega
   rw [l4 (.inl hlt),Addr.add_lit,cell_of_row w _ _ cur e' (0,0) p1,q1]
   rw [r7,qg,if_pos hc,rJ] at hcu
   simpa using hcu
  have hr:=HN (P:=P) (w:=w) t o.type e e' inf hu g1 b n ((ω.row id).cap - 0) cur p1 ad' k ((ω.row id).cap - q) news (by rw [g5];exact r6) hcell r8 (by omega) (by rw [g5];exact hf)
  rw [g5] at hr
  refine sj (w':=_) (by rw [hrun,hr];rfl) ?_
  rw [hd]
  exact ⟨m,ω,hC.put hn (.inr ⟨b,_,k1,by omega,rfl,fun _=>by simp⟩)⟩
def FD (s:St) (j:TI) (d:Nat) (K:St→Prop):L→L→Prop
 | .ref id lo n,.ref id' q k=>mT (look s.row id) fun r=>(id=id'∧lo=0∧r.ov=[]∧n≤q∧q+k≤r.xs.length∧j.size=r.sz)∧d<s.n∧K (St.put {s with row:=bz id ⟨r.sz,r.xs.take n++(r.xs.drop q).take k++xH (r.xs.drop (n+k)),[]⟩ s.row} d (.v (.one (.ref id 0 (n+k)))))
 | _,_=>False
theorem Qc (j:TI) (d:Nat) (K:St→Prop) (id lo n id' q k:Nat):FD s j d K (.ref id lo n) (.ref id' q k)=mT (look s.row id) fun r=>(id=id'∧lo=0∧r.ov=[]∧n≤q∧q+k≤r.xs.length∧j.size=r.sz)∧d<s.n∧K (St.put {s with row:=bz id ⟨r.sz,r.xs.take n++(r.xs.drop q).take k++xH (r.xs.drop (n+k)),[]⟩ s.row} d (.v (.one (.ref id 0 (n+k))))):=rfl
theorem Th {j:TI} {d:Nat} {K:St→Prop}:∀{l1 l2:L},FD s j d K l1 l2→∃id lo n id' q k,l1=.ref id lo n∧l2=.ref id' q k
 | .ref id lo n,.ref id' q k,_=>⟨id,lo,n,id',q,k,rfl,rfl⟩
theorem Ti (hT:pR P T) {t ty:TypeId} {x y:Operand} {d:Nat} {pos:String} {af:Array Edge} {K:St→Prop}
  (h:mT (dt T t) fun j=>mT (oneOf (aE T s t x)) fun l1=>mT (oneOf (aE T s t y)) fun l2=>FD s j d K l1 l2) :
  ya P ⟨some d,.call ⟨.builtin .append,#[x,y],#[t,t]⟩,ty,pos,af,Option.none⟩ s K:=by
 intro w0 m0 F0 a w m ω hC
 obtain ⟨j,hj,h⟩:=aF h
 obtain ⟨l1,hl1,h⟩:=aF h
 obtain ⟨l2,hl2,h⟩:=aF h
 obtain ⟨i,e,hi,he,hje,hio,hjo⟩:=wx hT hj
 have hl1:=rf hl1
 have hl2:=rf hl2
 obtain ⟨id,lo,n,id',q,k,rfl,rfl⟩:=Th h
 obtain ⟨r,hr,h⟩:=aF h
 obtain ⟨⟨rfl,rfl,hov,h1,h2,h3⟩,hd,hK⟩:=h
 exact (Tg (o:=⟨some d,.call ⟨.builtin .append,#[x,y],#[t,t]⟩,ty,pos,af,Option.none⟩) rfl rfl hd hio he hjo h3 hC hl1 hl2 hr hov h1 h2).follows hK
theorem an.Qd (hT:pR P T) {ops:Array Oper} {lq ln:List Oper} {x y:Operand} {t ty:TypeId} {d:Nat} {pos:String} {af:Array Edge} {l:List w9} {s:St} {K:St→Prop}
  (h:∀K2:St→Prop,(∀t',cQ P T ops ln t' (fun t''=>qK P T ops lq t''∧an P T ops l t'' K)→K2 t')→mT (dt T t) fun j=>mT (oneOf (aE T s t x)) fun l1=>mT (oneOf (aE T s t y)) fun l2=>FD s j d K2 l1 l2) :
  an P T ops (⟨⟨Option.some d,.call ⟨.builtin .append,#[x,y],#[t,t]⟩,ty,pos,af,Option.none⟩,ln,lq⟩::l) s K :=
 an.DI rfl fun K2 hK=>Ti hT (h K2 hK)
end
end Go.Bw
namespace Go.Bw
open Go.RowKit
section
variable {P:Program} {w0:World} {m0:Mem} {F0:Home} {s:St} {a:Act} {w:World} {m:Mem} {ω:Wh}
def yQ (n:Nat):L:=.sl 0 (List.replicate n [])
theorem Tj {id lo n:Nat} {v:Value} (h:bi m ω v (.ref id lo n)):bi m ω v (yQ n):=by
 rcases h with ⟨_,_,rfl,rfl⟩|⟨b,ad,_,h2,rfl,_⟩
 ·exact aM.vK 0
 ·refine aM.sl ad n _ 0 _ (fun _ _=>undef) (by simp) (by omega) (fun x hx=>by rw [AY hx];rfl) (fun i j u hu=>?_) (fun i j u hu=>?_)
  ·have:=(Ax (sz:=0) (fun x hx=>by rw [AY hx];rfl) hu).2
   omega
  ·have:=(Ax (sz:=0) (fun x hx=>by rw [AY hx];rfl) hu).2
   omega
theorem CI.Tk (h:CI P w0 m0 F0 s a w m ω) {id k i lo n:Nat} {ls:List L} (hb:look s.box id=some ls) (hl:ls[k]?=some (.ref i lo n)):CI P w0 m0 F0 {s with box:=bz id (ls.set k (yQ n)) s.box} a w m ω:=by
 have live:∀κ q,({s with box:=bz id (ls.set k (yQ n)) s.box}:St).live κ q→s.live κ q:=by
  intro κ q hq
  cases κ with
  | false =>
   have hq:(look (bz id (ls.set k (yQ n)) s.box) q).isSome:=hq
   rw [yk] at hq
   show (look s.box q).isSome
   split at hq
   ·rename_i e;subst e;rw [hb];rfl
   ·exact hq
  | true=>exact hq
 refine {size:=h.size,defers:=h.defers,keeps:=h.keeps,qb:=h.qb,qc:=h.qc,ok:=h.ok,env:=h.env,box:=fun q ls' hq=>?_,row:=h.row,fresh:=fun κ q hq=>h.fresh κ q (live κ q hq),apart:=fun κ q κ' q' hq hq'=>h.apart κ q κ' q' (live κ q hq) (live κ' q' hq'),home:=⟨h.home.tz,fun q b hq hl=>h.home.box q b hq (live false q hl),h.home.row⟩,pL:=h.pL}
 simp only [yk] at hq
 split at hq
 ·rename_i e
  subst e
  injection hq with hq
  subst hq
  obtain ⟨cs,e,g1,g2,g3,G,g4,g5,g6⟩:=h.box _ ls hb
  refine ⟨cs,e,g1,by simpa using g2,g3,G,g4,g5,fun j l hj=>?_⟩
  rw [Ce] at hj
  split at hj
  ·rename_i ek
   subst ek
   split at hj
   ·injection hj with hj
    subst hj
    obtain ⟨v,k1,k2⟩:=g6 _ _ hl
    exact ⟨v,k1,bi.Cj (Tj k2)⟩
   ·cases hj
  ·exact g6 j l hj
 ·exact h.box q ls' hq
theorem ab.Tl {Q:Exit→St→Prop} {c:Code} (id k:Nat) {i lo n:Nat} {ls:List L} (hb:look s.box id=some ls) (hl:ls[k]?=some (.ref i lo n)) (h:ab P w0 m0 F0 c Q {s with box:=bz id (ls.set k (yQ n)) s.box}):ab P w0 m0 F0 c Q s:=fun a w ⟨_,_,hC⟩ =>
 h a w ⟨_,_,hC.Tk hb hl⟩
theorem Tm (n0:Nat) (e:List (Nat×A)) (b:List (Nat×List L)) (k:List (Nat×aN)) (id n:Nat) (ls:List L) (q:Nat):({(⟨n0,e,b,k⟩:St) with box:=bz id (ls.set q (yQ n)) b}:St)=⟨n0,e,(id,ls.set q (yQ n))::Bw.del id b,k⟩:=rfl
end
end Go.Bw
namespace Go.Bw
theorem D {p:Prop} (h:p:=by first|omega|(simp only [LN];omega)|fail):p:=h
theorem E {p:Prop} (h:p:=by first|with_reducible assumption|omega|(repeat' with_reducible refine And.intro ?_ ?_)<;>(first|with_reducible rfl|with_reducible assumption|omega)|fail):p:=h
theorem Q1 {g n:Prop} (k:n) (h:n→g:=by
 first
  | (with_reducible first|exact qA|exact qB|exact qC|exact qD|exact qE|exact qF|exact qL|exact qM|exact qN|exact qO|exact qQ|exact qX|exact qY|exact qZ)
  | exact qR rfl
  | with_reducible exact And.intro (by first|with_reducible rfl|with_reducible assumption|omega|(simp only [LN];first|done|with_reducible rfl|omega)|(simp only [NM,LN];first|done|with_reducible assumption|omega)|(and_intros<;>first|with_reducible assumption|omega|(simp only [LN];omega))|fail)
  | ((with_reducible refine aA.Bt ?_);first|with_reducible rfl|with_reducible assumption|(simp only [NM,LN];first|done|with_reducible assumption|omega)|fail)
  | ((with_reducible refine aA.Bu ?_);first|with_reducible rfl|with_reducible assumption|(simp only [NM,LN];first|done|with_reducible assumption|omega)|fail)
  | fail):g:=h k
theorem Q2 {g n:Prop} (k:n) (h:n→g:=by
 first
  | ((with_reducible first|refine ax.Bt ?_|refine ay.Bt ?_|refine az.Bt ?_);first|with_reducible rfl|with_reducible assumption|(simp only [NM,LN];first|done|with_reducible assumption|omega)|fail)
  | ((with_reducible first|refine ax.Bu ?_|refine ay.Bu ?_|refine az.Bu ?_);first|with_reducible rfl|with_reducible assumption|(simp only [NM,LN];first|done|with_reducible assumption|omega)|fail)
  | fail):g:=h k
theorem SG:(∀{l:List Oper},yo l []=[])∧(∀{l:List Oper} {i:Nat} {q f:List (Nat×Nat)} {r:List (Nat×List (Nat×Nat)×List (Nat×Nat))},yo l ((i,f,q)::r)=(match l[i]? with|some o=>[⟨o,bb l f,bb l q⟩]|none=>[])++yo l r) ∧
  (∀{α:Type} {a:α} {l:List α} {n:Nat},(a::l).drop (n+1)=l.drop n)∧(∀{α:Type} {l:List α},l.drop 0=l)∧(∀{α:Type} {a:α} {l:List α} {n:Nat},(a::l).take (n+1)=a::l.take n)∧(∀{α:Type} {l:List α},l.take 0=[]) ∧
  (∀{α:Type} {a:α} {l:List α},(a::l)[0]?=some a)∧(∀{α:Type} {a:α} {l:List α} {n:Nat},(a::l)[n+1]?=l[n]?)∧(∀{α:Type} {a:α} {l r:List α},(a::l)++r=a::(l++r))∧(∀{α:Type} {l:List α},[]++l=l)∧(∀{α:Type} {l:List α},l++[]=l) :=
 ⟨rfl,rfl,rfl,rfl,rfl,rfl,rfl,rfl,rfl,rfl,bM _⟩
section
variable {P:Program} {T:TypeId→Option TI} {w0:World} {m0:Mem} {F0:Home} {s:St}
theorem dX (hT:pR P T) (hm:P.follows .mixedOrders=true) {Q:Exit→St→Prop} {id:Nat} {l:List Oper} (sq:List (Nat×Nat)) (sx:List (Nat×List (Nat×Nat)×List (Nat×Nat))) (ce:List Nat) (dep:Nat)
  (h:∀K2:St→Prop,(∀s',(∀K:St→Prop,(∀s',Q .normal s'→K s')→an P T l.toArray (yo l sx) s' K)→K2 s')→cQ P T l.toArray (bb l sq) s K2) (hord:ce.Pairwise (·<·):=by decide) (hchk:wj l.toArray l.toArray.size dep=true:=by kernel_rfl) (hch:Ct l.toArray ce dep=true:=by kernel_rfl)
  (h1:Bz l.toArray ce dep=bb l sq:=by kernel_rfl) (h2:yO l.toArray ce dep [] ce=yo l sx:=by kernel_rfl):ab P w0 m0 F0 (.region id l.toArray true) Q s:=ab.Mn hT hm sq sx ce dep hord hchk hch h1 h2 h
theorem dY (hT:pR P T) (hm:P.follows .mixedOrders=true) {Q:Exit→St→Prop} {id:Nat} {l:List Oper} (sq:List (Nat×Nat)) (pt:PT) (ce:List Nat) (dep:Nat)
  (h:∀K2:St→Prop,(∀s',(∀K:St→Prop,(∀s',Q .normal s'→K s')→c6 P T l.toArray (yp l pt) s' K)→K2 s')→cQ P T l.toArray (bb l sq) s K2) (hce:∀j∈ce,j<l.toArray.size:=by decide) (hchk:wj l.toArray l.toArray.size dep=true:=by kernel_rfl) (hch:DK l.toArray ce=true:=by kernel_rfl)
  (h1:Bz l.toArray ce dep=bb l sq:=by kernel_rfl) (h2:yP l.toArray ce dep ce.length []=yp l pt:=by kernel_rfl):ab P w0 m0 F0 (.region id l.toArray true) Q s:=ab.S7 hT hm sq pt ce dep hce hchk hch h1 h2 h
theorem sM (hT:pR P T) (kb kr:List Nat) {f:FuncId} {fn:Func} {c:Code} {xs:List V} {bx bx':qJ} {rw rw':Rows} {r:A} (hf:P.funcs[f]?=some fn)
  (h:∀w0 m0 F0,ab P w0 m0 F0 c (aR T fn kb kr r bx' rw') {n:=fn.ntmps,env:=bK 0 xs,box:=bx,row:=rw}) (hb:fn.body=some c:=by exact rfl) (hn:(fn.name=="runtime.NumGoroutine")=false:=by kernel_rfl) (hx:xs.length≤fn.ntmps∧fn.ntmps≤1000:=by exact ⟨gQ rfl,gQ rfl⟩):db P f xs bx rw r bx' rw' :=
 L8 hT kb kr hf hb hn hx h
theorem sS (hT:pR P T) {f:FuncId} {fn:Func} {c:Code} {xs:List V} {r:A} (hf:P.funcs[f]?=some fn)
  (h:∀w0 m0 F0,ab P w0 m0 F0 c (aR T fn [] [] r [] []) {n:=fn.ntmps,env:=bK 0 xs,box:=[],row:=[]}) (hb:fn.body=some c:=by exact rfl) (hn:(fn.name=="runtime.NumGoroutine")=false:=by kernel_rfl) (hx:xs.length≤fn.ntmps∧fn.ntmps≤1000:=by exact ⟨gQ rfl,gQ rfl⟩):Sat P f xs r :=
 SH hT hf hb hn hx h
end
end Go.Bw
namespace Go.Bw
open Go.Proofs
def JD:List (Nat×TI):=[
 (2,{size:=1,bytes:=8,agg:=false,elem:=none,fields:=none,bB:=false,zero:=some [.int .i64 0]}),
 (3,{size:=1,bytes:=8,agg:=false,elem:=none,fields:=none,bB:=false,zero:=some [.int .i64 0]}),
 (4,{size:=1,bytes:=1,agg:=false,elem:=none,fields:=none,bB:=false,zero:=some [.bool false]}),
 (5,{size:=1,bytes:=1,agg:=false,elem:=none,fields:=none,bB:=false,zero:=some [.int .u8 0]}),
 (9,{size:=1,bytes:=16,agg:=false,elem:=none,fields:=none,bB:=true,zero:=some [.str ByteArray.empty]}),
 (12,{size:=1,bytes:=8,agg:=false,elem:=none,fields:=none,bB:=false,zero:=some [.int .u64 0]}),
 (13,{size:=2,bytes:=24,agg:=true,elem:=none,fields:=some [(0,9),(1,12)],bB:=false,zero:=some [.str ByteArray.empty,.int .u64 0]}),
 (21,{size:=1,bytes:=4,agg:=false,elem:=none,fields:=none,bB:=false,zero:=some [.int .i32 0]}),
 (22,{size:=1,bytes:=24,agg:=false,elem:=some 9,fields:=none,bB:=false,zero:=some [.nil 1]}),
 (23,{size:=1,bytes:=24,agg:=false,elem:=some 3,fields:=none,bB:=false,zero:=some [.nil 1]}),
 (25,{size:=1,bytes:=24,agg:=false,elem:=some 90,fields:=none,bB:=false,zero:=some [.nil 3]}),
 (26,{size:=3,bytes:=64,agg:=true,elem:=none,fields:=some [(0,9),(1,25),(2,23)],bB:=false,zero:=some [.str ByteArray.empty,.nil 3,.nil 1]}),
 (27,{size:=3,bytes:=64,agg:=true,elem:=none,fields:=some [(0,9),(1,25),(2,23)],bB:=false,zero:=some [.str ByteArray.empty,.nil 3,.nil 1]}),
 (29,{size:=1,bytes:=24,agg:=false,elem:=some 27,fields:=none,bB:=false,zero:=some [.nil 3]}),
 (30,{size:=1,bytes:=24,agg:=false,elem:=some 39,fields:=none,bB:=false,zero:=some [.nil 3]}),
 (31,{size:=1,bytes:=24,agg:=false,elem:=some 37,fields:=none,bB:=false,zero:=some [.nil 7]}),
 (32,{size:=3,bytes:=72,agg:=true,elem:=none,fields:=some [(0,29),(1,30),(2,31)],bB:=false,zero:=some [.nil 3,.nil 3,.nil 7]}),
 (33,{size:=3,bytes:=72,agg:=true,elem:=none,fields:=some [(0,29),(1,30),(2,31)],bB:=false,zero:=some [.nil 3,.nil 3,.nil 7]}),
 (34,{size:=3,bytes:=32,agg:=true,elem:=none,fields:=some [(0,3),(1,3),(2,9)],bB:=false,zero:=some [.int .i64 0,.int .i64 0,.str ByteArray.empty]}),
 (35,{size:=3,bytes:=32,agg:=true,elem:=none,fields:=some [(0,3),(1,3),(2,9)],bB:=false,zero:=some [.int .i64 0,.int .i64 0,.str ByteArray.empty]}),
 (36,{size:=7,bytes:=80,agg:=true,elem:=none,fields:=some [(0,9),(1,3),(2,9),(3,3),(4,35)],bB:=false,zero:=some [.str ByteArray.empty,.int .i64 0,.str ByteArray.empty,.int .i64 0,.int .i64 0,.int .i64 0,.str ByteArray.empty]}),
 (37,{size:=7,bytes:=80,agg:=true,elem:=none,fields:=some [(0,9),(1,3),(2,9),(3,3),(4,35)],bB:=false,zero:=some [.str ByteArray.empty,.int .i64 0,.str ByteArray.empty,.int .i64 0,.int .i64 0,.int .i64 0,.str ByteArray.empty]}),
 (38,{size:=3,bytes:=56,agg:=true,elem:=none,fields:=some [(0,9),(1,23),(2,9)],bB:=false,zero:=some [.str ByteArray.empty,.nil 1,.str ByteArray.empty]}),
 (39,{size:=3,bytes:=56,agg:=true,elem:=none,fields:=some [(0,9),(1,23),(2,9)],bB:=false,zero:=some [.str ByteArray.empty,.nil 1,.str ByteArray.empty]}),
 (40,{size:=24,bytes:=352,agg:=true,elem:=none,fields:=some [(0,3),(1,9),(2,9),(3,9),(4,9),(5,3),(6,23),(7,9),(8,35),(11,27),(14,37),(21,39)],bB:=false,zero:=some [.int .i64 0,.str ByteArray.empty,.str ByteArray.empty,.str ByteArray.empty,.str ByteArray.empty,.int .i64 0,.nil 1,.str ByteArray.empty,.int .i64 0,.int .i64 0,.str ByteArray.empty,.str ByteArray.empty,.nil 3,.nil 1,.str ByteArray.empty,.int .i64 0,.str ByteArray.empty,.int .i64 0,.int .i64 0,.int .i64 0,.str ByteArray.empty,.str ByteArray.empty,.nil 1,.str ByteArray.empty]}),
 (41,{size:=24,bytes:=352,agg:=true,elem:=none,fields:=some [(0,3),(1,9),(2,9),(3,9),(4,9),(5,3),(6,23),(7,9),(8,35),(11,27),(14,37),(21,39)],bB:=false,zero:=some [.int .i64 0,.str ByteArray.empty,.str ByteArray.empty,.str ByteArray.empty,.str ByteArray.empty,.int .i64 0,.nil 1,.str ByteArray.empty,.int .i64 0,.int .i64 0,.str ByteArray.empty,.str ByteArray.empty,.nil 3,.nil 1,.str ByteArray.empty,.int .i64 0,.str ByteArray.empty,.int .i64 0,.int .i64 0,.int .i64 0,.str ByteArray.empty,.str ByteArray.empty,.nil 1,.str ByteArray.empty]}),
 (42,{size:=1,bytes:=24,agg:=false,elem:=some 49,fields:=none,bB:=false,zero:=some [.nil 2]}),
 (43,{size:=1,bytes:=24,agg:=false,elem:=some 49,fields:=none,bB:=false,zero:=some [.nil 2]}),
 (44,{size:=1,bytes:=8,agg:=false,elem:=none,fields:=none,bB:=false,zero:=some [.int .i64 0]}),
 (47,{size:=1,bytes:=24,agg:=false,elem:=some 54,fields:=none,bB:=false,zero:=some [.nil 1]}),
 (48,{size:=2,bytes:=40,agg:=true,elem:=none,fields:=some [(0,9),(1,47)],bB:=false,zero:=some [.str ByteArray.empty,.nil 1]}),
 (49,{size:=2,bytes:=40,agg:=true,elem:=none,fields:=some [(0,9),(1,47)],bB:=false,zero:=some [.str ByteArray.empty,.nil 1]}),
 (53,{size:=1,bytes:=24,agg:=false,elem:=some 35,fields:=none,bB:=false,zero:=some [.nil 3]}),
 (54,{size:=1,bytes:=24,agg:=false,elem:=some 35,fields:=none,bB:=false,zero:=some [.nil 3]}),
 (69,{size:=1,bytes:=24,agg:=false,elem:=some 41,fields:=none,bB:=false,zero:=some [.nil 24]}),
 (70,{size:=1,bytes:=24,agg:=false,elem:=some 41,fields:=none,bB:=false,zero:=some [.nil 24]}),
 (78,{size:=1,bytes:=24,agg:=false,elem:=some 136,fields:=none,bB:=false,zero:=some [.nil 2]}),
 (79,{size:=4,bytes:=96,agg:=true,elem:=none,fields:=some [(0,33),(3,78)],bB:=false,zero:=some [.nil 3,.nil 3,.nil 7,.nil 2]}),
 (80,{size:=4,bytes:=96,agg:=true,elem:=none,fields:=some [(0,33),(3,78)],bB:=false,zero:=some [.nil 3,.nil 3,.nil 7,.nil 2]}),
 (83,{size:=1,bytes:=24,agg:=false,elem:=some 33,fields:=none,bB:=false,zero:=some [.nil 3]}),
 (89,{size:=3,bytes:=32,agg:=true,elem:=none,fields:=some [(0,9),(1,3),(2,4)],bB:=false,zero:=some [.str ByteArray.empty,.int .i64 0,.bool false]}),
 (90,{size:=3,bytes:=32,agg:=true,elem:=none,fields:=some [(0,9),(1,3),(2,4)],bB:=false,zero:=some [.str ByteArray.empty,.int .i64 0,.bool false]}),
 (97,{size:=39,bytes:=680,agg:=true,elem:=none,fields:=some [(0,41),(24,4),(25,33),(28,33),(31,33),(34,43),(35,43),(36,43),(37,43),(38,44)],bB:=false,zero:=some [.int .i64 0,.str ByteArray.empty,.str ByteArray.empty,.str ByteArray.empty,.str ByteArray.empty,.int .i64 0,.nil 1,.str ByteArray.empty,.int .i64 0,.int .i64 0,.str ByteArray.empty,.str ByteArray.empty,.nil 3,.nil 1,.str ByteArray.empty,.int .i64 0,.str ByteArray.empty,.int .i64 0,.int .i64 0,.int .i64 0,.str ByteArray.empty,.str ByteArray.empty,.nil 1,.str ByteArray.empty,.bool false,.nil 3,.nil 3,.nil 7,.nil 3,.nil 3,.nil 7,.nil 3,.nil 3,.nil 7,.nil 2,.nil 2,.nil 2,.nil 2,.int .i64 0]}),
 (98,{size:=39,bytes:=680,agg:=true,elem:=none,fields:=some [(0,41),(24,4),(25,33),(28,33),(31,33),(34,43),(35,43),(36,43),(37,43),(38,44)],bB:=false,zero:=some [.int .i64 0,.str ByteArray.empty,.str ByteArray.empty,.str ByteArray.empty,.str ByteArray.empty,.int .i64 0,.nil 1,.str ByteArray.empty,.int .i64 0,.int .i64 0,.str ByteArray.empty,.str ByteArray.empty,.nil 3,.nil 1,.str ByteArray.empty,.int .i64 0,.str ByteArray.empty,.int .i64 0,.int .i64 0,.int .i64 0,.str ByteArray.empty,.str ByteArray.empty,.nil 1,.str ByteArray.empty,.bool false,.nil 3,.nil 3,.nil 7,.nil 3,.nil 3,.nil 7,.nil 3,.nil 3,.nil 7,.nil 2,.nil 2,.nil 2,.nil 2,.int .i64 0]}),
 (101,{size:=1,bytes:=24,agg:=false,elem:=some 5,fields:=none,bB:=false,zero:=some [.nil 1]}),
 (102,{size:=2,bytes:=32,agg:=true,elem:=none,fields:=some [(0,100),(1,101)],bB:=false,zero:=some [.sN,.nil 1]}),
 (103,{size:=2,bytes:=32,agg:=true,elem:=none,fields:=some [(0,100),(1,101)],bB:=false,zero:=some [.sN,.nil 1]}),
 (117,{size:=1,bytes:=24,agg:=false,elem:=some 43,fields:=none,bB:=false,zero:=some [.nil 1]}),
 (133,{size:=1,bytes:=24,agg:=false,elem:=some 70,fields:=none,bB:=false,zero:=some [.nil 1]}),
 (135,{size:=2,bytes:=32,agg:=true,elem:=none,fields:=some [(0,3),(1,70)],bB:=false,zero:=some [.int .i64 0,.nil 24]}),
 (136,{size:=2,bytes:=32,agg:=true,elem:=none,fields:=some [(0,3),(1,70)],bB:=false,zero:=some [.int .i64 0,.nil 24]}),
 (227,{size:=1,bytes:=8,agg:=false,elem:=none,fields:=none,bB:=false,zero:=some [.int .u64 0]}),
 (258,{size:=1,bytes:=4,agg:=false,elem:=none,fields:=none,bB:=false,zero:=some [.int .u32 0]}),
 (261,{size:=1,bytes:=8,agg:=false,elem:=none,fields:=none,bB:=false,zero:=some [.int .u64 0]}),
 (282,{size:=1,bytes:=8,agg:=false,elem:=none,fields:=none,bB:=false,zero:=some [.int .i64 0]}),
 (292,{size:=3,bytes:=48,agg:=true,elem:=none,fields:=some [(0,9),(1,9),(2,105)],bB:=false,zero:=none}),
 (293,{size:=3,bytes:=48,agg:=true,elem:=none,fields:=some [(0,9),(1,9),(2,105)],bB:=false,zero:=none}),
 (299,{size:=1,bytes:=16,agg:=true,elem:=none,fields:=some [(0,9)],bB:=false,zero:=some [.str ByteArray.empty]}),
 (300,{size:=1,bytes:=16,agg:=true,elem:=none,fields:=some [(0,9)],bB:=false,zero:=some [.str ByteArray.empty]})]
def TT (t:TypeId):Option TI:=look JD t
theorem OS {α:Type} {x:α}:∀(e:List (Nat×α)) (i:Nat),look e i=some x→(i,x)∈e
 | [],_,h=>by cases h
 | (t,y)::e,i,h=>by
  simp only [look] at h
  split at h
  ·injection h with h;subst h;subst t;simp
  ·exact uW _ (OS e i h)
theorem Xt:(JD.all fun p=>gM Tryz.prog p.1 p.2)=true:=by kernel_rfl
theorem ah:pR Tryz.prog TT:=fun t i h=>List.all_eq_true.1 Xt (t,i) (OS JD t h)
theorem nJ:TT 2=some {size:=1,bytes:=8,agg:=false,elem:=none,fields:=none,bB:=false,zero:=some [.int .i64 0]}:=rfl
theorem nK:TT 3=some {size:=1,bytes:=8,agg:=false,elem:=none,fields:=none,bB:=false,zero:=some [.int .i64 0]}:=rfl
theorem nM:TT 4=some {size:=1,bytes:=1,agg:=false,elem:=none,fields:=none,bB:=false,zero:=some [.bool false]}:=rfl
theorem nN:TT 5=some {size:=1,bytes:=1,agg:=false,elem:=none,fields:=none,bB:=false,zero:=some [.int .u8 0]}:=rfl
theorem nP:TT 9=some {size:=1,bytes:=16,agg:=false,elem:=none,fields:=none,bB:=true,zero:=some [.str ByteArray.empty]}:=rfl
theorem nQ:TT 12=some {size:=1,bytes:=8,agg:=false,elem:=none,fields:=none,bB:=false,zero:=some [.int .u64 0]}:=rfl
theorem nR:TT 13=some {size:=2,bytes:=24,agg:=true,elem:=none,fields:=some [(0,9),(1,12)],bB:=false,zero:=some [.str ByteArray.empty,.int .u64 0]}:=rfl
theorem nS:TT 21=some {size:=1,bytes:=4,agg:=false,elem:=none,fields:=none,bB:=false,zero:=some [.int .i32 0]}:=rfl
theorem nU:TT 22=some {size:=1,bytes:=24,agg:=false,elem:=some 9,fields:=none,bB:=false,zero:=some [.nil 1]}:=rfl
theorem nV:TT 23=some {size:=1,bytes:=24,agg:=false,elem:=some 3,fields:=none,bB:=false,zero:=some [.nil 1]}:=rfl
theorem nW:TT 25=some {size:=1,bytes:=24,agg:=false,elem:=some 90,fields:=none,bB:=false,zero:=some [.nil 3]}:=rfl
theorem nY:TT 26=some {size:=3,bytes:=64,agg:=true,elem:=none,fields:=some [(0,9),(1,25),(2,23)],bB:=false,zero:=some [.str ByteArray.empty,.nil 3,.nil 1]}:=rfl
theorem nZ:TT 27=some {size:=3,bytes:=64,agg:=true,elem:=none,fields:=some [(0,9),(1,25),(2,23)],bB:=false,zero:=some [.str ByteArray.empty,.nil 3,.nil 1]}:=rfl
theorem n9:TT 29=some {size:=1,bytes:=24,agg:=false,elem:=some 27,fields:=none,bB:=false,zero:=some [.nil 3]}:=rfl
theorem od:TT 30=some {size:=1,bytes:=24,agg:=false,elem:=some 39,fields:=none,bB:=false,zero:=some [.nil 3]}:=rfl
theorem oe:TT 31=some {size:=1,bytes:=24,agg:=false,elem:=some 37,fields:=none,bB:=false,zero:=some [.nil 7]}:=rfl
theorem og:TT 32=some {size:=3,bytes:=72,agg:=true,elem:=none,fields:=some [(0,29),(1,30),(2,31)],bB:=false,zero:=some [.nil 3,.nil 3,.nil 7]}:=rfl
theorem oh:TT 33=some {size:=3,bytes:=72,agg:=true,elem:=none,fields:=some [(0,29),(1,30),(2,31)],bB:=false,zero:=some [.nil 3,.nil 3,.nil 7]}:=rfl
theorem oi:TT 34=some {size:=3,bytes:=32,agg:=true,elem:=none,fields:=some [(0,3),(1,3),(2,9)],bB:=false,zero:=some [.int .i64 0,.int .i64 0,.str ByteArray.empty]}:=rfl
theorem oj:TT 35=some {size:=3,bytes:=32,agg:=true,elem:=none,fields:=some [(0,3),(1,3),(2,9)],bB:=false,zero:=some [.int .i64 0,.int .i64 0,.str ByteArray.empty]}:=rfl
theorem om:TT 36=some {size:=7,bytes:=80,agg:=true,elem:=none,fields:=some [(0,9),(1,3),(2,9),(3,3),(4,35)],bB:=false,zero:=some [.str ByteArray.empty,.int .i64 0,.str ByteArray.empty,.int .i64 0,.int .i64 0,.int .i64 0,.str ByteArray.empty]}:=rfl
theorem oo:TT 37=some {size:=7,bytes:=80,agg:=true,elem:=none,fields:=some [(0,9),(1,3),(2,9),(3,3),(4,35)],bB:=false,zero:=some [.str ByteArray.empty,.int .i64 0,.str ByteArray.empty,.int .i64 0,.int .i64 0,.int .i64 0,.str ByteArray.empty]}:=rfl
theorem oq:TT 38=some {size:=3,bytes:=56,agg:=true,elem:=none,fields:=some [(0,9),(1,23),(2,9)],bB:=false,zero:=some [.str ByteArray.empty,.nil 1,.str ByteArray.empty]}:=rfl
theorem ot:TT 39=some {size:=3,bytes:=56,agg:=true,elem:=none,fields:=some [(0,9),(1,23),(2,9)],bB:=false,zero:=some [.str ByteArray.empty,.nil 1,.str ByteArray.empty]}:=rfl
theorem ou:TT 40=some {size:=24,bytes:=352,agg:=true,elem:=none,fields:=some [(0,3),(1,9),(2,9),(3,9),(4,9),(5,3),(6,23),(7,9),(8,35),(11,27),(14,37),(21,39)],bB:=false,zero:=some [.int .i64 0,.str ByteArray.empty,.str ByteArray.empty,.str ByteArray.empty,.str ByteArray.empty,.int .i64 0,.nil 1,.str ByteArray.empty,.int .i64 0,.int .i64 0,.str ByteArray.empty,.str ByteArray.empty,.nil 3,.nil 1,.str ByteArray.empty,.int .i64 0,.str ByteArray.empty,.int .i64 0,.int .i64 0,.int .i64 0,.str ByteArray.empty,.str ByteArray.empty,.nil 1,.str ByteArray.empty]}:=rfl
theorem ow:TT 41=some {size:=24,bytes:=352,agg:=true,elem:=none,fields:=some [(0,3),(1,9),(2,9),(3,9),(4,9),(5,3),(6,23),(7,9),(8,35),(11,27),(14,37),(21,39)],bB:=false,zero:=some [.int .i64 0,.str ByteArray.empty,.str ByteArray.empty,.str ByteArray.empty,.str ByteArray.empty,.int .i64 0,.nil 1,.str ByteArray.empty,.int .i64 0,.int .i64 0,.str ByteArray.empty,.str ByteArray.empty,.nil 3,.nil 1,.str ByteArray.empty,.int .i64 0,.str ByteArray.empty,.int .i64 0,.int .i64 0,.int .i64 0,.str ByteArray.empty,.str ByteArray.empty,.nil 1,.str ByteArray.empty]}:=rfl
theorem ox:TT 42=some {size:=1,bytes:=24,agg:=false,elem:=some 49,fields:=none,bB:=false,zero:=some [.nil 2]}:=rfl
theorem oy:TT 43=some {size:=1,bytes:=24,agg:=false,elem:=some 49,fields:=none,bB:=false,zero:=some [.nil 2]}:=rfl
theorem oz:TT 44=some {size:=1,bytes:=8,agg:=false,elem:=none,fields:=none,bB:=false,zero:=some [.int .i64 0]}:=rfl
theorem oA:TT 47=some {size:=1,bytes:=24,agg:=false,elem:=some 54,fields:=none,bB:=false,zero:=some [.nil 1]}:=rfl
theorem oC:TT 48=some {size:=2,bytes:=40,agg:=true,elem:=none,fields:=some [(0,9),(1,47)],bB:=false,zero:=some [.str ByteArray.empty,.nil 1]}:=rfl
theorem oD:TT 49=some {size:=2,bytes:=40,agg:=true,elem:=none,fields:=some [(0,9),(1,47)],bB:=false,zero:=some [.str ByteArray.empty,.nil 1]}:=rfl
theorem oE:TT 53=some {size:=1,bytes:=24,agg:=false,elem:=some 35,fields:=none,bB:=false,zero:=some [.nil 3]}:=rfl
theorem oF:TT 54=some {size:=1,bytes:=24,agg:=false,elem:=some 35,fields:=none,bB:=false,zero:=some [.nil 3]}:=rfl
theorem oG:TT 69=some {size:=1,bytes:=24,agg:=false,elem:=some 41,fields:=none,bB:=false,zero:=some [.nil 24]}:=rfl
theorem oH:TT 70=some {size:=1,bytes:=24,agg:=false,elem:=some 41,fields:=none,bB:=false,zero:=some [.nil 24]}:=rfl
theorem oJ:TT 78=some {size:=1,bytes:=24,agg:=false,elem:=some 136,fields:=none,bB:=false,zero:=some [.nil 2]}:=rfl
theorem oK:TT 79=some {size:=4,bytes:=96,agg:=true,elem:=none,fields:=some [(0,33),(3,78)],bB:=false,zero:=some [.nil 3,.nil 3,.nil 7,.nil 2]}:=rfl
theorem oL:TT 80=some {size:=4,bytes:=96,agg:=true,elem:=none,fields:=some [(0,33),(3,78)],bB:=false,zero:=some [.nil 3,.nil 3,.nil 7,.nil 2]}:=rfl
theorem oM:TT 83=some {size:=1,bytes:=24,agg:=false,elem:=some 33,fields:=none,bB:=false,zero:=some [.nil 3]}:=rfl
theorem oN:TT 89=some {size:=3,bytes:=32,agg:=true,elem:=none,fields:=some [(0,9),(1,3),(2,4)],bB:=false,zero:=some [.str ByteArray.empty,.int .i64 0,.bool false]}:=rfl
theorem oO:TT 90=some {size:=3,bytes:=32,agg:=true,elem:=none,fields:=some [(0,9),(1,3),(2,4)],bB:=false,zero:=some [.str ByteArray.empty,.int .i64 0,.bool false]}:=rfl
theorem oP:TT 97=some {size:=39,bytes:=680,agg:=true,elem:=none,fields:=some [(0,41),(24,4),(25,33),(28,33),(31,33),(34,43),(35,43),(36,43),(37,43),(38,44)],bB:=false,zero:=some [.int .i64 0,.str ByteArray.empty,.str ByteArray.empty,.str ByteArray.empty,.str ByteArray.empty,.int .i64 0,.nil 1,.str ByteArray.empty,.int .i64 0,.int .i64 0,.str ByteArray.empty,.str ByteArray.empty,.nil 3,.nil 1,.str ByteArray.empty,.int .i64 0,.str ByteArray.empty,.int .i64 0,.int .i64 0,.int .i64 0,.str ByteArray.empty,.str ByteArray.empty,.nil 1,.str ByteArray.empty,.bool false,.nil 3,.nil 3,.nil 7,.nil 3,.nil 3,.nil 7,.nil 3,.nil 3,.nil 7,.nil 2,.nil 2,.nil 2,.nil 2,.int .i64 0]}:=rfl
theorem oQ:TT 98=some {size:=39,bytes:=680,agg:=true,elem:=none,fields:=some [(0,41),(24,4),(25,33),(28,33),(31,33),(34,43),(35,43),(36,43),(37,43),(38,44)],bB:=false,zero:=some [.int .i64 0,.str ByteArray.empty,.str ByteArray.empty,.str ByteArray.empty,.str ByteArray.empty,.int .i64 0,.nil 1,.str ByteArray.empty,.int .i64 0,.int .i64 0,.str ByteArray.empty,.str ByteArray.empty,.nil 3,.nil 1,.str ByteArray.empty,.int .i64 0,.str ByteArray.empty,.int .i64 0,.int .i64 0,.int .i64 0,.str ByteArray.empty,.str ByteArray.empty,.nil 1,.str ByteArray.empty,.bool false,.nil 3,.nil 3,.nil 7,.nil 3,.nil 3,.nil 7,.nil 3,.nil 3,.nil 7,.nil 2,.nil 2,.nil 2,.nil 2,.int .i64 0]}:=rfl
theorem oR:TT 101=some {size:=1,bytes:=24,agg:=false,elem:=some 5,fields:=none,bB:=false,zero:=some [.nil 1]}:=rfl
theorem oT:TT 102=some {size:=2,bytes:=32,agg:=true,elem:=none,fields:=some [(0,100),(1,101)],bB:=false,zero:=some [.sN,.nil 1]}:=rfl
theorem oU:TT 103=some {size:=2,bytes:=32,agg:=true,elem:=none,fields:=some [(0,100),(1,101)],bB:=false,zero:=some [.sN,.nil 1]}:=rfl
theorem oV:TT 117=some {size:=1,bytes:=24,agg:=false,elem:=some 43,fields:=none,bB:=false,zero:=some [.nil 1]}:=rfl
theorem oW:TT 133=some {size:=1,bytes:=24,agg:=false,elem:=some 70,fields:=none,bB:=false,zero:=some [.nil 1]}:=rfl
theorem oX:TT 135=some {size:=2,bytes:=32,agg:=true,elem:=none,fields:=some [(0,3),(1,70)],bB:=false,zero:=some [.int .i64 0,.nil 24]}:=rfl
theorem oY:TT 136=some {size:=2,bytes:=32,agg:=true,elem:=none,fields:=some [(0,3),(1,70)],bB:=false,zero:=some [.int .i64 0,.nil 24]}:=rfl
theorem oZ:TT 227=some {size:=1,bytes:=8,agg:=false,elem:=none,fields:=none,bB:=false,zero:=some [.int .u64 0]}:=rfl
theorem o0:TT 258=some {size:=1,bytes:=4,agg:=false,elem:=none,fields:=none,bB:=false,zero:=some [.int .u32 0]}:=rfl
theorem o6:TT 261=some {size:=1,bytes:=8,agg:=false,elem:=none,fields:=none,bB:=false,zero:=some [.int .u64 0]}:=rfl
theorem o7:TT 282=some {size:=1,bytes:=8,agg:=false,elem:=none,fields:=none,bB:=false,zero:=some [.int .i64 0]}:=rfl
theorem o8:TT 292=some {size:=3,bytes:=48,agg:=true,elem:=none,fields:=some [(0,9),(1,9),(2,105)],bB:=false,zero:=none}:=rfl
theorem o9:TT 293=some {size:=3,bytes:=48,agg:=true,elem:=none,fields:=some [(0,9),(1,9),(2,105)],bB:=false,zero:=none}:=rfl
theorem pd:TT 299=some {size:=1,bytes:=16,agg:=true,elem:=none,fields:=some [(0,9)],bB:=false,zero:=some [.str ByteArray.empty]}:=rfl
theorem pe:TT 300=some {size:=1,bytes:=16,agg:=true,elem:=none,fields:=some [(0,9)],bB:=false,zero:=some [.str ByteArray.empty]}:=rfl
theorem ph:Ar Tryz.prog 35=some [0,0,2]:=by kernel_rfl
theorem pi:Ar Tryz.prog 37=some [2,0,2,0,0,0,2]:=by kernel_rfl
theorem pj:Ar Tryz.prog 90=some [2,0,1]:=by kernel_rfl
theorem po:Ar Tryz.prog 300=some [2]:=by kernel_rfl
theorem nu:ug Tryz.prog 2=some .i64:=by kernel_rfl
theorem nv:ug Tryz.prog 3=some .i64:=by kernel_rfl
theorem ny:ug Tryz.prog 5=some .u8:=by kernel_rfl
theorem nz:ug Tryz.prog 12=some .u64:=by kernel_rfl
theorem nD:ug Tryz.prog 21=some .i32:=by kernel_rfl
theorem nE:ug Tryz.prog 44=some .i64:=by kernel_rfl
theorem nF:ug Tryz.prog 227=some .u64:=by kernel_rfl
theorem nG:ug Tryz.prog 258=some .u32:=by kernel_rfl
theorem nH:ug Tryz.prog 261=some .u64:=by kernel_rfl
theorem nI:ug Tryz.prog 282=some .i64:=by kernel_rfl
theorem pg:FF Tryz.prog 4=true:=by kernel_rfl
theorem mixed:Tryz.prog.follows .mixedOrders=true:=by kernel_rfl
structure fM where
 kind:Int
 int:Int
 text:ByteArray
 deriving DecidableEq,Inhabited
abbrev Row:=List fM
structure gK where
 name:ByteArray
 kind:Int
 qt:Bool
 deriving DecidableEq,Inhabited
structure au where
 name:ByteArray
 ae:List gK
 pk:List Int
 deriving DecidableEq,Inhabited
structure FK where
 table:ByteArray
 ae:List Int
 ref:ByteArray
 deriving DecidableEq,Inhabited
structure dN where
 table:ByteArray
 left:Int
 op:ByteArray
 right:Int
 value:fM
 deriving DecidableEq,Inhabited
structure aq where
 tables:List au
 ak:List FK
 cons:List dN
 deriving DecidableEq,Inhabited
structure Rel where
 table:ByteArray
 rows:List Row
 deriving DecidableEq,Inhabited
abbrev cZ:=List Rel
structure da where
 kind:Int
 table:ByteArray
 key:Row
 row:Row
 deriving DecidableEq,Inhabited
def bd (v:fM):List L:=[.int .i64 v.kind,.int .i64 v.int,.str v.text]
def cT (r:Row):L:=.sl 3 (r.map bd)
def cU (r:Row):List L:=[cT r]
def bm (rs:List Row):L:=.sl 1 (rs.map cU)
def aX (n:Int):List L:=[.int .i64 n]
def bj (l:List Int):L:=.sl 1 (l.map aX)
def aT (c:gK):List L:=[.str c.name,.int .i64 c.kind,.bool c.qt]
def cS (l:List gK):L:=.sl 3 (l.map aT)
def ap (t:au):List L:=[.str t.name,cS t.ae,bj t.pk]
def dW (l:List au):L:=.sl 3 (l.map ap)
def aL (f:FK):List L:=[.str f.table,bj f.ae,.str f.ref]
def dI (l:List FK):L:=.sl 3 (l.map aL)
def aK (c:dN):List L:=[.str c.table,.int .i64 c.left,.str c.op,.int .i64 c.right,.int .i64 c.value.kind,.int .i64 c.value.int,.str c.value.text]
def dy (l:List dN):L:=.sl 7 (l.map aK)
def aC (s:aq):List L:=[dW s.tables,dI s.ak,dy s.cons]
def aH (r:Rel):List L:=[.str r.table,bm r.rows]
def bp (i:cZ):L:=.sl 2 (i.map aH)
def eP (c:da):List L:=[.int .i64 c.kind,.str c.table,cT c.key,cT c.row]
def iu (l:List da):L:=.sl 4 (l.map eP)
theorem vF {α:Type} {e:α→List L} (h:∀x,(e x).map (L.fD 4)=e x) (l:List α):(l.map e).map (fun x=>x.map (L.fD 4))=l.map e:=by
 rw [wP]
 exact u6 fun x _=>h x
theorem mY (l:List fM):(l.map bd).map (fun x=>x.map (L.fD 4))=l.map bd:=vF (fun _=>rfl) l
theorem iF (l:List Row):(l.map cU).map (fun x=>x.map (L.fD 4))=l.map cU:=vF (fun _=>rfl) l
theorem iH (l:List Int):(l.map aX).map (fun x=>x.map (L.fD 4))=l.map aX:=vF (fun _=>rfl) l
theorem mZ (l:List gK):(l.map aT).map (fun x=>x.map (L.fD 4))=l.map aT:=vF (fun _=>rfl) l
theorem iI (l:List au):(l.map ap).map (fun x=>x.map (L.fD 4))=l.map ap:=vF (fun _=>rfl) l
theorem iQ (l:List FK):(l.map aL).map (fun x=>x.map (L.fD 4))=l.map aL:=vF (fun _=>rfl) l
theorem nd (l:List dN):(l.map aK).map (fun x=>x.map (L.fD 4))=l.map aK:=vF (fun _=>rfl) l
theorem ng (l:List Rel):(l.map aH).map (fun x=>x.map (L.fD 4))=l.map aH:=vF (fun _=>rfl) l
theorem nh (l:List da):(l.map eP).map (fun x=>x.map (L.fD 4))=l.map eP:=vF (fun _=>rfl) l
theorem iO (l:List fM):pT (l.map bd)=True:=y9 (fun _=>rfl) l
theorem iJ (l:List Row):pT (l.map cU)=True:=y9 (fun _=>rfl) l
theorem nj (l:List Int):pT (l.map aX)=True:=y9 (fun _=>rfl) l
theorem np (l:List gK):pT (l.map aT)=True:=y9 (fun _=>rfl) l
theorem ie (l:List au):pT (l.map ap)=True:=y9 (fun _=>rfl) l
theorem gW (l:List FK):pT (l.map aL)=True:=y9 (fun _=>rfl) l
theorem iw (l:List dN):pT (l.map aK)=True:=y9 (fun _=>rfl) l
theorem nq (l:List Rel):pT (l.map aH)=True:=y9 (fun _=>rfl) l
theorem nr (l:List da):pT (l.map eP)=True:=y9 (fun _=>rfl) l
abbrev oI (n:Int):V:=.one (.int .i64 n)
abbrev oB (b:Bool):V:=.one (.bool b)
abbrev oS (s:ByteArray):V:=.one (.str s)
theorem EN:(∀(v:fM),bd v=[.int .i64 v.kind,.int .i64 v.int,.str v.text])∧(∀(r:Row),cT r=.sl 3 (r.map bd))∧(∀(r:Row),cU r=[cT r])∧(∀(rs:List Row),bm rs=.sl 1 (rs.map cU))∧(∀(n:Int),aX n=[.int .i64 n])∧(∀(l:List Int),bj l=.sl 1 (l.map aX))∧(∀(c:gK),aT c=[.str c.name,.int .i64 c.kind,.bool c.qt])∧(∀(l:List gK),cS l=.sl 3 (l.map aT))∧(∀(t:au),ap t=[.str t.name,cS t.ae,bj t.pk])∧(∀(l:List au),dW l=.sl 3 (l.map ap))∧(∀(f:FK),aL f=[.str f.table,bj f.ae,.str f.ref])∧(∀(l:List FK),dI l=.sl 3 (l.map aL))∧(∀(c:dN),aK c=[.str c.table,.int .i64 c.left,.str c.op,.int .i64 c.right,.int .i64 c.value.kind,.int .i64 c.value.int,.str c.value.text])∧(∀(l:List dN),dy l=.sl 7 (l.map aK))∧(∀(s:aq),aC s=[dW s.tables,dI s.ak,dy s.cons])∧(∀(r:Rel),aH r=[.str r.table,bm r.rows])∧(∀(i:cZ),bp i=.sl 2 (i.map aH))∧(∀(c:da),eP c=[.int .i64 c.kind,.str c.table,cT c.key,cT c.row])∧(∀(l:List da),iu l=.sl 4 (l.map eP)) :=
 ⟨fun _=>rfl,fun _=>rfl,fun _=>rfl,fun _=>rfl,fun _=>rfl,fun _=>rfl,fun _=>rfl,fun _=>rfl,fun _=>rfl,fun _=>rfl,fun _=>rfl,fun _=>rfl,fun _=>rfl,fun _=>rfl,fun _=>rfl,fun _=>rfl,fun _=>rfl,fun _=>rfl,fun _=>rfl⟩
end Go.Bw
namespace Go.Bw
open Go.RowKit
section
variable {P:Program} {T:TypeId→Option TI} {w0:World} {m0:Mem} {F0:Home} {s s':St} {a:Act} {w:World} {m:Mem} {ω:Wh}
theorem Et {x:Operand} {ty:TypeId} {k:IntKind} {n:Int} (h:CI P w0 m0 F0 s a w m ω) (hx:aE T s ty x=some (.v (.one (.int k n)))):a.eval x=.int k n:=by
 have hv:aM m (a.eval x) (.int k n):=iS h hx
 generalize a.eval x=u at hv ⊢
 cases hv
 rfl
theorem Tn {t e:TypeId} {i j:TI} {x y:Operand} {ty tx:TypeId} {pos:String} {af:Array Edge} {d n:Nat} {k1 k2:IntKind} {z:List L}
  (hn:d<s.n) (hT:gM P t i=true) (he:i.elem=some e) (hE:gM P e j=true) (hz:j.zero=some z) (hzl:z.length=j.size) (h:CI P w0 m0 F0 s a w m ω)
  (hx:aE T s tx x=some (.v (.one (.int k1 (n:Int))))) (hy:aE T s tx y=some (.v (.one (.int k2 (n:Int))))) (hbs:j.bytes * n≤281474976710656) (hm:n≤9223372036854775807) :
  rY P w0 m0 F0 ⟨some d,.makeSlice t x y,ty,pos,af,Option.none⟩ a w (s.appended Option.none d j.size (List.replicate n (z.map L.cP)) []):=by
 have hu:=(iM hT).elem e he
 obtain ⟨inf,zv,g1,g2,g3,_⟩:=(iM hE).zero z hz
 obtain ⟨inf',g4,g5,g6⟩:=(iM hE).info
 rw [g1] at g4
 injection g4 with g4
 subst g4
 have hzs:zv.cells.size=j.size:=by
  have:=(yl (m:=m) zv.cells.toList z g3).1
  simpa [hzl] using this
 have hb':(inf.bytes:Int) * (n:Int)≤281474976710656:=by
  rw [g6]
  have:((j.bytes * n:Nat):Int)≤281474976710656:=by omega
  rwa [Int.natCast_mul] at this
 have hr:=run_make (P:=P) w t e inf zv hu g1 g2 k1 k2 n n (by omega) (AL _) hb' (by omega)
 simp only [bG] at hr
 have hmc:madeCells zv.cells (n * inf.size)=Builtin.zeroCells zv.cells n:=by
  unfold madeCells Builtin.zeroCells
  rw [g5,hzs]
 rw [hmc] at hr
 obtain ⟨z1,z2,z3⟩:=By (m:=m) g3 n
 rw [hzl] at z1 z3
 have hbl:Below w.heap.size w (w.alloc (.cells (Builtin.zeroCells zv.cells n) e)):=(Below.refl _ w).alloc (br _) _
 have hh:(w.alloc (.cells (Builtin.zeroCells zv.cells n) e)).heap[w.heap.size]?=_:=heap_alloc_new w _
 have hsize:=(Array.getElem?_eq_some_iff.1 hh).1
 have hzsz:(Builtin.zeroCells zv.cells n).size=n * j.size:=by rw [←um];exact z1
 obtain ⟨ω',hC,hri,_⟩:=h.Ap (r:=⟨j.size,List.replicate n (z.map L.cP),[]⟩) Option.none d hn ⟨some w.heap.size,n,j.size⟩ (fun q=>q=w.heap.size) (.inl hbl) (fun q hq=>.inr ⟨by omega,by rw [hq];exact hsize⟩) (by
  refine ⟨rfl,fun x hx=>?_,?_⟩
  ·rw [AY hx];simpa using hzl
  ·refine ⟨_,e,hh,hzsz,by simp,⟨by show n≤maxLen;exact hm,fun l hl=>(by cases hl),fun q v hq=>z2 v (by simpa using EJ hq)⟩,rfl,fun _ _ _=>False,(fun i j k hk=>hk.elim),(fun i j i' j' k hk hk'=>hk.elim),fun i' j' u hu=>?_⟩
   show ∃v,_∧eS m _ _ v u
   obtain ⟨v,h1,h2⟩:=z3 _ j' u hu
   exact ⟨v,by rw [←h1,BY],.fr h2⟩)
 have hrun:(execOp a.eval ⟨some d,.makeSlice t x y,ty,pos,af,Option.none⟩).run P w=((Instr.makeSlice t (.int k1 n) (.int k2 n)).run P w).andThen fun v w'=>.ok (.value v) w':=by
  rw [←Et h hx,←Et h hy]
  unfold execOp
  simp only [Sem.run_bind]
  rfl
 refine sj (w':=_) (by rw [hrun,hr];rfl) ?_
 refine ⟨m,ω',hC.put (by rw [Ao];exact hn) ?_⟩
 show rk (ω'.row d) 0 _ _
 rw [hri,yh]
 exact .inr ⟨w.heap.size,⟨w.heap.size,0,none⟩,rfl,by simp,by simp,fun _=>by simp⟩
theorem To (hT:pR P T) {t ty:TypeId} {x y:Operand} {d n:Nat} {pos:String} {af:Array Edge} {K:St→Prop} {j:TI} {z:List L} {k1 k2:IntKind} (hj:dt T t=some j) (hz:j.zero=some z) (hzl:z.length=j.size)
  (hx:aE T s 3 x=some (.v (.one (.int k1 (n:Int))))) (hy:aE T s 3 y=some (.v (.one (.int k2 (n:Int))))) (hbs:j.bytes * n≤281474976710656) (hm:n≤9223372036854775807) (hd:d<s.n) (hK:K (s.appended Option.none d j.size (List.replicate n (z.map L.cP)) [])) :
  ya P ⟨some d,.makeSlice t x y,ty,pos,af,Option.none⟩ s K:=by
 intro w0 m0 F0 a w m ω hC
 obtain ⟨i,e,hi,he,hje,hio,hjo⟩:=wx hT hj
 exact (Tn hd hio he hjo hz hzl hC hx hy hbs hm).follows hK
end
end Go.Bw
namespace Go.Bw
open Go.RowKit
section
variable {P:Program} {T:TypeId→Option TI} {w0:World} {m0:Mem} {F0:Home} {s s':St} {a a':Act} {w w':World} {m m':Mem} {ω ω':Wh} {b:Nat} {ks:List Int}
def Cv (F0:Home) (s:St) (ω:Wh):Home:=⟨fun k=>∃κ id,s.live κ id∧ω.f κ id k,F0.box,F0.row⟩
theorem CI.FE (h:CI P w0 m0 F0 s a w m ω):∀k,(Cv F0 s ω).own k→w0.heap.size≤k∨F0 k:=fun k ⟨κ,id,hl,hf⟩=>(h.fresh κ id hl k hf).2.1
theorem CI.now (h:CI P w0 m0 F0 s a w m ω):CI P w m (Cv F0 s ω) s a w m ω where
 size:=h.size
 defers:=h.defers
 keeps:=uG.refl _ _
 qb:=Mem.le_refl _
 qc:=fun _ _ _=>rfl
 ok:=h.ok
 env:=h.env
 box:=h.box
 row:=h.row
 fresh:=fun κ id hl k hk=>⟨(h.fresh κ id hl k hk).1,.inr ⟨κ,id,hl,hk⟩,(h.fresh κ id hl k hk).2.2⟩
 apart:=h.apart
 home:=⟨h.home.tz,h.home.box,h.home.row⟩
 pL:=h.HT h.FE
theorem CI.back (h:CI P w0 m0 F0 s a w m ω) (h':CI P w m (Cv F0 s ω) s' a' w' m' ω'):CI P w0 m0 F0 s' a' w' m' ω' where
 size:=h'.size
 defers:=h'.defers
 keeps:=h.keeps.chain h'.keeps h.FE
 qb:=Mem.le_trans h.qb h'.qb
 qc:=fun x hx hn=>(h'.qc x (wN hx h.keeps.size) fun hf=>(h.FE _ hf).elim (by omega) hn).trans (h.qc x hx hn)
 ok:=h'.ok
 env:=h'.env
 box:=h'.box
 row:=h'.row
 fresh:=fun κ id hl k hk=>⟨(h'.fresh κ id hl k hk).1,(h'.fresh κ id hl k hk).2.1.elim (fun q=>.inl (pU h.keeps.size q)) (h.FE k),(h'.fresh κ id hl k hk).2.2⟩
 apart:=h'.apart
 home:=⟨h'.home.tz,h'.home.box,h'.home.row⟩
 pL:=h.pL
def yR (ks:List Int):List (Value×Value):=ks.map fun k=>(.int .i64 k,.bool true)
structure yb (w0:World) (s:St) (w:World) (m:Mem) (ω:Wh) (b:Nat) (ks:List Int):Prop where
 new:w0.heap.size≤b
 holds:∃es clk,w.heap[b]?=some (.map es clk)∧es.toList.map (fun e=>(e.key,e.val))=yR ks
 own:∀κ id,s.live κ id→¬ ω.f κ id b
 mem:∀x v,m x=some v→x.block≠b
theorem yb.lt (h:yb w0 s w m ω b ks):b<w.heap.size:=by
 obtain ⟨_,_,h,_⟩:=h.holds
 exact (Array.getElem?_eq_some_iff.1 h).1
theorem yb.back (h:CI P w0 m0 F0 s a w m ω) (hM:yb w0 s w m ω b ks) (h':CI P w m (Cv F0 s ω) s' a' w' m' ω'):yb w0 s' w' m' ω' b ks:=by
 have nb:¬ (Cv F0 s ω).own b:=fun ⟨κ,id,hl,hf⟩=>hM.own κ id hl hf
 have lt:=hM.lt
 refine ⟨hM.new,?_,fun κ id hl hf=>(h'.fresh κ id hl b hf).2.1.elim (by omega) nb,fun x v hx hb=>?_⟩
 ·obtain ⟨es,clk,h1,h2⟩:=hM.holds
  exact ⟨es,clk,(h'.keeps.block b lt nb).trans h1,h2⟩
 ·have e:=h'.qc x (by rw [hb];exact lt) (by rw [hb];exact nb)
  exact hM.mem x v (e▸hx) hb
theorem yb.put (h:yb w0 s w m ω b ks) (d:Option Tmp) (x:A):yb w0 (s.fw d x) w m ω b ks:=by
 cases d<;>exact ⟨h.new,h.holds,h.own,h.mem⟩
def xc (P:Program) (w0:World) (m0:Mem) (F0:Home) (b:Nat) (ks:List Int) (s:St) (a:Act) (w:World):Prop:=∃m ω,CI P w0 m0 F0 s a w m ω∧yb w0 s w m ω b ks
def Ik (P:Program) (w0:World) (m0:Mem) (F0:Home) (b:Nat) (Q:Exit→List Int→St→Prop) (e:Exit) (a:Act) (w:World):Prop:=∃ks s,Q e ks s∧xc P w0 m0 F0 b ks s a w
def sE (P:Program) (w0:World) (m0:Mem) (F0:Home) (b:Nat) (c:Code) (Q:Exit→List Int→St→Prop) (ks:List Int) (s:St):Prop :=
 ∀a w,xc P w0 m0 F0 b ks s a w→c.wp P (Ik P w0 m0 F0 b Q) a w
theorem xc.back (h:CI P w0 m0 F0 s a w m ω) (hM:yb w0 s w m ω b ks) (h':ry P w m (Cv F0 s ω) s' a' w'):xc P w0 m0 F0 b ks s' a' w':=by
 obtain ⟨m',ω',h'⟩:=h'
 exact ⟨m',ω',h.back h',hM.back h h'⟩
section rules
variable {Q:Exit→List Int→St→Prop}
theorem sE.of {c:Code} (h:∀w1 m1 F1,ab P w1 m1 F1 c (fun e s'=>Q e ks s') s):sE P w0 m0 F0 b c Q ks s:=by
 intro a w ⟨m,ω,hC,hM⟩
 refine wp_mono (h _ _ _ a w ⟨m,ω,hC.now⟩) fun e a' w' ⟨s',hq,hC'⟩=>⟨ks,s',hq,xc.back hC hM hC'⟩
def KN (R:List Int→St→Prop) (Q:Exit→List Int→St→Prop):Exit→List Int→St→Prop
 | .normal,ks,s=>R ks s
 | e,ks,s=>Q e ks s
def KO (id:Nat) (Q:Exit→List Int→St→Prop):Exit→List Int→St→Prop
 | .exit id',ks,s=>if id'=id then Q .normal ks s else Q (.exit id') ks s
 | e,ks,s=>Q e ks s
theorem sE.seq {x y:Code} (h:sE P w0 m0 F0 b x (KN (sE P w0 m0 F0 b y Q) Q) ks s):sE P w0 m0 F0 b (.seq x y) Q ks s:=by
 intro a w hc
 refine wp_seq (wp_mono (h a w hc) fun e a' w' he=>?_)
 obtain ⟨ks',s',h1,h2⟩:=he
 cases e with
 | normal=>exact h1 a' w' h2
 | _=>exact ⟨ks',s',h1,h2⟩
theorem sE.block {id:Nat} {c:Code} (h:sE P w0 m0 F0 b c (KO id Q) ks s):sE P w0 m0 F0 b (.block id c) Q ks s:=by
 intro a w hc
 refine wp_block (wp_mono (h a w hc) fun e a' w' he=>?_)
 obtain ⟨ks',s',h1,h2⟩:=he
 cases e with
 | exit id' =>
  simp only [KO] at h1
  simp only [Exit.inBlock]
  split at h1
  ·rename_i hid;rw [if_pos hid];exact ⟨ks',s',h1,h2⟩
  ·rename_i hid;rw [if_neg hid];exact ⟨ks',s',h1,h2⟩
 | _=>exact ⟨ks',s',h1,h2⟩
theorem sE.skip (h:Q .normal ks s):sE P w0 m0 F0 b .skip Q ks s:=fun _ _ hc=>wp_skip ⟨ks,s,h,hc⟩
theorem sE.exit {id:Nat} (h:Q (.exit id) ks s):sE P w0 m0 F0 b (.exit id) Q ks s:=fun _ _ hc=>wp_exit ⟨ks,s,h,hc⟩
theorem sE.cond {c:Operand} {x y:Code} (v:Bool) (hv:eQ (aE T s 0 c)=some v) (h1:v=true→sE P w0 m0 F0 b x Q ks s) (h2:v=false→sE P w0 m0 F0 b y Q ks s):sE P w0 m0 F0 b (.cond c x y) Q ks s:=by
 intro a w hc
 obtain ⟨m,ω,h,hM⟩:=hc
 have he:a.eval c=.bool v:=Fm h (Fh hv)
 exact wp_cond_split he (fun e=>h1 e a w ⟨m,ω,h,hM⟩) (fun e=>h2 e a w ⟨m,ω,h,hM⟩)
theorem xc.le (h:xc P w0 m0 F0 b ks s a w) (hl:St.le s' s):xc P w0 m0 F0 b ks s' a w:=by
 obtain ⟨m,ω,h,hM⟩:=h
 refine ⟨m,ω,h.weaken hl.1 hl.2.1 hl.2.2.1 hl.2.2.2,hM.new,hM.holds,fun κ id hv=>hM.own κ id ?_,hM.mem⟩
 cases κ with
 | false =>
  obtain ⟨x,hx⟩:=Option.isSome_iff_exists.1 hv
  show (look s.box id).isSome
  rw [hl.2.2.1 _ _ hx]
  rfl
 | true =>
  obtain ⟨x,hx⟩:=Option.isSome_iff_exists.1 hv
  show (look s.row id).isSome
  rw [hl.2.2.2 _ _ hx]
  rfl
theorem sE.Dw {c:Code} (hl:St.le s' s) (h:sE P w0 m0 F0 b c Q ks s'):sE P w0 m0 F0 b c Q ks s:=fun a w hc=>h a w (hc.le hl)
theorem sE.loop {ι:Type} {c:Code} (I:ι→List Int×St) (μ:ι→Nat) (i0:ι) (hk:(I i0).1=ks) (h0:St.le (I i0).2 s)
  (round:∀i,sE P w0 m0 F0 b c (KN (fun ks' s'=>∃j,μ j<μ i∧(I j).1=ks'∧St.le (I j).2 s') Q) (I i).1 (I i).2):sE P w0 m0 F0 b (.loop c) Q ks s:=by
 intro a w hc
 have key:∀n i a w,μ i=n→xc P w0 m0 F0 b (I i).1 (I i).2 a w→∀(f:Frame) (k:List Item) (cs:List Frame),
   ∃e a' w',Ik P w0 m0 F0 b Q e a' w'∧Arrives P (lone (f.at a (.code c::.inLoop c::k)) cs w) f k cs e a' w':=by
  intro n
  induction n using Nat.strongRecOn with
  | _ n ih =>
   intro i a w hn hC f k cs
   obtain ⟨e,a₁,w₁,⟨ks1,s1,hq,hc1⟩,harr⟩:=round i a w hC f (.inLoop c::k) cs
   cases e with
   | normal =>
    obtain ⟨j,hlt,hks,hle⟩:=hq
    subst hks
    obtain ⟨e₂,a₂,w₂,hq₂,harr₂⟩:=ih (μ j) (hn▸hlt) j a₁ w₁ rfl (hc1.le hle) f k cs
    exact ⟨e₂,a₂,w₂,hq₂,.of_steps (Steps.trans harr (.one step_inLoop)) harr₂⟩
   | exit id=>exact ⟨_,a₁,w₁,⟨ks1,s1,hq,hc1⟩,.pass (x:=.inLoop c) rfl (fun _ _=>.inl (by simp)) harr⟩
   | goto l=>exact ⟨_,a₁,w₁,⟨ks1,s1,hq,hc1⟩,.pass (x:=.inLoop c) rfl (fun _ _=>.inl (by simp)) harr⟩
   | ret=>exact ⟨_,a₁,w₁,⟨ks1,s1,hq,hc1⟩,.pass (x:=.inLoop c) rfl (fun _ _=>.inl (by simp)) harr⟩
   | panic ch=>exact ⟨_,a₁,w₁,⟨ks1,s1,hq,hc1⟩,.pass (x:=.inLoop c) rfl (fun _ _=>.inl (by simp)) harr⟩
   | outgrown=>exact ⟨_,a₁,w₁,⟨ks1,s1,hq,hc1⟩,.pass (x:=.inLoop c) rfl (fun _ _=>.inl (by simp)) harr⟩
 intro f k cs
 obtain ⟨e,a',w',hq,harr⟩:=key _ i0 a w rfl (hk▸hc.le h0) f k cs
 exact ⟨e,a',w',hq,.of_steps (.one step_loop) harr⟩
theorem sE.at {c:Code} (e0:Exit) (s2:St) (h1:∀w1 m1 F1,ab P w1 m1 F1 c (Gq P w1 m1 F1 fun e s'=>e=e0∧St.le s2 s') s) (h2:Q e0 ks s2):sE P w0 m0 F0 b c Q ks s:=by
 intro a w ⟨m,ω,hC,hM⟩
 refine wp_mono (h1 _ _ _ a w ⟨m,ω,hC.now⟩) fun e a' w' ⟨s',hq,hC'⟩=>?_
 obtain ⟨s'',⟨he,hs⟩,hC2⟩:=hq a' w' hC'
 subst he
 exact ⟨ks,s2,h2,(xc.back hC hM hC2).le hs⟩
end rules
def B4 (P:Program) (t:TypeId):Prop:=∃kt et inf,P.underlying t=some (.map kt et)∧P.underlying kt=some (.int .i64)∧P.info? et=some inf∧inf.zero=some (.bool false)
theorem BD (n:Int):MapKept.IsKey (.int .i64) (.int .i64 n):=by simp [MapKept.IsKey]
theorem Tp {es:List MapEntry} (h:es.map (fun e=>(e.key,e.val))=yR ks):∀x∈es,(∃n∈ks,x.key=.int .i64 n)∧x.val=.bool true:=by
 intro x hx
 have:(x.key,x.val)∈yR ks:=h▸List.mem_map.2 ⟨x,hx,rfl⟩
 obtain ⟨n,hn,e⟩:=List.mem_map.1 this
 injection e with e1 e2
 exact ⟨⟨n,hn,e1.symm⟩,e2.symm⟩
theorem Tq {es:List MapEntry} (h:es.map (fun e=>(e.key,e.val))=yR ks) {n:Int} (hn:n∈ks):∃x∈es,x.key=.int .i64 n:=by
 have:((.int .i64 n,.bool true):Value×Value)∈yR ks:=List.mem_map.2 ⟨n,hn,rfl⟩
 rw [←h] at this
 obtain ⟨x,hx,e⟩:=List.mem_map.1 this
 injection e with e1 e2
 exact ⟨x,hx,e1⟩
theorem Mw {es:List MapEntry} (h:es.map (fun e=>(e.key,e.val))=yR ks) (n:Int) :
  (n ∉ ks∧Instr.findNow (.int .i64) (.int .i64 n) es 0=some none)∨(n∈ks∧∃j e,Instr.findNow (.int .i64) (.int .i64 n) es 0=some (some (j,.bool true))∧es[j]?=some e∧e.key=.int .i64 n∧e.val=.bool true):=by
 have hk:=Tp h
 rcases MapKept.findNow_spec (BD n) es 0 (fun x hx=>by obtain ⟨⟨q,_,e⟩,_⟩:=hk x hx;rw [e];exact BD q) with ⟨h1,h2⟩|⟨j,e,h1,h2,h3⟩
 ·exact .inl ⟨fun hn=>by obtain ⟨x,hx,e⟩:=Tq h hn;exact h2 x hx e,h1⟩
 ·obtain ⟨⟨q,hq,e1⟩,e2⟩:=hk e (List.mem_of_getElem? h2)
  rw [h3] at e1
  injection e1 with _ e1
  subst e1
  exact .inr ⟨hq,j,e,by rw [h1,e2,Nat.zero_add],h2,h3,e2⟩
theorem Tr {t:TypeId} (hT:B4 P t) {es:Array MapEntry} {clk:Nat} (hb:w.heap[b]?=some (.map es clk)) (he:es.toList.map (fun e=>(e.key,e.val))=yR ks) (n:Int) :
  (Instr.lookup t (.map (some b)) (.int .i64 n) false).run P w=.ok (.bool (decide (n∈ks))) w:=by
 obtain ⟨kt,et,inf,h1,h2,h3,h4⟩:=hT
 rcases Mw he n with ⟨hn,hf⟩|⟨hn,j,e,hf,_,_,_⟩
 ·simp [Instr.lookup,run_underlying h1,MapKept.run_getObj_map hb,MapKept.run_checkKey h2 (BD n),MapKept.run_findKey h2 hf,Result.andThen,zeroValue,typeInfo,h3,h4,hn]
 ·simp [Instr.lookup,run_underlying h1,MapKept.run_getObj_map hb,MapKept.run_checkKey h2 (BD n),MapKept.run_findKey h2 hf,Result.andThen,hn]
def ins (ks:List Int) (n:Int):List Int:=if n∈ks then ks else ks++[n]
theorem Mx {ty:TypeId} {x:Operand} {v:Value} (h:CI P w0 m0 F0 s a w m ω) (hx:aE T s ty x=some (.v (.one (.raw v)))):a.eval x=v:=by
 have hv:aM m (a.eval x) (.raw v):=iS h hx
 generalize a.eval x=u at hv ⊢
 cases hv
 rfl
theorem Ts {ty:TypeId} {x:Operand} {v:Bool} (h:CI P w0 m0 F0 s a w m ω) (hx:aE T s ty x=some (.v (.one (.bool v)))):a.eval x=.bool v:=by
 have hv:aM m (a.eval x) (.bool v):=iS h hx
 generalize a.eval x=u at hv ⊢
 cases hv
 rfl
theorem Tt {t:TypeId} (hT:B4 P t) {es:Array MapEntry} {clk:Nat} (hb:w.heap[b]?=some (.map es clk)) (he:es.toList.map (fun e=>(e.key,e.val))=yR ks) (n:Int) :
  ∃es' clk',(Instr.mapUpdate t (.map (some b)) (.int .i64 n) (.bool true)).run P w=.ok () {w with heap:=w.heap.setIfInBounds b (.map es' clk')}∧es'.toList.map (fun e=>(e.key,e.val))=yR (ins ks n):=by
 obtain ⟨kt,et,inf,h1,h2,h3,h4⟩:=hT
 rcases Mw he n with ⟨hn,hf⟩|⟨hn,j,e,hf,hj,hk,hv⟩
 ·refine ⟨es.push ⟨.int .i64 n,.bool true,clk⟩,clk+1,?_,?_⟩
  ·simp [Instr.mapUpdate,run_underlying h1,MapKept.run_getObj_map hb,MapKept.run_checkKey h2 (BD n),MapKept.run_findKey h2 hf,MapKept.run_setObj_map _ hb,Result.andThen]
  ·unfold ins
   rw [if_neg hn]
   simp [yR] at he ⊢
   exact he
 ·have hj':es[j]?=some e:=by simpa using hj
  refine ⟨es.modify j fun e=>{e with key:=.int .i64 n,val:=.bool true},clk,?_,?_⟩
  ·simp [Instr.mapUpdate,run_underlying h1,MapKept.run_getObj_map hb,MapKept.run_checkKey h2 (BD n),MapKept.run_findKey h2 hf,hj',hk,MapKept.run_keyThatStays (BD n),MapKept.run_setObj_map _ hb,Result.andThen]
  ·unfold ins
   rw [if_pos hn,←he]
   apply List.ext_getElem?
   intro i
   simp only [List.getElem?_map,Array.getElem?_toList,Array.getElem?_modify]
   by_cases hij:j=i
   ·subst hij
    rw [if_pos rfl,hj']
    simp [hk,hv]
   ·rw [if_neg hij]
def Tu (P:Program) (T:TypeId→Option TI) (b:Nat) (o:Oper) (s:St) (d:Nat) (n:Int):Prop :=
 o.guard=none∧o.dst=some d∧d<s.n∧∃t x y ty,o.op=.lookup t x y false∧B4 P t∧aE T s 0 x=some (.v (.one (.raw (.map (some b)))))∧aE T s ty y=some (.v (.one (.int .i64 n)))
def Tv (P:Program) (T:TypeId→Option TI) (b:Nat) (o:Oper) (s:St) (n:Int):Prop :=
 o.guard=none∧o.dst=none∧∃t x y z ty ty',o.op=.mapUpdate t x y z∧B4 P t∧aE T s 0 x=some (.v (.one (.raw (.map (some b)))))∧aE T s ty y=some (.v (.one (.int .i64 n)))∧aE T s ty' z=some (.v (.one (.bool true)))
def vo (P:Program) (T:TypeId→Option TI) (b:Nat) (ops:Array Oper):List Oper→List Int→St→(List Int→St→Prop)→Prop
 | [],ks,s,K=>K ks s
 | o::l,ks,s,K=>bL P T ops [o] s (fun s'=>vo P T b ops l ks s' K)∨(∃d n,Tu P T b o s d n∧vo P T b ops l ks (s.put d (.v (.one (.bool (decide (n∈ks)))))) K)∨∃n,Tv P T b o s n∧vo P T b ops l (ins ks n) s K
theorem vo.step {ops:Array Oper} {o:Oper} {l:List Oper} {K:List Int→St→Prop} (h:∀K2:St→Prop,(∀s',vo P T b ops l ks s' K→K2 s')→bL P T ops [o] s K2):vo P T b ops (o::l) ks s K:=.inl (h _ fun _ h=>h)
theorem vo.look {ops:Array Oper} {l:List Oper} {K:List Int→St→Prop} {t ty ty':TypeId} {x y:Operand} {d:Nat} {pos:String} {af:Array Edge} (n:Int) (hT:B4 P t) (hx:aE T s 0 x=some (.v (.one (.raw (.map (some b))))))
  (hy:aE T s ty' y=some (.v (.one (.int .i64 n)))) (hd:d<s.n) (h:vo P T b ops l ks (s.put d (.v (.one (.bool (decide (n∈ks)))))) K):vo P T b ops (⟨some d,.lookup t x y false,ty,pos,af,Option.none⟩::l) ks s K :=
 .inr (.inl ⟨d,n,⟨rfl,rfl,hd,t,x,y,ty',rfl,hT,hx,hy⟩,h⟩)
theorem vo.pY {ops:Array Oper} {l:List Oper} {K:List Int→St→Prop} {t ty ty1 ty2:TypeId} {x y z:Operand} {pos:String} {af:Array Edge} (n:Int) (hT:B4 P t) (hx:aE T s 0 x=some (.v (.one (.raw (.map (some b))))))
  (hy:aE T s ty1 y=some (.v (.one (.int .i64 n)))) (hz:aE T s ty2 z=some (.v (.one (.bool true)))) (h:vo P T b ops l (ins ks n) s K):vo P T b ops (⟨Option.none,.mapUpdate t x y z,ty,pos,af,Option.none⟩::l) ks s K :=
 .inr (.inr ⟨n,⟨rfl,rfl,t,x,y,z,ty1,ty2,rfl,hT,hx,hy,hz⟩,h⟩)
theorem vo.fin {ops:Array Oper} {K:List Int→St→Prop} (h:K ks s):vo P T b ops [] ks s K:=h
theorem C8 (hT:pR P T) {ops:Array Oper} {K:List Int→St→Prop} {Q:Exit→Act→World→Prop} (hQ:∀ks s a w,K ks s→xc P w0 m0 F0 b ks s a w→Q .normal a w) :
  ∀(l:List Oper) (k:Nat) (ks:List Int) (s:St) (a:Act) (w:World),ops.toList.drop k=l→vo P T b ops l ks s K→xc P w0 m0 F0 b ks s a w→wpOps P ops Q (List.range' k l.length) a w
 | [],k,ks,s,a,w,_,hV,hC=>hQ ks s a w hV hC
 | o::l,k,ks,s,a,w,hl,hV,hC=>by
  have hk:ops[k]?=some o:=by
   have:(ops.toList.drop k)[0]?=some o:=by rw [hl];rfl
   simpa [List.getElem?_drop] using this
  have hl':ops.toList.drop (k+1)=l:=by
   have:(ops.toList.drop k).drop 1=l:=by rw [hl];rfl
   simpa [List.drop_drop] using this
  obtain ⟨m,ω,h,hM⟩:=hC
  simp only [List.length_cons,List.range'_succ,wpOps,hk]
  rcases hV with hV|⟨d,n,⟨hg,hd,hdn,t,x,y,ty,zo,hTy,hx,hy⟩,hV⟩|⟨n,⟨hg,hd,t,x,y,z,ty,ty',zo,hTy,hx,hy,hz⟩,hV⟩
  ·simp only [bL] at hV
   split at hV
   ·rename_i hg
    rw [if_pos (uq h hg)]
    exact .inl (Ba hT hV h.now _ _ fun s' a' w' hK hc=>C8 hT hQ l (k+1) ks s' a' w' hl' hK (xc.back h hM hc))
   ·rename_i hg
    rw [if_neg (by rw [uq h hg];simp)]
    obtain ⟨h1,h2⟩:=yM hV
    exact C8 hT hQ l (k+1) ks _ _ w hl' h2 ⟨m,ω,h.fw h1 w7,hM.put _ _⟩
   ·cases hV
  ·have hw:Region.wanted o (yielded ops a.tmps)=true:=by simp [Region.wanted,hg]
   rw [if_pos hw]
   obtain ⟨es,clk,hb,he⟩:=hM.holds
   have hrun:(execOp a.eval o).run P w=.ok (.value (.bool (decide (n∈ks)))) w:=by
    unfold execOp
    simp only [zo,Mx h hx,Et h hy,Sem.run_bind,Tr hTy hb he n,Result.andThen_ok,Sem.run_pure]
   exact .inl (sj (R:=fun v w'=>v=.bool (decide (n∈ks))∧w'=w) hrun ⟨rfl,rfl⟩ _ _ fun v w' ⟨hv,hw'⟩=>by
    subst hv hw'
    rw [hd]
    exact C8 hT hQ l (k+1) ks _ _ _ hl' hV ⟨m,ω,h.put hdn (aM.bool _),hM.put (some d) _⟩)
  ·have hw:Region.wanted o (yielded ops a.tmps)=true:=by simp [Region.wanted,hg]
   rw [if_pos hw]
   obtain ⟨es,clk,hb,he⟩:=hM.holds
   obtain ⟨es',clk',hr,he'⟩:=Tt hTy hb he n
   have lt:=hM.lt
   have hgr:w.grownBy {w with heap:=w.heap.setIfInBounds b (.map es' clk')} (some b) :=
    ⟨rfl,rfl,rfl,by simp,fun k hk hne=>(MapKept.heap_set hb).2 k (fun e=>hne (by rw [e]))⟩
   have hM':∀u:Unit,yb w0 s {w with heap:=w.heap.setIfInBounds b (.map es' clk')} m ω b (ins ks n):=fun _=>⟨hM.new,⟨es',clk',(MapKept.heap_set hb).1,he'⟩,hM.own,hM.mem⟩
   have hC':=h.DC hgr (.inl hM.new) hM.own hM.mem
   refine .inl ?_
   unfold Oper.wp
   have hrun:(execOp a.eval o).run P w=.ok .skip {w with heap:=w.heap.setIfInBounds b (.map es' clk')}:=by
    unfold execOp
    simp only [zo,Mx h hx,Et h hy,Ts h hz,Sem.run_bind,hr,Result.andThen_ok,Sem.run_pure]
   rw [hrun,Oper.upon_skip]
   rw [hd]
   exact C8 hT hQ l (k+1) _ _ _ _ hl' hV ⟨m,ω,hC',hM' ()⟩
theorem sE.region (hT:pR P T) {id:Nat} {Q:Exit→List Int→St→Prop} {l:List Oper} (h:∀K:List Int→St→Prop,(∀ks' s',Q .normal ks' s'→K ks' s')→vo P T b l.toArray l ks s K):sE P w0 m0 F0 b (.region id l.toArray false) Q ks s:=by
 intro a w hc
 refine wp_region ?_
 have:=C8 hT (ops:=l.toArray) (K:=Q .normal) (Q:=Ik P w0 m0 F0 b Q) (fun ks s a w h1 h2=>⟨ks,s,h1,h2⟩) l 0 ks s a w (by simp) (h _ fun _ _ h=>h) hc
 have hlen:l.length=l.toArray.size:=by simp
 rwa [←List.range_eq_range',hlen] at this
end
end Go.Bw
namespace Go.Bw
open Go.RowKit
section
variable {P:Program} {T:TypeId→Option TI} {w0:World} {m0:Mem} {F0:Home} {s:St} {Q:Exit→St→Prop} {c:Code}
def B5 (P:Program) (w0:World) (m0:Mem) (F0:Home) (c:Code) (Q:Exit→St→Prop) (s:St):Prop :=
 ∀a w,ry P w0 m0 F0 s a w→∀(b:Frame) (k:List Item) (cs:List Frame),∃e a' w',Aa P w0 m0 F0 Q e a' w'∧Arrives P (lone (b.at a (.code c::.inLoop c::k)) cs w) b k cs e a' w'
theorem B5.round (h:ab P w0 m0 F0 c (wz (B5 P w0 m0 F0 c Q) Q) s):B5 P w0 m0 F0 c Q s:=by
 intro a w hc b k cs
 obtain ⟨e,a₁,w₁,⟨s1,hq,hc1⟩,harr⟩:=h a w hc b (.inLoop c::k) cs
 cases e with
 | normal =>
  obtain ⟨e₂,a₂,w₂,hq₂,harr₂⟩:=hq a₁ w₁ hc1 b k cs
  exact ⟨e₂,a₂,w₂,hq₂,.of_steps (Steps.trans harr (.one step_inLoop)) harr₂⟩
 | exit id=>exact ⟨_,a₁,w₁,⟨s1,hq,hc1⟩,.pass (x:=.inLoop c) rfl (fun _ _=>.inl (by simp)) harr⟩
 | goto l=>exact ⟨_,a₁,w₁,⟨s1,hq,hc1⟩,.pass (x:=.inLoop c) rfl (fun _ _=>.inl (by simp)) harr⟩
 | ret=>exact ⟨_,a₁,w₁,⟨s1,hq,hc1⟩,.pass (x:=.inLoop c) rfl (fun _ _=>.inl (by simp)) harr⟩
 | panic ch=>exact ⟨_,a₁,w₁,⟨s1,hq,hc1⟩,.pass (x:=.inLoop c) rfl (fun _ _=>.inl (by simp)) harr⟩
 | outgrown=>exact ⟨_,a₁,w₁,⟨s1,hq,hc1⟩,.pass (x:=.inLoop c) rfl (fun _ _=>.inl (by simp)) harr⟩
theorem B5.Dw {s':St} (hl:St.le s' s) (h:B5 P w0 m0 F0 c Q s'):B5 P w0 m0 F0 c Q s:=fun a w hc=>h a w (hc.le hl)
end
end Go.Bw
namespace Go.Bw
open Go.RowKit
section
variable {P:Program} {T:TypeId→Option TI} {w0:World} {m0:Mem} {F0:Home} {s:St} {a:Act} {w:World} {m:Mem} {ω:Wh} {Q:Exit→St→Prop} {c:Code}
theorem CI.GG (h:CI P w0 m0 F0 s a w m ω) {id i j:Nat} {r:aN} (hr:look s.row id=some r) (hi:i<r.xs.length) :
  CI P w0 m0 F0 {s with row:=bz id ⟨r.sz,setCell r.xs i j .any,wE i j r.ov⟩ s.row} a w m ω:=by
 refine h.Fu hr ?_
 obtain ⟨q1,q2,q3⟩:=h.row id r hr
 refine ⟨q1,If q2,?_⟩
 cases hb:(ω.row id).sT with
 | none =>
  rw [hb] at q3
  exfalso
  rw [q3.1] at hi
  simp at hi
 | some b =>
  rw [hb] at q3
  obtain ⟨cs,e,k1,k2,k3,k4,k5,G,k6,k7,k8⟩:=q3
  refine ⟨cs,e,k1,k2,by simpa [Cu] using k3,⟨k4.1,fun l hl=>?_,k4.2.2⟩,k5,G,k6,k7,fun i' j' u hu=>?_⟩
  ·simp only [Cu] at hl ⊢
   rw [BA,if_neg (by omega)] at hl
   exact k4.2.1 l hl
  ·simp only at hu ⊢
   rw [BA]
   rcases Mr hu with ⟨rfl,rfl,rfl⟩|⟨hn,hu'⟩
   ·rw [if_pos ⟨rfl,rfl⟩]
    have hj:j'<r.sz:=(Ax (If q2) hu).2
    have hx:r.xs[i'].length=r.sz:=q2 _ (bl hi)
    have hc:cellOf r.xs i' j'=some (r.xs[i'][j']'(by omega)):=by simp [cellOf,hi,hx,hj]
    obtain ⟨v,h1,h2⟩:=k8 i' j' _ hc
    refine ⟨v,h1,.fr (.any _ ?_)⟩
    cases ho:aP r.ov i' j' with
    | none=>rw [ho] at h2;exact eS.pN h2
    | some l=>rw [ho] at h2;exact bi.pN h2
   ·rw [if_neg hn]
    exact k8 i' j' u hu'
theorem ab.GG (id i j:Nat) {r:aN} (hr:look s.row id=some r) (hi:i<r.xs.length) (h:ab P w0 m0 F0 c Q {s with row:=bz id ⟨r.sz,setCell r.xs i j .any,wE i j r.ov⟩ s.row}):ab P w0 m0 F0 c Q s:=fun a w ⟨_,_,hC⟩ =>
 h a w ⟨_,_,hC.GG hr hi⟩
end
end Go.Bw
namespace Go.Bw
open Go.RowKit
section
variable {P:Program} {T:TypeId→Option TI} {s:St}
theorem TA {t t' ty e e':TypeId} (ht:P.underlying t=some (.slice e)) (ht':P.underlying t'=some (.slice e')) (args:Array Value) (w:World):(Builtin.append_ #[t,t'] ty args).run P w=(Builtin.append_ #[t,t] ty args).run P w:=by
 unfold Builtin.append_
 simp only [gB,c8,dr]
 cases h0:args[0]? with
 | none=>rfl
 | some x =>
  cases h1:args[1]? with
  | none=>rfl
  | some y =>
   simp only [Sem.run_bind,run_underlying ht,run_underlying ht',Result.andThen_ok]
   cases x<;>first|rfl|simp only [Sem.run_bind,Sem.run_pure,run_underlying ht,run_underlying ht',Result.andThen_ok]
theorem ya.TB (hT:pR P T) {ops:Array Oper} {t t' ty e e':TypeId} {x y:Operand} {d:Option Tmp} {pos:String} {af:Array Edge} {K:St→Prop} (ht:P.underlying t=some (.slice e)) (ht':P.underlying t'=some (.slice e'))
  (h:∀K2:St→Prop,(∀s',K s'→K2 s')→bL P T ops [⟨d,.call ⟨.builtin .append,#[x,y],#[t,t]⟩,ty,pos,af,none⟩] s K2):ya P ⟨d,.call ⟨.builtin .append,#[x,y],#[t,t']⟩,ty,pos,af,none⟩ s K:=by
 intro w0 m0 F0 a w m ω hC next Q hn
 have h0:dc P T ⟨d,.call ⟨.builtin .append,#[x,y],#[t,t]⟩,ty,pos,af,none⟩ s K:=h K fun _ q=>q
 have:=Ba hT h0 hC next Q hn
 unfold Oper.wp at this ⊢
 have e1:(execOp a.eval ⟨d,.call ⟨.builtin .append,#[x,y],#[t,t']⟩,ty,pos,af,none⟩).run P w=(execOp a.eval ⟨d,.call ⟨.builtin .append,#[x,y],#[t,t]⟩,ty,pos,af,none⟩).run P w:=by
  unfold execOp
  simp only [resolve,invoke,Sem.run_bind,Sem.run_pure,Result.andThen_ok,builtin,TA ht ht']
 rw [e1]
 exact this
end
end Go.Bw
namespace Go.Bw
open Go.RowKit
section
variable {P:Program} {T:TypeId→Option TI} {w0:World} {m0:Mem} {F0:Home} {s s':St} {a:Act} {w w':World} {m:Mem} {ω:Wh}
theorem bi.wD {m:Mem} {ω:Wh} (f:Bool→Nat→Nat→Prop) {v:Value} {l:L} (h:bi m ω v l):bi m {ω with f:=f} v l:=by
 cases l<;>exact h
theorem sJ.wD {m:Mem} {ω:Wh} (f:Bool→Nat→Nat→Prop) {v:Value} {x:V} (h:sJ m ω v x):sJ m {ω with f:=f} v x:=by
 cases x with
 | one l=>exact bi.wD f h
 | agg ls=>obtain ⟨cs,h1,h2,h3⟩:=h;exact ⟨cs,h1,h2,fun j l hl=>let ⟨u,h4,h5⟩:=h3 j l hl;⟨u,h4,h5.wD f⟩⟩
theorem sO.wD {m:Mem} {ω:Wh} (f:Bool→Nat→Nat→Prop) {v:Value} {x:A} (h:sO m ω v x):sO m {ω with f:=f} v x:=by
 cases x with
 | v x=>exact sJ.wD f h
 | cR xs=>obtain ⟨vs,h1,h2,h3⟩:=h;exact ⟨vs,h1,h2,fun j x hx=>let ⟨u,h4,h5⟩:=h3 j x hx;⟨u,h4,h5.wD f⟩⟩
theorem sP.wD {m:Mem} {w:World} {ω:Wh} (f:Bool→Nat→Nat→Prop) {G:Nat→Prop} {v:Value} {l:L} (h:sP m w ω G v l):sP m w {ω with f:=f} G v l:=by
 rcases h.cases with ⟨sz,xs,rfl,h⟩|⟨_,h⟩|⟨t,q,rfl,h⟩
 ·exact h
 ·exact (h.wD f).Cj
 ·exact h
theorem sQ.wD {m:Mem} {w:World} {ω:Wh} (f:Bool→Nat→Nat→Prop) {G:Nat→Prop} {v:Value} {u:L} {o:Option L} (h:sQ m w ω G v u o):sQ m w {ω with f:=f} G v u o:=by
 cases o with
 | none=>exact h
 | some l=>exact bi.wD (ω:=ω) f h
theorem CI.S8 (h:CI P w0 m0 F0 s a w m ω) {id:Nat} {ls0 ls:List L} (hb:look s.box id=some ls0)
  (hos:w'.os=w.os) (htp:w'.tape=w.tape) (hout:w'.output=w.output) (hsz:w.heap.size≤w'.heap.size) (hk:∀k,k<w.heap.size→¬ ω.f false id k→w'.heap[k]?=w.heap[k]?)
  {cs:Array Value} {e:TypeId} (hh:w'.heap[ω.box id]?=some (.cells cs e (0,0))) (hs:cs.size=ls.length) (G:Nat→Nat→Prop)
  (hG:∀j k,G j k→(ω.f false id k∨(w.heap.size≤k∧k<w'.heap.size))∧k≠ω.box id) (hD:∀j j' k,G j k→G j' k→j=j')
  (hc:∀(j:Nat) (l:L),ls[j]?=some l→∃v,cs[j]?=some v∧sP m w' ω (G j) v l) :
  ∃ω',CI P w0 m0 F0 {s with box:=bz id ls s.box} a w' m ω'∧ω'.box=ω.box∧ω'.row=ω.row:=by
 obtain ⟨cs0,e0,g1,g2,g3,_⟩:=h.box id ls0 hb
 have hlive:s.live false id:=by show (look s.box id).isSome;rw [hb];rfl
 have hf:=h.fresh false id hlive
 have hl':∀κ i,({s with box:=bz id ls s.box}:St).live κ i→s.live κ i:=by
  intro κ i hl
  cases κ with
  | true=>exact hl
  | false =>
   simp only [St.live] at hl ⊢
   rw [yk] at hl
   split at hl
   ·rename_i e;subst e;rw [hb];rfl
   ·exact hl
 let f':Bool→Nat→Nat→Prop:=fun κ i k=>ω.f κ i k∨(κ=false∧i=id∧w.heap.size≤k∧k<w'.heap.size)
 have hlt:∀κ i,s.live κ i→∀k,ω.f κ i k→k<w.heap.size:=fun κ i hl k hk=>(h.fresh κ i hl k hk).1
 have hf':∀κ i,¬ (κ=false∧i=id)→f' κ i=ω.f κ i:=fun κ i hn=>by
  funext k
  simp only [f',JK]
  exact ⟨fun h=>h.elim (fun h=>h) fun h=>absurd ⟨h.1,h.2.1⟩ hn,fun h=>.inl h⟩
 refine ⟨{ω with f:=f'},?_,rfl,rfl⟩
 refine {size:=h.size,defers:=h.defers,keeps:=⟨hos.trans h.keeps.os,htp.trans h.keeps.tape,hout.trans h.keeps.output,pU h.keeps.size hsz,fun k h1 h2=>?_⟩,qb:=h.qb,qc:=h.qc,ok:=fun x v hx=>?_,env:=fun t x hx=>(h.env t x hx).wD f',box:=?_,row:=?_,fresh:=?_,apart:=?_,home:=⟨h.home.tz,fun i b hb' hi=>h.home.box i b hb' (hl' false i hi),h.home.row⟩,pL:=h.pL}
 ·have hk1:k<w.heap.size:=wN h1 h.keeps.size
  rw [hk k hk1 fun hw=>by
   rcases (hf k hw).2.1 with h3|h3
   ·omega
   ·exact h2 h3]
  exact h.keeps.block k h1 h2
 ·have hx':=h.ok x v hx
  rw [World.cell?_of_block (hk x.block (World.block_lt_of_cell? w x hx') fun hw=>(hf _ hw).2.2 x v hx rfl)]
  exact hx'
 ·intro i l hi
  simp only at hi
  rw [yk] at hi
  split at hi
  ·rename_i e'
   injection hi with hi
   subst hi;subst e'
   exact ⟨cs,e,hh,hs,.inl g3,G,fun j k hj=>⟨(hG j k hj).1.imp (fun q=>q) fun q=>⟨rfl,rfl,q.1,q.2⟩,(hG j k hj).2⟩,hD,fun j l hj=>let ⟨v,h1,h2⟩:=hc j l hj;⟨v,h1,h2.wD f'⟩⟩
  ·rename_i hne
   obtain ⟨cs1,e1,k1,k2,k3,G1,k4,k5,k6⟩:=h.box i l hi
   have hli:s.live false i:=by show (look s.box i).isSome;rw [hi];rfl
   have keep:∀k,ω.f false i k→w'.heap[k]?=w.heap[k]?:=fun k hw=>hk k (hlt _ _ hli k hw) fun hw'=>hne (h.apart _ _ _ _ hli hlive k hw hw').2
   refine ⟨cs1,e1,(keep _ k3).trans k1,k2,.inl k3,G1,fun j k hj=>⟨.inl (k4 j k hj).1,(k4 j k hj).2⟩,k5,fun j u hj=>?_⟩
   obtain ⟨v,q1,q2⟩:=k6 j u hj
   exact ⟨v,q1,(q2.keep (Mem.le_refl m) fun k hw=>keep k (k4 j k hw).1).wD f'⟩
 ·intro i r hi
  have hli:s.live true i:=by show (look s.row i).isSome;rw [hi];rfl
  have keep:∀k,ω.f true i k→w'.heap[k]?=w.heap[k]?:=fun k hw=>hk k (hlt _ _ hli k hw) fun hw'=>by cases (h.apart _ _ _ _ hli hlive k hw hw').1
  obtain ⟨q1,q2,q3⟩:=h.row i r hi
  refine ⟨q1,q2,?_⟩
  revert q3
  show (match (ω.row i).sT with|Option.none=>_|some b=>_)→(match (ω.row i).sT with|Option.none=>_|some b=>_)
  cases hblk:(ω.row i).sT with
  | none=>exact fun q3=>q3
  | some b =>
   intro q3
   obtain ⟨cs1,e1,k1,k2,k3,k4,k5,G1,k6,k7,k8⟩:=q3
   refine ⟨cs1,e1,(keep _ k5).trans k1,k2,k3,k4,.inl k5,G1,fun i' j k hj=>⟨.inl (k6 i' j k hj).1,(k6 i' j k hj).2⟩,k7,fun i' j u hj=>?_⟩
   obtain ⟨v,p1,p2⟩:=k8 i' j u hj
   exact ⟨v,p1,(p2.keep (Mem.le_refl m) fun k hw=>keep k (k6 i' j k hw).1).wD f'⟩
 ·intro κ i hl k hw
  rcases hw with hw|⟨rfl,rfl,h1,h2⟩
  ·obtain ⟨p1,p2,p3⟩:=h.fresh κ i (hl' κ i hl) k hw
   exact ⟨wN p1 hsz,p2,p3⟩
  ·refine ⟨h2,.inl (pU h.keeps.size h1),fun x v hx e=>?_⟩
   have:=World.block_lt_of_cell? w x (h.ok x v hx)
   omega
 ·intro κ i κ' i' hl hl2 k hw hw'
  have l1:=hl' κ i hl
  have l2:=hl' κ' i' hl2
  rcases hw with hw|⟨rfl,rfl,h1,h2⟩<;>rcases hw' with hw'|⟨rfl,rfl,h3,h4⟩
  ·exact h.apart κ i κ' i' l1 l2 k hw hw'
  ·have:=hlt _ _ l1 k hw;omega
  ·have:=hlt _ _ l2 k hw';omega
  ·exact ⟨rfl,rfl⟩
end
end Go.Bw
namespace Go.Bw
open Go.Proofs
attribute [go_sem ↓] jU jV ku kv j9 jZ j4 j5 j6 j8 j7 kk kc ke ki kj km jW jX ko kw kA kB bS bT kE kD bU kF bV bW bX kG kH kI bY bZ kJ cd kK kL cg cj kM kN kO kP ck cp cq cr kQ kR kS cu cv kT kU kV kW cw cz cA cB cC cD cE cF cG cH cI cJ ld lg lh cK cL lv lx ly lz lG lH lI lJ lL lN lP l9 ma mb mc me mi mj mm mo mn mq mr mu mw my mz mC mD mE mG mH mI mJ mK mL mM mN mP be bO bQ bR gY iU
attribute [go_sem] fy iC jY beq_true pu iK gC bS bT bU bV bW bX bY bZ cd cg cj ck cp cq cr cu cv gf gg cw cz cA cB cC cD cE cF cG cH cI cJ kX kY kZ cK cL ll lQ lS lV lW lY lZ l5 l7 gk mf mh mQ mW mX eU eK mR mU mS mV L.kl L.eX L.ids L.dK eE aE gP be bO iV iW iX iY iZ bQ bR look_nil iT bz ja jc jd je St.fx aN.kill jf rowOf fP fq fF aP eB gh fJ jH jI dS A.map V.map L.dx L.fp L.aV L.fo L.dQ L.norm L.flat jJ jK jL jM jN jO jP L.cP L.dH L.kd fQ fX dE fA fW oneOf eQ fI fT fE fU fY isSlice gd fZ nL dt dR eN fV gH ia gu gJ fg gI gw cY dT dB placesOf dp chunks dP ff iE ez fv jg jh ji jk jl jm jn jo jq jr js jt jv jz jy hY gZ gV jw jx jA jB jC jD jE jF jG aJ aI aW aZ bM bP bI bw bA pv pw c8 dr dA eo pz dV c9 pA dw dL dO pq pD im iq dJ dv Option.some.injEq pE iA if_true if_false de true_and and_true and_self cN eJ bg bG pF gU gB fO gL pG pH fi fB br ij il iL fN bd cT cU bm aX bj aT cS ap dW aL dI aK dy aC aH bp eP iu iD bJ iP jT du mY iF iH mZ iI iQ nd ng nh jQ jR jS L.fS iO iJ nj np ie gW iw nq nr nu nv ny nz nD nE nF nG nH nI nJ nK nM nN nP nQ nR nS nU nV nW nY nZ n9 od oe og oh oi oj om oo oq ot ou ow ox oy oz oA oC oD oE oF oG oH oJ oK oL oM oN oO oP oQ oR oT oU oV oW oX oY oZ o0 o6 o7 o8 o9 pd pe pg ph pi pj po
attribute [congr] bL.congr cQ.congr dc.congr bF.congr pk.congr dM.congr eH.congr eG.congr fK.congr fL.congr fC.congr eC.congr eF.congr eD.congr eY.congr eZ.congr fj.congr
structure Ex (p:Prop):Prop where
 e:p
structure Gl (p:Prop):Prop where
 g:p
structure Bo (a b:Prop):Prop where
 x:a
 y:b
structure Im (p:Prop) (a:p→Prop):Prop where
 f:∀h:p,a h
theorem Im.i {p:Prop} {a:p→Prop} (h:Im p a):∀h:p,a h:=h.f
theorem Z0:Ex True:=⟨trivial⟩
inductive Nl:Prop|mk
theorem Zb {a b:Prop} (x:a) (y:b):Bo a b:=⟨x,y⟩
theorem Zn:Nl:=.mk
theorem Zm {p:Prop} {a:p→Prop} (h:∀h:p,a h):Im p a:=⟨h⟩
structure Kw (p:Prop):Prop where
 f:p
theorem Zk {p:Prop} (h:p):Kw p:=⟨h⟩
structure Kx (p:Prop):Prop where
 f:p
theorem Zx {p:Prop} (h:p):Kx p:=⟨h⟩
inductive Cc (a A P:Prop):Prop|mk
abbrev OT:=Cc Nl Nl Nl
abbrev OU:=Cc Nl Nl OT
abbrev OV:=Cc Nl Nl OU
abbrev OW:=Cc Nl Nl OV
abbrev OX:=Cc Nl Nl OW
abbrev OY:=Cc Nl Nl OX
abbrev OZ:=Cc Nl Nl OY
abbrev O0:=Cc Nl Nl OZ
abbrev O1:=Cc Nl Nl O0
abbrev O3:=Cc Nl Nl O1
abbrev O4:=Cc Nl Nl O3
abbrev Ch (T1 R1 T2 R2 T3 R3 T4 R4 T5 R5 T6 R6 T7 R7 T8 R8 T9 R9 T10 R10 T11 R11 T12 R12:Prop):=Cc T1 R1 (Cc T2 R2 (Cc T3 R3 (Cc T4 R4 (Cc T5 R5 (Cc T6 R6 (Cc T7 R7 (Cc T8 R8 (Cc T9 R9 (Cc T10 R10 (Cc T11 R11 (Cc T12 R12 Nl)))))))))))
theorem Ch.e1 {a1 A1 P:Prop} (h:Gl (Bo a1 A1)) (_:Cc a1 A1 P):a1:=h.g.x
theorem Ch.e2 {a1 a2 A2 P:Prop} (h:Gl (Bo a1 (Bo a2 A2))) (_:Cc a1 (Bo a2 A2) (Cc a2 A2 P)):a2:=h.g.y.x
theorem Ch.e3 {a1 a2 a3 A3 P:Prop} (h:Gl (Bo a1 (Bo a2 (Bo a3 A3)))) (_:Cc a1 (Bo a2 (Bo a3 A3)) (Cc a2 (Bo a3 A3) (Cc a3 A3 P))):a3:=h.g.y.y.x
theorem Ch.e4 {a1 a2 a3 a4 A4 P:Prop} (h:Gl (Bo a1 (Bo a2 (Bo a3 (Bo a4 A4))))) (_:Cc a1 (Bo a2 (Bo a3 (Bo a4 A4))) (Cc a2 (Bo a3 (Bo a4 A4)) (Cc a3 (Bo a4 A4) (Cc a4 A4 P)))):a4:=h.g.y.y.y.x
theorem Ch.e5 {a1 a2 a3 a4 a5 A5 P:Prop} (h:Gl (Bo a1 (Bo a2 (Bo a3 (Bo a4 (Bo a5 A5)))))) (_:Cc a1 (Bo a2 (Bo a3 (Bo a4 (Bo a5 A5)))) (Cc a2 (Bo a3 (Bo a4 (Bo a5 A5))) (Cc a3 (Bo a4 (Bo a5 A5)) (Cc a4 (Bo a5 A5) (Cc a5 A5 P))))):a5:=h.g.y.y.y.y.x
theorem Ch.e6 {a1 a2 a3 a4 a5 a6 A6 P:Prop} (h:Gl (Bo a1 (Bo a2 (Bo a3 (Bo a4 (Bo a5 (Bo a6 A6))))))) (_:Cc a1 (Bo a2 (Bo a3 (Bo a4 (Bo a5 (Bo a6 A6))))) (Cc a2 (Bo a3 (Bo a4 (Bo a5 (Bo a6 A6)))) (Cc a3 (Bo a4 (Bo a5 (Bo a6 A6))) (Cc a4 (Bo a5 (Bo a6 A6)) (Cc a5 (Bo a6 A6) (Cc a6 A6 P)))))):a6:=h.g.y.y.y.y.y.x
theorem Ch.e7 {a1 a2 a3 a4 a5 a6 a7 A7 P:Prop} (h:Gl (Bo a1 (Bo a2 (Bo a3 (Bo a4 (Bo a5 (Bo a6 (Bo a7 A7)))))))) (_:Cc a1 (Bo a2 (Bo a3 (Bo a4 (Bo a5 (Bo a6 (Bo a7 A7)))))) (Cc a2 (Bo a3 (Bo a4 (Bo a5 (Bo a6 (Bo a7 A7))))) (Cc a3 (Bo a4 (Bo a5 (Bo a6 (Bo a7 A7)))) (Cc a4 (Bo a5 (Bo a6 (Bo a7 A7))) (Cc a5 (Bo a6 (Bo a7 A7)) (Cc a6 (Bo a7 A7) (Cc a7 A7 P))))))):a7:=h.g.y.y.y.y.y.y.x
theorem Ch.e8 {a1 a2 a3 a4 a5 a6 a7 a8 A8 P:Prop} (h:Gl (Bo a1 (Bo a2 (Bo a3 (Bo a4 (Bo a5 (Bo a6 (Bo a7 (Bo a8 A8))))))))) (_:Cc a1 (Bo a2 (Bo a3 (Bo a4 (Bo a5 (Bo a6 (Bo a7 (Bo a8 A8))))))) (Cc a2 (Bo a3 (Bo a4 (Bo a5 (Bo a6 (Bo a7 (Bo a8 A8)))))) (Cc a3 (Bo a4 (Bo a5 (Bo a6 (Bo a7 (Bo a8 A8))))) (Cc a4 (Bo a5 (Bo a6 (Bo a7 (Bo a8 A8)))) (Cc a5 (Bo a6 (Bo a7 (Bo a8 A8))) (Cc a6 (Bo a7 (Bo a8 A8)) (Cc a7 (Bo a8 A8) (Cc a8 A8 P)))))))):a8:=h.g.y.y.y.y.y.y.y.x
theorem Ch.e9 {a1 a2 a3 a4 a5 a6 a7 a8 a9 A9 P:Prop} (h:Gl (Bo a1 (Bo a2 (Bo a3 (Bo a4 (Bo a5 (Bo a6 (Bo a7 (Bo a8 (Bo a9 A9)))))))))) (_:Cc a1 (Bo a2 (Bo a3 (Bo a4 (Bo a5 (Bo a6 (Bo a7 (Bo a8 (Bo a9 A9)))))))) (Cc a2 (Bo a3 (Bo a4 (Bo a5 (Bo a6 (Bo a7 (Bo a8 (Bo a9 A9))))))) (Cc a3 (Bo a4 (Bo a5 (Bo a6 (Bo a7 (Bo a8 (Bo a9 A9)))))) (Cc a4 (Bo a5 (Bo a6 (Bo a7 (Bo a8 (Bo a9 A9))))) (Cc a5 (Bo a6 (Bo a7 (Bo a8 (Bo a9 A9)))) (Cc a6 (Bo a7 (Bo a8 (Bo a9 A9))) (Cc a7 (Bo a8 (Bo a9 A9)) (Cc a8 (Bo a9 A9) (Cc a9 A9 P))))))))):a9:=h.g.y.y.y.y.y.y.y.y.x
theorem Ch.Xu {a1 a2 a3 a4 a5 a6 a7 a8 a9 a10 A10 P:Prop} (h:Gl (Bo a1 (Bo a2 (Bo a3 (Bo a4 (Bo a5 (Bo a6 (Bo a7 (Bo a8 (Bo a9 (Bo a10 A10))))))))))) (_:Cc a1 (Bo a2 (Bo a3 (Bo a4 (Bo a5 (Bo a6 (Bo a7 (Bo a8 (Bo a9 (Bo a10 A10))))))))) (Cc a2 (Bo a3 (Bo a4 (Bo a5 (Bo a6 (Bo a7 (Bo a8 (Bo a9 (Bo a10 A10)))))))) (Cc a3 (Bo a4 (Bo a5 (Bo a6 (Bo a7 (Bo a8 (Bo a9 (Bo a10 A10))))))) (Cc a4 (Bo a5 (Bo a6 (Bo a7 (Bo a8 (Bo a9 (Bo a10 A10)))))) (Cc a5 (Bo a6 (Bo a7 (Bo a8 (Bo a9 (Bo a10 A10))))) (Cc a6 (Bo a7 (Bo a8 (Bo a9 (Bo a10 A10)))) (Cc a7 (Bo a8 (Bo a9 (Bo a10 A10))) (Cc a8 (Bo a9 (Bo a10 A10)) (Cc a9 (Bo a10 A10) (Cc a10 A10 P)))))))))):a10:=h.g.y.y.y.y.y.y.y.y.y.x
theorem Ch.Xv {a1 a2 a3 a4 a5 a6 a7 a8 a9 a10 a11 A11 P:Prop} (h:Gl (Bo a1 (Bo a2 (Bo a3 (Bo a4 (Bo a5 (Bo a6 (Bo a7 (Bo a8 (Bo a9 (Bo a10 (Bo a11 A11)))))))))))) (_:Cc a1 (Bo a2 (Bo a3 (Bo a4 (Bo a5 (Bo a6 (Bo a7 (Bo a8 (Bo a9 (Bo a10 (Bo a11 A11)))))))))) (Cc a2 (Bo a3 (Bo a4 (Bo a5 (Bo a6 (Bo a7 (Bo a8 (Bo a9 (Bo a10 (Bo a11 A11))))))))) (Cc a3 (Bo a4 (Bo a5 (Bo a6 (Bo a7 (Bo a8 (Bo a9 (Bo a10 (Bo a11 A11)))))))) (Cc a4 (Bo a5 (Bo a6 (Bo a7 (Bo a8 (Bo a9 (Bo a10 (Bo a11 A11))))))) (Cc a5 (Bo a6 (Bo a7 (Bo a8 (Bo a9 (Bo a10 (Bo a11 A11)))))) (Cc a6 (Bo a7 (Bo a8 (Bo a9 (Bo a10 (Bo a11 A11))))) (Cc a7 (Bo a8 (Bo a9 (Bo a10 (Bo a11 A11)))) (Cc a8 (Bo a9 (Bo a10 (Bo a11 A11))) (Cc a9 (Bo a10 (Bo a11 A11)) (Cc a10 (Bo a11 A11) (Cc a11 A11 P))))))))))):a11:=h.g.y.y.y.y.y.y.y.y.y.y.x
theorem Ch.Xw {a1 a2 a3 a4 a5 a6 a7 a8 a9 a10 a11 a12 A12 P:Prop} (h:Gl (Bo a1 (Bo a2 (Bo a3 (Bo a4 (Bo a5 (Bo a6 (Bo a7 (Bo a8 (Bo a9 (Bo a10 (Bo a11 (Bo a12 A12))))))))))))) (_:Cc a1 (Bo a2 (Bo a3 (Bo a4 (Bo a5 (Bo a6 (Bo a7 (Bo a8 (Bo a9 (Bo a10 (Bo a11 (Bo a12 A12))))))))))) (Cc a2 (Bo a3 (Bo a4 (Bo a5 (Bo a6 (Bo a7 (Bo a8 (Bo a9 (Bo a10 (Bo a11 (Bo a12 A12)))))))))) (Cc a3 (Bo a4 (Bo a5 (Bo a6 (Bo a7 (Bo a8 (Bo a9 (Bo a10 (Bo a11 (Bo a12 A12))))))))) (Cc a4 (Bo a5 (Bo a6 (Bo a7 (Bo a8 (Bo a9 (Bo a10 (Bo a11 (Bo a12 A12)))))))) (Cc a5 (Bo a6 (Bo a7 (Bo a8 (Bo a9 (Bo a10 (Bo a11 (Bo a12 A12))))))) (Cc a6 (Bo a7 (Bo a8 (Bo a9 (Bo a10 (Bo a11 (Bo a12 A12)))))) (Cc a7 (Bo a8 (Bo a9 (Bo a10 (Bo a11 (Bo a12 A12))))) (Cc a8 (Bo a9 (Bo a10 (Bo a11 (Bo a12 A12)))) (Cc a9 (Bo a10 (Bo a11 (Bo a12 A12))) (Cc a10 (Bo a11 (Bo a12 A12)) (Cc a11 (Bo a12 A12) (Cc a12 A12 P)))))))))))):a12:=h.g.y.y.y.y.y.y.y.y.y.y.y.x
theorem Ch.f0:Cc Nl Nl O4:=.mk
theorem Ch.f1 {a1:Prop}:Cc a1 Nl O4:=.mk
theorem Ch.f2 {a1 A1 a2:Prop}:Cc a1 A1 (Cc a2 Nl O3):=.mk
theorem Ch.f3 {a1 A1 a2 A2 a3:Prop}:Cc a1 A1 (Cc a2 A2 (Cc a3 Nl O1)):=.mk
theorem Ch.f4 {a1 A1 a2 A2 a3 A3 a4:Prop}:Cc a1 A1 (Cc a2 A2 (Cc a3 A3 (Cc a4 Nl O0))):=.mk
theorem Ch.f5 {a1 A1 a2 A2 a3 A3 a4 A4 a5:Prop}:Cc a1 A1 (Cc a2 A2 (Cc a3 A3 (Cc a4 A4 (Cc a5 Nl OZ)))):=.mk
theorem Ch.f6 {a1 A1 a2 A2 a3 A3 a4 A4 a5 A5 a6:Prop}:Cc a1 A1 (Cc a2 A2 (Cc a3 A3 (Cc a4 A4 (Cc a5 A5 (Cc a6 Nl OY))))):=.mk
theorem Ch.f7 {a1 A1 a2 A2 a3 A3 a4 A4 a5 A5 a6 A6 a7:Prop}:Cc a1 A1 (Cc a2 A2 (Cc a3 A3 (Cc a4 A4 (Cc a5 A5 (Cc a6 A6 (Cc a7 Nl OX)))))):=.mk
theorem Ch.f8 {a1 A1 a2 A2 a3 A3 a4 A4 a5 A5 a6 A6 a7 A7 a8:Prop}:Cc a1 A1 (Cc a2 A2 (Cc a3 A3 (Cc a4 A4 (Cc a5 A5 (Cc a6 A6 (Cc a7 A7 (Cc a8 Nl OW))))))):=.mk
theorem Ch.f9 {a1 A1 a2 A2 a3 A3 a4 A4 a5 A5 a6 A6 a7 A7 a8 A8 a9:Prop}:Cc a1 A1 (Cc a2 A2 (Cc a3 A3 (Cc a4 A4 (Cc a5 A5 (Cc a6 A6 (Cc a7 A7 (Cc a8 A8 (Cc a9 Nl OV)))))))):=.mk
theorem Ch.f10 {a1 A1 a2 A2 a3 A3 a4 A4 a5 A5 a6 A6 a7 A7 a8 A8 a9 A9 a10:Prop}:Cc a1 A1 (Cc a2 A2 (Cc a3 A3 (Cc a4 A4 (Cc a5 A5 (Cc a6 A6 (Cc a7 A7 (Cc a8 A8 (Cc a9 A9 (Cc a10 Nl OU))))))))):=.mk
theorem Ch.f11 {a1 A1 a2 A2 a3 A3 a4 A4 a5 A5 a6 A6 a7 A7 a8 A8 a9 A9 a10 A10 a11:Prop}:Cc a1 A1 (Cc a2 A2 (Cc a3 A3 (Cc a4 A4 (Cc a5 A5 (Cc a6 A6 (Cc a7 A7 (Cc a8 A8 (Cc a9 A9 (Cc a10 A10 (Cc a11 Nl OT)))))))))):=.mk
theorem Ch.f12 {a1 A1 a2 A2 a3 A3 a4 A4 a5 A5 a6 A6 a7 A7 a8 A8 a9 A9 a10 A10 a11 A11 a12:Prop}:Cc a1 A1 (Cc a2 A2 (Cc a3 A3 (Cc a4 A4 (Cc a5 A5 (Cc a6 A6 (Cc a7 A7 (Cc a8 A8 (Cc a9 A9 (Cc a10 A10 (Cc a11 A11 (Cc a12 Nl Nl))))))))))):=.mk
inductive Sp:Nat→Prop|mk (n:Nat):Sp n
theorem Zs (n:Nat):Sp n:=.mk n
inductive Dx:Nat→List (Nat×Nat)→List (Nat×List (Nat×Nat)×List (Nat×Nat))→List Nat→Nat→Prop|mk (n:Nat) (a:List (Nat×Nat)) (b:List (Nat×List (Nat×Nat)×List (Nat×Nat))) (c:List Nat) (d:Nat):Dx n a b c d
theorem Zd (n:Nat) (a:List (Nat×Nat)) (b:List (Nat×List (Nat×Nat)×List (Nat×Nat))) (c:List Nat) (d:Nat):Dx n a b c d:=.mk n a b c d
inductive Iq:ik→ik→ik→ik→List Nat→List Nat→List Nat→List Nat→Prop→Prop|mk (a b c d:ik) (e f g h:List Nat) {p:Prop} (q:p):Iq a b c d e f g h p
theorem Zi (a b c d:ik) (e f g h:List Nat) {p:Prop} (q:p):Iq a b c d e f g h p:=.mk a b c d e f g h q
theorem Iq.c {a b c d:ik} {e f g h:List Nat} {p:Prop} (q:Iq a b c d e f g h p):p:=by cases q;assumption
theorem Z1 {a:Prop} (a1:a):Ex (a∧True):=⟨a1,trivial⟩
theorem Z2 {a b:Prop} (a1:a) (b1:b):Ex (a∧b∧True):=⟨a1,b1,trivial⟩
theorem Z3 {a b c:Prop} (a1:a) (b1:b) (c1:c):Ex (a∧b∧c∧True):=⟨a1,b1,c1,trivial⟩
theorem Z4 {a b c d:Prop} (a1:a) (b1:b) (c1:c) (d1:d):Ex (a∧b∧c∧d∧True):=⟨a1,b1,c1,d1,trivial⟩
theorem Z5 {a b c d e:Prop} (a1:a) (b1:b) (c1:c) (d1:d) (e1:e):Ex (a∧b∧c∧d∧e∧True):=⟨a1,b1,c1,d1,e1,trivial⟩
theorem Z6 {a b c d e f:Prop} (a1:a) (b1:b) (c1:c) (d1:d) (e1:e) (f1:f):Ex (a∧b∧c∧d∧e∧f∧True):=⟨a1,b1,c1,d1,e1,f1,trivial⟩
theorem Z7 {a b c d e f g:Prop} (a1:a) (b1:b) (c1:c) (d1:d) (e1:e) (f1:f) (g1:g):Ex (a∧b∧c∧d∧e∧f∧g∧True):=⟨a1,b1,c1,d1,e1,f1,g1,trivial⟩
theorem Z8 {a b c d e f g h:Prop} (a1:a) (b1:b) (c1:c) (d1:d) (e1:e) (f1:f) (g1:g) (h1:h):Ex (a∧b∧c∧d∧e∧f∧g∧h∧True):=⟨a1,b1,c1,d1,e1,f1,g1,h1,trivial⟩
theorem Z9 {a b c d e f g h i:Prop} (a1:a) (b1:b) (c1:c) (d1:d) (e1:e) (f1:f) (g1:g) (h1:h) (i1:i):Ex (a∧b∧c∧d∧e∧f∧g∧h∧i∧True):=⟨a1,b1,c1,d1,e1,f1,g1,h1,i1,trivial⟩
theorem Z10 {a b c d e f g h i j:Prop} (a1:a) (b1:b) (c1:c) (d1:d) (e1:e) (f1:f) (g1:g) (h1:h) (i1:i) (j1:j):Ex (a∧b∧c∧d∧e∧f∧g∧h∧i∧j∧True):=⟨a1,b1,c1,d1,e1,f1,g1,h1,i1,j1,trivial⟩
theorem Z11 {a b c d e f g h i j k:Prop} (a1:a) (b1:b) (c1:c) (d1:d) (e1:e) (f1:f) (g1:g) (h1:h) (i1:i) (j1:j) (k1:k):Ex (a∧b∧c∧d∧e∧f∧g∧h∧i∧j∧k∧True):=⟨a1,b1,c1,d1,e1,f1,g1,h1,i1,j1,k1,trivial⟩
theorem Z12 {a b c d e f g h i j k l:Prop} (a1:a) (b1:b) (c1:c) (d1:d) (e1:e) (f1:f) (g1:g) (h1:h) (i1:i) (j1:j) (k1:k) (l1:l):Ex (a∧b∧c∧d∧e∧f∧g∧h∧i∧j∧k∧l∧True):=⟨a1,b1,c1,d1,e1,f1,g1,h1,i1,j1,k1,l1,trivial⟩
section
variable {P:Program} {T:TypeId→Option TI} {w0:World} {m0:Mem} {F0:Home} {s:St}
theorem rS {n:Nat} (_:Sp n) {ops:Array Oper} {d:Bool} {Q:Exit→St→Prop} (h:ab P w0 m0 F0 (.region n ops d) Q s):ab P w0 m0 F0 (.region n ops d) Q s:=h
theorem dG {id dep:Nat} {sq:List (Nat×Nat)} {sx:List (Nat×List (Nat×Nat)×List (Nat×Nat))} {ce:List Nat} (_:Dx id sq sx ce dep) (hT:pR P T) (hm:P.follows .mixedOrders=true) {Q:Exit→St→Prop} {l:List Oper}
  (h:∀K2:St→Prop,(∀s',(∀K:St→Prop,(∀s',Q .normal s'→K s')→an P T l.toArray (yo l sx) s' K)→K2 s')→cQ P T l.toArray (bb l sq) s K2) (hord:ce.Pairwise (·<·):=by decide) (hchk:wj l.toArray l.toArray.size dep=true:=by kernel_rfl) (hch:Ct l.toArray ce dep=true:=by kernel_rfl)
  (h1:Bz l.toArray ce dep=bb l sq:=by kernel_rfl) (h2:yO l.toArray ce dep [] ce=yo l sx:=by kernel_rfl):ab P w0 m0 F0 (.region id l.toArray true) Q s:=ab.Mn hT hm sq sx ce dep hord hchk hch h1 h2 h
theorem iG {ops:Array Oper} {d:Option Tmp} {l:List Oper} {K:St→Prop} {f:FuncId} {xs ys:List V} {bx bx':qJ} {rw rw':Rows} {r:A} {σb σr τb τr:ik} {kb kr ib ir:List Nat}
  (q:Iq σb σr τb τr kb kr ib ir (db P f ys bx rw r bx' rw')) (gs:(sH σb&&sH σr&&sH τb&&sH τr&&w8 σb bx&&w8 σr rw&&yn s.n σb τb bx'&&yn s.n σr τr rw'&&ys.all (okV σb σr))=true)
  (hd:s8 σb τb=kb∧s8 σr τr=kr∧ui σb τb=ib∧ui σr τr=ir) (hx:ys.map (V.map (L.ids σb σr))=xs) (hin:x9 s σb σr bx∧xU s σr rw)
  (hk:s.rO d∧bL P T ops l ((ET s kb kr ib ir (eU τb τr bx') (eK τb τr rw')).fw d (r.map (L.ids τb τr))) K):ai P T ops d l s K (f,xs):=ai.io σb σr τb τr kb kr ib ir q.c gs hd hx hin hk
end
section
variable {T1 R1 T2 R2 T3 R3 T4 R4 T5 R5 T6 R6 T7 R7 T8 R8 T9 R9 T10 R10 T11 R11 T12 R12:Prop}
theorem FC {G B:Prop} (h:Gl B) (r:Ch T1 R1 T2 R2 T3 R3 T4 R4 T5 R5 T6 R6 T7 R7 T8 R8 T9 R9 T10 R10 T11 R11 T12 R12) (k:Gl B→Ch T1 R1 T2 R2 T3 R3 T4 R4 T5 R5 T6 R6 T7 R7 T8 R8 T9 R9 T10 R10 T11 R11 T12 R12→G:=by
 intro h r
 first|with_reducible exact Ch.e1 h r|with_reducible exact Ch.e2 h r|with_reducible exact Ch.e3 h r|with_reducible exact Ch.e4 h r|with_reducible exact Ch.e5 h r|with_reducible exact Ch.e6 h r|with_reducible exact Ch.e7 h r|with_reducible exact Ch.e8 h r|with_reducible exact Ch.e9 h r|with_reducible exact Ch.Xu h r|with_reducible exact Ch.Xv h r|with_reducible exact Ch.Xw h r|fail):G:=k h r
theorem FT (k:Ch T1 R1 T2 R2 T3 R3 T4 R4 T5 R5 T6 R6 T7 R7 T8 R8 T9 R9 T10 R10 T11 R11 T12 R12:=by first|with_reducible exact Ch.f0|with_reducible exact Ch.f1|with_reducible exact Ch.f2|with_reducible exact Ch.f3|with_reducible exact Ch.f4|with_reducible exact Ch.f5|with_reducible exact Ch.f6|with_reducible exact Ch.f7|with_reducible exact Ch.f8|with_reducible exact Ch.f9|with_reducible exact Ch.f10|with_reducible exact Ch.f11|with_reducible exact Ch.f12|fail):Ch T1 R1 T2 R2 T3 R3 T4 R4 T5 R5 T6 R6 T7 R7 T8 R8 T9 R9 T10 R10 T11 R11 T12 R12:=k
end
theorem JC {A B C X:Prop} (c:Ex C) (x:Ex X) (h:B) (k:Ex C→Ex X→Gl B→A:=by
 intro c x h
 first|((first|((with_reducible refine ai.is ?_);(first|refine ai.pure (c.e.1 ..) ?_|refine ai.pure (c.e.2.1 ..) ?_|refine ai.pure (c.e.2.2.1 ..) ?_|refine ai.pure (c.e.2.2.2.1 ..) ?_|refine ai.pure (c.e.2.2.2.2.1 ..) ?_|refine ai.pure (c.e.2.2.2.2.2.1 ..) ?_|((apply ai.cO);(focus (simp -dsimp (disch:=first|exact D|fail) only [go_sem,↓reduceIte,seval,av,x.e];rfl));(focus (first|exact (c.e.1 ..)|exact (c.e.2.1 ..)|exact (c.e.2.2.1 ..)|exact (c.e.2.2.2.1 ..)|exact (c.e.2.2.2.2.1 ..)|exact (c.e.2.2.2.2.2.1 ..)|fail)))|fail))|((with_reducible refine bH.is ?_);(first|refine bH.intro (c.e.1 ..) ?_|refine bH.intro (c.e.2.1 ..) ?_|refine bH.intro (c.e.2.2.1 ..) ?_|refine bH.intro (c.e.2.2.2.1 ..) ?_|refine bH.intro (c.e.2.2.2.2.1 ..) ?_|refine bH.intro (c.e.2.2.2.2.2.1 ..) ?_|fail))|fail);with_reducible exact h.g)|fail):A:=k c x ⟨h⟩
theorem ZE {f:FuncId} {fn:Func} {c:Code} {xs:List V} {r:A} {N:Nat} {B:Prop} (hf:Tryz.prog.funcs[f]?=some fn) (e:fn.ntmps=N) (h:B) (hb:fn.body=some c:=by exact rfl) (hn:(fn.name=="runtime.NumGoroutine")=false:=by kernel_rfl) (hx:xs.length≤fn.ntmps∧fn.ntmps≤1000:=by exact ⟨gQ rfl,gQ rfl⟩) (k:Ex (fn.ntmps=N)→Gl B→∀w0 m0 F0,ab Tryz.prog w0 m0 F0 c (aR TT fn [] [] r [] []) {n:=fn.ntmps,env:=bK 0 xs,box:=[],row:=[]}:=by
 intro e h
 simp only [e.e,bK,Nat.reduceAdd]
 with_reducible exact h.g):Sat Tryz.prog f xs r :=
 sS ah hf (k ⟨e⟩ ⟨h⟩) hb hn hx
theorem ZM (kb kr:List Nat) {f:FuncId} {fn:Func} {c:Code} {xs:List V} {bx bx1:qJ} {rw rw1:Rows} {r:A} {N:Nat} {B:Prop} (hf:Tryz.prog.funcs[f]?=some fn) (e:fn.ntmps=N) (h:B) (hb:fn.body=some c:=by exact rfl) (hn:(fn.name=="runtime.NumGoroutine")=false:=by kernel_rfl) (hx:xs.length≤fn.ntmps∧fn.ntmps≤1000:=by exact ⟨gQ rfl,gQ rfl⟩) (k:Ex (fn.ntmps=N)→Gl B→∀w0 m0 F0,ab Tryz.prog w0 m0 F0 c (aR TT fn kb kr r bx1 rw1) {n:=fn.ntmps,env:=bK 0 xs,box:=bx,row:=rw}:=by
 intro e h
 simp only [e.e,bK,Nat.reduceAdd]
 with_reducible exact h.g):db Tryz.prog f xs bx rw r bx1 rw1 :=
 sM ah kb kr hf (k ⟨e⟩ ⟨h⟩) hb hn hx
theorem ZL {A X:Prop} (x:Ex X) (k:Ex X→A:=by
 intro x
 refine St.bN ?_ ?_ ?_<;>simp only [LE,EN,Nat.reduceEqDiff,reduceIte,Nat.reduceSub,x.e]):A:=k x
theorem ZN {A X:Prop} (x:Ex X) (k:Ex X→A:=by
 intro x
 refine St.bN ?_ ?_ ?_<;>simp only [LE,EN,Nat.reduceEqDiff,reduceIte,Nat.reduceSub,bA,bP,bI,cN,uX,dn,aJ,aI,sV,aW,c9,tP,wZ,vP,zn,tw,av,aZ,bM,bw,yh,GB,x.e]):A:=k x
theorem ZQ {A X:Prop} (x:Ex X) (k:Ex X→A:=by
 intro x
 simp -dsimp (disch:=first|exact D|fail) only [aR,x.e,aQ,aS,aO,St.rest,St.freeze,RT,go_sem,↓reduceIte,seval]):A:=k x
theorem ZR {A B X:Prop} (x:Ex X) (h:B) (k:Ex X→Gl B→A:=by
 intro x h
 simp -dsimp (disch:=first|exact D|fail) only [aR,x.e,aQ,aS,aO,St.rest,St.freeze,RT,go_sem,↓reduceIte,seval]
 with_reducible exact h.g):A:=k x ⟨h⟩
theorem ZS {A B X:Prop} (x:Ex X) (h:B) (k:Ex X→Gl B→A:=by
 intro x h
 simp -dsimp (disch:=first|exact D|fail) only [go_sem,↓reduceIte,seval,RT,St.rest,St.freeze,av,x.e]
 with_reducible exact h.g):A:=k x ⟨h⟩
theorem ZT {A B X:Prop} (x:Ex X) (h:B) (k:Ex X→Gl B→A:=by
 intro x h
 simp -dsimp (disch:=first|exact D|fail) only [go_sem,↓reduceIte,seval,tC,L.c7,L.sg,av,x.e]
 with_reducible exact h.g):A:=k x ⟨h⟩
theorem ZU {A B X:Prop} (x:Ex X) (h:B) (k:Ex X→Gl B→A:=by
 intro x h
 simp -dsimp (disch:=first|exact D|fail) only [go_sem,↓reduceIte,seval,av,x.e]
 with_reducible exact h.g):A:=k x ⟨h⟩
theorem ZV {A B X C DD II T1 R1 T2 R2 T3 R3 T4 R4 T5 R5 T6 R6 T7 R7 T8 R8 T9 R9 T10 R10 T11 R11 T12 R12 : Prop} (x : Ex X) (c : Ex C) (d : Ex DD) (i : Ex II) (h : B) (k : Ex X → Ex C → Ex DD → Ex II → Ch T1 R1 T2 R2 T3 R3 T4 R4 T5 R5 T6 R6 T7 R7 T8 R8 T9 R9 T10 R10 T11 R11 T12 R12 → Gl B → A := by
  intro x c d i r h
  repeat' (first
    | ((first
      | ((fail_if_success (refine rS d.e.1 ?_)); (with_reducible refine qV ah fun KZ hKZ => ?_))
      | (refine dG d.e.1 ah mixed fun KZ hKZ => ?_; simp only [SG, bb] at hKZ ⊢)
      | (refine dG d.e.2.1 ah mixed fun KZ hKZ => ?_; simp only [SG, bb] at hKZ ⊢)
      | (refine dG d.e.2.2.1 ah mixed fun KZ hKZ => ?_; simp only [SG, bb] at hKZ ⊢)
      | (refine dG d.e.2.2.2.1 ah mixed fun KZ hKZ => ?_; simp only [SG, bb] at hKZ ⊢)
      | (refine dG d.e.2.2.2.2.1 ah mixed fun KZ hKZ => ?_; simp only [SG, bb] at hKZ ⊢)
      | (refine dG d.e.2.2.2.2.2.1 ah mixed fun KZ hKZ => ?_; simp only [SG, bb] at hKZ ⊢)
      | refine Q2 ?_
      | ((with_reducible refine ai.is ?_); (first | refine iG i.e.1 rfl ⟨rfl, rfl, rfl, rfl⟩ ?_ ?_ ?_ | refine iG i.e.2.1 rfl ⟨rfl, rfl, rfl, rfl⟩ ?_ ?_ ?_ | refine iG i.e.2.2.1 rfl ⟨rfl, rfl, rfl, rfl⟩ ?_ ?_ ?_))
      | refine JC c x ?_
      | (with_reducible first | refine an.some fun KZ hKZ => ?_ | refine an.step fun KZ hKZ => ?_ | refine c6.some fun KZ hKZ => ?_ | refine c6.step fun KZ hKZ => ?_)
      | fail) <;> simp -dsimp (disch := first | exact D | fail) only [go_sem, ↓reduceIte, seval, av, x.e])
    | ((with_reducible refine hKZ _ ?_); clear hKZ KZ)
    | (with_reducible refine hK _ ?_)
    | (with_reducible refine Ag.mk ?_ ?_)
    | (with_reducible first | refine an.intro fun KY hKY => ?_ | refine c6.intro fun KY hKY => ?_)
    | ((with_reducible first | refine an.fin ?_ | refine c6.fin ?_); first | ((refine hKY _ ?_); clear hKY KY) | (refine hK0 _ ?_))
    | (with_reducible first | refine an.quiet ?_ | refine an.none ?_ | refine c6.none ?_)
    | ((with_reducible refine an.keep ?_ ?_); focus ((simp -dsimp (disch := first | exact D | fail) only [go_sem, ↓reduceIte, seval, av, gE, gD, gF, gG, x.e]; first | done | exact E | fail)))
    | ((with_reducible refine c6.fork (fun KZ hKZ => ?_) ?_); (focus (simp -dsimp (disch := first | exact D | fail) only [go_sem, ↓reduceIte, seval, av, x.e])))
    | refine Q1 ?_
    | ((with_reducible refine qW (T := TT) (b := ?_) ?_ ?_); rotate_left; exact rfl)
    | fail)
  all_goals (repeat (first | (revert hZ; refine Im.i ?_) | (revert hKZ; revert KZ; refine Kw.f ?_) | (revert hKY; revert KY; refine Kx.f ?_)))
  first
    | (with_reducible exact h.g; done)
    | (all_goals exact FC h r)) (t : Ch T1 R1 T2 R2 T3 R3 T4 R4 T5 R5 T6 R6 T7 R7 T8 R8 T9 R9 T10 R10 T11 R11 T12 R12 := by exact FT) : A := k x c d i t ⟨h⟩
theorem YQ {A B X C DD II T1 R1 T2 R2 T3 R3 T4 R4 T5 R5 T6 R6 T7 R7 T8 R8 T9 R9 T10 R10 T11 R11 T12 R12 : Prop} (x : Ex X) (c : Ex C) (d : Ex DD) (i : Ex II) (h : B) (k : Ex X → Ex C → Ex DD → Ex II → Ch T1 R1 T2 R2 T3 R3 T4 R4 T5 R5 T6 R6 T7 R7 T8 R8 T9 R9 T10 R10 T11 R11 T12 R12 → Gl B → A := by
  intro x c d i r h
  repeat' (first
    | ((first
      | ((fail_if_success (refine rS d.e.1 ?_)); (with_reducible refine qV ah fun KZ hKZ => ?_))
      | (refine dG d.e.1 ah mixed fun KZ hKZ => ?_; simp only [SG, bb] at hKZ ⊢)
      | (refine dG d.e.2.1 ah mixed fun KZ hKZ => ?_; simp only [SG, bb] at hKZ ⊢)
      | (refine dG d.e.2.2.1 ah mixed fun KZ hKZ => ?_; simp only [SG, bb] at hKZ ⊢)
      | (refine dG d.e.2.2.2.1 ah mixed fun KZ hKZ => ?_; simp only [SG, bb] at hKZ ⊢)
      | (refine dG d.e.2.2.2.2.1 ah mixed fun KZ hKZ => ?_; simp only [SG, bb] at hKZ ⊢)
      | (refine dG d.e.2.2.2.2.2.1 ah mixed fun KZ hKZ => ?_; simp only [SG, bb] at hKZ ⊢)
      | refine Q2 ?_
      | ((with_reducible refine ai.is ?_); (first | refine iG i.e.1 rfl ⟨rfl, rfl, rfl, rfl⟩ ?_ ?_ ?_ | refine iG i.e.2.1 rfl ⟨rfl, rfl, rfl, rfl⟩ ?_ ?_ ?_ | refine iG i.e.2.2.1 rfl ⟨rfl, rfl, rfl, rfl⟩ ?_ ?_ ?_))
      | refine JC c x ?_
      | with_reducible refine an.Qd ah fun KZ hKZ => ?_
      | (with_reducible first | refine an.some fun KZ hKZ => ?_ | refine an.step fun KZ hKZ => ?_ | refine c6.some fun KZ hKZ => ?_ | refine c6.step fun KZ hKZ => ?_)
      | fail) <;> simp -dsimp (disch := first | exact D | fail) only [go_sem, ↓reduceIte, seval, av, x.e])
    | ((with_reducible refine hKZ _ ?_); clear hKZ KZ)
    | (with_reducible refine hK _ ?_)
    | (with_reducible refine Ag.mk ?_ ?_)
    | (with_reducible first | refine an.intro fun KY hKY => ?_ | refine c6.intro fun KY hKY => ?_)
    | ((with_reducible first | refine an.fin ?_ | refine c6.fin ?_); first | ((refine hKY _ ?_); clear hKY KY) | (refine hK0 _ ?_))
    | (with_reducible first | refine an.quiet ?_ | refine an.none ?_ | refine c6.none ?_)
    | ((with_reducible refine an.keep ?_ ?_); focus ((simp -dsimp (disch := first | exact D | fail) only [go_sem, ↓reduceIte, seval, av, gE, gD, gF, gG, x.e]; first | done | exact E | fail)))
    | ((with_reducible refine c6.fork (fun KZ hKZ => ?_) ?_); (focus (simp -dsimp (disch := first | exact D | fail) only [go_sem, ↓reduceIte, seval, av, x.e])))
    | refine Q1 ?_
    | ((with_reducible refine qW (T := TT) (b := ?_) ?_ ?_); rotate_left; exact rfl)
    | fail)
  all_goals (repeat (first | (revert hZ; refine Im.i ?_) | (revert hKZ; revert KZ; refine Kw.f ?_) | (revert hKY; revert KY; refine Kx.f ?_)))
  first
    | (with_reducible exact h.g; done)
    | (all_goals exact FC h r)) (t : Ch T1 R1 T2 R2 T3 R3 T4 R4 T5 R5 T6 R6 T7 R7 T8 R8 T9 R9 T10 R10 T11 R11 T12 R12 := by exact FT) : A := k x c d i t ⟨h⟩
theorem rC {A B X C DD II T1 R1 T2 R2 T3 R3 T4 R4 T5 R5 T6 R6 T7 R7 T8 R8 T9 R9 T10 R10 T11 R11 T12 R12 : Prop} (x : Ex X) (c : Ex C) (d : Ex DD) (i : Ex II) (h : B) (k : Ex X → Ex C → Ex DD → Ex II → Ch T1 R1 T2 R2 T3 R3 T4 R4 T5 R5 T6 R6 T7 R7 T8 R8 T9 R9 T10 R10 T11 R11 T12 R12 → Gl B → A := by
  intro x c d i r h
  repeat' (first
    | ((first
      | ((fail_if_success (refine rS d.e.1 ?_)); (with_reducible refine qV ah fun KZ hKZ => ?_))
      | (refine dG d.e.1 ah mixed fun KZ hKZ => ?_; simp only [SG, bb] at hKZ ⊢)
      | (refine dG d.e.2.1 ah mixed fun KZ hKZ => ?_; simp only [SG, bb] at hKZ ⊢)
      | (refine dG d.e.2.2.1 ah mixed fun KZ hKZ => ?_; simp only [SG, bb] at hKZ ⊢)
      | (refine dG d.e.2.2.2.1 ah mixed fun KZ hKZ => ?_; simp only [SG, bb] at hKZ ⊢)
      | (refine dG d.e.2.2.2.2.1 ah mixed fun KZ hKZ => ?_; simp only [SG, bb] at hKZ ⊢)
      | (refine dG d.e.2.2.2.2.2.1 ah mixed fun KZ hKZ => ?_; simp only [SG, bb] at hKZ ⊢)
      | refine Q2 ?_
      | ((with_reducible first | refine qS ?_ ?_ | refine qT ?_ ?_ | refine qU ?_ ?_) <;> (intro hZ; try simp only [NM] at hZ))
      | ((with_reducible refine ai.is ?_); (first | refine iG i.e.1 rfl ⟨rfl, rfl, rfl, rfl⟩ ?_ ?_ ?_ | refine iG i.e.2.1 rfl ⟨rfl, rfl, rfl, rfl⟩ ?_ ?_ ?_ | refine iG i.e.2.2.1 rfl ⟨rfl, rfl, rfl, rfl⟩ ?_ ?_ ?_))
      | refine JC c x ?_
      | (with_reducible first | refine an.some fun KZ hKZ => ?_ | refine an.step fun KZ hKZ => ?_ | refine c6.some fun KZ hKZ => ?_ | refine c6.step fun KZ hKZ => ?_)
      | fail) <;> simp -dsimp (disch := first | exact D | fail) only [go_sem, ↓reduceIte, seval, av, x.e])
    | ((with_reducible refine hKZ _ ?_); clear hKZ KZ)
    | (with_reducible refine hK _ ?_)
    | (with_reducible refine Ag.mk ?_ ?_)
    | (with_reducible first | refine an.intro fun KY hKY => ?_ | refine c6.intro fun KY hKY => ?_)
    | ((with_reducible first | refine an.fin ?_ | refine c6.fin ?_); first | ((refine hKY _ ?_); clear hKY KY) | (refine hK0 _ ?_))
    | (with_reducible first | refine an.quiet ?_ | refine an.none ?_ | refine c6.none ?_)
    | ((with_reducible refine an.keep ?_ ?_); focus ((simp -dsimp (disch := first | exact D | fail) only [go_sem, ↓reduceIte, seval, av, gE, gD, gF, gG, x.e]; first | done | exact E | fail)))
    | ((with_reducible refine c6.fork (fun KZ hKZ => ?_) ?_); (focus (simp -dsimp (disch := first | exact D | fail) only [go_sem, ↓reduceIte, seval, av, x.e])))
    | refine Q1 ?_
    | ((with_reducible refine qW (T := TT) (b := ?_) ?_ ?_); rotate_left; exact rfl)
    | ((with_reducible refine yS ?_ ?_) <;> (intro hZ; try simp only [NM] at hZ))
    | fail)
  all_goals (repeat (first | (revert hZ; refine Im.i ?_) | (revert hKZ; revert KZ; refine Kw.f ?_) | (revert hKY; revert KY; refine Kx.f ?_)))
  first
    | (with_reducible exact h.g; done)
    | (all_goals exact FC h r)) (t : Ch T1 R1 T2 R2 T3 R3 T4 R4 T5 R5 T6 R6 T7 R7 T8 R8 T9 R9 T10 R10 T11 R11 T12 R12 := by exact FT) : A := k x c d i t ⟨h⟩
theorem Rg {A B X C DD II T1 R1 T2 R2 T3 R3 T4 R4 T5 R5 T6 R6 T7 R7 T8 R8 T9 R9 T10 R10 T11 R11 T12 R12 : Prop} (x : Ex X) (c : Ex C) (d : Ex DD) (i : Ex II) (h : B) (k : Ex X → Ex C → Ex DD → Ex II → Ch T1 R1 T2 R2 T3 R3 T4 R4 T5 R5 T6 R6 T7 R7 T8 R8 T9 R9 T10 R10 T11 R11 T12 R12 → Gl B → A := by
  intro x c d i r h
  repeat' (first
    | ((first
      | ((fail_if_success (refine rS d.e.1 ?_)); (with_reducible refine qV ah fun KZ hKZ => ?_))
      | (refine dG d.e.1 ah mixed fun KZ hKZ => ?_; simp only [SG, bb] at hKZ ⊢)
      | (refine dG d.e.2.1 ah mixed fun KZ hKZ => ?_; simp only [SG, bb] at hKZ ⊢)
      | (refine dG d.e.2.2.1 ah mixed fun KZ hKZ => ?_; simp only [SG, bb] at hKZ ⊢)
      | (refine dG d.e.2.2.2.1 ah mixed fun KZ hKZ => ?_; simp only [SG, bb] at hKZ ⊢)
      | (refine dG d.e.2.2.2.2.1 ah mixed fun KZ hKZ => ?_; simp only [SG, bb] at hKZ ⊢)
      | (refine dG d.e.2.2.2.2.2.1 ah mixed fun KZ hKZ => ?_; simp only [SG, bb] at hKZ ⊢)
      | refine Q2 ?_
      | ((with_reducible refine ai.is ?_); (first | refine iG i.e.1 rfl ⟨rfl, rfl, rfl, rfl⟩ ?_ ?_ ?_ | refine iG i.e.2.1 rfl ⟨rfl, rfl, rfl, rfl⟩ ?_ ?_ ?_ | refine iG i.e.2.2.1 rfl ⟨rfl, rfl, rfl, rfl⟩ ?_ ?_ ?_))
      | refine JC c x ?_
      | with_reducible refine an.Pn ah fun KZ hKZ => ?_
      | (with_reducible first | refine an.some fun KZ hKZ => ?_ | refine an.step fun KZ hKZ => ?_ | refine c6.some fun KZ hKZ => ?_ | refine c6.step fun KZ hKZ => ?_)
      | fail) <;> simp -dsimp (disch := first | exact D | fail) only [go_sem, ↓reduceIte, seval, av, x.e])
    | ((with_reducible refine hKZ _ ?_); clear hKZ KZ)
    | (with_reducible refine hK _ ?_)
    | (with_reducible refine Ag.mk ?_ ?_)
    | (with_reducible first | refine an.intro fun KY hKY => ?_ | refine c6.intro fun KY hKY => ?_)
    | ((with_reducible first | refine an.fin ?_ | refine c6.fin ?_); first | ((refine hKY _ ?_); clear hKY KY) | (refine hK0 _ ?_))
    | (with_reducible first | refine an.quiet ?_ | refine an.none ?_ | refine c6.none ?_)
    | ((with_reducible refine an.keep ?_ ?_); focus ((simp -dsimp (disch := first | exact D | fail) only [go_sem, ↓reduceIte, seval, av, gE, gD, gF, gG, x.e]; first | done | exact E | fail)))
    | ((with_reducible refine c6.fork (fun KZ hKZ => ?_) ?_); (focus (simp -dsimp (disch := first | exact D | fail) only [go_sem, ↓reduceIte, seval, av, x.e])))
    | refine Q1 ?_
    | ((with_reducible refine qW (T := TT) (b := ?_) ?_ ?_); rotate_left; exact rfl)
    | fail)
  all_goals (repeat (first | (revert hZ; refine Im.i ?_) | (revert hKZ; revert KZ; refine Kw.f ?_) | (revert hKY; revert KY; refine Kx.f ?_)))
  first
    | (with_reducible exact h.g; done)
    | (all_goals exact FC h r)) (t : Ch T1 R1 T2 R2 T3 R3 T4 R4 T5 R5 T6 R6 T7 R7 T8 R8 T9 R9 T10 R10 T11 R11 T12 R12 := by exact FT) : A := k x c d i t ⟨h⟩
theorem P3 {A B X C DD II T1 R1 T2 R2 T3 R3 T4 R4 T5 R5 T6 R6 T7 R7 T8 R8 T9 R9 T10 R10 T11 R11 T12 R12 : Prop} (x : Ex X) (c : Ex C) (d : Ex DD) (i : Ex II) (h : B) (k : Ex X → Ex C → Ex DD → Ex II → Ch T1 R1 T2 R2 T3 R3 T4 R4 T5 R5 T6 R6 T7 R7 T8 R8 T9 R9 T10 R10 T11 R11 T12 R12 → Gl B → A := by
  intro x c d i r h
  repeat' (first
    | ((first
      | ((fail_if_success (refine rS d.e.1 ?_)); (with_reducible refine qV ah fun KZ hKZ => ?_))
      | (refine dG d.e.1 ah mixed fun KZ hKZ => ?_; simp only [SG, bb] at hKZ ⊢)
      | (refine dG d.e.2.1 ah mixed fun KZ hKZ => ?_; simp only [SG, bb] at hKZ ⊢)
      | (refine dG d.e.2.2.1 ah mixed fun KZ hKZ => ?_; simp only [SG, bb] at hKZ ⊢)
      | (refine dG d.e.2.2.2.1 ah mixed fun KZ hKZ => ?_; simp only [SG, bb] at hKZ ⊢)
      | (refine dG d.e.2.2.2.2.1 ah mixed fun KZ hKZ => ?_; simp only [SG, bb] at hKZ ⊢)
      | (refine dG d.e.2.2.2.2.2.1 ah mixed fun KZ hKZ => ?_; simp only [SG, bb] at hKZ ⊢)
      | refine Q2 ?_
      | with_reducible refine yD ah mixed 6 (by kernel_rfl) fun KZ hKZ => ?_
      | ((with_reducible refine ai.is ?_); (first | refine iG i.e.1 rfl ⟨rfl, rfl, rfl, rfl⟩ ?_ ?_ ?_ | refine iG i.e.2.1 rfl ⟨rfl, rfl, rfl, rfl⟩ ?_ ?_ ?_ | refine iG i.e.2.2.1 rfl ⟨rfl, rfl, rfl, rfl⟩ ?_ ?_ ?_))
      | refine JC c x ?_
      | (with_reducible first | refine an.some fun KZ hKZ => ?_ | refine an.step fun KZ hKZ => ?_ | refine c6.some fun KZ hKZ => ?_ | refine c6.step fun KZ hKZ => ?_)
      | fail) <;> simp -dsimp (disch := first | exact D | fail) only [go_sem, ↓reduceIte, seval, av, x.e])
    | ((with_reducible refine hKZ _ ?_); clear hKZ KZ)
    | (with_reducible refine hK _ ?_)
    | (with_reducible refine Ag.mk ?_ ?_)
    | (with_reducible first | refine an.intro fun KY hKY => ?_ | refine c6.intro fun KY hKY => ?_)
    | ((with_reducible first | refine an.fin ?_ | refine c6.fin ?_); first | ((refine hKY _ ?_); clear hKY KY) | (refine hK0 _ ?_))
    | (with_reducible first | refine an.quiet ?_ | refine an.none ?_ | refine c6.none ?_)
    | ((with_reducible refine an.keep ?_ ?_); focus ((simp -dsimp (disch := first | exact D | fail) only [go_sem, ↓reduceIte, seval, av, gE, gD, gF, gG, x.e]; first | done | exact E | fail)))
    | ((with_reducible refine c6.fork (fun KZ hKZ => ?_) ?_); (focus (simp -dsimp (disch := first | exact D | fail) only [go_sem, ↓reduceIte, seval, av, x.e])))
    | refine Q1 ?_
    | ((with_reducible refine qW (T := TT) (b := ?_) ?_ ?_); rotate_left; exact rfl)
    | fail)
  all_goals (repeat (first | (revert hZ; refine Im.i ?_) | (revert hKZ; revert KZ; refine Kw.f ?_) | (revert hKY; revert KY; refine Kx.f ?_)))
  first
    | (with_reducible exact h.g; done)
    | (all_goals exact FC h r)) (t : Ch T1 R1 T2 R2 T3 R3 T4 R4 T5 R5 T6 R6 T7 R7 T8 R8 T9 R9 T10 R10 T11 R11 T12 R12 := by exact FT) : A := k x c d i t ⟨h⟩
theorem ZW {A B X C T1 R1 T2 R2 T3 R3 T4 R4 T5 R5 T6 R6 T7 R7 T8 R8 T9 R9 T10 R10 T11 R11 T12 R12 : Prop} (x : Ex X) (c : Ex C) (h : B) (k : Ex X → Ex C → Ch T1 R1 T2 R2 T3 R3 T4 R4 T5 R5 T6 R6 T7 R7 T8 R8 T9 R9 T10 R10 T11 R11 T12 R12 → Gl B → A := by
  intro x c r h
  repeat' (first
    | ((first
      | with_reducible refine qV ah fun KZ hKZ => ?_
      | refine Q2 ?_
      | refine JC c x ?_
      | fail) <;> simp -dsimp (disch := first | exact D | fail) only [go_sem, ↓reduceIte, seval, av, x.e])
    | ((with_reducible refine hKZ _ ?_); clear hKZ KZ)
    | (with_reducible refine hK _ ?_)
    | refine Q1 ?_
    | ((with_reducible refine qW (T := TT) (b := ?_) ?_ ?_); rotate_left; exact rfl)
    | fail)
  all_goals (repeat (first | (revert hZ; refine Im.i ?_) | (revert hKZ; revert KZ; refine Kw.f ?_) | (revert hKY; revert KY; refine Kx.f ?_)))
  first
    | (with_reducible exact h.g; done)
    | (all_goals exact FC h r)) (t : Ch T1 R1 T2 R2 T3 R3 T4 R4 T5 R5 T6 R6 T7 R7 T8 R8 T9 R9 T10 R10 T11 R11 T12 R12 := by exact FT) : A := k x c t ⟨h⟩
theorem pK {A B X C T1 R1 T2 R2 T3 R3 T4 R4 T5 R5 T6 R6 T7 R7 T8 R8 T9 R9 T10 R10 T11 R11 T12 R12 : Prop} (x : Ex X) (c : Ex C) (h : B) (k : Ex X → Ex C → Ch T1 R1 T2 R2 T3 R3 T4 R4 T5 R5 T6 R6 T7 R7 T8 R8 T9 R9 T10 R10 T11 R11 T12 R12 → Gl B → A := by
  intro x c r h
  repeat' (first
    | ((first
      | with_reducible refine qV ah fun KZ hKZ => ?_
      | refine Q2 ?_
      | ((with_reducible first | refine qS ?_ ?_ | refine qT ?_ ?_ | refine qU ?_ ?_) <;> (intro hZ; try simp only [NM] at hZ))
      | refine JC c x ?_
      | fail) <;> simp -dsimp (disch := first | exact D | fail) only [go_sem, ↓reduceIte, seval, av, x.e])
    | ((with_reducible refine hKZ _ ?_); clear hKZ KZ)
    | (with_reducible refine hK _ ?_)
    | refine Q1 ?_
    | ((with_reducible refine qW (T := TT) (b := ?_) ?_ ?_); rotate_left; exact rfl)
    | ((with_reducible refine yS ?_ ?_) <;> (intro hZ; try simp only [NM] at hZ))
    | fail)
  all_goals (repeat (first | (revert hZ; refine Im.i ?_) | (revert hKZ; revert KZ; refine Kw.f ?_) | (revert hKY; revert KY; refine Kx.f ?_)))
  first
    | (with_reducible exact h.g; done)
    | (all_goals exact FC h r)) (t : Ch T1 R1 T2 R2 T3 R3 T4 R4 T5 R5 T6 R6 T7 R7 T8 R8 T9 R9 T10 R10 T11 R11 T12 R12 := by exact FT) : A := k x c t ⟨h⟩
theorem rj {A B X C T1 R1 T2 R2 T3 R3 T4 R4 T5 R5 T6 R6 T7 R7 T8 R8 T9 R9 T10 R10 T11 R11 T12 R12 : Prop} (x : Ex X) (c : Ex C) (h : B) (k : Ex X → Ex C → Ch T1 R1 T2 R2 T3 R3 T4 R4 T5 R5 T6 R6 T7 R7 T8 R8 T9 R9 T10 R10 T11 R11 T12 R12 → Gl B → A := by
  intro x c r h
  repeat' (first
    | ((first
      | with_reducible refine qV ah fun KZ hKZ => ?_
      | refine Q2 ?_
      | ((with_reducible first | refine qS ?_ ?_ | refine qT ?_ ?_ | refine qU ?_ ?_) <;> (intro hZ; try simp only [NM] at hZ))
      | with_reducible refine yD ah mixed 6 (by kernel_rfl) fun KZ hKZ => ?_
      | refine JC c x ?_
      | fail) <;> simp -dsimp (disch := first | exact D | fail) only [go_sem, ↓reduceIte, seval, av, x.e])
    | ((with_reducible refine hKZ _ ?_); clear hKZ KZ)
    | (with_reducible refine hK _ ?_)
    | refine Q1 ?_
    | ((with_reducible refine qW (T := TT) (b := ?_) ?_ ?_); rotate_left; exact rfl)
    | ((with_reducible refine yS ?_ ?_) <;> (intro hZ; try simp only [NM] at hZ))
    | fail)
  all_goals (repeat (first | (revert hZ; refine Im.i ?_) | (revert hKZ; revert KZ; refine Kw.f ?_) | (revert hKY; revert KY; refine Kx.f ?_)))
  first
    | (with_reducible exact h.g; done)
    | (all_goals exact FC h r)) (t : Ch T1 R1 T2 R2 T3 R3 T4 R4 T5 R5 T6 R6 T7 R7 T8 R8 T9 R9 T10 R10 T11 R11 T12 R12 := by exact FT) : A := k x c t ⟨h⟩
theorem CK {A B X C T1 R1 T2 R2 T3 R3 T4 R4 T5 R5 T6 R6 T7 R7 T8 R8 T9 R9 T10 R10 T11 R11 T12 R12 : Prop} (x : Ex X) (c : Ex C) (h : B) (k : Ex X → Ex C → Ch T1 R1 T2 R2 T3 R3 T4 R4 T5 R5 T6 R6 T7 R7 T8 R8 T9 R9 T10 R10 T11 R11 T12 R12 → Gl B → A := by
  intro x c r h
  repeat' (first
    | ((first
      | with_reducible refine qV ah fun KZ hKZ => ?_
      | refine Q2 ?_
      | with_reducible refine yD ah mixed 6 (by kernel_rfl) fun KZ hKZ => ?_
      | refine JC c x ?_
      | fail) <;> simp -dsimp (disch := first | exact D | fail) only [go_sem, ↓reduceIte, seval, av, x.e])
    | ((with_reducible refine hKZ _ ?_); clear hKZ KZ)
    | (with_reducible refine hK _ ?_)
    | refine Q1 ?_
    | ((with_reducible refine qW (T := TT) (b := ?_) ?_ ?_); rotate_left; exact rfl)
    | fail)
  all_goals (repeat (first | (revert hZ; refine Im.i ?_) | (revert hKZ; revert KZ; refine Kw.f ?_) | (revert hKY; revert KY; refine Kx.f ?_)))
  first
    | (with_reducible exact h.g; done)
    | (all_goals exact FC h r)) (t : Ch T1 R1 T2 R2 T3 R3 T4 R4 T5 R5 T6 R6 T7 R7 T8 R8 T9 R9 T10 R10 T11 R11 T12 R12 := by exact FT) : A := k x c t ⟨h⟩
end Go.Bw
