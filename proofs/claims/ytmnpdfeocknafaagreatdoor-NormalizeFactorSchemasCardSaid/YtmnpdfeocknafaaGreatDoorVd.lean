/- Proved: contracts of functions of this translation, for every state, and what they rest on; bounds stand ahead. -/
import Derived.Lib.Bytealg
import Derived.Laws.Externs
import Derived.Laws.Strings
import Derived.ChangeArms
import Derived.SizedLaws
import Derived.JoinedOf
import Derived.ChangeSame
import Derived.RowKit
import Derived.Carry
import Derived.Test.YtmnpdfeocknafaaGreatDoorVc
set_option maxHeartbeats 64000000
set_option linter.unusedSimpArgs false
set_option linter.unusedVariables false
namespace Go.Bw
open Go.Proofs
def uH (a b:Int):Int:=if a<b then -1 else if a > b then 1 else 0
def zV:fM:=⟨0,0,ByteArray.empty⟩
def wS (r:Row) (c:Int):fM:=if 0≤c∧c<r.length then r.getD c.toNat zV else zV
def keyOf (pk:List Int) (r:Row):Row:=pk.map (wS r)
theorem qd {α:Type} (l:List α) (k:Nat) (h:k<l.length):l.take (k+1)=l.take k++[l[k]]:=by
 rw [GA h]
theorem bE {α:Type} {l:List α} {i:Nat} (d:α) (h:i<l.length):l.getD i d=l[i]:=by simp [List.getD,h]
section
open Go.RowKit
def wg (a b:ByteArray):Int:=Lib.compareBytes a.data.toList b.data.toList
theorem Pv (a b:ByteArray):Sat Tryz.prog 235 [oS a,oS b] (.v (oI (wg a b))):=by
 refine ⟨fun m w vs ω hC hA=>?_⟩
 obtain ⟨hl,hA⟩:=hA
 obtain ⟨v1,h1,r1⟩:=hA 0 _ rfl
 obtain ⟨v2,h2,r2⟩:=hA 1 _ rfl
 have e:vs.toArray=#[v1,v2]:=by
  match vs,hl,h1,h2 with
  | [x,y],_,h1,h2=>simp at h1 h2;rw [h1,h2]
 have r1:aM m v1 (.str a):=r1
 have r2:aM m v2 (.str b):=r2
 cases r1 with
 | str _=>cases r2 with
  | str _ =>
   refine .inl ⟨.int .i64 (wg a b),w,?_,?_⟩
   ·rw [e,run_callFunc_extern Tryz.func235 (by kernel_rfl) (by kernel_rfl) (by kernel_rfl) (e:=Extern.BytealgCompare.compare) (by kernel_rfl),Lib.run_compareString]
    rfl
   ·exact ⟨m,ω,hC,aM.int _ _⟩
theorem Pw (a b:ByteArray):Sat Tryz.prog 218 [oS a,oS b] (.v (oI (wg a b))):=by
 refine ZE Tryz.func218 Tryz.ntmps218 fun w0 m0 F0=>?_
 refine ZW Z0 (Z1 @Pv) ?_
 exact ZQ (Z1 Tryz.results218)
theorem Hr (a b:ByteArray):Sat Tryz.prog 187 [oS a,oS b] (.v (oI (wg a b))):=by
 refine ZE Tryz.func187 Tryz.ntmps187 fun w0 m0 F0=>?_
 refine ZW Z0 (Z1 @Pw) ?_
 exact ZQ (Z1 Tryz.results187)
end
def tY (a b:fM):Int:=if uH a.kind b.kind≠0 then uH a.kind b.kind else if uH a.int b.int≠0 then uH a.int b.int else wg a.text b.text
def Gb:ByteArray:=⟨#[61]⟩
def Gc:ByteArray:=⟨#[60]⟩
def N3:ByteArray:=⟨#[60,61]⟩
def aw (a b:ByteArray):Bool:=a.toList==b.toList
def Ai (op:ByteArray):Bool:=aw op Gb||aw op Gc||aw op N3
def xX (op:ByteArray):Int:=if Ai op then 0 else 3
def tK (v:fM):Int :=
 if v.kind=0 then if v.int≠0∨aw v.text ByteArray.empty=false then 3 else 0
 else if v.kind=1∨v.kind=2 then
  if aw v.text ByteArray.empty=false then 3 else if (v.kind=2∧v.int≠0∧v.int≠1)∨v.int < -1000000000000∨v.int > 1000000000000 then 1 else 0
 else if v.kind=3 then if v.int≠0 then 3 else if v.text.size > 24 then 2 else 0
 else 7
def idx {α:Type} (p:α→Bool):List α→Nat→Int
 | [],_=>-1
 | x::l,k=>if p x then k else idx p l (k+1)
theorem Bh {α:Type} {p:α→Bool} {l:List α} {k:Nat} (hk:k<l.length) (h:p l[k]=false):idx p (l.drop (k+1)) (k+1)=idx p (l.drop k) k:=by
 rw [uV hk,idx,h]
 simp
theorem Bg {α:Type} {p:α→Bool} {l:List α} {k:Nat} (hk:k<l.length) (h:p l[k]=true):idx p (l.drop k) k=k:=by
 rw [uV hk,idx,h]
 simp
theorem Bf {α:Type} {p:α→Bool} {l:List α} {k:Nat} (hk:¬ k<l.length):idx p (l.drop k) k=-1:=by
 rw [xy (by omega),idx]
theorem Kh (l : List au) (f : Nat) (cs : List L) (p : au → Bool) (hlen : l.length ≤ 140737488355328) (hp : ∀ t ∈ l, Sat Tryz.prog f (.agg (ap t) :: cs.map .one) (.v (oB (p t)))) :
    Sat Tryz.prog 106 [.one (dW l), .one (.bD f cs)] (.v (oI (idx p l 0))) := by
  refine ZE Tryz.func106 Tryz.ntmps106 fun w0 m0 F0 => ?_
  refine ZW Z0 Z0 ?_
  refine ab.loop (ι := {k : Nat // k ≤ l.length ∧ idx p (l.drop k) k = idx p l 0}) (fun k => ⟨19, [(0, .v (.one (dW l))), (1, .v (.one (.bD f cs))), (7, .v (oI l.length)), (8, .v (oI k.1))], [], []⟩) (fun k => l.length - k.1) ⟨0, bg _, rfl⟩ ?_ fun ⟨k, hkl, hi⟩ => ?_
  · exact ZL Z0
  repeat' (first | ((first | with_reducible refine qV ah fun K hK => ?_ | ((with_reducible refine ai.is ?_); (refine ai.pure (hp _ (bl (by omega))) ?_))) <;> simp -dsimp (disch := first | exact D | fail) only [go_sem, ↓reduceIte, seval]) | ((with_reducible refine hK _ ?_); clear hK K) | refine Q1 ?_ | ((with_reducible refine qW (T := TT) (b := ?_) ?_ ?_); rotate_left; exact rfl) | ((with_reducible refine yS ?_ ?_) <;> (intro h; try simp only [NM] at h)) | fail)
  all_goals first 
    | (have hk : ¬ k < l.length := by omega
       refine ZR (Z1 Tryz.results106) ?_
       rw [← hi, Bf hk]
       done)
    | (
       refine ZR (Z1 Tryz.results106) ?_
       rw [← hi, Bg _ ‹_›])
    | (refine ⟨⟨k + 1, by omega, by rw [Bh _ ‹_›, hi]⟩, by simp only; omega, ?_⟩
       exact ZL Z0
       )
def sI (i:Int):Int:=if i<0 then 0 else i
def aY (l:List au) (name:ByteArray):Int:=idx (fun t=>aw t.name name) l 0
def pP (l:List gK) (name:ByteArray):Int:=idx (fun t=>aw t.name name) l 0
theorem PV (t:au) (name:ByteArray):Sat Tryz.prog 107 [.agg (ap t),.one (.fz [.str name])] (.v (oB (aw t.name name))):=by
 refine ZE Tryz.func107 Tryz.ntmps107 fun w0 m0 F0=>?_
 refine ZW Z0 Z0 ?_
 refine ZR (Z1 Tryz.results107) ?_
 rfl
theorem qP (s:aq) (name:ByteArray) (hlen:s.tables.length≤140737488355328):Sat Tryz.prog 66 [.agg (aC s),oS name] (.cR [oI (sI (aY s.tables name)),oB (decide (0≤aY s.tables name))]):=by
 refine ZE Tryz.func66 Tryz.ntmps66 fun w0 m0 F0=>?_
 repeat' (first|((first|with_reducible refine qV ah fun K hK=>?_|((with_reducible refine ai.is ?_);(((apply ai.cO);(focus (simp -dsimp (disch:=first|exact D|fail) only [go_sem,↓reduceIte,seval];rfl));(focus (first|exact (Kh s.tables _ [.fz [.str name]] _ hlen fun t _=>PV t name)))))))<;>simp -dsimp (disch:=first|exact D|fail) only [go_sem,↓reduceIte,seval])|((with_reducible refine hK _ ?_);clear hK K)|refine Q1 ?_|fail)
 refine ZR (Z1 Tryz.results66) ?_
 rfl
def y4 (b:UInt8):Bool:=!((decide ((b.toNat:Int)<97)||decide (122<(b.toNat:Int)))&&(decide ((b.toNat:Int)<48)||decide (57<(b.toNat:Int))))
def digit (b:UInt8):Bool:=decide (48≤(b.toNat:Int))&&decide ((b.toNat:Int)≤57)
def CC (s:ByteArray):Bool:=!(decide (s.size<1)||decide (12<s.size)||digit (s.data.toList.getD 0 0))&&s.data.toList.all y4
def scan {α:Type} (f:Nat→α→Option Int):List α→Nat→Option Int
 | [],_=>none
 | x::l,k=>match f k x with
  | some e=>some e
  | none=>scan f l (k+1)
theorem wG {α:Type} {f:Nat→α→Option Int} {l:List α} {k:Nat} (hk:k<l.length) (h:f k l[k]=none):scan f (l.drop (k+1)) (k+1)=scan f (l.drop k) k:=by
 rw [uV hk,scan,h]
theorem Np {α:Type} {f:Nat→α→Option Int} {l:List α} {k:Nat} {e:Int} (hk:k<l.length) (h:f k l[k]=some e):scan f (l.drop k) k=some e:=by
 rw [uV hk,scan,h]
theorem xL {α:Type} {f:Nat→α→Option Int} {l:List α} {k:Nat} (hk:¬ k<l.length):scan f (l.drop k) k=none:=by
 rw [xy (by omega),scan]
theorem vB {α:Type} {f:Nat→α→Option Int} {l:List α} {k:Nat} {e:Int} (hk:k<l.length) (h:f k l[k]=some e) (hi:scan f (l.drop k) k=scan f l 0):scan f l 0=some e:=by
 rw [←hi,Np hk h]
def xj (t:au) (k:Nat) (c:gK):Option Int :=
 if CC c.name=false then some 23 else if sI (pP t.ae c.name)<k then some 5 else if c.kind<1∨3<c.kind then some 7 else none
def dF:gK:=⟨ByteArray.empty,0,false⟩
def xk (t:au) (k:Nat) (c:Int):Option Int :=
 if c<0∨(t.ae.length:Int)≤c∨(t.ae.getD c.toNat dF).qt=true∨(0<(k:Int)∧c≤t.pk.getD ((k:Int) - 1).toNat 0) then some 9 else none
def xi (t:au):Int :=
 if CC t.name=false then 23 else if t.ae.length=0 then 3 else if 6<t.ae.length then 2 else
 match scan (xj t) t.ae 0 with
 | some e=>e
 | none=>match scan (xk t) t.pk 0 with
  | some e=>e
  | none=>if t.pk.length=0 then 9 else 0
def sK (a b:FK):Bool:=aw a.table b.table&&decide (a.ae=b.ae)&&aw a.ref b.ref
def vg (a b:dN):Bool:=aw a.table b.table&&(a.left==b.left)&&aw a.op b.op&&(a.right==b.right)&&(a.value.kind==b.value.kind)&&(a.value.int==b.value.int)&&aw a.value.text b.value.text
theorem qn {α:Type} (p:α→Bool):∀(l:List α) (k:Nat),(idx p l k=-1∧∀x∈l,p x=false)∨∃j,∃h:j<l.length,idx p l k=((k+j:Nat):Int)∧p l[j]=true∧∀i,∀hi:i<j,p (l[i]'(by omega))=false
 | [],k=>.inl ⟨rfl,fun x hx=>by cases hx⟩
 | x::l,k=>by
  cases hx:p x with
  | true=>exact .inr ⟨0,by simp,by simp [idx,hx],by simpa using hx,fun i hi=>by omega⟩
  | false =>
   rcases qn p l (k+1) with ⟨h1,h2⟩|⟨j,hj,h1,h2,h3⟩
   ·refine .inl ⟨by simp [idx,hx,h1],fun y hy=>?_⟩
    rcases List.mem_cons.1 hy with rfl|hy
    ·exact hx
    ·exact h2 y hy
   ·refine .inr ⟨j+1,by simpa using hj,?_,by simpa using h2,fun i hi=>?_⟩
    ·simp only [idx,hx,de,if_false,h1]
     omega
    ·cases i with
     | zero=>simpa using hx
     | succ i=>simpa using h3 i (by omega)
theorem BH {α:Type} {f:Nat→α→Option Int}:∀{l:List α} {k:Nat},scan f l k=none→∀j,∀h:j<l.length,f (k+j) l[j]=none
 | [],k,_,j,h=>by simp at h
 | x::l,k,hs,j,h=>by
  unfold scan at hs
  split at hs
  ·cases hs
  ·rename_i hx
   cases j with
   | zero=>simpa using hx
   | succ j =>
    have:=BH hs j (by simpa using h)
    rw [show k+(j+1)=k+1+j by omega]
    simpa using this
theorem rZ (i:Nat):sI (i:Int)=i:=by simp [sI];omega
theorem ux:sI (-1)=0:=rfl
structure uD (t:au):Prop where
 name:CC t.name=true
 BV:t.ae.length≠0
 zP:t.ae.length≤6
 CD:∀k,∀h:k<t.ae.length,CC t.ae[k].name=true∧(k:Int)≤sI (pP t.ae t.ae[k].name)∧1≤t.ae[k].kind∧t.ae[k].kind≤3
 key:∀k,∀h:k<t.pk.length,0≤t.pk[k]∧t.pk[k]<t.ae.length∧(t.ae.getD t.pk[k].toNat dF).qt=false∧∀h0:0<k,t.pk[k - 1]<t.pk[k]
 NC:t.pk.length≠0
theorem KU {t:au} (h:xi t=0):uD t:=by
 unfold xi at h
 split at h
 ·cases h
 split at h
 ·cases h
 split at h
 ·cases h
 rename_i h1 h2 h3
 cases hc:scan (xj t) t.ae 0 with
 | some e =>
  rw [hc] at h
  simp only at h
  subst h
  exfalso
  have:∀(l:List gK) (k:Nat) (e:Int),scan (xj t) l k=some e→e≠0:=by
   intro l
   induction l with
   | nil=>intro k e he;cases he
   | cons x l ih =>
    intro k e he
    unfold scan at he
    split at he
    ·rename_i e' he'
     injection he with he
     subst he
     unfold xj at he'
     split at he'
     ·injection he' with he';omega
     split at he'
     ·injection he' with he';omega
     split at he'
     ·injection he' with he';omega
     ·cases he'
    ·exact ih _ _ he
  exact this _ _ _ hc rfl
 | none =>
  rw [hc] at h
  simp only at h
  cases hp:scan (xk t) t.pk 0 with
  | some e =>
   rw [hp] at h
   simp only at h
   subst h
   exfalso
   have:∀(l:List Int) (k:Nat) (e:Int),scan (xk t) l k=some e→e≠0:=by
    intro l
    induction l with
    | nil=>intro k e he;cases he
    | cons x l ih =>
     intro k e he
     unfold scan at he
     split at he
     ·rename_i e' he'
      injection he with he
      subst he
      unfold xk at he'
      split at he'
      ·injection he' with he';omega
      ·cases he'
     ·exact ih _ _ he
   exact this _ _ _ hp rfl
  | none =>
   rw [hp] at h
   simp only at h
   split at h
   ·cases h
   rename_i h4
   refine ⟨by simpa using h1,h2,by omega,fun k hk=>?_,fun k hk=>?_,h4⟩
   ·have:=BH hc k hk
    simp only [cN,xj] at this
    split at this
    ·cases this
    split at this
    ·cases this
    split at this
    ·cases this
    rename_i a b c
    exact ⟨by simpa using a,by omega,by omega,by omega⟩
   ·have:=BH hp k hk
    simp only [cN,xk] at this
    split at this
    ·cases this
    rename_i a
    simp only [not_or,XE,XF,HJ,not_and] at a
    refine ⟨a.1,a.2.1,a.2.2.1,fun h0=>?_⟩
    have:=a.2.2.2 (by omega)
    rw [show ((k:Int) - 1).toNat=k - 1 by omega,rM,ig (by omega)] at this
    simpa using this
def tL:au:=⟨ByteArray.empty,[],[]⟩
def xO (t r:au) (j:Nat) (c:Int):Option Int :=
 if c<0∨(t.ae.length:Int)≤c then some 3 else if (t.ae.getD c.toNat dF).kind≠(r.ae.getD (r.pk.getD j 0).toNat dF).kind then some 7 else none
def BI (fk:FK) (t r:au):Int:=if fk.ae.length≠r.pk.length then 3 else match scan (xO t r) fk.ae 0 with|some e=>e|none=>0
def ye (s:aq) (fk:FK):Int :=
 if aY s.tables fk.table<0∨aY s.tables fk.ref<0 then 4 else BI fk (s.tables.getD (aY s.tables fk.table).toNat tL) (s.tables.getD (aY s.tables fk.ref).toNat tL)
def yJ (s:aq) (c:dN):Int :=
 if aY s.tables c.table<0 then 4 else
 let ae:=(s.tables.getD (aY s.tables c.table).toNat tL).ae
 if c.left<0∨(ae.length:Int)≤c.left∨Ai c.op=false∨c.right < -1∨(ae.length:Int)≤c.right∨(0≤c.right∧c.value≠zV) then 3
 else if 0≤c.right then (if (ae.getD c.left.toNat dF).kind≠(ae.getD c.right.toNat dF).kind then 7 else 0)
 else if c.value.kind≠(ae.getD c.left.toNat dF).kind then 7 else tK c.value
def uN (ts:List au) (k:Nat) (t:au):Option Int :=
 if xi t≠0 then some (xi t) else if 0<(k:Int)∧(Op.bytesLess t.name.toList (ts.getD ((k:Int) - 1).toNat tL).name.toList=true∨t.name.toList=(ts.getD ((k:Int) - 1).toNat tL).name.toList) then some 6 else none
def uZ (s:aq) (k:Nat) (f:FK):Option Int :=
 if ye s f≠0 then some (ye s f) else if 0≤idx (fun o=>sK o f) (s.ak.take k) 0 then some 5 else none
def vj (s:aq) (k:Nat) (c:dN):Option Int :=
 if yJ s c≠0 then some (yJ s c) else if 0≤idx (vg c) (s.cons.take k) 0 then some 5 else none
def dC (s:aq):Int :=
 if 6<s.tables.length∨8<s.ak.length∨8<s.cons.length then 2 else
 match scan (uN s.tables) s.tables 0 with
 | some e=>e
 | none=>match scan (uZ s) s.ak 0 with
  | some e=>e
  | none=>match scan (vj s) s.cons 0 with
   | some e=>e
   | none=>0
structure aq.Fits (s:aq):Prop where
 tables:s.tables.length≤140737488355328
 table:∀t∈s.tables,t.ae.length≤140737488355328∧t.pk.length≤140737488355328
 ak:s.ak.length≤140737488355328
 fk:∀f∈s.ak,f.ae.length≤140737488355328
 cons:s.cons.length≤140737488355328
theorem Hv (x y:UInt8) (a b:List UInt8):Op.bytesLess (x::a) (y::b)=true↔x.toNat<y.toNat∨(x=y∧Op.bytesLess a b=true):=by
 simp [Op.bytesLess,E7]
theorem N0:∀{a b c:List UInt8},Op.bytesLess a b=true→Op.bytesLess b c=true→Op.bytesLess a c=true
 | [],[],_,h,_=>by simp [Op.bytesLess] at h
 | _::_,[],_,h,_=>by simp [Op.bytesLess] at h
 | _,_::_,[],_,h=>by simp [Op.bytesLess] at h
 | [],_::_,_::_,_,_=>by simp [Op.bytesLess]
 | x::a,y::b,z::c,h1,h2=>by
  rw [Hv] at h1 h2 ⊢
  rcases h1 with h1|⟨rfl,h1⟩
  ·rcases h2 with h2|⟨rfl,h2⟩
   ·exact .inl (by omega)
   ·exact .inl h1
  ·rcases h2 with h2|⟨rfl,h2⟩
   ·exact .inl h2
   ·exact .inr ⟨rfl,N0 h1 h2⟩
theorem I7:∀{a b:List UInt8},Op.bytesLess a b=false→a≠b→Op.bytesLess b a=true
 | [],[],_,h=>absurd rfl h
 | [],_::_,h,_=>by simp [Op.bytesLess] at h
 | _::_,[],_,_=>by simp [Op.bytesLess]
 | x::a,y::b,h,hne=>by
  have h':¬ (x.toNat<y.toNat∨(x=y∧Op.bytesLess a b=true)):=fun e=>by rw [←Hv,h] at e;cases e
  rw [Hv]
  by_cases hxy:x=y
  ·subst hxy
   refine .inr ⟨rfl,I7 ?_ (fun e=>hne (by rw [e]))⟩
   cases hb:Op.bytesLess a b with
   | false=>rfl
   | true=>exact absurd (.inr ⟨rfl,hb⟩) h'
  ·refine .inl ?_
   have:x.toNat≠y.toNat:=fun e=>hxy (UInt8.toNat_inj.1 e)
   have:¬ x.toNat<y.toNat:=fun e=>h' (.inl e)
   omega
theorem N1 {ns:List (List UInt8)} (h:∀k,∀h:k+1<ns.length,Op.bytesLess ns[k] ns[k+1]=true):∀d i,∀h:i+d+1<ns.length,Op.bytesLess ns[i] ns[i+d+1]=true
 | 0,i,hi=>h i hi
 | d+1,i,hi=>N0 (N1 h d i (by omega)) (h (i+d+1) hi)
structure Hw (s:aq):Prop where
 vc:∀t∈s.tables,uD t
 lt:∀i j,∀h:i<j,∀hj:j<s.tables.length,Op.bytesLess s.tables[i].name.toList s.tables[j].name.toList=true
 n6:s.tables.length≤6
 n8:s.ak.length≤8
 m8:s.cons.length≤8
theorem wJ {s:aq} (h:dC s=0):Hw s:=by
 unfold dC at h
 split at h
 ·cases h
 rename_i h0
 cases hs:scan (uN s.tables) s.tables 0 with
 | some e =>
  rw [hs] at h
  simp only at h
  subst h
  exfalso
  have:∀(l:List au) (k:Nat) (e:Int),scan (uN s.tables) l k=some e→e≠0:=by
   intro l
   induction l with
   | nil=>intro k e he;cases he
   | cons x l ih =>
    intro k e he
    unfold scan at he
    split at he
    ·rename_i e' he'
     injection he with he
     subst he
     unfold uN at he'
     split at he'
     ·rename_i hne
      injection he' with he'
      rw [←he']
      exact hne
     ·split at he'
      ·injection he' with he';omega
      ·cases he'
    ·exact ih _ _ he
  exact this _ _ _ hs rfl
 | none =>
  have hk:∀k,∀h:k<s.tables.length,xi s.tables[k]=0∧(0<k→¬ (Op.bytesLess s.tables[k].name.toList s.tables[k - 1].name.toList=true∨s.tables[k].name.toList=s.tables[k - 1].name.toList)):=by
   intro k hk
   have h1:=BH hs k hk
   rw [cN,uN] at h1
   split at h1
   ·cases h1
   rename_i h2
   split at h1
   ·cases h1
   rename_i h3
   refine ⟨by simpa using h2,fun h0 h4=>h3 ⟨by omega,?_⟩⟩
   rw [show ((k:Int) - 1).toNat=k - 1 by omega,rM,ig (by omega)]
   exact h4
  have hstep:∀k,∀h:k+1<s.tables.length,Op.bytesLess s.tables[k].name.toList s.tables[k+1].name.toList=true:=by
   intro k h1
   have h2:=(hk (k+1) h1).2 (by omega)
   simp only [not_or,HJ,C5] at h2
   exact I7 h2.1 h2.2
  refine ⟨fun t ht=>?_,fun i j hij hj=>?_,by omega,by omega,by omega⟩
  ·obtain ⟨j,hj,rfl⟩:=List.mem_iff_getElem.1 ht
   exact KU (hk j hj).1
  ·have h1:=N1 (ns:=s.tables.map fun t=>t.name.toList) (fun k h=>by simpa using hstep k (by simpa using h)) (j - i - 1) i (by simp;omega)
   simp only [LG] at h1
   have e:i+(j - i - 1)+1=j:=by omega
   simpa only [e] using h1
def zt (t:au) (k:Nat) (v:fM):Option Int :=
 if tK v≠0 then some (tK v) else if v.kind=0∧(t.ae.getD k dF).qt=false then some 8 else if v.kind≠0∧v.kind≠(t.ae.getD k dF).kind then some 7 else none
def xw (t:au) (r:Row):Int :=
 if r.length≠t.ae.length then 3 else match scan (zt t) r 0 with
  | some e=>e
  | none=>0
def ue (b:Row) (k:Nat) (x:fM):Option Int:=if k<b.length∧tY x (b.getD k zV)≠0 then some (tY x (b.getD k zV)) else none
def pX (a b:Row):Int:=match scan (ue b) a 0 with
 | some e=>e
 | none=>uH a.length b.length
theorem I8 {α:Type} {f:Nat→α→Option Int}:∀{l:List α} {k:Nat},(∀j x,k≤j→f j x=none)→scan f l k=none
 | [],_,_=>rfl
 | x::l,k,h=>by
  rw [scan,h k x (br _)]
  exact I8 fun j y hj=>h j y (by omega)
theorem Dl {α:Type} {f:Nat→α→Option Int} (h:∀k x e,f k x=some e→e≠0):∀{l:List α} {k:Nat} {e:Int},scan f l k=some e→e≠0
 | [],k,e,he=>by cases he
 | x::l,k,e,he=>by
  unfold scan at he
  split at he
  ·rename_i e' he'
   injection he with he
   subst he
   exact h _ _ _ he'
  ·exact Dl h he
theorem Oi {α:Type} {f:Nat→α→Option Int}:∀{l:List α} {k:Nat},(∀j,∀h:j<l.length,f (k+j) l[j]=none)→scan f l k=none
 | [],_,_=>rfl
 | x::l,k,h=>by
  have h0:=h 0 (by simp)
  simp only [eJ,JR] at h0
  rw [scan,h0]
  exact Oi fun j hj=>by
   have:=h (j+1) (by simpa using hj)
   rw [show k+1+j=k+(j+1) by omega]
   simpa using this
theorem zW {α:Type} {f:Nat→α→Option Int} {l:List α}:scan f l 0=none↔∀j,∀h:j<l.length,f j l[j]=none :=
 ⟨fun h j hj=>by have:=BH h j hj;rwa [cN] at this,fun h=>Oi fun j hj=>by rw [cN];exact h j hj⟩
def zX (x:Option Int) (y:Int):Int:=match x with|some e=>e|none=>y
theorem CG {α:Type} {f:Nat→α→Option Int} {l:List α} {k:Nat} {y:Int} (h:∀k x e,f k x=some e→e≠0):zX (scan f l k) y=0↔scan f l k=none∧y=0:=by
 cases hs:scan f l k with
 | none=>simp [zX]
 | some e=>simp [zX,Dl h hs]
theorem WN (ts:List au):∀k x e,uN ts k x=some e→e≠0:=by
 intro k x e h
 unfold uN at h
 split at h
 ·rename_i hne;injection h with h;rw [←h];exact hne
 ·split at h
  ·injection h with h;omega
  ·cases h
theorem WO (s:aq):∀k x e,uZ s k x=some e→e≠0:=by
 intro k x e h
 unfold uZ at h
 split at h
 ·rename_i hne;injection h with h;rw [←h];exact hne
 ·split at h
  ·injection h with h;omega
  ·cases h
theorem WQ (s:aq):∀k x e,vj s k x=some e→e≠0:=by
 intro k x e h
 unfold vj at h
 split at h
 ·rename_i hne;injection h with h;rw [←h];exact hne
 ·split at h
  ·injection h with h;omega
  ·cases h
theorem zj (s:aq):dC s=0↔(s.tables.length≤6∧s.ak.length≤8∧s.cons.length≤8)∧(∀j,∀h:j<s.tables.length,uN s.tables j s.tables[j]=none) ∧
  (∀j,∀h:j<s.ak.length,uZ s j s.ak[j]=none)∧∀j,∀h:j<s.cons.length,vj s j s.cons[j]=none:=by
 unfold dC
 split
 ·simp only [false_iff,not_and,reduceCtorEq,show (2:Int)≠0 by decide]
  omega
 ·change zX (scan (uN s.tables) s.tables 0) (zX (scan (uZ s) s.ak 0) (zX (scan (vj s) s.cons 0) 0))=0↔_
  rw [CG (WN _),CG (WO s),CG (WQ s),zW,zW,zW]
  constructor
  ·rintro ⟨h1,h2,h3,_⟩;exact ⟨by omega,h1,h2,h3⟩
  ·rintro ⟨_,h1,h2,h3⟩;exact ⟨h1,h2,h3,rfl⟩
theorem uD.Oj {t:au} (h:uD t):∀k,∀hk:k<t.pk.length,(k:Int)≤t.pk[k]
 | 0,hk=>(h.key 0 hk).1
 | k+1,hk=>by
  have h1:=Oj h k (by omega)
  have h2:=(h.key (k+1) hk).2.2.2 (by omega)
  simp only [C5] at h2
  omega
theorem uD.D2 {t:au} (h:uD t):t.pk.length≤t.ae.length:=by
 rcases vi t.pk.length with h0|h0
 ·omega
 ·have h1:=h.Oj (t.pk.length - 1) (by omega)
  have h2:=(h.key (t.pk.length - 1) (by omega)).2.1
  omega
theorem E2 {s:aq} {f:FK} (h:ye s f=0):∃i q,∃hi:i<s.tables.length,∃hq:q<s.tables.length,aY s.tables f.table=(i:Int)∧aY s.tables f.ref=(q:Int)∧f.ae.length=s.tables[q].pk.length ∧
  ∀j,∀hj:j<f.ae.length,0≤f.ae[j]∧f.ae[j]<s.tables[i].ae.length:=by
 unfold ye at h
 split at h
 ·cases h
 rename_i h0
 rcases qn (fun t=>aw t.name f.table) s.tables 0 with ⟨e1,_⟩|⟨i,hi,e1,_⟩
 ·have e1:aY s.tables f.table=-1:=e1
  omega
 rcases qn (fun t=>aw t.name f.ref) s.tables 0 with ⟨e2,_⟩|⟨q,hq,e2,_⟩
 ·have e2:aY s.tables f.ref=-1:=e2
  omega
 have e1:aY s.tables f.table=(i:Int):=by unfold aY;simpa using e1
 have e2:aY s.tables f.ref=(q:Int):=by unfold aY;simpa using e2
 simp only [e1,e2,bG,bE _ hi,bE _ hq,BI] at h
 split at h
 ·cases h
 rename_i h1
 change zX (scan (xO s.tables[i] s.tables[q]) f.ae 0) 0=0 at h
 rw [CG (fun k x e he=>by
  unfold xO at he
  split at he
  ·injection he with he;omega
  ·split at he
   ·injection he with he;omega
   ·cases he),zW] at h
 refine ⟨i,q,hi,hq,e1,e2,by omega,fun j hj=>?_⟩
 have:=h.1 j hj
 unfold xO at this
 split at this
 ·cases this
 ·omega
structure Small (s:aq):Prop where
 tables:s.tables.length≤6
 table:∀t∈s.tables,t.ae.length≤6∧t.pk.length≤6
 ak:s.ak.length≤8
 fk:∀f∈s.ak,f.ae.length≤6
 cons:s.cons.length≤8
theorem yY {s:aq} (h:dC s=0):Small s:=by
 have ok:=wJ h
 obtain ⟨h1,h2,h3,h4⟩:=(zj s).1 h
 refine ⟨h1.1,fun t ht=>?_,h1.2.1,fun f hf=>?_,h1.2.2⟩
 ·have o:=ok.vc t ht
  have:=o.D2
  have:=o.zP
  omega
 ·obtain ⟨j,hj,rfl⟩:=List.mem_iff_getElem.1 hf
  have h5:=h3 j hj
  unfold uZ at h5
  split at h5
  ·cases h5
  rename_i h6
  obtain ⟨i,q,hi,hq,_,_,h7,_⟩:=E2 (s:=s) (f:=s.ak[j]) (by simpa using h6)
  have o:=ok.vc _ (bl hq)
  have:=o.D2
  have:=o.zP
  omega
structure BM (t:au) (rows:List Row):Prop where
 Wb:rows.length≤24
 row:∀j,∀h:j<rows.length,xw t rows[j]=0
 ord:∀j,∀h:j+1<rows.length,pX (keyOf t.pk rows[j]) (keyOf t.pk rows[j+1])<0
section
structure aG where
 kind:Int
 table:ByteArray
 other:ByteArray
 dm:ByteArray
 cW:ByteArray
 uy:Int
 ae:List Int
 op:ByteArray
 value:fM
 pZ:au
 qH:dN
 fk:FK
 deriving DecidableEq,Inhabited
def aj (s:aG):List L:=[.int .i64 s.kind,.str s.table,.str s.other,.str s.dm,.str s.cW,.int .i64 s.uy,bj s.ae,.str s.op,
 .int .i64 s.value.kind,.int .i64 s.value.int,.str s.value.text,.str s.pZ.name,cS s.pZ.ae,bj s.pZ.pk,
 .str s.qH.table,.int .i64 s.qH.left,.str s.qH.op,.int .i64 s.qH.right,.int .i64 s.qH.value.kind,.int .i64 s.qH.value.int,.str s.qH.value.text,
 .str s.fk.table,bj s.fk.ae,.str s.fk.ref]
def J':dN:=⟨ByteArray.empty,0,ByteArray.empty,0,⟨0,0,ByteArray.empty⟩⟩
def Ka:FK:=⟨ByteArray.empty,[],ByteArray.empty⟩
def rQ:aG:=⟨0,ByteArray.empty,ByteArray.empty,ByteArray.empty,ByteArray.empty,0,[],ByteArray.empty,⟨0,0,ByteArray.empty⟩,⟨ByteArray.empty,[],[]⟩,J',Ka⟩
def uz (s:aG):aG :=
 if s.kind=1 then {rQ with kind:=s.kind,table:=s.table,dm:=s.dm,uy:=s.uy,value:=s.value}
 else if s.kind=2 then {rQ with kind:=s.kind,table:=s.table,dm:=s.dm,value:=s.value}
 else if s.kind=3 then {rQ with kind:=s.kind,table:=s.table,dm:=s.dm,cW:=s.cW}
 else if s.kind=4 then {rQ with kind:=s.kind,table:=s.table,cW:=s.cW}
 else if s.kind=5 then {rQ with kind:=s.kind,table:=s.table,dm:=s.dm,uy:=s.uy}
 else if s.kind=6 then {rQ with kind:=s.kind,table:=s.table,other:=s.other,ae:=s.ae}
 else if s.kind=7 then {rQ with kind:=s.kind,table:=s.table,other:=s.other}
 else if s.kind=8 then {rQ with kind:=s.kind,table:=s.table,dm:=s.dm,op:=s.op,value:=s.value,other:=s.other}
 else if s.kind=9 then {rQ with kind:=s.kind,table:=s.table,other:=s.other,dm:=s.dm}
 else if s.kind=10 then {rQ with kind:=s.kind,pZ:=s.pZ}
 else if s.kind=12 then {rQ with kind:=s.kind,table:=s.table,dm:=s.dm,ae:=s.ae}
 else if s.kind=13∨s.kind=14 then {rQ with kind:=s.kind,qH:=s.qH}
 else if s.kind=15∨s.kind=16 then {rQ with kind:=s.kind,fk:=s.fk}
 else {rQ with kind:=s.kind,table:=s.table}
def s5 (s:aG):Int:=if s.kind<1∨16<s.kind∨s≠uz s then 3 else 0
abbrev sY:=Except Int aq
def s6 (s:aq) (t:au) (c:Int):Int :=
 if t.pk.elem c then 9 else if s.ak.any fun f=>aw f.table t.name&&f.ae.elem c then 10
 else if s.cons.any fun k=>aw k.table t.name&&(k.left==c||k.right==c) then 11 else 0
def rH (table:ByteArray) (g:Int→Int) (f:FK):FK:=if aw f.table table then {f with ae:=f.ae.map g} else f
def tJ (table:ByteArray) (g:Int→Int) (c:dN):dN:=if aw c.table table then {c with left:=g c.left,right:=if 0≤c.right then g c.right else c.right} else c
def vM (s:aq) (table:ByteArray) (g:Int→Int):aq:={s with ak:=s.ak.map (rH table g),cons:=s.cons.map (tJ table g)}
def fh (s:aq) (i:Nat) (t:au):aq:={s with tables:=s.tables.set i t}
def bq (s:aq) (i:Nat):au:=s.tables.getD i tL
def rz (removed:List Int) (c:Int):Int:=c - ((removed.filter fun r=>decide (r<c)).length:Nat)
def sh {α:Type} (removed:List Int):List α→Nat→List α
 | [],_=>[]
 | x::l,k=>if removed.elem (k:Int) then sh removed l (k+1) else x::sh removed l (k+1)
def rL (s:aq) (i:Nat) (removed:List Int):aq :=
 vM (fh s i {bq s i with ae:=sh removed (bq s i).ae 0,pk:=(bq s i).pk.map (rz removed)}) (bq s i).name (rz removed)
def Ac (v:fM) (c:gK):Int :=
 if tK v≠0 then tK v else if v.kind=0∧c.qt=false then 8 else if v.kind≠0∧v.kind≠c.kind then 7 else 0
def vC (s:aq) (i:Nat) (st:aG):sY :=
 let c:gK:=⟨st.dm,st.uy,st.value.kind==0⟩
 if Ac st.value c≠0 then .error (Ac st.value c) else .ok (fh s i {bq s i with ae:=(bq s i).ae++[c]})
def qi (t:au) (k:Nat) (c:gK):au:={t with ae:=t.ae.set k c}
def rF (s:aq) (i:Nat) (st:aG):sY :=
 let t:=bq s i
 let k:=pP t.ae st.dm
 let c:=t.ae.getD k.toNat dF
 if k<0 then .error 4
 else if st.kind=3 then (if 0≤pP t.ae st.cW then .error 5 else .ok (fh s i (qi t k.toNat {c with name:=st.cW})))
 else if s6 s t k≠0 then .error (s6 s t k)
 else if st.kind=5 then .ok (fh s i (qi t k.toNat {c with kind:=st.uy}))
 else if Ac st.value c≠0 then .error (Ac st.value c)
 else .ok (rL s i [k])
def vG (s:aq) (i:Nat) (st:aG):sY :=
 match st.ae with
 | [a,b] =>
  let t:=bq s i
  if a<0∨b≤a∨(t.ae.length:Int)≤b then .error 3
  else
   let x:=t.ae.getD a.toNat dF
   let y:=t.ae.getD b.toNat dF
   if x.kind≠3∨y.kind≠3 then .error 7
   else if s6 s t a≠0 then .error (s6 s t a)
   else if s6 s t b≠0 then .error (s6 s t b)
   else
    let u:=rL s i [a,b]
    .ok (fh u i {bq u i with ae:=(bq u i).ae++[⟨st.dm,3,x.qt&&y.qt⟩]})
 | _=>.error 3
def wH (s:aq) (c:dN):sY :=
 let k:=idx (vg c) s.cons 0
 if k<0 then .error 4 else .ok {s with cons:=s.cons.take k.toNat++s.cons.drop (k.toNat+1)}
def se (s:aq) (f:FK):sY :=
 let k:=idx (fun o=>sK o f) s.ak 0
 if k<0 then .error 4 else .ok {s with ak:=s.ak.take k.toNat++s.ak.drop (k.toNat+1)}
section
variable {α:Type} (c:α→α→Int)
def zY (ds:List α) (i j:Nat):List α :=
 match ds[i]?,ds[j]? with
 | some x,some y=>(ds.set i y).set j x
 | _,_=>ds
def zZ (ds:List α) (i j:Nat):Bool :=
 match ds[i]?,ds[j]? with
 | some x,some y=>decide (c x y<0)
 | _,_=>false
def wa (a:Nat):Nat→List α→List α
 | 0,ds=>ds
 | j+1,ds=>if a<j+1∧zZ c ds (j+1) j=true then wa a j (zY ds (j+1) j) else ds
def wM (a:Nat):Nat→Nat→List α→List α
 | 0,_,ds=>ds
 | n+1,i,ds=>wM a n (i+1) (wa c a i ds)
def vA (a b:Nat) (ds:List α):List α:=wM c a (b - (a+1)) (a+1) ds
theorem Oe {ds:List α} {i j:Nat} (hi:i<ds.length) (hj:j<ds.length):zY ds i j=(ds.set i ds[j]).set j ds[i]:=by
 simp only [zY,ig hi,ig hj]
theorem Of (ds:List α) (i j:Nat):(zY ds i j).Perm ds:=by
 unfold zY
 split
 ·next x y h1 h2 =>
  obtain ⟨hi,rfl⟩:=List.getElem?_eq_some_iff.1 h1
  obtain ⟨hj,rfl⟩:=List.getElem?_eq_some_iff.1 h2
  exact List.set_set_perm hi hj
 ·exact .refl _
theorem Om (a:Nat):∀(j:Nat) (ds:List α),(wa c a j ds).Perm ds
 | 0,_=>.refl _
 | j+1,ds=>by
  rw [wa]
  split
  ·exact (Om a j _).trans (Of ds _ _)
  ·exact .refl _
theorem On (a:Nat):∀(n i:Nat) (ds:List α),(wM c a n i ds).Perm ds
 | 0,_,_=>.refl _
 | n+1,i,ds=>(On a n _ _).trans (Om c a i ds)
theorem DW (a b:Nat) (ds:List α):(vA c a b ds).Perm ds:=On c a _ _ ds
theorem Wx {ds:List α} {i j:Nat} (hi:i<ds.length) (hj:j<ds.length):zZ c ds i j=decide (c ds[i] ds[j]<0):=by
 simp only [zZ,ig hi,ig hj]
theorem Wy (a j:Nat) (ds:List α) (ha:a<j) (h:zZ c ds j (j - 1)=true):wa c a j ds=wa c a (j - 1) (zY ds j (j - 1)):=by
 obtain ⟨j,rfl⟩:∃k,j=k+1:=⟨j - 1,by omega⟩
 rw [wa,if_pos ⟨ha,h⟩]
 rfl
theorem Jg (a j:Nat) (ds:List α) (h:j≤a∨zZ c ds j (j - 1)=false):wa c a j ds=ds:=by
 cases j with
 | zero=>rfl
 | succ j =>
  rw [wa,if_neg]
  rintro ⟨h1,h2⟩
  rcases h with h|h
  ·omega
  ·rw [C5,h2] at h;cases h
end
def qp (a b:au):Int:=wg a.name b.name
def tq (s:aq) (t:au):aq:={s with tables:=vA qp 0 (s.tables.length+1) (s.tables++[t])}
def wI (s:aq) (t:au):sY:=if 0≤aY s.tables t.name then .error 5 else .ok (tq s t)
def xV (s:aq) (name:ByteArray):aq :=
 ⟨s.tables.filter fun t=>!aw t.name name,s.ak.filter fun f=>!aw f.table name,s.cons.filter fun c=>!aw c.table name⟩
def vZ (s:aq) (name:ByteArray):sY :=
 if s.ak.any fun f=>aw f.ref name&&!aw f.table name then .error 10 else .ok (xV s name)
def c7 (old name x:ByteArray):ByteArray:=if aw x old then name else x
def tV (s:aq) (i:Nat) (name:ByteArray):sY :=
 if 0≤aY s.tables name then .error 5
 else
  let t:=bq s i
  let u:=tq {s with tables:=s.tables.take i++s.tables.drop (i+1)} {t with name:=name}
  .ok ⟨u.tables,s.ak.map fun f=>{f with table:=c7 t.name name f.table,ref:=c7 t.name name f.ref},s.cons.map fun c=>{c with table:=c7 t.name name c.table}⟩
def ew (n:Nat):List Int:=(List.range n).map fun i=>((i:Nat):Int)
def ub (ae set:List Int):Int :=
 let n:=(ae.filter fun c=>set.elem c).length
 if n=0 then 0 else if n=ae.length then 2 else 1
def yd (c:dN):List Int:=if c.right<0 then [c.left] else [c.left,c.right]
def xg (s:aq) (t:au) (st:aG):Int :=
 match scan (fun k c=>if c<0∨(t.ae.length:Int)≤c∨(0<(k:Int)∧c≤st.ae.getD ((k:Int) - 1).toNat 0) then some 3 else none) st.ae 0 with
 | some e=>e
 | none=>if st.ae.length=0 then 3 else if ub st.ae t.pk≠0 then 9 else if 0≤aY s.tables st.other then 5 else 0
def uL (n:Nat) (ae:List Int) (c:Int):Int:=(n:Int)+idx (fun x=>x==c) ae 0
def qy (t:au) (st:aG) (f:FK):FK :=
 if aw f.table t.name&&(ub f.ae st.ae==2) then {f with table:=st.other,ae:=f.ae.map (uL t.pk.length st.ae)} else f
def sk (t:au) (st:aG) (c:dN):dN :=
 if aw c.table t.name&&(ub (yd c) st.ae==2) then {c with table:=st.other,left:=uL t.pk.length st.ae c.left,right:=if 0≤c.right then uL t.pk.length st.ae c.right else c.right} else c
def td (s:aq) (i:Nat) (st:aG):sY :=
 let t:=bq s i
 if xg s t st≠0 then .error (xg s t st)
 else if s.ak.any fun f=>aw f.table t.name&&(ub f.ae st.ae==1) then .error 10
 else if s.cons.any fun c=>aw c.table t.name&&(ub (yd c) st.ae==1) then .error 11
 else
  let n:=t.pk.length
  let o:au:=⟨st.other,(t.pk++st.ae).map fun c=>t.ae.getD c.toNat dF,ew n⟩
  let u:=tq (rL ⟨s.tables,s.ak.map (qy t st),s.cons.map (sk t st)⟩ i st.ae) o
  .ok {u with ak:=u.ak++[⟨st.other,ew n,t.name⟩]}
def wm (t:au) (c:Int):Int:=if c<(t.pk.length:Int) then t.pk.getD c.toNat 0 else (t.ae.length:Int)+c - t.pk.length
def uc (s:aq) (i:Nat) (name:ByteArray):sY :=
 let k:=aY s.tables name
 if k<0 then .error 4
 else
  let t:=bq s i
  let o:=bq s k.toNat
  let n:=t.pk.length
  if (i:Int)=k∨o.pk≠ew n then .error 9
  else match scan (fun j c=>if (t.ae.getD c.toNat dF).kind≠(o.ae.getD j dF).kind then some 9 else none) t.pk 0 with
   | some e=>.error e
   | none=>match se s ⟨name,ew n,t.name⟩ with
    | .error _=>.error 10
    | .ok s1 =>
     if s1.ak.any fun f=>aw f.ref name then .error 10
     else
      let s2:=vM s1 name (wm t)
      .ok ⟨let ts:=s2.tables.set i {t with ae:=t.ae++o.ae.drop n};ts.take k.toNat++ts.drop (k.toNat+1),
       s2.ak.map fun f=>{f with table:=c7 name t.name f.table},s2.cons.map fun c=>{c with table:=c7 name t.name c.table}⟩
def vY (s:aq) (i:Nat) (st:aG):sY :=
 let t:=bq s i
 let k:=pP t.ae st.dm
 if k<0 then .error 4
 else if xX st.op≠0 then .error (xX st.op)
 else if tK st.value≠0 then .error (tK st.value)
 else if st.value.kind≠(t.ae.getD k.toNat dF).kind then .error 7
 else if 0≤aY s.tables st.other then .error 5
 else if s.ak.any fun f=>aw f.ref t.name then .error 10
 else .ok (tq ⟨s.tables,s.ak++(s.ak.filter fun f=>aw f.table t.name).map fun f=>{f with table:=st.other},
  s.cons++(s.cons.filter fun c=>aw c.table t.name).map fun c=>{c with table:=st.other}⟩ {t with name:=st.other})
def CU (s:aq) (table other:ByteArray):Int :=
 if s.ak.any fun f=>aw f.ref table||aw f.ref other then 10
 else if (s.ak.filter fun f=>aw f.table table)≠((s.ak.filter fun f=>!aw f.table table&&aw f.table other).map fun f=>{f with table:=table}) then 10
 else if (s.cons.filter fun c=>aw c.table table)≠((s.cons.filter fun c=>!aw c.table table&&aw c.table other).map fun c=>{c with table:=table}) then 11
 else 0
def tg (s:aq) (i:Nat) (st:aG):sY :=
 let k:=aY s.tables st.other
 if k<0 then .error 4
 else
  let t:=bq s i
  let o:=bq s k.toNat
  if (i:Int)=k∨t.ae≠o.ae∨t.pk≠o.pk then .error 7
  else if CU s t.name o.name≠0 then .error (CU s t.name o.name)
  else .ok (xV (fh s i ⟨t.name,t.ae++[⟨st.dm,2,false⟩],t.pk++[(t.ae.length:Int)]⟩) o.name)
def dD (s:aq) (st:aG):sY :=
 if st.kind=13 then .ok {s with cons:=s.cons++[st.qH]}
 else if st.kind=14 then wH s st.qH
 else if st.kind=15 then .ok {s with ak:=s.ak++[st.fk]}
 else if st.kind=16 then se s st.fk
 else if st.kind=10 then wI s st.pZ
 else
  let k:=aY s.tables st.table
  if k<0 then .error 4
  else if st.kind=4 then tV s k.toNat st.cW
  else if st.kind=6 then td s k.toNat st
  else if st.kind=7 then uc s k.toNat st.other
  else if st.kind=8 then vY s k.toNat st
  else if st.kind=9 then tg s k.toNat st
  else if st.kind=11 then vZ s st.table
  else if st.kind=12 then vG s k.toNat st
  else if st.kind=1 then vC s k.toNat st
  else rF s k.toNat st
def dU (s:aq) (st:aG):sY :=
 if dC s≠0 then .error (dC s) else if s5 st≠0 then .error (s5 st) else
 match dD s st with
 | .error e=>.error e
 | .ok t=>if dC t≠0 then .error (dC t) else .ok t
def rE {α:Type}:Except Int α→Int
 | .error e=>e
 | .ok _=>0
end
theorem ai.apart {P:Program} {T:TypeId→Option TI} {ops:Array Oper} {l:List Oper} {K:St→Prop} {f:FuncId} {fn:Func} {s:St} {d:Option Tmp} {id lo n id' lo' n':Nat} (t e:TypeId) (tR:TypeId) (sz:Nat) (r r':aN) (hf:P.funcs[f]?=some fn) (hname:(fn.name=="runtime.NumGoroutine")=false)
  (hb:fn.body.isNone=true) (hn:Extern.findNext fn=none) (he:Extern.find fn=some (Extern.SlicesOverlaps.overlaps #[t,t] #[tR])) (ht:P.underlying t=some (.slice e)) (hz:∀w,(sizeOf e).run P w=.ok sz w)
  (hne:id≠id') (hr:look s.row id=some r) (hr':look s.row id'=some r') (hcl:xD r'.ov r'.xs.length) (hfit:lo'+n'≤r'.xs.length) (h0:0<n') (hs0:0<r'.sz)
  (hk:s.rO d∧bL P T ops l (St.fw {s with row:=bz id' ⟨r'.sz,r'.xs.take (lo'+n'),[]⟩ s.row} d (.v (.one (.bool false)))) K):ai P T ops d l s K (f,[.one (.ref id lo n),.one (.ref id' lo' n')]) :=
 ⟨_,w6.apart hf hname hb hn he ht hz hk.1 hne hr hr' hcl hfit h0 hs0,hk.2⟩
theorem toList_inj {a b:ByteArray} (h:a.toList=b.toList):a=b:=by
 rw [ByteArray.toList_eq,ByteArray.toList_eq] at h
 cases a;cases b
 simp only at h
 congr 1
 exact vI h
theorem qo {a b:ByteArray}:aw a b=true↔a=b:=by
 simp only [aw,uP]
 exact ⟨toList_inj,fun h=>by rw [h]⟩
structure vr {α:Type} (c:α→α→Int):Prop where
 tH:∀a b,c a b=0↔a=b
 yx:∀a b,c a b=-(c b a)
 trans:∀x y z,c x y<0→c y z<0→c x z<0
theorem vr.refl {α:Type} {c:α→α→Int} (h:vr c) (a:α):c a a=0:=(h.tH a a).2 rfl
theorem vr.total {α:Type} {c:α→α→Int} (h:vr c) (a b:α):c a b<0∨a=b∨c b a<0:=by
 have h1:=h.yx a b
 have h2:=h.tH a b
 rcases Int.lt_trichotomy (c a b) 0 with h3|h3|h3
 ·exact .inl h3
 ·exact .inr (.inl (h2.1 h3))
 ·exact .inr (.inr (by omega))
theorem vr.le_trans {α:Type} {c:α→α→Int} (h:vr c) {x y z:α} (h1:c x y≤0) (h2:c y z≤0):c x z≤0:=by
 rcases P5 h1 with h1|h1
 ·rcases P5 h2 with h2|h2
  ·exact Int.le_of_lt (h.trans _ _ _ h1 h2)
  ·rw [←(h.tH _ _).1 h2];omega
 ·rw [(h.tH _ _).1 h1];exact h2
theorem Kb:vr uH:=by
 refine ⟨fun a b=>?_,fun a b=>?_,fun x y z=>?_⟩<;>unfold uH<;>(repeat' split)<;>omega
theorem Jr:vr Lib.compareBytes:=by
 refine ⟨fun a=>?_,fun a=>?_,fun a=>?_⟩
 ·induction a with
  | nil=>intro b;cases b<;>simp [Lib.compareBytes]
  | cons x a ih =>
   intro b
   cases b with
   | nil=>simp [Lib.compareBytes]
   | cons y b =>
    simp only [Lib.compareBytes,List.cons.injEq]
    have:=ih b
    have hxy:x=y↔x.toNat=y.toNat:=⟨fun h=>by rw [h],fun h=>UInt8.toNat_inj.1 h⟩
    simp only [E7] at *
    (repeat' split)<;>simp_all<;>omega
 ·induction a with
  | nil=>intro b;cases b<;>simp [Lib.compareBytes]
  | cons x a ih =>
   intro b
   cases b with
   | nil=>simp [Lib.compareBytes]
   | cons y b =>
    simp only [Lib.compareBytes]
    have:=ih b
    simp only [E7] at *
    (repeat' split)<;>simp_all<;>omega
 ·induction a with
  | nil =>
   intro y z h1 h2
   cases y<;>cases z<;>simp_all [Lib.compareBytes]
  | cons x a ih =>
   intro b c h1 h2
   cases b with
   | nil=>simp [Lib.compareBytes] at h1
   | cons y b =>
    cases c with
    | nil=>simp [Lib.compareBytes] at h2
    | cons z c =>
     simp only [Lib.compareBytes] at *
     have:=ih b c
     simp only [E7] at *
     (repeat' split)<;>(repeat' split at h1)<;>(repeat' split at h2)<;>simp_all<;>omega
theorem Gk:vr wg:=by
 refine ⟨fun a b=>?_,fun a b=>Jr.yx _ _,fun x y z=>Jr.trans _ _ _⟩
 unfold wg
 rw [Jr.tH]
 exact ⟨fun h=>toList_inj (by rw [ByteArray.toList_eq,ByteArray.toList_eq];exact h),fun h=>by rw [h]⟩
def CH {α β γ:Type} (f:γ→α) (g:γ→β) (c:α→α→Int) (d:β→β→Int) (x y:γ):Int:=if c (f x) (f y)≠0 then c (f x) (f y) else d (g x) (g y)
theorem Ot {α β γ:Type} {f:γ→α} {g:γ→β} {c:α→α→Int} {d:β→β→Int} (hc:vr c) (hd:vr d) (hi:∀x y,f x=f y→g x=g y→x=y):vr (CH f g c d):=by
 refine ⟨fun a b=>?_,fun a b=>?_,fun x y z h1 h2=>?_⟩
 ·unfold CH
  have h1:=hc.tH (f a) (f b)
  have h2:=hd.tH (g a) (g b)
  split
  ·rename_i h
   exact ⟨fun e=>absurd e h,fun e=>by rw [e] at h;exact absurd (hc.refl _) h⟩
  ·rename_i h
   have h:c (f a) (f b)=0:=by simpa using h
   rw [h2]
   exact ⟨fun e=>hi a b (h1.1 h) e,fun e=>by rw [e]⟩
 ·unfold CH
  have h1:=hc.yx (f a) (f b)
  have h2:=hd.yx (g a) (g b)
  split<;>split<;>omega
 ·unfold CH at *
  by_cases e1:c (f x) (f y)=0
  ·have e1':=(hc.tH _ _).1 e1
   rw [if_neg (by simp [e1])] at h1
   rw [e1']
   by_cases e2:c (f y) (f z)=0
   ·rw [if_neg (by simp [e2])] at h2 ⊢
    exact hd.trans _ _ _ h1 h2
   ·rw [if_pos e2] at h2 ⊢
    exact h2
  ·rw [if_pos e1] at h1
   by_cases e2:c (f y) (f z)=0
   ·rw [←(hc.tH _ _).1 e2,if_pos e1]
    exact h1
   ·rw [if_pos e2] at h2
    have h3:=hc.trans _ _ _ h1 h2
    rw [if_pos (by omega)]
    exact h3
theorem Di:vr tY:=by
 have h1:vr (CH (γ:=fM) fM.kind (fun v=>(v.int,v.text)) uH (CH Prod.fst Prod.snd uH wg)) :=
  Ot Kb (Ot Kb Gk fun x y h1 h2=>Prod.ext h1 h2) fun x y h1 h2=>by
   cases x;cases y
   simp only [Prod.mk.injEq] at h1 h2
   simp [h1,h2.1,h2.2]
 exact h1
theorem Ou (y:fM) (b:Row):∀(a:Row) (k:Nat),scan (ue (y::b)) a (k+1)=scan (ue b) a k
 | [],_=>rfl
 | x::a,k=>by
  have e:ue (y::b) (k+1) x=ue b k x:=by
   unfold ue
   simp
  rw [scan,scan,e,Ou y b a (k+1)]
theorem Ov:pX [] []=0:=rfl
theorem Gm (y:fM) (b:Row):pX [] (y::b)=-1:=by
 unfold pX
 simp only [scan,uH,bI,bP]
 rw [if_pos (by omega)]
theorem CJ (x:fM) (a:Row):pX (x::a) []=1:=by
 have h:scan (ue []) (x::a) 0=none:=I8 fun j y _=>by simp [ue]
 unfold pX
 rw [h]
 simp only [uH,bI,bP]
 rw [if_neg (by omega),if_pos (by omega)]
theorem Gn (x y:fM) (a b:Row):pX (x::a) (y::b)=if tY x y≠0 then tY x y else pX a b:=by
 unfold pX
 rw [scan,show ue (y::b) 0 x=if tY x y≠0 then some (tY x y) else none by simp [ue]]
 by_cases h:tY x y=0
 ·rw [if_neg (by simp [h]),if_neg (by simp [h])]
  simp only
  rw [Ou y b a 0]
  cases scan (ue b) a 0 with
  | some e=>rfl
  | none =>
   simp only [uH,bP]
   (repeat' split)<;>omega
 ·rw [if_pos h,if_pos h]
theorem sW:vr pX:=by
 refine ⟨fun a=>?_,fun a=>?_,fun a=>?_⟩
 ·induction a with
  | nil=>intro b;cases b with
   | nil=>simp [Ov]
   | cons y b=>simp [Gm]
  | cons x a ih=>intro b;cases b with
   | nil=>simp [CJ]
   | cons y b =>
    rw [Gn]
    have h1:=Di.tH x y
    have h2:=ih b
    split
    ·rename_i h;simp [h];intro e;exact absurd (h1.2 e) h
    ·rename_i h
     have h:tY x y=0:=by simpa using h
     rw [h2];simp [h1.1 h]
 ·induction a with
  | nil=>intro b;cases b with
   | nil=>rfl
   | cons y b=>rw [Gm,CJ]
  | cons x a ih=>intro b;cases b with
   | nil=>rw [Gm,CJ];rfl
   | cons y b =>
    rw [Gn,Gn]
    have h1:=Di.yx x y
    have h2:=ih b
    split<;>split<;>omega
 ·induction a with
  | nil=>intro b c h1 h2;cases b with
   | nil=>rw [Ov] at h1;omega
   | cons y b=>cases c with
    | nil=>rw [CJ] at h2;omega
    | cons z c=>rw [Gm];omega
  | cons x a ih=>intro b c h1 h2;cases b with
   | nil=>rw [CJ] at h1;omega
   | cons y b=>cases c with
    | nil=>rw [CJ] at h2;omega
    | cons z c =>
     rw [Gn] at h1 h2 ⊢
     by_cases e1:tY x y=0
     ·rw [if_neg (by simp [e1])] at h1
      rw [(Di.tH _ _).1 e1]
      by_cases e2:tY y z=0
      ·rw [if_neg (by simp [e2])] at h2 ⊢
       exact ih b c h1 h2
      ·rw [if_pos e2] at h2 ⊢;exact h2
     ·rw [if_pos e1] at h1
      by_cases e2:tY y z=0
      ·rw [←(Di.tH _ _).1 e2,if_pos e1];exact h1
      ·rw [if_pos e2] at h2
       have h3:=Di.trans _ _ _ h1 h2
       rw [if_pos (by omega)];exact h3
theorem Gp {α:Type} {p:α→Bool} {l:List α}:¬ (0≤idx p l 0)↔∀x∈l,p x=false:=by
 rcases qn p l 0 with ⟨h1,h2⟩|⟨j,hj,h1,h2,_⟩
 ·rw [h1]
  exact ⟨fun _=>h2,fun _=>by omega⟩
 ·rw [h1]
  constructor
  ·intro h;omega
  ·intro h
   rw [h _ (bl hj)] at h2
   cases h2
theorem OR {α:Type} (p:α→α→Bool) (l:List α):(∀j,∀h:j<l.length,¬ (0≤idx (fun o=>p o l[j]) (l.take j) 0))↔l.Pairwise fun a b=>p a b=false:=by
 rw [List.pairwise_iff_getElem]
 constructor
 ·intro h i j hi hj hij
  exact Gp.1 (h j hj) _ (List.mem_take_iff_getElem.2 ⟨i,by omega,rfl⟩)
 ·intro h j hj
  refine Gp.2 fun x hx=>?_
  obtain ⟨i,hi,rfl⟩:=List.mem_take_iff_getElem.1 hx
  exact h i j (by omega) hj (by omega)
theorem Gs (s:aq):(∀j,∀h:j<s.ak.length,uZ s j s.ak[j]=none)↔(∀f∈s.ak,ye s f=0)∧s.ak.Pairwise fun a b=>sK a b=false:=by
 rw [←OR]
 constructor
 ·intro h
  refine ⟨fun f hf=>?_,fun j hj=>?_⟩
  ·obtain ⟨j,hj,rfl⟩:=List.mem_iff_getElem.1 hf
   have:=h j hj
   unfold uZ at this
   split at this
   ·cases this
   ·rename_i h1;simpa using h1
  ·have:=h j hj
   unfold uZ at this
   split at this
   ·cases this
   ·split at this
    ·cases this
    ·assumption
 ·rintro ⟨h1,h2⟩ j hj
  unfold uZ
  rw [if_neg (by simp [h1 _ (bl hj)]),if_neg (h2 j hj)]
theorem G6 (s:aq):(∀j,∀h:j<s.cons.length,vj s j s.cons[j]=none)↔(∀c∈s.cons,yJ s c=0)∧s.cons.Pairwise fun a b=>vg b a=false:=by
 rw [←OR fun a b=>vg b a]
 constructor
 ·intro h
  refine ⟨fun f hf=>?_,fun j hj=>?_⟩
  ·obtain ⟨j,hj,rfl⟩:=List.mem_iff_getElem.1 hf
   have:=h j hj
   unfold vj at this
   split at this
   ·cases this
   ·rename_i h1;simpa using h1
  ·have:=h j hj
   unfold vj at this
   split at this
   ·cases this
   ·split at this
    ·cases this
    ·assumption
 ·rintro ⟨h1,h2⟩ j hj
  unfold vj
  rw [if_neg (by simp [h1 _ (bl hj)]),if_neg (h2 j hj)]
theorem aq.Fits.sub {s:aq} (h:s.Fits) {ak:List FK} {cons:List dN} (hf:ak.Sublist s.ak) (hc:cons.Sublist s.cons):(⟨s.tables,ak,cons⟩:aq).Fits :=
 ⟨h.tables,h.table,pU hf.length_le h.ak,fun f hf'=>h.fk f (hf.subset hf'),pU hc.length_le h.cons⟩
section
open Go.RowKit
def yT (w:World):Mem:=fun x=>w.cell? x
def yc (w:World) (cs:List Value) (ls:List L):Prop:=cs.length=ls.length∧∀(j:Nat) (l:L),ls[j]?=some l→∃v,cs[j]?=some v∧aM (yT w) v l
theorem yc.append {w:World} {cs cs':List Value} {ls ls':List L} (h:yc w cs ls) (h':yc w cs' ls'):yc w (cs++cs') (ls++ls'):=by
 refine ⟨by simp [h.1,h'.1],fun j l hj=>?_⟩
 rcases cV j ls.length with hlt|hge
 ·rw [vk hlt] at hj
  rw [vk (by rw [h.1];exact hlt)]
  exact h.2 j l hj
 ·rw [ul hge] at hj
  rw [ul (by rw [h.1];exact hge),h.1]
  exact h'.2 _ l hj
structure Rd (P:Program) (w:World) (t:TypeId) {α:Type} (e:α→List L) (pL:α→Prop):Prop where
 get:∀{H:Type} {enc:TypeId×Value→H} {base:Nat} {spare:Nat→Bool} {held:Bool} {n:Nat} {cs:List Value} {x:DataW H×List MemPlace},DataW.trod enc P w base spare held n t cs=some x →
  (∀n∈x.1.weights P t,n≤reachBytes)→∃y,pL y∧yc w cs (e y)
variable {P:Program} {w:World} {t:TypeId}
theorem yc.one {v:Value} {l:L} (h:aM (yT w) v l):yc w [v] [l]:=by
 refine ⟨rfl,fun j x hj=>?_⟩
 cases j with
 | zero=>simp only [c8,Option.some.injEq] at hj;subst hj;exact ⟨v,rfl,h⟩
 | succ j=>simp at hj
theorem TP {k:IntKind} (ht:P.underlying t=some (.int k)):Rd P w t (fun n=>[.int k n]) fun n=>(Lit.int k n).wf=true:=by
 constructor
 intro H enc base spare held n cs x h _
 obtain ⟨m,rfl,rfl,hw⟩:=DataW.trod_int ht h
 exact ⟨m,hw,.one (.int k m)⟩
theorem TQ (ht:P.underlying t=some .bool):Rd P w t (fun b=>[.bool b]) fun _=>True:=by
 constructor
 intro H enc base spare held n cs x h _
 obtain ⟨b,rfl,rfl⟩:=DataW.trod_bool ht h
 exact ⟨b,trivial,.one (.bool b)⟩
theorem TR (ht:P.underlying t=some .string):Rd P w t (fun s=>[.str s]) fun s=>s.size≤reachBytes:=by
 constructor
 intro H enc base spare held n cs x h hw
 obtain ⟨s,rfl,rfl,_⟩:=DataW.trod_string ht h
 exact ⟨s,hw s.size (by simp [DataW.weights]),.one (.str s)⟩
theorem Rd.to {α β:Type} {e:α→List L} {e':β→List L} {pL:α→Prop} {good':β→Prop} (h:Rd P w t e pL) (f:α→β) (he:∀x,e' (f x)=e x) (hg:∀x,pL x→good' (f x)):Rd P w t e' good':=by
 constructor
 intro H enc base spare held n cs x h1 h2
 obtain ⟨y,h3,h4⟩:=h.get h1 h2
 exact ⟨f y,hg y h3,by rw [he];exact h4⟩
theorem MP {H:Type} {e:TypeId}:∀{ds:List (DataW H)} {d:DataW H},d∈ds→∀n∈d.weights P e,n∈DataW.weightsAll P e ds
 | d0::ds,d,hd,n,hn=>by
  simp only [DataW.weightsAll,yg]
  rcases List.mem_cons.1 hd with rfl|hd
  ·exact .inl hn
  ·exact .inr (MP hd n hn)
theorem KP {α:Type} {R:Nat→α→Prop}:∀(n:Nat),(∀i,i<n→∃x,R i x)→∃l:List α,l.length=n∧∀i x,l[i]?=some x→R i x
 | 0,_=>⟨[],rfl,fun i x h=>by simp at h⟩
 | n+1,h=>by
  obtain ⟨l,h1,h2⟩:=KP n fun i hi=>h i (by omega)
  obtain ⟨x,hx⟩:=h n (by omega)
  refine ⟨l++[x],by simp [h1],fun i y hy=>?_⟩
  rcases cV i n with hlt|hge
  ·rw [vk (by omega)] at hy
   exact h2 i y hy
  ·rw [ul (by omega)] at hy
   have:i=n:=by
    have:=(List.getElem?_eq_some_iff.1 hy).1
    simp only [z7] at this
    omega
   subst this
   simp [h1] at hy
   subst hy
   exact hx
theorem AN {e:TypeId} {α:Type} {eβ:α→List L} {pL:α→Prop} {sz b:Nat} (ht:P.underlying t=some (.slice e)) (hsz:P.cellsOf e=sz) (hb:P.bytesOf e=b) (hl:∀x,(eβ x).length=sz) (h:Rd P w e eβ pL) :
  Rd P w t (fun l=>[.sl sz (l.map eβ)]) fun l:List α=>l.length * b≤reachBytes∧∀x∈l,pL x:=by
 constructor
 intro H enc base spare held n cs x h1 h2
 rcases DataW.trod_slice ht h1 with ⟨rfl,rfl⟩|⟨a,len,cap,elems,rest,m,rfl,rfl,rfl,k1,k2,k3,k4,k5,k6,k7⟩
 ·exact ⟨[],⟨by simp,by simp⟩,.one (.vK sz)⟩
 ·rw [hsz] at k5
  have hw:∀d∈elems.map (·.1),∀n∈d.weights P e,n≤reachBytes:=fun d hd n hn=>h2 n (by
   simp only [DataW.weights,ht,Rm,yg]
   exact .inr (.inl (MP hd n hn)))
  have hbw:len * b≤reachBytes:=by
   have:=h2 ((elems.length+rest.length) * P.bytesOf e) (by simp [DataW.weights,ht])
   rw [hb,k4] at this
   exact pU (tj _ (by omega)) this
  obtain ⟨l,h3,h4⟩:=KP (R:=fun i (x:α)=>pL x∧∃cs,w.cells? base (a.add (i * sz)) sz=some cs∧yc w cs (eβ x)) len fun i hi=>by
   have k8:=k5 i hi
   have hi':i<elems.length:=by omega
   rw [ig hi'] at k8
   obtain ⟨cs,h5,h6⟩:=Option.bind_eq_some_iff.1 k8
   obtain ⟨x,h7,h8⟩:=h.get h6 (hw _ (List.mem_map.2 ⟨_,bl hi',rfl⟩))
   exact ⟨x,h7,cs,h5,h8⟩
  refine ⟨l,⟨by rw [h3];exact hbw,fun x hx=>?_⟩,.one ?_⟩
  ·obtain ⟨i,hi,rfl⟩:=List.mem_iff_getElem.1 hx
   exact (h4 i _ (ig hi)).1
  ·
   have hcell:∀i j u,cellOf (l.map eβ) i j=some u→∃v,yT w (a.add (i * sz+j))=some v∧aM (yT w) v u:=by
    intro i j u hu
    unfold cellOf at hu
    rw [ql] at hu
    cases hli:l[i]? with
    | none=>rw [hli] at hu;simp at hu
    | some x =>
     rw [hli] at hu
     simp only [dv,dJ] at hu
     obtain ⟨_,cs,h5,h6,h7⟩:=h4 i x hli
     obtain ⟨v,h8,h9⟩:=h7 j u hu
     refine ⟨v,?_,h9⟩
     have hj:j<sz:=by
      have:=(List.getElem?_eq_some_iff.1 hu).1
      rw [hl] at this
      exact this
     unfold World.cells? at h5
     split at h5
     ·have:=mapM_some_get h5 j j (by simp [hj])
      rw [h8,Addr.add_add] at this
      exact this
     ·cases h5
   refine .sl a len cap sz (l.map eβ) (fun i j=>(yT w (a.add (i * sz+j))).getD default) (by simp [h3]) k2 (fun y hy=>?_) (fun i j u hu=>?_) (fun i j u hu=>?_)
   ·obtain ⟨x,_,rfl⟩:=List.mem_map.1 hy
    exact hl x
   ·obtain ⟨v,h5,_⟩:=hcell i j u hu
    rw [h5];rfl
   ·obtain ⟨v,h5,h6⟩:=hcell i j u hu
    rw [h5];exact h6
structure FL (P:Program) (w:World) (fs:List Field) (off:Nat) {α:Type} (e:α→List L) (pL:α→Prop):Prop where
 get:∀{H:Type} {enc:TypeId×Value→H} {base:Nat} {spare:Nat→Bool} {held:Bool} {n:Nat} {cs:List Value} {xs:List (DataW H×List MemPlace)},xs.length=fs.length →
  (∀(i:Nat) (f:Field),fs[i]?=some f→DataW.trod enc P w base spare held n f.type ((cs.drop f.offset).take (P.cellsOf f.type))=xs[i]?) →
  (∀n∈DataW.weightsEach P (fs.map (·.type)) (xs.map (·.1)),n≤reachBytes)→off+(fs.map fun f=>P.cellsOf f.type).sum=cs.length→∃y,pL y∧yc w (cs.drop off) (e y)
theorem FM {off:Nat}:FL P w [] off (fun _:Unit=>[]) fun _=>True:=by
 constructor
 intro H enc base spare held n cs xs _ _ _ hl
 refine ⟨(),trivial,?_⟩
 have:cs.drop off=[]:=EK (by simp at hl;omega)
 rw [this]
 exact ⟨rfl,fun j l hj=>by simp at hj⟩
theorem tm {f:Field} {fs:List Field} {off sz:Nat} {α β:Type} {e0:α→List L} {e1:β→List L} {g0:α→Prop} {g1:β→Prop} (hf:f.offset=off) (hsz:P.cellsOf f.type=sz) (h0:Rd P w f.type e0 g0) (h1:FL P w fs (off+sz) e1 g1) :
  FL P w (f::fs) off (fun p:α×β=>e0 p.1++e1 p.2) fun p=>g0 p.1∧g1 p.2:=by
 constructor
 intro H enc base spare held n cs xs hx ht hw hl
 cases xs with
 | nil=>simp at hx
 | cons x xs =>
  have k0:=ht 0 f rfl
  simp only [c8] at k0
  obtain ⟨y,h2,h3⟩:=h0.get k0 fun n hn=>hw n (by simp only [aJ,DataW.weightsEach,yg];exact .inl hn)
  obtain ⟨z,h4,h5⟩:=h1.get (cs:=cs) (by simpa using hx) (fun i f' hi=>by have:=ht (i+1) f' (by simpa using hi);simpa using this) (fun n hn=>hw n (by simp only [aJ,DataW.weightsEach,yg];exact .inr hn)) (by simp only [aJ,List.sum_cons,hsz] at hl;omega)
  refine ⟨(y,z),⟨h2,h4⟩,?_⟩
  have e:cs.drop off=(cs.drop f.offset).take (P.cellsOf f.type)++cs.drop (off+sz):=by
   rw [hf,hsz,←Af,yK]
  rw [e]
  exact h3.append h5
theorem FN {fs:Array Field} {α:Type} {e:α→List L} {pL:α→Prop} (ht:P.underlying t=some (.struct fs)) (hc:P.cellsOf t=(fs.toList.map fun f=>P.cellsOf f.type).sum) (h:FL P w fs.toList 0 e pL):Rd P w t e pL:=by
 constructor
 intro H enc base spare held n cs x h1 h2
 obtain ⟨xs,m,rfl,rfl,k1,k2,k3⟩:=DataW.trod_struct ht h1
 obtain ⟨y,h3,h4⟩:=h.get (cs:=cs) (by simpa using k2) (fun i f hi=>k3 i f (by simpa using hi)) (fun n hn=>h2 n (by simp only [DataW.weights,ht];exact hn)) (by rw [k1,hc];simp)
 exact ⟨y,h3,by simpa using h4⟩
theorem DR {f0 f1 f2:Field} {z0 z1 z2:Nat} {α β γ:Type} {e0:α→List L} {e1:β→List L} {e2:γ→List L} {g0:α→Prop} {g1:β→Prop} {g2:γ→Prop} (ht:P.underlying t=some (.struct #[f0,f1,f2])) (ho:f0.offset=0∧f1.offset=0+z0∧f2.offset=0+z0+z1) (hz:P.cellsOf f0.type=z0∧P.cellsOf f1.type=z1∧P.cellsOf f2.type=z2) (hc:P.cellsOf t=0+z0+z1+z2) (h0:Rd P w f0.type e0 g0) (h1:Rd P w f1.type e1 g1) (h2:Rd P w f2.type e2 g2):Rd P w t (fun p:α×β×γ×Unit=>e0 p.1++(e1 p.2.1++(e2 p.2.2.1++[]))) (fun p=>g0 p.1∧g1 p.2.1∧g2 p.2.2.1∧True) :=
 FN ht (by rw [hc];simp [hz.1,hz.2.1,hz.2.2];try omega) (tm ho.1 hz.1 h0 (tm ho.2.1 hz.2.1 h1 (tm ho.2.2 hz.2.2 h2 (FM))))
theorem TS {f0 f1 f2 f3 f4:Field} {z0 z1 z2 z3 z4:Nat} {α β γ δ ε:Type} {e0:α→List L} {e1:β→List L} {e2:γ→List L} {e3:δ→List L} {e4:ε→List L} {g0:α→Prop} {g1:β→Prop} {g2:γ→Prop} {g3:δ→Prop} {g4:ε→Prop} (ht:P.underlying t=some (.struct #[f0,f1,f2,f3,f4])) (ho:f0.offset=0∧f1.offset=0+z0∧f2.offset=0+z0+z1∧f3.offset=0+z0+z1+z2∧f4.offset=0+z0+z1+z2+z3) (hz:P.cellsOf f0.type=z0∧P.cellsOf f1.type=z1∧P.cellsOf f2.type=z2∧P.cellsOf f3.type=z3∧P.cellsOf f4.type=z4) (hc:P.cellsOf t=0+z0+z1+z2+z3+z4) (h0:Rd P w f0.type e0 g0) (h1:Rd P w f1.type e1 g1) (h2:Rd P w f2.type e2 g2) (h3:Rd P w f3.type e3 g3) (h4:Rd P w f4.type e4 g4):Rd P w t (fun p:α×β×γ×δ×ε×Unit=>e0 p.1++(e1 p.2.1++(e2 p.2.2.1++(e3 p.2.2.2.1++(e4 p.2.2.2.2.1++[]))))) (fun p=>g0 p.1∧g1 p.2.1∧g2 p.2.2.1∧g3 p.2.2.2.1∧g4 p.2.2.2.2.1∧True) :=
 FN ht (by rw [hc];simp [hz.1,hz.2.1,hz.2.2.1,hz.2.2.2.1,hz.2.2.2.2];try omega) (tm ho.1 hz.1 h0 (tm ho.2.1 hz.2.1 h1 (tm ho.2.2.1 hz.2.2.1 h2 (tm ho.2.2.2.1 hz.2.2.2.1 h3 (tm ho.2.2.2.2 hz.2.2.2.2 h4 (FM))))))
theorem Zf {cs:Array Value} {ls:List L} {ω:Wh} (h:yc w cs.toList ls):sJ (yT w) ω (.agg cs) (.agg ls):=by
 refine ⟨cs,rfl,by simpa using h.1,fun j l hj=>?_⟩
 obtain ⟨v,h1,h2⟩:=h.2 j l hj
 exact ⟨v,by simpa using h1,h2.ua⟩
theorem Zg {v:Value} {l:L} {ω:Wh} (h:yc w [v] [l]):sJ (yT w) ω v (.one l):=by
 obtain ⟨v',h1,h2⟩:=h.2 0 l rfl
 simp only [c8,Option.some.injEq] at h1
 subst h1
 exact h2.ua
def Po (P:Program):Bool:=(P.globalNamed "internal/strconv.uint64pow10").isNone&&(P.globalNamed "strconv.ErrSyntax").isNone&&(P.globalNamed "strconv.ErrRange").isNone
theorem Pp {P:Program} {w w':World} {F:Nat→Prop} (hF:∀k,¬ F k) (hk:uG F w w') {nm:String} {x:Array Value} (h:w.var? P nm=some x):w'.var? P nm=some x:=by
 unfold World.var? at h ⊢
 cases hg:P.globalNamed nm with
 | none=>rw [hg] at h;cases h
 | some g =>
  rw [hg] at h
  have hlt:g<w.heap.size:=by
   rcases cV g w.heap.size with hc|hc
   ·exact hc
   ·have e:w.heap[g]?=none:=by simp [hc]
    simp only [dJ,e] at h
    cases h
  simp only [dJ,hk.block g hlt (hF g)] at h ⊢
  exact h
theorem Zh {P:Program} {w:World} {F:Nat→Prop} (hg:Po P=true∨E' P w) (hF:∀k,¬ F k):Ep P w F:=by
 intro w' hk
 rcases hg with hg|hg
 ·simp only [Po,qa,Option.isNone_iff_eq_none] at hg
  obtain ⟨⟨h1,h2⟩,h3⟩:=hg
  exact ⟨fun h=>absurd h (by rw [h1];decide),fun h=>absurd h (by rw [h2];decide),fun h=>absurd h (by rw [h3];decide)⟩
 ·refine ⟨fun h=>Pp hF hk (hg.pow h),fun h=>?_,fun h=>?_⟩
  ·obtain ⟨tp,p,e⟩:=hg.Pg h
   exact ⟨tp,p,Pp hF hk e⟩
  ·obtain ⟨tp,p,e⟩:=hg.yA h
   exact ⟨tp,p,Pp hF hk e⟩
theorem Zj {f:FuncId} {fn:Func} {c:Code} {xs:List V} {b:Bool} {vs:List Value} (hf:P.funcs[f]?=some fn) (hb:fn.body=some c) (hn:(fn.name=="runtime.NumGoroutine")=false) (h:Sat P f xs (.v (.one (.bool b))))
  (hA:∀ω,vQ (yT w) ω vs xs) (hg:Po P=true∨E' P w:=by exact .inl (by kernel_rfl)):Calls P f vs.toArray w fun e w'=>e=.returned (.bool b)∧Below w.heap.size w w':=by
 have ω:Wh:={box:=fun _=>0,row:=fun _=>{sT:=none,cap:=0,sz:=0},f:=fun _ _ _=>False}
 have hCI:CI P w (yT w) (handed [] [] ω) (roots [] []) a0 w (yT w) ω:=by
  refine {size:=rfl,defers:=rfl,keeps:=⟨rfl,rfl,rfl,br _,fun _ _ _=>rfl⟩,qb:=Mem.le_refl _,qc:=fun _ _ _=>rfl,ok:=fun _ _ h=>h,env:=fun _ _ h=>(by cases h),box:=fun _ _ h=>(by cases h),row:=fun _ _ h=>(by cases h),fresh:=fun κ id hl=>?_,apart:=fun κ id κ' id' hl=>?_,home:=⟨fun id hid=>?_,fun _ _ h=>(by simp [handed,look] at h),fun _ _ h=>(by simp [handed,look] at h)⟩,pL:=Zh hg fun k hk=>wV hk}
  ·cases κ<;>exact absurd hl (by simp [St.live,roots,look])
  ·cases κ<;>exact absurd hl (by simp [St.live,roots,look])
  ·simp [handed,look] at hid
 have h1:=h.call (yT w) w vs ω hCI (hA ω)
 rcases h1 with ⟨v,w',h2,_⟩|⟨_,h2⟩
 ·have h3:(callFunc f vs.toArray).run P w=.ok (.enter f vs.toArray) w:=by
   simp only [callFunc,Sem.run_bind,program,Sem.run,Result.andThen_ok,hf]
   rw [hn,hb]
   simp
  rw [h3] at h2
  cases h2
 ·refine h2.mono fun e w' ⟨v,he,m',ω',hC,hv⟩=>?_
  have hv:v=.bool b:=by
   have hv:aM m' v (.bool b):=hv
   cases hv
   rfl
  subst hv
  refine ⟨he,hC.keeps.os,hC.keeps.tape,hC.keeps.output,hC.keeps.size,fun k hk=>hC.keeps.block k hk fun ho=>?_⟩
  obtain ⟨κ,id,hl,_⟩:=ho
  cases κ<;>exact absurd hl (by simp [St.live,roots,look])
theorem Zl {m:Mem} {ω:Wh}:vQ m ω [] []:=⟨rfl,fun i x h=>by simp at h⟩
theorem TU {m:Mem} {ω:Wh} {v:Value} {x:V} {vs:List Value} {xs:List V} (h:sJ m ω v x) (hs:vQ m ω vs xs):vQ m ω (v::vs) (x::xs):=by
 refine ⟨by simp [hs.1],fun i y hy=>?_⟩
 cases i with
 | zero=>simp only [c8,Option.some.injEq] at hy;subst hy;exact ⟨v,rfl,h⟩
 | succ i=>exact hs.2 i y (by simpa using hy)
section
open Go.ChangeShapes
variable {H:Type} {enc:TypeId×Value→H} {w':World} {base:Nat} {sp:Nat→Bool} {held:Bool}
theorem TV (hs:∀p:MemPlace,p.block<w.heap.size→w.sameAt w' p):∀{ts:List TypeId} {vs:List Value} {ds:List (DataW H)} {ps:List MemPlace},DataW.TrodAll enc P w base sp held ts vs ds ps→(∀p∈ps,p.block<w.heap.size)→DataW.TrodAll enc P w' base sp held ts vs ds ps
 | [],vs,ds,ps,h,_=>by
  obtain ⟨rfl,rfl,rfl⟩:=trodAll_nil h
  exact rfl
 | t::ts,vs,ds,ps,h,hp=>by
  obtain ⟨v,vs1,d,ds1,a,b,rfl,rfl,rfl,⟨n,h1⟩,h2⟩:=trodAll_cons h
  exact ⟨a,b,⟨n,DataW.trod_carry n _ _ _ h1 fun p hp'=>hs p (hp p (by simp [hp']))⟩,TV hs h2 fun p hp'=>hp p (by simp [hp']),rfl⟩
theorem TW (hl:laidOutB P=true) (hb:Below w.heap.size w w'):∀{ts:List TypeId} {vs:List Value} {ds:List (DataW H)} {ps:List MemPlace},(ts.all fun t=>P.readableRec t&&decide (t<P.types.size))=true→DataW.TrodAll enc P w 0 (fun _=>true) true ts vs ds ps→(∀p∈ps,p.block<w.heap.size) →
  DataW.TrodAll enc P w' 0 (fun b=>decide (b<w.heap.size)) true ts vs ds ps
 | [],vs,ds,ps,_,h,_=>by
  obtain ⟨rfl,rfl,rfl⟩:=trodAll_nil h
  exact rfl
 | t::ts,vs,ds,ps,hr,h,hp=>by
  obtain ⟨v,vs1,d,ds1,a,b,rfl,rfl,rfl,h1,h2⟩:=trodAll_cons h
  simp only [im,qa,uv] at hr
  exact ⟨a,b,Below.trod hl hr.1.1 hr.1.2 h1 hb fun p hp'=>hp p (by simp [hp']),TW hl hb hr.2 h2 fun p hp'=>hp p (by simp [hp']),rfl⟩
theorem Zo {f:Func} {s:ChangeSpec} {apart fresh again:Bool} {args:Array Value} {ds gs:List (DataW H)} {before:List MemPlace} {rt:TypeId} (hl:laidOutB P=true) (hrt:f.resultTypes=#[rt]) (hub:P.underlying rt=some .bool)
  (hread:(f.params.toList.all fun t=>P.readableRec t&&decide (t<P.types.size))=true) (hvs:s.vars=[])
  (hW:DataW.Whole enc P f.params.toList s.vars apart w args.toList ds gs before) (hb:Below w.heap.size w w')
  (hfn:s.fn H ds={results:=[.lit (.bool true)],args:=ds}):s.post enc P f apart fresh false again w args (.bool true) w':=by
 have hW0:=hW
 have hlt:∀p∈before,p.block<w.heap.size:=fun p hp=>by simpa using hW.lt p hp
 obtain ⟨p,q,hA,hV,rfl,hz,hn⟩:=hW
 rw [hvs] at hV
 have hgq:gs=[]∧q=[]:=by
  cases gs with
  | nil=>exact ⟨rfl,hV⟩
  | cons g gs=>exact absurd hV (by simp [DataW.TrodVars])
 obtain ⟨rfl,rfl⟩:=hgq
 simp only [bM] at hlt hz hn ⊢
 have hres:∀(b:Nat) (sp:Nat→Bool) (hd:Bool),DataW.TrodAll enc P w' b sp hd f.resultTypes.toList ((Value.bool true).resultList f.resultTypes.size) (s.fn H (ds++[])).results []:=by
  intro b sp hd
  rw [hrt,bM,hfn]
  exact ⟨[],[],⟨1,by simp [DataW.trod,hub,Value.cells]⟩,rfl,rfl⟩
 have hargs1:=TW (P:=P) hl hb hread hA hlt
 have hargs2:=TV (P:=P) (w:=w) (w':=w') (fun p hp=>hb.same hp) hA hlt
 have hvars:∀sp,DataW.TrodVars enc P w' sp s.vars (s.fn H (ds++[])).vars []:=by
  intro sp
  rw [hvs,bM,hfn]
  exact rfl
 refine ⟨ds,[],p++[],[],p,[],hW0,hres _ _ _,by rw [bM,hfn];exact hargs1,hvars _,World.keptBut_mono (fun p hp=>⟨by simpa using hp.1,?_⟩) (hb.frame fun x=>x∈p∧True),fun _=>?_⟩
 ·simpa using hp.1
 ·refine ⟨?_,_,_,([]++p)++[],⟨[]++p,[],trodAll_append hargs2 (hres _ _ _),hvars _,rfl,?_,?_⟩,?_⟩
  ·exact ok_one hrt rfl (okWide_bool_mk hub true)
  ·intro b off hp
   have hp:MemPlace.cell b off∈p:=by simpa using hp
   rw [hb.frozen (hlt _ hp)]
   exact hz b off hp
  ·intro ha
   simpa using hn ha
  ·intro p hp _
   simpa using hp
end
end
theorem Kl:∀(vs ls:List L),vs.length=ls.length→dp 0 vs ls=vs
 | [],[],_=>rfl
 | v::vs,l::ls,h=>by rw [dp,Kl vs ls (by simpa using h)]
 | [],_::_,h=>by simp at h
 | _::_,[],h=>by simp at h
theorem J1 (l : List Int) (n : Int) (hlen : l.length ≤ 140737488355328) :
    Sat Tryz.prog 136 [.one (bj l), oI n] (.v (oI (idx (fun x => x == n) l 0))) := by
  refine ZE Tryz.func136 Tryz.ntmps136 fun w0 m0 F0 => ?_
  refine ZW Z0 Z0 ?_
  refine ab.loop (ι := {k : Nat // k ≤ l.length ∧ idx (fun x => x == n) (l.drop k) k = idx (fun x => x == n) l 0}) (fun k => ⟨19, [(0, .v (.one (bj l))), (1, .v (oI n)), (6, .v (.one (bj l))), (7, .v (oI l.length)), (8, .v (oI k.1))], [], []⟩) (fun k => l.length - k.1) ⟨0, bg _, rfl⟩ ?_ fun ⟨k, hkl, hi⟩ => ?_
  · exact ZL Z0
  refine pK Z0 Z0 ?_; repeat' (first | apply Zb | apply Zn | (apply Zm; intro h))
  all_goals first
    | (have hk : ¬ k < l.length := by omega
       refine ZR (Z1 Tryz.results136) ?_
       rw [← hi, Bf hk]
       done)
    | (have hk : k < l.length := by omega
       have he : (l[k] == n) = true := by simp_all
       refine ZR (Z1 Tryz.results136) ?_
       rw [← hi, Bg hk he]
       done)
    | (have hk : k < l.length := by omega
       have he : (l[k] == n) = false := by
         rw [Ro]
         intro q
         simp_all
       refine ⟨⟨k + 1, by omega, by rw [Bh hk he, hi]⟩, by simp only; omega, ?_⟩
       exact ZL Z0
       )
theorem Oc (n:Int):∀(l:List Int) (k:Nat),decide (0≤idx (fun x=>x==n) l k)=l.elem n
 | [],k=>by simp [idx]
 | x::l,k=>by
  rw [idx,pq]
  cases hx:x==n with
  | true =>
   have:(n==x)=true:=by simp_all
   rw [this];simp
  | false =>
   have:(n==x)=false:=by
    rw [Ro]
    intro q
    simp_all
   rw [this]
   exact Oc n l (k+1)
theorem D5 (l:List Int) (n:Int) (hlen:l.length≤140737488355328):Sat Tryz.prog 155 [.one (bj l),oI n] (.v (oB (l.elem n))):=by
 rw [←Oc n l 0]
 refine ZE Tryz.func155 Tryz.ntmps155 fun w0 m0 F0=>?_
 refine ZW Z0 (Z1 (J1 l n hlen)) ?_
 exact ZQ (Z1 Tryz.results155)
theorem De (n:Nat):(ew n).length=n:=by simp [ew]
theorem EB (n:Nat):ew (n+1)=ew n++[(n:Int)]:=by simp [ew,Cb]
theorem Wu (n:Nat) (h:n≤1048576):db Tryz.prog 139 [oI n] [] [] (.v (.one (.ref 2 0 n))) [] [(2,⟨1,(ew n).map aX,[]⟩)]:=by
 refine ZM [] [2] Tryz.func139 Tryz.ntmps139 fun w0 m0 F0=>?_
 refine ZW Z0 Z0 ?_
 refine ab.loop (ι:={k:Nat // k≤n}) (fun k=>⟨15,[(3,.v (.one (.ref 3 0 k.1))),(5,.v (oI n)),(6,.v (oI k.1))],[],[(3,⟨1,(ew k.1).map aX,[]⟩)]⟩) (fun k=>n - k.1) ⟨0,bg _⟩ ?_ fun ⟨k,hkl⟩=>?_
 ·exact ZN (Z1 @ew.eq_1)
 simp only at hkl ⊢
 have sl:=De k
 have ss:=EB k
 rcases cV k n with hc|hc
 ·refine ZW (Z1 @sl) Z0 ?_
  refine ⟨⟨k+1,by omega⟩,by simp only;omega,?_⟩
  exact ZN (Z2 @ss @aX.eq_1)
 ·have hk:k=n:=by omega
  subst hk
  refine ZW Z0 Z0 ?_
  exact ZQ (Z1 Tryz.results139)
theorem Od {α:Type} (p:α→Bool) (l:List α) (k:Nat) (h:k<l.length):((l.take (k+1)).filter p).length=((l.take k).filter p).length+(if p l[k] then 1 else 0):=by
 rw [qd l k h,tZ,bA]
 cases hp:p l[k]<;>simp [hp]
theorem ID (ae set:List Int) (h1:ae.length≤140737488355328) (h2:set.length≤140737488355328):Sat Tryz.prog 137 [.one (bj ae),.one (bj set)] (.v (oI (ub ae set))):=by
 refine ZE Tryz.func137 Tryz.ntmps137 fun w0 m0 F0=>?_
 refine ZW Z0 Z0 ?_
 refine ab.loop (ι:={k:Nat // k≤ae.length}) (fun k=>⟨27,[(0,.v (.one (bj ae))),(1,.v (.one (bj set))),(5,.v (oI ((ae.take k.1).filter fun c=>set.elem c).length)),(8,.v (.one (bj ae))),(9,.v (oI ae.length)),(10,.v (oI k.1))],[],[]⟩) (fun k=>ae.length - k.1) ⟨0,bg _⟩ ?_ fun ⟨k,hkl⟩=>?_
 ·refine St.bN ?_ ?_ ?_<;>simp only [LE,EN,Nat.reduceEqDiff,reduceIte,Nat.reduceSub,c9,dO,bI,s9]
 simp only at hkl ⊢
 have hfl:((ae.take k).filter fun c=>set.elem c).length≤ae.length:=pU (vl _ _) (by simp;omega)
 rcases cV k ae.length with hc|hc
 ·have cc:=D5 set ae[k] h2
  have fs:=Od (fun c=>set.elem c) ae k hc
  cases he:set.elem ae[k] with
  | true =>
   rw [he] at cc fs
   simp only [if_true] at fs
   refine ZW Z0 (Z1 (cc)) ?_
   refine ⟨⟨k+1,by omega⟩,by simp only;omega,?_⟩
   exact ZL (Z3 @fs @iy @pO)
  | false =>
   rw [he] at cc fs
   simp only [de,if_false,eJ] at fs
   refine ZW Z0 (Z1 (cc)) ?_
   refine ⟨⟨k+1,by omega⟩,by simp only;omega,?_⟩
   exact ZL (Z1 @fs)
 ·rw [du hc]
  unfold ub
  obtain ⟨n,hn⟩:∃n,(ae.filter fun c=>set.elem c).length=n:=⟨_,rfl⟩
  rw [hn]
  refine pK Z0 Z0 ?_;repeat' (first|apply Zb|apply Zn|(apply Zm;intro h))
  all_goals simp -dsimp (disch:=first|exact D|fail) only [aR,Tryz.results137,aQ,aS,aO,St.rest,St.freeze,RT,go_sem,↓reduceIte,seval]
  all_goals first
   | (rw [if_pos (by omega)];done)
   | (rw [if_neg (by omega),if_pos (by omega)];done)
   | (rw [if_neg (by omega),if_neg (by omega)];done)
def y5 (cs:List au):Rows:=[(1000,⟨3,cs.map ap,[]⟩)]
theorem Wv (ds:List au) (i j:Nat) (hi:i<ds.length) (hj:j<ds.length) :
  ((ds.map ap).set i (ap ds[j])).set j (dp 0 (ap ds[i]) (((ds.map ap).set i (ap ds[j])).getD j []))=(zY ds i j).map ap:=by
 rw [Kl _ _ ?_,Oe hi hj,vJ,vJ]
 rw [rM,←vJ,ql,ig (by simpa using hj)]
 rfl
theorem Ww (cs:List au) (f:FuncId) (hc:∀x∈cs,∀y∈cs,Sat Tryz.prog f [.agg (ap x),.agg (ap y)] (.v (oI (qp x y)))) (a b:Nat) (hb:b≤cs.length) (ha:a≤cs.length) (hl:cs.length≤140737488355328) :
  db Tryz.prog 233 [.one (.ref 1000 0 cs.length),oI a,oI b,.one (.bD f [])] [] (y5 cs) (.cR []) [] (y5 (vA qp a b cs)):=by
 unfold y5
 refine ZM [] [1000] Tryz.func233 Tryz.ntmps233 fun w0 m0 F0=>?_
 refine ZW Z0 Z0 ?_;repeat' (first|apply Zb|apply Zn|(apply Zk;intro K hK))
 refine ab.loop (ι:={p:Nat×List au // a+1≤p.1∧p.1≤cs.length+1∧p.2.Perm cs∧wM qp a (b - p.1) p.1 p.2=vA qp a b cs}) (fun p=>⟨53,[(0,.v (.one (.ref 1000 0 cs.length))),(1,.v (oI a)),(2,.v (oI b)),(3,.v (.one (.bD f []))),(8,.v (oI p.1.1))],[],[(1000,⟨3,p.1.2.map ap,[]⟩)]⟩) (fun p=>cs.length+2 - p.1.1) ⟨(a+1,cs),br _,by omega,List.Perm.refl _,rfl⟩ ?_ fun ⟨(i,ds),hi1,hi2,hp,hI⟩=>?_
 ·exact ZL (Z1 @iy)
 have hd:ds.length=cs.length:=hp.length_eq
 simp only at hi1 hi2 hp hI ⊢
 rcases cV i b with hc1|hc1
 ·have eI:b - i=(b - (i+1))+1:=by omega
  rw [eI,wM] at hI
  refine ZW Z0 Z0 ?_;repeat' (first|apply Zb|apply Zn|(apply Zk;intro K hK))
  refine ab.loop (ι:={p:Nat×List au // a≤p.1∧p.1≤i∧p.2.Perm cs∧wa qp a p.1 p.2=wa qp a i ds}) (fun p=>⟨53,[(0,.v (.one (.ref 1000 0 cs.length))),(1,.v (oI a)),(2,.v (oI b)),(3,.v (.one (.bD f []))),(8,.v (oI i)),(9,.v (oI p.1.1))],[],[(1000,⟨3,p.1.2.map ap,[]⟩)]⟩) (fun p=>p.1.1) ⟨(i,ds),by omega,br _,hp,rfl⟩ ?_ fun ⟨(j,es),hj1,hj2,hq,hJ⟩=>?_
  ·exact ZL (Z1 @hd)
  have he:es.length=cs.length:=hq.length_eq
  simp only at hj1 hj2 hq hJ ⊢
  rcases cV a j with hc2|hc2
  ·have h1:j<es.length:=by omega
   have h2:j - 1<es.length:=by omega
   have e1:((j:Int) - 1).toNat=j - 1:=by omega
   have ej:((j - 1:Nat):Int)=(j:Int) - 1:=by omega
   have cc:=hc es[j] (hq.subset (bl _)) es[j - 1] (hq.subset (bl _))
   have lj:=Wx qp h1 h2
   refine ZW Z0 Z0 ?_;repeat' (first|apply Zb|apply Zn|(apply Zk;intro K hK))
   refine dX ah mixed [(0,14)] [(14,[(15,2)],[])] [14] 8 fun K hK=>?_
   simp only [SG,bb] at hK ⊢
   refine ZU (Z2 @he @e1) ?_
   refine rC (Z2 @he @e1) (Z1 (cc)) (Z1 (Zs 6)) Z0 ?_;repeat' (first|apply Zb|apply Zn|(apply Zm;intro h)|(apply Zk;intro K hK))
   ·refine dX ah mixed [(0,15)] [(15,[(16,1)],[(2,3)]),(17,[],[])] [15,17] 8 fun K hK=>?_
    simp only [SG,bb] at hK ⊢
    refine ZU (Z2 @he @e1) ?_
    refine ZV (Z2 @he @e1) Z0 Z0 Z0 ?_;repeat' (first|apply Zb|apply Zn|(apply Zk;intro K hK))
    have lt:zZ qp es j (j - 1)=true:=by rw [lj];exact sB (by assumption)
    refine ⟨⟨(j - 1,zY es j (j - 1)),by simp only;omega,by simp only;omega,(Of es _ _).trans hq,by rw [←hJ,Wy qp a j es hc2 lt]⟩,by simp only;omega,?_⟩
    refine St.bN ?_ trivial ⟨congrArg (fun x:List (List L)=>some (⟨3,x,[]⟩:aN)) (Wv es j (j - 1) h1 h2),trivial⟩
    simp only [H6,H5,gY,look_nil,reduceIte,Nat.reduceEqDiff]
    exact ⟨trivial,trivial,trivial,trivial,trivial,by rw [ej],trivial⟩
   ·have lf:zZ qp es j (j - 1)=false:=by rw [lj];exact yG (by omega)
    rw [Jg qp a j es (.inr lf)] at hJ
    refine ⟨⟨(i+1,es),by simp only;omega,by simp only;omega,hq,by rw [hJ,hI]⟩,by simp only;omega,?_⟩
    exact ZL (Z2 @he @iy)
  ·rw [Jg qp a j es (.inl hc2)] at hJ
   refine ZW Z0 Z0 ?_;repeat' (first|apply Zb|apply Zn|(apply Zk;intro K hK))
   refine dX ah mixed [(0,14)] [(14,[(15,2)],[])] [14] 8 fun K hK=>?_
   simp only [SG,bb] at hK ⊢
   refine ZU (Z1 @he) ?_
   refine ZV (Z1 @he) Z0 Z0 Z0 ?_;repeat' (first|apply Zb|apply Zn|(apply Zk;intro K hK))
   refine ⟨⟨(i+1,es),by simp only;omega,by simp only;omega,hq,by rw [hJ,hI]⟩,by simp only;omega,?_⟩
   exact ZL (Z2 @he @iy)
 ·have e0:b - i=0:=by omega
  rw [e0] at hI
  have hI:ds=vA qp a b cs:=hI
  refine ZW Z0 Z0 ?_;repeat' (first|apply Zb|apply Zn|(apply Zk;intro K hK))
  refine ZR (Z1 Tryz.results233) ?_
  rw [hI]
theorem Wz (a b:au):Sat Tryz.prog 186 [.agg (ap a),.agg (ap b)] (.v (oI (qp a b))):=by
 refine ZE Tryz.func186 Tryz.ntmps186 fun w0 m0 F0=>?_
 refine ZW Z0 (Z1 @Hr) ?_
 refine ZR (Z1 Tryz.results186) ?_
 rfl
theorem WA (cs:List au) (hl:cs.length<20) :
  db Tryz.prog 217 [.one (.ref 1000 0 cs.length),oI cs.length,.one (.bD 186 [])] [] (y5 cs) (.cR []) [] (y5 (vA qp 0 cs.length cs)):=by
 have st:=Ww cs 186 (fun x _ y _=>Wz x y) 0 cs.length (br _) (bg _) (by omega)
 rw [s9] at st
 unfold y5 at st ⊢
 refine ZM [] [1000] Tryz.func217 Tryz.ntmps217 fun w0 m0 F0=>?_
 refine ZW Z0 Z0 ?_
 refine ab.loop (ι:=Unit) (fun _=>⟨63,[(0,.v (.one (.ref 1000 0 cs.length))),(1,.v (oI cs.length)),(2,.v (.one (.bD 186 []))),(6,.v (oI 20)),(7,.v (oI 0)),(8,.v (oI 20))],[],[(1000,⟨3,cs.map ap,[]⟩)]⟩) (fun _=>0) () ?_ fun _=>?_
 ·exact ZL Z0
 refine ZV (Z3 @bh @bt @bu) Z0 Z0 (Z1 (Zi [] [(1000,1000)] [] [(1000,1000)] [] [] [] [1000,1000] (st))) ?_
 all_goals first|(exfalso;omega)|skip
 refine ab.loop (ι:=Unit) (fun _=>⟨63,[(1,.v (oI cs.length)),(6,.v (oI 20))],[],[(1000,⟨3,(vA qp 0 cs.length cs).map ap,[]⟩)]⟩) (fun _=>0) () ?_ fun _=>?_
 ·exact ZL Z0
 refine ZW Z0 Z0 ?_
 all_goals first|(exfalso;omega)|skip
 exact ZQ (Z1 Tryz.results217)
theorem WB (cs:List au) (hl:cs.length<20) :
  db Tryz.prog 185 [.one (.ref 1000 0 cs.length),.one (.bD 186 [])] [] (y5 cs) (.cR []) [] (y5 (vA qp 0 cs.length cs)):=by
 have st:=WA cs hl
 unfold y5 at st ⊢
 refine ZM [] [1000] Tryz.func185 Tryz.ntmps185 fun w0 m0 F0=>?_
 refine ZV (Z3 @bh @bt @bu) Z0 Z0 (Z1 (Zi [] [(1000,1000)] [] [(1000,1000)] [] [] [] [1000,1000] (st))) ?_
 exact ZQ (Z1 Tryz.results185)
def eh (t:au):List L:=[.str t.name,.own 3 (t.ae.map aT),.own 1 (t.pk.map aX)]
def pS (f:FK):List L:=[.str f.table,.own 1 (f.ae.map aX),.str f.ref]
def pQ {α:Type} (f:α→α) (l:List α) (k:Nat):List α:=(l.take k).map f++l.drop k
theorem uK {α:Type} (f:α→α) (l:List α):pQ f l 0=l:=rfl
theorem tW {α:Type} (f:α→α) (l:List α) (k:Nat):(pQ f l k).length=l.length:=by
 simp only [pQ,bA,bw,rV,wu]
 omega
theorem Oo {α:Type} (f:α→α) (l:List α) (k:Nat) (h:k<l.length):(pQ f l k)[k]?=some l[k]:=by
 have e:((l.take k).map f).length=k:=by simp;omega
 simp only [pQ]
 rw [ul (by omega),e,xB,rJ,eJ,ig h]
theorem W0 {α:Type} (f:α→α) (l:List α) (k:Nat) (h:k<l.length):(pQ f l k)[k]'(by rw [tW];exact h)=l[k]:=by
 have h1:=Oo f l k h
 rw [ig (by rw [tW];exact h)] at h1
 exact Ae h1
theorem yu {α:Type} (f:α→α) (l:List α):pQ f l l.length=l.map f:=by simp [pQ]
theorem zN {α:Type} (e:α→List L) (f:α→α) (l:List α) (k:Nat) (h:k<l.length):((pQ f l k).map e).getD k []=e l[k]:=by
 rw [rM,ql,Oo f l k h];rfl
theorem Ew {α:Type} (f:α→α) (l:List α) (k:Nat) (h:k<l.length):(pQ f l k).set k (f l[k])=pQ f l (k+1):=by
 have e:((l.take k).map f).length=k:=by simp;omega
 simp only [pQ]
 rw [z8 _ _ (by omega),e,xB,uV h,tP,qd l k h,dn]
 simp
theorem zO {α:Type} (e:α→List L) (f:α→α) (l:List α) (k:Nat) (h:k<l.length):((pQ f l k).map e).set k (e (f l[k]))=(pQ f l (k+1)).map e:=by
 rw [←vJ,Ew f l k h]
theorem IG {α:Type} (f:α→α) (l:List α) (k:Nat) (h:k<l.length):(pQ f l k).set k l[k]=pQ f l k:=by
 conv=>lhs;rw [←W0 f l k h]
 exact Bm _
def qk (l:List au) (k:Nat) (t:au):List (List L):=(l.set k t).map eh
theorem xe (l:List au) (k:Nat) (t:au):(qk l k t).length=l.length:=by simp [qk]
theorem Je {l:List au} {k:Nat} (t:au) (h:k<l.length):(qk l k t)[k]?=some (eh t):=by simp [qk,h]
theorem BF {l:List au} {k:Nat} (t:au) (h:k<l.length):(qk l k t).getD k []=eh t:=by
 rw [rM,Je t h];rfl
theorem DV (l:List au) (k:Nat) (t t':au):(qk l k t).set k (eh t')=qk l k t':=by
 simp only [qk]
 rw [←vJ,vP]
theorem vW {l:List au} {k:Nat} (t:au) (h:k<l.length):cellOf (qk l k t) k 1=some (.own 3 (t.ae.map aT)):=by
 unfold cellOf
 rw [Je t h];rfl
theorem xJ {l:List au} {k:Nat} (t:au) (h:k<l.length):cellOf (qk l k t) k 2=some (.own 1 (t.pk.map aX)):=by
 unfold cellOf
 rw [Je t h];rfl
theorem Cy {l:List au} {k:Nat} (t:au) (h:k<l.length) (c:List Int):setCell (qk l k t) k 2 (.own 1 (c.map aX))=qk l k ⟨t.name,t.ae,c⟩:=by
 unfold setCell
 rw [BF t h]
 exact DV l k t ⟨t.name,t.ae,c⟩
def tI (l:List FK) (k:Nat) (f:FK):List (List L):=(l.set k f).map pS
theorem Nh (l:List FK) (k:Nat) (t:FK):(tI l k t).length=l.length:=by simp [tI]
theorem Oa {l:List FK} {k:Nat} (t:FK) (h:k<l.length):(tI l k t)[k]?=some (pS t):=by simp [tI,h]
theorem IH {l:List FK} {k:Nat} (t:FK) (h:k<l.length):(tI l k t).getD k []=pS t:=by
 rw [rM,Oa t h];rfl
theorem Nj (l:List FK) (k:Nat) (t t':FK):(tI l k t).set k (pS t')=tI l k t':=by
 simp only [tI]
 rw [←vJ,vP]
theorem Ni {l:List FK} {k:Nat} (t:FK) (h:k<l.length):cellOf (tI l k t) k 1=some (.own 1 (t.ae.map aX)):=by
 unfold cellOf
 rw [Oa t h];rfl
theorem IJ {l:List FK} {k:Nat} (t:FK) (h:k<l.length) (c:List Int):setCell (tI l k t) k 1 (.own 1 (c.map aX))=tI l k {t with ae:=c}:=by
 unfold setCell
 rw [IH t h]
 exact Nj l k t {t with ae:=c}
def iB (s:aq):qJ:=[(1000,[.ref 1000 0 s.tables.length,.ref 1001 0 s.ak.length,.ref 1002 0 s.cons.length])]
def iR (s:aq):Rows:=[(1000,⟨3,s.tables.map eh,[]⟩),(1001,⟨3,s.ak.map pS,[]⟩),(1002,⟨7,s.cons.map aK,[]⟩)]
theorem dz (σb σr:ik) (i lo n:Nat):vR σb σr (.ref i lo n)=(look σr i).isSome:=rfl
theorem AE {α:Type} (f:α→α) (l:List α) (k:Nat) (h:k<l.length) (hf:f l[k]=l[k]):pQ f l (k+1)=pQ f l k:=by
 rw [←Ew f l k h,hf,IG f l k h]
theorem FX (l:List (List L)) (k:Nat) (x d:List L) (h:k<l.length):(l.set k x).getD k d=x:=by
 rw [rM,JP h];rfl
theorem z6 (z:List (List L)) (i:Nat):(z.map L.fz).map (L.fp i)=z.map L.fz:=by rw [wP];exact u6 fun _ _=>rfl
theorem yy (z:List (List L)) (i:Nat):(z.map L.fz).map (L.fo i)=z.map L.fz:=by rw [wP];exact u6 fun _ _=>rfl
def wF (P:Program) (f:FuncId) (caps:List L) (g:Int→Int) (c:Int):Prop:=Sat P f (oI c::caps.map .one) (.v (oI (g c)))
theorem Gf (removed:List Int) (c:Int) (h:removed.length≤1048576) (h1:-1048576≤c) (h2:c≤1048576):wF Tryz.prog 188 ([[bj removed]].map L.fz) (rz removed) c:=by
 unfold wF rz
 simp only [aJ,aI]
 refine ZE Tryz.func188 Tryz.ntmps188 fun w0 m0 F0=>?_
 refine ZW Z0 Z0 ?_
 refine ab.loop (ι:={k:Nat // k≤removed.length}) (fun k=>⟨22,[(0,.v (oI c)),(4,.v (oI ((removed.take k.1).filter fun x=>decide (x<c)).length)),(7,.v (.one (bj removed))),(8,.v (oI removed.length)),(9,.v (oI k.1))],[],[]⟩) (fun k=>removed.length - k.1) ⟨0,bg _⟩ ?_ fun ⟨k,hkl⟩=>?_
 ·refine St.bN ?_ ?_ ?_<;>simp only [LE,EN,Nat.reduceEqDiff,reduceIte,Nat.reduceSub,c9,dO,bI,s9]
 simp only at hkl ⊢
 have hfl:((removed.take k).filter fun x=>decide (x<c)).length≤removed.length:=pU (vl _ _) (by simp;omega)
 rcases cV k removed.length with hc|hc
 ·have fs:=Od (fun x=>decide (x<c)) removed k hc
  by_cases hx:removed[k]<c
  ·simp only [hx,fO,if_true] at fs
   refine ZW (Z1 @hx) Z0 ?_
   refine ⟨⟨k+1,by omega⟩,by simp only;omega,?_⟩
   exact ZL (Z3 @fs @iy @pO)
  ·simp only [hx,gL,de,if_false,eJ] at fs
   refine ZW (Z1 @hx) Z0 ?_
   refine ⟨⟨k+1,by omega⟩,by simp only;omega,?_⟩
   exact ZL (Z1 @fs)
 ·rw [du hc] at hfl ⊢
  refine ZW Z0 Z0 ?_
  exact ZQ (Z1 Tryz.results188)
theorem Oh {α:Type} (rm:List Int) (x:α):∀(l:List α) (n:Nat),sh rm (l++[x]) n=sh rm l n++(if rm.elem ((n+l.length:Nat):Int) then [] else [x])
 | [],n=>by simp [sh]
 | y::l,n=>by
  have ih:=Oh rm x l (n+1)
  rw [aW,sh,sh,ih,bP,show n+1+l.length=n+(l.length+1) by omega]
  split<;>simp
theorem AD (l:List (List L)) (i j:Nat) (x:List L) (u:L) (h:i<l.length):setCell (l.set i x) i j u=l.set i (x.set j u):=by
 unfold setCell
 rw [FX l i x [] h,vP]
theorem DU {α:Type} (rm:List Int):∀(l:List α) (n:Nat),(sh rm l n).length≤l.length
 | [],_=>br _
 | y::l,n=>by
  rw [sh]
  have:=DU rm l (n+1)
  split<;>simp<;>omega
def CB (t:au) (st:aG) (k:Nat) (c:Int):Option Int:=if c<0∨(t.ae.length:Int)≤c∨(0<(k:Int)∧c≤st.ae.getD ((k:Int) - 1).toNat 0) then some 3 else none
theorem M' (s : aq) (t : au) (st : aG) (h1 : s.tables.length ≤ 140737488355328) (h2 : t.ae.length ≤ 1048576) (h3 : t.pk.length ≤ 1048576) (h4 : st.ae.length ≤ 140737488355328) :
    Sat Tryz.prog 134 [.agg (aC s), .agg (ap t), .agg (aj st)] (.v (oI (xg s t st))) := by
  have fs := qP s st.other h1
  have ov := ID st.ae t.pk h4 (by omega)
  have spec : xg s t st = match scan (CB t st) st.ae 0 with
    | some e => e
    | none => if st.ae.length = 0 then 3 else if ub st.ae t.pk ≠ 0 then 9 else if 0 ≤ aY s.tables st.other then 5 else 0 := rfl
  rw [spec]
  refine ZE Tryz.func134 Tryz.ntmps134 fun w0 m0 F0 => ?_
  refine ZW (Z1 @aj.eq_1) Z0 ?_
  refine ab.loop (ι := {k : Nat // k ≤ st.ae.length ∧ scan (CB t st) (st.ae.drop k) k = scan (CB t st) st.ae 0}) (fun k => ⟨61, [(3, .v (.one (.ptr 3 0))), (4, .v (.one (.ptr 4 0))), (5, .v (.one (.ptr 5 0))), (12, .v (.one (bj st.ae))), (13, .v (oI st.ae.length)), (14, .v (oI k.1))], [(3, aC s), (4, ap t), (5, aj st)], []⟩) (fun k => st.ae.length - k.1) ⟨0, bg _, rfl⟩ ?_ fun ⟨k, hkl, hi⟩ => ?_
  · exact ZL (Z2 @aC.eq_1 @aj.eq_1)
  simp only at hkl ⊢
  rcases cV k st.ae.length with hc | hc
  · refine pK (Z1 @aj.eq_1) Z0 ?_; repeat' (first | apply Zb | apply Zn | (apply Zm; intro h))
    all_goals
      first
        | (have hs : (CB t st) k st.ae[k] = none := by
             (simp (disch := omega) only [CB, bE]; (repeat' split) <;> first | rfl | with_reducible assumption | omega | (exfalso; omega) | (simp_all; done) | (simp_all; omega))
           refine ⟨⟨k + 1, by omega, by rw [wG (by omega) hs, hi]⟩, by simp only; omega, ?_⟩
           exact ZL (Z2 @aC.eq_1 @aj.eq_1)
           done)
        | (simp -dsimp (disch := first | exact D | fail) only [aR, Tryz.results134, aQ, aS, aO, St.rest, St.freeze, RT, go_sem, ↓reduceIte, seval]
           rw [vB (by omega) ?_ hi]
           all_goals first | with_reducible rfl | ((simp (disch := omega) only [CB, bE]; (repeat' split) <;> first | rfl | with_reducible assumption | omega | (exfalso; omega) | (simp_all; done) | (simp_all; omega)); done) | rfl
           done)
  · rw [xL (by omega)] at hi
    rw [← hi]
    simp only
    generalize ub st.ae t.pk = q at ov ⊢
    generalize aY s.tables st.other = z at fs ⊢
    refine pK (Z1 @aj.eq_1) (Z2 (ov) (fs)) ?_; repeat' (first | apply Zb | apply Zn | (apply Zm; intro h))
    all_goals simp -dsimp (disch := first | exact D | fail) only [aR, Tryz.results134, aQ, aS, aO, St.rest, St.freeze, RT, go_sem, ↓reduceIte, seval]
    all_goals simp_all
    all_goals omega
end Go.Bw
