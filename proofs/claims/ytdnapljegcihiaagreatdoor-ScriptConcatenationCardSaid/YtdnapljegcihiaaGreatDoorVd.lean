/-
  WHAT IS PROVED HERE, of this translation: take_snoc, getD_lt, cmpstring_sat, CompareString_sat, stringsCompare_sat, idx_step, idx_hit, idx_end, indexFuncTbl_sat, findTable1_sat, findTable_sat, scan_step, .., cmpL_lt, cmpS_lt, LtT.trans, LtT.ne, pairwise_of_adj, sorted_of, tblAt_none, tblAt_some, tblAt_at, place, checkSplit_satX.
  A theorem that ends in sat says what the function it names returns, whatever the state it is called in; the bounds on its arguments stand ahead of it.
-/
import Derived.Lib.Bytealg
import Derived.Laws.Externs
import Derived.Laws.Strings
import Derived.ChangeArms
import Derived.SizedLaws
import Derived.JoinedOf
import Derived.ChangeSame
import Derived.RowKit
import Derived.Carry
import Derived.Test.YtdnapljegcihiaaGreatDoorVc
set_option linter.unusedSimpArgs false
set_option linter.unusedVariables false
namespace Go.Bw
open Go.Proofs
def cmpInts (a b:Int):Int:=if a<b then -1 else if a > b then 1 else 0
def zV:Val:=⟨0,0,ByteArray.empty⟩
def keyCell (r:Row) (c:Int):Val:=if 0≤c∧c<r.length then r.getD c.toNat zV else zV
def keyOf (pk:List Int) (r:Row):Row:=pk.map (keyCell r)
theorem take_snoc {α:Type} (l:List α) (k:Nat) (h:k<l.length):l.take (k+1)=l.take k++[l[k]]:=by
 rw [List.take_succ_eq_append_getElem h]
theorem getD_lt {α:Type} {l:List α} {i:Nat} (d:α) (h:i<l.length):l.getD i d=l[i]:=by simp [List.getD,h]
section
open Go.RowKit
def cmpS (a b:ByteArray):Int:=Lib.compareBytes a.data.toList b.data.toList
theorem cmpstring_sat (a b:ByteArray):Sat Tryz.prog 197 [oS a,oS b] (.v (oI (cmpS a b))):=by
 refine ⟨fun m w vs ω hC hA=>?_⟩
 obtain ⟨hl,hA⟩:=hA
 obtain ⟨v1,h1,r1⟩:=hA 0 _ rfl
 obtain ⟨v2,h2,r2⟩:=hA 1 _ rfl
 have e:vs.toArray=#[v1,v2]:=by
  match vs,hl,h1,h2 with
  | [x,y],_,h1,h2=>simp at h1 h2;rw [h1,h2]
 have r1:Rep m v1 (.str a):=r1
 have r2:Rep m v2 (.str b):=r2
 cases r1 with
 | str _=>cases r2 with
  | str _ =>
   refine .inl ⟨.int .i64 (cmpS a b),w,?_,?_⟩
   ·rw [e,run_callFunc_extern Tryz.func197 (by kernel_rfl) (by kernel_rfl) (by kernel_rfl) (e:=Extern.BytealgCompare.compare) (by kernel_rfl),Lib.run_compareString]
    rfl
   ·exact ⟨m,ω,hC,Rep.int _ _⟩
theorem CompareString_sat (a b:ByteArray):Sat Tryz.prog 169 [oS a,oS b] (.v (oI (cmpS a b))):=by
 refine ZE Tryz.func169 Tryz.ntmps169 fun w0 m0 F0=>?_
 refine ZW Z0 (Z1 @cmpstring_sat) ?_
 exact ZQ (Z1 Tryz.results169)
theorem stringsCompare_sat (a b:ByteArray):Sat Tryz.prog 138 [oS a,oS b] (.v (oI (cmpS a b))):=by
 refine ZE Tryz.func138 Tryz.ntmps138 fun w0 m0 F0=>?_
 refine ZW Z0 (Z1 @CompareString_sat) ?_
 exact ZQ (Z1 Tryz.results138)
end
def cmpV (a b:Val):Int:=if cmpInts a.kind b.kind≠0 then cmpInts a.kind b.kind else if cmpInts a.int b.int≠0 then cmpInts a.int b.int else cmpS a.text b.text
def opEq:ByteArray:=⟨#[61]⟩
def opLt:ByteArray:=⟨#[60]⟩
def opLe:ByteArray:=⟨#[60,61]⟩
def sEq (a b:ByteArray):Bool:=a.toList==b.toList
def opOk (op:ByteArray):Bool:=sEq op opEq||sEq op opLt||sEq op opLe
def satE (op:ByteArray):Int:=if opOk op then 0 else 3
def valE (v:Val):Int :=
 if v.kind=0 then if v.int≠0∨sEq v.text ByteArray.empty=false then 3 else 0
 else if v.kind=1∨v.kind=2 then
  if sEq v.text ByteArray.empty=false then 3 else if (v.kind=2∧v.int≠0∧v.int≠1)∨v.int < -1000000000000∨v.int > 1000000000000 then 1 else 0
 else if v.kind=3 then if v.int≠0 then 3 else if v.text.size > 24 then 2 else 0
 else 7
def idx {α:Type} (p:α→Bool):List α→Nat→Int
 | [],_=>-1
 | x::l,k=>if p x then k else idx p l (k+1)
theorem idx_step {α:Type} {p:α→Bool} {l:List α} {k:Nat} (hk:k<l.length) (h:p l[k]=false):idx p (l.drop (k+1)) (k+1)=idx p (l.drop k) k:=by
 rw [List.drop_eq_getElem_cons hk,idx,h]
 simp
theorem idx_hit {α:Type} {p:α→Bool} {l:List α} {k:Nat} (hk:k<l.length) (h:p l[k]=true):idx p (l.drop k) k=k:=by
 rw [List.drop_eq_getElem_cons hk,idx,h]
 simp
theorem idx_end {α:Type} {p:α→Bool} {l:List α} {k:Nat} (hk:¬ k<l.length):idx p (l.drop k) k=-1:=by
 rw [List.drop_of_length_le (by omega),idx]
set_option maxHeartbeats 4000000 in
theorem indexFuncTbl_sat (l : List Tbl) (f : Nat) (cs : List L) (p : Tbl → Bool) (hlen : l.length ≤ 140737488355328) (hp : ∀ t ∈ l, Sat Tryz.prog f (.agg (eTbl t) :: cs.map .one) (.v (oB (p t)))) :
    Sat Tryz.prog 49 [.one (eTbls l), .one (.clo f cs)] (.v (oI (idx p l 0))) := by
  refine ZE Tryz.func49 Tryz.ntmps49 fun w0 m0 F0 => ?_
  refine ZW Z0 Z0 ?_
  refine AWP.loop (ι := {k : Nat // k ≤ l.length ∧ idx p (l.drop k) k = idx p l 0}) (fun k => ⟨19, [(0, .v (.one (eTbls l))), (1, .v (.one (.clo f cs))), (7, .v (oI l.length)), (8, .v (oI k.1))], [], []⟩) (fun k => l.length - k.1) ⟨0, Nat.zero_le _, rfl⟩ ?_ fun ⟨k, hkl, hi⟩ => ?_
  · exact ZL Z0
  repeat' (first | ((first | with_reducible refine qV tyOk fun K hK => ?_ | ((with_reducible refine CallJ.is ?_); (refine CallJ.pure (hp _ (List.getElem_mem (by omega))) ?_))) <;> simp -dsimp (disch := first | exact D | fail) only [go_sem, ↓reduceIte, seval]) | ((with_reducible refine hK _ ?_); clear hK K) | refine Q1 ?_ | ((with_reducible refine qW (T := TT) (b := ?_) ?_ ?_); rotate_left; exact rfl) | ((with_reducible refine yS ?_ ?_) <;> (intro h; try simp only [NM] at h)) | fail)
  all_goals first 
    | (have hk : ¬ k < l.length := by omega
       refine ZR (Z1 Tryz.results49) ?_
       rw [← hi, idx_end hk]
       done)
    | (
       refine ZR (Z1 Tryz.results49) ?_
       rw [← hi, idx_hit _ ‹_›])
    | (refine ⟨⟨k + 1, by omega, by rw [idx_step _ ‹_›, hi]⟩, by simp only; omega, ?_⟩
       exact ZL Z0
       )

def mx0 (i:Int):Int:=if i<0 then 0 else i
def tblAt (l:List Tbl) (name:ByteArray):Int:=idx (fun t=>sEq t.name name) l 0
def colAt (l:List Col) (name:ByteArray):Int:=idx (fun t=>sEq t.name name) l 0
theorem findTable1_sat (t:Tbl) (name:ByteArray):Sat Tryz.prog 50 [.agg (eTbl t),.one (.fz [.str name])] (.v (oB (sEq t.name name))):=by
 refine ZE Tryz.func50 Tryz.ntmps50 fun w0 m0 F0=>?_
 refine ZW Z0 Z0 ?_
 refine ZR (Z1 Tryz.results50) ?_
 rfl
theorem findTable_sat (s:Sch) (name:ByteArray) (hlen:s.tables.length≤140737488355328):Sat Tryz.prog 17 [.agg (eSch s),oS name] (.tup [oI (mx0 (tblAt s.tables name)),oB (decide (0≤tblAt s.tables name))]):=by
 refine ZE Tryz.func17 Tryz.ntmps17 fun w0 m0 F0=>?_
 repeat' (first|((first|with_reducible refine qV tyOk fun K hK=>?_|((with_reducible refine CallJ.is ?_);(((apply CallJ.lentI);(focus (simp -dsimp (disch:=first|exact D|fail) only [go_sem,↓reduceIte,seval];rfl));(focus (first|exact (indexFuncTbl_sat s.tables _ [.fz [.str name]] _ hlen fun t _=>findTable1_sat t name)))))))<;>simp -dsimp (disch:=first|exact D|fail) only [go_sem,↓reduceIte,seval])|((with_reducible refine hK _ ?_);clear hK K)|refine Q1 ?_|fail)
 refine ZR (Z1 Tryz.results17) ?_
 rfl
def okByte (b:UInt8):Bool:=!((decide ((b.toNat:Int)<97)||decide (122<(b.toNat:Int)))&&(decide ((b.toNat:Int)<48)||decide (57<(b.toNat:Int))))
def digit (b:UInt8):Bool:=decide (48≤(b.toNat:Int))&&decide ((b.toNat:Int)≤57)
def validName (s:ByteArray):Bool:=!(decide (s.size<1)||decide (12<s.size)||digit (s.data.toList.getD 0 0))&&s.data.toList.all okByte
def scan {α:Type} (f:Nat→α→Option Int):List α→Nat→Option Int
 | [],_=>none
 | x::l,k=>match f k x with
  | some e=>some e
  | none=>scan f l (k+1)
theorem scan_step {α:Type} {f:Nat→α→Option Int} {l:List α} {k:Nat} (hk:k<l.length) (h:f k l[k]=none):scan f (l.drop (k+1)) (k+1)=scan f (l.drop k) k:=by
 rw [List.drop_eq_getElem_cons hk,scan,h]
theorem scan_hit {α:Type} {f:Nat→α→Option Int} {l:List α} {k:Nat} {e:Int} (hk:k<l.length) (h:f k l[k]=some e):scan f (l.drop k) k=some e:=by
 rw [List.drop_eq_getElem_cons hk,scan,h]
theorem scan_end {α:Type} {f:Nat→α→Option Int} {l:List α} {k:Nat} (hk:¬ k<l.length):scan f (l.drop k) k=none:=by
 rw [List.drop_of_length_le (by omega),scan]
theorem scan_leaf {α:Type} {f:Nat→α→Option Int} {l:List α} {k:Nat} {e:Int} (hk:k<l.length) (h:f k l[k]=some e) (hi:scan f (l.drop k) k=scan f l 0):scan f l 0=some e:=by
 rw [←hi,scan_hit hk h]
def colE (t:Tbl) (k:Nat) (c:Col):Option Int :=
 if validName c.name=false then some 23 else if mx0 (colAt t.cols c.name)<k then some 5 else if c.kind<1∨3<c.kind then some 7 else none
def zCol:Col:=⟨ByteArray.empty,0,false⟩
def pkE (t:Tbl) (k:Nat) (c:Int):Option Int :=
 if c<0∨(t.cols.length:Int)≤c∨(t.cols.getD c.toNat zCol).nullable=true∨(0<(k:Int)∧c≤t.pk.getD ((k:Int) - 1).toNat 0) then some 9 else none
def tblE (t:Tbl):Int :=
 if validName t.name=false then 23 else if t.cols.length=0 then 3 else if 6<t.cols.length then 2 else
 match scan (colE t) t.cols 0 with
 | some e=>e
 | none=>match scan (pkE t) t.pk 0 with
  | some e=>e
  | none=>if t.pk.length=0 then 9 else 0
def fkEq (a b:FK):Bool:=sEq a.table b.table&&decide (a.cols=b.cols)&&sEq a.ref b.ref
def conEq (a b:Con):Bool:=sEq a.table b.table&&(a.left==b.left)&&sEq a.op b.op&&(a.right==b.right)&&(a.value.kind==b.value.kind)&&(a.value.int==b.value.int)&&sEq a.value.text b.value.text
theorem idx_cases {α:Type} (p:α→Bool):∀(l:List α) (k:Nat),(idx p l k=-1∧∀x∈l,p x=false)∨∃j,∃h:j<l.length,idx p l k=((k+j:Nat):Int)∧p l[j]=true∧∀i,∀hi:i<j,p (l[i]'(by omega))=false
 | [],k=>.inl ⟨rfl,fun x hx=>by cases hx⟩
 | x::l,k=>by
  cases hx:p x with
  | true=>exact .inr ⟨0,by simp,by simp [idx,hx],by simpa using hx,fun i hi=>by omega⟩
  | false =>
   rcases idx_cases p l (k+1) with ⟨h1,h2⟩|⟨j,hj,h1,h2,h3⟩
   ·refine .inl ⟨by simp [idx,hx,h1],fun y hy=>?_⟩
    rcases List.mem_cons.1 hy with rfl|hy
    ·exact hx
    ·exact h2 y hy
   ·refine .inr ⟨j+1,by simpa using hj,?_,by simpa using h2,fun i hi=>?_⟩
    ·simp only [idx,hx,Bool.false_eq_true,if_false,h1]
     omega
    ·cases i with
     | zero=>simpa using hx
     | succ i=>simpa using h3 i (by omega)
theorem scan_none {α:Type} {f:Nat→α→Option Int}:∀{l:List α} {k:Nat},scan f l k=none→∀j,∀h:j<l.length,f (k+j) l[j]=none
 | [],k,_,j,h=>by simp at h
 | x::l,k,hs,j,h=>by
  unfold scan at hs
  split at hs
  ·cases hs
  ·rename_i hx
   cases j with
   | zero=>simpa using hx
   | succ j =>
    have:=scan_none hs j (by simpa using h)
    rw [show k+(j+1)=k+1+j by omega]
    simpa using this
theorem mx0_nat (i:Nat):mx0 (i:Int)=i:=by simp [mx0];omega
theorem mx0_neg:mx0 (-1)=0:=rfl
structure OkTbl (t:Tbl):Prop where
 name:validName t.name=true
 cols0:t.cols.length≠0
 cols6:t.cols.length≤6
 col:∀k,∀h:k<t.cols.length,validName t.cols[k].name=true∧(k:Int)≤mx0 (colAt t.cols t.cols[k].name)∧1≤t.cols[k].kind∧t.cols[k].kind≤3
 key:∀k,∀h:k<t.pk.length,0≤t.pk[k]∧t.pk[k]<t.cols.length∧(t.cols.getD t.pk[k].toNat zCol).nullable=false∧∀h0:0<k,t.pk[k - 1]<t.pk[k]
 pk0:t.pk.length≠0
theorem okTbl_of {t:Tbl} (h:tblE t=0):OkTbl t:=by
 unfold tblE at h
 split at h
 ·cases h
 split at h
 ·cases h
 split at h
 ·cases h
 rename_i h1 h2 h3
 cases hc:scan (colE t) t.cols 0 with
 | some e =>
  rw [hc] at h
  simp only at h
  subst h
  exfalso
  -- no code of a column is 0
  have:∀(l:List Col) (k:Nat) (e:Int),scan (colE t) l k=some e→e≠0:=by
   intro l
   induction l with
   | nil=>intro k e he;cases he
   | cons x l ih =>
    intro k e he
    unfold scan at he
    split at he
    ·rename_i e' he'
     injection he with he
     subst he
     unfold colE at he'
     split at he'
     ·injection he' with he';omega
     split at he'
     ·injection he' with he';omega
     split at he'
     ·injection he' with he';omega
     ·cases he'
    ·exact ih _ _ he
  exact this _ _ _ hc rfl
 | none =>
  rw [hc] at h
  simp only at h
  cases hp:scan (pkE t) t.pk 0 with
  | some e =>
   rw [hp] at h
   simp only at h
   subst h
   exfalso
   have:∀(l:List Int) (k:Nat) (e:Int),scan (pkE t) l k=some e→e≠0:=by
    intro l
    induction l with
    | nil=>intro k e he;cases he
    | cons x l ih =>
     intro k e he
     unfold scan at he
     split at he
     ·rename_i e' he'
      injection he with he
      subst he
      unfold pkE at he'
      split at he'
      ·injection he' with he';omega
      ·cases he'
     ·exact ih _ _ he
   exact this _ _ _ hp rfl
  | none =>
   rw [hp] at h
   simp only at h
   split at h
   ·cases h
   rename_i h4
   refine ⟨by simpa using h1,h2,by omega,fun k hk=>?_,fun k hk=>?_,h4⟩
   ·have:=scan_none hc k hk
    simp only [Nat.zero_add,colE] at this
    split at this
    ·cases this
    split at this
    ·cases this
    split at this
    ·cases this
    rename_i a b c
    exact ⟨by simpa using a,by omega,by omega,by omega⟩
   ·have:=scan_none hp k hk
    simp only [Nat.zero_add,pkE] at this
    split at this
    ·cases this
    rename_i a
    simp only [not_or,Int.not_lt,Int.not_le,Bool.not_eq_true,not_and] at a
    refine ⟨a.1,a.2.1,a.2.2.1,fun h0=>?_⟩
    have:=a.2.2.2 (by omega)
    rw [show ((k:Int) - 1).toNat=k - 1 by omega,List.getD_eq_getElem?_getD,List.getElem?_eq_getElem (by omega)] at this
    simpa using this
def zTbl:Tbl:=⟨ByteArray.empty,[],[]⟩
def fkColE (t r:Tbl) (j:Nat) (c:Int):Option Int :=
 if c<0∨(t.cols.length:Int)≤c then some 3 else if (t.cols.getD c.toNat zCol).kind≠(r.cols.getD (r.pk.getD j 0).toNat zCol).kind then some 7 else none
def fkTE (fk:FK) (t r:Tbl):Int:=if fk.cols.length≠r.pk.length then 3 else match scan (fkColE t r) fk.cols 0 with|some e=>e|none=>0
def fkE (s:Sch) (fk:FK):Int :=
 if tblAt s.tables fk.table<0∨tblAt s.tables fk.ref<0 then 4 else fkTE fk (s.tables.getD (tblAt s.tables fk.table).toNat zTbl) (s.tables.getD (tblAt s.tables fk.ref).toNat zTbl)
def conE (s:Sch) (c:Con):Int :=
 if tblAt s.tables c.table<0 then 4 else
 let cols:=(s.tables.getD (tblAt s.tables c.table).toNat zTbl).cols
 if c.left<0∨(cols.length:Int)≤c.left∨opOk c.op=false∨c.right < -1∨(cols.length:Int)≤c.right∨(0≤c.right∧c.value≠zV) then 3
 else if 0≤c.right then (if (cols.getD c.left.toNat zCol).kind≠(cols.getD c.right.toNat zCol).kind then 7 else 0)
 else if c.value.kind≠(cols.getD c.left.toNat zCol).kind then 7 else valE c.value
def tblsE (ts:List Tbl) (k:Nat) (t:Tbl):Option Int :=
 if tblE t≠0 then some (tblE t) else if 0<(k:Int)∧(Op.bytesLess t.name.toList (ts.getD ((k:Int) - 1).toNat zTbl).name.toList=true∨t.name.toList=(ts.getD ((k:Int) - 1).toNat zTbl).name.toList) then some 6 else none
def fksE (s:Sch) (k:Nat) (f:FK):Option Int :=
 if fkE s f≠0 then some (fkE s f) else if 0≤idx (fun o=>fkEq o f) (s.fks.take k) 0 then some 5 else none
def consE (s:Sch) (k:Nat) (c:Con):Option Int :=
 if conE s c≠0 then some (conE s c) else if 0≤idx (conEq c) (s.cons.take k) 0 then some 5 else none
def schE (s:Sch):Int :=
 if 6<s.tables.length∨8<s.fks.length∨8<s.cons.length then 2 else
 match scan (tblsE s.tables) s.tables 0 with
 | some e=>e
 | none=>match scan (fksE s) s.fks 0 with
  | some e=>e
  | none=>match scan (consE s) s.cons 0 with
   | some e=>e
   | none=>0
structure Sch.Fits (s:Sch):Prop where
 tables:s.tables.length≤140737488355328
 table:∀t∈s.tables,t.cols.length≤140737488355328∧t.pk.length≤140737488355328
 fks:s.fks.length≤140737488355328
 fk:∀f∈s.fks,f.cols.length≤140737488355328
 cons:s.cons.length≤140737488355328
theorem bl_cons (x y:UInt8) (a b:List UInt8):Op.bytesLess (x::a) (y::b)=true↔x.toNat<y.toNat∨(x=y∧Op.bytesLess a b=true):=by
 simp [Op.bytesLess,UInt8.lt_iff_toNat_lt]
theorem bl_trans:∀{a b c:List UInt8},Op.bytesLess a b=true→Op.bytesLess b c=true→Op.bytesLess a c=true
 | [],[],_,h,_=>by simp [Op.bytesLess] at h
 | _::_,[],_,h,_=>by simp [Op.bytesLess] at h
 | _,_::_,[],_,h=>by simp [Op.bytesLess] at h
 | [],_::_,_::_,_,_=>by simp [Op.bytesLess]
 | x::a,y::b,z::c,h1,h2=>by
  rw [bl_cons] at h1 h2 ⊢
  rcases h1 with h1|⟨rfl,h1⟩
  ·rcases h2 with h2|⟨rfl,h2⟩
   ·exact .inl (by omega)
   ·exact .inl h1
  ·rcases h2 with h2|⟨rfl,h2⟩
   ·exact .inl h2
   ·exact .inr ⟨rfl,bl_trans h1 h2⟩
theorem bl_total:∀{a b:List UInt8},Op.bytesLess a b=false→a≠b→Op.bytesLess b a=true
 | [],[],_,h=>absurd rfl h
 | [],_::_,h,_=>by simp [Op.bytesLess] at h
 | _::_,[],_,_=>by simp [Op.bytesLess]
 | x::a,y::b,h,hne=>by
  have h':¬ (x.toNat<y.toNat∨(x=y∧Op.bytesLess a b=true)):=fun e=>by rw [←bl_cons,h] at e;cases e
  rw [bl_cons]
  by_cases hxy:x=y
  ·subst hxy
   refine .inr ⟨rfl,bl_total ?_ (fun e=>hne (by rw [e]))⟩
   cases hb:Op.bytesLess a b with
   | false=>rfl
   | true=>exact absurd (.inr ⟨rfl,hb⟩) h'
  ·refine .inl ?_
   have:x.toNat≠y.toNat:=fun e=>hxy (UInt8.toNat_inj.1 e)
   have:¬ x.toNat<y.toNat:=fun e=>h' (.inl e)
   omega
theorem chain_lt {ns:List (List UInt8)} (h:∀k,∀h:k+1<ns.length,Op.bytesLess ns[k] ns[k+1]=true):∀d i,∀h:i+d+1<ns.length,Op.bytesLess ns[i] ns[i+d+1]=true
 | 0,i,hi=>h i hi
 | d+1,i,hi=>bl_trans (chain_lt h d i (by omega)) (h (i+d+1) hi)
structure OkSch (s:Sch):Prop where
 tbl:∀t∈s.tables,OkTbl t
 lt:∀i j,∀h:i<j,∀hj:j<s.tables.length,Op.bytesLess s.tables[i].name.toList s.tables[j].name.toList=true
 n6:s.tables.length≤6
 n8:s.fks.length≤8
 m8:s.cons.length≤8
theorem okSch_of {s:Sch} (h:schE s=0):OkSch s:=by
 unfold schE at h
 split at h
 ·cases h
 rename_i h0
 cases hs:scan (tblsE s.tables) s.tables 0 with
 | some e =>
  rw [hs] at h
  simp only at h
  subst h
  exfalso
  have:∀(l:List Tbl) (k:Nat) (e:Int),scan (tblsE s.tables) l k=some e→e≠0:=by
   intro l
   induction l with
   | nil=>intro k e he;cases he
   | cons x l ih =>
    intro k e he
    unfold scan at he
    split at he
    ·rename_i e' he'
     injection he with he
     subst he
     unfold tblsE at he'
     split at he'
     ·rename_i hne
      injection he' with he'
      rw [←he']
      exact hne
     ·split at he'
      ·injection he' with he';omega
      ·cases he'
    ·exact ih _ _ he
  exact this _ _ _ hs rfl
 | none =>
  have hk:∀k,∀h:k<s.tables.length,tblE s.tables[k]=0∧(0<k→¬ (Op.bytesLess s.tables[k].name.toList s.tables[k - 1].name.toList=true∨s.tables[k].name.toList=s.tables[k - 1].name.toList)):=by
   intro k hk
   have h1:=scan_none hs k hk
   rw [Nat.zero_add,tblsE] at h1
   split at h1
   ·cases h1
   rename_i h2
   split at h1
   ·cases h1
   rename_i h3
   refine ⟨by simpa using h2,fun h0 h4=>h3 ⟨by omega,?_⟩⟩
   rw [show ((k:Int) - 1).toNat=k - 1 by omega,List.getD_eq_getElem?_getD,List.getElem?_eq_getElem (by omega)]
   exact h4
  have hstep:∀k,∀h:k+1<s.tables.length,Op.bytesLess s.tables[k].name.toList s.tables[k+1].name.toList=true:=by
   intro k h1
   have h2:=(hk (k+1) h1).2 (by omega)
   simp only [not_or,Bool.not_eq_true,Nat.add_sub_cancel] at h2
   exact bl_total h2.1 h2.2
  refine ⟨fun t ht=>?_,fun i j hij hj=>?_,by omega,by omega,by omega⟩
  ·obtain ⟨j,hj,rfl⟩:=List.mem_iff_getElem.1 ht
   exact okTbl_of (hk j hj).1
  ·have h1:=chain_lt (ns:=s.tables.map fun t=>t.name.toList) (fun k h=>by simpa using hstep k (by simpa using h)) (j - i - 1) i (by simp;omega)
   simp only [List.getElem_map] at h1
   have e:i+(j - i - 1)+1=j:=by omega
   simpa only [e] using h1
def cellE (t:Tbl) (k:Nat) (v:Val):Option Int :=
 if valE v≠0 then some (valE v) else if v.kind=0∧(t.cols.getD k zCol).nullable=false then some 8 else if v.kind≠0∧v.kind≠(t.cols.getD k zCol).kind then some 7 else none
def rowE (t:Tbl) (r:Row):Int :=
 if r.length≠t.cols.length then 3 else match scan (cellE t) r 0 with
  | some e=>e
  | none=>0
def cmpCell (b:Row) (k:Nat) (x:Val):Option Int:=if k<b.length∧cmpV x (b.getD k zV)≠0 then some (cmpV x (b.getD k zV)) else none
def cmpRows (a b:Row):Int:=match scan (cmpCell b) a 0 with
 | some e=>e
 | none=>cmpInts a.length b.length
theorem scan_all_none {α:Type} {f:Nat→α→Option Int}:∀{l:List α} {k:Nat},(∀j x,k≤j→f j x=none)→scan f l k=none
 | [],_,_=>rfl
 | x::l,k,h=>by
  rw [scan,h k x (Nat.le_refl _)]
  exact scan_all_none fun j y hj=>h j y (by omega)
theorem scan_ne {α:Type} {f:Nat→α→Option Int} (h:∀k x e,f k x=some e→e≠0):∀{l:List α} {k:Nat} {e:Int},scan f l k=some e→e≠0
 | [],k,e,he=>by cases he
 | x::l,k,e,he=>by
  unfold scan at he
  split at he
  ·rename_i e' he'
   injection he with he
   subst he
   exact h _ _ _ he'
  ·exact scan_ne h he
theorem scan_all {α:Type} {f:Nat→α→Option Int}:∀{l:List α} {k:Nat},(∀j,∀h:j<l.length,f (k+j) l[j]=none)→scan f l k=none
 | [],_,_=>rfl
 | x::l,k,h=>by
  have h0:=h 0 (by simp)
  simp only [Nat.add_zero,List.getElem_cons_zero] at h0
  rw [scan,h0]
  exact scan_all fun j hj=>by
   have:=h (j+1) (by simpa using hj)
   rw [show k+1+j=k+(j+1) by omega]
   simpa using this
theorem scan_eq_none {α:Type} {f:Nat→α→Option Int} {l:List α}:scan f l 0=none↔∀j,∀h:j<l.length,f j l[j]=none :=
 ⟨fun h j hj=>by have:=scan_none h j hj;rwa [Nat.zero_add] at this,fun h=>scan_all fun j hj=>by rw [Nat.zero_add];exact h j hj⟩
def orE (x:Option Int) (y:Int):Int:=match x with|some e=>e|none=>y
theorem scan_zero {α:Type} {f:Nat→α→Option Int} {l:List α} {k:Nat} {y:Int} (h:∀k x e,f k x=some e→e≠0):orE (scan f l k) y=0↔scan f l k=none∧y=0:=by
 cases hs:scan f l k with
 | none=>simp [orE]
 | some e=>simp [orE,scan_ne h hs]
theorem tblsE_ne (ts:List Tbl):∀k x e,tblsE ts k x=some e→e≠0:=by
 intro k x e h
 unfold tblsE at h
 split at h
 ·rename_i hne;injection h with h;rw [←h];exact hne
 ·split at h
  ·injection h with h;omega
  ·cases h
theorem fksE_ne (s:Sch):∀k x e,fksE s k x=some e→e≠0:=by
 intro k x e h
 unfold fksE at h
 split at h
 ·rename_i hne;injection h with h;rw [←h];exact hne
 ·split at h
  ·injection h with h;omega
  ·cases h
theorem consE_ne (s:Sch):∀k x e,consE s k x=some e→e≠0:=by
 intro k x e h
 unfold consE at h
 split at h
 ·rename_i hne;injection h with h;rw [←h];exact hne
 ·split at h
  ·injection h with h;omega
  ·cases h
theorem schE_zero (s:Sch):schE s=0↔(s.tables.length≤6∧s.fks.length≤8∧s.cons.length≤8)∧(∀j,∀h:j<s.tables.length,tblsE s.tables j s.tables[j]=none) ∧
  (∀j,∀h:j<s.fks.length,fksE s j s.fks[j]=none)∧∀j,∀h:j<s.cons.length,consE s j s.cons[j]=none:=by
 unfold schE
 split
 ·simp only [false_iff,not_and,reduceCtorEq,show (2:Int)≠0 by decide]
  omega
 ·change orE (scan (tblsE s.tables) s.tables 0) (orE (scan (fksE s) s.fks 0) (orE (scan (consE s) s.cons 0) 0))=0↔_
  rw [scan_zero (tblsE_ne _),scan_zero (fksE_ne s),scan_zero (consE_ne s),scan_eq_none,scan_eq_none,scan_eq_none]
  constructor
  ·rintro ⟨h1,h2,h3,_⟩;exact ⟨by omega,h1,h2,h3⟩
  ·rintro ⟨_,h1,h2,h3⟩;exact ⟨h1,h2,h3,rfl⟩
theorem OkTbl.pk_ge {t:Tbl} (h:OkTbl t):∀k,∀hk:k<t.pk.length,(k:Int)≤t.pk[k]
 | 0,hk=>(h.key 0 hk).1
 | k+1,hk=>by
  have h1:=pk_ge h k (by omega)
  have h2:=(h.key (k+1) hk).2.2.2 (by omega)
  simp only [Nat.add_sub_cancel] at h2
  omega
theorem OkTbl.pk6 {t:Tbl} (h:OkTbl t):t.pk.length≤t.cols.length:=by
 rcases Nat.eq_zero_or_pos t.pk.length with h0|h0
 ·omega
 ·have h1:=h.pk_ge (t.pk.length - 1) (by omega)
  have h2:=(h.key (t.pk.length - 1) (by omega)).2.1
  omega
theorem fkE_zero {s:Sch} {f:FK} (h:fkE s f=0):∃i q,∃hi:i<s.tables.length,∃hq:q<s.tables.length,tblAt s.tables f.table=(i:Int)∧tblAt s.tables f.ref=(q:Int)∧f.cols.length=s.tables[q].pk.length ∧
  ∀j,∀hj:j<f.cols.length,0≤f.cols[j]∧f.cols[j]<s.tables[i].cols.length:=by
 unfold fkE at h
 split at h
 ·cases h
 rename_i h0
 rcases idx_cases (fun t=>sEq t.name f.table) s.tables 0 with ⟨e1,_⟩|⟨i,hi,e1,_⟩
 ·have e1:tblAt s.tables f.table=-1:=e1
  omega
 rcases idx_cases (fun t=>sEq t.name f.ref) s.tables 0 with ⟨e2,_⟩|⟨q,hq,e2,_⟩
 ·have e2:tblAt s.tables f.ref=-1:=e2
  omega
 have e1:tblAt s.tables f.table=(i:Int):=by unfold tblAt;simpa using e1
 have e2:tblAt s.tables f.ref=(q:Int):=by unfold tblAt;simpa using e2
 simp only [e1,e2,Int.toNat_natCast,getD_lt _ hi,getD_lt _ hq,fkTE] at h
 split at h
 ·cases h
 rename_i h1
 change orE (scan (fkColE s.tables[i] s.tables[q]) f.cols 0) 0=0 at h
 rw [scan_zero (fun k x e he=>by
  unfold fkColE at he
  split at he
  ·injection he with he;omega
  ·split at he
   ·injection he with he;omega
   ·cases he),scan_eq_none] at h
 refine ⟨i,q,hi,hq,e1,e2,by omega,fun j hj=>?_⟩
 have:=h.1 j hj
 unfold fkColE at this
 split at this
 ·cases this
 ·omega
structure Small (s:Sch):Prop where
 tables:s.tables.length≤6
 table:∀t∈s.tables,t.cols.length≤6∧t.pk.length≤6
 fks:s.fks.length≤8
 fk:∀f∈s.fks,f.cols.length≤6
 cons:s.cons.length≤8
theorem small_of {s:Sch} (h:schE s=0):Small s:=by
 have ok:=okSch_of h
 obtain ⟨h1,h2,h3,h4⟩:=(schE_zero s).1 h
 refine ⟨h1.1,fun t ht=>?_,h1.2.1,fun f hf=>?_,h1.2.2⟩
 ·have o:=ok.tbl t ht
  have:=o.pk6
  have:=o.cols6
  omega
 ·obtain ⟨j,hj,rfl⟩:=List.mem_iff_getElem.1 hf
  have h5:=h3 j hj
  unfold fksE at h5
  split at h5
  ·cases h5
  rename_i h6
  obtain ⟨i,q,hi,hq,_,_,h7,_⟩:=fkE_zero (s:=s) (f:=s.fks[j]) (by simpa using h6)
  have o:=ok.tbl _ (List.getElem_mem hq)
  have:=o.pk6
  have:=o.cols6
  omega
structure OkRel (t:Tbl) (rows:List Row):Prop where
 n24:rows.length≤24
 row:∀j,∀h:j<rows.length,rowE t rows[j]=0
 ord:∀j,∀h:j+1<rows.length,cmpRows (keyOf t.pk rows[j]) (keyOf t.pk rows[j+1])<0
section
structure Stp where
 kind:Int
 table:ByteArray
 other:ByteArray
 column:ByteArray
 newName:ByteArray
 typ:Int
 cols:List Int
 op:ByteArray
 value:Val
 newTable:Tbl
 con:Con
 fk:FK
 deriving DecidableEq,Inhabited
def eStp (s:Stp):List L:=[.int .i64 s.kind,.str s.table,.str s.other,.str s.column,.str s.newName,.int .i64 s.typ,eInts s.cols,.str s.op,
 .int .i64 s.value.kind,.int .i64 s.value.int,.str s.value.text,.str s.newTable.name,eCols s.newTable.cols,eInts s.newTable.pk,
 .str s.con.table,.int .i64 s.con.left,.str s.con.op,.int .i64 s.con.right,.int .i64 s.con.value.kind,.int .i64 s.con.value.int,.str s.con.value.text,
 .str s.fk.table,eInts s.fk.cols,.str s.fk.ref]
def zCon:Con:=⟨ByteArray.empty,0,ByteArray.empty,0,⟨0,0,ByteArray.empty⟩⟩
def zFK:FK:=⟨ByteArray.empty,[],ByteArray.empty⟩
def zStp:Stp:=⟨0,ByteArray.empty,ByteArray.empty,ByteArray.empty,ByteArray.empty,0,[],ByteArray.empty,⟨0,0,ByteArray.empty⟩,⟨ByteArray.empty,[],[]⟩,zCon,zFK⟩
def evNorm (s:Stp):Stp :=
 if s.kind=1 then {zStp with kind:=s.kind,table:=s.table,column:=s.column,typ:=s.typ,value:=s.value}
 else if s.kind=2 then {zStp with kind:=s.kind,table:=s.table,column:=s.column,value:=s.value}
 else if s.kind=3 then {zStp with kind:=s.kind,table:=s.table,column:=s.column,newName:=s.newName}
 else if s.kind=4 then {zStp with kind:=s.kind,table:=s.table,newName:=s.newName}
 else if s.kind=5 then {zStp with kind:=s.kind,table:=s.table,column:=s.column,typ:=s.typ}
 else if s.kind=6 then {zStp with kind:=s.kind,table:=s.table,other:=s.other,cols:=s.cols}
 else if s.kind=7 then {zStp with kind:=s.kind,table:=s.table,other:=s.other}
 else if s.kind=8 then {zStp with kind:=s.kind,table:=s.table,column:=s.column,op:=s.op,value:=s.value,other:=s.other}
 else if s.kind=9 then {zStp with kind:=s.kind,table:=s.table,other:=s.other,column:=s.column}
 else if s.kind=10 then {zStp with kind:=s.kind,newTable:=s.newTable}
 else if s.kind=12 then {zStp with kind:=s.kind,table:=s.table,column:=s.column,cols:=s.cols}
 else if s.kind=13∨s.kind=14 then {zStp with kind:=s.kind,con:=s.con}
 else if s.kind=15∨s.kind=16 then {zStp with kind:=s.kind,fk:=s.fk}
 else {zStp with kind:=s.kind,table:=s.table}
def evValE (s:Stp):Int:=if s.kind<1∨16<s.kind∨s≠evNorm s then 3 else 0
abbrev Res:=Except Int Sch
def unusedE (s:Sch) (t:Tbl) (c:Int):Int :=
 if t.pk.elem c then 9 else if s.fks.any fun f=>sEq f.table t.name&&f.cols.elem c then 10
 else if s.cons.any fun k=>sEq k.table t.name&&(k.left==c||k.right==c) then 11 else 0
def remapFK (table:ByteArray) (g:Int→Int) (f:FK):FK:=if sEq f.table table then {f with cols:=f.cols.map g} else f
def remapCon (table:ByteArray) (g:Int→Int) (c:Con):Con:=if sEq c.table table then {c with left:=g c.left,right:=if 0≤c.right then g c.right else c.right} else c
def remapS (s:Sch) (table:ByteArray) (g:Int→Int):Sch:={s with fks:=s.fks.map (remapFK table g),cons:=s.cons.map (remapCon table g)}
def setT (s:Sch) (i:Nat) (t:Tbl):Sch:={s with tables:=s.tables.set i t}
def tAt (s:Sch) (i:Nat):Tbl:=s.tables.getD i zTbl
def shiftI (removed:List Int) (c:Int):Int:=c - ((removed.filter fun r=>decide (r<c)).length:Nat)
def dropAt {α:Type} (removed:List Int):List α→Nat→List α
 | [],_=>[]
 | x::l,k=>if removed.elem (k:Int) then dropAt removed l (k+1) else x::dropAt removed l (k+1)
def removeC (s:Sch) (i:Nat) (removed:List Int):Sch :=
 remapS (setT s i {tAt s i with cols:=dropAt removed (tAt s i).cols 0,pk:=(tAt s i).pk.map (shiftI removed)}) (tAt s i).name (shiftI removed)
def defaultE (v:Val) (c:Col):Int :=
 if valE v≠0 then valE v else if v.kind=0∧c.nullable=false then 8 else if v.kind≠0∧v.kind≠c.kind then 7 else 0
def addC (s:Sch) (i:Nat) (st:Stp):Res :=
 let c:Col:=⟨st.column,st.typ,st.value.kind==0⟩
 if defaultE st.value c≠0 then .error (defaultE st.value c) else .ok (setT s i {tAt s i with cols:=(tAt s i).cols++[c]})
def setC (t:Tbl) (k:Nat) (c:Col):Tbl:={t with cols:=t.cols.set k c}
def alterC (s:Sch) (i:Nat) (st:Stp):Res :=
 let t:=tAt s i
 let k:=colAt t.cols st.column
 let c:=t.cols.getD k.toNat zCol
 if k<0 then .error 4
 else if st.kind=3 then (if 0≤colAt t.cols st.newName then .error 5 else .ok (setT s i (setC t k.toNat {c with name:=st.newName})))
 else if unusedE s t k≠0 then .error (unusedE s t k)
 else if st.kind=5 then .ok (setT s i (setC t k.toNat {c with kind:=st.typ}))
 else if defaultE st.value c≠0 then .error (defaultE st.value c)
 else .ok (removeC s i [k])
def concatC (s:Sch) (i:Nat) (st:Stp):Res :=
 match st.cols with
 | [a,b] =>
  let t:=tAt s i
  if a<0∨b≤a∨(t.cols.length:Int)≤b then .error 3
  else
   let x:=t.cols.getD a.toNat zCol
   let y:=t.cols.getD b.toNat zCol
   if x.kind≠3∨y.kind≠3 then .error 7
   else if unusedE s t a≠0 then .error (unusedE s t a)
   else if unusedE s t b≠0 then .error (unusedE s t b)
   else
    let u:=removeC s i [a,b]
    .ok (setT u i {tAt u i with cols:=(tAt u i).cols++[⟨st.column,3,x.nullable&&y.nullable⟩]})
 | _=>.error 3
def dropCon (s:Sch) (c:Con):Res :=
 let k:=idx (conEq c) s.cons 0
 if k<0 then .error 4 else .ok {s with cons:=s.cons.take k.toNat++s.cons.drop (k.toNat+1)}
def dropFK (s:Sch) (f:FK):Res :=
 let k:=idx (fun o=>fkEq o f) s.fks 0
 if k<0 then .error 4 else .ok {s with fks:=s.fks.take k.toNat++s.fks.drop (k.toNat+1)}
section
variable {α:Type} (c:α→α→Int)
def gswp (ds:List α) (i j:Nat):List α :=
 match ds[i]?,ds[j]? with
 | some x,some y=>(ds.set i y).set j x
 | _,_=>ds
def glessAt (ds:List α) (i j:Nat):Bool :=
 match ds[i]?,ds[j]? with
 | some x,some y=>decide (c x y<0)
 | _,_=>false
def gdown (a:Nat):Nat→List α→List α
 | 0,ds=>ds
 | j+1,ds=>if a<j+1∧glessAt c ds (j+1) j=true then gdown a j (gswp ds (j+1) j) else ds
def ginsR (a:Nat):Nat→Nat→List α→List α
 | 0,_,ds=>ds
 | n+1,i,ds=>ginsR a n (i+1) (gdown c a i ds)
def ginsS (a b:Nat) (ds:List α):List α:=ginsR c a (b - (a+1)) (a+1) ds
theorem gswp_eq {ds:List α} {i j:Nat} (hi:i<ds.length) (hj:j<ds.length):gswp ds i j=(ds.set i ds[j]).set j ds[i]:=by
 simp only [gswp,List.getElem?_eq_getElem hi,List.getElem?_eq_getElem hj]
theorem gswp_perm (ds:List α) (i j:Nat):(gswp ds i j).Perm ds:=by
 unfold gswp
 split
 ·next x y h1 h2 =>
  obtain ⟨hi,rfl⟩:=List.getElem?_eq_some_iff.1 h1
  obtain ⟨hj,rfl⟩:=List.getElem?_eq_some_iff.1 h2
  exact List.set_set_perm hi hj
 ·exact .refl _
theorem gdown_perm (a:Nat):∀(j:Nat) (ds:List α),(gdown c a j ds).Perm ds
 | 0,_=>.refl _
 | j+1,ds=>by
  rw [gdown]
  split
  ·exact (gdown_perm a j _).trans (gswp_perm ds _ _)
  ·exact .refl _
theorem ginsR_perm (a:Nat):∀(n i:Nat) (ds:List α),(ginsR c a n i ds).Perm ds
 | 0,_,_=>.refl _
 | n+1,i,ds=>(ginsR_perm a n _ _).trans (gdown_perm c a i ds)
theorem ginsS_perm (a b:Nat) (ds:List α):(ginsS c a b ds).Perm ds:=ginsR_perm c a _ _ ds
theorem glessAt_eq {ds:List α} {i j:Nat} (hi:i<ds.length) (hj:j<ds.length):glessAt c ds i j=decide (c ds[i] ds[j]<0):=by
 simp only [glessAt,List.getElem?_eq_getElem hi,List.getElem?_eq_getElem hj]
theorem gdown_step (a j:Nat) (ds:List α) (ha:a<j) (h:glessAt c ds j (j - 1)=true):gdown c a j ds=gdown c a (j - 1) (gswp ds j (j - 1)):=by
 obtain ⟨j,rfl⟩:∃k,j=k+1:=⟨j - 1,by omega⟩
 rw [gdown,if_pos ⟨ha,h⟩]
 rfl
theorem gdown_stop (a j:Nat) (ds:List α) (h:j≤a∨glessAt c ds j (j - 1)=false):gdown c a j ds=ds:=by
 cases j with
 | zero=>rfl
 | succ j =>
  rw [gdown,if_neg]
  rintro ⟨h1,h2⟩
  rcases h with h|h
  ·omega
  ·rw [Nat.add_sub_cancel,h2] at h;cases h
end
def cmpT (a b:Tbl):Int:=cmpS a.name b.name
def insertT (s:Sch) (t:Tbl):Sch:={s with tables:=ginsS cmpT 0 (s.tables.length+1) (s.tables++[t])}
def createT (s:Sch) (t:Tbl):Res:=if 0≤tblAt s.tables t.name then .error 5 else .ok (insertT s t)
def removeT (s:Sch) (name:ByteArray):Sch :=
 ⟨s.tables.filter fun t=>!sEq t.name name,s.fks.filter fun f=>!sEq f.table name,s.cons.filter fun c=>!sEq c.table name⟩
def dropT (s:Sch) (name:ByteArray):Res :=
 if s.fks.any fun f=>sEq f.ref name&&!sEq f.table name then .error 10 else .ok (removeT s name)
def ren (old name x:ByteArray):ByteArray:=if sEq x old then name else x
def renameT (s:Sch) (i:Nat) (name:ByteArray):Res :=
 if 0≤tblAt s.tables name then .error 5
 else
  let t:=tAt s i
  let u:=insertT {s with tables:=s.tables.take i++s.tables.drop (i+1)} {t with name:=name}
  .ok ⟨u.tables,s.fks.map fun f=>{f with table:=ren t.name name f.table,ref:=ren t.name name f.ref},s.cons.map fun c=>{c with table:=ren t.name name c.table}⟩
def seqI (n:Nat):List Int:=(List.range n).map fun i=>((i:Nat):Int)
def overlapI (cols set:List Int):Int :=
 let n:=(cols.filter fun c=>set.elem c).length
 if n=0 then 0 else if n=cols.length then 2 else 1
def conCols (c:Con):List Int:=if c.right<0 then [c.left] else [c.left,c.right]
def splitE (s:Sch) (t:Tbl) (st:Stp):Int :=
 match scan (fun k c=>if c<0∨(t.cols.length:Int)≤c∨(0<(k:Int)∧c≤st.cols.getD ((k:Int) - 1).toNat 0) then some 3 else none) st.cols 0 with
 | some e=>e
 | none=>if st.cols.length=0 then 3 else if overlapI st.cols t.pk≠0 then 9 else if 0≤tblAt s.tables st.other then 5 else 0
def movedI (n:Nat) (cols:List Int) (c:Int):Int:=(n:Int)+idx (fun x=>x==c) cols 0
def splitFK (t:Tbl) (st:Stp) (f:FK):FK :=
 if sEq f.table t.name&&(overlapI f.cols st.cols==2) then {f with table:=st.other,cols:=f.cols.map (movedI t.pk.length st.cols)} else f
def splitCon (t:Tbl) (st:Stp) (c:Con):Con :=
 if sEq c.table t.name&&(overlapI (conCols c) st.cols==2) then {c with table:=st.other,left:=movedI t.pk.length st.cols c.left,right:=if 0≤c.right then movedI t.pk.length st.cols c.right else c.right} else c
def splitT (s:Sch) (i:Nat) (st:Stp):Res :=
 let t:=tAt s i
 if splitE s t st≠0 then .error (splitE s t st)
 else if s.fks.any fun f=>sEq f.table t.name&&(overlapI f.cols st.cols==1) then .error 10
 else if s.cons.any fun c=>sEq c.table t.name&&(overlapI (conCols c) st.cols==1) then .error 11
 else
  let n:=t.pk.length
  let o:Tbl:=⟨st.other,(t.pk++st.cols).map fun c=>t.cols.getD c.toNat zCol,seqI n⟩
  let u:=insertT (removeC ⟨s.tables,s.fks.map (splitFK t st),s.cons.map (splitCon t st)⟩ i st.cols) o
  .ok {u with fks:=u.fks++[⟨st.other,seqI n,t.name⟩]}
def joinG (t:Tbl) (c:Int):Int:=if c<(t.pk.length:Int) then t.pk.getD c.toNat 0 else (t.cols.length:Int)+c - t.pk.length
def joinT (s:Sch) (i:Nat) (name:ByteArray):Res :=
 let k:=tblAt s.tables name
 if k<0 then .error 4
 else
  let t:=tAt s i
  let o:=tAt s k.toNat
  let n:=t.pk.length
  if (i:Int)=k∨o.pk≠seqI n then .error 9
  else match scan (fun j c=>if (t.cols.getD c.toNat zCol).kind≠(o.cols.getD j zCol).kind then some 9 else none) t.pk 0 with
   | some e=>.error e
   | none=>match dropFK s ⟨name,seqI n,t.name⟩ with
    | .error _=>.error 10
    | .ok s1 =>
     if s1.fks.any fun f=>sEq f.ref name then .error 10
     else
      let s2:=remapS s1 name (joinG t)
      .ok ⟨let ts:=s2.tables.set i {t with cols:=t.cols++o.cols.drop n};ts.take k.toNat++ts.drop (k.toNat+1),
       s2.fks.map fun f=>{f with table:=ren name t.name f.table},s2.cons.map fun c=>{c with table:=ren name t.name c.table}⟩
def partT (s:Sch) (i:Nat) (st:Stp):Res :=
 let t:=tAt s i
 let k:=colAt t.cols st.column
 if k<0 then .error 4
 else if satE st.op≠0 then .error (satE st.op)
 else if valE st.value≠0 then .error (valE st.value)
 else if st.value.kind≠(t.cols.getD k.toNat zCol).kind then .error 7
 else if 0≤tblAt s.tables st.other then .error 5
 else if s.fks.any fun f=>sEq f.ref t.name then .error 10
 else .ok (insertT ⟨s.tables,s.fks++(s.fks.filter fun f=>sEq f.table t.name).map fun f=>{f with table:=st.other},
  s.cons++(s.cons.filter fun c=>sEq c.table t.name).map fun c=>{c with table:=st.other}⟩ {t with name:=st.other})
def sameE (s:Sch) (table other:ByteArray):Int :=
 if s.fks.any fun f=>sEq f.ref table||sEq f.ref other then 10
 else if (s.fks.filter fun f=>sEq f.table table)≠((s.fks.filter fun f=>!sEq f.table table&&sEq f.table other).map fun f=>{f with table:=table}) then 10
 else if (s.cons.filter fun c=>sEq c.table table)≠((s.cons.filter fun c=>!sEq c.table table&&sEq c.table other).map fun c=>{c with table:=table}) then 11
 else 0
def mergeT (s:Sch) (i:Nat) (st:Stp):Res :=
 let k:=tblAt s.tables st.other
 if k<0 then .error 4
 else
  let t:=tAt s i
  let o:=tAt s k.toNat
  if (i:Int)=k∨t.cols≠o.cols∨t.pk≠o.pk then .error 7
  else if sameE s t.name o.name≠0 then .error (sameE s t.name o.name)
  else .ok (removeT (setT s i ⟨t.name,t.cols++[⟨st.column,2,false⟩],t.pk++[(t.cols.length:Int)]⟩) o.name)
def evApply (s:Sch) (st:Stp):Res :=
 if st.kind=13 then .ok {s with cons:=s.cons++[st.con]}
 else if st.kind=14 then dropCon s st.con
 else if st.kind=15 then .ok {s with fks:=s.fks++[st.fk]}
 else if st.kind=16 then dropFK s st.fk
 else if st.kind=10 then createT s st.newTable
 else
  let k:=tblAt s.tables st.table
  if k<0 then .error 4
  else if st.kind=4 then renameT s k.toNat st.newName
  else if st.kind=6 then splitT s k.toNat st
  else if st.kind=7 then joinT s k.toNat st.other
  else if st.kind=8 then partT s k.toNat st
  else if st.kind=9 then mergeT s k.toNat st
  else if st.kind=11 then dropT s st.table
  else if st.kind=12 then concatC s k.toNat st
  else if st.kind=1 then addC s k.toNat st
  else alterC s k.toNat st
def evoE (s:Sch) (st:Stp):Res :=
 if schE s≠0 then .error (schE s) else if evValE st≠0 then .error (evValE st) else
 match evApply s st with
 | .error e=>.error e
 | .ok t=>if schE t≠0 then .error (schE t) else .ok t
def rE {α:Type}:Except Int α→Int
 | .error e=>e
 | .ok _=>0
end
theorem CallJ.apart {P:Program} {T:TypeId→Option TI} {ops:Array Oper} {l:List Oper} {K:St→Prop} {f:FuncId} {fn:Func} {s:St} {d:Option Tmp} {id lo n id' lo' n':Nat} (t e:TypeId) (tR:TypeId) (sz:Nat) (r r':RowC) (hf:P.funcs[f]?=some fn) (hname:(fn.name=="runtime.NumGoroutine")=false)
  (hb:fn.body.isNone=true) (hn:Extern.findNext fn=none) (he:Extern.find fn=some (Extern.SlicesOverlaps.overlaps #[t,t] #[tR])) (ht:P.underlying t=some (.slice e)) (hz:∀w,(sizeOf e).run P w=.ok sz w)
  (hne:id≠id') (hr:look s.row id=some r) (hr':look s.row id'=some r') (hcl:ovOut r'.ov r'.xs.length) (hfit:lo'+n'≤r'.xs.length) (h0:0<n') (hs0:0<r'.sz)
  (hk:s.okD d∧VOps P T ops l (St.putO {s with row:=sput id' ⟨r'.sz,r'.xs.take (lo'+n'),[]⟩ s.row} d (.v (.one (.bool false)))) K):CallJ P T ops d l s K (f,[.one (.ref id lo n),.one (.ref id' lo' n')]) :=
 ⟨_,CallMoves.apart hf hname hb hn he ht hz hk.1 hne hr hr' hcl hfit h0 hs0,hk.2⟩
theorem toList_inj {a b:ByteArray} (h:a.toList=b.toList):a=b:=by
 rw [ByteArray.toList_eq,ByteArray.toList_eq] at h
 cases a;cases b
 simp only at h
 congr 1
 exact Array.ext' h
theorem sEq_iff {a b:ByteArray}:sEq a b=true↔a=b:=by
 simp only [sEq,beq_iff_eq]
 exact ⟨toList_inj,fun h=>by rw [h]⟩
structure IsCmp {α:Type} (c:α→α→Int):Prop where
 eq0:∀a b,c a b=0↔a=b
 anti:∀a b,c a b=-(c b a)
 trans:∀x y z,c x y<0→c y z<0→c x z<0
theorem IsCmp.refl {α:Type} {c:α→α→Int} (h:IsCmp c) (a:α):c a a=0:=(h.eq0 a a).2 rfl
theorem IsCmp.total {α:Type} {c:α→α→Int} (h:IsCmp c) (a b:α):c a b<0∨a=b∨c b a<0:=by
 have h1:=h.anti a b
 have h2:=h.eq0 a b
 rcases Int.lt_trichotomy (c a b) 0 with h3|h3|h3
 ·exact .inl h3
 ·exact .inr (.inl (h2.1 h3))
 ·exact .inr (.inr (by omega))
theorem IsCmp.le_trans {α:Type} {c:α→α→Int} (h:IsCmp c) {x y z:α} (h1:c x y≤0) (h2:c y z≤0):c x z≤0:=by
 rcases Int.lt_or_eq_of_le h1 with h1|h1
 ·rcases Int.lt_or_eq_of_le h2 with h2|h2
  ·exact Int.le_of_lt (h.trans _ _ _ h1 h2)
  ·rw [←(h.eq0 _ _).1 h2];omega
 ·rw [(h.eq0 _ _).1 h1];exact h2
theorem cmpInts_is:IsCmp cmpInts:=by
 refine ⟨fun a b=>?_,fun a b=>?_,fun x y z=>?_⟩<;>unfold cmpInts<;>(repeat' split)<;>omega
theorem cmpL_is:IsCmp Lib.compareBytes:=by
 refine ⟨fun a=>?_,fun a=>?_,fun a=>?_⟩
 ·induction a with
  | nil=>intro b;cases b<;>simp [Lib.compareBytes]
  | cons x a ih =>
   intro b
   cases b with
   | nil=>simp [Lib.compareBytes]
   | cons y b =>
    simp only [Lib.compareBytes,List.cons.injEq]
    have:=ih b
    have hxy:x=y↔x.toNat=y.toNat:=⟨fun h=>by rw [h],fun h=>UInt8.toNat_inj.1 h⟩
    simp only [UInt8.lt_iff_toNat_lt] at *
    (repeat' split)<;>simp_all<;>omega
 ·induction a with
  | nil=>intro b;cases b<;>simp [Lib.compareBytes]
  | cons x a ih =>
   intro b
   cases b with
   | nil=>simp [Lib.compareBytes]
   | cons y b =>
    simp only [Lib.compareBytes]
    have:=ih b
    simp only [UInt8.lt_iff_toNat_lt] at *
    (repeat' split)<;>simp_all<;>omega
 ·induction a with
  | nil =>
   intro y z h1 h2
   cases y<;>cases z<;>simp_all [Lib.compareBytes]
  | cons x a ih =>
   intro b c h1 h2
   cases b with
   | nil=>simp [Lib.compareBytes] at h1
   | cons y b =>
    cases c with
    | nil=>simp [Lib.compareBytes] at h2
    | cons z c =>
     simp only [Lib.compareBytes] at *
     have:=ih b c
     simp only [UInt8.lt_iff_toNat_lt] at *
     (repeat' split)<;>(repeat' split at h1)<;>(repeat' split at h2)<;>simp_all<;>omega
theorem cmpS_is:IsCmp cmpS:=by
 refine ⟨fun a b=>?_,fun a b=>cmpL_is.anti _ _,fun x y z=>cmpL_is.trans _ _ _⟩
 unfold cmpS
 rw [cmpL_is.eq0]
 exact ⟨fun h=>toList_inj (by rw [ByteArray.toList_eq,ByteArray.toList_eq];exact h),fun h=>by rw [h]⟩
def lexC {α β γ:Type} (f:γ→α) (g:γ→β) (c:α→α→Int) (d:β→β→Int) (x y:γ):Int:=if c (f x) (f y)≠0 then c (f x) (f y) else d (g x) (g y)
theorem lexC_is {α β γ:Type} {f:γ→α} {g:γ→β} {c:α→α→Int} {d:β→β→Int} (hc:IsCmp c) (hd:IsCmp d) (hi:∀x y,f x=f y→g x=g y→x=y):IsCmp (lexC f g c d):=by
 refine ⟨fun a b=>?_,fun a b=>?_,fun x y z h1 h2=>?_⟩
 ·unfold lexC
  have h1:=hc.eq0 (f a) (f b)
  have h2:=hd.eq0 (g a) (g b)
  split
  ·rename_i h
   exact ⟨fun e=>absurd e h,fun e=>by rw [e] at h;exact absurd (hc.refl _) h⟩
  ·rename_i h
   have h:c (f a) (f b)=0:=by simpa using h
   rw [h2]
   exact ⟨fun e=>hi a b (h1.1 h) e,fun e=>by rw [e]⟩
 ·unfold lexC
  have h1:=hc.anti (f a) (f b)
  have h2:=hd.anti (g a) (g b)
  split<;>split<;>omega
 ·unfold lexC at *
  by_cases e1:c (f x) (f y)=0
  ·have e1':=(hc.eq0 _ _).1 e1
   rw [if_neg (by simp [e1])] at h1
   rw [e1']
   by_cases e2:c (f y) (f z)=0
   ·rw [if_neg (by simp [e2])] at h2 ⊢
    exact hd.trans _ _ _ h1 h2
   ·rw [if_pos e2] at h2 ⊢
    exact h2
  ·rw [if_pos e1] at h1
   by_cases e2:c (f y) (f z)=0
   ·rw [←(hc.eq0 _ _).1 e2,if_pos e1]
    exact h1
   ·rw [if_pos e2] at h2
    have h3:=hc.trans _ _ _ h1 h2
    rw [if_pos (by omega)]
    exact h3
theorem cmpV_is:IsCmp cmpV:=by
 have h1:IsCmp (lexC (γ:=Val) Val.kind (fun v=>(v.int,v.text)) cmpInts (lexC Prod.fst Prod.snd cmpInts cmpS)) :=
  lexC_is cmpInts_is (lexC_is cmpInts_is cmpS_is fun x y h1 h2=>Prod.ext h1 h2) fun x y h1 h2=>by
   cases x;cases y
   simp only [Prod.mk.injEq] at h1 h2
   simp [h1,h2.1,h2.2]
 exact h1
theorem cmpCell_shift (y:Val) (b:Row):∀(a:Row) (k:Nat),scan (cmpCell (y::b)) a (k+1)=scan (cmpCell b) a k
 | [],_=>rfl
 | x::a,k=>by
  have e:cmpCell (y::b) (k+1) x=cmpCell b k x:=by
   unfold cmpCell
   simp
  rw [scan,scan,e,cmpCell_shift y b a (k+1)]
theorem cmpRows_nil_nil:cmpRows [] []=0:=rfl
theorem cmpRows_nil_cons (y:Val) (b:Row):cmpRows [] (y::b)=-1:=by
 unfold cmpRows
 simp only [scan,cmpInts,List.length_nil,List.length_cons]
 rw [if_pos (by omega)]
theorem cmpRows_cons_nil (x:Val) (a:Row):cmpRows (x::a) []=1:=by
 have h:scan (cmpCell []) (x::a) 0=none:=scan_all_none fun j y _=>by simp [cmpCell]
 unfold cmpRows
 rw [h]
 simp only [cmpInts,List.length_nil,List.length_cons]
 rw [if_neg (by omega),if_pos (by omega)]
theorem cmpRows_cons (x y:Val) (a b:Row):cmpRows (x::a) (y::b)=if cmpV x y≠0 then cmpV x y else cmpRows a b:=by
 unfold cmpRows
 rw [scan,show cmpCell (y::b) 0 x=if cmpV x y≠0 then some (cmpV x y) else none by simp [cmpCell]]
 by_cases h:cmpV x y=0
 ·rw [if_neg (by simp [h]),if_neg (by simp [h])]
  simp only
  rw [cmpCell_shift y b a 0]
  cases scan (cmpCell b) a 0 with
  | some e=>rfl
  | none =>
   simp only [cmpInts,List.length_cons]
   (repeat' split)<;>omega
 ·rw [if_pos h,if_pos h]
theorem cmpRows_is:IsCmp cmpRows:=by
 refine ⟨fun a=>?_,fun a=>?_,fun a=>?_⟩
 ·induction a with
  | nil=>intro b;cases b with
   | nil=>simp [cmpRows_nil_nil]
   | cons y b=>simp [cmpRows_nil_cons]
  | cons x a ih=>intro b;cases b with
   | nil=>simp [cmpRows_cons_nil]
   | cons y b =>
    rw [cmpRows_cons]
    have h1:=cmpV_is.eq0 x y
    have h2:=ih b
    split
    ·rename_i h;simp [h];intro e;exact absurd (h1.2 e) h
    ·rename_i h
     have h:cmpV x y=0:=by simpa using h
     rw [h2];simp [h1.1 h]
 ·induction a with
  | nil=>intro b;cases b with
   | nil=>rfl
   | cons y b=>rw [cmpRows_nil_cons,cmpRows_cons_nil]
  | cons x a ih=>intro b;cases b with
   | nil=>rw [cmpRows_nil_cons,cmpRows_cons_nil];rfl
   | cons y b =>
    rw [cmpRows_cons,cmpRows_cons]
    have h1:=cmpV_is.anti x y
    have h2:=ih b
    split<;>split<;>omega
 ·induction a with
  | nil=>intro b c h1 h2;cases b with
   | nil=>rw [cmpRows_nil_nil] at h1;omega
   | cons y b=>cases c with
    | nil=>rw [cmpRows_cons_nil] at h2;omega
    | cons z c=>rw [cmpRows_nil_cons];omega
  | cons x a ih=>intro b c h1 h2;cases b with
   | nil=>rw [cmpRows_cons_nil] at h1;omega
   | cons y b=>cases c with
    | nil=>rw [cmpRows_cons_nil] at h2;omega
    | cons z c =>
     rw [cmpRows_cons] at h1 h2 ⊢
     by_cases e1:cmpV x y=0
     ·rw [if_neg (by simp [e1])] at h1
      rw [(cmpV_is.eq0 _ _).1 e1]
      by_cases e2:cmpV y z=0
      ·rw [if_neg (by simp [e2])] at h2 ⊢
       exact ih b c h1 h2
      ·rw [if_pos e2] at h2 ⊢;exact h2
     ·rw [if_pos e1] at h1
      by_cases e2:cmpV y z=0
      ·rw [←(cmpV_is.eq0 _ _).1 e2,if_pos e1];exact h1
      ·rw [if_pos e2] at h2
       have h3:=cmpV_is.trans _ _ _ h1 h2
       rw [if_pos (by omega)];exact h3
theorem idx_neg0 {α:Type} {p:α→Bool} {l:List α}:¬ (0≤idx p l 0)↔∀x∈l,p x=false:=by
 rcases idx_cases p l 0 with ⟨h1,h2⟩|⟨j,hj,h1,h2,_⟩
 ·rw [h1]
  exact ⟨fun _=>h2,fun _=>by omega⟩
 ·rw [h1]
  constructor
  ·intro h;omega
  ·intro h
   rw [h _ (List.getElem_mem hj)] at h2
   cases h2
theorem Sch.Fits.sub {s:Sch} (h:s.Fits) {fks:List FK} {cons:List Con} (hf:fks.Sublist s.fks) (hc:cons.Sublist s.cons):(⟨s.tables,fks,cons⟩:Sch).Fits :=
 ⟨h.tables,h.table,Nat.le_trans hf.length_le h.fks,fun f hf'=>h.fk f (hf.subset hf'),Nat.le_trans hc.length_le h.cons⟩
section
open Go.RowKit
def memOf (w:World):Mem:=fun x=>w.cell? x
def CRd (w:World) (cs:List Value) (ls:List L):Prop:=cs.length=ls.length∧∀(j:Nat) (l:L),ls[j]?=some l→∃v,cs[j]?=some v∧Rep (memOf w) v l
theorem CRd.append {w:World} {cs cs':List Value} {ls ls':List L} (h:CRd w cs ls) (h':CRd w cs' ls'):CRd w (cs++cs') (ls++ls'):=by
 refine ⟨by simp [h.1,h'.1],fun j l hj=>?_⟩
 rcases Nat.lt_or_ge j ls.length with hlt|hge
 ·rw [List.getElem?_append_left hlt] at hj
  rw [List.getElem?_append_left (by rw [h.1];exact hlt)]
  exact h.2 j l hj
 ·rw [List.getElem?_append_right hge] at hj
  rw [List.getElem?_append_right (by rw [h.1];exact hge),h.1]
  exact h'.2 _ l hj
structure Rd (P:Program) (w:World) (t:TypeId) {α:Type} (e:α→List L) (good:α→Prop):Prop where
 get:∀{H:Type} {enc:TypeId×Value→H} {base:Nat} {spare:Nat→Bool} {held:Bool} {n:Nat} {cs:List Value} {x:DataW H×List MemPlace},DataW.trod enc P w base spare held n t cs=some x →
  (∀n∈x.1.weights P t,n≤reachBytes)→∃y,good y∧CRd w cs (e y)
variable {P:Program} {w:World} {t:TypeId}
theorem CRd.one {v:Value} {l:L} (h:Rep (memOf w) v l):CRd w [v] [l]:=by
 refine ⟨rfl,fun j x hj=>?_⟩
 cases j with
 | zero=>simp only [List.getElem?_cons_zero,Option.some.injEq] at hj;subst hj;exact ⟨v,rfl,h⟩
 | succ j=>simp at hj
theorem rd_int {k:IntKind} (ht:P.underlying t=some (.int k)):Rd P w t (fun n=>[.int k n]) fun n=>(Lit.int k n).wf=true:=by
 constructor
 intro H enc base spare held n cs x h _
 obtain ⟨m,rfl,rfl,hw⟩:=DataW.trod_int ht h
 exact ⟨m,hw,.one (.int k m)⟩
theorem rd_bool (ht:P.underlying t=some .bool):Rd P w t (fun b=>[.bool b]) fun _=>True:=by
 constructor
 intro H enc base spare held n cs x h _
 obtain ⟨b,rfl,rfl⟩:=DataW.trod_bool ht h
 exact ⟨b,trivial,.one (.bool b)⟩
theorem rd_string (ht:P.underlying t=some .string):Rd P w t (fun s=>[.str s]) fun s=>s.size≤reachBytes:=by
 constructor
 intro H enc base spare held n cs x h hw
 obtain ⟨s,rfl,rfl,_⟩:=DataW.trod_string ht h
 exact ⟨s,hw s.size (by simp [DataW.weights]),.one (.str s)⟩
theorem Rd.to {α β:Type} {e:α→List L} {e':β→List L} {good:α→Prop} {good':β→Prop} (h:Rd P w t e good) (f:α→β) (he:∀x,e' (f x)=e x) (hg:∀x,good x→good' (f x)):Rd P w t e' good':=by
 constructor
 intro H enc base spare held n cs x h1 h2
 obtain ⟨y,h3,h4⟩:=h.get h1 h2
 exact ⟨f y,hg y h3,by rw [he];exact h4⟩
theorem weightsAll_mem {H:Type} {e:TypeId}:∀{ds:List (DataW H)} {d:DataW H},d∈ds→∀n∈d.weights P e,n∈DataW.weightsAll P e ds
 | d0::ds,d,hd,n,hn=>by
  simp only [DataW.weightsAll,List.mem_append]
  rcases List.mem_cons.1 hd with rfl|hd
  ·exact .inl hn
  ·exact .inr (weightsAll_mem hd n hn)
theorem choose_list {α:Type} {R:Nat→α→Prop}:∀(n:Nat),(∀i,i<n→∃x,R i x)→∃l:List α,l.length=n∧∀i x,l[i]?=some x→R i x
 | 0,_=>⟨[],rfl,fun i x h=>by simp at h⟩
 | n+1,h=>by
  obtain ⟨l,h1,h2⟩:=choose_list n fun i hi=>h i (by omega)
  obtain ⟨x,hx⟩:=h n (by omega)
  refine ⟨l++[x],by simp [h1],fun i y hy=>?_⟩
  rcases Nat.lt_or_ge i n with hlt|hge
  ·rw [List.getElem?_append_left (by omega)] at hy
   exact h2 i y hy
  ·rw [List.getElem?_append_right (by omega)] at hy
   have:i=n:=by
    have:=(List.getElem?_eq_some_iff.1 hy).1
    simp only [List.length_singleton] at this
    omega
   subst this
   simp [h1] at hy
   subst hy
   exact hx
theorem rd_slice {e:TypeId} {α:Type} {eβ:α→List L} {good:α→Prop} {sz b:Nat} (ht:P.underlying t=some (.slice e)) (hsz:P.cellsOf e=sz) (hb:P.bytesOf e=b) (hl:∀x,(eβ x).length=sz) (h:Rd P w e eβ good) :
  Rd P w t (fun l=>[.sl sz (l.map eβ)]) fun l:List α=>l.length * b≤reachBytes∧∀x∈l,good x:=by
 constructor
 intro H enc base spare held n cs x h1 h2
 rcases DataW.trod_slice ht h1 with ⟨rfl,rfl⟩|⟨a,len,cap,elems,rest,m,rfl,rfl,rfl,k1,k2,k3,k4,k5,k6,k7⟩
 ·exact ⟨[],⟨by simp,by simp⟩,.one (.slNil sz)⟩
 ·rw [hsz] at k5
  have hw:∀d∈elems.map (·.1),∀n∈d.weights P e,n≤reachBytes:=fun d hd n hn=>h2 n (by
   simp only [DataW.weights,ht,List.mem_cons,List.mem_append]
   exact .inr (.inl (weightsAll_mem hd n hn)))
  have hbw:len * b≤reachBytes:=by
   have:=h2 ((elems.length+rest.length) * P.bytesOf e) (by simp [DataW.weights,ht])
   rw [hb,k4] at this
   exact Nat.le_trans (Nat.mul_le_mul_right _ (by omega)) this
  obtain ⟨l,h3,h4⟩:=choose_list (R:=fun i (x:α)=>good x∧∃cs,w.cells? base (a.add (i * sz)) sz=some cs∧CRd w cs (eβ x)) len fun i hi=>by
   have k8:=k5 i hi
   have hi':i<elems.length:=by omega
   rw [List.getElem?_eq_getElem hi'] at k8
   obtain ⟨cs,h5,h6⟩:=Option.bind_eq_some_iff.1 k8
   obtain ⟨x,h7,h8⟩:=h.get h6 (hw _ (List.mem_map.2 ⟨_,List.getElem_mem hi',rfl⟩))
   exact ⟨x,h7,cs,h5,h8⟩
  refine ⟨l,⟨by rw [h3];exact hbw,fun x hx=>?_⟩,.one ?_⟩
  ·obtain ⟨i,hi,rfl⟩:=List.mem_iff_getElem.1 hx
   exact (h4 i _ (List.getElem?_eq_getElem hi)).1
  ·-- each cell
   have hcell:∀i j u,cellOf (l.map eβ) i j=some u→∃v,memOf w (a.add (i * sz+j))=some v∧Rep (memOf w) v u:=by
    intro i j u hu
    unfold cellOf at hu
    rw [List.getElem?_map] at hu
    cases hli:l[i]? with
    | none=>rw [hli] at hu;simp at hu
    | some x =>
     rw [hli] at hu
     simp only [Option.map_some,Option.bind_some] at hu
     obtain ⟨_,cs,h5,h6,h7⟩:=h4 i x hli
     obtain ⟨v,h8,h9⟩:=h7 j u hu
     refine ⟨v,?_,h9⟩
     have hj:j<sz:=by
      have:=(List.getElem?_eq_some_iff.1 hu).1
      rw [hl] at this
      exact this
     unfold World.cells? at h5
     split at h5
     ·have:=mapM_some_get h5 j j (by simp [hj])
      rw [h8,Addr.add_add] at this
      exact this
     ·cases h5
   refine .sl a len cap sz (l.map eβ) (fun i j=>(memOf w (a.add (i * sz+j))).getD default) (by simp [h3]) k2 (fun y hy=>?_) (fun i j u hu=>?_) (fun i j u hu=>?_)
   ·obtain ⟨x,_,rfl⟩:=List.mem_map.1 hy
    exact hl x
   ·obtain ⟨v,h5,_⟩:=hcell i j u hu
    rw [h5];rfl
   ·obtain ⟨v,h5,h6⟩:=hcell i j u hu
    rw [h5];exact h6
structure RdF (P:Program) (w:World) (fs:List Field) (off:Nat) {α:Type} (e:α→List L) (good:α→Prop):Prop where
 get:∀{H:Type} {enc:TypeId×Value→H} {base:Nat} {spare:Nat→Bool} {held:Bool} {n:Nat} {cs:List Value} {xs:List (DataW H×List MemPlace)},xs.length=fs.length →
  (∀(i:Nat) (f:Field),fs[i]?=some f→DataW.trod enc P w base spare held n f.type ((cs.drop f.offset).take (P.cellsOf f.type))=xs[i]?) →
  (∀n∈DataW.weightsEach P (fs.map (·.type)) (xs.map (·.1)),n≤reachBytes)→off+(fs.map fun f=>P.cellsOf f.type).sum=cs.length→∃y,good y∧CRd w (cs.drop off) (e y)
theorem rdF_nil {off:Nat}:RdF P w [] off (fun _:Unit=>[]) fun _=>True:=by
 constructor
 intro H enc base spare held n cs xs _ _ _ hl
 refine ⟨(),trivial,?_⟩
 have:cs.drop off=[]:=List.drop_eq_nil_of_le (by simp at hl;omega)
 rw [this]
 exact ⟨rfl,fun j l hj=>by simp at hj⟩
theorem rdF_cons {f:Field} {fs:List Field} {off sz:Nat} {α β:Type} {e0:α→List L} {e1:β→List L} {g0:α→Prop} {g1:β→Prop} (hf:f.offset=off) (hsz:P.cellsOf f.type=sz) (h0:Rd P w f.type e0 g0) (h1:RdF P w fs (off+sz) e1 g1) :
  RdF P w (f::fs) off (fun p:α×β=>e0 p.1++e1 p.2) fun p=>g0 p.1∧g1 p.2:=by
 constructor
 intro H enc base spare held n cs xs hx ht hw hl
 cases xs with
 | nil=>simp at hx
 | cons x xs =>
  have k0:=ht 0 f rfl
  simp only [List.getElem?_cons_zero] at k0
  obtain ⟨y,h2,h3⟩:=h0.get k0 fun n hn=>hw n (by simp only [List.map_cons,DataW.weightsEach,List.mem_append];exact .inl hn)
  obtain ⟨z,h4,h5⟩:=h1.get (cs:=cs) (by simpa using hx) (fun i f' hi=>by have:=ht (i+1) f' (by simpa using hi);simpa using this) (fun n hn=>hw n (by simp only [List.map_cons,DataW.weightsEach,List.mem_append];exact .inr hn)) (by simp only [List.map_cons,List.sum_cons,hsz] at hl;omega)
  refine ⟨(y,z),⟨h2,h4⟩,?_⟩
  have e:cs.drop off=(cs.drop f.offset).take (P.cellsOf f.type)++cs.drop (off+sz):=by
   rw [hf,hsz,←List.drop_drop,List.take_append_drop]
  rw [e]
  exact h3.append h5
theorem rd_struct {fs:Array Field} {α:Type} {e:α→List L} {good:α→Prop} (ht:P.underlying t=some (.struct fs)) (hc:P.cellsOf t=(fs.toList.map fun f=>P.cellsOf f.type).sum) (h:RdF P w fs.toList 0 e good):Rd P w t e good:=by
 constructor
 intro H enc base spare held n cs x h1 h2
 obtain ⟨xs,m,rfl,rfl,k1,k2,k3⟩:=DataW.trod_struct ht h1
 obtain ⟨y,h3,h4⟩:=h.get (cs:=cs) (by simpa using k2) (fun i f hi=>k3 i f (by simpa using hi)) (fun n hn=>h2 n (by simp only [DataW.weights,ht];exact hn)) (by rw [k1,hc];simp)
 exact ⟨y,h3,by simpa using h4⟩
theorem rd_struct3 {f0 f1 f2:Field} {z0 z1 z2:Nat} {α β γ:Type} {e0:α→List L} {e1:β→List L} {e2:γ→List L} {g0:α→Prop} {g1:β→Prop} {g2:γ→Prop} (ht:P.underlying t=some (.struct #[f0,f1,f2])) (ho:f0.offset=0∧f1.offset=0+z0∧f2.offset=0+z0+z1) (hz:P.cellsOf f0.type=z0∧P.cellsOf f1.type=z1∧P.cellsOf f2.type=z2) (hc:P.cellsOf t=0+z0+z1+z2) (h0:Rd P w f0.type e0 g0) (h1:Rd P w f1.type e1 g1) (h2:Rd P w f2.type e2 g2):Rd P w t (fun p:α×β×γ×Unit=>e0 p.1++(e1 p.2.1++(e2 p.2.2.1++[]))) (fun p=>g0 p.1∧g1 p.2.1∧g2 p.2.2.1∧True) :=
 rd_struct ht (by rw [hc];simp [hz.1,hz.2.1,hz.2.2];try omega) (rdF_cons ho.1 hz.1 h0 (rdF_cons ho.2.1 hz.2.1 h1 (rdF_cons ho.2.2 hz.2.2 h2 (rdF_nil))))
theorem rd_struct5 {f0 f1 f2 f3 f4:Field} {z0 z1 z2 z3 z4:Nat} {α β γ δ ε:Type} {e0:α→List L} {e1:β→List L} {e2:γ→List L} {e3:δ→List L} {e4:ε→List L} {g0:α→Prop} {g1:β→Prop} {g2:γ→Prop} {g3:δ→Prop} {g4:ε→Prop} (ht:P.underlying t=some (.struct #[f0,f1,f2,f3,f4])) (ho:f0.offset=0∧f1.offset=0+z0∧f2.offset=0+z0+z1∧f3.offset=0+z0+z1+z2∧f4.offset=0+z0+z1+z2+z3) (hz:P.cellsOf f0.type=z0∧P.cellsOf f1.type=z1∧P.cellsOf f2.type=z2∧P.cellsOf f3.type=z3∧P.cellsOf f4.type=z4) (hc:P.cellsOf t=0+z0+z1+z2+z3+z4) (h0:Rd P w f0.type e0 g0) (h1:Rd P w f1.type e1 g1) (h2:Rd P w f2.type e2 g2) (h3:Rd P w f3.type e3 g3) (h4:Rd P w f4.type e4 g4):Rd P w t (fun p:α×β×γ×δ×ε×Unit=>e0 p.1++(e1 p.2.1++(e2 p.2.2.1++(e3 p.2.2.2.1++(e4 p.2.2.2.2.1++[]))))) (fun p=>g0 p.1∧g1 p.2.1∧g2 p.2.2.1∧g3 p.2.2.2.1∧g4 p.2.2.2.2.1∧True) :=
 rd_struct ht (by rw [hc];simp [hz.1,hz.2.1,hz.2.2.1,hz.2.2.2.1,hz.2.2.2.2];try omega) (rdF_cons ho.1 hz.1 h0 (rdF_cons ho.2.1 hz.2.1 h1 (rdF_cons ho.2.2.1 hz.2.2.1 h2 (rdF_cons ho.2.2.2.1 hz.2.2.2.1 h3 (rdF_cons ho.2.2.2.2 hz.2.2.2.2 h4 (rdF_nil))))))
theorem vrep_agg {cs:Array Value} {ls:List L} {ω:Wh} (h:CRd w cs.toList ls):VRep (memOf w) ω (.agg cs) (.agg ls):=by
 refine ⟨cs,rfl,by simpa using h.1,fun j l hj=>?_⟩
 obtain ⟨v,h1,h2⟩:=h.2 j l hj
 exact ⟨v,by simpa using h1,h2.erep⟩
def NoLib (P:Program):Bool:=(P.globalNamed "internal/strconv.uint64pow10").isNone&&(P.globalNamed "strconv.ErrSyntax").isNone&&(P.globalNamed "strconv.ErrRange").isNone
theorem var_kept {P:Program} {w w':World} {F:Nat→Prop} (hF:∀k,¬ F k) (hk:Keeps F w w') {nm:String} {x:Array Value} (h:w.var? P nm=some x):w'.var? P nm=some x:=by
 unfold World.var? at h ⊢
 cases hg:P.globalNamed nm with
 | none=>rw [hg] at h;cases h
 | some g =>
  rw [hg] at h
  have hlt:g<w.heap.size:=by
   rcases Nat.lt_or_ge g w.heap.size with hc|hc
   ·exact hc
   ·have e:w.heap[g]?=none:=by simp [hc]
    simp only [Option.bind_some,e] at h
    cases h
  simp only [Option.bind_some,hk.block g hlt (hF g)] at h ⊢
  exact h
theorem goodC_none {P:Program} {w:World} {F:Nat→Prop} (hg:NoLib P=true∨LaidW P w) (hF:∀k,¬ F k):GoodC P w F:=by
 intro w' hk
 rcases hg with hg|hg
 ·simp only [NoLib,Bool.and_eq_true,Option.isNone_iff_eq_none] at hg
  obtain ⟨⟨h1,h2⟩,h3⟩:=hg
  exact ⟨fun h=>absurd h (by rw [h1];decide),fun h=>absurd h (by rw [h2];decide),fun h=>absurd h (by rw [h3];decide)⟩
 ·refine ⟨fun h=>var_kept hF hk (hg.pow h),fun h=>?_,fun h=>?_⟩
  ·obtain ⟨tp,p,e⟩:=hg.syn h
   exact ⟨tp,p,var_kept hF hk e⟩
  ·obtain ⟨tp,p,e⟩:=hg.rng h
   exact ⟨tp,p,var_kept hF hk e⟩
theorem calls_of_sat {f:FuncId} {fn:Func} {c:Code} {xs:List V} {b:Bool} {vs:List Value} (hf:P.funcs[f]?=some fn) (hb:fn.body=some c) (hn:(fn.name=="runtime.NumGoroutine")=false) (h:Sat P f xs (.v (.one (.bool b))))
  (hA:∀ω,ArgsRep (memOf w) ω vs xs) (hg:NoLib P=true∨LaidW P w:=by exact .inl (by kernel_rfl)):Calls P f vs.toArray w fun e w'=>e=.returned (.bool b)∧Below w.heap.size w w':=by
 have ω:Wh:={box:=fun _=>0,row:=fun _=>{blk:=none,cap:=0,sz:=0},f:=fun _ _ _=>False}
 have hCI:CI P w (memOf w) (handed [] [] ω) (roots [] []) a0 w (memOf w) ω:=by
  refine {size:=rfl,defers:=rfl,keeps:=⟨rfl,rfl,rfl,Nat.le_refl _,fun _ _ _=>rfl⟩,mle:=Mem.le_refl _,mold:=fun _ _ _=>rfl,ok:=fun _ _ h=>h,env:=fun _ _ h=>(by cases h),box:=fun _ _ h=>(by cases h),row:=fun _ _ h=>(by cases h),fresh:=fun κ id hl=>?_,apart:=fun κ id κ' id' hl=>?_,home:=⟨fun id hid=>?_,fun _ _ h=>(by simp [handed,look] at h),fun _ _ h=>(by simp [handed,look] at h)⟩,good:=goodC_none hg fun k hk=>owned_none hk}
  ·cases κ<;>exact absurd hl (by simp [St.live,roots,look])
  ·cases κ<;>exact absurd hl (by simp [St.live,roots,look])
  ·simp [handed,look] at hid
 have h1:=h.call (memOf w) w vs ω hCI (hA ω)
 rcases h1 with ⟨v,w',h2,_⟩|⟨_,h2⟩
 ·have h3:(callFunc f vs.toArray).run P w=.ok (.enter f vs.toArray) w:=by
   simp only [callFunc,Sem.run_bind,program,Sem.run,Result.andThen_ok,hf]
   rw [hn,hb]
   simp
  rw [h3] at h2
  cases h2
 ·refine h2.mono fun e w' ⟨v,he,m',ω',hC,hv⟩=>?_
  have hv:v=.bool b:=by
   have hv:Rep m' v (.bool b):=hv
   cases hv
   rfl
  subst hv
  refine ⟨he,hC.keeps.os,hC.keeps.tape,hC.keeps.output,hC.keeps.size,fun k hk=>hC.keeps.block k hk fun ho=>?_⟩
  obtain ⟨κ,id,hl,_⟩:=ho
  cases κ<;>exact absurd hl (by simp [St.live,roots,look])
theorem argsRep_nil {m:Mem} {ω:Wh}:ArgsRep m ω [] []:=⟨rfl,fun i x h=>by simp at h⟩
theorem argsRep_cons {m:Mem} {ω:Wh} {v:Value} {x:V} {vs:List Value} {xs:List V} (h:VRep m ω v x) (hs:ArgsRep m ω vs xs):ArgsRep m ω (v::vs) (x::xs):=by
 refine ⟨by simp [hs.1],fun i y hy=>?_⟩
 cases i with
 | zero=>simp only [List.getElem?_cons_zero,Option.some.injEq] at hy;subst hy;exact ⟨v,rfl,h⟩
 | succ i=>exact hs.2 i y (by simpa using hy)
section
open Go.ChangeShapes
variable {H:Type} {enc:TypeId×Value→H} {w':World} {base:Nat} {sp:Nat→Bool} {held:Bool}
theorem trodAll_carry (hs:∀p:MemPlace,p.block<w.heap.size→w.sameAt w' p):∀{ts:List TypeId} {vs:List Value} {ds:List (DataW H)} {ps:List MemPlace},DataW.TrodAll enc P w base sp held ts vs ds ps→(∀p∈ps,p.block<w.heap.size)→DataW.TrodAll enc P w' base sp held ts vs ds ps
 | [],vs,ds,ps,h,_=>by
  obtain ⟨rfl,rfl,rfl⟩:=trodAll_nil h
  exact rfl
 | t::ts,vs,ds,ps,h,hp=>by
  obtain ⟨v,vs1,d,ds1,a,b,rfl,rfl,rfl,⟨n,h1⟩,h2⟩:=trodAll_cons h
  exact ⟨a,b,⟨n,DataW.trod_carry n _ _ _ h1 fun p hp'=>hs p (hp p (by simp [hp']))⟩,trodAll_carry hs h2 fun p hp'=>hp p (by simp [hp']),rfl⟩
theorem trodAll_below (hl:laidOutB P=true) (hb:Below w.heap.size w w'):∀{ts:List TypeId} {vs:List Value} {ds:List (DataW H)} {ps:List MemPlace},(ts.all fun t=>P.readableRec t&&decide (t<P.types.size))=true→DataW.TrodAll enc P w 0 (fun _=>true) true ts vs ds ps→(∀p∈ps,p.block<w.heap.size) →
  DataW.TrodAll enc P w' 0 (fun b=>decide (b<w.heap.size)) true ts vs ds ps
 | [],vs,ds,ps,_,h,_=>by
  obtain ⟨rfl,rfl,rfl⟩:=trodAll_nil h
  exact rfl
 | t::ts,vs,ds,ps,hr,h,hp=>by
  obtain ⟨v,vs1,d,ds1,a,b,rfl,rfl,rfl,h1,h2⟩:=trodAll_cons h
  simp only [List.all_cons,Bool.and_eq_true,decide_eq_true_eq] at hr
  exact ⟨a,b,Below.trod hl hr.1.1 hr.1.2 h1 hb fun p hp'=>hp p (by simp [hp']),trodAll_below hl hb hr.2 h2 fun p hp'=>hp p (by simp [hp']),rfl⟩
theorem post_of_below {f:Func} {s:ChangeSpec} {apart fresh again:Bool} {args:Array Value} {ds gs:List (DataW H)} {before:List MemPlace} {rt:TypeId} (hl:laidOutB P=true) (hrt:f.resultTypes=#[rt]) (hub:P.underlying rt=some .bool)
  (hread:(f.params.toList.all fun t=>P.readableRec t&&decide (t<P.types.size))=true) (hvs:s.vars=[])
  (hW:DataW.Whole enc P f.params.toList s.vars apart w args.toList ds gs before) (hb:Below w.heap.size w w')
  (hfn:s.fn H ds={results:=[.lit (.bool true)],args:=ds}):s.post enc P f apart fresh false again w args (.bool true) w':=by
 have hW0:=hW
 have hlt:∀p∈before,p.block<w.heap.size:=fun p hp=>by simpa using hW.lt p hp
 obtain ⟨p,q,hA,hV,rfl,hz,hn⟩:=hW
 rw [hvs] at hV
 have hgq:gs=[]∧q=[]:=by
  cases gs with
  | nil=>exact ⟨rfl,hV⟩
  | cons g gs=>exact absurd hV (by simp [DataW.TrodVars])
 obtain ⟨rfl,rfl⟩:=hgq
 simp only [List.append_nil] at hlt hz hn ⊢
 have hres:∀(b:Nat) (sp:Nat→Bool) (hd:Bool),DataW.TrodAll enc P w' b sp hd f.resultTypes.toList ((Value.bool true).resultList f.resultTypes.size) (s.fn H (ds++[])).results []:=by
  intro b sp hd
  rw [hrt,List.append_nil,hfn]
  exact ⟨[],[],⟨1,by simp [DataW.trod,hub,Value.cells]⟩,rfl,rfl⟩
 have hargs1:=trodAll_below (P:=P) hl hb hread hA hlt
 have hargs2:=trodAll_carry (P:=P) (w:=w) (w':=w') (fun p hp=>hb.same hp) hA hlt
 have hvars:∀sp,DataW.TrodVars enc P w' sp s.vars (s.fn H (ds++[])).vars []:=by
  intro sp
  rw [hvs,List.append_nil,hfn]
  exact rfl
 refine ⟨ds,[],p++[],[],p,[],hW0,hres _ _ _,by rw [List.append_nil,hfn];exact hargs1,hvars _,World.keptBut_mono (fun p hp=>⟨by simpa using hp.1,?_⟩) (hb.frame fun x=>x∈p∧True),fun _=>?_⟩
 ·simpa using hp.1
 ·refine ⟨?_,_,_,([]++p)++[],⟨[]++p,[],trodAll_append hargs2 (hres _ _ _),hvars _,rfl,?_,?_⟩,?_⟩
  ·exact ok_one hrt rfl (okWide_bool_mk hub true)
  ·intro b off hp
   have hp:MemPlace.cell b off∈p:=by simpa using hp
   rw [hb.frozen (hlt _ hp)]
   exact hz b off hp
  ·intro ha
   simpa using hn ha
  ·intro p hp _
   simpa using hp
end
end
theorem setL_all:∀(vs ls:List L),vs.length=ls.length→setL 0 vs ls=vs
 | [],[],_=>rfl
 | v::vs,l::ls,h=>by rw [setL,setL_all vs ls (by simpa using h)]
 | [],_::_,h=>by simp at h
 | _::_,[],h=>by simp at h
set_option maxHeartbeats 4000000 in
theorem indexInt_sat (l : List Int) (n : Int) (hlen : l.length ≤ 140737488355328) :
    Sat Tryz.prog 123 [.one (eInts l), oI n] (.v (oI (idx (fun x => x == n) l 0))) := by
  refine ZE Tryz.func123 Tryz.ntmps123 fun w0 m0 F0 => ?_
  refine ZW Z0 Z0 ?_
  refine AWP.loop (ι := {k : Nat // k ≤ l.length ∧ idx (fun x => x == n) (l.drop k) k = idx (fun x => x == n) l 0}) (fun k => ⟨19, [(0, .v (.one (eInts l))), (1, .v (oI n)), (6, .v (.one (eInts l))), (7, .v (oI l.length)), (8, .v (oI k.1))], [], []⟩) (fun k => l.length - k.1) ⟨0, Nat.zero_le _, rfl⟩ ?_ fun ⟨k, hkl, hi⟩ => ?_
  · exact ZL Z0
  refine ZWp Z0 Z0 ?_; repeat' (first | apply Zb | apply Zn | (apply Zm; intro h))
  all_goals first
    | (have hk : ¬ k < l.length := by omega
       refine ZR (Z1 Tryz.results123) ?_
       rw [← hi, idx_end hk]
       done)
    | (have hk : k < l.length := by omega
       have he : (l[k] == n) = true := by simp_all
       refine ZR (Z1 Tryz.results123) ?_
       rw [← hi, idx_hit hk he]
       done)
    | (have hk : k < l.length := by omega
       have he : (l[k] == n) = false := by
         rw [Bool.eq_false_iff]
         intro q
         simp_all
       refine ⟨⟨k + 1, by omega, by rw [idx_step hk he, hi]⟩, by simp only; omega, ?_⟩
       exact ZL Z0
       )
theorem idx_elem (n:Int):∀(l:List Int) (k:Nat),decide (0≤idx (fun x=>x==n) l k)=l.elem n
 | [],k=>by simp [idx]
 | x::l,k=>by
  rw [idx,List.elem_cons]
  cases hx:x==n with
  | true =>
   have:(n==x)=true:=by simp_all
   rw [this];simp
  | false =>
   have:(n==x)=false:=by
    rw [Bool.eq_false_iff]
    intro q
    simp_all
   rw [this]
   exact idx_elem n l (k+1)
theorem containsInt_sat (l:List Int) (n:Int) (hlen:l.length≤140737488355328):Sat Tryz.prog 101 [.one (eInts l),oI n] (.v (oB (l.elem n))):=by
 rw [←idx_elem n l 0]
 refine ZE Tryz.func101 Tryz.ntmps101 fun w0 m0 F0=>?_
 refine ZW Z0 (Z1 (indexInt_sat l n hlen)) ?_
 exact ZQ (Z1 Tryz.results101)
theorem seqI_len (n:Nat):(seqI n).length=n:=by simp [seqI]
theorem seqI_succ (n:Nat):seqI (n+1)=seqI n++[(n:Int)]:=by simp [seqI,List.range_succ]
set_option maxHeartbeats 8000000 in
theorem sequence_own (n:Nat) (h:n≤1048576):SatM Tryz.prog 126 [oI n] [] [] (.v (.one (.ref 2 0 n))) [] [(2,⟨1,(seqI n).map eInt1,[]⟩)]:=by
 refine ZM [] [2] Tryz.func126 Tryz.ntmps126 fun w0 m0 F0=>?_
 refine ZW Z0 Z0 ?_
 refine AWP.loop (ι:={k:Nat // k≤n}) (fun k=>⟨15,[(3,.v (.one (.ref 3 0 k.1))),(5,.v (oI n)),(6,.v (oI k.1))],[],[(3,⟨1,(seqI k.1).map eInt1,[]⟩)]⟩) (fun k=>n - k.1) ⟨0,Nat.zero_le _⟩ ?_ fun ⟨k,hkl⟩=>?_
 ·exact ZN (Z1 @seqI.eq_1)
 simp only at hkl ⊢
 have sl:=seqI_len k
 have ss:=seqI_succ k
 rcases Nat.lt_or_ge k n with hc|hc
 ·refine ZW (Z1 @sl) Z0 ?_
  refine ⟨⟨k+1,by omega⟩,by simp only;omega,?_⟩
  exact ZN (Z2 @ss @eInt1.eq_1)
 ·have hk:k=n:=by omega
  subst hk
  refine ZW Z0 Z0 ?_
  exact ZQ (Z1 Tryz.results126)
theorem filter_snoc {α:Type} (p:α→Bool) (l:List α) (k:Nat) (h:k<l.length):((l.take (k+1)).filter p).length=((l.take k).filter p).length+(if p l[k] then 1 else 0):=by
 rw [take_snoc l k h,List.filter_append,List.length_append]
 cases hp:p l[k]<;>simp [hp]
set_option maxHeartbeats 8000000 in
theorem overlap_sat (cols set:List Int) (h1:cols.length≤140737488355328) (h2:set.length≤140737488355328):Sat Tryz.prog 124 [.one (eInts cols),.one (eInts set)] (.v (oI (overlapI cols set))):=by
 refine ZE Tryz.func124 Tryz.ntmps124 fun w0 m0 F0=>?_
 refine ZW Z0 Z0 ?_
 refine AWP.loop (ι:={k:Nat // k≤cols.length}) (fun k=>⟨27,[(0,.v (.one (eInts cols))),(1,.v (.one (eInts set))),(5,.v (oI ((cols.take k.1).filter fun c=>set.elem c).length)),(8,.v (.one (eInts cols))),(9,.v (oI cols.length)),(10,.v (oI k.1))],[],[]⟩) (fun k=>cols.length - k.1) ⟨0,Nat.zero_le _⟩ ?_ fun ⟨k,hkl⟩=>?_
 ·refine St.le_mk ?_ ?_ ?_<;>simp only [LE,EN,Nat.reduceEqDiff,reduceIte,Nat.reduceSub,List.take_zero,List.filter_nil,List.length_nil,Int.natCast_zero]
 simp only at hkl ⊢
 have hfl:((cols.take k).filter fun c=>set.elem c).length≤cols.length:=Nat.le_trans (List.length_filter_le _ _) (by simp;omega)
 rcases Nat.lt_or_ge k cols.length with hc|hc
 ·have cc:=containsInt_sat set cols[k] h2
  have fs:=filter_snoc (fun c=>set.elem c) cols k hc
  cases he:set.elem cols[k] with
  | true =>
   rw [he] at cc fs
   simp only [if_true] at fs
   refine ZW Z0 (Z1 (cc)) ?_
   refine ⟨⟨k+1,by omega⟩,by simp only;omega,?_⟩
   exact ZL (Z3 @fs @Int.natCast_add @Int.natCast_one)
  | false =>
   rw [he] at cc fs
   simp only [Bool.false_eq_true,if_false,Nat.add_zero] at fs
   refine ZW Z0 (Z1 (cc)) ?_
   refine ⟨⟨k+1,by omega⟩,by simp only;omega,?_⟩
   exact ZL (Z1 @fs)
 ·rw [List.take_of_length_le hc]
  unfold overlapI
  obtain ⟨n,hn⟩:∃n,(cols.filter fun c=>set.elem c).length=n:=⟨_,rfl⟩
  rw [hn]
  refine ZWp Z0 Z0 ?_;repeat' (first|apply Zb|apply Zn|(apply Zm;intro h))
  all_goals simp -dsimp (disch:=first|exact D|fail) only [retQ,Tryz.results124,resVals,cellRV,resOf,St.rest,St.freeze,RT,go_sem,↓reduceIte,seval]
  all_goals first
   | (rw [if_pos (by omega)];done)
   | (rw [if_neg (by omega),if_pos (by omega)];done)
   | (rw [if_neg (by omega),if_neg (by omega)];done)
def rowTb (cs:List Tbl):Rows:=[(1000,⟨3,cs.map eTbl,[]⟩)]
theorem gswap_row (ds:List Tbl) (i j:Nat) (hi:i<ds.length) (hj:j<ds.length) :
  ((ds.map eTbl).set i (eTbl ds[j])).set j (setL 0 (eTbl ds[i]) (((ds.map eTbl).set i (eTbl ds[j])).getD j []))=(gswp ds i j).map eTbl:=by
 rw [setL_all _ _ ?_,gswp_eq hi hj,List.map_set,List.map_set]
 rw [List.getD_eq_getElem?_getD,←List.map_set,List.getElem?_map,List.getElem?_eq_getElem (by simpa using hj)]
 rfl
set_option maxHeartbeats 16000000 in
theorem insertionSortT_satM (cs:List Tbl) (f:FuncId) (hc:∀x∈cs,∀y∈cs,Sat Tryz.prog f [.agg (eTbl x),.agg (eTbl y)] (.v (oI (cmpT x y)))) (a b:Nat) (hb:b≤cs.length) (ha:a≤cs.length) (hl:cs.length≤140737488355328) :
  SatM Tryz.prog 217 [.one (.ref 1000 0 cs.length),oI a,oI b,.one (.clo f [])] [] (rowTb cs) (.tup []) [] (rowTb (ginsS cmpT a b cs)):=by
 unfold rowTb
 refine ZM [] [1000] Tryz.func217 Tryz.ntmps217 fun w0 m0 F0=>?_
 refine ZW Z0 Z0 ?_;repeat' (first|apply Zb|apply Zn|(apply Zk;intro K hK))
 refine AWP.loop (ι:={p:Nat×List Tbl // a+1≤p.1∧p.1≤cs.length+1∧p.2.Perm cs∧ginsR cmpT a (b - p.1) p.1 p.2=ginsS cmpT a b cs}) (fun p=>⟨53,[(0,.v (.one (.ref 1000 0 cs.length))),(1,.v (oI a)),(2,.v (oI b)),(3,.v (.one (.clo f []))),(8,.v (oI p.1.1))],[],[(1000,⟨3,p.1.2.map eTbl,[]⟩)]⟩) (fun p=>cs.length+2 - p.1.1) ⟨(a+1,cs),Nat.le_refl _,by omega,List.Perm.refl _,rfl⟩ ?_ fun ⟨(i,ds),hi1,hi2,hp,hI⟩=>?_
 ·exact ZL (Z1 @Int.natCast_add)
 have hd:ds.length=cs.length:=hp.length_eq
 simp only at hi1 hi2 hp hI ⊢
 rcases Nat.lt_or_ge i b with hc1|hc1
 ·have eI:b - i=(b - (i+1))+1:=by omega
  rw [eI,ginsR] at hI
  refine ZW Z0 Z0 ?_;repeat' (first|apply Zb|apply Zn|(apply Zk;intro K hK))
  refine AWP.loop (ι:={p:Nat×List Tbl // a≤p.1∧p.1≤i∧p.2.Perm cs∧gdown cmpT a p.1 p.2=gdown cmpT a i ds}) (fun p=>⟨53,[(0,.v (.one (.ref 1000 0 cs.length))),(1,.v (oI a)),(2,.v (oI b)),(3,.v (.one (.clo f []))),(8,.v (oI i)),(9,.v (oI p.1.1))],[],[(1000,⟨3,p.1.2.map eTbl,[]⟩)]⟩) (fun p=>p.1.1) ⟨(i,ds),by omega,Nat.le_refl _,hp,rfl⟩ ?_ fun ⟨(j,es),hj1,hj2,hq,hJ⟩=>?_
  ·exact ZL (Z1 @hd)
  have he:es.length=cs.length:=hq.length_eq
  simp only at hj1 hj2 hq hJ ⊢
  rcases Nat.lt_or_ge a j with hc2|hc2
  ·have h1:j<es.length:=by omega
   have h2:j - 1<es.length:=by omega
   have e1:((j:Int) - 1).toNat=j - 1:=by omega
   have ej:((j - 1:Nat):Int)=(j:Int) - 1:=by omega
   have cc:=hc es[j] (hq.subset (List.getElem_mem _)) es[j - 1] (hq.subset (List.getElem_mem _))
   have lj:=glessAt_eq cmpT h1 h2
   refine ZW Z0 Z0 ?_;repeat' (first|apply Zb|apply Zn|(apply Zk;intro K hK))
   refine dX tyOk mixed [(0,14)] [(14,[(15,2)],[])] [14] 8 fun K hK=>?_
   simp only [SG,segs] at hK ⊢
   refine ZU (Z2 @he @e1) ?_
   refine ZVp (Z2 @he @e1) (Z1 (cc)) (Z1 (Zs 6)) Z0 ?_;repeat' (first|apply Zb|apply Zn|(apply Zm;intro h)|(apply Zk;intro K hK))
   ·refine dX tyOk mixed [(0,15)] [(15,[(16,1)],[(2,3)]),(17,[],[])] [15,17] 8 fun K hK=>?_
    simp only [SG,segs] at hK ⊢
    refine ZU (Z2 @he @e1) ?_
    refine ZV (Z2 @he @e1) Z0 Z0 Z0 ?_;repeat' (first|apply Zb|apply Zn|(apply Zk;intro K hK))
    have lt:glessAt cmpT es j (j - 1)=true:=by rw [lj];exact decide_eq_true (by assumption)
    refine ⟨⟨(j - 1,gswp es j (j - 1)),by simp only;omega,by simp only;omega,(gswp_perm es _ _).trans hq,by rw [←hJ,gdown_step cmpT a j es hc2 lt]⟩,by simp only;omega,?_⟩
    refine St.le_mk ?_ trivial ⟨congrArg (fun x:List (List L)=>some (⟨3,x,[]⟩:RowC)) (gswap_row es j (j - 1) h1 h2),trivial⟩
    simp only [allIn_cons,allIn_nil,look_cons,look_nil,reduceIte,Nat.reduceEqDiff]
    exact ⟨trivial,trivial,trivial,trivial,trivial,by rw [ej],trivial⟩
   ·have lf:glessAt cmpT es j (j - 1)=false:=by rw [lj];exact decide_eq_false (by omega)
    rw [gdown_stop cmpT a j es (.inr lf)] at hJ
    refine ⟨⟨(i+1,es),by simp only;omega,by simp only;omega,hq,by rw [hJ,hI]⟩,by simp only;omega,?_⟩
    exact ZL (Z2 @he @Int.natCast_add)
  ·rw [gdown_stop cmpT a j es (.inl hc2)] at hJ
   refine ZW Z0 Z0 ?_;repeat' (first|apply Zb|apply Zn|(apply Zk;intro K hK))
   refine dX tyOk mixed [(0,14)] [(14,[(15,2)],[])] [14] 8 fun K hK=>?_
   simp only [SG,segs] at hK ⊢
   refine ZU (Z1 @he) ?_
   refine ZV (Z1 @he) Z0 Z0 Z0 ?_;repeat' (first|apply Zb|apply Zn|(apply Zk;intro K hK))
   refine ⟨⟨(i+1,es),by simp only;omega,by simp only;omega,hq,by rw [hJ,hI]⟩,by simp only;omega,?_⟩
   exact ZL (Z2 @he @Int.natCast_add)
 ·have e0:b - i=0:=by omega
  rw [e0] at hI
  have hI:ds=ginsS cmpT a b cs:=hI
  refine ZW Z0 Z0 ?_;repeat' (first|apply Zb|apply Zn|(apply Zk;intro K hK))
  refine ZR (Z1 Tryz.results217) ?_
  rw [hI]
theorem cmpT_sat (a b:Tbl):Sat Tryz.prog 158 [.agg (eTbl a),.agg (eTbl b)] (.v (oI (cmpT a b))):=by
 refine ZE Tryz.func158 Tryz.ntmps158 fun w0 m0 F0=>?_
 refine ZW Z0 (Z1 @stringsCompare_sat) ?_
 refine ZR (Z1 Tryz.results158) ?_
 rfl
set_option maxHeartbeats 16000000 in
theorem stableT_satM (cs:List Tbl) (hl:cs.length<20) :
  SatM Tryz.prog 195 [.one (.ref 1000 0 cs.length),oI cs.length,.one (.clo 158 [])] [] (rowTb cs) (.tup []) [] (rowTb (ginsS cmpT 0 cs.length cs)):=by
 have st:=insertionSortT_satM cs 158 (fun x _ y _=>cmpT_sat x y) 0 cs.length (Nat.le_refl _) (Nat.zero_le _) (by omega)
 rw [Int.natCast_zero] at st
 unfold rowTb at st ⊢
 refine ZM [] [1000] Tryz.func195 Tryz.ntmps195 fun w0 m0 F0=>?_
 refine ZW Z0 Z0 ?_
 refine AWP.loop (ι:=Unit) (fun _=>⟨63,[(0,.v (.one (.ref 1000 0 cs.length))),(1,.v (oI cs.length)),(2,.v (.one (.clo 158 []))),(6,.v (oI 20)),(7,.v (oI 0)),(8,.v (oI 20))],[],[(1000,⟨3,cs.map eTbl,[]⟩)]⟩) (fun _=>0) () ?_ fun _=>?_
 ·exact ZL Z0
 refine ZV (Z3 @dropL_nil @dropL_nil' @dropL_cons) Z0 Z0 (Z1 (Zi [] [(1000,1000)] [] [(1000,1000)] [] [] [] [1000,1000] (st))) ?_
 all_goals first|(exfalso;omega)|skip
 refine AWP.loop (ι:=Unit) (fun _=>⟨63,[(1,.v (oI cs.length)),(6,.v (oI 20))],[],[(1000,⟨3,(ginsS cmpT 0 cs.length cs).map eTbl,[]⟩)]⟩) (fun _=>0) () ?_ fun _=>?_
 ·exact ZL Z0
 refine ZW Z0 Z0 ?_
 all_goals first|(exfalso;omega)|skip
 exact ZQ (Z1 Tryz.results195)
set_option maxHeartbeats 16000000 in
theorem sortT_satM (cs:List Tbl) (hl:cs.length<20) :
  SatM Tryz.prog 157 [.one (.ref 1000 0 cs.length),.one (.clo 158 [])] [] (rowTb cs) (.tup []) [] (rowTb (ginsS cmpT 0 cs.length cs)):=by
 have st:=stableT_satM cs hl
 unfold rowTb at st ⊢
 refine ZM [] [1000] Tryz.func157 Tryz.ntmps157 fun w0 m0 F0=>?_
 refine ZV (Z3 @dropL_nil @dropL_nil' @dropL_cons) Z0 Z0 (Z1 (Zi [] [(1000,1000)] [] [(1000,1000)] [] [] [] [1000,1000] (st))) ?_
 exact ZQ (Z1 Tryz.results157)
def eTblO (t:Tbl):List L:=[.str t.name,.own 3 (t.cols.map eCol),.own 1 (t.pk.map eInt1)]
def eFKO (f:FK):List L:=[.str f.table,.own 1 (f.cols.map eInt1),.str f.ref]
def mix {α:Type} (f:α→α) (l:List α) (k:Nat):List α:=(l.take k).map f++l.drop k
theorem mix_zero {α:Type} (f:α→α) (l:List α):mix f l 0=l:=rfl
theorem mix_len {α:Type} (f:α→α) (l:List α) (k:Nat):(mix f l k).length=l.length:=by
 simp only [mix,List.length_append,List.length_map,List.length_take,List.length_drop]
 omega
theorem mix_getO {α:Type} (f:α→α) (l:List α) (k:Nat) (h:k<l.length):(mix f l k)[k]?=some l[k]:=by
 have e:((l.take k).map f).length=k:=by simp;omega
 simp only [mix]
 rw [List.getElem?_append_right (by omega),e,Nat.sub_self,List.getElem?_drop,Nat.add_zero,List.getElem?_eq_getElem h]
theorem mix_get {α:Type} (f:α→α) (l:List α) (k:Nat) (h:k<l.length):(mix f l k)[k]'(by rw [mix_len];exact h)=l[k]:=by
 have h1:=mix_getO f l k h
 rw [List.getElem?_eq_getElem (by rw [mix_len];exact h)] at h1
 exact Option.some.inj h1
theorem mix_all {α:Type} (f:α→α) (l:List α):mix f l l.length=l.map f:=by simp [mix]
theorem mixr_get {α:Type} (e:α→List L) (f:α→α) (l:List α) (k:Nat) (h:k<l.length):((mix f l k).map e).getD k []=e l[k]:=by
 rw [List.getD_eq_getElem?_getD,List.getElem?_map,mix_getO f l k h];rfl
theorem mix_succ {α:Type} (f:α→α) (l:List α) (k:Nat) (h:k<l.length):(mix f l k).set k (f l[k])=mix f l (k+1):=by
 have e:((l.take k).map f).length=k:=by simp;omega
 simp only [mix]
 rw [List.set_append_right _ _ (by omega),e,Nat.sub_self,List.drop_eq_getElem_cons h,List.set_cons_zero,take_snoc l k h,List.map_append]
 simp
theorem mixr_set {α:Type} (e:α→List L) (f:α→α) (l:List α) (k:Nat) (h:k<l.length):((mix f l k).map e).set k (e (f l[k]))=(mix f l (k+1)).map e:=by
 rw [←List.map_set,mix_succ f l k h]
theorem mix_self {α:Type} (f:α→α) (l:List α) (k:Nat) (h:k<l.length):(mix f l k).set k l[k]=mix f l k:=by
 conv=>lhs;rw [←mix_get f l k h]
 exact List.set_getElem_self _
def rowT (l:List Tbl) (k:Nat) (t:Tbl):List (List L):=(l.set k t).map eTblO
theorem rowT_len (l:List Tbl) (k:Nat) (t:Tbl):(rowT l k t).length=l.length:=by simp [rowT]
theorem rowT_at {l:List Tbl} {k:Nat} (t:Tbl) (h:k<l.length):(rowT l k t)[k]?=some (eTblO t):=by simp [rowT,h]
theorem rowT_get {l:List Tbl} {k:Nat} (t:Tbl) (h:k<l.length):(rowT l k t).getD k []=eTblO t:=by
 rw [List.getD_eq_getElem?_getD,rowT_at t h];rfl
theorem rowT_set (l:List Tbl) (k:Nat) (t t':Tbl):(rowT l k t).set k (eTblO t')=rowT l k t':=by
 simp only [rowT]
 rw [←List.map_set,List.set_set]
theorem rowT_cell1 {l:List Tbl} {k:Nat} (t:Tbl) (h:k<l.length):cellOf (rowT l k t) k 1=some (.own 3 (t.cols.map eCol)):=by
 unfold cellOf
 rw [rowT_at t h];rfl
theorem rowT_cell2 {l:List Tbl} {k:Nat} (t:Tbl) (h:k<l.length):cellOf (rowT l k t) k 2=some (.own 1 (t.pk.map eInt1)):=by
 unfold cellOf
 rw [rowT_at t h];rfl
theorem rowT_pk {l:List Tbl} {k:Nat} (t:Tbl) (h:k<l.length) (c:List Int):setCell (rowT l k t) k 2 (.own 1 (c.map eInt1))=rowT l k ⟨t.name,t.cols,c⟩:=by
 unfold setCell
 rw [rowT_get t h]
 exact rowT_set l k t ⟨t.name,t.cols,c⟩
def rowF (l:List FK) (k:Nat) (f:FK):List (List L):=(l.set k f).map eFKO
theorem rowF_len (l:List FK) (k:Nat) (t:FK):(rowF l k t).length=l.length:=by simp [rowF]
theorem rowF_at {l:List FK} {k:Nat} (t:FK) (h:k<l.length):(rowF l k t)[k]?=some (eFKO t):=by simp [rowF,h]
theorem rowF_get {l:List FK} {k:Nat} (t:FK) (h:k<l.length):(rowF l k t).getD k []=eFKO t:=by
 rw [List.getD_eq_getElem?_getD,rowF_at t h];rfl
theorem rowF_set (l:List FK) (k:Nat) (t t':FK):(rowF l k t).set k (eFKO t')=rowF l k t':=by
 simp only [rowF]
 rw [←List.map_set,List.set_set]
theorem rowF_cell1 {l:List FK} {k:Nat} (t:FK) (h:k<l.length):cellOf (rowF l k t) k 1=some (.own 1 (t.cols.map eInt1)):=by
 unfold cellOf
 rw [rowF_at t h];rfl
theorem rowF_cols {l:List FK} {k:Nat} (t:FK) (h:k<l.length) (c:List Int):setCell (rowF l k t) k 1 (.own 1 (c.map eInt1))=rowF l k {t with cols:=c}:=by
 unfold setCell
 rw [rowF_get t h]
 exact rowF_set l k t {t with cols:=c}
def iB (s:Sch):Boxes:=[(1000,[.ref 1000 0 s.tables.length,.ref 1001 0 s.fks.length,.ref 1002 0 s.cons.length])]
def iR (s:Sch):Rows:=[(1000,⟨3,s.tables.map eTblO,[]⟩),(1001,⟨3,s.fks.map eFKO,[]⟩),(1002,⟨7,s.cons.map eCon,[]⟩)]
theorem okIds_ref (σb σr:Ids) (i lo n:Nat):okIds σb σr (.ref i lo n)=(look σr i).isSome:=rfl
theorem mix_keep {α:Type} (f:α→α) (l:List α) (k:Nat) (h:k<l.length) (hf:f l[k]=l[k]):mix f l (k+1)=mix f l k:=by
 rw [←mix_succ f l k h,hf,mix_self f l k h]
theorem getD_setL (l:List (List L)) (k:Nat) (x d:List L) (h:k<l.length):(l.set k x).getD k d=x:=by
 rw [List.getD_eq_getElem?_getD,List.getElem?_set_self h];rfl
theorem fzs_noPtr (z:List (List L)) (i:Nat):(z.map L.fz).map (L.noPtr0 i)=z.map L.fz:=by rw [List.map_map];exact List.map_congr_left fun _ _=>rfl
theorem fzs_noRow (z:List (List L)) (i:Nat):(z.map L.fz).map (L.noRow0 i)=z.map L.fz:=by rw [List.map_map];exact List.map_congr_left fun _ _=>rfl
def MapsAt (P:Program) (f:FuncId) (caps:List L) (g:Int→Int) (c:Int):Prop:=Sat P f (oI c::caps.map .one) (.v (oI (g c)))
set_option maxHeartbeats 8000000 in
theorem shift_sat (removed:List Int) (c:Int) (h:removed.length≤1048576) (h1:-1048576≤c) (h2:c≤1048576):MapsAt Tryz.prog 159 ([[eInts removed]].map L.fz) (shiftI removed) c:=by
 unfold MapsAt shiftI
 simp only [List.map_cons,List.map_nil]
 refine ZE Tryz.func159 Tryz.ntmps159 fun w0 m0 F0=>?_
 refine ZW Z0 Z0 ?_
 refine AWP.loop (ι:={k:Nat // k≤removed.length}) (fun k=>⟨22,[(0,.v (oI c)),(4,.v (oI ((removed.take k.1).filter fun x=>decide (x<c)).length)),(7,.v (.one (eInts removed))),(8,.v (oI removed.length)),(9,.v (oI k.1))],[],[]⟩) (fun k=>removed.length - k.1) ⟨0,Nat.zero_le _⟩ ?_ fun ⟨k,hkl⟩=>?_
 ·refine St.le_mk ?_ ?_ ?_<;>simp only [LE,EN,Nat.reduceEqDiff,reduceIte,Nat.reduceSub,List.take_zero,List.filter_nil,List.length_nil,Int.natCast_zero]
 simp only at hkl ⊢
 have hfl:((removed.take k).filter fun x=>decide (x<c)).length≤removed.length:=Nat.le_trans (List.length_filter_le _ _) (by simp;omega)
 rcases Nat.lt_or_ge k removed.length with hc|hc
 ·have fs:=filter_snoc (fun x=>decide (x<c)) removed k hc
  by_cases hx:removed[k]<c
  ·simp only [hx,decide_true,if_true] at fs
   refine ZW (Z1 @hx) Z0 ?_
   refine ⟨⟨k+1,by omega⟩,by simp only;omega,?_⟩
   exact ZL (Z3 @fs @Int.natCast_add @Int.natCast_one)
  ·simp only [hx,decide_false,Bool.false_eq_true,if_false,Nat.add_zero] at fs
   refine ZW (Z1 @hx) Z0 ?_
   refine ⟨⟨k+1,by omega⟩,by simp only;omega,?_⟩
   exact ZL (Z1 @fs)
 ·rw [List.take_of_length_le hc] at hfl ⊢
  refine ZW Z0 Z0 ?_
  exact ZQ (Z1 Tryz.results159)
theorem dropAt_snoc {α:Type} (rm:List Int) (x:α):∀(l:List α) (n:Nat),dropAt rm (l++[x]) n=dropAt rm l n++(if rm.elem ((n+l.length:Nat):Int) then [] else [x])
 | [],n=>by simp [dropAt]
 | y::l,n=>by
  have ih:=dropAt_snoc rm x l (n+1)
  rw [List.cons_append,dropAt,dropAt,ih,List.length_cons,show n+1+l.length=n+(l.length+1) by omega]
  split<;>simp
theorem setCell_set (l:List (List L)) (i j:Nat) (x:List L) (u:L) (h:i<l.length):setCell (l.set i x) i j u=l.set i (x.set j u):=by
 unfold setCell
 rw [getD_setL l i x [] h,List.set_set]
theorem dropAt_len {α:Type} (rm:List Int):∀(l:List α) (n:Nat),(dropAt rm l n).length≤l.length
 | [],_=>Nat.le_refl _
 | y::l,n=>by
  rw [dropAt]
  have:=dropAt_len rm l (n+1)
  split<;>simp<;>omega
theorem cmpL_lt:∀a b:List UInt8,Lib.compareBytes a b<0↔Op.bytesLess a b=true
 | [],[]=>by simp [Lib.compareBytes,Op.bytesLess]
 | [],_::_=>by simp [Lib.compareBytes,Op.bytesLess]
 | _::_,[]=>by simp [Lib.compareBytes,Op.bytesLess]
 | a::x,b::y=>by
  have ih:=cmpL_lt x y
  simp only [Lib.compareBytes,Op.bytesLess]
  by_cases h1:a<b
  ·simp [h1]
  ·by_cases h2:b<a
   ·have:¬ a=b:=fun e=>by subst e;exact h1 h2
    simp [h1,h2,this]
   ·have:a=b:=by
     rw [UInt8.lt_iff_toNat_lt] at h1 h2
     exact UInt8.toNat_inj.1 (by omega)
    simp [this,ih]
theorem cmpS_lt {a b:ByteArray}:cmpS a b<0↔Op.bytesLess a.toList b.toList=true:=by
 unfold cmpS
 rw [cmpL_lt,ByteArray.toList_eq,ByteArray.toList_eq]
def LtT (a b:Tbl):Prop:=cmpS a.name b.name<0
instance (a b:Tbl):Decidable (LtT a b):=Int.decLt _ _
theorem LtT.trans {a b c:Tbl} (h:LtT a b) (k:LtT b c):LtT a c:=cmpS_is.trans _ _ _ h k
theorem LtT.ne {a b:Tbl} (h:LtT a b):a.name≠b.name:=fun e=>by
 unfold LtT at h
 rw [e,(cmpS_is.eq0 _ _).2 rfl] at h
 omega
theorem pairwise_of_adj {α:Type} {R:α→α→Prop} (tr:∀a b c,R a b→R b c→R a c):∀{l:List α},(∀j,∀h:j+1<l.length,R l[j] l[j+1])→l.Pairwise R
 | [],_=>List.Pairwise.nil
 | [x],_=>List.pairwise_singleton _ _
 | x::y::r,h=>by
  have h2:(y::r).Pairwise R:=pairwise_of_adj tr fun j hj=>by
   have:=h (j+1) (by simpa using hj)
   simpa using this
  refine List.pairwise_cons.2 ⟨fun z hz=>?_,h2⟩
  have hxy:R x y:=by have:=h 0 (by simp);simpa using this
  rcases List.mem_cons.1 hz with rfl|hz
  ·exact hxy
  ·exact tr _ _ _ hxy ((List.pairwise_cons.1 h2).1 z hz)
theorem sorted_of {s:Sch} (h:schE s=0):s.tables.Pairwise LtT:=by
 have h1:=((schE_zero s).1 h).2.1
 refine pairwise_of_adj (R:=LtT) (fun _ _ _ h k=>LtT.trans h k) fun j hj=>?_
 have:=h1 (j+1) hj
 unfold tblsE at this
 split at this
 ·cases this
 split at this
 ·cases this
 ·rename_i h2
  have e:((((j+1:Nat):Int)) - 1).toNat=j:=by omega
  rw [e,getD_lt _ (by omega)] at h2
  have h3:¬ (Op.bytesLess s.tables[j+1].name.toList s.tables[j].name.toList=true∨s.tables[j+1].name.toList=s.tables[j].name.toList):=fun q=>h2 ⟨by omega,q⟩
  unfold LtT
  rw [cmpS_lt]
  refine bl_total ?_ fun e=>h3 (.inr e)
  cases hb:Op.bytesLess s.tables[j+1].name.toList s.tables[j].name.toList with
  | false=>rfl
  | true=>exact absurd (.inl hb) h3
theorem tblAt_none {ts:List Tbl} {n:ByteArray}:¬ 0≤tblAt ts n↔∀t∈ts,t.name≠n:=by
 unfold tblAt
 rw [idx_neg0]
 constructor
 ·intro h t ht e
  have:=h t ht
  rw [sEq_iff.2 e] at this
  cases this
 ·intro h t ht
  cases hb:sEq t.name n with
  | false=>rfl
  | true=>exact absurd (sEq_iff.1 hb) (h t ht)
theorem tblAt_some {ts:List Tbl} {n:ByteArray} (h:¬ tblAt ts n<0):∃i,∃hi:i<ts.length,tblAt ts n=(i:Int)∧ts[i].name=n:=by
 rcases idx_cases (fun t=>sEq t.name n) ts 0 with ⟨e1,_⟩|⟨i,hi,e1,e2,_⟩
 ·have e1:tblAt ts n=-1:=e1
  omega
 ·exact ⟨i,hi,by unfold tblAt;simpa using e1,sEq_iff.1 e2⟩
theorem tblAt_at {ts:List Tbl} (hs:ts.Pairwise LtT) {i:Nat} (hi:i<ts.length):tblAt ts ts[i].name=(i:Int):=by
 by_cases hn:tblAt ts ts[i].name<0
 ·exact absurd rfl (tblAt_none.1 (by omega) _ (List.getElem_mem hi))
 ·obtain ⟨j,hj,e,hnm⟩:=tblAt_some hn
  rw [e]
  rcases Nat.lt_trichotomy i j with h|h|h
  ·exact absurd hnm.symm (List.pairwise_iff_getElem.1 hs i j hi hj h).ne
  ·rw [h]
  ·exact absurd hnm (List.pairwise_iff_getElem.1 hs j i hj hi h).ne
theorem place {ts:List Tbl} (hs:ts.Pairwise LtT) (t:Tbl) (hn:∀x∈ts,x.name≠t.name):∃A B,ts=A++B∧(A++t::B).Pairwise LtT:=by
 induction ts with
 | nil=>exact ⟨[],[],rfl,by simp⟩
 | cons x r ih =>
  have hx:=List.pairwise_cons.1 hs
  rcases cmpS_is.total x.name t.name with h|h|h
  ·obtain ⟨A,B,e,hp⟩:=ih hx.2 fun y hy=>hn y (List.mem_cons_of_mem _ hy)
   refine ⟨x::A,B,by rw [e];rfl,List.pairwise_cons.2 ⟨fun y hy=>?_,hp⟩⟩
   rcases List.mem_append.1 hy with hy|hy
   ·exact hx.1 y (by rw [e];simp [hy])
   ·rcases List.mem_cons.1 hy with rfl|hy
    ·exact h
    ·exact hx.1 y (by rw [e];simp [hy])
  ·exact absurd h (hn x (List.mem_cons_self ..))
  ·refine ⟨[],x::r,rfl,List.pairwise_cons.2 ⟨fun y hy=>?_,hs⟩⟩
   rcases List.mem_cons.1 hy with rfl|hy
   ·exact h
   ·exact LtT.trans (b:=x) h (hx.1 y hy)
def splitCE (t:Tbl) (st:Stp) (k:Nat) (c:Int):Option Int:=if c<0∨(t.cols.length:Int)≤c∨(0<(k:Int)∧c≤st.cols.getD ((k:Int) - 1).toNat 0) then some 3 else none
set_option maxHeartbeats 16000000 in
theorem checkSplit_satX (s : Sch) (t : Tbl) (st : Stp) (h1 : s.tables.length ≤ 140737488355328) (h2 : t.cols.length ≤ 1048576) (h3 : t.pk.length ≤ 1048576) (h4 : st.cols.length ≤ 140737488355328) :
    Sat Tryz.prog 121 [.agg (eSch s), .agg (eTbl t), .agg (eStp st)] (.v (oI (splitE s t st))) := by
  have fs := findTable_sat s st.other h1
  have ov := overlap_sat st.cols t.pk h4 (by omega)
  have spec : splitE s t st = match scan (splitCE t st) st.cols 0 with
    | some e => e
    | none => if st.cols.length = 0 then 3 else if overlapI st.cols t.pk ≠ 0 then 9 else if 0 ≤ tblAt s.tables st.other then 5 else 0 := rfl
  rw [spec]
  refine ZE Tryz.func121 Tryz.ntmps121 fun w0 m0 F0 => ?_
  refine ZW (Z1 @eStp.eq_1) Z0 ?_
  refine AWP.loop (ι := {k : Nat // k ≤ st.cols.length ∧ scan (splitCE t st) (st.cols.drop k) k = scan (splitCE t st) st.cols 0}) (fun k => ⟨61, [(3, .v (.one (.ptr 3 0))), (4, .v (.one (.ptr 4 0))), (5, .v (.one (.ptr 5 0))), (12, .v (.one (eInts st.cols))), (13, .v (oI st.cols.length)), (14, .v (oI k.1))], [(3, eSch s), (4, eTbl t), (5, eStp st)], []⟩) (fun k => st.cols.length - k.1) ⟨0, Nat.zero_le _, rfl⟩ ?_ fun ⟨k, hkl, hi⟩ => ?_
  · exact ZL (Z2 @eSch.eq_1 @eStp.eq_1)
  simp only at hkl ⊢
  rcases Nat.lt_or_ge k st.cols.length with hc | hc
  · refine ZWp (Z1 @eStp.eq_1) Z0 ?_; repeat' (first | apply Zb | apply Zn | (apply Zm; intro h))
    all_goals
      first
        | (have hs : (splitCE t st) k st.cols[k] = none := by
             (simp (disch := omega) only [splitCE, getD_lt]; (repeat' split) <;> first | rfl | with_reducible assumption | omega | (exfalso; omega) | (simp_all; done) | (simp_all; omega))
           refine ⟨⟨k + 1, by omega, by rw [scan_step (by omega) hs, hi]⟩, by simp only; omega, ?_⟩
           exact ZL (Z2 @eSch.eq_1 @eStp.eq_1)
           done)
        | (simp -dsimp (disch := first | exact D | fail) only [retQ, Tryz.results121, resVals, cellRV, resOf, St.rest, St.freeze, RT, go_sem, ↓reduceIte, seval]
           rw [scan_leaf (by omega) ?_ hi]
           all_goals first | with_reducible rfl | ((simp (disch := omega) only [splitCE, getD_lt]; (repeat' split) <;> first | rfl | with_reducible assumption | omega | (exfalso; omega) | (simp_all; done) | (simp_all; omega)); done) | rfl
           done)
  · rw [scan_end (by omega)] at hi
    rw [← hi]
    simp only
    generalize overlapI st.cols t.pk = q at ov ⊢
    generalize tblAt s.tables st.other = z at fs ⊢
    refine ZWp (Z1 @eStp.eq_1) (Z2 (ov) (fs)) ?_; repeat' (first | apply Zb | apply Zn | (apply Zm; intro h))
    all_goals simp -dsimp (disch := first | exact D | fail) only [retQ, Tryz.results121, resVals, cellRV, resOf, St.rest, St.freeze, RT, go_sem, ↓reduceIte, seval]
    all_goals simp_all
    all_goals omega
end Go.Bw
