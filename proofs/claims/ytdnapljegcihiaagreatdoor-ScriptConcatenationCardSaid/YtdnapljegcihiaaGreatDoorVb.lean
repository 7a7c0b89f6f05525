/-
  WHAT IS PROVED HERE, of this translation: mO_some, mO_elim, oneOf_some, boolOf_some, intOfA_some, tupOf_some, vOf_some, aggOf_some, elemTI_some, convK_some, slice_sound, VVal_sound, .., inR_nil, inB_cons, inR_cons, outB_nil, outR_nil, run_overlaps_zero, CallMoves.apart, CallMoves.froz, CallJ.froz, CallJ.frozI, AWP.drawT.
  A theorem that ends in sat says what the function it names returns, whatever the state it is called in; the bounds on its arguments stand ahead of it.
-/
import Derived.IntWalk
import Derived.Lib.Overlaps
import Derived.Laws.Externs
import Derived.Test.YtdnapljegcihiaaGreatDoorVa
set_option linter.unusedSimpArgs false
set_option linter.unusedVariables false
namespace Go.Bw
open Go.RowKit
section
variable {P:Program} {w0:World} {m0:Mem} {s s':St} {a:Act} {w:World} {m:Mem} {ω:Wh} {F0:Home} {T:TypeId→Option TI}
def mO {α:Type} (x:Option α) (k:α→Prop):Prop:=match x with|some y=>k y|none=>False
theorem mO_some {α:Type} {k:α→Prop} (y:α):mO (some y) k=k y:=rfl
theorem mO_elim {α:Type} {x:Option α} {k:α→Prop} (h:mO x k):∃y,x=some y∧k y:=by
 cases x with
 | none=>cases h
 | some y=>exact ⟨y,rfl,h⟩
def CallK (P:Program) (s:St) (f:FuncId) (xs:List V) (k:A→Prop):Prop:=∃r,(Sat P f xs r∧k (r.map L.clos))∨(Sat P f (xs.map fun x=>x.map (frzV 4 ⟨0,[],[],s.row⟩)) r∧k (r.map L.flat))
def oneOf:Option A→Option L|some (.v (.one l))=>some l|_=>none
def boolOf:Option A→Option Bool|some (.v (.one (.bool b)))=>some b|_=>none
def intOfA:Option A→Option Int|some (.v (.one (.int _ n)))=>some n|_=>none
def tupOf:Option A→Option (List V)|some (.tup xs)=>some xs|_=>none
def vOf:Option A→Option V|some (.v x)=>some x|_=>none
def aggOf:Option A→Option (List L)|some (.v (.agg ls))=>some ls|_=>none
theorem oneOf_some {x:Option A} {l:L} (h:oneOf x=some l):x=some (.v (.one l)):=by
 unfold oneOf at h;split at h<;>simp_all
theorem boolOf_some {x:Option A} {b:Bool} (h:boolOf x=some b):x=some (.v (.one (.bool b))):=by
 unfold boolOf at h;split at h<;>simp_all
theorem intOfA_some {x:Option A} {n:Int} (h:intOfA x=some n):∃k,x=some (.v (.one (.int k n))):=by
 unfold intOfA at h;split at h<;>simp_all
theorem tupOf_some {x:Option A} {xs:List V} (h:tupOf x=some xs):x=some (.tup xs):=by
 unfold tupOf at h;split at h<;>simp_all
theorem vOf_some {x:Option A} {y:V} (h:vOf x=some y):x=some (.v y):=by
 unfold vOf at h;split at h<;>simp_all
theorem aggOf_some {x:Option A} {ls:List L} (h:aggOf x=some ls):x=some (.v (.agg ls)):=by
 unfold aggOf at h;split at h<;>simp_all
def elemTI (T:TypeId→Option TI) (t:TypeId):Option TI:=(T t).bind fun i=>i.elem.bind T
theorem elemTI_some (hT:TabOk P T) {t:TypeId} {j:TI} (h:elemTI T t=some j):∃i e,T t=some i∧i.elem=some e∧T e=some j∧tiOk P t i=true∧tiOk P e j=true:=by
 unfold elemTI at h
 cases hi:T t with
 | none=>rw [hi] at h;cases h
 | some i =>
  rw [hi] at h
  simp only [Option.bind_some] at h
  cases he:i.elem with
  | none=>rw [he] at h;cases h
  | some e =>
   rw [he] at h
   simp only [Option.bind_some] at h
   exact ⟨i,e,rfl,he,h,hT _ _ hi,hT _ _ h⟩
theorem convK_some {t:TypeId} {k:IntKind} (h:convK P t=some k):P.underlying t=some (.int k):=by
 unfold convK at h
 split at h
 ·injection h with h;subst h;assumption
 ·cases h
def loadK (s:St) (i:TI) (K:A→Prop):L→Prop
 | .fz ls=>mO (loadV i ls) fun z=>K (.v z)
 | .ptr id off=>mO (look s.box id) fun ls=>mO (loadV i ((ls.drop off).map L.peek)) fun z=>K (.v z)
 | .eptr id k off=>mO (look s.row id) fun r=>k<r.xs.length∧mO (loadV i ((overlay r.ov k 0 (r.xs.getD k [])).drop off)) fun z=>K (.v z)
 | _=>False
def idxK (s:St) (j:TI) (n:Int) (K:A→Prop):L→Prop
 | .sl sz xs=>(0≤n∧n<xs.length)∧j.size=sz∧K (.v (.one (.fz (xs.getD n.toNat []))))
 | .ref id lo q=>mO (look s.row id) fun r=>(0≤n∧n<q)∧j.size=r.sz∧K (.v (.one (.eptr id (lo+n.toNat) 0)))
 | _=>False
def sliceK (T:TypeId→Option TI) (s:St) (t:TypeId) (lo hi:Option Operand) (K:A→Prop):L→Prop
 | .str q=>mO (T t) fun i=>mO (boundN T s t 0 lo) fun l=>mO (boundN T s t q.size hi) fun h=>(0≤l∧l≤h∧h≤q.size)∧i.isStr=true∧K (.v (.one (.str (q.extract l.toNat h.toNat))))
 | .sl sz xs=>mO (elemTI T t) fun j=>mO (boundN T s t 0 lo) fun l=>mO (boundN T s t xs.length hi) fun h=>(0≤l∧l≤h∧h≤xs.length)∧j.size=sz∧K (.v (.one (.sl sz ((xs.take h.toNat).drop l.toNat))))
 | .nil sz=>mO (elemTI T t) fun j=>mO (boundN T s t 0 lo) fun l=>mO (boundN T s t 0 hi) fun h=>(0≤l∧l≤h∧h≤0)∧j.size=sz∧K (.v (.one (.nil sz)))
 | .ref id b q=>mO (elemTI T t) fun j=>mO (look s.row id) fun r=>mO (boundN T s t 0 lo) fun l=>mO (boundN T s t q hi) fun h=>(0≤l∧l≤h∧(h≤q∨(h≤r.xs.length - b∧b≤r.xs.length)))∧j.size=r.sz∧K (.v (.one (.ref id (b+l.toNat) (h.toNat - l.toNat))))
 | _=>False
def indexK (T:TypeId→Option TI) (s:St) (i:TI) (y:Operand) (K:A→Prop):L→Prop
 | .str q=>mO (intOfA (evalO T s 0 y)) fun n=>(0≤n∧n<q.size)∧i.isStr=true∧K (.v (.one (.int .u8 ((q.data.toList.getD n.toNat 0).toNat:Nat))))
 | _=>False
def binK (P:Program) (op:BinOp) (t:TypeId) (K:A→Prop):V→V→Prop
 | .one l1,.one l2=>mO (binL P t op l1 l2) fun p=>p.1∧K (.v (.one p.2))
 | .agg xs,.agg ys=>mO (eqK P t) fun ks=>(xs.map L.kd=ks∧ys.map L.kd=ks)∧mO (eqCells xs ys) fun b=>mO (eqOp op b) fun b'=>K (.v (.one (.bool b')))
 | _,_=>False
def convKk (P:Program) (T:TypeId→Option TI) (t t':TypeId) (K:A→Prop):L→Prop
 | .int _ n=>(P.underlying t).isSome=true∧mO (convK P t') fun k'=>K (.v (.one (.int k' (k'.wrap n))))
 | .str q=>mO (T t) fun i=>mO (T t') fun i'=>mO i'.elem fun e=>(i.isStr=true∧convK P e=some .u8)∧K (.v (.one (.sl 1 (chunks 1 q.size (q.data.toList.map fun b=>L.int .u8 b.toNat)))))
 | _=>False
def negK (K:A→Prop):L→Prop
 | .int k n=>K (.v (.one (.int k (k.wrap (0 - n)))))
 | _=>False
def VVal (P:Program) (T:TypeId→Option TI) (o:Oper) (s:St) (K:A→Prop):Prop :=
 match o.op with
 | .move x=>mO (evalO T s o.type x) K
 | .assign x=>mO (evalO T s o.type x) K
 | .pick c x y=>mO (boolOf (evalO T s 0 c)) fun b=>mO (evalO T s o.type (if b then x else y)) K
 | .unOp .not _ x=>mO (boolOf (evalO T s 0 x)) fun b=>K (.v (.one (.bool !b)))
 | .load t x=>mO (T t) fun i=>mO (oneOf (evalO T s 0 x)) (loadK s i K)
 | .fieldAddr t x f=>mO (T t) fun i=>mO (oneOf (evalO T s 0 x)) fun y=>mO (fieldOff i f) fun off=>mO (moveL off y) fun z=>K (.v (.one z))
 | .field t x f=>mO (T t) fun i=>mO i.fields fun l=>mO l[f]? fun p=>mO (T p.2) fun j=>mO (aggOf (evalO T s 0 x)) fun ls=>p.1+j.size≤ls.length∧mO (asV j.agg ((ls.drop p.1).take j.size)) fun z=>K (.v z)
 | .indexAddr t x y=>mO (elemTI T t) fun j=>mO (intOfA (evalO T s 0 y)) fun n=>mO (oneOf (evalO T s 0 x)) (idxK s j n K)
 | .index t x y=>mO (T t) fun i=>mO (oneOf (evalO T s 0 x)) (indexK T s i y K)
 | .extract x k=>mO (tupOf (evalO T s 0 x)) fun xs=>mO xs[k]? fun y=>K (.v y)
 | .binOp op t x y _=>mO (vOf (evalO T s t x)) fun v1=>mO (vOf (evalO T s t y)) fun v2=>binK P op t K v1 v2
 | .build t parts=>mO (T t) fun i=>mO i.fields fun l=>mO i.zero fun z=>mO (placesOf T l) fun pl=>mO (fillL T s 0 (fun k=>pl[k]?) z parts.toList) fun ls=>K (.v (.agg ls))
 | .buildSlice t len parts=>mO (elemTI T t) fun j=>mO j.zero fun z=>(z.length=j.size∧0<j.size∧len * j.size≤16777216) ∧
   mO (fillL T s 0 (fun k=>some (k * j.size,j.size)) (repL z len) parts.toList) fun ls=>ls.all L.isFz=true∧K (.v (.one (.sl j.size (chunks j.size len (ls.map L.clos)))))
 | .makeFunc (.func f) first caps=>first=#[]∧mO (capsOf s T 0 caps.toList) fun cs=>K (.v (.one (.clo f cs)))
 | .slice t x lo hi none=>mO (oneOf (evalO T s t x)) (sliceK T s t lo hi K)
 | .slice t x lo hi (some z)=>mO (elemTI T t) fun _=>mO (oneOf (evalO T s t x)) fun v1=>mO (nL v1) fun n=>mO (boundN T s t 0 lo) fun l=>mO (boundN T s t n hi) fun h=>mO (boundN T s t 0 (some z)) fun mx=>(0≤l∧l≤h∧h≤mx∧mx≤n)∧hi.isSome=true∧K (.v (.one .any))
 | .nilCheck x=>mO (oneOf (evalO T s 0 x)) fun y=>isPtrLike y=true∧K (.v (.one y))
 | .convert t t' x=>mO (oneOf (evalO T s 0 x)) (convKk P T t t' K)
 | .call c=>(match c.callee with
   | .builtin .len=>(match c.args.toList,c.argTypes.toList with
    | [x],[t]=>mO (T t) fun i=>mO (oneOf (evalO T s t x)) fun l=>mO (lenL l) fun n=>lenKind i l=true∧K (.v (.one (.int .i64 n)))
    | _,_=>False)
   | .builtin .max=>(match c.args.toList with
    | [x,y]=>mO (oneOf (evalO T s 0 x)) fun l1=>mO (oneOf (evalO T s 0 y)) fun l2=>mO (maxL l1 l2) fun l=>K (.v (.one l))
    | _=>False)
   | .builtin .min=>(match c.args.toList with
    | [x,y]=>mO (oneOf (evalO T s 0 x)) fun l1=>mO (oneOf (evalO T s 0 y)) fun l2=>mO (minL l1 l2) fun l=>K (.v (.one l))
    | _=>False)
   | .value _=>mO (callOf T s c) fun p=>CallK P s p.1 p.2 K
   | _=>False)
 | .unOp .neg _ x=>mO (oneOf (evalO T s 0 x)) (negK K)
 | _=>False
theorem slice_sound (hT:TabOk P T) {o:Oper} {t:TypeId} {x:Operand} {lo hi:Option Operand} {K:A→Prop} (ho:o.op=.slice t x lo hi none) (h:CI P w0 m0 F0 s a w m ω) {l:L} (hx:evalO T s t x=some (.v (.one l))) (hV:sliceK T s t lo hi K l):∃x,K x∧GivesA P w0 m0 F0 s o x a w ω:=by
 cases l with
 | str q =>
  obtain ⟨i,hi,hV⟩:=mO_elim hV
  obtain ⟨l,hl,hV⟩:=mO_elim hV
  obtain ⟨hh,hhi,hV⟩:=mO_elim hV
  obtain ⟨⟨h0,h1,h2⟩,hs,hK⟩:=hV
  exact ⟨_,hK,givesA_sliceStr ho (hT _ _ hi) hs h hx hl hhi h0 h1 h2⟩
 | sl sz xs =>
  obtain ⟨j,hj,hV⟩:=mO_elim hV
  obtain ⟨l,hl,hV⟩:=mO_elim hV
  obtain ⟨hh,hhi,hV⟩:=mO_elim hV
  obtain ⟨⟨h0,h1,h2⟩,hs,hK⟩:=hV
  obtain ⟨i,e,hi',he,hE,hti,htj⟩:=elemTI_some hT hj
  exact ⟨_,hK,givesA_slice ho hti he htj hs h hx hl hhi h0 h1 h2⟩
 | nil sz =>
  obtain ⟨j,hj,hV⟩:=mO_elim hV
  obtain ⟨l,hl,hV⟩:=mO_elim hV
  obtain ⟨hh,hhi,hV⟩:=mO_elim hV
  obtain ⟨⟨h0,h1,h2⟩,hs,hK⟩:=hV
  obtain ⟨i,e,hi',he,hE,hti,htj⟩:=elemTI_some hT hj
  exact ⟨_,hK,givesA_sliceNil ho hti he htj h hx hl hhi h0 h1 h2⟩
 | ref id b q =>
  obtain ⟨j,hj,hV⟩:=mO_elim hV
  obtain ⟨r,hr,hV⟩:=mO_elim hV
  obtain ⟨l,hl,hV⟩:=mO_elim hV
  obtain ⟨hh,hhi,hV⟩:=mO_elim hV
  obtain ⟨⟨h0,h1,h2⟩,hs,hK⟩:=hV
  obtain ⟨i,e,hi',he,hE,hti,htj⟩:=elemTI_some hT hj
  exact ⟨_,hK,givesA_sliceRef ho hti he htj h hx hr hs hl hhi h0 h1 (h2.imp (fun q=>q) (fun q=>⟨by omega,q.2⟩))⟩
 | _=>cases hV
theorem VVal_sound (hT:TabOk P T) {o:Oper} {K:A→Prop} (hV:VVal P T o s K) (h:CI P w0 m0 F0 s a w m ω):∃x,K x∧GivesA P w0 m0 F0 s o x a w ω:=by
 unfold VVal at hV
 split at hV
 case h_1 x ho=>obtain ⟨y,hy,hK⟩:=mO_elim hV;exact ⟨y,hK,givesA_move ho h hy⟩
 case h_2 x ho=>obtain ⟨y,hy,hK⟩:=mO_elim hV;exact ⟨_,hK,givesA_assign ho h hy⟩
 case h_3 c x y ho =>
  obtain ⟨b,hb,hV⟩:=mO_elim hV
  obtain ⟨z,hz,hK⟩:=mO_elim hV
  exact ⟨z,hK,givesA_pick ho h (boolOf_some hb) hz⟩
 case h_4 t x ho=>obtain ⟨b,hb,hK⟩:=mO_elim hV;exact ⟨_,hK,givesA_not ho h (boolOf_some hb)⟩
 case h_5 t x ho =>
  obtain ⟨i,hi,hV⟩:=mO_elim hV
  obtain ⟨y,hy,hV⟩:=mO_elim hV
  have hy:=oneOf_some hy
  cases y with
  | fz ls =>
   obtain ⟨z,hz,hK⟩:=mO_elim hV
   exact ⟨_,hK,givesA_load_fz ho (hT _ _ hi) h hy hz⟩
  | ptr id off =>
   obtain ⟨ls,hls,hV⟩:=mO_elim hV
   obtain ⟨z,hz,hK⟩:=mO_elim hV
   exact ⟨_,hK,givesA_load_ptr ho (hT _ _ hi) h hy hls hz⟩
  | eptr id k off =>
   obtain ⟨r,hr,hk,hV⟩:=mO_elim hV
   obtain ⟨z,hz,hK⟩:=mO_elim hV
   exact ⟨_,hK,givesA_load_eptr ho (hT _ _ hi) h hy hr hk hz⟩
  | _=>cases hV
 case h_6 t x f ho =>
  obtain ⟨i,hi,hV⟩:=mO_elim hV
  obtain ⟨y,hy,hV⟩:=mO_elim hV
  obtain ⟨off,hoff,hV⟩:=mO_elim hV
  obtain ⟨z,hz,hK⟩:=mO_elim hV
  exact ⟨_,hK,givesA_fieldAddr ho (hT _ _ hi) h (oneOf_some hy) hoff hz⟩
 case h_7 t x f ho =>
  obtain ⟨i,hi,hV⟩:=mO_elim hV
  obtain ⟨l,hl,hV⟩:=mO_elim hV
  obtain ⟨⟨off,ft⟩,hp,hV⟩:=mO_elim hV
  obtain ⟨j,hj,hV⟩:=mO_elim hV
  obtain ⟨ls,hls,hfit,hV⟩:=mO_elim hV
  obtain ⟨z,hz,hK⟩:=mO_elim hV
  exact ⟨_,hK,givesA_field ho (hT _ _ hi) hl hp (hT _ _ hj) h (aggOf_some hls) hfit hz⟩
 case h_8 t x y ho =>
  obtain ⟨j,hj,hV⟩:=mO_elim hV
  obtain ⟨n,hn,hV⟩:=mO_elim hV
  obtain ⟨l,hx,hV⟩:=mO_elim hV
  obtain ⟨k,hn⟩:=intOfA_some hn
  have hx:=oneOf_some hx
  obtain ⟨i,e,hi,he,hE,hti,htj⟩:=elemTI_some hT hj
  cases l with
  | sl sz xs =>
   obtain ⟨⟨h0,h1⟩,hs,hK⟩:=hV
   exact ⟨_,hK,givesA_indexAddr ho hti he htj hs h hx hn h0 h1⟩
  | ref id lo q =>
   obtain ⟨r,hr,⟨h0,h1⟩,hs,hK⟩:=mO_elim hV
   exact ⟨_,hK,givesA_indexRef ho hti he htj h hx hr hs hn h0 h1⟩
  | _=>cases hV
 case h_9 t x y ho =>
  obtain ⟨i,hi,hV⟩:=mO_elim hV
  obtain ⟨l,hl,hV⟩:=mO_elim hV
  cases l with
  | str q =>
   obtain ⟨n,hn,hV⟩:=mO_elim hV
   obtain ⟨⟨h0,h1⟩,hs,hK⟩:=hV
   obtain ⟨k,hn⟩:=intOfA_some hn
   exact ⟨_,hK,givesA_index ho (hT _ _ hi) hs h (oneOf_some hl) hn h0 h1⟩
  | _=>cases hV
 case h_10 x k ho =>
  obtain ⟨xs,hx,hV⟩:=mO_elim hV
  obtain ⟨y,hy,hK⟩:=mO_elim hV
  exact ⟨_,hK,givesA_extract ho h (tupOf_some hx) hy⟩
 case h_11 op t x y t' ho =>
  obtain ⟨v1,h1,hV⟩:=mO_elim hV
  obtain ⟨v2,h2,hV⟩:=mO_elim hV
  unfold binK at hV
  split at hV
  ·obtain ⟨⟨p,l⟩,h3,hp,hK⟩:=mO_elim hV
   exact ⟨_,hK,givesA_binOp ho h (vOf_some h1) (vOf_some h2) h3 hp⟩
  ·obtain ⟨ks,hk,⟨h3,h4⟩,hV⟩:=mO_elim hV
   obtain ⟨b,hb,hV⟩:=mO_elim hV
   obtain ⟨b',hb',hK⟩:=mO_elim hV
   exact ⟨_,hK,givesA_eqAgg ho hk h (vOf_some h1) (vOf_some h2) h3 h4 hb hb'⟩
  ·cases hV
 case h_12 t parts ho =>
  obtain ⟨i,hi,hV⟩:=mO_elim hV
  obtain ⟨l,hl,hV⟩:=mO_elim hV
  obtain ⟨z,hz,hV⟩:=mO_elim hV
  obtain ⟨pl,hp,hV⟩:=mO_elim hV
  obtain ⟨ls,hls,hK⟩:=mO_elim hV
  exact ⟨_,hK,givesA_build ho hT hi hl hz hp h hls⟩
 case h_13 t len parts ho =>
  obtain ⟨j,hj,hV⟩:=mO_elim hV
  obtain ⟨z,hz,hc,hV⟩:=mO_elim hV
  obtain ⟨ls,hls,hfz,hK⟩:=mO_elim hV
  obtain ⟨i,e,hi,he,hE,hti,htj⟩:=elemTI_some hT hj
  exact ⟨_,hK,givesA_buildSlice ho hT hi he hE hz hc.1 hc.2.1 hc.2.2 h hls hfz⟩
 case h_14 f first caps ho =>
  obtain ⟨rfl,hV⟩:=hV
  obtain ⟨cs,hcs,hK⟩:=mO_elim hV
  exact ⟨_,hK,givesA_makeFunc ho h hcs⟩
 case h_15 t x lo hi ho =>
  obtain ⟨l,hl,hV⟩:=mO_elim hV
  exact slice_sound hT ho h (oneOf_some hl) hV
 case h_16 t x lo hi z ho =>
  obtain ⟨j,hj,hV⟩:=mO_elim hV
  obtain ⟨v1,hx,hV⟩:=mO_elim hV
  obtain ⟨n,hn,hV⟩:=mO_elim hV
  obtain ⟨l,hl,hV⟩:=mO_elim hV
  obtain ⟨hh,hhi,hV⟩:=mO_elim hV
  obtain ⟨mx,hmx,hV⟩:=mO_elim hV
  obtain ⟨⟨h0,h1,h2,h3⟩,hs,hK⟩:=hV
  obtain ⟨i,e,hi',he,hE,hti,htj⟩:=elemTI_some hT hj
  exact ⟨_,hK,givesA_slice3 ho hti he htj h (oneOf_some hx) hn hl hhi hs hmx h0 h1 h2 h3⟩
 case h_17 x ho =>
  obtain ⟨y,hy,hp,hK⟩:=mO_elim hV
  exact ⟨_,hK,givesA_nilCheck ho h (oneOf_some hy) hp⟩
 case h_18 t t' x ho =>
  obtain ⟨l,hl,hV⟩:=mO_elim hV
  cases l with
  | int k n =>
   obtain ⟨hs,hV⟩:=hV
   obtain ⟨k',hk,hK⟩:=mO_elim hV
   exact ⟨_,hK,givesA_convInt ho hs (convK_some hk) h (oneOf_some hl)⟩
  | str q =>
   obtain ⟨i,hi,hV⟩:=mO_elim hV
   obtain ⟨i',hi',hV⟩:=mO_elim hV
   obtain ⟨e,he,⟨hs,hk⟩,hK⟩:=mO_elim hV
   exact ⟨_,hK,givesA_strBytes ho (hT _ _ hi) hs (hT _ _ hi') he (convK_some hk) h (oneOf_some hl)⟩
  | _=>cases hV
 case h_19 c ho =>
  split at hV
  ·rename_i hcal
   split at hV
   ·rename_i x t hargs htys
    obtain ⟨i,hi,hV⟩:=mO_elim hV
    obtain ⟨l,hl,hV⟩:=mO_elim hV
    obtain ⟨n,hn,hk,hK⟩:=mO_elim hV
    refine ⟨_,hK,?_⟩
    have hc:c={callee:=.builtin .len,args:=#[x],argTypes:=#[t]}:=by
     cases c with
     | mk cl ar tys =>
      simp only at hcal hargs htys
      have e1:ar=#[x]:=by apply Array.ext';simpa using hargs
      have e2:tys=#[t]:=by apply Array.ext';simpa using htys
      subst hcal e1 e2
      rfl
    rw [hc] at ho
    exact givesA_len ho (hT _ _ hi) h (oneOf_some hl) hn hk
   ·cases hV
  ·rename_i hcal
   split at hV
   ·rename_i x y hargs
    obtain ⟨l1,h1,hV⟩:=mO_elim hV
    obtain ⟨l2,h2,hV⟩:=mO_elim hV
    obtain ⟨l,hl,hK⟩:=mO_elim hV
    refine ⟨_,hK,?_⟩
    have hc:c={callee:=.builtin .max,args:=#[x,y],argTypes:=c.argTypes}:=by
     cases c with
     | mk cl ar tys =>
      simp only at hcal hargs
      have e1:ar=#[x,y]:=by apply Array.ext';simpa using hargs
      subst hcal e1
      rfl
    rw [hc] at ho
    exact givesA_max ho h (oneOf_some h1) (oneOf_some h2) hl
   ·cases hV
  ·rename_i hcal
   split at hV
   ·rename_i x y hargs
    obtain ⟨l1,h1,hV⟩:=mO_elim hV
    obtain ⟨l2,h2,hV⟩:=mO_elim hV
    obtain ⟨l,hl,hK⟩:=mO_elim hV
    refine ⟨_,hK,?_⟩
    have hc:c={callee:=.builtin .min,args:=#[x,y],argTypes:=c.argTypes}:=by
     cases c with
     | mk cl ar tys =>
      simp only at hcal hargs
      have e1:ar=#[x,y]:=by apply Array.ext';simpa using hargs
      subst hcal e1
      rfl
    rw [hc] at ho
    exact givesA_min ho h (oneOf_some h1) (oneOf_some h2) hl
   ·cases hV
  ·obtain ⟨⟨f,xs⟩,hc,r,hS⟩:=mO_elim hV
   rcases hS with ⟨hS,hK⟩|⟨hS,hK⟩
   ·exact ⟨_,hK,gives_call ho h hc hS⟩
   ·exact ⟨_,hK,gives_lentR ho h hc hS⟩
  ·cases hV
 case h_20 t x ho =>
  obtain ⟨l,hl,hV⟩:=mO_elim hV
  cases l with
  | int k n=>exact ⟨_,hV,givesA_neg ho h (oneOf_some hl)⟩
  | _=>cases hV
 case h_21=>cases hV
def CallMoves (P:Program) (f:FuncId) (xs:List V) (s:St) (d:Option Tmp) (s':St):Prop :=
 ∀(w0:World) (m0:Mem) (F0:Home) (a:Act) (w:World) (m:Mem) (ω:Wh),CI P w0 m0 F0 s a w m ω→∀vs:List Value,ArgsRep m ω vs xs→CallsR P f vs.toArray w fun v w'=>Conc P w0 m0 F0 s' (a.put d v) w'
def CallG (P:Program) (f:FuncId) (xs:List V) (s:St) (d:Option Tmp) (K:St→Prop):Prop:=∃s',CallMoves P f xs s d s'∧K s'
theorem CallsR.mono {f:FuncId} {args:Array Value} {R R':Value→World→Prop} (h:CallsR P f args w R) (hR:∀v w',R v w'→R' v w'):CallsR P f args w R':=by
 rcases h with ⟨v,w',h1,h2⟩|⟨h1,h2⟩
 ·exact .inl ⟨v,w',h1,hR _ _ h2⟩
 ·exact .inr ⟨h1,h2.mono fun e w' ⟨v,he,hr⟩=>⟨v,he,hR _ _ hr⟩⟩
theorem CallMoves.pure {f:FuncId} {xs:List V} {r:A} {d:Option Tmp} (hd:s.okD d) (hS:Sat P f xs r):CallMoves P f xs s d (s.putO d (r.map L.clos)):=by
 intro w0 m0 F0 a w m ω h vs hA
 refine (hS.call m w vs ω (CI.none h.goodN h.ok) hA).mono fun v w' hp=>?_
 obtain ⟨m',ω',hC,hv⟩:=hp
 refine ⟨m',ω,(h.grow ⟨hC.keeps.os,hC.keeps.tape,hC.keeps.output,hC.keeps.size,fun k hk=>hC.keeps.block k hk owned_none⟩ hC.mle (fun x hx=>hC.mold x hx owned_none) hC.ok).putO hd ?_⟩
 exact hv.map fun v l hl=>L.clos_e hl
theorem CallMoves.lent {f:FuncId} {xs:List V} {r:A} {d:Option Tmp} (hd:s.okD d) (hS:Sat P f (xs.map fun x=>x.map (frzV 4 s)) r):CallMoves P f xs s d (s.putO d (r.map L.flat)):=by
 intro w0 m0 F0 a w m ω h vs h2
 let F:Nat→Prop:=Owned s ω
 have hF:∀x v,m x=some v→¬ F x.block:=by
  rintro x v hx ⟨κ,id,hl,hk⟩
  exact (h.fresh κ id hl _ hk).2.2 x v hx rfl
 have hle:=frzMem_le (w:=w) hF
 have hA:ArgsRep (frzMem m w F) ω vs (xs.map fun x=>x.map (frzV 4 s)):=by
  refine ⟨by simpa using h2.1,fun i x hi=>?_⟩
  rw [List.getElem?_map,Option.map_eq_some_iff] at hi
  obtain ⟨x0,hi,rfl⟩:=hi
  obtain ⟨v,h3,h4⟩:=h2.2 i x0 hi
  exact ⟨v,h3,h4.map fun v l hl=>(frzV_sound h hle (fun κ id hl x hx=>frzMem_in (m:=m) ⟨κ,id,hl,hx⟩) 4 v l hl).erep⟩
 refine (hS.call _ w vs ω (CI.none h.goodN (frzMem_ok h.ok)) hA).mono fun v w' hp=>?_
 obtain ⟨m',ω',hC,hv⟩:=hp
 have hlt:∀k,F k→k<w.heap.size:=fun k ⟨κ,id,hl,hk⟩=>(h.fresh κ id hl k hk).1
 refine ⟨cutMem m' F,ω,(h.grow ⟨hC.keeps.os,hC.keeps.tape,hC.keeps.output,hC.keeps.size,fun k hk=>hC.keeps.block k hk owned_none⟩ (fun x v hx=>?_) (fun x hx=>?_) (fun x v hx=>?_)).putO hd (hv.map fun v l hl=>L.flat_e hl)⟩
 ·rw [cutMem_out (hF x v hx)]
  exact hC.mle x v (hle x v hx)
 ·by_cases hb:F x.block
  ·rw [cutMem_in hb]
   cases hm:m x with
   | none=>rfl
   | some v=>exact absurd hb (hF x v hm)
  ·rw [cutMem_out hb,hC.mold x hx owned_none,frzMem_out hb]
 ·by_cases hb:F x.block
  ·rw [cutMem_in hb] at hx;cases hx
  ·rw [cutMem_out hb] at hx
   exact hC.ok x v hx
theorem CallG.pure {f:FuncId} {xs:List V} {r:A} {d:Option Tmp} {K:St→Prop} (hS:Sat P f xs r) (h:s.okD d∧K (s.putO d (r.map L.clos))):CallG P f xs s d K:=⟨_,.pure h.1 hS,h.2⟩
theorem CallG.lent {f:FuncId} {xs ys:List V} {r:A} {d:Option Tmp} {K:St→Prop} (hS:Sat P f ys r) (hy:(xs.map fun x=>x.map (frzV 4 s))=ys) (h:s.okD d∧K (s.putO d (r.map L.flat))):CallG P f xs s d K:=⟨_,.lent h.1 (hy▸hS),h.2⟩
def pk (s:St) (d:Option Tmp) (K:St→Prop) (y:A):Prop:=match d with|some d=>d<s.n∧K (s.put d y)|none=>K s
theorem pk_elim {d:Option Tmp} {K:St→Prop} {y:A} (h:pk s d K y):s.okD d∧K (s.putO d y):=by
 unfold pk at h
 split at h
 ·exact h
 ·exact ⟨trivial,h⟩
def assignK (s:St) (d:Option Tmp) (K:St→Prop) (e:Option A):Prop:=match d with
 | some d=>(match e with
  | some (.v (.one (.nil z)))=>d<s.n∧K (s.nilRow d z)
  | some (.v (.one (.ref id lo n)))=>mO (look s.row id) fun r=>d<s.n∧K (s.takeRow id d lo n r)
  | some y=>d<s.n∧K (s.put d y)
  | none=>False)
 | none=>False
def storeK (s:St) (i:TI) (vs:List L) (K:St→Prop):L→Prop
 | .ptr id off=>mO (look s.box id) fun ls=>(vs.length=i.size∧off+vs.length≤ls.length)∧K {s with box:=sput id (setL off vs ls) s.box}
 | .eptr id k off=>mO (look s.row id) fun r=>(vs.length=i.size∧k<r.xs.length∧off+vs.length≤r.sz)∧K {s with row:=sput id (r.store k off vs) s.row}
 | _=>False
def ovIn:List (Nat×Nat×L)→Nat→Prop
 | [],_=>True
 | p::r,n=>p.1<n∧ovIn r n
theorem ovIn_get:∀{ov:List (Nat×Nat×L)} {n:Nat},ovIn ov n→ovGet ov n 0=none
 | [],_,_=>rfl
 | (p,q,l)::r,n,h=>by
  simp only [ovGet]
  rw [if_neg (fun e=>by have:=h.1;simp only at this;omega)]
  exact ovIn_get h.2
def ysOf (s:St) (j:TI):L→Option (Nat×List (List L)×List (Nat×Nat×L)×Prop)
 | .sl sz ys=>some (sz,ys,[],True)
 | .nil _=>some (j.size,[],[],True)
 | .ref id lo n=>match look s.row id with
  | some r=>match r.ov with
   | []=>some (r.sz,(r.xs.drop lo).take n,[],lo+n≤r.xs.length∧noOwn r.xs)
   | ov=>some (r.sz,r.xs,ov,lo=0∧n=r.xs.length∧noOwn r.xs∧ovIn ov n)
  | none=>none
 | _=>none
def dstOf (s:St) (j:TI):L→Option (Option Nat×Nat×List (List L)×Prop)
 | .nil _=>some (none,j.size,[],True)
 | .ref id lo n=>match look s.row id with
  | some r=>some (some id,r.sz,r.xs.take n,lo=0∧r.ov=[]∧n≤r.xs.length)
  | none=>none
 | _=>none
theorem ysOf_sound (h:CI P w0 m0 F0 s a w m ω) {j:TI} {v:Value} {l:L} {sz:Nat} {ys:List (List L)} {ov:List (Nat×Nat×L)} {p:Prop} (hy:ysOf s j l=some (sz,ys,ov,p)) (hp:p) (hl:ERep m ω v l):SliceRd m w ω v sz ys ov:=by
 cases l<;>simp only [ysOf,reduceCtorEq,Option.some.injEq,Prod.mk.injEq] at hy
 ·obtain ⟨rfl,rfl,rfl,_⟩:=hy
  exact sliceRd_sl h.ok hl
 ·obtain ⟨rfl,rfl,rfl,_⟩:=hy
  exact sliceRd_nil hl _
 ·rename_i id lo n
  split at hy
  ·rename_i r hr
   split at hy
   ·rename_i hov
    simp only [Option.some.injEq,Prod.mk.injEq] at hy
    obtain ⟨rfl,rfl,rfl,rfl⟩:=hy
    exact sliceRd_ref h hl hr hp.1 hp.2 (fun i j _=>by rw [hov];rfl)
   ·simp only [Option.some.injEq,Prod.mk.injEq] at hy
    obtain ⟨rfl,rfl,rfl,rfl⟩:=hy
    obtain ⟨rfl,rfl,ho,_⟩:=hp
    have:=sliceRd_ref (ov:=r.ov) h hl hr (by omega) ho (fun i j _=>by rw [Nat.zero_add])
    simpa using this
  ·cases hy
theorem ysOf_in {j:TI} {l:L} {sz:Nat} {ys:List (List L)} {ov:List (Nat×Nat×L)} {p:Prop} (hy:ysOf s j l=some (sz,ys,ov,p)) (hp:p):ovGet ov ys.length 0=none:=by
 cases l<;>simp only [ysOf,reduceCtorEq,Option.some.injEq,Prod.mk.injEq] at hy
 ·obtain ⟨rfl,rfl,rfl,_⟩:=hy
  rfl
 ·obtain ⟨rfl,rfl,rfl,_⟩:=hy
  rfl
 ·split at hy
  ·split at hy
   ·simp only [Option.some.injEq,Prod.mk.injEq] at hy
    obtain ⟨rfl,rfl,rfl,rfl⟩:=hy
    rfl
   ·simp only [Option.some.injEq,Prod.mk.injEq] at hy
    obtain ⟨rfl,rfl,rfl,rfl⟩:=hy
    obtain ⟨_,rfl,_,hi⟩:=hp
    exact ovIn_get hi
  ·cases hy
theorem dstOf_sound {j:TI} {l:L} {src:Option Nat} {sz:Nat} {xs:List (List L)} {p:Prop} (hy:dstOf s j l=some (src,sz,xs,p)) (hp:p):Dst s l sz xs src:=by
 cases l<;>simp only [dstOf,reduceCtorEq,Option.some.injEq,Prod.mk.injEq] at hy
 ·obtain ⟨rfl,rfl,rfl,_⟩:=hy
  exact .nil _ _
 ·split at hy
  ·rename_i r hr
   simp only [Option.some.injEq,Prod.mk.injEq] at hy
   obtain ⟨rfl,rfl,rfl,rfl⟩:=hy
   obtain ⟨rfl,h1,h2⟩:=hp
   exact .ref _ _ r hr h1 h2
  ·cases hy
def ovOut:List (Nat×Nat×L)→Nat→Prop
 | [],_=>True
 | p::r,n=>n≤p.1∧ovOut r n
theorem ovOut_get:∀{ov:List (Nat×Nat×L)} {n:Nat},ovOut ov n→∀i j,i<n→ovGet ov i j=none
 | [],_,_,_,_,_=>rfl
 | (p,q,l)::r,n,h,i,j,hi=>by
  simp only [ovGet]
  rw [if_neg (fun e=>by have:=h.1;simp only at this;omega)]
  exact ovOut_get h.2 i j hi
def marked:RowC→Prop
 | ⟨_,xs,[(c,0,_)]⟩=>c=xs.length
 | _=>False
theorem marked_get {r:RowC} (h:marked r):ovGet r.ov r.xs.length 0≠none∧∀i j,i<r.xs.length→ovGet r.ov i j=none:=by
 obtain ⟨sz,xs,ov⟩:=r
 match ov,h with
 | [(c,0,l)],h =>
  have h:c=xs.length:=h
  subst h
  refine ⟨by simp [ovGet],fun i j hi=>?_⟩
  simp only [ovGet]
  rw [if_neg (fun e=>by simp only at hi;omega)]
def ysC (s:St) (j:TI):L→Option (Nat×List (List L)×Prop)
 | .sl sz ys=>some (sz,ys,True)
 | .nil _=>some (j.size,[],True)
 | .ref id lo n=>match look s.row id with
  | some r=>some (r.sz,(r.xs.drop lo).take n,lo+n≤r.xs.length∧noOwn r.xs∧ovOut r.ov r.xs.length)
  | none=>none
 | _=>none
theorem ysC_sound (h:CI P w0 m0 F0 s a w m ω) {j:TI} {v:Value} {l:L} {sz:Nat} {ys:List (List L)} {p:Prop} (hy:ysC s j l=some (sz,ys,p)) (hp:p) (hl:ERep m ω v l):SliceRd m w ω v sz ys []:=by
 cases l<;>simp only [ysC,reduceCtorEq,Option.some.injEq,Prod.mk.injEq] at hy
 ·obtain ⟨rfl,rfl,_⟩:=hy
  exact sliceRd_sl h.ok hl
 ·obtain ⟨rfl,rfl,_⟩:=hy
  exact sliceRd_nil hl _
 ·rename_i id lo n
  split at hy
  ·rename_i r hr
   simp only [Option.some.injEq,Prod.mk.injEq] at hy
   obtain ⟨rfl,rfl,rfl⟩:=hy
   exact sliceRd_ref h hl hr hp.1 hp.2.1 (fun i j hi=>by rw [ovOut_get hp.2.2 (lo+i) j (by omega)];rfl)
  ·cases hy
def appStd (s:St) (j:TI) (z:List L) (d:Nat) (K:St→Prop) (l1 l2:L):Prop:=mO (dstOf s j l1) fun p=>mO (ysOf s j l2) fun q =>
 (p.2.2.2∧q.2.2.2)∧(j.size=p.2.1∧j.size=q.1∧z.length=j.size)∧((p.2.2.1.length+q.2.1.length) * j.bytes≤140737488355328∧p.2.2.1.length+q.2.1.length≤9223372036854775807)∧d<s.n∧K (s.appended p.1 d p.2.1 (p.2.2.1++q.2.1) (ovShift p.2.2.1.length q.2.2.1))
def appIn (s:St) (j:TI) (d:Nat) (K:St→Prop) (id lo n lo' k:Nat):Prop:=mO (look s.row id) fun r=>(lo=0∧r.ov=[]∧n+k≤r.xs.length∧lo'+k≤r.xs.length∧noOwn r.xs∧j.size=r.sz)∧d<s.n ∧
 K (St.put {s with row:=sput id ⟨r.sz,r.xs.take n++(r.xs.drop lo').take k++r.xs.drop (n+k),[]⟩ s.row} d (.v (.one (.ref id 0 (n+k)))))
def appMk (s:St) (j:TI) (z:List L) (d:Nat) (K:St→Prop) (id lo n:Nat) (k:Int):Prop:=mO (look s.row id) fun r=>(lo=0∧marked r∧n≤r.xs.length∧noOwn (r.xs.take n)∧j.size=r.sz∧z.length=r.sz∧0<r.sz)∧(0<k∧(r.xs.length:Int)<n+k∧(n+k.toNat) * j.bytes≤140737488355328∧n+k.toNat≤9223372036854775807)∧d<s.n ∧
 K (s.appended none d r.sz (r.xs.take n++List.replicate k.toNat (z.map L.clos)) [])
def appK (P:Program) (s:St) (t t':TypeId) (j:TI) (z:List L) (d:Nat) (K:St→Prop):L→L→Prop
 | .ref id lo n,.ref id' lo' k=>t=t'∧(if id=id' then appIn s j d K id lo n lo' k else appStd s j z d K (.ref id lo n) (.ref id' lo' k))
 | .ref id lo n,.int _ k=>(convK P t').isSome=true∧appMk s j z d K id lo n k
 | .nil _,.int _ k=>(convK P t').isSome=true∧(z.length=j.size∧0<j.size∧0<k∧k.toNat * j.bytes≤140737488355328∧k.toNat≤9223372036854775807)∧d<s.n∧K (s.appended none d j.size (List.replicate k.toNat (z.map L.clos)) [])
 | l1,l2=>t=t'∧appStd s j z d K l1 l2
def copyK (s:St) (j:TI) (d:Option Tmp) (K:St→Prop):L→L→Prop
 | .ref id lo n,l2=>mO (look s.row id) fun r=>mO (ysC s j l2) fun q=>(ovOut r.ov r.xs.length∧lo+n≤r.xs.length∧j.size=r.sz∧q.1=r.sz∧q.2.2)∧s.okD d ∧
   K (St.putO {s with row:=sput id ⟨r.sz,r.xs.take lo++q.2.1.take (min q.2.1.length n)++r.xs.drop (lo+min q.2.1.length n),r.ov⟩ s.row} d (.v (.one (.int .i64 ((min q.2.1.length n:Nat):Int)))))
 | _,_=>False
def clearK (s:St) (j:TI) (z:List L) (d:Option Tmp) (K:St→Prop):L→Prop
 | .ref id lo n=>mO (look s.row id) fun r=>(ovOut r.ov r.xs.length∧lo+n≤r.xs.length∧j.size=r.sz∧z.length=r.sz)∧s.okD d ∧
   K (St.putO {s with row:=sput id ⟨r.sz,r.xs.take lo++List.replicate n (z.map L.clos)++r.xs.drop (lo+n),r.ov⟩ s.row} d (.tup []))
 | _=>False
def capK (s:St) (d:Nat) (K:St→Prop):L→Prop
 | .nil _=>d<s.n∧K (s.put d (.v (.one (.int .i64 0))))
 | .ref id lo _=>mO (look s.row id) fun r=>(lo=0∧r.ov=[])∧d<s.n∧∀p:Nat,r.xs.length+p≤9223372036854775807→K (St.put {s with row:=sput id (padRow r p) s.row} d (.v (.one (.int .i64 ((r.xs.length+p:Nat):Int)))))
 | _=>False
def VOp (P:Program) (T:TypeId→Option TI) (o:Oper) (s:St) (K:St→Prop):Prop :=
 match o.op with
 | .assign x=>assignK s o.dst K (evalO T s o.type x)
 | .box _ x=>mO o.dst fun d=>mO (partCells T s 0 x) fun ls=>d<s.n∧K (s.newBox d ls)
 | .alloc e=>mO o.dst fun d=>mO (T e) fun i=>mO i.zero fun ls=>d<s.n∧K (s.newBox d ls)
 | .store t x y=>o.dst=none∧mO (T t) fun i=>mO (partCells T s t y) fun vs=>mO (oneOf (evalO T s 0 x)) (storeK s i vs K)
 | .buildSlice t len parts=>mO o.dst fun d=>mO (elemTI T t) fun j=>mO j.zero fun z=>(z.length=j.size∧0<j.size∧len * j.size≤16777216) ∧
   mO (fillL T s 0 (fun k=>some (k * j.size,j.size)) (repL z len) parts.toList) fun ls=>d<s.n∧K ((s.newRow0 none d (rowOf j.size len ls)).put d (.v (.one (.ref d 0 len))))
 | .call c=>(match c.callee with
   | .builtin .append=>mO o.dst fun d=>(match c.args.toList,c.argTypes.toList with
    | [x,y],[t,t']=>mO (elemTI T t) fun j=>mO j.zero fun z=>mO (oneOf (evalO T s t x)) fun l1=>mO (oneOf (evalO T s t y)) fun l2=>appK P s t t' j z d K l1 l2
    | _,_=>False)
   | .builtin .copy=>(match c.args.toList,c.argTypes.toList with
    | [x,y],[t,_]=>mO (elemTI T t) fun j=>mO (oneOf (evalO T s t x)) fun l1=>mO (oneOf (evalO T s t y)) fun l2=>copyK s j o.dst K l1 l2
    | _,_=>False)
   | .builtin .clear=>(match c.args.toList,c.argTypes.toList with
    | [x],[t]=>mO (elemTI T t) fun j=>mO j.zero fun z=>mO (oneOf (evalO T s t x)) fun l1=>clearK s j z o.dst K l1
    | _,_=>False)
   | .builtin .cap=>mO o.dst fun d=>(match c.args.toList,c.argTypes.toList with
    | [x],[t]=>mO (elemTI T t) fun _=>mO (oneOf (evalO T s t x)) fun l1=>capK s d K l1
    | _,_=>False)
   | .value _=>mO (callOf T s c) fun p=>CallG P p.1 p.2 s o.dst K
   | _=>VVal P T o s (pk s o.dst K))
 | .binOp .eql t x (.const (.slice none 0 0)) _=>mO (oneOf (evalO T s t x)) fun l=>isSlice l=true∧mO (T t) fun i=>i.elem.isSome=true∧∀b,(∀n,nL l=some n→0<n→b=false)→pk s o.dst K (.v (.one (.bool b)))
 | _=>VVal P T o s (pk s o.dst K)
def Follows (P:Program) (w0:World) (m0:Mem) (F0:Home) (o:Oper) (a:Act) (w:World) (K:St→Prop):Prop :=
 ∀next Q,(∀s' a' w',K s'→Conc P w0 m0 F0 s' a' w'→next a' w')→o.wp P a w next Q
theorem Moves.follows {o:Oper} {s':St} {K:St→Prop} (h:Moves P w0 m0 F0 o a w s') (hK:K s'):Follows P w0 m0 F0 o a w K :=
 fun next Q hn=>h next Q fun _ w' hc=>hn s' _ w' hK hc
theorem follows_of_val (hT:TabOk P T) {o:Oper} {K:St→Prop} (hV:VVal P T o s (pk s o.dst K)) (h:CI P w0 m0 F0 s a w m ω):Follows P w0 m0 F0 o a w K:=by
 obtain ⟨x,hx,hG⟩:=VVal_sound hT hV h
 have hd:=pk_elim hx
 exact (hG.moves hd.1).follows hd.2
theorem VOp_sound (hT:TabOk P T) {o:Oper} {K:St→Prop} (hV:VOp P T o s K) (h:CI P w0 m0 F0 s a w m ω):Follows P w0 m0 F0 o a w K:=by
 unfold VOp at hV
 split at hV
 case h_1 x ho =>
  unfold assignK at hV
  split at hV
  ·rename_i d hd
   split at hV
   ·rename_i z hz
    exact (moves_nilRow ho hd hV.1 h hz).follows hV.2
   ·rename_i id lo n hz
    obtain ⟨r,hr,hn,hK⟩:=mO_elim hV
    exact (moves_takeRow ho hd hn h hz hr).follows hK
   ·rename_i y hy
    have:=(givesA_assign ho h hy).moves (by rw [hd];exact hV.1)
    rw [hd] at this
    exact this.follows hV.2
   ·cases hV
  ·cases hV
 case h_2 e x ho =>
  obtain ⟨d,hd,hV⟩:=mO_elim hV
  obtain ⟨ls,hls,hn,hK⟩:=mO_elim hV
  exact (moves_box ho hd hn h hls).follows hK
 case h_3 e ho =>
  obtain ⟨d,hd,hV⟩:=mO_elim hV
  obtain ⟨i,hi,hV⟩:=mO_elim hV
  obtain ⟨ls,hls,hn,hK⟩:=mO_elim hV
  exact (moves_alloc ho hd hn (hT _ _ hi) hls h).follows hK
 case h_4 t x y ho =>
  obtain ⟨hd,hV⟩:=hV
  obtain ⟨i,hi,hV⟩:=mO_elim hV
  obtain ⟨vs,hvs,hV⟩:=mO_elim hV
  obtain ⟨l,hl,hV⟩:=mO_elim hV
  have hl:=oneOf_some hl
  cases l with
  | ptr id off =>
   obtain ⟨ls,hls,⟨h1,h2⟩,hK⟩:=mO_elim hV
   exact (moves_store ho hd (hT _ _ hi) h hl hls hvs h1 h2).follows hK
  | eptr id k off =>
   obtain ⟨r,hr,⟨h1,h2,h3⟩,hK⟩:=mO_elim hV
   exact (moves_storeRow ho hd (hT _ _ hi) h hl hr hvs h1 h2 h3).follows hK
  | _=>cases hV
 case h_5 t len parts ho =>
  obtain ⟨d,hd,hV⟩:=mO_elim hV
  obtain ⟨j,hj,hV⟩:=mO_elim hV
  obtain ⟨z,hz,hc,hV⟩:=mO_elim hV
  obtain ⟨ls,hls,hn,hK⟩:=mO_elim hV
  obtain ⟨i,e,hi,he,hE,hti,htj⟩:=elemTI_some hT hj
  exact (moves_buildSlice ho hd hn hT hi he hE hz hc.1 hc.2.1 hc.2.2 h hls).follows hK
 case h_6 c ho =>
  split at hV
  ·rename_i hcal
   obtain ⟨d,hd,hV⟩:=mO_elim hV
   split at hV
   ·rename_i x y t t' hargs htys
    obtain ⟨j,hj,hV⟩:=mO_elim hV
    obtain ⟨z,hz,hV⟩:=mO_elim hV
    obtain ⟨l1,hl1,hV⟩:=mO_elim hV
    obtain ⟨l2,hl2,hV⟩:=mO_elim hV
    obtain ⟨i,e,hi,he,hE,hti,htj⟩:=elemTI_some hT hj
    have hc:c={callee:=.builtin .append,args:=#[x,y],argTypes:=#[t,t']}:=by
     cases c with
     | mk cl ar tys =>
      simp only at hcal hargs htys
      have e1:ar=#[x,y]:=by apply Array.ext';simpa using hargs
      have e2:tys=#[t,t']:=by apply Array.ext';simpa using htys
      subst hcal e1 e2
      rfl
    rw [hc] at ho
    have std:∀l1 l2,oneOf (evalO T s t x)=some l1→oneOf (evalO T s t y)=some l2→t=t'→appStd s j z d K l1 l2→Follows P w0 m0 F0 o a w K:=by
     intro l1 l2 hl1 hl2 htt hQ
     subst htt
     obtain ⟨⟨src,sz,xs,p⟩,hs,hQ⟩:=mO_elim hQ
     obtain ⟨⟨sz',ys,ov,q⟩,hy,hQ⟩:=mO_elim hQ
     obtain ⟨⟨hp,hq⟩,⟨h1,h2,h3⟩,⟨h4,h5⟩,hn,hK⟩:=hQ
     simp only at h1 h2 h3 h4 h5 hn hK hp hq
     have h2':sz'=sz:=by omega
     subst h2'
     exact (moves_append ho hd hn hti he htj hz h1 (h3.trans h1) h (oneOf_some hl1) (dstOf_sound hs hp) (ysOf_sound h hy hq (evalO_sound h (oneOf_some hl2))) (ysOf_in hy hq) h4 h5).follows hK
    have rr:∀id lo n id' lo' k,l1=.ref id lo n→l2=.ref id' lo' k→Follows P w0 m0 F0 o a w K:=by
     rintro id lo n id' lo' k rfl rfl
     obtain ⟨htt,hQ⟩:=hV
     split at hQ
     ·rename_i hid
      subst hid
      subst htt
      obtain ⟨r,hr,⟨h0,hov,h1,h2,h3,h4⟩,hn,hK⟩:=mO_elim hQ
      subst h0
      have hl:((r.xs.drop lo').take k).length=k:=by simp;omega
      have hy:=sliceRd_ref (ov:=[]) h (evalO_sound h (oneOf_some hl2)) hr h2 h3 (fun i j _=>by rw [hov];rfl)
      have:=moves_appendIn ho hd hn hti he htj h4 h (oneOf_some hl1) hr hov hy (by rw [hl];exact h1)
      rw [hl] at this
      exact this.follows hK
     ·exact std _ _ hl1 hl2 htt hQ
    have ri:∀id lo n kq k,l1=.ref id lo n→l2=.int kq k→Follows P w0 m0 F0 o a w K:=by
     rintro id lo n kq k rfl rfl
     obtain ⟨hcv,hV⟩:=hV
     obtain ⟨kn,hkn⟩:=Option.isSome_iff_exists.1 hcv
     obtain ⟨r,hr,⟨h0,hmk,h1,h2,h3,h4,h5⟩,⟨h6,h7,h8,h9⟩,hn,hK⟩:=mO_elim hV
     subst h0
     obtain ⟨mk1,mk2⟩:=marked_get hmk
     have hkk:k=(k.toNat:Int):=by omega
     have hl2':=oneOf_some hl2
     rw [hkk] at hl2'
     exact (moves_appendMk ho hd hn hti he htj hz h3 h4 h5 (convK_some hkn) h (oneOf_some hl1) hl2' hr mk2 mk1 h1 h2 (by omega) (by omega) h8 h9).follows hK
    have ni:∀sz kq k,l1=.nil sz→l2=.int kq k→Follows P w0 m0 F0 o a w K:=by
     rintro sz kq k rfl rfl
     obtain ⟨hcv,⟨q1,q2,q3,q4,q5⟩,hn,hK⟩:=hV
     obtain ⟨kn,hkn⟩:=Option.isSome_iff_exists.1 hcv
     have hkk:k=(k.toNat:Int):=by omega
     have hl2':=oneOf_some hl2
     rw [hkk] at hl2'
     exact (moves_appendNil ho hd hn hti he htj hz q1 q2 (convK_some hkn) h (oneOf_some hl1) hl2' (by omega) q4 q5).follows hK
    cases l1 with
    | ref id lo n =>
     cases l2 with
     | ref id' lo' k=>exact rr _ _ _ _ _ _ rfl rfl
     | int kq k=>exact ri _ _ _ _ _ rfl rfl
     | _=>exact std _ _ hl1 hl2 hV.1 hV.2
    | nil sz =>
     cases l2 with
     | int kq k=>exact ni _ _ _ rfl rfl
     | _=>exact std _ _ hl1 hl2 hV.1 hV.2
    | _=>exact std _ _ hl1 hl2 hV.1 hV.2
   ·cases hV
  ·rename_i hcal
   split at hV
   ·rename_i x y t t' hargs htys
    obtain ⟨j,hj,hV⟩:=mO_elim hV
    obtain ⟨l1,hl1,hV⟩:=mO_elim hV
    obtain ⟨l2,hl2,hV⟩:=mO_elim hV
    obtain ⟨i,e,hi,he,hE,hti,htj⟩:=elemTI_some hT hj
    have hc:c={callee:=.builtin .copy,args:=#[x,y],argTypes:=#[t,t']}:=by
     cases c with
     | mk cl ar tys =>
      simp only at hcal hargs htys
      have e1:ar=#[x,y]:=by apply Array.ext';simpa using hargs
      have e2:tys=#[t,t']:=by apply Array.ext';simpa using htys
      subst hcal e1 e2
      rfl
    rw [hc] at ho
    cases l1 with
    | ref id lo n =>
     obtain ⟨r,hr,hV⟩:=mO_elim hV
     obtain ⟨⟨sz,ys,p⟩,hy,⟨h1,h2,h3,h4,h5⟩,hdd,hK⟩:=mO_elim hV
     simp only at h4 h5 hK
     subst h4
     exact (moves_copy ho hdd hti he htj h3 h (oneOf_some hl1) hr (ovOut_get h1) h2 (ysC_sound h hy h5 (evalO_sound h (oneOf_some hl2))) rfl).follows hK
    | _=>cases hV
   ·cases hV
  ·rename_i hcal
   split at hV
   ·rename_i x t hargs htys
    obtain ⟨j,hj,hV⟩:=mO_elim hV
    obtain ⟨z,hz,hV⟩:=mO_elim hV
    obtain ⟨l1,hl1,hV⟩:=mO_elim hV
    obtain ⟨i,e,hi,he,hE,hti,htj⟩:=elemTI_some hT hj
    have hc:c={callee:=.builtin .clear,args:=#[x],argTypes:=#[t]}:=by
     cases c with
     | mk cl ar tys =>
      simp only at hcal hargs htys
      have e1:ar=#[x]:=by apply Array.ext';simpa using hargs
      have e2:tys=#[t]:=by apply Array.ext';simpa using htys
      subst hcal e1 e2
      rfl
    rw [hc] at ho
    cases l1 with
    | ref id lo n =>
     obtain ⟨r,hr,⟨h1,h2,h3,h4⟩,hdd,hK⟩:=mO_elim hV
     exact (moves_clear ho hdd hti he htj hz h3 h4 h (oneOf_some hl1) hr (ovOut_get h1) h2).follows hK
    | _=>cases hV
   ·cases hV
  ·rename_i hcal
   obtain ⟨d,hd,hV⟩:=mO_elim hV
   split at hV
   ·rename_i x t hargs htys
    obtain ⟨j,hj,hV⟩:=mO_elim hV
    obtain ⟨l1,hl1,hV⟩:=mO_elim hV
    obtain ⟨i,e,hi,he,hE,hti,htj⟩:=elemTI_some hT hj
    have hc:c={callee:=.builtin .cap,args:=#[x],argTypes:=#[t]}:=by
     cases c with
     | mk cl ar tys =>
      simp only at hcal hargs htys
      have e1:ar=#[x]:=by apply Array.ext';simpa using hargs
      have e2:tys=#[t]:=by apply Array.ext';simpa using htys
      subst hcal e1 e2
      rfl
    rw [hc] at ho
    cases l1 with
    | ref id lo n =>
     obtain ⟨r,hr,⟨h0,hov⟩,hn,hK⟩:=mO_elim hV
     subst h0
     obtain ⟨p,hp,hM⟩:=follows_cap ho hd hn hti he h (oneOf_some hl1) hr hov
     exact hM.follows (hK p hp)
    | nil sz=>exact (moves_capNil ho hd hV.1 hti he h (oneOf_some hl1)).follows hV.2
    | _=>cases hV
   ·cases hV
  ·obtain ⟨⟨f,xs⟩,hc,s',hM,hK⟩:=mO_elim hV
   obtain ⟨vs,h1,h2⟩:=callOf_sound ho h hc
   exact Moves.follows (gives_of_callsR h1 (hM _ _ _ a w m ω h vs h2)) hK
  ·exact follows_of_val hT hV h
 case h_7 t x t' ho =>
  obtain ⟨l,hl,hs,hV⟩:=mO_elim hV
  obtain ⟨i,hi,he,hV⟩:=mO_elim hV
  obtain ⟨e,he⟩:=Option.isSome_iff_exists.1 he
  obtain ⟨b,hb,hG⟩:=gives_eqNil ho (hT _ _ hi) he h (oneOf_some hl) hs
  have hd:=pk_elim (hV b hb)
  exact (hG.moves hd.1).follows hd.2
 case h_8=>exact follows_of_val hT hV h
end
end Go.Bw
namespace Go.Bw
open Go.RowKit
section
variable {P:Program} {w0:World} {m0:Mem} {s:St} {a:Act} {w:World} {m:Mem} {ω:Wh} {F0:Home} {T:TypeId→Option TI}
def guardOf (ops:Array Oper) (s:St) (o:Oper):Option Bool :=
 match o.guard with
 | none=>some true
 | some (j,want)=>match (ops[j]?).bind (·.dst) with
  | some t=>(match look s.env t with|some (.v (.one (.bool b)))=>some (b==want)|some (.tup [])=>some false|_=>none)
  | none=>none
theorem getD_get (a:Act) {t:Nat} {b:Bool} (h:a.tmps.getD t undef=.bool b):a.tmps[t]?=some (.bool b):=by
 rw [Array.getD_eq_getD_getElem?] at h
 cases hq:a.tmps[t]? with
 | none=>rw [hq] at h;simp [undef] at h
 | some v=>rw [hq] at h;simpa using h
theorem guardOf_sound (h : CI P w0 m0 F0 s a w m ω) {ops : Array Oper} {o : Oper} {b : Bool} (hg : guardOf ops s o = some b) : Region.wanted o (yielded ops a.tmps) = b := by
  unfold guardOf at hg
  unfold Region.wanted
  split at hg
  · rename_i hn
    injection hg with hg
    rw [hn, ← hg]
  · rename_i j want hn
    rw [hn]
    split at hg
    · rename_i t ht
      split at hg
      · rename_i b' hb
        injection hg with hg
        have hv : Rep m (a.tmps.getD t undef) (.bool b') := h.env t _ hb
        have hval : a.tmps[t]? = some (.bool b') := by
          generalize hx : a.tmps.getD t undef = u at hv
          cases hv
          exact getD_get a hx
        simp only [yielded, ht, Option.bind_some, hval]
        rw [← hg]
        cases b' <;> cases want <;> rfl
      · rename_i hb
        injection hg with hg
        have hv := h.env t _ hb
        have hval : ∀ b', a.tmps[t]? ≠ some (.bool b') := by
          intro b' hq
          rw [Array.getD_eq_getD_getElem?, hq] at hv
          obtain ⟨vs, hv, _⟩ := hv
          cases hv
        rw [← hg]
        simp only [yielded, ht, Option.bind_some]
        first
          | rfl
          | (split
             · rename_i b' hq
               exact absurd hq (hval b')
             · rfl)
      · cases hg
    · cases hg

def VOps (P:Program) (T:TypeId→Option TI) (ops:Array Oper):List Oper→St→(St→Prop)→Prop
 | [],s,K=>K s
 | o::l,s,K=>match guardOf ops s o with
  | some true=>VOp P T o s fun s'=>VOps P T ops l s' K
  | some false=>pk s o.dst (fun s'=>VOps P T ops l s' K) (.tup [])
  | none=>False
def PostQ (P:Program) (w0:World) (m0:Mem) (F0:Home) (Q:Exit→St→Prop) (e:Exit) (a:Act) (w:World):Prop:=∃s,Q e s∧Conc P w0 m0 F0 s a w
theorem VOps_sound (hT:TabOk P T) {ops:Array Oper} {K:St→Prop} {Q:Exit→Act→World→Prop} (hQ:∀s a w,K s→Conc P w0 m0 F0 s a w→Q .normal a w) :
  ∀(l:List Oper) (k:Nat) (s:St) (a:Act) (w:World),ops.toList.drop k=l→VOps P T ops l s K→Conc P w0 m0 F0 s a w→wpOps P ops Q (List.range' k l.length) a w
 | [],k,s,a,w,_,hV,hC=>hQ s a w hV hC
 | o::l,k,s,a,w,hl,hV,hC=>by
  obtain ⟨m,ω,h⟩:=hC
  have hk:ops[k]?=some o:=by
   have:(ops.toList.drop k)[0]?=some o:=by rw [hl];rfl
   simpa [List.getElem?_drop] using this
  have hl':ops.toList.drop (k+1)=l:=by
   have:(ops.toList.drop k).drop 1=l:=by rw [hl];rfl
   simpa [List.drop_drop] using this
  simp only [List.length_cons,List.range'_succ,wpOps,hk]
  simp only [VOps] at hV
  split at hV
  ·rename_i hg
   rw [if_pos (guardOf_sound h hg)]
   exact .inl (VOp_sound hT hV h _ _ fun s' a' w' hK hc=>VOps_sound hT hQ l (k+1) s' a' w' hl' hK hc)
  ·rename_i hg
   rw [if_neg (by rw [guardOf_sound h hg];simp)]
   unfold pk at hV
   split at hV
   ·rename_i d hd
    rw [hd]
    exact VOps_sound hT hQ l (k+1) _ _ w hl' hV.2 ⟨m,ω,h.put hV.1 arep_undef⟩
   ·rename_i hd
    rw [hd]
    exact VOps_sound hT hQ l (k+1) _ _ w hl' hV ⟨m,ω,h⟩
  ·cases hV
def AWP (P:Program) (w0:World) (m0:Mem) (F0:Home) (c:Code) (Q:Exit→St→Prop) (s:St):Prop :=
 ∀a w,Conc P w0 m0 F0 s a w→c.wp P (PostQ P w0 m0 F0 Q) a w
section rules
variable {Q:Exit→St→Prop}
def St.le (s' s:St):Prop:=s'.n=s.n∧(∀t x,look s'.env t=some x→look s.env t=some x)∧(∀i ls,look s'.box i=some ls→look s.box i=some ls)∧∀i r,look s'.row i=some r→look s.row i=some r
theorem Conc.le {s':St} (h:Conc P w0 m0 F0 s a w) (hl:St.le s' s):Conc P w0 m0 F0 s' a w:=by
 obtain ⟨m,ω,h⟩:=h
 exact ⟨m,ω,h.weaken hl.1 hl.2.1 hl.2.2.1 hl.2.2.2⟩
theorem St.le_refl (s:St):St.le s s:=⟨rfl,fun _ _ h=>h,fun _ _ h=>h,fun _ _ h=>h⟩
theorem Conc.freeze (h:Conc P w0 m0 F0 s a w) (kb kr:List Nat):Conc P w0 m0 F0 (s.freeze kb kr) a w:=by
 obtain ⟨m,ω,h⟩:=h
 obtain ⟨m',h',_,_⟩:=h.freeze kb kr
 exact ⟨m',ω,h'⟩
theorem AWP.weak {c:Code} {s':St} (hl:St.le s' s) (h:AWP P w0 m0 F0 c Q s'):AWP P w0 m0 F0 c Q s:=fun a w hc=>h a w (hc.le hl)
theorem AWP.frz {c:Code} (kb kr:List Nat) (h:AWP P w0 m0 F0 c Q (s.freeze kb kr)):AWP P w0 m0 F0 c Q s:=fun a w hc=>h a w (hc.freeze kb kr)
theorem AWP.mono {c:Code} {Q':Exit→St→Prop} (h:AWP P w0 m0 F0 c Q s) (hq:∀e s,Q e s→Q' e s):AWP P w0 m0 F0 c Q' s :=
 fun a w hc=>wp_mono (h a w hc) fun e _ _ ⟨s',h1,h2⟩=>⟨s',hq e s' h1,h2⟩
def thenQ (R:St→Prop) (Q:Exit→St→Prop):Exit→St→Prop
 | .normal,s=>R s
 | e,s=>Q e s
def blockQ (id:Nat) (Q:Exit→St→Prop):Exit→St→Prop
 | .exit id',s=>if id'=id then Q .normal s else Q (.exit id') s
 | e,s=>Q e s
theorem qD (h:Q .normal s):AWP P w0 m0 F0 .skip Q s:=fun _ _ hc=>wp_skip ⟨s,h,hc⟩
theorem qM {id:Nat} (h:Q (.exit id) s):AWP P w0 m0 F0 (.exit id) Q s:=fun _ _ hc=>wp_exit ⟨s,h,hc⟩
theorem qE (h:Q .ret s):AWP P w0 m0 F0 .ret Q s:=fun _ _ hc=>wp_ret ⟨s,h,hc⟩
theorem qA {x y:Code} (h:AWP P w0 m0 F0 x (thenQ (AWP P w0 m0 F0 y Q) Q) s):AWP P w0 m0 F0 (.seq x y) Q s:=by
 intro a w hc
 refine wp_seq (wp_mono (h a w hc) fun e a' w' he=>?_)
 obtain ⟨s',h1,h2⟩:=he
 cases e with
 | normal=>exact h1 a' w' h2
 | _=>exact ⟨s',h1,h2⟩
theorem AWP.cond {c:Operand} {x y:Code} {b:Bool} (hb:boolOf (evalO T s 0 c)=some b) (h1:b=true→AWP P w0 m0 F0 x Q s) (h2:b=false→AWP P w0 m0 F0 y Q s):AWP P w0 m0 F0 (.cond c x y) Q s:=by
 intro a w hc
 obtain ⟨m,ω,h⟩:=hc
 have he:a.eval c=.bool b:=bool_of h (boolOf_some hb)
 exact wp_cond_split he (fun e=>h1 e a w ⟨m,ω,h⟩) (fun e=>h2 e a w ⟨m,ω,h⟩)
theorem qC {id:Nat} {c:Code} (h:AWP P w0 m0 F0 c (blockQ id Q) s):AWP P w0 m0 F0 (.block id c) Q s:=by
 intro a w hc
 refine wp_block (wp_mono (h a w hc) fun e a' w' he=>?_)
 obtain ⟨s',h1,h2⟩:=he
 cases e with
 | exit id' =>
  simp only [blockQ] at h1
  simp only [Exit.inBlock]
  split at h1
  ·rename_i hid;rw [if_pos hid];exact ⟨s',h1,h2⟩
  ·rename_i hid;rw [if_neg hid];exact ⟨s',h1,h2⟩
 | _=>exact ⟨s',h1,h2⟩
theorem AWP.loop {ι:Type} {c:Code} (I:ι→St) (μ:ι→Nat) (i0:ι) (h0:St.le (I i0) s)
  (round:∀i,AWP P w0 m0 F0 c (thenQ (fun s'=>∃j,μ j<μ i∧St.le (I j) s') Q) (I i)):AWP P w0 m0 F0 (.loop c) Q s:=by
 intro a w hc
 have key:∀n i a w,μ i=n→Conc P w0 m0 F0 (I i) a w→∀(b:Frame) (k:List Item) (cs:List Frame),
   ∃e a' w',PostQ P w0 m0 F0 Q e a' w'∧Arrives P (lone (b.at a (.code c::.inLoop c::k)) cs w) b k cs e a' w':=by
  intro n
  induction n using Nat.strongRecOn with
  | _ n ih =>
   intro i a w hn hC b k cs
   obtain ⟨e,a₁,w₁,⟨s1,hq,hc1⟩,harr⟩:=round i a w hC b (.inLoop c::k) cs
   cases e with
   | normal =>
    obtain ⟨j,hlt,hle⟩:=hq
    obtain ⟨e₂,a₂,w₂,hq₂,harr₂⟩:=ih (μ j) (hn▸hlt) j a₁ w₁ rfl (hc1.le hle) b k cs
    exact ⟨e₂,a₂,w₂,hq₂,.of_steps (Steps.trans harr (.one step_inLoop)) harr₂⟩
   | exit id=>exact ⟨_,a₁,w₁,⟨s1,hq,hc1⟩,.pass (x:=.inLoop c) rfl (fun _ _=>.inl (by simp)) harr⟩
   | goto l=>exact ⟨_,a₁,w₁,⟨s1,hq,hc1⟩,.pass (x:=.inLoop c) rfl (fun _ _=>.inl (by simp)) harr⟩
   | ret=>exact ⟨_,a₁,w₁,⟨s1,hq,hc1⟩,.pass (x:=.inLoop c) rfl (fun _ _=>.inl (by simp)) harr⟩
   | panic ch=>exact ⟨_,a₁,w₁,⟨s1,hq,hc1⟩,.pass (x:=.inLoop c) rfl (fun _ _=>.inl (by simp)) harr⟩
   | outgrown=>exact ⟨_,a₁,w₁,⟨s1,hq,hc1⟩,.pass (x:=.inLoop c) rfl (fun _ _=>.inl (by simp)) harr⟩
 intro b k cs
 obtain ⟨e,a',w',hq,harr⟩:=key _ i0 a w rfl (hc.le h0) b k cs
 exact ⟨e,a',w',hq,.of_steps (.one step_loop) harr⟩
theorem AWP.region0 (hT:TabOk P T) {id:Nat} {ops:Array Oper} {l:List Oper} (hl:ops.toList=l) (h:VOps P T ops l s (Q .normal)):AWP P w0 m0 F0 (.region id ops false) Q s:=by
 intro a w hc
 refine wp_region ?_
 have:=VOps_sound hT (K:=Q .normal) (Q:=PostQ P w0 m0 F0 Q) (fun s a w h1 h2=>⟨s,h1,h2⟩) l 0 s a w (by simpa using hl) h hc
 have hlen:l.length=ops.size:=by rw [←hl];simp
 rwa [←List.range_eq_range',hlen] at this
theorem AWP.region (hT:TabOk P T) {id:Nat} {ops:Array Oper} {l:List Oper} (hl:ops.toList=l) (h:∀K:St→Prop,(∀s',Q .normal s'→K s')→VOps P T ops l s K):AWP P w0 m0 F0 (.region id ops false) Q s :=
 AWP.region0 hT hl (h _ fun _ h=>h)
end rules
end
end Go.Bw
namespace Go.Bw
open Go.RowKit
section
variable {P:Program} {w0:World} {m0:Mem} {s s':St} {a:Act} {w:World} {m:Mem} {ω:Wh} {F0:Home} {T:TypeId→Option TI}
theorem partCells_congr {ty:TypeId} {x:Operand} (h:∀ty,evalO T s ty x=evalO T s' ty x):partCells T s ty x=partCells T s' ty x:=by
 unfold partCells;rw [h]
theorem fillL_congr {ty:TypeId} {place:Nat→Option (Nat×Nat)}:∀(ps:List (Nat×Operand)) (ls:List L),(∀p∈ps,∀ty,evalO T s ty p.2=evalO T s' ty p.2)→fillL T s ty place ls ps=fillL T s' ty place ls ps
 | [],_,_=>rfl
 | (i,x)::ps,ls,h=>by
  simp only [fillL]
  have e:partCells T s ty x=partCells T s' ty x:=partCells_congr fun ty=>h (i,x) (by simp) ty
  have e2:∀q,fillL T s ty place q ps=fillL T s' ty place q ps:=fun q=>fillL_congr ps q fun p hp=>h p (by simp [hp])
  simp only [e,e2]
theorem capsOf_congr {ty:TypeId}:∀(l:List Operand),(∀x∈l,∀ty,evalO T s ty x=evalO T s' ty x)→capsOf s T ty l=capsOf s' T ty l
 | [],_=>rfl
 | x::l,h=>by
  simp only [capsOf]
  rw [h x (by simp),capsOf_congr l fun y hy=>h y (by simp [hy])]
theorem argsOf_congr:∀(l:List Operand) (tys:List TypeId),(∀x∈l,∀ty,evalO T s ty x=evalO T s' ty x)→argsOf T s l tys=argsOf T s' l tys
 | [],_,_=>rfl
 | x::l,tys,h=>by
  simp only [argsOf]
  rw [h x (by simp),argsOf_congr l tys.tail fun y hy=>h y (by simp [hy])]
theorem boundN_congr {ty:TypeId} {n:Nat} (x:Option Operand) (h:∀y,x=some y→∀ty,evalO T s ty y=evalO T s' ty y):boundN T s ty n x=boundN T s' ty n x:=by
 cases x with
 | none=>rfl
 | some y=>simp only [boundN];rw [h y rfl]
theorem callOf_congr (c:Call) (h:∀x∈c.operands.toList,∀ty,evalO T s ty x=evalO T s' ty x):callOf T s c=callOf T s' c:=by
 unfold callOf
 cases hc:c.callee with
 | value g =>
  simp only
  rw [h g (by simp [Call.operands,hc]),argsOf_congr _ _ fun x hx=>h x (by simp only [Call.operands,hc,Array.toList_append,List.mem_append];exact .inr hx)]
 | _=>rfl
theorem loadK_congr {i:TI} {K:A→Prop} (hb:∀id ls,look s.box id=some ls→look s'.box id=some ls) (hr:s'.row=s.row) {l:L} (h:loadK s i K l):loadK s' i K l:=by
 cases l<;>simp only [loadK,hr] at h ⊢
 case ptr id off =>
  obtain ⟨ls,h1,h2⟩:=mO_elim h
  rw [hb _ _ h1]
  exact h2
 all_goals exact h
theorem idxK_congr {j:TI} {n:Int} {K:A→Prop} (hr:s'.row=s.row) {l:L} (h:idxK s j n K l):idxK s' j n K l:=by
 cases l<;>simp only [idxK,hr] at h ⊢<;>exact h
theorem VVal_congr {o:Oper} {K:A→Prop} (hb:∀id ls,look s.box id=some ls→look s'.box id=some ls) (hr:s'.row=s.row) (E:∀x∈o.op.operands.toList,∀ty,evalO T s ty x=evalO T s' ty x) (h:VVal P T o s K):VVal P T o s' K:=by
 unfold VVal at h ⊢
 split at h
 case h_1 x ho=>simp only [ho] at E ⊢;rw [←E x (by simp [Op.operands])];exact h
 case h_2 x ho=>simp only [ho] at E ⊢;rw [←E x (by simp [Op.operands])];exact h
 case h_3 c x y ho =>
  simp only [ho] at E ⊢
  rw [←E c (by simp [Op.operands])]
  obtain ⟨b,hb',h⟩:=mO_elim h
  rw [hb',mO_some,←E _ (by cases b<;>simp [Op.operands])]
  exact h
 case h_4 t x ho=>simp only [ho] at E ⊢;rw [←E x (by simp [Op.operands])];exact h
 case h_5 t x ho =>
  simp only [ho] at E ⊢
  rw [←E x (by simp [Op.operands])]
  obtain ⟨i,hi,h⟩:=mO_elim h
  obtain ⟨l,hl,h⟩:=mO_elim h
  rw [hi,hl]
  exact loadK_congr hb hr h
 case h_6 t x f ho=>simp only [ho] at E ⊢;rw [←E x (by simp [Op.operands])];exact h
 case h_7 t x f ho=>simp only [ho] at E ⊢;rw [←E x (by simp [Op.operands])];exact h
 case h_8 t x y ho =>
  simp only [ho] at E ⊢
  rw [←E x (by simp [Op.operands]),←E y (by simp [Op.operands])]
  obtain ⟨i,hi,h⟩:=mO_elim h
  obtain ⟨n,hn,h⟩:=mO_elim h
  obtain ⟨l,hl,h⟩:=mO_elim h
  rw [hi,hn,hl]
  exact idxK_congr hr h
 case h_9 t x y ho =>
  simp only [ho] at E ⊢
  rw [←E x (by simp [Op.operands])]
  obtain ⟨i,hi,h⟩:=mO_elim h
  obtain ⟨l,hl,h⟩:=mO_elim h
  rw [hi,hl]
  show indexK T s' i y K l
  cases l<;>simp only [indexK] at h ⊢
  rw [←E y (by simp [Op.operands])]
  exact h
 case h_10 x k ho=>simp only [ho] at E ⊢;rw [←E x (by simp [Op.operands])];exact h
 case h_11 op t x y t' ho=>simp only [ho] at E ⊢;rw [←E x (by simp [Op.operands]),←E y (by simp [Op.operands])];exact h
 case h_12 t parts ho =>
  simp only [ho] at E ⊢
  have hf:∀pl z,fillL T s' 0 pl z parts.toList=fillL T s 0 pl z parts.toList:=fun pl z=>(fillL_congr _ _ fun p hp=>E p.2 (by simp only [Op.operands,List.mem_map];exact ⟨p,hp,rfl⟩)).symm
  simp only [hf]
  exact h
 case h_13 t len parts ho =>
  simp only [ho] at E ⊢
  have hf:∀pl z,fillL T s' 0 pl z parts.toList=fillL T s 0 pl z parts.toList:=fun pl z=>(fillL_congr _ _ fun p hp=>E p.2 (by simp only [Op.operands,List.mem_map];exact ⟨p,hp,rfl⟩)).symm
  simp only [hf]
  exact h
 case h_14 f first caps ho =>
  simp only [ho] at E ⊢
  rw [←capsOf_congr (s:=s) (s':=s') caps.toList fun x hx=>E x (by simp only [Op.operands,Array.toList_append,List.mem_append];exact .inr hx)]
  exact h
 case h_15 t x lo hi ho =>
  simp only [ho] at E ⊢
  have e1:∀n,boundN T s' t n lo=boundN T s t n lo:=fun n=>(boundN_congr lo fun y hy=>E y (by simp [Op.operands,hy])).symm
  have e2:∀n,boundN T s' t n hi=boundN T s t n hi:=fun n=>(boundN_congr hi fun y hy=>E y (by simp [Op.operands,hy])).symm
  rw [←E x (by simp [Op.operands])]
  obtain ⟨l,hl,h⟩:=mO_elim h
  rw [hl]
  show sliceK T s' t lo hi K l
  cases l<;>simp only [sliceK,e1,e2,hr] at h ⊢<;>exact h
 case h_16 t x lo hi z ho =>
  simp only [ho] at E ⊢
  have e1:∀n,boundN T s' t n lo=boundN T s t n lo:=fun n=>(boundN_congr lo fun y hy=>E y (by simp [Op.operands,hy])).symm
  have e2:∀n,boundN T s' t n hi=boundN T s t n hi:=fun n=>(boundN_congr hi fun y hy=>E y (by simp [Op.operands,hy])).symm
  have e3:∀n,boundN T s' t n (some z)=boundN T s t n (some z):=fun n=>(boundN_congr (some z) fun y hy=>E y (by simp [Op.operands,←Option.some.inj hy])).symm
  rw [←E x (by simp [Op.operands])]
  simp only [e1,e2,e3]
  exact h
 case h_17 x ho=>simp only [ho] at E ⊢;rw [←E x (by simp [Op.operands])];exact h
 case h_18 t t' x ho=>simp only [ho] at E ⊢;rw [←E x (by simp [Op.operands])];exact h
 case h_19 c ho =>
  simp only [ho] at E ⊢
  split at h
  ·rename_i hcal
   split at h
   ·rename_i x t hargs htys
    rw [←E x (by simp [Op.operands,Call.operands,hcal,hargs])]
    exact h
   ·cases h
  ·rename_i hcal
   split at h
   ·rename_i x y hargs
    rw [←E x (by simp [Op.operands,Call.operands,hcal,hargs]),←E y (by simp [Op.operands,Call.operands,hcal,hargs])]
    exact h
   ·cases h
  ·rename_i hcal
   split at h
   ·rename_i x y hargs
    rw [←E x (by simp [Op.operands,Call.operands,hcal,hargs]),←E y (by simp [Op.operands,Call.operands,hcal,hargs])]
    exact h
   ·cases h
  ·rw [←callOf_congr (s:=s) (s':=s') c fun x hx=>E x (by simpa [Op.operands] using hx)]
   simpa only [CallK,hr] using h
  ·cases h
 case h_20 t x ho=>simp only [ho] at E ⊢;rw [←E x (by simp [Op.operands])];exact h
 case h_21=>cases h
theorem loadK_pick {i:TI} {K:A→Prop} {l:L} (h:loadK s i K l):∃z,K z∧loadK s i (fun q=>q=z) l:=by
 cases l<;>simp only [loadK] at h ⊢
 ·obtain ⟨z,hz,h⟩:=mO_elim h
  exact ⟨_,h,by simp only [hz,mO_some]⟩
 ·obtain ⟨ls,hls,h⟩:=mO_elim h
  obtain ⟨z,hz,h⟩:=mO_elim h
  exact ⟨_,h,by simp only [hls,hz,mO_some]⟩
 ·obtain ⟨r,hr,h1,h⟩:=mO_elim h
  obtain ⟨z,hz,h⟩:=mO_elim h
  exact ⟨_,h,by simp only [hr,hz,mO_some];exact ⟨h1,trivial⟩⟩
theorem idxK_pick {j:TI} {n:Int} {K:A→Prop} {l:L} (h:idxK s j n K l):∃z,K z∧idxK s j n (fun q=>q=z) l:=by
 cases l<;>simp only [idxK] at h ⊢
 ·exact ⟨_,h.2.2,h.1,h.2.1,rfl⟩
 ·obtain ⟨r,hr,h1,h2,h3⟩:=mO_elim h
  exact ⟨_,h3,by rw [hr];exact ⟨h1,h2,rfl⟩⟩
theorem VVal_pick {o:Oper} {K:A→Prop} (h:VVal P T o s K):∃x,K x∧VVal P T o s (fun y=>y=x):=by
 unfold VVal at h ⊢
 split at h
 case h_1 x ho=>obtain ⟨y,hy,h⟩:=mO_elim h;exact ⟨_,h,by simp only [hy,mO_some]⟩
 case h_2 x ho=>obtain ⟨y,hy,h⟩:=mO_elim h;exact ⟨_,h,by simp only [hy,mO_some]⟩
 case h_3 c x y ho =>
  obtain ⟨b,hb,h⟩:=mO_elim h
  obtain ⟨z,hz,h⟩:=mO_elim h
  exact ⟨_,h,by simp only [hb,hz,mO_some]⟩
 case h_4 t x ho=>obtain ⟨b,hb,h⟩:=mO_elim h;exact ⟨_,h,by simp only [hb,mO_some]⟩
 case h_5 t x ho =>
  obtain ⟨i,hi,h⟩:=mO_elim h
  obtain ⟨y,hy,h⟩:=mO_elim h
  obtain ⟨z,h1,h2⟩:=loadK_pick h
  exact ⟨z,h1,by rw [hi,hy];exact h2⟩
 case h_6 t x f ho =>
  obtain ⟨i,hi,h⟩:=mO_elim h
  obtain ⟨y,hy,h⟩:=mO_elim h
  obtain ⟨off,ho',h⟩:=mO_elim h
  obtain ⟨z,hz,h⟩:=mO_elim h
  exact ⟨_,h,by simp only [hi,hy,ho',hz,mO_some]⟩
 case h_7 t x f ho =>
  obtain ⟨i,hi,h⟩:=mO_elim h
  obtain ⟨l,hl,h⟩:=mO_elim h
  obtain ⟨p,hp,h⟩:=mO_elim h
  obtain ⟨j,hj,h⟩:=mO_elim h
  obtain ⟨ls,hls,hf,h⟩:=mO_elim h
  obtain ⟨z,hz,h⟩:=mO_elim h
  exact ⟨_,h,by simp only [hi,hl,hp,hj,hls,mO_some];exact ⟨hf,by simp only [hz,mO_some]⟩⟩
 case h_8 t x y ho =>
  obtain ⟨j,hj,h⟩:=mO_elim h
  obtain ⟨n,hn,h⟩:=mO_elim h
  obtain ⟨l,hl,h⟩:=mO_elim h
  obtain ⟨z,h1,h2⟩:=idxK_pick h
  exact ⟨z,h1,by rw [hj,hn,hl];exact h2⟩
 case h_9 t x y ho =>
  obtain ⟨i,hi,h⟩:=mO_elim h
  obtain ⟨l,hl,h⟩:=mO_elim h
  rw [hi,hl]
  show ∃x,K x∧indexK T s i y (fun y=>y=x) l
  cases l<;>simp only [indexK] at h ⊢
  obtain ⟨n,hn,h1,h2,h⟩:=mO_elim h
  exact ⟨_,h,by simp only [hn,mO_some];exact ⟨h1,h2,trivial⟩⟩
 case h_10 x k ho =>
  obtain ⟨xs,hx,h⟩:=mO_elim h
  obtain ⟨y,hy,h⟩:=mO_elim h
  exact ⟨_,h,by simp only [hx,hy,mO_some]⟩
 case h_11 op t x y t' ho =>
  obtain ⟨v1,h1,h⟩:=mO_elim h
  obtain ⟨v2,h2,h⟩:=mO_elim h
  rw [h1,h2]
  show ∃x,K x∧binK P op t (fun y=>y=x) v1 v2
  unfold binK at h ⊢
  split at h
  ·obtain ⟨p,h3,h4,h⟩:=mO_elim h
   exact ⟨_,h,by simp only [h3,mO_some];exact ⟨h4,trivial⟩⟩
  ·obtain ⟨ks,hk,h3,h⟩:=mO_elim h
   obtain ⟨b,hb,h⟩:=mO_elim h
   obtain ⟨b',hb',h⟩:=mO_elim h
   exact ⟨_,h,by simp only [hk,hb,hb',mO_some];exact ⟨h3,trivial⟩⟩
  ·cases h
 case h_12 t parts ho =>
  obtain ⟨i,hi,h⟩:=mO_elim h
  obtain ⟨l,hl,h⟩:=mO_elim h
  obtain ⟨z,hz,h⟩:=mO_elim h
  obtain ⟨pl,hp,h⟩:=mO_elim h
  obtain ⟨ls,hls,h⟩:=mO_elim h
  exact ⟨_,h,by simp only [hi,hl,hz,hp,hls,mO_some]⟩
 case h_13 t len parts ho =>
  obtain ⟨j,hj,h⟩:=mO_elim h
  obtain ⟨z,hz,hc,h⟩:=mO_elim h
  obtain ⟨ls,hls,hfz,h⟩:=mO_elim h
  exact ⟨_,h,by simp only [hj,hz,hls,mO_some];exact ⟨hc,hfz,trivial⟩⟩
 case h_14 f first caps ho =>
  obtain ⟨h1,h⟩:=h
  obtain ⟨cs,hcs,h⟩:=mO_elim h
  exact ⟨_,h,h1,by simp only [hcs,mO_some]⟩
 case h_15 t x lo hi ho =>
  obtain ⟨l,hl,h⟩:=mO_elim h
  rw [hl]
  show ∃x,K x∧sliceK T s t lo hi (fun y=>y=x) l
  cases l<;>simp only [sliceK] at h ⊢
  ·obtain ⟨i,hi',h⟩:=mO_elim h
   obtain ⟨l,hl,h⟩:=mO_elim h
   obtain ⟨hh,hhi,h1,h2,h⟩:=mO_elim h
   exact ⟨_,h,by simp only [hi',hl,hhi,mO_some];exact ⟨h1,h2,trivial⟩⟩
  ·obtain ⟨i,hi',h⟩:=mO_elim h
   obtain ⟨l,hl,h⟩:=mO_elim h
   obtain ⟨hh,hhi,h1,h2,h⟩:=mO_elim h
   exact ⟨_,h,by simp only [hi',hl,hhi,mO_some];exact ⟨h1,h2,trivial⟩⟩
  ·obtain ⟨i,hi',h⟩:=mO_elim h
   obtain ⟨l,hl,h⟩:=mO_elim h
   obtain ⟨hh,hhi,h1,h2,h⟩:=mO_elim h
   exact ⟨_,h,by simp only [hi',hl,hhi,mO_some];exact ⟨h1,h2,trivial⟩⟩
  ·obtain ⟨i,hi',h⟩:=mO_elim h
   obtain ⟨r,hr,h⟩:=mO_elim h
   obtain ⟨l,hl,h⟩:=mO_elim h
   obtain ⟨hh,hhi,h1,h2,h⟩:=mO_elim h
   exact ⟨_,h,by simp only [hi',hr,hl,hhi,mO_some];exact ⟨h1,h2,trivial⟩⟩
 case h_16 t x lo hi z ho =>
  obtain ⟨j,hj,h⟩:=mO_elim h
  obtain ⟨v1,hx,h⟩:=mO_elim h
  obtain ⟨n,hn,h⟩:=mO_elim h
  obtain ⟨l,hl,h⟩:=mO_elim h
  obtain ⟨hh,hhi,h⟩:=mO_elim h
  obtain ⟨mx,hmx,h1,h2,h⟩:=mO_elim h
  exact ⟨_,h,by simp only [hj,hx,hn,hl,hhi,hmx,mO_some];exact ⟨h1,h2,trivial⟩⟩
 case h_17 x ho =>
  obtain ⟨y,hy,h1,h⟩:=mO_elim h
  exact ⟨_,h,by simp only [hy,mO_some];exact ⟨h1,trivial⟩⟩
 case h_18 t t' x ho =>
  obtain ⟨l,hl,h⟩:=mO_elim h
  rw [hl]
  show ∃x,K x∧convKk P T t t' (fun y=>y=x) l
  cases l<;>simp only [convKk] at h ⊢
  ·obtain ⟨h1,h⟩:=h
   obtain ⟨k,hk,h⟩:=mO_elim h
   exact ⟨_,h,h1,by simp only [hk,mO_some]⟩
  ·obtain ⟨i,hi,h⟩:=mO_elim h
   obtain ⟨i',hi',h⟩:=mO_elim h
   obtain ⟨e,he,h1,h⟩:=mO_elim h
   exact ⟨_,h,by simp only [hi,hi',he,mO_some];exact ⟨h1,trivial⟩⟩
 case h_19 c ho =>
  split at h
  ·split at h
   ·obtain ⟨i,hi,h⟩:=mO_elim h
    obtain ⟨l,hl,h⟩:=mO_elim h
    obtain ⟨n,hn,h1,h⟩:=mO_elim h
    exact ⟨_,h,by simp only [hi,hl,hn,mO_some];exact ⟨h1,trivial⟩⟩
   ·cases h
  ·split at h
   ·obtain ⟨l1,h1,h⟩:=mO_elim h
    obtain ⟨l2,h2,h⟩:=mO_elim h
    obtain ⟨l,hl,h⟩:=mO_elim h
    exact ⟨_,h,by simp only [h1,h2,hl,mO_some]⟩
   ·cases h
  ·split at h
   ·obtain ⟨l1,h1,h⟩:=mO_elim h
    obtain ⟨l2,h2,h⟩:=mO_elim h
    obtain ⟨l,hl,h⟩:=mO_elim h
    exact ⟨_,h,by simp only [h1,h2,hl,mO_some]⟩
   ·cases h
  ·obtain ⟨p,hp,r,h⟩:=mO_elim h
   rcases h with ⟨h1,h⟩|⟨h1,h⟩
   ·exact ⟨_,h,by simp only [hp,mO_some];exact ⟨r,.inl ⟨h1,rfl⟩⟩⟩
   ·exact ⟨_,h,by simp only [hp,mO_some];exact ⟨r,.inr ⟨h1,rfl⟩⟩⟩
  ·cases h
 case h_20 t x ho =>
  obtain ⟨l,hl,h⟩:=mO_elim h
  cases l with
  | int k n=>exact ⟨_,h,by simp only [hl,mO_some,negK]⟩
  | _=>cases h
 case h_21=>cases h
def VHead (P:Program) (T:TypeId→Option TI) (ops:Array Oper):List Oper→St→(St→Prop)→Prop
 | [],s,K=>K s
 | o::l,s,K=>match guardOf ops s o with
  | some true=>VVal P T o s (pk s o.dst fun s'=>VHead P T ops l s' K)
  | some false=>pk s o.dst (fun s'=>VHead P T ops l s' K) (.tup [])
  | none=>False
def puts (s:St):List (Option Tmp×A)→St
 | []=>s
 | p::ps=>puts (s.putO p.1 p.2) ps
def StepOK (P:Program) (T:TypeId→Option TI) (ops:Array Oper) (s:St) (o:Oper) (x:A):Prop :=
 s.okD o.dst∧((guardOf ops s o=some true∧VVal P T o s (fun y=>y=x))∨(guardOf ops s o=some false∧x=.tup []))
theorem putO_n (s:St) (d:Option Tmp) (x:A):(s.putO d x).n=s.n:=by cases d<;>rfl
theorem putO_box (s:St) (d:Option Tmp) (x:A):(s.putO d x).box=s.box:=by cases d<;>rfl
theorem putO_row (s:St) (d:Option Tmp) (x:A):(s.putO d x).row=s.row:=by cases d<;>rfl
theorem puts_n:∀(ps:List (Option Tmp×A)) (s:St),(puts s ps).n=s.n
 | [],_=>rfl
 | p::ps,s=>by rw [puts,puts_n ps,putO_n]
theorem puts_box:∀(ps:List (Option Tmp×A)) (s:St),(puts s ps).box=s.box
 | [],_=>rfl
 | p::ps,s=>by rw [puts,puts_box ps,putO_box]
theorem puts_row:∀(ps:List (Option Tmp×A)) (s:St),(puts s ps).row=s.row
 | [],_=>rfl
 | p::ps,s=>by rw [puts,puts_row ps,putO_row]
theorem VHead_chain {ops:Array Oper} {K:St→Prop}:∀(l:List Oper) (s:St),VHead P T ops l s K→∃ps:List (Option Tmp×A),ps.length=l.length∧K (puts s ps) ∧
  ∀(i:Nat) (o:Oper),l[i]?=some o→∃x,ps[i]?=some (o.dst,x)∧StepOK P T ops (puts s (ps.take i)) o x
 | [],s,h=>⟨[],rfl,h,fun i o hi=>by simp at hi⟩
 | o::l,s,h=>by
  simp only [VHead] at h
  have fin:∀x,StepOK P T ops s o x→VHead P T ops l (s.putO o.dst x) K→∃ps:List (Option Tmp×A),ps.length=(o::l).length∧K (puts s ps) ∧
    ∀(i:Nat) (o':Oper),(o::l)[i]?=some o'→∃x,ps[i]?=some (o'.dst,x)∧StepOK P T ops (puts s (ps.take i)) o' x:=by
   intro x hx h
   obtain ⟨ps,h1,h2,h3⟩:=VHead_chain l _ h
   refine ⟨(o.dst,x)::ps,by simp [h1],h2,fun i o' hi=>?_⟩
   cases i with
   | zero=>simp only [List.getElem?_cons_zero,Option.some.injEq] at hi;subst hi;exact ⟨x,rfl,hx⟩
   | succ i =>
    obtain ⟨y,h4,h5⟩:=h3 i o' (by simpa using hi)
    exact ⟨y,by simpa using h4,h5⟩
  split at h
  ·rename_i hg
   obtain ⟨x,hx,hv⟩:=VVal_pick h
   obtain ⟨h1,h2⟩:=pk_elim hx
   exact fin x ⟨h1,.inl ⟨hg,hv⟩⟩ h2
  ·rename_i hg
   obtain ⟨h1,h2⟩:=pk_elim h
   exact fin _ ⟨h1,.inr ⟨hg,rfl⟩⟩ h2
  ·cases h
def Apart (ps:List (Option Tmp×A)):Prop:=∀(i j:Nat) (p q:Option Tmp×A) (t:Tmp),ps[i]?=some p→ps[j]?=some q→p.1=some t→q.1=some t→i=j
theorem look_puts:∀(ps:List (Option Tmp×A)) (s:St),Apart ps→∀(t:Tmp) (x:A),look (puts s ps).env t=some x↔(some t,x)∈ps∨((∀p∈ps,p.1≠some t)∧look s.env t=some x)
 | [],s,_,t,x=>by simp [puts]
 | p::ps,s,hA,t,x=>by
  have hA':Apart ps:=fun i j q r u h1 h2 h3 h4=>by
   have:=hA (i+1) (j+1) q r u (by simpa using h1) (by simpa using h2) h3 h4
   omega
  rw [puts,look_puts ps _ hA' t x]
  have hput:look (s.putO p.1 p.2).env t=if p.1=some t then some p.2 else look s.env t:=by
   unfold St.putO
   cases hp:p.1 with
   | none=>simp
   | some d =>
    simp only [St.put,look,Option.some.injEq]
  rw [hput]
  by_cases hp:p.1=some t
  ·have hno:∀q∈ps,q.1≠some t:=by
    intro q hq he
    obtain ⟨j,hj,rfl⟩:=List.mem_iff_getElem.1 hq
    have:=hA 0 (j+1) p ps[j] t rfl (by simp [List.getElem?_eq_getElem hj]) hp he
    omega
   rw [if_pos hp]
   constructor
   ·rintro (h|⟨_,h⟩)
    ·exact .inl (by simp [h])
    ·injection h with h
     exact .inl (by rw [←h,←hp];simp)
   ·rintro (h|⟨h,_⟩)
    ·rcases List.mem_cons.1 h with h|h
     ·refine .inr ⟨hno,?_⟩
      rw [←h]
     ·exact .inl h
    ·exact absurd hp (h p (by simp))
  ·rw [if_neg hp]
   constructor
   ·rintro (h|⟨h1,h2⟩)
    ·exact .inl (by simp [h])
    ·refine .inr ⟨fun q hq=>?_,h2⟩
     rcases List.mem_cons.1 hq with rfl|hq
     ·exact hp
     ·exact h1 q hq
   ·rintro (h|⟨h1,h2⟩)
    ·rcases List.mem_cons.1 h with h|h
     ·exact absurd (by rw [←h]) hp
     ·exact .inl h
    ·exact .inr ⟨fun q hq=>h1 q (by simp [hq]),h2⟩
def direct (ops:Array Oper) (i:Nat):List Nat:=match ops[i]? with|some o=>(o.after.toList.filter (Region.binds .any)).map (·.on)|none=>[]
def clo (ops:Array Oper):Nat→Nat→List Nat
 | 0,i=>direct ops i
 | f+1,i=>direct ops i++(direct ops i).flatMap (clo ops f)
def dstAt (ops:Array Oper) (i:Nat):Option Tmp:=(ops[i]?).bind (·.dst)
def looksAt (ops:Array Oper) (i:Nat):List Tmp:=match ops[i]? with|some o=>o.looksAt ops|none=>[]
def drawOk (ops:Array Oper) (na dep:Nat):Bool :=
 decide (na≤ops.size)&&(List.range ops.size).all fun i =>
  (direct ops i).all (fun j=>decide (j<i)) &&
  (if i<na then (List.range na).all fun j=>i==j||((dstAt ops j).isNone||(dstAt ops i != dstAt ops j)) &&
    (match dstAt ops j with|none=>true|some t=>!(looksAt ops i).elem t||(if j<i then (clo ops dep i).elem j else (clo ops dep j).elem i))
   else (List.range i).all fun j=>(clo ops dep i).elem j)
theorem clo_listed {ops:Array Oper} {listed:Nat→Prop} (hcl:∀i,listed i→∀j∈direct ops i,listed j):∀(f i:Nat),(∀j∈direct ops i,listed j)→∀j∈clo ops f i,listed j
 | 0,i,h,j,hj=>h j hj
 | f+1,i,h,j,hj=>by
  simp only [clo,List.mem_append,List.mem_flatMap] at hj
  rcases hj with hj|⟨k,hk,hj⟩
  ·exact h j hj
  ·exact clo_listed hcl f k (hcl k (h k hk)) j hj
theorem CI.ext (h:CI P w0 m0 F0 s a w m ω) (hn:s'.n=s.n) (he:∀t,look s'.env t=look s.env t) (hb:s'.box=s.box) (hr:s'.row=s.row):CI P w0 m0 F0 s' a w m ω :=
 h.weaken hn (fun t x hx=>by rw [←he];exact hx) (fun i ls hi=>by rw [←hb];exact hi) (fun i ls hi=>by rw [←hr];exact hi)
theorem evalO_congr {x:Operand} (h:∀t,x=.tmp t→look s.env t=look s'.env t) (ty:TypeId):evalO T s ty x=evalO T s' ty x:=by
 cases x with
 | tmp t=>exact h t rfl
 | _=>rfl
theorem guardOf_congr {ops:Array Oper} {o:Oper} (h:∀t∈o.looksAt ops,look s.env t=look s'.env t):guardOf ops s o=guardOf ops s' o:=by
 unfold guardOf
 split
 ·rfl
 ·rename_i j want hg
  split
  ·rename_i t ht
   rw [h t (by simp [Oper.looksAt,hg,ht])]
  ·rfl
theorem operand_looks {ops:Array Oper} {o:Oper} {t:Tmp} (h:Operand.tmp t∈o.op.operands.toList):t∈o.looksAt ops:=by
 unfold Oper.looksAt
 refine List.mem_append_left _ (List.mem_filterMap.2 ⟨_,h,rfl⟩)
theorem StepOK_sound (hT:TabOk P T) {ops:Array Oper} {o:Oper} {x:A} (h:StepOK P T ops s' o x) (hbox:∀id ls,look s'.box id=some ls→look s.box id=some ls) (hrow:s'.row=s.row) (hn:s'.n=s.n) (hl:∀t∈o.looksAt ops,look s'.env t=look s.env t) (hC:CI P w0 m0 F0 s a w m ω)
  {K:Act→World→Prop} {Q:Exit→Act→World→Prop} (hK:∀v w' m',CI P w0 m0 F0 (s.putO o.dst x) (a.put o.dst v) w' m' ω→K (a.put o.dst v) w') :
  if Region.wanted o (yielded ops a.tmps) then o.wp P a w K Q∨(o.asks P a w∧LetsOut Q) else K (a.put o.dst undef) w:=by
 obtain ⟨hd,h⟩:=h
 have hd':s.okD o.dst:=by
  unfold St.okD at hd ⊢
  split at hd
  ·rw [←hn];exact hd
  ·trivial
 rcases h with ⟨hg,hv⟩|⟨hg,rfl⟩
 ·rw [guardOf_congr (s':=s) hl] at hg
  rw [if_pos (guardOf_sound hC hg)]
  have hv':=VVal_congr (s':=s) hbox hrow.symm (fun y hy ty=>evalO_congr (fun t ht=>hl t (operand_looks (ht▸hy))) ty) hv
  obtain ⟨y,rfl,hG⟩:=VVal_sound hT hv' hC
  exact .inl (hG.1 _ _ fun v w' ⟨m',h1,h2⟩=>hK v w' m' (h1.putO hd' h2))
 ·rw [guardOf_congr (s':=s) hl] at hg
  rw [if_neg (by rw [guardOf_sound hC hg];simp)]
  exact hK undef w m (hC.putO hd' arep_undef)
def ApartP (ps:List (Option Tmp×A)):Prop:=ps.Pairwise fun p q=>∀t,p.1=some t→q.1≠some t
theorem ApartP.apart {ps:List (Option Tmp×A)} (h:ApartP ps):Apart ps:=by
 intro i j p q t hi hj hp hq
 have hi':=(List.getElem?_eq_some_iff.1 hi)
 have hj':=(List.getElem?_eq_some_iff.1 hj)
 obtain ⟨li,rfl⟩:=hi'
 obtain ⟨lj,rfl⟩:=hj'
 rcases Nat.lt_trichotomy i j with hlt|heq|hgt
 ·exact absurd hq (List.pairwise_iff_getElem.1 h i j li lj hlt t hp)
 ·exact heq
 ·exact absurd hp (List.pairwise_iff_getElem.1 h j i lj li hgt t hq)
def sel (L:Nat→Bool) (ps:List (Option Tmp×A)):List (Option Tmp×A):=(ps.zipIdx.filter fun p=>L p.2).map (·.1)
theorem mem_sel {L:Nat→Bool} {ps:List (Option Tmp×A)} {p:Option Tmp×A}:p∈sel L ps↔∃i,L i=true∧ps[i]?=some p:=by
 unfold sel
 simp only [List.mem_map,List.mem_filter]
 constructor
 ·rintro ⟨⟨q,i⟩,⟨h1,h2⟩,rfl⟩
  exact ⟨i,h2,by simpa using List.mem_zipIdx_iff_getElem?.1 h1⟩
 ·rintro ⟨i,h1,h2⟩
  exact ⟨(p,i),⟨List.mem_zipIdx_iff_getElem?.2 (by simpa using h2),h1⟩,rfl⟩
theorem sel_apart {L:Nat→Bool} {ps:List (Option Tmp×A)} (h:ApartP ps):ApartP (sel L ps):=by
 refine List.Pairwise.sublist ?_ h
 have h1:(ps.zipIdx.filter fun p=>L p.2).Sublist ps.zipIdx:=List.filter_sublist
 have h2:=h1.map (fun p:(Option Tmp×A)×Nat=>p.1)
 have h3:ps.zipIdx.map (fun p:(Option Tmp×A)×Nat=>p.1)=ps:=by simp
 rw [h3] at h2
 exact h2
theorem mem_ready {ops:Array Oper} {listed:Array Bool} (hsz:listed.size=ops.size) {i:Nat}:i∈Region.ready .any ops listed↔i<ops.size∧listed.getD i false=false∧∀j∈direct ops i,listed.getD j false=true:=by
 unfold Region.ready
 simp only [List.mem_filter,List.mem_range,Bool.and_eq_true,Bool.not_eq_true']
 constructor
 ·rintro ⟨h1,h2,h3⟩
  have hs:ops[i]?=some ops[i]:=Array.getElem?_eq_getElem h1
  rw [hs] at h3
  simp only [Option.map_some,Option.getD_some,Array.all_eq_true,Bool.or_eq_true,Bool.not_eq_true'] at h3
  refine ⟨h1,?_,fun j hj=>?_⟩
  ·simp only [Array.getD_eq_getD_getElem?] at h2 ⊢
   have:i<listed.size:=by omega
   rw [Array.getElem?_eq_getElem this] at h2 ⊢
   simpa using h2
  ·simp only [direct,hs,List.mem_map,List.mem_filter] at hj
   obtain ⟨e,⟨h4,h5⟩,rfl⟩:=hj
   obtain ⟨k,hk,rfl⟩:=List.mem_iff_getElem.1 h4
   have:=h3 k (by simpa using hk)
   simp only [Array.getElem_toList] at h5
   rw [h5] at this
   simpa using this
 ·rintro ⟨h1,h2,h3⟩
  have hs:ops[i]?=some ops[i]:=Array.getElem?_eq_getElem h1
  refine ⟨h1,?_,?_⟩
  ·simp only [Array.getD_eq_getD_getElem?] at h2 ⊢
   have:i<listed.size:=by omega
   rw [Array.getElem?_eq_getElem this] at h2 ⊢
   simpa using h2
  ·rw [hs]
   simp only [Option.map_some,Option.getD_some,Array.all_eq_true,Bool.or_eq_true,Bool.not_eq_true']
   intro k hk
   cases hb:Region.binds .any ops[i].after[k] with
   | false=>exact .inl rfl
   | true =>
    refine .inr (h3 _ ?_)
    simp only [direct,hs,List.mem_map,List.mem_filter]
    exact ⟨_,⟨by simp,hb⟩,rfl⟩
theorem getD_setB (listed:Array Bool) {i:Nat} (hi:i<listed.size) (j:Nat):(listed.setIfInBounds i true).getD j false=if j=i then true else listed.getD j false:=by
 simp only [Array.getD_eq_getD_getElem?]
 by_cases h:j=i
 ·subst h
  simp [hi]
 ·rw [if_neg h,Array.getElem?_setIfInBounds_ne (fun e=>h e.symm)]
structure DrawFacts (ops:Array Oper) (na dep:Nat):Prop where
 le:na≤ops.size
 back:∀i,i<ops.size→∀j∈direct ops i,j<i
 apart:∀i j,i<na→j<na→i≠j→∀t,dstAt ops i=some t→dstAt ops j≠some t
 reads:∀i j t,i<na→j<na→i≠j→dstAt ops j=some t→t∈looksAt ops i→(j<i→j∈clo ops dep i)∧(i<j→i∈clo ops dep j)
 tail:∀i j,na≤i→i<ops.size→j<i→j∈clo ops dep i
theorem drawFacts {ops:Array Oper} {na dep:Nat} (h:drawOk ops na dep=true):DrawFacts ops na dep:=by
 unfold drawOk at h
 simp only [Bool.and_eq_true,decide_eq_true_eq,List.all_eq_true,List.mem_range] at h
 obtain ⟨h0,h⟩:=h
 refine ⟨h0,fun i hi j hj=>(h i hi).1 j hj,fun i j hi hj hne t hti htj=>?_,fun i j t hi hj hne ht hl=>?_,fun i j hi hin hj=>?_⟩
 ·have h1:=(h i (by omega)).2
  rw [if_pos hi] at h1
  simp only [List.all_eq_true,List.mem_range] at h1
  have h2:=h1 j hj
  simp only [Bool.or_eq_true,beq_iff_eq,Bool.and_eq_true] at h2
  rcases h2 with h2|⟨h2,_⟩
  ·exact hne h2
  ·rw [hti,htj] at h2
   simp at h2
 ·have h1:=(h i (by omega)).2
  rw [if_pos hi] at h1
  simp only [List.all_eq_true,List.mem_range] at h1
  have h2:=h1 j hj
  simp only [Bool.or_eq_true,beq_iff_eq,Bool.and_eq_true] at h2
  rcases h2 with h2|⟨_,h2⟩
  ·exact absurd h2 hne
  ·rw [ht] at h2
   have hl':(looksAt ops i).elem t=true:=by simpa using hl
   simp only [hl',Bool.not_true,Bool.false_or] at h2
   constructor
   ·intro hlt
    rw [if_pos hlt] at h2
    simpa using h2
   ·intro hlt
    rw [if_neg (by omega)] at h2
    simpa using h2
 ·have h1:=(h i hin).2
  rw [if_neg (by omega)] at h1
  simp only [List.all_eq_true,List.mem_range] at h1
  simpa using h1 j hj
theorem draw_tail (hT:TabOk P T) {ops:Array Oper} {na dep:Nat} (F:DrawFacts ops na dep) {K:St→Prop} {Q:Exit→Act→World→Prop} (hQ:∀s a w,K s→Conc P w0 m0 F0 s a w→Q .normal a w) :
  ∀(fuel k:Nat) (listed:Array Bool) (s:St) (a:Act) (w:World),na≤k→k+fuel=ops.size→listed.size=ops.size→(∀i,i<ops.size→(listed.getD i false=true↔i<k)) →
   VOps P T ops (ops.toList.drop k) s K→Conc P w0 m0 F0 s a w→wpAny P .any ops Q fuel listed a w
 | 0,k,listed,s,a,w,hk,hf,hsz,hl,hV,hC=>by
  have hd:ops.toList.drop k=[]:=by apply List.drop_eq_nil_of_le;simp;omega
  rw [hd] at hV
  refine ⟨?_,hQ s a w hV hC⟩
  apply List.eq_nil_iff_forall_not_mem.2
  intro i hi
  obtain ⟨h1,h2,_⟩:=(mem_ready hsz).1 hi
  rw [(hl i h1).2 (by omega)] at h2
  cases h2
 | fuel+1,k,listed,s,a,w,hk,hf,hsz,hl,hV,hC=>by
  have hkn:k<ops.size:=by omega
  have hready:∀i,i∈Region.ready .any ops listed↔i=k:=by
   intro i
   rw [mem_ready hsz]
   constructor
   ·rintro ⟨h1,h2,h3⟩
    have hge:¬ i<k:=fun hlt=>by rw [(hl i h1).2 hlt] at h2;cases h2
    rcases Nat.lt_or_ge k i with hgt|hle
    ·have hcl:=clo_listed (ops:=ops) (listed:=fun j=>listed.getD j false=true) (fun j hj j' hj'=>by
      have hjn:j<ops.size:=by
       rcases Nat.lt_or_ge j ops.size with h|h
       ·exact h
       ·rw [Array.getD_eq_getD_getElem?,Array.getElem?_eq_none (by omega)] at hj;cases hj
      have hb:=F.back j hjn j' hj'
      exact (hl j' (by omega)).2 (by have:=(hl j hjn).1 hj;omega)) dep i h3 k (F.tail i k (by omega) h1 hgt)
     have:=(hl k hkn).1 hcl
     omega
    ·omega
   ·rintro rfl
    refine ⟨hkn,?_,fun j hj=>(hl j (by have:=F.back i hkn j hj;omega)).2 (F.back i hkn j hj)⟩
    cases hb:listed.getD i false with
    | false=>rfl
    | true=>have:=(hl i hkn).1 hb;omega
  refine ⟨fun hn=>?_,fun i hi=>?_⟩
  ·have:=(hready k).2 rfl
   rw [hn] at this
   cases this
  ·have hik:=(hready i).1 hi
   subst hik
   have ho:ops[i]?=some ops[i]:=Array.getElem?_eq_getElem hkn
   have hdrop:ops.toList.drop i=ops[i]::ops.toList.drop (i+1):=by
    rw [List.drop_eq_getElem_cons (by simpa using hkn)]
    simp
   rw [hdrop] at hV
   have next:∀s' a' w',VOps P T ops (ops.toList.drop (i+1)) s' K→Conc P w0 m0 F0 s' a' w'→wpAny P .any ops Q fuel (listed.setIfInBounds i true) a' w':=fun s' a' w' h1 h2 =>
    draw_tail hT F hQ fuel (i+1) _ s' a' w' (by omega) (by omega) (by simpa using hsz) (fun j hj=>by
     rw [getD_setB listed (by omega)]
     by_cases hji:j=i
     ·simp [hji]
     ·rw [if_neg hji,hl j hj]
      omega) h1 h2
   obtain ⟨m,ω,h⟩:=hC
   simp only [wpOp,ho]
   simp only [VOps] at hV
   split at hV
   ·rename_i hg
    rw [if_pos (guardOf_sound h hg)]
    exact .inl (VOp_sound hT hV h _ _ fun s' a' w' hK hc=>next s' a' w' hK hc)
   ·rename_i hg
    rw [if_neg (by rw [guardOf_sound h hg];simp)]
    obtain ⟨h1,h2⟩:=pk_elim hV
    exact next _ _ w h2 ⟨m,ω,h.putO h1 arep_undef⟩
   ·cases hV
theorem draw_head (hT:TabOk P T) {ops:Array Oper} {na dep:Nat} (F:DrawFacts ops na dep) {K:St→Prop} {Q:Exit→Act→World→Prop} (hQ:∀s a w,K s→Conc P w0 m0 F0 s a w→Q .normal a w) {s:St} {ps:List (Option Tmp×A)}
  (hlen:ps.length=na) (hstep:∀i,i<na→∃o x,ops[i]?=some o∧ps[i]?=some (o.dst,x)∧StepOK P T ops (puts s (ps.take i)) o x) (hV:VOps P T ops (ops.toList.drop na) (puts s ps) K) :
  ∀(fuel:Nat) (listed:Array Bool) (a:Act) (w:World) (c:Nat),c+fuel=ops.size→listed.size=ops.size→((List.range ops.size).filter fun i=>listed.getD i false).length=c →
   (∀i,i<ops.size→listed.getD i false=true→∀j∈direct ops i,listed.getD j false=true)→(∀i,na≤i→i<ops.size→listed.getD i false=false) →
   (∃m ω,CI P w0 m0 F0 (puts s (sel (fun i=>listed.getD i false) ps)) a w m ω)→wpAny P .any ops Q fuel listed a w:=by
 have hapart:ApartP ps:=by
  refine List.pairwise_iff_getElem.2 fun i j hi hj hij t hp=>?_
  obtain ⟨o,x,h1,h2,_⟩:=hstep i (by omega)
  obtain ⟨o',x',h1',h2',_⟩:=hstep j (by omega)
  rw [List.getElem?_eq_getElem hi] at h2
  rw [List.getElem?_eq_getElem hj] at h2'
  injection h2 with h2
  injection h2' with h2'
  rw [h2] at hp
  rw [h2']
  have hp':o.dst=some t:=hp
  have h4:=F.apart i j (by omega) (by omega) (by omega) t (by simp [dstAt,h1,hp'])
  simpa [dstAt,h1'] using h4
 have hdst:∀j p,ps[j]?=some p→j<na∧dstAt ops j=p.1:=by
  intro j p hp
  have hj:j<na:=by rw [←hlen];exact (List.getElem?_eq_some_iff.1 hp).1
  obtain ⟨o,x,h1,h2,_⟩:=hstep j hj
  rw [hp] at h2
  injection h2 with h2
  exact ⟨hj,by simp [dstAt,h1,h2]⟩
 intro fuel
 induction fuel with
 | zero =>
  intro listed a w c hc hsz hcnt hcl htl hC
  -- all are listed, the head too: then na = size
  have hall:∀i,i<ops.size→listed.getD i false=true:=by
   intro i hi
   have h1:((List.range ops.size).filter fun i=>listed.getD i false).length=(List.range ops.size).length:=by rw [hcnt,List.length_range];omega
   have h2:=List.length_filter_eq_length_iff.1 h1
   exact h2 i (by simpa using hi)
  have hna:na=ops.size:=by
   rcases Nat.lt_or_ge na ops.size with h|h
   ·have:=htl na (Nat.le_refl _) h
    rw [hall na h] at this
    cases this
   ·have:=F.le;omega
  obtain ⟨m,ω,h⟩:=hC
  have hA:CI P w0 m0 F0 (puts s ps) a w m ω:=by
   refine h.ext (by rw [puts_n,puts_n]) (fun t=>?_) (by rw [puts_box,puts_box]) (by rw [puts_row,puts_row])
   apply Option.ext
   intro x
   rw [look_puts _ _ hapart.apart,look_puts _ _ (sel_apart hapart).apart]
   have hmem:∀p,p∈ps↔p∈sel (fun i=>listed.getD i false) ps:=by
    intro p
    rw [mem_sel]
    constructor
    ·intro hp
     obtain ⟨i,hi,rfl⟩:=List.mem_iff_getElem.1 hp
     exact ⟨i,hall i (by omega),List.getElem?_eq_getElem hi⟩
    ·rintro ⟨i,_,hi⟩
     exact List.mem_of_getElem? hi
   simp only [hmem]
  exact draw_tail hT F hQ 0 na listed (puts s ps) a w (Nat.le_refl _) (by omega) hsz (fun i hi=>⟨fun _=>by omega,fun _=>hall i hi⟩) hV ⟨m,ω,hA⟩
 | succ fuel ih =>
  intro listed a w c hc hsz hcnt hcl htl hC
  by_cases hdone:∀i,i<na→listed.getD i false=true
  ·-- the head is through
   obtain ⟨m,ω,h⟩:=hC
   have hA:CI P w0 m0 F0 (puts s ps) a w m ω:=by
    refine h.ext (by rw [puts_n,puts_n]) (fun t=>?_) (by rw [puts_box,puts_box]) (by rw [puts_row,puts_row])
    apply Option.ext
    intro x
    rw [look_puts _ _ hapart.apart,look_puts _ _ (sel_apart hapart).apart]
    have hmem:∀p,p∈ps↔p∈sel (fun i=>listed.getD i false) ps:=by
     intro p
     rw [mem_sel]
     constructor
     ·intro hp
      obtain ⟨i,hi,rfl⟩:=List.mem_iff_getElem.1 hp
      exact ⟨i,hdone i (by omega),List.getElem?_eq_getElem hi⟩
     ·rintro ⟨i,_,hi⟩
      exact List.mem_of_getElem? hi
    simp only [hmem]
   have hcna:c=na:=by
    rw [←hcnt]
    have h1:((List.range ops.size).filter fun i=>listed.getD i false)=(List.range ops.size).filter fun i=>decide (i<na):=by
     apply List.filter_congr
     intro i hi
     have hi:i<ops.size:=by simpa using hi
     by_cases hlt:i<na
     ·rw [hdone i hlt];simp [hlt]
     ·rw [htl i (by omega) hi];simp [hlt]
    rw [h1]
    have h2:∀n,na≤n→((List.range n).filter fun i=>decide (i<na)).length=na:=by
     intro n hn
     induction n with
     | zero=>simp;omega
     | succ n ihn =>
      rw [List.range_succ,List.filter_append,List.length_append]
      rcases Nat.lt_or_ge n na with h|h
      ·have hna:na=n+1:=by omega
       have:((List.range n).filter fun i=>decide (i<na))=List.range n:=by
        apply List.filter_eq_self.2
        intro i hi
        have:i<n:=by simpa using hi
        simp;omega
       rw [this]
       simp [h]
       omega
      ·rw [ihn h]
       simp [show ¬ n<na from by omega]
    exact h2 _ F.le
   exact draw_tail hT F hQ (fuel+1) na listed (puts s ps) a w (Nat.le_refl _) (by omega) hsz (fun i hi=>⟨(fun hl=>by
    rcases Nat.lt_or_ge i na with h|h
    ·exact h
    ·rw [htl i h hi] at hl
     cases hl),fun hlt=>hdone i hlt⟩) hV ⟨m,ω,hA⟩
  ·-- something of the head is not listed
   have hex:∃i,i<na∧listed.getD i false=false:=by
    apply Classical.byContradiction
    intro hn
    apply hdone
    intro i hi
    cases hb:listed.getD i false with
    | true=>rfl
    | false=>exact absurd ⟨i,hi,hb⟩ hn
   refine ⟨fun hn=>?_,fun i hi=>?_⟩
   ·exfalso
    -- the least one is ready
    obtain ⟨i,h1,h2⟩:=hex
    have key:∀n i,i≤n→i<na→listed.getD i false=false→∃k,k∈Region.ready .any ops listed:=by
     intro n
     induction n with
     | zero =>
      intro i hi hina hb
      have:i=0:=by omega
      subst this
      refine ⟨0,(mem_ready hsz).2 ⟨by have:=F.le;omega,hb,fun j hj=>?_⟩⟩
      have:=F.back 0 (by have:=F.le;omega) j hj
      omega
     | succ n ihn =>
      intro i hi hina hb
      by_cases hall:∀j∈direct ops i,listed.getD j false=true
      ·exact ⟨i,(mem_ready hsz).2 ⟨by have:=F.le;omega,hb,hall⟩⟩
      ·have:∃j,j∈direct ops i∧listed.getD j false=false:=by
        apply Classical.byContradiction
        intro hn
        apply hall
        intro j hj
        cases hb:listed.getD j false with
        | true=>rfl
        | false=>exact absurd ⟨j,hj,hb⟩ hn
       obtain ⟨j,hj,hjb⟩:=this
       have:=F.back i (by have:=F.le;omega) j hj
       exact ihn j (by omega) (by omega) hjb
    obtain ⟨k,hk⟩:=key i i (Nat.le_refl _) h1 h2
    rw [hn] at hk
    cases hk
   ·obtain ⟨h1,h2,h3⟩:=(mem_ready hsz).1 hi
    have hcl':∀j∈clo ops dep i,listed.getD j false=true:=clo_listed (ops:=ops) (listed:=fun j=>listed.getD j false=true) (fun j hj j' hj'=>by
     have hjn:j<ops.size:=by
      rcases Nat.lt_or_ge j ops.size with h|h
      ·exact h
      ·rw [Array.getD_eq_getD_getElem?,Array.getElem?_eq_none (by omega)] at hj;cases hj
     exact hcl j hjn hj j' hj') dep i h3
    have hina:i<na:=by
     rcases Nat.lt_or_ge i na with h|h
     ·exact h
     ·obtain ⟨j,hj,hjb⟩:=hex
      have:=hcl' j (F.tail i j h h1 (by omega))
      rw [hjb] at this
      cases this
    obtain ⟨o,x,ho,hp,hS⟩:=hstep i hina
    obtain ⟨m,ω,h⟩:=hC
    simp only [wpOp,ho]
    refine StepOK_sound hT hS (s:=puts s (sel (fun i=>listed.getD i false) ps)) (fun i x hx=>by rw [puts_box] at hx ⊢;exact hx) (by rw [puts_row,puts_row]) (by rw [puts_n,puts_n]) (fun t ht=>?_) h (fun v w' m' hC'=>?_)
    ·-- the same operands
     have htl':t∈looksAt ops i:=by simpa [looksAt,ho] using ht
     have happ:Apart (ps.take i):=by
      refine ApartP.apart ?_
      exact List.Pairwise.sublist (List.take_sublist i ps) hapart
     apply Option.ext
     intro y
     rw [look_puts _ _ happ,look_puts _ _ (sel_apart hapart).apart]
     have hmem:∀y,(some t,y)∈ps.take i↔(some t,y)∈sel (fun i=>listed.getD i false) ps:=by
      intro y
      rw [mem_sel]
      constructor
      ·intro hm
       obtain ⟨j,hj,he⟩:=List.mem_iff_getElem.1 hm
       have hjl:j<i:=by simp at hj;omega
       have hpj:ps[j]?=some (some t,y):=by
        have:=List.getElem?_eq_getElem hj
        rw [he,List.getElem?_take,if_pos hjl] at this
        exact this
       obtain ⟨hjna,hjd⟩:=hdst j _ hpj
       exact ⟨j,hcl' j ((F.reads i j t hina hjna (by omega) hjd htl').1 hjl),hpj⟩
      ·rintro ⟨j,hjb,hpj⟩
       obtain ⟨hjna,hjd⟩:=hdst j _ hpj
       have hji:j≠i:=fun e=>by rw [e,h2] at hjb;cases hjb
       rcases Nat.lt_or_ge j i with hlt|hge
       ·refine List.mem_of_getElem? (i:=j) ?_
        rw [List.getElem?_take,if_pos hlt]
        exact hpj
       ·have hm:=(F.reads i j t hina hjna (fun e=>hji e.symm) hjd htl').2 (by omega)
        have hb:=clo_listed (ops:=ops) (listed:=fun j=>listed.getD j false=true) (fun j hj j' hj'=>by
         have hjn:j<ops.size:=by
          rcases Nat.lt_or_ge j ops.size with h|h
          ·exact h
          ·rw [Array.getD_eq_getD_getElem?,Array.getElem?_eq_none (by omega)] at hj;cases hj
         exact hcl j hjn hj j' hj') dep j (fun j' hj'=>hcl j (by have:=F.le;omega) hjb j' hj') i hm
        rw [h2] at hb
        cases hb
     have hall:(∀p∈ps.take i,p.1≠some t)↔(∀p∈sel (fun i=>listed.getD i false) ps,p.1≠some t):=by
      constructor
      ·intro hh p hp' he
       obtain ⟨p1,p2⟩:=p
       simp only at he
       subst he
       exact hh _ ((hmem p2).2 hp') rfl
      ·intro hh p hp' he
       obtain ⟨p1,p2⟩:=p
       simp only at he
       subst he
       exact hh _ ((hmem p2).1 hp') rfl
     rw [hmem y,hall]
    ·refine ih (listed.setIfInBounds i true) _ w' (c+1) (by omega) (by simpa using hsz) ?_ ?_ ?_ ?_
     ·rw [←hcnt]
      have h4:∀n,i<n→((List.range n).filter fun j=>(listed.setIfInBounds i true).getD j false).length=((List.range n).filter fun j=>listed.getD j false).length+1:=by
       intro n hn
       induction n with
       | zero=>omega
       | succ n ihn =>
        rw [List.range_succ,List.filter_append,List.filter_append,List.length_append,List.length_append]
        rcases Nat.lt_or_ge i n with hlt|hge
        ·rw [ihn hlt]
         have:([n].filter fun j=>(listed.setIfInBounds i true).getD j false)=[n].filter fun j=>listed.getD j false:=by
          apply List.filter_congr
          intro j hj
          have:j=n:=by simpa using hj
          rw [getD_setB listed (by omega),if_neg (by omega)]
         rw [this]
         omega
        ·have hin:i=n:=by omega
         subst hin
         have e1:((List.range i).filter fun j=>(listed.setIfInBounds i true).getD j false)=(List.range i).filter fun j=>listed.getD j false:=by
          apply List.filter_congr
          intro j hj
          have:j<i:=by simpa using hj
          rw [getD_setB listed (by omega),if_neg (by omega)]
         have e2:([i].filter fun j=>(listed.setIfInBounds i true).getD j false).length=1:=by
          have:(listed.setIfInBounds i true).getD i false=true:=by rw [getD_setB listed (by omega),if_pos rfl]
          simp only [List.filter_cons,this,if_true,List.filter_nil,List.length_cons,List.length_nil]
         have e3:([i].filter fun j=>listed.getD j false).length=0:=by
          simp only [List.filter_cons,h2,Bool.false_eq_true,if_false,List.filter_nil,List.length_nil]
         rw [e1,e2,e3]
      exact h4 _ h1
     ·intro j hj hb k hk
      rw [getD_setB listed (by omega)] at hb ⊢
      by_cases hki:k=i
      ·rw [if_pos hki]
      ·rw [if_neg hki]
       by_cases hji:j=i
       ·subst hji;exact h3 k hk
       ·rw [if_neg hji] at hb;exact hcl j hj hb k hk
     ·intro j hj hjn
      rw [getD_setB listed (by omega),if_neg (by omega)]
      exact htl j hj hjn
     ·refine ⟨m',ω,hC'.ext (by rw [puts_n,putO_n,puts_n]) (fun t=>?_) (by rw [puts_box,putO_box,puts_box]) (by rw [puts_row,putO_row,puts_row])⟩
      apply Option.ext
      intro y
      rw [look_puts _ _ (sel_apart hapart).apart]
      have hput:look ((puts s (sel (fun i=>listed.getD i false) ps)).putO o.dst x).env t=if o.dst=some t then some x else look (puts s (sel (fun i=>listed.getD i false) ps)).env t:=by
       unfold St.putO
       cases hd:o.dst with
       | none=>simp
       | some d=>simp only [St.put,look,Option.some.injEq]
      rw [hput]
      have hmem:∀p,p∈sel (fun j=>(listed.setIfInBounds i true).getD j false) ps↔p=(o.dst,x)∨p∈sel (fun j=>listed.getD j false) ps:=by
       intro p
       simp only [mem_sel]
       constructor
       ·rintro ⟨j,hb,hj⟩
        rw [getD_setB listed (by omega)] at hb
        by_cases hji:j=i
        ·subst hji
         rw [hp] at hj
         injection hj with hj
         exact .inl hj.symm
        ·rw [if_neg hji] at hb
         exact .inr ⟨j,hb,hj⟩
       ·rintro (rfl|⟨j,hb,hj⟩)
        ·exact ⟨i,by rw [getD_setB listed (by omega),if_pos rfl],hp⟩
        ·refine ⟨j,?_,hj⟩
         rw [getD_setB listed (by omega)]
         split
         ·rfl
         ·exact hb
      by_cases hd:o.dst=some t
      ·rw [if_pos hd]
       have hno:∀p∈sel (fun j=>listed.getD j false) ps,p.1≠some t:=by
        intro p hp' he
        obtain ⟨j,hb,hj⟩:=mem_sel.1 hp'
        have:=hapart.apart i j _ _ t hp hj hd he
        subst this
        rw [h2] at hb
        cases hb
       simp only [hmem]
       constructor
       ·rintro (h5|⟨h5,_⟩)
        ·rcases h5 with h5|h5
         ·injection h5 with _ h5;rw [h5]
         ·exact absurd rfl (hno _ h5)
        ·exact absurd hd (h5 _ (.inl rfl))
       ·intro h5
        injection h5 with h5
        exact .inl (.inl (by rw [hd,h5]))
      ·rw [if_neg hd,look_puts _ _ (sel_apart hapart).apart]
       simp only [hmem]
       constructor
       ·rintro (h5|⟨h5,h6⟩)
        ·rcases h5 with h5|h5
         ·injection h5 with h5 _;exact absurd h5.symm hd
         ·exact .inl h5
        ·exact .inr ⟨fun p hp'=>h5 p (.inr hp'),h6⟩
       ·rintro (h5|⟨h5,h6⟩)
        ·exact .inl (.inr h5)
        ·refine .inr ⟨fun p hp'=>?_,h6⟩
         rcases hp' with rfl|hp'
         ·exact hd
         ·exact h5 p hp'
theorem AWP.draw0 (hT:TabOk P T) (hm:P.follows .mixedOrders=true) {Q:Exit→St→Prop} {id:Nat} {ops:Array Oper} {l:List Oper} (na dep:Nat) (hl:ops.toList=l) (hchk:drawOk ops na dep=true)
  (h:VHead P T ops (l.take na) s fun s'=>VOps P T ops (l.drop na) s' (Q .normal)):AWP P w0 m0 F0 (.region id ops true) Q s:=by
 intro a w hc
 have F:=drawFacts hchk
 obtain ⟨ps,h1,h2,h3⟩:=VHead_chain _ _ h
 have hlen:ps.length=na:=by
  rw [h1,←hl,List.length_take,Array.length_toList]
  have:=F.le
  omega
 obtain ⟨m,ω,hC⟩:=hc
 refine wp_region_any hm ?_
 have hg0:∀i,(Array.replicate ops.size false).getD i false=false:=fun i=>by
  rw [Array.getD_eq_getD_getElem?,Array.getElem?_replicate]
  split<;>rfl
 refine draw_head hT F (K:=Q .normal) (Q:=PostQ P w0 m0 F0 Q) (s:=s) (ps:=ps) (fun s a w h1 h2=>⟨s,h1,h2⟩) hlen (fun i hi=>?_) (by rw [hl];exact h2) ops.size _ a _ 0 (by omega) (by simp) ?_ ?_ ?_ ?_
 ·have hin:i<ops.size:=by have:=F.le;omega
  have ho:ops[i]?=some ops[i]:=Array.getElem?_eq_getElem hin
  obtain ⟨x,h4,h5⟩:=h3 i ops[i] (by rw [←hl,List.getElem?_take,if_pos hi,Array.getElem?_toList];exact ho)
  exact ⟨ops[i],x,ho,h4,h5⟩
 ·rw [List.filter_eq_nil_iff.2 (fun i _=>by rw [hg0];simp)]
  rfl
 ·intro i _ hb
  rw [hg0] at hb
  cases hb
 ·intro i _ _
  exact hg0 i
 ·have:sel (fun i=>(Array.replicate ops.size false).getD i false) ps=[]:=by
   unfold sel
   simp only [hg0]
   simp
  rw [this]
  exact ⟨m,ω,hC.draw⟩
theorem AWP.draw (hT:TabOk P T) (hm:P.follows .mixedOrders=true) {Q:Exit→St→Prop} {id:Nat} {ops:Array Oper} {l l1 l2:List Oper} (na dep:Nat) (hl:ops.toList=l) (hchk:drawOk ops na dep=true) (h1:l.take na=l1) (h2:l.drop na=l2)
  (h:∀K:St→Prop,(∀s',Q .normal s'→K s')→VHead P T ops l1 s fun s'=>VOps P T ops l2 s' K):AWP P w0 m0 F0 (.region id ops true) Q s :=
 AWP.draw0 hT hm na dep hl hchk (by rw [h1,h2];exact h _ fun _ h=>h)
end
end Go.Bw
namespace Go.Bw
open Go.RowKit
section
variable {P:Program} {w0:World} {m0:Mem} {s s':St} {a:Act} {w:World} {m:Mem} {ω:Wh} {F0:Home} {T:TypeId→Option TI}
def resOf:List V→A
 | [y]=>.v y
 | ys=>.tup ys
def cellRV (s:St) (i:TI):L→Option V
 | .fz ls=>loadV i ls
 | .ptr id off=>match look s.box id with|some ls=>loadV i ((ls.drop off).map L.peek)|none=>none
 | .eptr id k off=>match look s.row id with|some r=>if k<r.xs.length then loadV i ((overlay r.ov k 0 (r.xs.getD k [])).drop off) else none|none=>none
 | _=>none
def resVals (T:TypeId→Option TI) (s:St):List ResultVar→Option (List V)
 | []=>some []
 | .tmp t::r=>match vOf (look s.env t),resVals T s r with|some y,some q=>some (y::q)|_,_=>none
 | .cell x t::r=>match oneOf (look s.env x),T t,resVals T s r with
  | some l,some i,some q=>(match cellRV s i l with|some y=>some (y::q)|none=>none)
  | _,_,_=>none
theorem run_loadAt_cells {t:TypeId} {i:TI} (hT:tiOk P t i=true) {ad:Addr} {cs:List Value} {ls:List L} {y:V} (hl:cs.length=ls.length)
  (hc:∀(j:Nat) (v:Value),cs[j]?=some v→w.cell? (ad.add j)=some v) (hr:∀(j:Nat) (l:L),ls[j]?=some l→∃v,cs[j]?=some v∧ERep m ω v l) (hy:loadV i ls=some y):∃v,(Instr.loadAt t (.pointer (some ad))).run P w=.ok v w∧VRep m ω v y:=by
 obtain ⟨hsz,hv⟩:=loadV_some hy
 exact run_loadAt (P:=P) (w:=w) (m:=m) (ω:=ω) hT (ad:=ad) (cs:=cs.take i.size) (ls:=ls.take i.size) (by simp [hl]) (by rw [List.length_take];omega)
  (fun j v hv=>hc j v (by rw [List.getElem?_take] at hv;split at hv;exact hv;cases hv))
  (fun j l hl=>by
   rw [List.getElem?_take] at hl
   split at hl
   ·rename_i hj
    obtain ⟨v,h6,h7⟩:=hr j l hl
    exact ⟨v,by rw [List.getElem?_take,if_pos hj];exact h6,h7⟩
   ·cases hl) hv
theorem cellRV_run {t:TypeId} {i:TI} {l:L} {v:Value} {y:V} (hT:tiOk P t i=true) (h:CI P w0 m0 F0 s a w m ω) (hv:ERep m ω v l) (hy:cellRV s i l=some y):∃ad u,v=.pointer (some ad)∧(Instr.loadAt t (.pointer (some ad))).run P w=.ok u w∧VRep m ω u y:=by
 cases l with
 | fz ls =>
  obtain ⟨ad,had,hf⟩:=Rep.frep hv
  obtain ⟨cs,h1,h2,h3⟩:=cells_of_frep h.ok hf
  obtain ⟨u,h4,h5⟩:=run_loadAt_cells (ω:=ω) hT h1 h2 (fun j l hj=>let ⟨v,h4,h5⟩:=h3 j l hj;⟨v,h4,h5.erep⟩) hy
  exact ⟨ad,u,had,h4,h5⟩
 | ptr id off =>
  simp only [cellRV] at hy
  split at hy
  ·rename_i ls hb
   obtain ⟨cs,h1,h2,h3⟩:=box_cells h hb off
   obtain ⟨u,h4,h5⟩:=run_loadAt_cells hT h1 h2 h3 hy
   exact ⟨_,u,hv,h4,h5⟩
  ·cases hy
 | eptr id k off =>
  simp only [cellRV] at hy
  split at hy
  ·rename_i r hb
   split at hy
   ·rename_i hk
    obtain ⟨b,hblk,had⟩:=hv
    obtain ⟨b',hblk',hsz,cs,h1,h2,h3⟩:=row_cells h hb hk off
    rw [hblk] at hblk'
    injection hblk' with hbb
    subst hbb
    rw [hsz] at had
    obtain ⟨u,h4,h5⟩:=run_loadAt_cells hT h1 h2 h3 hy
    exact ⟨_,u,had,h4,h5⟩
   ·cases hy
  ·cases hy
 | _=>cases hy
theorem resVals_run (hT:TabOk P T) (hC:CI P w0 m0 F0 s a w m ω):∀(l:List ResultVar) (ys:List V),resVals T s l=some ys →
  ∃vs:List Value,(l.mapM fun (x:ResultVar)=>(match x with
   | .tmp t=>pure (a.tmps.getD t undef)
   | .cell x t=>do loadVar t (←asAddr (a.tmps.getD x undef)):Sem Value)).run P w=.ok vs w∧vs.length=ys.length∧∀(j:Nat) (y:V),ys[j]?=some y→∃v,vs[j]?=some v∧VRep m ω v y
 | [],ys,h=>by simp only [resVals,Option.some.injEq] at h;subst h;exact ⟨[],by simp,rfl,fun j y hj=>by simp at hj⟩
 | .tmp t::r,ys,h=>by
  simp only [resVals] at h
  split at h
  ·rename_i y q hy hq
   simp only [Option.some.injEq] at h
   subst h
   obtain ⟨vs,h1,h2,h3⟩:=resVals_run hT hC r q hq
   have hv:VRep m ω (a.tmps.getD t undef) y:=hC.env t _ (vOf_some hy)
   refine ⟨a.tmps.getD t undef::vs,?_,by simp [h2],fun j y' hj=>?_⟩
   ·simp only [List.mapM_cons,Sem.run_bind,Sem.run_pure,Result.andThen_ok,h1]
   ·cases j with
    | zero=>simp only [List.getElem?_cons_zero,Option.some.injEq] at hj;subst hj;exact ⟨_,rfl,hv⟩
    | succ j=>exact h3 j y' (by simpa using hj)
  ·cases h
 | .cell x t::r,ys,h=>by
  simp only [resVals] at h
  split at h
  ·rename_i l i q hx hi hq
   split at h
   ·rename_i y hy
    simp only [Option.some.injEq] at h
    subst h
    have hv:ERep m ω (a.tmps.getD x undef) l:=hC.env x _ (oneOf_some hx)
    obtain ⟨ad,u,had,hld,hvu⟩:=cellRV_run (hT _ _ hi) hC hv hy
    obtain ⟨vs,h1,h2,h3⟩:=resVals_run hT hC r q hq
    have hld':(loadVar t ad).run P w=.ok u w:=by
     simpa only [Instr.loadAt,Instr.sureAddr,Sem.run_bind,Sem.run_pure,Result.andThen_ok] using hld
    refine ⟨u::vs,?_,by simp [h2],fun j y' hj=>?_⟩
    ·have has:(asAddr (a.tmps.getD x undef)).run P w=.ok ad w:=by rw [had];rfl
     simp only [List.mapM_cons,Sem.run_bind,has,Sem.run_pure,Result.andThen_ok,hld',h1]
    ·cases j with
     | zero=>simp only [List.getElem?_cons_zero,Option.some.injEq] at hj;subst hj;exact ⟨_,rfl,hvu⟩
     | succ j=>exact h3 j y' (by simpa using hj)
   ·cases h
  ·cases h
theorem results_run (hT:TabOk P T) (hC:CI P w0 m0 F0 s a w m ω) {fn:Func} {ys:List V} (hr:resVals T s fn.results.toList=some ys) :
  ∃v,(results fn a.tmps).run P w=.ok v w∧ARep m ω v (resOf ys):=by
 obtain ⟨vs,h1,h2,h3⟩:=resVals_run hT hC fn.results.toList ys hr
 have hrun:(results fn a.tmps).run P w=.ok (if h:vs.toArray.size=1 then vs.toArray[0] else .tuple vs.toArray) w:=by
  unfold results
  rw [Array.mapM_eq_mapM_toList]
  simp only [Sem.run_bind,Sem.run_map]
  erw [h1]
  simp only [Result.andThen_ok,Sem.run_pure]
 refine ⟨_,hrun,?_⟩
 match ys,vs,h2,h3 with
 | [],[],_,_=>exact ⟨#[],rfl,rfl,fun j x hj=>by simp at hj⟩
 | [y],[v],_,h3 =>
  obtain ⟨u,hu,hv⟩:=h3 0 y rfl
  simp only [List.getElem?_cons_zero,Option.some.injEq] at hu
  subst hu
  exact hv
 | y::y2::rest,v::v2::vs,h2,h3 =>
  have hne:¬ ((v::v2::vs).toArray.size=1):=by simp
  rw [dif_neg hne]
  exact ⟨_,rfl,by simpa using h2,fun j x hj=>let ⟨u,h4,h5⟩:=h3 j x hj;⟨u,by simpa using h4,h5⟩⟩
 | [],_::_,h2,_=>simp at h2
 | _::_,[],h2,_=>simp at h2
 | [_],_::_::_,h2,_=>simp at h2
 | _::_::_,[_],h2,_=>simp at h2
def envOf:Nat→List V→List (Nat×A)
 | _,[]=>[]
 | k,x::xs=>(k,.v x)::envOf (k+1) xs
theorem look_envOf:∀(xs:List V) (k t:Nat) (x:A),look (envOf k xs) t=some x→k≤t∧∃y,xs[t - k]?=some y∧x=.v y
 | [],k,t,x,h=>by simp [envOf,look] at h
 | y::xs,k,t,x,h=>by
  simp only [envOf,look] at h
  split at h
  ·rename_i hk
   injection h with h
   subst hk
   exact ⟨Nat.le_refl _,y,by simp,h.symm⟩
  ·rename_i hk
   obtain ⟨h1,z,h2,h3⟩:=look_envOf xs (k+1) t x h
   refine ⟨by omega,z,?_,h3⟩
   have:t - k=(t - (k+1))+1:=by omega
   rw [this,List.getElem?_cons_succ]
   exact h2
def allIn {α:Type} (e:List (Nat×α)):List (Nat×α)→Prop
 | []=>True
 | (t,x)::r=>look e t=some x∧allIn e r
theorem allIn_look {α:Type} {e:List (Nat×α)}:∀{r:List (Nat×α)},allIn e r→∀t x,look r t=some x→look e t=some x
 | [],_,t,x,h=>by cases h
 | (t',y)::r,⟨h1,h2⟩,t,x,h=>by
  simp only [look] at h
  split at h
  ·rename_i ht;injection h with h;subst h;subst ht;exact h1
  ·exact allIn_look h2 t x h
theorem St.le_mk {n:Nat} {e e':List (Nat×A)} {b b':List (Nat×List L)} {k k':List (Nat×RowC)} (he:allIn e e') (hb:allIn b b') (hk:allIn k k'):St.le ⟨n,e',b',k'⟩ ⟨n,e,b,k⟩ :=
 ⟨rfl,allIn_look he,allIn_look hb,allIn_look hk⟩
theorem allIn_nil {α:Type} (e:List (Nat×α)):allIn e []=True:=rfl
theorem allIn_cons {α:Type} (e:List (Nat×α)) (t:Nat) (x:α) (r:List (Nat×α)):allIn e ((t,x)::r)=(look e t=some x∧allIn e r):=rfl
def retQ (T:TypeId→Option TI) (fn:Func) (kb kr:List Nat) (r:A) (bx':Boxes) (rw':Rows):Exit→St→Prop
 | .normal,s|.ret,s=>mO (resVals T s fn.results.toList) fun ys=>(resOf (ys.map fun y=>(y.map (topL kb kr (s.rest kb kr))).map L.norm)=r)∧allIn (s.freeze kb kr).box bx'∧allIn (s.freeze kb kr).row rw'
 | _,_=>False
theorem resOf_map (g:V→V) (ys:List V):resOf (ys.map g)=(match resOf ys with|.v y=>.v (g y)|.tup q=>.tup (q.map g)):=by
 match ys with
 | []=>rfl
 | [y]=>rfl
 | y::z::r=>rfl
theorem satM_of_body (hT:TabOk P T) {f:FuncId} {fn:Func} {c:Code} {xs:List V} {bx bx':Boxes} {rw rw':Rows} {r:A} (kb kr:List Nat) (hf:P.funcs[f]?=some fn) (hb:fn.body=some c) (hn:(fn.name=="runtime.NumGoroutine")=false) (hx:xs.length≤fn.ntmps∧fn.ntmps≤1000)
  (h:∀w0 m0 F0,AWP P w0 m0 F0 c (retQ T fn kb kr r bx' rw') {n:=fn.ntmps,env:=envOf 0 xs,box:=bx,row:=rw}):SatM P f xs bx rw r bx' rw':=by
 refine ⟨fun m w vs ω hC hA=>?_⟩
 refine .inr ⟨?_,?_⟩
 ·simp only [callFunc,Sem.run_bind,program,Sem.run,Result.andThen_ok,hf]
  rw [hn,hb]
  simp
 ·refine calls_of_wp hf hb ?_
  have hCC:Conc P w m (handed bx rw ω) {n:=fn.ntmps,env:=envOf 0 xs,box:=bx,row:=rw} {tmps:=vs.toArray++Array.replicate (fn.ntmps - vs.toArray.size) undef,defers:=[]} w:=by
   refine ⟨m,ω,{size:=?_,defers:=rfl,keeps:=hC.keeps,mle:=hC.mle,mold:=hC.mold,ok:=hC.ok,env:=fun t x ht=>?_,box:=hC.box,row:=hC.row,fresh:=fun κ id hl=>hC.fresh κ id (by cases κ<;>exact hl),apart:=fun κ id κ' id' hl hl'=>hC.apart κ id κ' id' (by cases κ<;>exact hl) (by cases κ'<;>exact hl'),home:=⟨fun id hid=>?_,hC.home.box,hC.home.row⟩,good:=hC.good}⟩
   ·simp [hA.1]
    omega
   ·obtain ⟨_,y,h2,rfl⟩:=look_envOf xs 0 t x ht
    simp only [Nat.sub_zero] at h2
    obtain ⟨v,h3,h4⟩:=hA.2 t y h2
    have:(vs.toArray++Array.replicate (fn.ntmps - vs.toArray.size) undef).getD t undef=v:=by
     rw [Array.getD_eq_getD_getElem?,Array.getElem?_append_left (by simpa using (List.getElem?_eq_some_iff.1 h3).1)]
     simp [h3]
    rw [this]
    exact h4
   ·have:=hC.home.big id hid
    exact ⟨by show fn.ntmps≤id;omega,this.2⟩
  refine wp_mono (h w m _ _ _ hCC) fun e a' w' he=>?_
  obtain ⟨s',hq,m',ω',hC'⟩:=he
  have fin:(mO (resVals T s' fn.results.toList) fun ys=>(resOf (ys.map fun y=>(y.map (topL kb kr (s'.rest kb kr))).map L.norm)=r)∧allIn (s'.freeze kb kr).box bx'∧allIn (s'.freeze kb kr).row rw')→a'.defers=[]∧∃v,(results fn a'.tmps).run P w'=.ok v w'∧∃v',Ending.returned v=.returned v'∧Post P w m ω bx rw r bx' rw' v' w':=by
   intro hq
   obtain ⟨ys,h1,h2,h3,h4⟩:=mO_elim hq
   obtain ⟨v,h5,h6⟩:=results_run hT hC' h1
   obtain ⟨m'',hF,hle,hg⟩:=hC'.freeze kb kr
   have h7:ARep m'' ω' v r:=by
    rw [←h2]
    have:=(h6.map hg).map (g:=L.norm) (fun v l hl=>norm_e (m:=m'') (ω:=ω') hl)
    have e:((resOf ys).map (topL kb kr (s'.rest kb kr))).map L.norm=resOf (ys.map fun y=>(y.map (topL kb kr (s'.rest kb kr))).map L.norm):=by
     rw [resOf_map]
     cases resOf ys with
     | v y=>rfl
     | tup q=>simp [A.map]
    rw [e] at this
    exact this
   have h8:CI P w m (handed bx rw ω) (roots bx' rw') a0 w' m'' ω':=by
    have hw:=hF.weaken (s':={s'.freeze kb kr with env:=[],box:=bx',row:=rw'}) rfl (fun t x hx=>by cases hx) (allIn_look h3) (allIn_look h4)
    exact {size:=rfl,defers:=rfl,keeps:=hw.keeps,mle:=hw.mle,mold:=hw.mold,ok:=hw.ok,env:=(fun t x hx=>by cases hx),box:=hw.box,row:=hw.row,fresh:=fun κ id hl=>hw.fresh κ id (by cases κ<;>exact hl),apart:=fun κ id κ' id' hl hl'=>hw.apart κ id κ' id' (by cases κ<;>exact hl) (by cases κ'<;>exact hl'),home:=⟨fun id hid=>⟨Nat.zero_le _,(hw.home.big id hid).2⟩,hw.home.box,hw.home.row⟩,good:=hw.good}
   exact ⟨hC'.defers,v,h5,v,rfl,m'',ω',h8,h7⟩
  cases e with
  | normal=>exact fin hq
  | ret=>exact fin hq
  | _=>cases hq
theorem sat_of_body (hT:TabOk P T) {f:FuncId} {fn:Func} {c:Code} {xs:List V} {r:A} (hf:P.funcs[f]?=some fn) (hb:fn.body=some c) (hn:(fn.name=="runtime.NumGoroutine")=false) (hx:xs.length≤fn.ntmps∧fn.ntmps≤1000)
  (h:∀w0 m0 F0,AWP P w0 m0 F0 c (retQ T fn [] [] r [] []) {n:=fn.ntmps,env:=envOf 0 xs,box:=[],row:=[]}):Sat P f xs r :=
 satM_of_body hT [] [] hf hb hn hx h
end
theorem SatM.frz {P:Program} {f:FuncId} {xs:List V} {r r':A} {bx':Boxes} {rw':Rows} (h:SatM P f xs [] [] r bx' rw') (e:r.map (topL [] [] ((roots bx' rw').rest [] []))=r'):Sat P f xs r':=by
 refine ⟨fun m w vs ω hC hA=>?_⟩
 refine (h.call m w vs ω hC hA).mono fun v w' hp=>?_
 obtain ⟨m',ω',hC',hv⟩:=hp
 obtain ⟨m'',hF,hle,hg⟩:=hC'.freeze [] []
 refine ⟨m'',ω',?_,e▸hv.map hg⟩
 have hw:=hF.weaken (s':=roots [] []) rfl (fun t x hx=>by cases hx) (fun t x hx=>by cases hx) (fun t x hx=>by cases hx)
 exact hw
end Go.Bw
namespace Go.Bw
theorem look_nil {α:Type} (i:Nat):look ([]:List (Nat×α)) i=none:=rfl
theorem look_cons {α:Type} (t:Nat) (x:α) (e:List (Nat×α)) (i:Nat):look ((t,x)::e) i=if t=i then some x else look e i:=rfl
theorem del_nil {α:Type} (i:Nat):Bw.del i ([]:List (Nat×α))=[]:=rfl
theorem del_cons {α:Type} (i t:Nat) (x:α) (e:List (Nat×α)):Bw.del i ((t,x)::e)=if t=i then Bw.del i e else (t,x)::Bw.del i e:=rfl
theorem put_mk (n:Nat) (e:List (Nat×A)) (b:Boxes) (k:Rows) (d:Nat) (x:A):St.put ⟨n,e,b,k⟩ d x=⟨n,(d,x)::e,b,k⟩:=rfl
theorem putO_some (s:St) (d:Nat) (x:A):s.putO (some d) x=s.put d x:=rfl
theorem putO_none (s:St) (x:A):s.putO none x=s:=rfl
theorem okD_some (s:St) (d:Nat):s.okD (some d)=(d<s.n):=rfl
theorem okD_none (s:St):s.okD none=True:=rfl
theorem pk_some (s:St) (d:Nat) (K:St→Prop) (y:A):pk s (some d) K y=(d<s.n∧K (s.put d y)):=rfl
theorem pk_none (s:St) (K:St→Prop) (y:A):pk s none K y=K s:=rfl
theorem noBox_mk (n:Nat) (e:List (Nat×A)) (b:Boxes) (k:Rows) (id:Nat):St.noBox ⟨n,e,b,k⟩ id=⟨n,e.map fun p=>(p.1,p.2.map (L.noPtr id)),(Bw.del id b).map fun p=>(p.1,p.2.map (L.noPtr id)),k.map fun p=>(p.1,p.2.map (L.noPtr id))⟩:=rfl
theorem noRow_mk (n:Nat) (e:List (Nat×A)) (b:Boxes) (k:Rows) (id:Nat):St.noRow ⟨n,e,b,k⟩ id=⟨n,e.map fun p=>(p.1,p.2.map (L.noRow id)),b.map fun p=>(p.1,p.2.map (L.noRow id)),(Bw.del id k).map fun p=>(p.1,p.2.map (L.noRow id))⟩:=rfl
theorem newBox_eq (s:St) (d:Nat) (ls:List L):s.newBox d ls=({s.noBox d with box:=(d,ls.map (L.noPtr d))::(s.noBox d).box}).put d (.v (.one (.ptr d 0))):=rfl
theorem newRow0_eq (s:St) (src:Option Nat) (d:Nat) (r:RowC):s.newRow0 src d r={(s.killRow src).noRow d with row:=(d,(r.kill src).map (L.noRow d))::((s.killRow src).noRow d).row}:=rfl
theorem rowMap_mk (g:L→L) (sz:Nat) (xs:List (List L)) (ov:List (Nat×Nat×L)):RowC.map g ⟨sz,xs,ov⟩=⟨sz,xs,ov.map fun p=>(p.1,p.2.1,g p.2.2)⟩:=rfl
theorem topL_int (kb kr:List Nat) (s:St) (k:IntKind) (n:Int):topL kb kr s (.int k n)=.int k n:=rfl
theorem topL_bool (kb kr:List Nat) (s:St) (b:Bool):topL kb kr s (.bool b)=.bool b:=rfl
theorem topL_str (kb kr:List Nat) (s:St) (b:ByteArray):topL kb kr s (.str b)=.str b:=rfl
theorem topL_sl (kb kr:List Nat) (s:St) (sz:Nat) (xs:List (List L)):topL kb kr s (.sl sz xs)=.sl sz xs:=rfl
theorem topL_nil (kb kr:List Nat) (s:St) (sz:Nat):topL kb kr s (.nil sz)=.nil sz:=rfl
theorem topL_own (kb kr:List Nat) (s:St) (sz:Nat) (xs:List (List L)):topL kb kr s (.own sz xs)=.own sz xs:=rfl
theorem topL_fz (kb kr:List Nat) (s:St) (ls:List L):topL kb kr s (.fz ls)=.fz ls:=rfl
theorem topL_any (kb kr:List Nat) (s:St):topL kb kr s .any=.any:=rfl
theorem topL_ref (kb kr:List Nat) (s:St) (id lo n:Nat):topL kb kr s (.ref id lo n)=if kr.elem id then .ref id lo n else frzV 4 s (.ref id lo n):=rfl
theorem topL_ptr (kb kr:List Nat) (s:St) (id o:Nat):topL kb kr s (.ptr id o)=if kb.elem id then .ptr id o else frzV 4 s (.ptr id o):=rfl
theorem topL_eptr (kb kr:List Nat) (s:St) (id i o:Nat):topL kb kr s (.eptr id i o)=if kr.elem id then .eptr id i o else frzV 4 s (.eptr id i o):=rfl
theorem frzV_int (n:Nat) (s:St) (k:IntKind) (q:Int):frzV (n+1) s (.int k q)=.int k q:=rfl
theorem frzV_bool (n:Nat) (s:St) (b:Bool):frzV (n+1) s (.bool b)=.bool b:=rfl
theorem frzV_str (n:Nat) (s:St) (b:ByteArray):frzV (n+1) s (.str b)=.str b:=rfl
theorem frzV_sl (n:Nat) (s:St) (sz:Nat) (xs:List (List L)):frzV (n+1) s (.sl sz xs)=.sl sz xs:=rfl
theorem frzV_nil (n:Nat) (s:St) (sz:Nat):frzV (n+1) s (.nil sz)=.nil sz:=rfl
theorem frzV_fz (n:Nat) (s:St) (ls:List L):frzV (n+1) s (.fz ls)=.fz ls:=rfl
theorem frzV_any (n:Nat) (s:St):frzV (n+1) s .any=.any:=rfl
theorem frzV_own (n:Nat) (s:St) (sz:Nat) (xs:List (List L)):frzV (n+1) s (.own sz xs)=.sl sz (xs.map fun x=>x.map (L.frzN 3)):=rfl
theorem frzV_clo (n:Nat) (s:St) (f:FuncId) (caps:List L):frzV (n+1) s (.clo f caps)=.clo f (caps.map (frzV n s)):=rfl
theorem frzV_ref (n:Nat) (s:St) (id lo k:Nat):frzV (n+1) s (.ref id lo k)=match look s.row id with
  | some r=>if lo+k≤r.xs.length then .sl r.sz (((frzRow (frzV n s) r).drop lo).take k) else .any
  | none=>.any:=rfl
theorem frzV_eptr (n:Nat) (s:St) (id i o:Nat):frzV (n+1) s (.eptr id i o)=match look s.row id with
  | some r=>if i<r.xs.length then .fz (((frzRow (frzV n s) r).getD i []).drop o) else .any
  | none=>.any:=rfl
theorem frzV_ptr (n:Nat) (s:St) (id o:Nat):frzV (n+1) s (.ptr id o)=match look s.box id with
  | some ls=>.fz ((ls.map (frzV n s)).drop o)
  | none=>.any:=rfl
theorem frzRow_nil (fr:L→L) (sz:Nat) (xs:List (List L)):frzRow fr ⟨sz,xs,[]⟩=xs.map fun x=>x.map (L.frzN 4):=rfl
def frzO (fr:L→L) (l:L):Option L→L
 | some l'=>fr l'
 | none=>l.frzN 4
theorem frzO_some (fr:L→L) (l l':L):frzO fr l (some l')=fr l':=rfl
theorem frzO_none (fr:L→L) (l:L):frzO fr l none=l.frzN 4:=rfl
def frzCs (fr:L→L) (ov:List (Nat×Nat×L)) (i:Nat):Nat→List L→List L
 | _,[]=>[]
 | j,l::r=>frzO fr l (ovGet ov i j)::frzCs fr ov i (j+1) r
def frzRs (fr:L→L) (ov:List (Nat×Nat×L)):Nat→List (List L)→List (List L)
 | _,[]=>[]
 | i,x::r=>frzCs fr ov i 0 x::frzRs fr ov (i+1) r
theorem frzCs_nil (fr:L→L) (ov:List (Nat×Nat×L)) (i j:Nat):frzCs fr ov i j []=[]:=rfl
theorem frzCs_cons (fr:L→L) (ov:List (Nat×Nat×L)) (i j:Nat) (l:L) (r:List L):frzCs fr ov i j (l::r)=frzO fr l (ovGet ov i j)::frzCs fr ov i (j+1) r:=rfl
theorem frzRs_nil (fr:L→L) (ov:List (Nat×Nat×L)) (i:Nat):frzRs fr ov i []=[]:=rfl
theorem frzRs_cons (fr:L→L) (ov:List (Nat×Nat×L)) (i:Nat) (x:List L) (r:List (List L)):frzRs fr ov i (x::r)=frzCs fr ov i 0 x::frzRs fr ov (i+1) r:=rfl
theorem frzCs_eq (fr:L→L) (ov:List (Nat×Nat×L)) (i:Nat):∀(x:List L) (j:Nat),((x.zipIdx j).map fun q=>match ovGet ov i q.2 with|some l=>fr l|none=>q.1.frzN 4)=frzCs fr ov i j x
 | [],_=>rfl
 | l::r,j=>by
  simp only [List.zipIdx_cons,List.map_cons,frzCs]
  rw [frzCs_eq fr ov i r (j+1)]
  congr 1
theorem frzRs_eq (fr:L→L) (ov:List (Nat×Nat×L)):∀(xs:List (List L)) (i:Nat),((xs.zipIdx i).map fun p=>p.1.zipIdx.map fun q=>match ovGet ov p.2 q.2 with|some l=>fr l|none=>q.1.frzN 4)=frzRs fr ov i xs
 | [],_=>rfl
 | x::r,i=>by
  simp only [List.zipIdx_cons,List.map_cons,frzRs]
  rw [frzRs_eq fr ov r (i+1),frzCs_eq]
theorem frzRow_ov (fr:L→L) (sz:Nat) (xs:List (List L)) (p:Nat×Nat×L) (ov:List (Nat×Nat×L)):frzRow fr ⟨sz,xs,p::ov⟩=frzRs fr (p::ov) 0 xs:=frzRs_eq fr (p::ov) xs 0
theorem frzN_int (n:Nat) (k:IntKind) (q:Int):L.frzN (n+1) (.int k q)=.int k q:=rfl
theorem frzN_bool (n:Nat) (b:Bool):L.frzN (n+1) (.bool b)=.bool b:=rfl
theorem frzN_str (n:Nat) (b:ByteArray):L.frzN (n+1) (.str b)=.str b:=rfl
theorem frzN_sl (n:Nat) (sz:Nat) (xs:List (List L)):L.frzN (n+1) (.sl sz xs)=.sl sz xs:=rfl
theorem frzN_nil (n:Nat) (sz:Nat):L.frzN (n+1) (.nil sz)=.nil sz:=rfl
theorem frzN_any (n:Nat):L.frzN (n+1) .any=.any:=rfl
theorem frzN_own (n:Nat) (sz:Nat) (xs:List (List L)):L.frzN (n+1) (.own sz xs)=.sl sz (xs.map fun x=>x.map (L.frzN n)):=rfl
theorem keepL_nil {α:Type} (e:List (Nat×α)):keepL [] e=[]:=by unfold keepL;simp
theorem keepL_nil' {α:Type} (k:List Nat):keepL k ([]:List (Nat×α))=[]:=rfl
theorem keepL_cons {α:Type} (k:List Nat) (t:Nat) (x:α) (e:List (Nat×α)):keepL k ((t,x)::e)=if k.elem t then (t,x)::keepL k e else keepL k e:=by
 simp only [keepL,List.filter_cons]
theorem dropL_nil {α:Type} (e:List (Nat×α)):dropL [] e=e:=by unfold dropL;simp
theorem dropL_nil' {α:Type} (k:List Nat):dropL k ([]:List (Nat×α))=[]:=rfl
theorem dropL_cons {α:Type} (k:List Nat) (t:Nat) (x:α) (e:List (Nat×α)):dropL k ((t,x)::e)=if k.elem t then dropL k e else (t,x)::dropL k e:=by
 simp only [dropL,List.filter_cons]
 cases k.elem t<;>rfl
theorem overlay_nil (i k:Nat) (l:L) (r:List L):overlay [] i k (l::r)=l.peek::overlay [] i (k+1) r:=rfl
theorem overlay_nil' (ov:List (Nat×Nat×L)) (i k:Nat):overlay ov i k []=[]:=rfl
theorem clos_int (k:IntKind) (q:Int):L.clos (.int k q)=.int k q:=rfl
theorem clos_bool (b:Bool):L.clos (.bool b)=.bool b:=rfl
theorem clos_str (b:ByteArray):L.clos (.str b)=.str b:=rfl
theorem clos_sl (sz:Nat) (xs:List (List L)):L.clos (.sl sz xs)=.sl sz xs:=rfl
theorem clos_nil (sz:Nat):L.clos (.nil sz)=.sl sz []:=rfl
theorem clos_any:L.clos .any=.any:=rfl
theorem clos_fz (ls:List L):L.clos (.fz ls)=.fz ls:=rfl
theorem noOwn_nil:noOwn []=True:=by simp [noOwn]
theorem noOwn_cons (x:List L) (r:List (List L)):noOwn (x::r)=((x.all fun l=>!l.isOwn)=true∧noOwn r):=by
 simp [noOwn]
theorem noOwn_append (x y:List (List L)):noOwn (x++y)=(noOwn x∧noOwn y):=by
 simp only [noOwn,List.mem_append,eq_iff_iff]
 exact ⟨fun h=>⟨fun z hz=>h z (.inl hz),fun z hz=>h z (.inr hz)⟩,fun h z hz=>hz.elim (h.1 z) (h.2 z)⟩
theorem noOwn_map {α:Type} {e:α→List L} (h:∀x,(e x).all (fun l=>!l.isOwn)=true) (l:List α):noOwn (l.map e)=True:=by
 simp only [noOwn,eq_iff_iff,iff_true]
 intro x hx y hy
 obtain ⟨z,_,rfl⟩:=List.mem_map.1 hx
 simpa using List.all_eq_true.1 (h z) y hy
theorem qB {R:St→Prop} {Q:Exit→St→Prop} {s:St} (h:R s):thenQ R Q .normal s:=h
theorem qF {R:St→Prop} {Q:Exit→St→Prop} {s:St} (h:Q .ret s):thenQ R Q .ret s:=h
theorem qN {R:St→Prop} {Q:Exit→St→Prop} {s:St} {id:Nat} (h:Q (.exit id) s):thenQ R Q (.exit id) s:=h
theorem qO {id:Nat} {Q:Exit→St→Prop} {s:St} (h:Q .normal s):blockQ id Q .normal s:=h
theorem qL {id:Nat} {Q:Exit→St→Prop} {s:St} (h:Q .ret s):blockQ id Q .ret s:=h
theorem qQ {id:Nat} {Q:Exit→St→Prop} {s:St} (h:Q .normal s):blockQ id Q (.exit id) s:=by simpa [blockQ] using h
theorem qR {id id':Nat} {Q:Exit→St→Prop} {s:St} (hne:(id'==id)=false) (h:Q (.exit id') s):blockQ id Q (.exit id') s:=by
 have:id'≠id:=by simpa using hne
 simpa [blockQ,this] using h
theorem AWP.cut {P:Program} {w0:World} {m0:Mem} {F0:Home} {x z:Code} {Q Q3:Exit→St→Prop} {s:St} (s1:St) (h1:AWP P w0 m0 F0 x (thenQ (fun s'=>St.le s1 s') Q) s) (h2:AWP P w0 m0 F0 z Q3 s1):AWP P w0 m0 F0 x (thenQ (AWP P w0 m0 F0 z Q3) Q) s :=
 h1.mono fun e s' he=>by
  cases e with
  | normal=>exact AWP.weak he h2
  | _=>exact he
theorem getD_map_lt {α:Type} (f:α→List L) (xs:List α) (k:Nat) (h:k<xs.length):(xs.map f).getD k []=f xs[k]:=by
 simp [List.getD,h]
theorem wrap_nat (k:Nat) (h:k<9223372036854775807):IntKind.i64.wrap ((k:Int)+1)=((k+1:Nat):Int):=by
 rw [IntWalk.i64_in _ ⟨by omega,by omega⟩];rfl
theorem wrap_in (n:Int) (h:-9223372036854775808≤n∧n≤9223372036854775807):IntKind.i64.wrap n=n:=IntWalk.i64_in n h
class MTag {α:Type} (k:α→Prop):Type where
instance {α:Type} (k:α→Prop):MTag k:=⟨⟩
def mT {α:Type} (x:Option α) (k:α→Prop) [MTag k]:Prop:=mO x k
theorem mT_some {α:Type} {k:α→Prop} [MTag k] (y:α):mT (some y) k=k y:=rfl
section
variable (P:Program) (T:TypeId→Option TI) (ops:Array Oper) (l:List Oper) (s:St) (K:St→Prop) (KA:A→Prop) (d:Option Tmp) (n:Tmp) (ty t t':TypeId) (pos:String) (af:Array Edge) (x y z c:Operand) (op:Op) (g:Option (Nat×Bool))
theorem VOps_nil:VOps P T ops [] s K=K s:=rfl
theorem VOps_cons:VOps P T ops (⟨d,op,ty,pos,af,none⟩::l) s K=VOp P T ⟨d,op,ty,pos,af,none⟩ s (fun s'=>VOps P T ops l s' K):=rfl
theorem VHead_nil:VHead P T ops [] s K=K s:=rfl
theorem VHead_cons:VHead P T ops (⟨d,op,ty,pos,af,none⟩::l) s K=VVal P T ⟨d,op,ty,pos,af,none⟩ s (pk s d fun s'=>VHead P T ops l s' K):=rfl
def gSlot (ops:Array Oper) (j:Nat):Option Tmp:=(ops[j]?).bind (·.dst)
def gOf:Option A→Option (Option Bool)|some (.v (.one (.bool b)))=>some (some b)|some (.tup [])=>some none|_=>none
def guardB (ops:Array Oper) (s:St) (j:Nat):Option (Option Bool):=match gSlot ops j with|some t=>gOf (look s.env t)|none=>none
theorem int_bne (x y:Int):(x != y)=!(x==y):=rfl
def GOn (P:Program) (T:TypeId→Option TI) (ops:Array Oper) (want:Bool) (d:Option Tmp) (op:Op) (ty:TypeId) (pos:String) (af:Array Edge) (l:List Oper) (s:St) (K:St→Prop) (b:Option Bool):Prop :=
 match (match b with|some b=>b==want|none=>false) with
 | true=>VOps P T ops (⟨d,op,ty,pos,af,none⟩::l) s K
 | false=>pk s d (fun s'=>VOps P T ops l s' K) (.tup [])
theorem GOn_tt:GOn P T ops true d op ty pos af l s K (some true)=VOps P T ops (⟨d,op,ty,pos,af,none⟩::l) s K:=rfl
theorem GOn_ff:GOn P T ops false d op ty pos af l s K (some false)=VOps P T ops (⟨d,op,ty,pos,af,none⟩::l) s K:=rfl
theorem GOn_tf:GOn P T ops true d op ty pos af l s K (some false)=pk s d (fun s'=>VOps P T ops l s' K) (.tup []):=rfl
theorem GOn_ft:GOn P T ops false d op ty pos af l s K (some true)=pk s d (fun s'=>VOps P T ops l s' K) (.tup []):=rfl
theorem GOn_none (want:Bool):GOn P T ops want d op ty pos af l s K none=pk s d (fun s'=>VOps P T ops l s' K) (.tup []):=rfl
theorem GOn_not (want b:Bool):GOn P T ops want d op ty pos af l s K (some (!b))=GOn P T ops (!want) d op ty pos af l s K (some b):=by cases b<;>cases want<;>rfl
theorem qS {P:Program} {T:TypeId→Option TI} {ops:Array Oper} {want:Bool} {d:Option Tmp} {op:Op} {ty:TypeId} {pos:String} {af:Array Edge} {l:List Oper} {s:St} {K:St→Prop} {b:Bool} (h1:b=true→GOn P T ops want d op ty pos af l s K (some true)) (h2:b=false→GOn P T ops want d op ty pos af l s K (some false)):GOn P T ops want d op ty pos af l s K (some b):=by cases b;exact h2 rfl;exact h1 rfl
theorem VOps_guard (j:Nat) (want:Bool):VOps P T ops (⟨d,op,ty,pos,af,some (j,want)⟩::l) s K =
  mT (guardB ops s j) (GOn P T ops want d op ty pos af l s K):=by
 have:guardOf ops s ⟨d,op,ty,pos,af,some (j,want)⟩=(guardB ops s j).map (fun b=>match b with|some b=>b==want|none=>false):=by
  simp only [guardOf,guardB,gSlot]
  cases hb:(ops[j]?).bind (·.dst) with
  | none=>rfl
  | some t =>
   simp only
   cases look s.env t with
   | none=>rfl
   | some a=>cases a with
    | v y=>cases y with
     | one l=>cases l<;>rfl
     | _=>rfl
    | tup xs=>cases xs<;>rfl
 show (match guardOf ops s ⟨d,op,ty,pos,af,some (j,want)⟩ with
  | some true=>VOp P T ⟨d,op,ty,pos,af,some (j,want)⟩ s fun s'=>VOps P T ops l s' K|some false=>pk s d (fun s'=>VOps P T ops l s' K) (.tup [])|none=>False)=_
 rw [this]
 cases guardB ops s j with
 | none=>rfl
 | some b=>simp only [Option.map_some,mT_some,GOn];cases (match b with|some b=>b==want|none=>false)<;>rfl
def HOn (P:Program) (T:TypeId→Option TI) (ops:Array Oper) (want:Bool) (d:Option Tmp) (op:Op) (ty:TypeId) (pos:String) (af:Array Edge) (l:List Oper) (s:St) (K:St→Prop) (b:Option Bool):Prop :=
 match (match b with|some b=>b==want|none=>false) with
 | true=>VHead P T ops (⟨d,op,ty,pos,af,none⟩::l) s K
 | false=>pk s d (fun s'=>VHead P T ops l s' K) (.tup [])
theorem HOn_tt:HOn P T ops true d op ty pos af l s K (some true)=VHead P T ops (⟨d,op,ty,pos,af,none⟩::l) s K:=rfl
theorem HOn_ff:HOn P T ops false d op ty pos af l s K (some false)=VHead P T ops (⟨d,op,ty,pos,af,none⟩::l) s K:=rfl
theorem HOn_tf:HOn P T ops true d op ty pos af l s K (some false)=pk s d (fun s'=>VHead P T ops l s' K) (.tup []):=rfl
theorem HOn_ft:HOn P T ops false d op ty pos af l s K (some true)=pk s d (fun s'=>VHead P T ops l s' K) (.tup []):=rfl
theorem HOn_none (want:Bool):HOn P T ops want d op ty pos af l s K none=pk s d (fun s'=>VHead P T ops l s' K) (.tup []):=rfl
theorem HOn_not (want b:Bool):HOn P T ops want d op ty pos af l s K (some (!b))=HOn P T ops (!want) d op ty pos af l s K (some b):=by cases b<;>cases want<;>rfl
theorem qT {P:Program} {T:TypeId→Option TI} {ops:Array Oper} {want:Bool} {d:Option Tmp} {op:Op} {ty:TypeId} {pos:String} {af:Array Edge} {l:List Oper} {s:St} {K:St→Prop} {b:Bool} (h1:b=true→HOn P T ops want d op ty pos af l s K (some true)) (h2:b=false→HOn P T ops want d op ty pos af l s K (some false)):HOn P T ops want d op ty pos af l s K (some b):=by cases b;exact h2 rfl;exact h1 rfl
theorem VHead_guard (j:Nat) (want:Bool):VHead P T ops (⟨d,op,ty,pos,af,some (j,want)⟩::l) s K =
  mT (guardB ops s j) (HOn P T ops want d op ty pos af l s K):=by
 have:guardOf ops s ⟨d,op,ty,pos,af,some (j,want)⟩=(guardB ops s j).map (fun b=>match b with|some b=>b==want|none=>false):=by
  simp only [guardOf,guardB,gSlot]
  cases hb:(ops[j]?).bind (·.dst) with
  | none=>rfl
  | some t =>
   simp only
   cases look s.env t with
   | none=>rfl
   | some a=>cases a with
    | v y=>cases y with
     | one l=>cases l<;>rfl
     | _=>rfl
    | tup xs=>cases xs<;>rfl
 show (match guardOf ops s ⟨d,op,ty,pos,af,some (j,want)⟩ with
  | some true=>VVal P T ⟨d,op,ty,pos,af,some (j,want)⟩ s (pk s d fun s'=>VHead P T ops l s' K)|some false=>pk s d (fun s'=>VHead P T ops l s' K) (.tup [])|none=>False)=_
 rw [this]
 cases guardB ops s j with
 | none=>rfl
 | some b=>simp only [Option.map_some,mT_some,HOn];cases (match b with|some b=>b==want|none=>false)<;>rfl
def CallJ (P:Program) (T:TypeId→Option TI) (ops:Array Oper) (d:Option Tmp) (l:List Oper) (s:St) (K:St→Prop) (p:FuncId×List V):Prop:=CallG P p.1 p.2 s d fun s'=>VOps P T ops l s' K
def CallH (P:Program) (T:TypeId→Option TI) (ops:Array Oper) (d:Option Tmp) (l:List Oper) (s:St) (K:St→Prop) (p:FuncId×List V):Prop:=CallK P s p.1 p.2 (pk s d fun s'=>VHead P T ops l s' K)
theorem VOp_callJ (f:Operand) (args:Array Operand) (tys:Array TypeId):VOp P T ⟨d,.call ⟨.value f,args,tys⟩,ty,pos,af,none⟩ s (fun s'=>VOps P T ops l s' K)=mT (callOf T s ⟨.value f,args,tys⟩) (CallJ P T ops d l s K):=rfl
theorem VVal_callH (f:Operand) (args:Array Operand) (tys:Array TypeId):VVal P T ⟨d,.call ⟨.value f,args,tys⟩,ty,pos,af,none⟩ s (pk s d fun s'=>VHead P T ops l s' K)=mT (callOf T s ⟨.value f,args,tys⟩) (CallH P T ops d l s K):=rfl
theorem CallJ.pure {P:Program} {T:TypeId→Option TI} {ops:Array Oper} {d:Option Tmp} {l:List Oper} {s:St} {K:St→Prop} {f:FuncId} {xs:List V} {r:A} (h:Sat P f xs r) (hk:s.okD d∧VOps P T ops l (s.putO d (r.map L.clos)) K):CallJ P T ops d l s K (f,xs):=CallG.pure h hk
theorem CallJ.lent {P:Program} {T:TypeId→Option TI} {ops:Array Oper} {d:Option Tmp} {l:List Oper} {s:St} {K:St→Prop} {f:FuncId} {xs ys:List V} {r:A} (h:Sat P f ys r) (hy:(xs.map fun x=>x.map (frzV 4 s))=ys) (hk:s.okD d∧VOps P T ops l (s.putO d (r.map L.flat)) K):CallJ P T ops d l s K (f,xs):=CallG.lent h hy hk
theorem CallJ.lentI {P:Program} {T:TypeId→Option TI} {ops:Array Oper} {d:Option Tmp} {l:List Oper} {s:St} {K:St→Prop} {f:FuncId} {xs ys:List V} {r:A} (hy:(xs.map fun x=>x.map (frzV 4 s))=ys) (h:Sat P f ys r) (hk:s.okD d∧VOps P T ops l (s.putO d (r.map L.flat)) K):CallJ P T ops d l s K (f,xs):=CallG.lent h hy hk
theorem CallJ.is {P:Program} {T:TypeId→Option TI} {ops:Array Oper} {d:Option Tmp} {l:List Oper} {s:St} {K:St→Prop} {p:FuncId×List V} (h:CallJ P T ops d l s K p):CallJ P T ops d l s K p:=h
theorem CallH.is {P:Program} {T:TypeId→Option TI} {ops:Array Oper} {d:Option Tmp} {l:List Oper} {s:St} {K:St→Prop} {p:FuncId×List V} (h:CallH P T ops d l s K p):CallH P T ops d l s K p:=h
theorem CallH.intro {P:Program} {T:TypeId→Option TI} {ops:Array Oper} {d:Option Tmp} {l:List Oper} {s:St} {K:St→Prop} {f:FuncId} {xs:List V} {r:A} (h:Sat P f xs r) (hk:pk s d (fun s'=>VHead P T ops l s' K) (r.map L.clos)):CallH P T ops d l s K (f,xs):=⟨r,.inl ⟨h,hk⟩⟩
theorem CallH.lent {P:Program} {T:TypeId→Option TI} {ops:Array Oper} {d:Option Tmp} {l:List Oper} {s:St} {K:St→Prop} {f:FuncId} {xs ys:List V} {r:A} (h:Sat P f ys r) (hy:(xs.map fun x=>x.map (frzV 4 ⟨0,[],[],s.row⟩))=ys) (hk:pk s d (fun s'=>VHead P T ops l s' K) (r.map L.flat)):CallH P T ops d l s K (f,xs):=⟨r,.inr ⟨hy▸h,hk⟩⟩
theorem VVal_move:VVal P T ⟨d,.move x,ty,pos,af,g⟩ s KA=mT (evalO T s ty x) KA:=rfl
theorem VVal_assign:VVal P T ⟨d,.assign x,ty,pos,af,g⟩ s KA=mT (evalO T s ty x) KA:=rfl
def pickK (T:TypeId→Option TI) (s:St) (ty:TypeId) (x y:Operand) (KA:A→Prop) [MTag KA] (b:Bool):Prop:=mO (evalO T s ty (if b then x else y)) KA
theorem pickK_true:pickK T s ty x y KA true=mT (evalO T s ty x) KA:=rfl
theorem pickK_false:pickK T s ty x y KA false=mT (evalO T s ty y) KA:=rfl
theorem qU {T:TypeId→Option TI} {s:St} {ty:TypeId} {x y:Operand} {KA:A→Prop} {b:Bool} (h1:b=true→pickK T s ty x y KA true) (h2:b=false→pickK T s ty x y KA false):pickK T s ty x y KA b:=by cases b;exact h2 rfl;exact h1 rfl
theorem VVal_pickE:VVal P T ⟨d,.pick c x y,ty,pos,af,g⟩ s KA=mT (boolOf (evalO T s 0 c)) (pickK T s ty x y KA):=rfl
theorem negK_int (KA:A→Prop) (k:IntKind) (n:Int):negK KA (.int k n)=KA (.v (.one (.int k (k.wrap (0 - n))))):=rfl
theorem VVal_neg:VVal P T ⟨d,.unOp .neg t x,ty,pos,af,g⟩ s KA=mT (oneOf (evalO T s 0 x)) (negK KA):=rfl
theorem VVal_not:VVal P T ⟨d,.unOp .not t x,ty,pos,af,g⟩ s KA=mT (boolOf (evalO T s 0 x)) fun b=>KA (.v (.one (.bool !b))):=rfl
theorem VVal_load:VVal P T ⟨d,.load t x,ty,pos,af,g⟩ s KA=mT (T t) fun i=>mT (oneOf (evalO T s 0 x)) (loadK s i KA):=rfl
theorem loadK_fz (i:TI) (ls:List L):loadK s i KA (.fz ls)=mT (loadV i ls) fun z=>KA (.v z):=rfl
theorem loadK_ptr (i:TI) (id o:Nat):loadK s i KA (.ptr id o)=mT (look s.box id) fun ls=>mT (loadV i ((ls.drop o).map L.peek)) fun z=>KA (.v z):=rfl
theorem loadK_eptr (i:TI) (id k o:Nat):loadK s i KA (.eptr id k o)=mT (look s.row id) fun r=>k<r.xs.length∧mT (loadV i ((overlay r.ov k 0 (r.xs.getD k [])).drop o)) fun z=>KA (.v z):=rfl
theorem VVal_fieldAddr (f:Nat):VVal P T ⟨d,.fieldAddr t x f,ty,pos,af,g⟩ s KA=mT (T t) fun i=>mT (oneOf (evalO T s 0 x)) fun y=>mT (fieldOff i f) fun off=>mT (moveL off y) fun z=>KA (.v (.one z)):=rfl
theorem VVal_field (f:Nat):VVal P T ⟨d,.field t x f,ty,pos,af,g⟩ s KA=mT (T t) fun i=>mT i.fields fun l=>mT l[f]? fun p=>mT (T p.2) fun j=>mT (aggOf (evalO T s 0 x)) fun ls=>p.1+j.size≤ls.length∧mT (asV j.agg ((ls.drop p.1).take j.size)) fun z=>KA (.v z):=rfl
theorem VVal_indexAddr:VVal P T ⟨d,.indexAddr t x y,ty,pos,af,g⟩ s KA=mT (elemTI T t) fun j=>mT (intOfA (evalO T s 0 y)) fun n=>mT (oneOf (evalO T s 0 x)) (idxK s j n KA):=rfl
theorem idxK_sl (j:TI) (n:Int) (sz:Nat) (xs:List (List L)):idxK s j n KA (.sl sz xs)=((0≤n∧n<xs.length)∧j.size=sz∧KA (.v (.one (.fz (xs.getD n.toNat []))))):=rfl
theorem idxK_ref (j:TI) (n:Int) (id lo q:Nat):idxK s j n KA (.ref id lo q)=mT (look s.row id) fun r=>(0≤n∧n<q)∧j.size=r.sz∧KA (.v (.one (.eptr id (lo+n.toNat) 0))):=rfl
theorem VVal_index:VVal P T ⟨d,.index t x y,ty,pos,af,g⟩ s KA=mT (T t) fun i=>mT (oneOf (evalO T s 0 x)) (indexK T s i y KA):=rfl
theorem indexK_str (i:TI) (q:ByteArray):indexK T s i y KA (.str q)=mT (intOfA (evalO T s 0 y)) fun n=>(0≤n∧n<q.size)∧i.isStr=true∧KA (.v (.one (.int .u8 ((q.data.toList.getD n.toNat 0).toNat:Nat)))):=rfl
theorem VVal_extract (k:Nat):VVal P T ⟨d,.extract x k,ty,pos,af,g⟩ s KA=mT (tupOf (evalO T s 0 x)) fun xs=>mT xs[k]? fun y=>KA (.v y):=rfl
theorem VVal_binOp (bo:BinOp):VVal P T ⟨d,.binOp bo t x y t',ty,pos,af,g⟩ s KA=mT (vOf (evalO T s t x)) fun v1=>mT (vOf (evalO T s t y)) (binK P bo t KA v1):=rfl
theorem binK_one (bo:BinOp) (l1 l2:L):binK P bo t KA (.one l1) (.one l2)=mT (binL P t bo l1 l2) fun p=>p.1∧KA (.v (.one p.2)):=rfl
theorem binK_agg (bo:BinOp) (xs ys:List L):binK P bo t KA (.agg xs) (.agg ys)=mT (eqK P t) fun ks=>(xs.map L.kd=ks∧ys.map L.kd=ks)∧mT (eqCells xs ys) fun b=>mT (eqOp bo b) fun b'=>KA (.v (.one (.bool b'))):=rfl
theorem VVal_build (parts:Array (Nat×Operand)):VVal P T ⟨d,.build t parts,ty,pos,af,g⟩ s KA=mT (T t) fun i=>mT i.fields fun l=>mT i.zero fun z=>mT (placesOf T l) fun pl=>mT (fillL T s 0 (fun k=>pl[k]?) z parts.toList) fun ls=>KA (.v (.agg ls)):=rfl
theorem VVal_buildSlice (len:Nat) (parts:Array (Nat×Operand)):VVal P T ⟨d,.buildSlice t len parts,ty,pos,af,g⟩ s KA=mT (elemTI T t) fun j=>mT j.zero fun z=>(z.length=j.size∧0<j.size∧len * j.size≤16777216) ∧
   mT (fillL T s 0 (fun k=>some (k * j.size,j.size)) (repL z len) parts.toList) fun ls=>ls.all L.isFz=true∧KA (.v (.one (.sl j.size (chunks j.size len (ls.map L.clos))))):=rfl
theorem VVal_makeFunc (f:FuncId) (caps:Array Operand):VVal P T ⟨d,.makeFunc (.func f) #[] caps,ty,pos,af,g⟩ s KA=mT (capsOf s T 0 caps.toList) fun cs=>KA (.v (.one (.clo f cs))):=by
 show (#[]=#[]∧_)=_
 simp only [true_and]
 rfl
theorem VVal_slice (lo hi:Option Operand):VVal P T ⟨d,.slice t x lo hi none,ty,pos,af,g⟩ s KA=mT (oneOf (evalO T s t x)) (sliceK T s t lo hi KA):=rfl
theorem sliceK_str (lo hi:Option Operand) (q:ByteArray):sliceK T s t lo hi KA (.str q)=mT (T t) fun i=>mT (boundN T s t 0 lo) fun l=>mT (boundN T s t q.size hi) fun h=>(0≤l∧l≤h∧h≤q.size)∧i.isStr=true∧KA (.v (.one (.str (q.extract l.toNat h.toNat)))):=rfl
theorem sliceK_sl (lo hi:Option Operand) (sz:Nat) (xs:List (List L)):sliceK T s t lo hi KA (.sl sz xs)=mT (elemTI T t) fun j=>mT (boundN T s t 0 lo) fun l=>mT (boundN T s t xs.length hi) fun h=>(0≤l∧l≤h∧h≤xs.length)∧j.size=sz∧KA (.v (.one (.sl sz ((xs.take h.toNat).drop l.toNat)))):=rfl
theorem sliceK_nil (lo hi:Option Operand) (sz:Nat):sliceK T s t lo hi KA (.nil sz)=mT (elemTI T t) fun j=>mT (boundN T s t 0 lo) fun l=>mT (boundN T s t 0 hi) fun h=>(0≤l∧l≤h∧h≤0)∧j.size=sz∧KA (.v (.one (.nil sz))):=rfl
theorem sliceK_ref (lo hi:Option Operand) (id b q:Nat):sliceK T s t lo hi KA (.ref id b q)=mT (elemTI T t) fun j=>mT (look s.row id) fun r=>mT (boundN T s t 0 lo) fun l=>mT (boundN T s t q hi) fun h=>(0≤l∧l≤h∧(h≤q∨(h≤r.xs.length - b∧b≤r.xs.length)))∧j.size=r.sz∧KA (.v (.one (.ref id (b+l.toNat) (h.toNat - l.toNat)))):=rfl
theorem VVal_slice3 (lo hi:Option Operand) (z:Operand):VVal P T ⟨d,.slice t x lo hi (some z),ty,pos,af,g⟩ s KA=mT (elemTI T t) fun _=>mT (oneOf (evalO T s t x)) fun v1=>mT (nL v1) fun n=>mT (boundN T s t 0 lo) fun l=>mT (boundN T s t n hi) fun h=>mT (boundN T s t 0 (some z)) fun mx=>(0≤l∧l≤h∧h≤mx∧mx≤n)∧hi.isSome=true∧KA (.v (.one .any)):=rfl
theorem VVal_nilCheck:VVal P T ⟨d,.nilCheck x,ty,pos,af,g⟩ s KA=mT (oneOf (evalO T s 0 x)) fun y=>isPtrLike y=true∧KA (.v (.one y)):=rfl
theorem VVal_convert:VVal P T ⟨d,.convert t t' x,ty,pos,af,g⟩ s KA=mT (oneOf (evalO T s 0 x)) (convKk P T t t' KA):=rfl
theorem convKk_int (k:IntKind) (q:Int):convKk P T t t' KA (.int k q)=((P.underlying t).isSome=true∧mT (convK P t') fun k'=>KA (.v (.one (.int k' (k'.wrap q))))):=rfl
theorem convKk_str (q:ByteArray):convKk P T t t' KA (.str q)=mT (T t) fun i=>mT (T t') fun i'=>mT i'.elem fun e=>(i.isStr=true∧convK P e=some .u8)∧KA (.v (.one (.sl 1 (chunks 1 q.size (q.data.toList.map fun b=>L.int .u8 b.toNat))))):=rfl
theorem VVal_len:VVal P T ⟨d,.call ⟨.builtin .len,#[x],#[t]⟩,ty,pos,af,g⟩ s KA=mT (T t) fun i=>mT (oneOf (evalO T s t x)) fun l=>mT (lenL l) fun n=>lenKind i l=true∧KA (.v (.one (.int .i64 n))):=rfl
theorem VVal_max (tys:Array TypeId):VVal P T ⟨d,.call ⟨.builtin .max,#[x,y],tys⟩,ty,pos,af,g⟩ s KA=mT (oneOf (evalO T s 0 x)) fun l1=>mT (oneOf (evalO T s 0 y)) fun l2=>mT (maxL l1 l2) fun l=>KA (.v (.one l)):=rfl
theorem VVal_min (tys:Array TypeId):VVal P T ⟨d,.call ⟨.builtin .min,#[x,y],tys⟩,ty,pos,af,g⟩ s KA=mT (oneOf (evalO T s 0 x)) fun l1=>mT (oneOf (evalO T s 0 y)) fun l2=>mT (minL l1 l2) fun l=>KA (.v (.one l)):=rfl
theorem VOp_assign:VOp P T ⟨d,.assign x,ty,pos,af,g⟩ s K=assignK s d K (evalO T s ty x):=rfl
theorem assignK_int (k:IntKind) (q:Int):assignK s (some n) K (some (.v (.one (.int k q))))=(n<s.n∧K (s.put n (.v (.one (.int k q))))):=rfl
theorem assignK_bool (b:Bool):assignK s (some n) K (some (.v (.one (.bool b))))=(n<s.n∧K (s.put n (.v (.one (.bool b))))):=rfl
theorem assignK_str (b:ByteArray):assignK s (some n) K (some (.v (.one (.str b))))=(n<s.n∧K (s.put n (.v (.one (.str b))))):=rfl
theorem assignK_clo (f:FuncId) (cs:List L):assignK s (some n) K (some (.v (.one (.clo f cs))))=(n<s.n∧K (s.put n (.v (.one (.clo f cs))))):=rfl
theorem assignK_sl (sz:Nat) (xs:List (List L)):assignK s (some n) K (some (.v (.one (.sl sz xs))))=(n<s.n∧K (s.put n (.v (.one (.sl sz xs))))):=rfl
theorem assignK_nil (z:Nat):assignK s (some n) K (some (.v (.one (.nil z))))=(n<s.n∧K (s.nilRow n z)):=rfl
theorem assignK_ref (id lo q:Nat):assignK s (some n) K (some (.v (.one (.ref id lo q))))=mT (look s.row id) fun r=>n<s.n∧K (s.takeRow id n lo q r):=rfl
theorem assignK_agg (ls:List L):assignK s (some n) K (some (.v (.agg ls)))=(n<s.n∧K (s.put n (.v (.agg ls)))):=rfl
theorem assignK_fz (ls:List L):assignK s (some n) K (some (.v (.one (.fz ls))))=(n<s.n∧K (s.put n (.v (.one (.fz ls))))):=rfl
theorem assignK_ptr (i o:Nat):assignK s (some n) K (some (.v (.one (.ptr i o))))=(n<s.n∧K (s.put n (.v (.one (.ptr i o))))):=rfl
theorem assignK_eptr (i k o:Nat):assignK s (some n) K (some (.v (.one (.eptr i k o))))=(n<s.n∧K (s.put n (.v (.one (.eptr i k o))))):=rfl
theorem assignK_any:assignK s (some n) K (some (.v (.one .any)))=(n<s.n∧K (s.put n (.v (.one .any)))):=rfl
theorem nilRow_eq (z:Nat):s.nilRow n z=(s.newRow0 none n ⟨z,[],[]⟩).put n (.v (.one (.ref n 0 0))):=rfl
theorem takeRow_eq (id lo q:Nat) (r:RowC):s.takeRow id n lo q r=(s.newRow0 (some id) n r).put n (.v (.one (.ref n lo q))):=rfl
theorem appended_eq (src:Option Nat) (sz:Nat) (xs:List (List L)) (ov:List (Nat×Nat×L)):s.appended src n sz xs ov=(s.newRow0 src n ⟨sz,xs,ov⟩).put n (.v (.one (.ref n 0 xs.length))):=rfl
theorem VOp_box (e:TypeId):VOp P T ⟨some n,.box e x,ty,pos,af,g⟩ s K=mT (partCells T s 0 x) fun ls=>n<s.n∧K (s.newBox n ls):=rfl
theorem VOp_alloc (e:TypeId):VOp P T ⟨some n,.alloc e,ty,pos,af,g⟩ s K=mT (T e) fun i=>mT i.zero fun ls=>n<s.n∧K (s.newBox n ls):=rfl
theorem VOp_store:VOp P T ⟨none,.store t x y,ty,pos,af,g⟩ s K=mT (T t) fun i=>mT (partCells T s t y) fun vs=>mT (oneOf (evalO T s 0 x)) (storeK s i vs K):=by
 show (none=none∧_)=_
 simp only [true_and]
 rfl
theorem storeK_ptr (i:TI) (vs:List L) (id o:Nat):storeK s i vs K (.ptr id o)=mT (look s.box id) fun ls=>(vs.length=i.size∧o+vs.length≤ls.length)∧K {s with box:=sput id (setL o vs ls) s.box}:=rfl
theorem storeK_eptr (i:TI) (vs:List L) (id k o:Nat):storeK s i vs K (.eptr id k o)=mT (look s.row id) fun r=>(vs.length=i.size∧k<r.xs.length∧o+vs.length≤r.sz)∧K {s with row:=sput id (r.store k o vs) s.row}:=rfl
theorem store_mk (sz:Nat) (xs:List (List L)) (ov:List (Nat×Nat×L)) (i o:Nat) (vs:List L):RowC.store ⟨sz,xs,ov⟩ i o vs=⟨sz,xs.set i (setL o (vs.map L.clos) (xs.getD i [])),ovAdd i o vs (ovDel i o vs.length ov)⟩:=rfl
theorem VOp_buildSlice (len:Nat) (parts:Array (Nat×Operand)):VOp P T ⟨some n,.buildSlice t len parts,ty,pos,af,g⟩ s K=mT (elemTI T t) fun j=>mT j.zero fun z=>(z.length=j.size∧0<j.size∧len * j.size≤16777216) ∧
   mT (fillL T s 0 (fun k=>some (k * j.size,j.size)) (repL z len) parts.toList) fun ls=>n<s.n∧K ((s.newRow0 none n (rowOf j.size len ls)).put n (.v (.one (.ref n 0 len)))):=rfl
theorem VOp_append:VOp P T ⟨some n,.call ⟨.builtin .append,#[x,y],#[t,t']⟩,ty,pos,af,g⟩ s K=mT (elemTI T t) fun j=>mT j.zero fun z=>mT (oneOf (evalO T s t x)) fun l1=>mT (oneOf (evalO T s t y)) fun l2=>appK P s t t' j z n K l1 l2:=rfl
theorem appK_rr (j:TI) (z:List L) (id lo q id' lo' q':Nat):appK P s t t' j z n K (.ref id lo q) (.ref id' lo' q')=(t=t'∧(if id=id' then appIn s j n K id lo q lo' q' else appStd s j z n K (.ref id lo q) (.ref id' lo' q'))):=rfl
theorem appK_rs (j:TI) (z:List L) (id lo q sz:Nat) (xs:List (List L)):appK P s t t' j z n K (.ref id lo q) (.sl sz xs)=(t=t'∧appStd s j z n K (.ref id lo q) (.sl sz xs)):=rfl
theorem appK_rn (j:TI) (z:List L) (id lo q sz:Nat):appK P s t t' j z n K (.ref id lo q) (.nil sz)=(t=t'∧appStd s j z n K (.ref id lo q) (.nil sz)):=rfl
theorem appK_ri (j:TI) (z:List L) (id lo q:Nat) (k:IntKind) (i:Int):appK P s t t' j z n K (.ref id lo q) (.int k i)=((convK P t').isSome=true∧appMk s j z n K id lo q i):=rfl
theorem appK_nr (j:TI) (z:List L) (sz id lo q:Nat):appK P s t t' j z n K (.nil sz) (.ref id lo q)=(t=t'∧appStd s j z n K (.nil sz) (.ref id lo q)):=rfl
theorem appK_ns (j:TI) (z:List L) (sz sz':Nat) (xs:List (List L)):appK P s t t' j z n K (.nil sz) (.sl sz' xs)=(t=t'∧appStd s j z n K (.nil sz) (.sl sz' xs)):=rfl
theorem appK_nn (j:TI) (z:List L) (sz sz':Nat):appK P s t t' j z n K (.nil sz) (.nil sz')=(t=t'∧appStd s j z n K (.nil sz) (.nil sz')):=rfl
theorem appK_ni (j:TI) (z:List L) (sz:Nat) (k:IntKind) (i:Int):appK P s t t' j z n K (.nil sz) (.int k i)=((convK P t').isSome=true∧(z.length=j.size∧0<j.size∧0<i∧i.toNat * j.bytes≤140737488355328∧i.toNat≤9223372036854775807)∧n<s.n∧K (s.appended none n j.size (List.replicate i.toNat (z.map L.clos)) [])):=rfl
theorem appStd_eq (j:TI) (z:List L) (l1 l2:L):appStd s j z n K l1 l2=mT (dstOf s j l1) fun p=>mT (ysOf s j l2) fun q =>
      (p.2.2.2∧q.2.2.2)∧(j.size=p.2.1∧j.size=q.1∧z.length=j.size)∧((p.2.2.1.length+q.2.1.length) * j.bytes≤140737488355328∧p.2.2.1.length+q.2.1.length≤9223372036854775807)∧n<s.n∧K (s.appended p.1 n p.2.1 (p.2.2.1++q.2.1) (ovShift p.2.2.1.length q.2.2.1)):=rfl
theorem appIn_eq (j:TI) (id lo q lo' q':Nat):appIn s j n K id lo q lo' q'=mT (look s.row id) fun r=>(lo=0∧r.ov=[]∧q+q'≤r.xs.length∧lo'+q'≤r.xs.length∧noOwn r.xs∧j.size=r.sz)∧n<s.n ∧
 K (St.put {s with row:=sput id ⟨r.sz,r.xs.take q++(r.xs.drop lo').take q'++r.xs.drop (q+q'),[]⟩ s.row} n (.v (.one (.ref id 0 (q+q'))))):=rfl
theorem appMk_eq (j:TI) (z:List L) (id lo q:Nat) (k:Int):appMk s j z n K id lo q k=mT (look s.row id) fun r=>(lo=0∧marked r∧q≤r.xs.length∧noOwn (r.xs.take q)∧j.size=r.sz∧z.length=r.sz∧0<r.sz)∧(0<k∧(r.xs.length:Int)<q+k∧(q+k.toNat) * j.bytes≤140737488355328∧q+k.toNat≤9223372036854775807)∧n<s.n ∧
 K (s.appended none n r.sz (r.xs.take q++List.replicate k.toNat (z.map L.clos)) []):=rfl
theorem marked_eq (sz:Nat) (xs:List (List L)) (c:Nat) (l:L):marked ⟨sz,xs,[(c,0,l)]⟩=(c=xs.length):=rfl
theorem ovOut_nil (q:Nat):ovOut [] q=True:=rfl
theorem ovOut_cons (p q:Nat) (e:Nat×L) (r:List (Nat×Nat×L)):ovOut ((p,e)::r) q=(q≤p∧ovOut r q):=rfl
theorem ovIn_nil (q:Nat):ovIn [] q=True:=rfl
theorem ovIn_cons (p q:Nat) (e:Nat×L) (r:List (Nat×Nat×L)):ovIn ((p,e)::r) q=(p<q∧ovIn r q):=rfl
theorem padRow_eq (sz:Nat) (xs:List (List L)) (p:Nat):padRow ⟨sz,xs,[]⟩ p=⟨sz,xs++List.replicate p (List.replicate sz .any),[(xs.length+p,0,.any)]⟩:=rfl
theorem VOp_copy:VOp P T ⟨d,.call ⟨.builtin .copy,#[x,y],#[t,t']⟩,ty,pos,af,g⟩ s K=mT (elemTI T t) fun j=>mT (oneOf (evalO T s t x)) fun l1=>mT (oneOf (evalO T s t y)) fun l2=>copyK s j d K l1 l2:=rfl
theorem copyK_ref (j:TI) (id lo q:Nat) (l2:L):copyK s j d K (.ref id lo q) l2=mT (look s.row id) fun r=>mT (ysC s j l2) fun p=>(ovOut r.ov r.xs.length∧lo+q≤r.xs.length∧j.size=r.sz∧p.1=r.sz∧p.2.2)∧s.okD d ∧
   K (St.putO {s with row:=sput id ⟨r.sz,r.xs.take lo++p.2.1.take (min p.2.1.length q)++r.xs.drop (lo+min p.2.1.length q),r.ov⟩ s.row} d (.v (.one (.int .i64 ((min p.2.1.length q:Nat):Int))))):=rfl
theorem VOp_clear:VOp P T ⟨d,.call ⟨.builtin .clear,#[x],#[t]⟩,ty,pos,af,g⟩ s K=mT (elemTI T t) fun j=>mT j.zero fun z=>mT (oneOf (evalO T s t x)) fun l1=>clearK s j z d K l1:=rfl
theorem clearK_ref (j:TI) (z:List L) (id lo q:Nat):clearK s j z d K (.ref id lo q)=mT (look s.row id) fun r=>(ovOut r.ov r.xs.length∧lo+q≤r.xs.length∧j.size=r.sz∧z.length=r.sz)∧s.okD d ∧
   K (St.putO {s with row:=sput id ⟨r.sz,r.xs.take lo++List.replicate q (z.map L.clos)++r.xs.drop (lo+q),r.ov⟩ s.row} d (.tup [])):=rfl
theorem VOp_cap:VOp P T ⟨some n,.call ⟨.builtin .cap,#[x],#[t]⟩,ty,pos,af,g⟩ s K=mT (elemTI T t) fun _=>mT (oneOf (evalO T s t x)) fun l1=>capK s n K l1:=rfl
theorem capK_nil (sz:Nat):capK s n K (.nil sz)=(n<s.n∧K (s.put n (.v (.one (.int .i64 0))))):=rfl
theorem capK_ref (id lo q:Nat):capK s n K (.ref id lo q)=mT (look s.row id) fun r=>(lo=0∧r.ov=[])∧n<s.n∧∀p:Nat,r.xs.length+p≤9223372036854775807→K (St.put {s with row:=sput id (padRow r p) s.row} n (.v (.one (.int .i64 ((r.xs.length+p:Nat):Int))))):=rfl
theorem VOp_eqNil:VOp P T ⟨d,.binOp .eql t x (.const (.slice none 0 0)) t',ty,pos,af,g⟩ s K=mT (oneOf (evalO T s t x)) fun l=>isSlice l=true∧mT (T t) fun i=>i.elem.isSome=true∧∀b,(∀n,nL l=some n→0<n→b=false)→pk s d K (.v (.one (.bool b))):=rfl
theorem VOp_move:VOp P T ⟨d,.move x,ty,pos,af,g⟩ s K=mT (evalO T s ty x) (pk s d K):=rfl
theorem VOp_pick:VOp P T ⟨d,.pick c x y,ty,pos,af,g⟩ s K=VVal P T ⟨d,.pick c x y,ty,pos,af,g⟩ s (pk s d K):=rfl
theorem VOp_neg:VOp P T ⟨d,.unOp .neg t x,ty,pos,af,g⟩ s K=VVal P T ⟨d,.unOp .neg t x,ty,pos,af,g⟩ s (pk s d K):=rfl
theorem VOp_not:VOp P T ⟨d,.unOp .not t x,ty,pos,af,g⟩ s K=VVal P T ⟨d,.unOp .not t x,ty,pos,af,g⟩ s (pk s d K):=rfl
theorem VOp_load:VOp P T ⟨d,.load t x,ty,pos,af,g⟩ s K=VVal P T ⟨d,.load t x,ty,pos,af,g⟩ s (pk s d K):=rfl
theorem VOp_fieldAddr (f:Nat):VOp P T ⟨d,.fieldAddr t x f,ty,pos,af,g⟩ s K=VVal P T ⟨d,.fieldAddr t x f,ty,pos,af,g⟩ s (pk s d K):=rfl
theorem VOp_field (f:Nat):VOp P T ⟨d,.field t x f,ty,pos,af,g⟩ s K=VVal P T ⟨d,.field t x f,ty,pos,af,g⟩ s (pk s d K):=rfl
theorem VOp_indexAddr:VOp P T ⟨d,.indexAddr t x y,ty,pos,af,g⟩ s K=VVal P T ⟨d,.indexAddr t x y,ty,pos,af,g⟩ s (pk s d K):=rfl
theorem VOp_index:VOp P T ⟨d,.index t x y,ty,pos,af,g⟩ s K=VVal P T ⟨d,.index t x y,ty,pos,af,g⟩ s (pk s d K):=rfl
theorem VOp_extract (k:Nat):VOp P T ⟨d,.extract x k,ty,pos,af,g⟩ s K=VVal P T ⟨d,.extract x k,ty,pos,af,g⟩ s (pk s d K):=rfl
theorem VOp_binTmp (bo:BinOp) (u:Tmp):VOp P T ⟨d,.binOp bo t x (.tmp u) t',ty,pos,af,g⟩ s K=VVal P T ⟨d,.binOp bo t x (.tmp u) t',ty,pos,af,g⟩ s (pk s d K):=by cases bo<;>rfl
theorem VOp_binInt (bo:BinOp) (k:IntKind) (q:Int):VOp P T ⟨d,.binOp bo t x (.const (.int k q)) t',ty,pos,af,g⟩ s K=VVal P T ⟨d,.binOp bo t x (.const (.int k q)) t',ty,pos,af,g⟩ s (pk s d K):=by cases bo<;>rfl
theorem VOp_binStr (bo:BinOp) (q:ByteArray):VOp P T ⟨d,.binOp bo t x (.const (.string q)) t',ty,pos,af,g⟩ s K=VVal P T ⟨d,.binOp bo t x (.const (.string q)) t',ty,pos,af,g⟩ s (pk s d K):=by cases bo<;>rfl
theorem VOp_binPtr (bo:BinOp) (q:Option Addr):VOp P T ⟨d,.binOp bo t x (.const (.pointer q)) t',ty,pos,af,g⟩ s K=VVal P T ⟨d,.binOp bo t x (.const (.pointer q)) t',ty,pos,af,g⟩ s (pk s d K):=by cases bo<;>rfl
theorem VOp_build (parts:Array (Nat×Operand)):VOp P T ⟨d,.build t parts,ty,pos,af,g⟩ s K=VVal P T ⟨d,.build t parts,ty,pos,af,g⟩ s (pk s d K):=rfl
theorem VOp_makeFunc (f:Fn) (first caps:Array Operand):VOp P T ⟨d,.makeFunc f first caps,ty,pos,af,g⟩ s K=VVal P T ⟨d,.makeFunc f first caps,ty,pos,af,g⟩ s (pk s d K):=rfl
theorem VOp_slice (lo hi mx:Option Operand):VOp P T ⟨d,.slice t x lo hi mx,ty,pos,af,g⟩ s K=VVal P T ⟨d,.slice t x lo hi mx,ty,pos,af,g⟩ s (pk s d K):=rfl
theorem VOp_nilCheck:VOp P T ⟨d,.nilCheck x,ty,pos,af,g⟩ s K=VVal P T ⟨d,.nilCheck x,ty,pos,af,g⟩ s (pk s d K):=rfl
theorem VOp_convert:VOp P T ⟨d,.convert t t' x,ty,pos,af,g⟩ s K=VVal P T ⟨d,.convert t t' x,ty,pos,af,g⟩ s (pk s d K):=rfl
theorem VOp_len (args:Array Operand) (tys:Array TypeId):VOp P T ⟨d,.call ⟨.builtin .len,args,tys⟩,ty,pos,af,g⟩ s K=VVal P T ⟨d,.call ⟨.builtin .len,args,tys⟩,ty,pos,af,g⟩ s (pk s d K):=rfl
theorem VOp_max (args:Array Operand) (tys:Array TypeId):VOp P T ⟨d,.call ⟨.builtin .max,args,tys⟩,ty,pos,af,g⟩ s K=VVal P T ⟨d,.call ⟨.builtin .max,args,tys⟩,ty,pos,af,g⟩ s (pk s d K):=rfl
theorem VOp_min (args:Array Operand) (tys:Array TypeId):VOp P T ⟨d,.call ⟨.builtin .min,args,tys⟩,ty,pos,af,g⟩ s K=VVal P T ⟨d,.call ⟨.builtin .min,args,tys⟩,ty,pos,af,g⟩ s (pk s d K):=rfl
end
section
variable {P:Program} {T:TypeId→Option TI} {w0:World} {m0:Mem} {F0:Home} {Q:Exit→St→Prop} {s:St}
theorem qV {id:Nat} {l:List Oper} (hT:TabOk P T) (h:∀K:St→Prop,(∀s',Q .normal s'→K s')→VOps P T l.toArray l s K):AWP P w0 m0 F0 (.region id l.toArray false) Q s :=
 AWP.region hT rfl h
theorem yD {id:Nat} {l:List Oper} (hT:TabOk P T) (hm:P.follows .mixedOrders=true) (dep:Nat) (hchk:drawOk l.toArray l.length dep=true)
  (h:∀K:St→Prop,(∀s',Q .normal s'→K s')→VHead P T l.toArray l s K):AWP P w0 m0 F0 (.region id l.toArray true) Q s :=
 AWP.draw hT hm (l1:=l) (l2:=[]) l.length dep rfl hchk (List.take_length ..) (List.drop_length ..) h
end
def CondG (P:Program) (w0:World) (m0:Mem) (F0:Home) (x y:Code) (Q:Exit→St→Prop) (s:St) (b:Bool):Prop:=(b=true→AWP P w0 m0 F0 x Q s)∧(b=false→AWP P w0 m0 F0 y Q s)
section
variable {P:Program} {T:TypeId→Option TI} {w0:World} {m0:Mem} {F0:Home} {Q:Exit→St→Prop} {s:St} {c:Operand} {x y:Code} {b:Bool}
theorem qW (hb:boolOf (evalO T s 0 c)=some b) (h:CondG P w0 m0 F0 x y Q s b):AWP P w0 m0 F0 (.cond c x y) Q s:=AWP.cond hb h.1 h.2
theorem qX (h:AWP P w0 m0 F0 x Q s):CondG P w0 m0 F0 x y Q s true:=⟨fun _=>h,fun h=>by cases h⟩
theorem qY (h:AWP P w0 m0 F0 y Q s):CondG P w0 m0 F0 x y Q s false:=⟨(fun h=>by cases h),fun _=>h⟩
theorem qZ (h:CondG P w0 m0 F0 y x Q s b):CondG P w0 m0 F0 x y Q s (!b):=⟨fun e=>h.2 (by simpa using e),fun e=>h.1 (by simpa using e)⟩
theorem CondG.isT (hb:b=true) (h:AWP P w0 m0 F0 x Q s):CondG P w0 m0 F0 x y Q s b:=⟨fun _=>h,fun h=>by rw [hb] at h;cases h⟩
theorem CondG.isF (hb:b=false) (h:AWP P w0 m0 F0 y Q s):CondG P w0 m0 F0 x y Q s b:=⟨(fun h=>by rw [hb] at h;cases h),fun _=>h⟩
theorem yS (h1:b=true→AWP P w0 m0 F0 x Q s) (h2:b=false→AWP P w0 m0 F0 y Q s):CondG P w0 m0 F0 x y Q s b:=⟨h1,h2⟩
end
theorem GOn.isT {P:Program} {T:TypeId→Option TI} {ops:Array Oper} {want:Bool} {d:Option Tmp} {op:Op} {ty:TypeId} {pos:String} {af:Array Edge} {l:List Oper} {s:St} {K:St→Prop} {b:Bool} (hb:b=true) (h:GOn P T ops want d op ty pos af l s K (some true)):GOn P T ops want d op ty pos af l s K (some b):=hb▸h
theorem GOn.isF {P:Program} {T:TypeId→Option TI} {ops:Array Oper} {want:Bool} {d:Option Tmp} {op:Op} {ty:TypeId} {pos:String} {af:Array Edge} {l:List Oper} {s:St} {K:St→Prop} {b:Bool} (hb:b=false) (h:GOn P T ops want d op ty pos af l s K (some false)):GOn P T ops want d op ty pos af l s K (some b):=hb▸h
theorem HOn.isT {P:Program} {T:TypeId→Option TI} {ops:Array Oper} {want:Bool} {d:Option Tmp} {op:Op} {ty:TypeId} {pos:String} {af:Array Edge} {l:List Oper} {s:St} {K:St→Prop} {b:Bool} (hb:b=true) (h:HOn P T ops want d op ty pos af l s K (some true)):HOn P T ops want d op ty pos af l s K (some b):=hb▸h
theorem HOn.isF {P:Program} {T:TypeId→Option TI} {ops:Array Oper} {want:Bool} {d:Option Tmp} {op:Op} {ty:TypeId} {pos:String} {af:Array Edge} {l:List Oper} {s:St} {K:St→Prop} {b:Bool} (hb:b=false) (h:HOn P T ops want d op ty pos af l s K (some false)):HOn P T ops want d op ty pos af l s K (some b):=hb▸h
theorem pickK.isT {T:TypeId→Option TI} {s:St} {ty:TypeId} {x y:Operand} {KA:A→Prop} {b:Bool} (hb:b=true) (h:pickK T s ty x y KA true):pickK T s ty x y KA b:=hb▸h
theorem pickK.isF {T:TypeId→Option TI} {s:St} {ty:TypeId} {x y:Operand} {KA:A→Prop} {b:Bool} (hb:b=false) (h:pickK T s ty x y KA false):pickK T s ty x y KA b:=hb▸h
/-! ### where the walk's simp looks
  (The empty argument: the simplifier counts a step by definition as no change where a hypothesis has no binder, and then looks everywhere.) -/
section
variable {P:Program} {T:TypeId→Option TI} {ops:Array Oper} {l:List Oper} {o:Oper} {s:St} {s':Unit→St} {K:St→Prop} {KA:A→Prop} {d:Option Tmp}
theorem VOps.congr (h:∀u,s=s' u):VOps P T ops l s K=VOps P T ops l (s' ()) K:=by rw [h ()]
theorem VHead.congr (h:∀u,s=s' u):VHead P T ops l s K=VHead P T ops l (s' ()) K:=by rw [h ()]
theorem VOp.congr (h:∀u,s=s' u):VOp P T o s K=VOp P T o (s' ()) K:=by rw [h ()]
theorem VVal.congr (h:∀u,s=s' u):VVal P T o s KA=VVal P T o (s' ()) KA:=by rw [h ()]
theorem pk.congr {x:A} {x':Unit→A} (h:∀u,s=s' u) (hx:∀u,x=x' u):pk s d K x=pk (s' ()) d K (x' ()):=by rw [h (),hx ()]
theorem assignK.congr {e:Option A} {e':Unit→Option A} (h:∀u,s=s' u) (he:∀u,e=e' u):assignK s d K e=assignK (s' ()) d K (e' ()):=by rw [h (),he ()]
theorem storeK.congr {i:TI} {vs:List L} {p:L} {i':Unit→TI} {vs':Unit→List L} {p':Unit→L} (h:∀u,s=s' u) (hi:∀u,i=i' u) (hv:∀u,vs=vs' u) (hp:∀u,p=p' u):storeK s i vs K p=storeK (s' ()) (i' ()) (vs' ()) K (p' ()):=by rw [h (),hi (),hv (),hp ()]
theorem appK.congr {t t':TypeId} {j:TI} {z:List L} {n:Nat} {p q:L} {j':Unit→TI} {z':Unit→List L} {p' q':Unit→L} (h:∀u,s=s' u) (hj:∀u,j=j' u) (hz:∀u,z=z' u) (hp:∀u,p=p' u) (hq:∀u,q=q' u):appK P s t t' j z n K p q=appK P (s' ()) t t' (j' ()) (z' ()) n K (p' ()) (q' ()):=by rw [h (),hj (),hz (),hp (),hq ()]
theorem appStd.congr {j:TI} {z:List L} {n:Nat} {p q:L} {j':Unit→TI} {z':Unit→List L} {p' q':Unit→L} (h:∀u,s=s' u) (hj:∀u,j=j' u) (hz:∀u,z=z' u) (hp:∀u,p=p' u) (hq:∀u,q=q' u):appStd s j z n K p q=appStd (s' ()) (j' ()) (z' ()) n K (p' ()) (q' ()):=by rw [h (),hj (),hz (),hp (),hq ()]
theorem copyK.congr {j:TI} {p q:L} {j':Unit→TI} {p' q':Unit→L} (h:∀u,s=s' u) (hj:∀u,j=j' u) (hp:∀u,p=p' u) (hq:∀u,q=q' u):copyK s j d K p q=copyK (s' ()) (j' ()) d K (p' ()) (q' ()):=by rw [h (),hj (),hp (),hq ()]
theorem clearK.congr {j:TI} {z:List L} {p:L} {j':Unit→TI} {z':Unit→List L} {p':Unit→L} (h:∀u,s=s' u) (hj:∀u,j=j' u) (hz:∀u,z=z' u) (hp:∀u,p=p' u):clearK s j z d K p=clearK (s' ()) (j' ()) (z' ()) d K (p' ()):=by rw [h (),hj (),hz (),hp ()]
theorem loadK.congr {i:TI} {v:L} {i':Unit→TI} {v':Unit→L} (h:∀u,s=s' u) (hi:∀u,i=i' u) (hp:∀u,v=v' u):loadK s i KA v=loadK (s' ()) (i' ()) KA (v' ()):=by rw [h (),hi (),hp ()]
theorem idxK.congr {j:TI} {n:Int} {v:L} {j':Unit→TI} {n':Unit→Int} {v':Unit→L} (h:∀u,s=s' u) (hi:∀u,j=j' u) (hn:∀u,n=n' u) (hp:∀u,v=v' u):idxK s j n KA v=idxK (s' ()) (j' ()) (n' ()) KA (v' ()):=by rw [h (),hi (),hn (),hp ()]
theorem sliceK.congr {t:TypeId} {lo hi:Option Operand} {v:L} {v':Unit→L} (h:∀u,s=s' u) (hp:∀u,v=v' u):sliceK T s t lo hi KA v=sliceK T (s' ()) t lo hi KA (v' ()):=by rw [h (),hp ()]
theorem indexK.congr {i:TI} {y:Operand} {v:L} {i':Unit→TI} {v':Unit→L} (h:∀u,s=s' u) (hi:∀u,i=i' u) (hp:∀u,v=v' u):indexK T s i y KA v=indexK T (s' ()) (i' ()) y KA (v' ()):=by rw [h (),hi (),hp ()]
theorem binK.congr {op:BinOp} {t:TypeId} {v w:V} {v' w':Unit→V} (h:∀u,v=v' u) (hp:∀u,w=w' u):binK P op t KA v w=binK P op t KA (v' ()) (w' ()):=by rw [h (),hp ()]
theorem convKk.congr {t t':TypeId} {v:L} {v':Unit→L} (h:∀u,v=v' u):convKk P T t t' KA v=convKk P T t t' KA (v' ()):=by rw [h ()]
end
theorem LN:(∀{α β:Type} {f:α→β} {l:List α},(l.map f).length=l.length)∧(∀{α:Type} {l l':List α},(l++l').length=l.length+l'.length)∧(∀{α:Type} {x:α} {l:List α},(x::l).length=l.length+1)∧(∀{α:Type},([]:List α).length=0) ∧
  (∀{α:Type} {i:Nat} {l:List α},(l.take i).length=min i l.length)∧(∀{α:Type} {i:Nat} {l:List α},(l.drop i).length=l.length - i)∧(∀{α:Type} {l:List α} {i:Nat} {x:α},(l.set i x).length=l.length)∧(∀{α:Type} {n:Nat} {x:α},(List.replicate n x).length=n) ∧
  (∀{a b:Nat},((a+b:Nat):Int)=(a:Int)+(b:Int))∧(∀{n:Nat},(n:Int).toNat=n)∧(∀{n:Nat},0+n=n) :=
 ⟨List.length_map _,List.length_append,List.length_cons,List.length_nil,List.length_take,List.length_drop,List.length_set,List.length_replicate,Int.natCast_add _ _,Int.toNat_natCast _,Nat.zero_add _⟩
theorem NM:(∀{p:Prop} [Decidable p],(decide p=true)=p)∧(∀{p:Prop} [Decidable p],(decide p=false)↔¬ p)∧(∀{a b:Int},(a==b)=true↔a=b)∧(∀{a b:Nat},(a==b)=true↔a=b)∧(∀{a b:List UInt8},(a==b)=true↔a=b)∧(∀{a b:Bool},(a==b)=true↔a=b) ∧
  (∀{a b:Int},(a==b)=false↔a≠b)∧(∀{a b:Nat},(a==b)=false↔a≠b)∧(∀{a b:List UInt8},(a==b)=false↔a≠b)∧(∀{a b:Bool},(a==b)=false↔a≠b) ∧
  (∀{b:Bool},((!b)=true)↔(b=false))∧(∀{b:Bool},((!b)=false)↔(b=true))∧(∀{a b:Bool},((a&&b)=true)=(a=true∧b=true))∧(∀{a b:Bool},((a||b)=true)=(a=true∨b=true)) ∧
  (∀{a b:Bool},((a&&b)=false)↔(a=true→b=false))∧(∀{a b:Bool},((a||b)=false)↔(a=false∧b=false))∧(∀{b:Bool},(¬b=true)=(b=false))∧(∀{b:Bool},(¬b=false)=(b=true)) ∧
  (∀{a b:Int},¬ a<b↔b≤a)∧(∀{a b:Int},¬ a≤b↔b<a)∧(∀{α:Type} {a b:α},(a≠b)=¬ (a=b)) :=
 ⟨decide_eq_true_eq,decide_eq_false_iff_not,beq_iff_eq,beq_iff_eq,beq_iff_eq,beq_iff_eq,beq_eq_false_iff_ne,beq_eq_false_iff_ne,beq_eq_false_iff_ne,beq_eq_false_iff_ne,(by intro b;cases b<;>simp),(by intro b;cases b<;>simp),Bool.and_eq_true _ _,Bool.or_eq_true _ _,Bool.and_eq_false_imp,Bool.or_eq_false_iff,Bool.not_eq_true _,Bool.not_eq_false _,Int.not_lt,Int.not_le,ne_eq _ _⟩
theorem LE:(∀{α:Type} (e:List (Nat×α)) (t:Nat) (x:α) (r:List (Nat×α)),allIn e ((t,x)::r)=(look e t=some x∧allIn e r))∧(∀{α:Type} (e:List (Nat×α)),allIn e []=True)∧(∀{α:Type} (t:Nat) (x:α) (e:List (Nat×α)) (i:Nat),look ((t,x)::e) i=if t=i then some x else look e i)∧(∀{α:Type} (i:Nat),look ([]:List (Nat×α)) i=none) ∧
  (∀{p:Prop},(p∧p)=p)∧(∀{p:Prop},(p∧True)=p)∧(∀{p:Prop},(True∧p)=p)∧(∀{α:Type} {a b:α},(some a=some b)=(a=b))∧(∀{a a':Nat} {b b':List (List L)} {c c':List (Nat×Nat×L)},(RowC.mk a b c=RowC.mk a' b' c')=(a=a'∧b=b'∧c=c')) ∧
  (∀{α:Type} {l:List α},l.take 0=[])∧(∀{α β:Type} {f:α→β},[].map f=[])∧(∀{α β:Type} {f:α→β} {a:α} {l:List α},(a::l).map f=f a::l.map f)∧(∀{α β:Type} {f:α→β} {l l':List α},(l++l').map f=l.map f++l'.map f) ∧
  (((0:Nat):Int)=0)∧(∀{a b:Nat},((a+b:Nat):Int)=(a:Int)+(b:Int))∧(((1:Nat):Int)=1) :=
 ⟨allIn_cons,allIn_nil,look_cons,look_nil,and_self _,and_true _,true_and _,Option.some.injEq _ _,RowC.mk.injEq _ _ _ _ _ _,List.take_zero,List.map_nil,List.map_cons,List.map_append,rfl,Int.natCast_add _ _,rfl⟩
theorem RT:(∀{α:Type} (e:List (Nat×α)),keepL [] e=[])∧(∀{α:Type} (k:List Nat),keepL k ([]:List (Nat×α))=[])∧(∀{α:Type} (k:List Nat) (t:Nat) (x:α) (e:List (Nat×α)),keepL k ((t,x)::e)=if k.elem t then (t,x)::keepL k e else keepL k e) ∧
  (∀{α:Type} (e:List (Nat×α)),dropL [] e=e)∧(∀{α:Type} (k:List Nat),dropL k ([]:List (Nat×α))=[])∧(∀{α:Type} (k:List Nat) (t:Nat) (x:α) (e:List (Nat×α)),dropL k ((t,x)::e)=if k.elem t then dropL k e else (t,x)::dropL k e) ∧
  (∀(kb kr:List Nat) (s:St) (k:IntKind) (n:Int),topL kb kr s (.int k n)=.int k n)∧(∀(kb kr:List Nat) (s:St) (b:Bool),topL kb kr s (.bool b)=.bool b)∧(∀(kb kr:List Nat) (s:St) (b:ByteArray),topL kb kr s (.str b)=.str b)∧(∀(kb kr:List Nat) (s:St) (sz:Nat) (xs:List (List L)),topL kb kr s (.sl sz xs)=.sl sz xs) ∧
  (∀(kb kr:List Nat) (s:St) (sz:Nat),topL kb kr s (.nil sz)=.nil sz)∧(∀(kb kr:List Nat) (s:St) (sz:Nat) (xs:List (List L)),topL kb kr s (.own sz xs)=.own sz xs)∧(∀(kb kr:List Nat) (s:St) (ls:List L),topL kb kr s (.fz ls)=.fz ls)∧(∀(kb kr:List Nat) (s:St),topL kb kr s .any=.any) ∧
  (∀(kb kr:List Nat) (s:St) (id lo n:Nat),topL kb kr s (.ref id lo n)=if kr.elem id then .ref id lo n else frzV 4 s (.ref id lo n))∧(∀(kb kr:List Nat) (s:St) (id o:Nat),topL kb kr s (.ptr id o)=if kb.elem id then .ptr id o else frzV 4 s (.ptr id o)) ∧
  (∀(kb kr:List Nat) (s:St) (id i o:Nat),topL kb kr s (.eptr id i o)=if kr.elem id then .eptr id i o else frzV 4 s (.eptr id i o))∧(∀{α:Type} (e:List (Nat×α)),allIn e []=True)∧(∀{α:Type} (e:List (Nat×α)) (t:Nat) (x:α) (r:List (Nat×α)),allIn e ((t,x)::r)=(look e t=some x∧allIn e r)) :=
 ⟨keepL_nil,keepL_nil',keepL_cons,dropL_nil,dropL_nil',dropL_cons,topL_int,topL_bool,topL_str,topL_sl,topL_nil,topL_own,topL_fz,topL_any,topL_ref,topL_ptr,topL_eptr,allIn_nil,allIn_cons⟩
end Go.Bw
namespace Go.Bw
open Go.RowKit
section
variable {P:Program} {w0:World} {m0:Mem} {s s':St} {a:Act} {w:World} {m:Mem} {ω:Wh} {F0:Home} {T:TypeId→Option TI}
theorem draw_headE (hT:TabOk P T) {ops:Array Oper} {na dep:Nat} (F:DrawFacts ops na dep) {K:St→Prop} {Q:Exit→Act→World→Prop} (hQ:∀s a w,K s→Conc P w0 m0 F0 s a w→Q .normal a w)
  {C:(Nat→Bool)→Act→World→Prop}
  (hstep:∀(S:Nat→Bool) (i:Nat) (a:Act) (w:World) (o:Oper),ops[i]?=some o→i<na→S i=false→(∀j,na≤j→S j=false)→(∀j∈clo ops dep i,S j=true)→(∀j,S j=true→∀j'∈clo ops dep j,S j'=true)→C S a w →
   ∀(K':Act→World→Prop) (Q:Exit→Act→World→Prop),(∀a' w',C (fun j=>if j=i then true else S j) a' w'→K' a' w')→if Region.wanted o (yielded ops a.tmps) then o.wp P a w K' Q∨(o.asks P a w∧LetsOut Q) else K' (a.put o.dst undef) w)
  (hend:∀S a w,(∀j,j<na→S j=true)→(∀j,na≤j→S j=false)→C S a w→∃s2,VOps P T ops (ops.toList.drop na) s2 K∧Conc P w0 m0 F0 s2 a w) :
  ∀(fuel:Nat) (listed:Array Bool) (a:Act) (w:World) (c:Nat),c+fuel=ops.size→listed.size=ops.size→((List.range ops.size).filter fun i=>listed.getD i false).length=c →
   (∀i,i<ops.size→listed.getD i false=true→∀j∈direct ops i,listed.getD j false=true)→(∀i,na≤i→listed.getD i false=false) →
   C (fun i=>listed.getD i false) a w→wpAny P .any ops Q fuel listed a w:=by
 intro fuel
 induction fuel with
 | zero =>
  intro listed a w c hc hsz hcnt hcl htl hC
  have hall:∀i,i<ops.size→listed.getD i false=true:=by
   intro i hi
   have h1:((List.range ops.size).filter fun i=>listed.getD i false).length=(List.range ops.size).length:=by rw [hcnt,List.length_range];omega
   have h2:=List.length_filter_eq_length_iff.1 h1
   exact h2 i (by simpa using hi)
  have hna:na=ops.size:=by
   rcases Nat.lt_or_ge na ops.size with h|h
   ·have:=htl na (Nat.le_refl _)
    rw [hall na h] at this
    cases this
   ·have:=F.le;omega
  have hd:ops.toList.drop na=[]:=by apply List.drop_eq_nil_of_le;simp;omega
  obtain ⟨s2,hV,hc2⟩:=hend _ a w (fun j hj=>hall j (by omega)) htl hC
  rw [hd] at hV
  refine ⟨?_,hQ s2 a w hV hc2⟩
  apply List.eq_nil_iff_forall_not_mem.2
  intro i hi
  obtain ⟨h1,h2,_⟩:=(mem_ready hsz).1 hi
  rw [hall i h1] at h2
  cases h2
 | succ fuel ih =>
  intro listed a w c hc hsz hcnt hcl htl hC
  by_cases hdone:∀i,i<na→listed.getD i false=true
  ·have hcna:c=na:=by
    rw [←hcnt]
    have h1:((List.range ops.size).filter fun i=>listed.getD i false)=(List.range ops.size).filter fun i=>decide (i<na):=by
     apply List.filter_congr
     intro i hi
     have hi:i<ops.size:=by simpa using hi
     by_cases hlt:i<na
     ·rw [hdone i hlt];simp [hlt]
     ·rw [htl i (by omega)];simp [hlt]
    rw [h1]
    have h2:∀n,na≤n→((List.range n).filter fun i=>decide (i<na)).length=na:=by
     intro n hn
     induction n with
     | zero=>simp;omega
     | succ n ihn =>
      rw [List.range_succ,List.filter_append,List.length_append]
      rcases Nat.lt_or_ge n na with h|h
      ·have hna:na=n+1:=by omega
       have:((List.range n).filter fun i=>decide (i<na))=List.range n:=by
        apply List.filter_eq_self.2
        intro i hi
        have:i<n:=by simpa using hi
        simp;omega
       rw [this]
       simp [h]
       omega
      ·rw [ihn h]
       simp [show ¬ n<na from by omega]
    exact h2 _ F.le
   obtain ⟨s2,hV,hc2⟩:=hend _ a w hdone htl hC
   exact draw_tail hT F hQ (fuel+1) na listed s2 a w (Nat.le_refl _) (by omega) hsz (fun i hi=>⟨(fun hl=>by
    rcases Nat.lt_or_ge i na with h|h
    ·exact h
    ·rw [htl i h] at hl
     cases hl),fun hlt=>hdone i hlt⟩) hV hc2
  ·have hex:∃i,i<na∧listed.getD i false=false:=by
    apply Classical.byContradiction
    intro hn
    apply hdone
    intro i hi
    cases hb:listed.getD i false with
    | true=>rfl
    | false=>exact absurd ⟨i,hi,hb⟩ hn
   have hclo:∀i,(∀j∈direct ops i,listed.getD j false=true)→∀j∈clo ops dep i,listed.getD j false=true:=fun i h3 =>
    clo_listed (ops:=ops) (listed:=fun j=>listed.getD j false=true) (fun j hj j' hj'=>by
     have hjn:j<ops.size:=by
      rcases Nat.lt_or_ge j ops.size with h|h
      ·exact h
      ·rw [Array.getD_eq_getD_getElem?,Array.getElem?_eq_none (by omega)] at hj;cases hj
     exact hcl j hjn hj j' hj') dep i h3
   refine ⟨fun hn=>?_,fun i hi=>?_⟩
   ·exfalso
    obtain ⟨i,h1,h2⟩:=hex
    have key:∀n i,i≤n→i<na→listed.getD i false=false→∃k,k∈Region.ready .any ops listed:=by
     intro n
     induction n with
     | zero =>
      intro i hi hina hb
      have:i=0:=by omega
      subst this
      refine ⟨0,(mem_ready hsz).2 ⟨by have:=F.le;omega,hb,fun j hj=>?_⟩⟩
      have:=F.back 0 (by have:=F.le;omega) j hj
      omega
     | succ n ihn =>
      intro i hi hina hb
      by_cases hall:∀j∈direct ops i,listed.getD j false=true
      ·exact ⟨i,(mem_ready hsz).2 ⟨by have:=F.le;omega,hb,hall⟩⟩
      ·have:∃j,j∈direct ops i∧listed.getD j false=false:=by
        apply Classical.byContradiction
        intro hn
        apply hall
        intro j hj
        cases hb:listed.getD j false with
        | true=>rfl
        | false=>exact absurd ⟨j,hj,hb⟩ hn
       obtain ⟨j,hj,hjb⟩:=this
       have:=F.back i (by have:=F.le;omega) j hj
       exact ihn j (by omega) (by omega) hjb
    obtain ⟨k,hk⟩:=key i i (Nat.le_refl _) h1 h2
    rw [hn] at hk
    cases hk
   ·obtain ⟨h1,h2,h3⟩:=(mem_ready hsz).1 hi
    have hcl':=hclo i h3
    have hina:i<na:=by
     rcases Nat.lt_or_ge i na with h|h
     ·exact h
     ·obtain ⟨j,hj,hjb⟩:=hex
      have:=hcl' j (F.tail i j h h1 (by omega))
      rw [hjb] at this
      cases this
    have ho:ops[i]?=some ops[i]:=Array.getElem?_eq_getElem h1
    simp only [wpOp,ho]
    refine hstep _ i a w ops[i] ho hina h2 htl hcl' (fun j hj=>hclo j (hcl j (by
     rcases Nat.lt_or_ge j ops.size with h|h
     ·exact h
     ·have hj:listed.getD j false=true:=hj
      rw [Array.getD_eq_getD_getElem?,Array.getElem?_eq_none (by omega)] at hj;cases hj) hj)) hC _ _ fun a' w' hC'=>?_
    refine ih (listed.setIfInBounds i true) a' w' (c+1) (by omega) (by simpa using hsz) ?_ ?_ ?_ ?_
    ·rw [←hcnt]
     have h4:∀n,i<n→((List.range n).filter fun j=>(listed.setIfInBounds i true).getD j false).length=((List.range n).filter fun j=>listed.getD j false).length+1:=by
      intro n hn
      induction n with
      | zero=>omega
      | succ n ihn =>
       rw [List.range_succ,List.filter_append,List.filter_append,List.length_append,List.length_append]
       rcases Nat.lt_or_ge i n with hlt|hge
       ·rw [ihn hlt]
        have:([n].filter fun j=>(listed.setIfInBounds i true).getD j false)=[n].filter fun j=>listed.getD j false:=by
         apply List.filter_congr
         intro j hj
         have:j=n:=by simpa using hj
         rw [getD_setB listed (by omega),if_neg (by omega)]
        rw [this]
        omega
       ·have hin:i=n:=by omega
        subst hin
        have e1:((List.range i).filter fun j=>(listed.setIfInBounds i true).getD j false)=(List.range i).filter fun j=>listed.getD j false:=by
         apply List.filter_congr
         intro j hj
         have:j<i:=by simpa using hj
         rw [getD_setB listed (by omega),if_neg (by omega)]
        have e2:([i].filter fun j=>(listed.setIfInBounds i true).getD j false).length=1:=by
         have:(listed.setIfInBounds i true).getD i false=true:=by rw [getD_setB listed (by omega),if_pos rfl]
         simp only [List.filter_cons,this,if_true,List.filter_nil,List.length_cons,List.length_nil]
        have e3:([i].filter fun j=>listed.getD j false).length=0:=by
         simp only [List.filter_cons,h2,Bool.false_eq_true,if_false,List.filter_nil,List.length_nil]
        rw [e1,e2,e3]
     exact h4 _ h1
    ·intro j hj hb k hk
     rw [getD_setB listed (by omega)] at hb ⊢
     by_cases hki:k=i
     ·rw [if_pos hki]
     ·rw [if_neg hki]
      by_cases hji:j=i
      ·subst hji;exact h3 k hk
      ·rw [if_neg hji] at hb;exact hcl j hj hb k hk
    ·intro j hj
     rw [getD_setB listed (by omega),if_neg (by omega)]
     exact htl j hj
    ·have e:(fun j=>(listed.setIfInBounds i true).getD j false)=fun j=>if j=i then true else listed.getD j false:=funext fun j=>getD_setB listed (by omega) j
     rw [e]
     exact hC'
def ptrA (d:Nat):A:=.v (.one (.ptr d 0))
def addBox (s:St) (p:Nat×List L):St:={s with env:=(p.1,ptrA p.1)::s.env,box:=p::s.box}
theorem puts_append (qs:List (Option Tmp×A)):∀(ps:List (Option Tmp×A)) (s:St),puts s (ps++qs)=puts (puts s ps) qs
 | [],_=>rfl
 | p::ps,s=>puts_append qs ps (s.putO p.1 p.2)
theorem look_puts_ne {t:Tmp}:∀{ps:List (Option Tmp×A)} {s:St},(∀p∈ps,p.1≠some t)→look (puts s ps).env t=look s.env t
 | [],s,_=>rfl
 | p::ps,s,h=>by
  rw [puts,look_puts_ne (fun q hq=>h q (by simp [hq]))]
  have hp:=h p (by simp)
  unfold St.putO
  cases hd:p.1 with
  | none=>rfl
  | some d =>
   simp only [St.put,look]
   rw [if_neg (fun e=>hp (by rw [hd,e]))]
end
end Go.Bw
namespace Go.Bw
open Go.RowKit
section
variable {P:Program} {w0:World} {m0:Mem} {s s':St} {a:Act} {w w':World} {m m':Mem} {ω ω':Wh} {F0:Home} {T:TypeId→Option TI}
def inv:Ids→Nat→Option Nat
 | [],_=>none
 | (i,j')::r,j=>if j'=j then some i else inv r j
def goodIds (τ:Ids):Bool:=τ.all fun p=>inv τ p.2==some p.1&&look τ p.1==some p.2
theorem look_mem19 {α:Type} {x:α} {i:Nat}:∀{e:List (Nat×α)},look e i=some x→(i,x)∈e
 | [],h=>by cases h
 | (t,y)::e,h=>by
  simp only [look] at h
  split at h
  ·rename_i ht;injection h with h;subst h;subst ht;exact List.mem_cons_self ..
  ·exact List.mem_cons_of_mem _ (look_mem19 h)
theorem inv_mem {i j:Nat}:∀{τ:Ids},inv τ j=some i→(i,j)∈τ
 | [],h=>by cases h
 | (t,y)::e,h=>by
  simp only [inv] at h
  split at h
  ·rename_i ht;injection h with h;subst h;subst ht;exact List.mem_cons_self ..
  ·exact List.mem_cons_of_mem _ (inv_mem h)
theorem good_mem {τ:Ids} (h:goodIds τ=true) {i j:Nat} (hm:(i,j)∈τ):inv τ j=some i∧look τ i=some j:=by
 have:=List.all_eq_true.1 h _ hm
 simpa using this
theorem good_look {τ:Ids} (h:goodIds τ=true) {i j:Nat} (hl:look τ i=some j):inv τ j=some i:=(good_mem h (look_mem19 hl)).1
theorem good_inv {τ:Ids} (h:goodIds τ=true) {i j:Nat} (hl:inv τ j=some i):look τ i=some j:=(good_mem h (inv_mem hl)).2
theorem look_out {α:Type} (g:Nat→α) (j:Nat):∀(τ:Ids),look (τ.map fun p=>(p.2,g p.1)) j=(inv τ j).map g
 | []=>rfl
 | (i,j')::τ=>by
  simp only [List.map_cons,look,inv]
  split
  ·rfl
  ·exact look_out g j τ
theorem look_append {α:Type} (i:Nat):∀(e e':List (Nat×α)),look (e++e') i=match look e i with|some x=>some x|none=>look e' i
 | [],_=>rfl
 | (t,x)::e,e'=>by
  simp only [List.cons_append,look]
  split
  ·rfl
  ·exact look_append i e e'
def idsOf (σ τ:Ids):List Nat:=σ.map (·.2)++τ.map (·.2)
def deadOf (σ τ:Ids):List Nat:=((σ++τ).filter fun p=>!(σ.elem p&&τ.elem p)).map (·.2)
def outB (τb τr:Ids) (bx:Boxes):Boxes:=τb.map fun p=>(p.2,((look bx p.1).getD []).map (L.ids τb τr))
def outR (τb τr:Ids) (rw:Rows):Rows:=τr.map fun p=>(p.2,((look rw p.1).getD ⟨0,[],[]⟩).map (L.ids τb τr))
def St.io (s:St) (σb σr τb τr:Ids) (bx':Boxes) (rw':Rows):St :=
 {n:=s.n,env:=s.env.map fun p=>(p.1,p.2.map (L.kl (deadOf σb τb) (deadOf σr τr))),
  box:=outB τb τr bx'++(dropL (idsOf σb τb) s.box).map fun p=>(p.1,p.2.map (L.kl (deadOf σb τb) (deadOf σr τr))),
  row:=outR τb τr rw'++(dropL (idsOf σr τr) s.row).map fun p=>(p.1,p.2.map (L.kl (deadOf σb τb) (deadOf σr τr)))}
def inB (s:St) (σb σr:Ids):Boxes→Prop
 | []=>True
 | (i,ls)::r=>mO (look σb i) (fun j=>look s.box j=some (ls.map (L.ids σb σr))∧ls.all (okIds σb σr)=true)∧inB s σb σr r
def inR (s:St) (σr:Ids):Rows→Prop
 | []=>True
 | (i,q)::r=>mO (look σr i) (fun j=>q.ov=[]∧look s.row j=some q)∧inR s σr r
theorem inB_look {σb σr:Ids}:∀{bx:Boxes},inB s σb σr bx→∀i ls,look bx i=some ls→∃j,look σb i=some j∧look s.box j=some (ls.map (L.ids σb σr))∧ls.all (okIds σb σr)=true
 | [],_,i,ls,h=>by cases h
 | (t,x)::r,hI,i,ls,h=>by
  simp only [look] at h
  split at h
  ·rename_i ht
   injection h with h
   subst h;subst ht
   obtain ⟨j,h1,h2⟩:=mO_elim hI.1
   exact ⟨j,h1,h2⟩
  ·exact inB_look hI.2 i ls h
theorem inR_look {σr:Ids}:∀{rw:Rows},inR s σr rw→∀i q,look rw i=some q→∃j,look σr i=some j∧look s.row j=some q∧q.ov=[]
 | [],_,i,ls,h=>by cases h
 | (t,x)::r,hI,i,ls,h=>by
  simp only [look] at h
  split at h
  ·rename_i ht
   injection h with h
   subst h;subst ht
   obtain ⟨j,h1,h2,h3⟩:=mO_elim hI.1
   exact ⟨j,h1,h3,h2⟩
  ·exact inR_look hI.2 i ls h
def okIn {α:Type} (σ:Ids) (bx:List (Nat×α)):Bool:=σ.all fun p=>(look bx p.1).isSome&&(decide (1000≤p.1)&&decide (p.1<2000))
def okOut {α:Type} (n:Nat) (σ τ:Ids) (bx':List (Nat×α)):Bool:=τ.all fun p=>(look bx' p.1).isSome&&(decide (p.2<n)||σ.elem p)
def okV (σb σr:Ids):V→Bool
 | .one l=>okIds σb σr l
 | .agg ls=>ls.all (okIds σb σr)
noncomputable def whIn (ω:Wh) (σb σr:Ids):Wh where
 box:=fun i=>match look σb i with|some j=>ω.box j|none=>0
 row:=fun i=>match look σr i with|some j=>ω.row j|none=>⟨none,0,0⟩
 f:=fun κ i k=>match κ with
  | false=>(match look σb i with|some j=>ω.f false j k|none=>False)
  | true=>(match look σr i with|some j=>ω.f true j k|none=>False)
noncomputable def whOut (ω ω':Wh) (τb τr:Ids):Wh where
 box:=fun j=>match inv τb j with|some i=>ω'.box i|none=>ω.box j
 row:=fun j=>match inv τr j with|some i=>ω'.row i|none=>ω.row j
 f:=fun κ j=>match κ with
  | false=>(match inv τb j with|some i=>ω'.f false i|none=>ω.f false j)
  | true=>(match inv τr j with|some i=>ω'.f true i|none=>ω.f true j)
theorem xrep_back {σb σr:Ids} (hb:∀i j,look σb i=some j→ω'.box i=ω.box j) (hr:∀i j,look σr i=some j→ω'.row i=ω.row j) {G:Nat→Prop} {v:Value} {l:L} (hid:okIds σb σr l=true)
  (h:XRep m w ω G v (l.ids σb σr)):XRep m w ω' G v l:=by
 rcases XRep.cases h with ⟨sz,xs,he,h⟩|⟨_,h⟩|⟨t,q,he,h⟩
 ·cases l<;>simp only [L.ids,L.ids0,reduceCtorEq] at he
  ·cases he
   exact h
  all_goals (split at he<;>cases he)
 ·exact (ids_back hb hr hid h).xrep
 ·cases l<;>simp only [L.ids,L.ids0,reduceCtorEq] at he
  case byt =>
   cases he
   exact h
  all_goals (split at he<;>cases he)
theorem CI.handIn (h:CI P w0 m0 F0 s a w m ω) {σb σr:Ids} {bx:Boxes} {rw:Rows} (gb:goodIds σb=true) (gr:goodIds σr=true) (ob:okIn σb bx=true) (or:okIn σr rw=true)
  (ib:inB s σb σr bx) (ir:inR s σr rw):CI P w m (handed bx rw (whIn ω σb σr)) (roots bx rw) a0 w m (whIn ω σb σr):=by
 have hbox:∀i j,look σb i=some j→(whIn ω σb σr).box i=ω.box j:=fun i j hj=>by simp only [whIn,hj]
 have hrow:∀i j,look σr i=some j→(whIn ω σb σr).row i=ω.row j:=fun i j hj=>by simp only [whIn,hj]
 have live:∀κ i,(roots bx rw).live κ i→∃j,s.live κ j∧(whIn ω σb σr).f κ i=ω.f κ j∧(match κ with|false=>look σb i=some j|true=>look σr i=some j):=by
  intro κ i hl
  cases κ with
  | false =>
   obtain ⟨ls,hls⟩:=Option.isSome_iff_exists.1 hl
   obtain ⟨j,h1,h2,_⟩:=inB_look ib i ls hls
   exact ⟨j,by show (look s.box j).isSome;rw [h2];rfl,by funext k;simp only [whIn,h1],h1⟩
  | true =>
   obtain ⟨q,hq⟩:=Option.isSome_iff_exists.1 hl
   obtain ⟨j,h1,h2,_⟩:=inR_look ir i q hq
   exact ⟨j,by show (look s.row j).isSome;rw [h2];rfl,by funext k;simp only [whIn,h1],h1⟩
 refine {size:=rfl,defers:=rfl,keeps:=Keeps.refl _ _,mle:=Mem.le_refl m,mold:=fun _ _ _=>rfl,ok:=h.ok,env:=(fun t x hx=>by cases hx),box:=?_,row:=?_,fresh:=?_,apart:=?_,home:=?_,good:=?_}
 rotate_right
 ·refine h.goodFor fun k hk=>?_
  obtain ⟨κ,i,hl,hk⟩:=hk
  obtain ⟨j,h1,h2,_⟩:=live κ i hl
  exact (h.fresh κ j h1 k (h2▸hk)).2.1
 ·intro i ls hi
  obtain ⟨j,h1,h2,h3⟩:=inB_look ib i ls hi
  obtain ⟨cs,e,k1,k2,k3,G,k4,k5,k6⟩:=h.box j _ h2
  have hf:(whIn ω σb σr).f false i=ω.f false j:=by funext k;simp only [whIn,h1]
  refine ⟨cs,e,by rw [hbox i j h1];exact k1,by simpa using k2,by rw [hbox i j h1,hf];exact k3,G,fun j' k hk=>by rw [hbox i j h1,hf];exact k4 j' k hk,k5,fun q l hq=>?_⟩
  obtain ⟨v,k7,k8⟩:=k6 q (l.ids σb σr) (by simp [hq])
  exact ⟨v,k7,xrep_back hbox hrow (List.all_eq_true.1 h3 l (List.mem_of_getElem? hq)) k8⟩
 ·intro i q hi
  obtain ⟨j,h1,h2,h3⟩:=inR_look ir i q hi
  have hf:(whIn ω σb σr).f true i=ω.f true j:=by funext k;simp only [whIn,h1]
  have hR:RowRepG m w ω (ω.row j) (ω.f true j) q:=h.row j q h2
  show RowRepG m w _ _ _ q
  rw [hrow i j h1,hf]
  obtain ⟨k1,k2,k3⟩:=hR
  refine ⟨k1,k2,?_⟩
  split at k3
  ·exact k3
  ·obtain ⟨cs,e,g1,g2,g3,g4,g5,G,g6,g7,g8⟩:=k3
   refine ⟨cs,e,g1,g2,g3,g4,g5,G,g6,g7,fun i j u hu=>?_⟩
   obtain ⟨v,g9,g10⟩:=g8 i j u hu
   rw [h3] at g10 ⊢
   exact ⟨v,g9,g10⟩
 ·intro κ i hl k hk
  obtain ⟨j,h1,h2,_⟩:=live κ i hl
  have hk':=hk
  rw [h2] at hk'
  obtain ⟨k1,k2,k3⟩:=h.fresh κ j h1 k hk'
  exact ⟨k1,.inr ⟨κ,i,hl,hk⟩,k3⟩
 ·intro κ i κ' i' hl hl' k hk hk'
  obtain ⟨j,h1,h2,h3⟩:=live κ i hl
  obtain ⟨j',h1',h2',h3'⟩:=live κ' i' hl'
  rw [h2] at hk
  rw [h2'] at hk'
  obtain ⟨rfl,rfl⟩:=h.apart _ _ _ _ h1 h1' k hk hk'
  refine ⟨rfl,?_⟩
  cases κ with
  | false =>
   have e1:=good_look gb h3
   have e2:=good_look gb h3'
   rw [e1] at e2
   injection e2
  | true =>
   have e1:=good_look gr h3
   have e2:=good_look gr h3'
   rw [e1] at e2
   injection e2
 ·refine ⟨fun i hi=>⟨Nat.zero_le _,?_⟩,fun i b hb hl=>?_,fun i b hb hl=>?_⟩
  ·rcases hi with hi|hi
   ·simp only [handed] at hi
    split at hi
    ·rename_i hq
     obtain ⟨ls,hls⟩:=Option.isSome_iff_exists.1 hq
     obtain ⟨j,h1,_⟩:=inB_look ib i ls hls
     have:=List.all_eq_true.1 ob _ (look_mem19 h1)
     simp only [Bool.and_eq_true,decide_eq_true_eq] at this
     exact this.2
    ·cases hi
   ·simp only [handed] at hi
    split at hi
    ·rename_i hq
     obtain ⟨ls,hls⟩:=Option.isSome_iff_exists.1 hq
     obtain ⟨j,h1,_⟩:=inR_look ir i ls hls
     have:=List.all_eq_true.1 or _ (look_mem19 h1)
     simp only [Bool.and_eq_true,decide_eq_true_eq] at this
     exact this.2
    ·cases hi
  ·simp only [handed] at hb
   split at hb
   ·injection hb
   ·cases hb
  ·simp only [handed] at hb
   split at hb
   ·injection hb
   ·cases hb
theorem dead_keep {σ τ:Ids} {i j:Nat} (hm:(i,j)∈σ++τ) (hd:(deadOf σ τ).elem j=false):(i,j)∈σ∧(i,j)∈τ:=by
 have hd:j ∉ deadOf σ τ:=by simpa using hd
 by_cases hq:(i,j)∈σ∧(i,j)∈τ
 ·exact hq
 ·exact absurd (List.mem_map.2 ⟨(i,j),List.mem_filter.2 ⟨hm,by simpa [Decidable.imp_iff_not_or] using hq⟩,rfl⟩) hd
theorem CI.handOut (h:CI P w0 m0 F0 s a w m ω) {σb σr τb τr:Ids} {bx bx':Boxes} {rw rw':Rows} (gb:goodIds σb=true) (gr:goodIds σr=true) (ob:okIn σb bx=true) (or:okIn σr rw=true)
  (ib:inB s σb σr bx) (ir:inR s σr rw) (tb:goodIds τb=true) (tr:goodIds τr=true) (pb:okOut s.n σb τb bx'=true) (pr:okOut s.n σr τr rw'=true)
  (hC:CI P w m (handed bx rw (whIn ω σb σr)) (roots bx' rw') a0 w' m' ω') :
  CI P w0 m0 F0 (s.io σb σr τb τr bx' rw') a w' m' (whOut ω ω' τb τr)∧∀v l,ERep m' ω' v l→ERep m' (whOut ω ω' τb τr) v (l.ids τb τr):=by
 have fwdB:∀i j,look τb i=some j→(whOut ω ω' τb τr).box j=ω'.box i:=fun i j hj=>by simp only [whOut,good_look tb hj]
 have fwdR:∀i j,look τr i=some j→(whOut ω ω' τb τr).row j=ω'.row i:=fun i j hj=>by simp only [whOut,good_look tr hj]
 -- whatever is named in the map over lives in the callee's state
 have liveB:∀i j,inv τb j=some i→(look bx' i).isSome∧(j<s.n∨(i,j)∈σb):=fun i j hj=>by
  have:=List.all_eq_true.1 pb _ (inv_mem hj)
  simpa using this
 have liveR:∀i j,inv τr j=some i→(look rw' i).isSome∧(j<s.n∨(i,j)∈σr):=fun i j hj=>by
  have:=List.all_eq_true.1 pr _ (inv_mem hj)
  simpa using this
 have inBx:∀i j,(i,j)∈σb→(look bx i).isSome∧(look s.box j).isSome:=fun i j hm=>by
  have:=List.all_eq_true.1 ob _ hm
  simp only [Bool.and_eq_true] at this
  obtain ⟨ls,hls⟩:=Option.isSome_iff_exists.1 this.1
  obtain ⟨j',h1,h2,_⟩:=inB_look ib i ls hls
  rw [(good_mem gb hm).2] at h1
  injection h1 with h1
  subst h1
  exact ⟨this.1,by rw [h2];rfl⟩
 have inRw:∀i j,(i,j)∈σr→(look rw i).isSome∧(look s.row j).isSome:=fun i j hm=>by
  have:=List.all_eq_true.1 or _ hm
  simp only [Bool.and_eq_true] at this
  obtain ⟨ls,hls⟩:=Option.isSome_iff_exists.1 this.1
  obtain ⟨j',h1,h2,_⟩:=inR_look ir i ls hls
  rw [(good_mem gr hm).2] at h1
  injection h1 with h1
  subst h1
  exact ⟨this.1,by rw [h2];rfl⟩
 -- what comes back lies where it lay
 have backB:∀i j,(i,j)∈σb→inv τb j=some i→ω'.box i=ω.box j:=fun i j hm hj=>by
  refine (hC.home.box i (ω.box j) ?_ (liveB i j hj).1)
  simp only [handed,(inBx i j hm).1,if_true,whIn,(good_mem gb hm).2]
 have backR:∀i j,(i,j)∈σr→inv τr j=some i→ω'.row i=ω.row j:=fun i j hm hj=>by
  refine (hC.home.row i (ω.row j) ?_ (liveR i j hj).1)
  simp only [handed,(inRw i j hm).1,if_true,whIn,(good_mem gr hm).2]
 have klB:∀j,(deadOf σb τb).elem j=false→(whOut ω ω' τb τr).box j=ω.box j:=fun j hj=>by
  simp only [whOut]
  split
  ·rename_i i hi
   have hk:=dead_keep (List.mem_append_right _ (inv_mem hi)) hj
   exact backB i j hk.1 hi
  ·rfl
 have klR:∀j,(deadOf σr τr).elem j=false→(whOut ω ω' τb τr).row j=ω.row j:=fun j hj=>by
  simp only [whOut]
  split
  ·rename_i i hi
   have hk:=dead_keep (List.mem_append_right _ (inv_mem hi)) hj
   exact backR i j hk.1 hi
  ·rfl
 have hE:∀v l,ERep m ω v l→ERep m' (whOut ω ω' τb τr) v (l.kl (deadOf σb τb) (deadOf σr τr)):=fun v l hl=>(kl_e klB klR hl).mono hC.mle
 have hI:∀v l,ERep m' ω' v l→ERep m' (whOut ω ω' τb τr) v (l.ids τb τr):=fun v l hl=>ids_fwd fwdB fwdR hl
 have R1:Remap m m' ω (whOut ω ω' τb τr) (L.kl (deadOf σb τb) (deadOf σr τr)):=⟨hC.mle,hE,fun _ _=>rfl,fun _ _=>rfl⟩
 have R2:Remap m' m' ω' (whOut ω ω' τb τr) (L.ids τb τr):=⟨Mem.le_refl _,hI,fun _ _=>rfl,fun _ _=>rfl⟩
 -- what was handed over was the caller's
 have own:∀k,handed bx rw (whIn ω σb σr) k→∃κ j,s.live κ j∧ω.f κ j k∧(match κ with|false=>j∈σb.map (·.2)|true=>j∈σr.map (·.2)):=by
  rintro k ⟨κ,i,hl,hk⟩
  cases κ with
  | false =>
   obtain ⟨ls,hls⟩:=Option.isSome_iff_exists.1 hl
   obtain ⟨j,h1,h2,_⟩:=inB_look ib i ls hls
   exact ⟨false,j,by show (look s.box j).isSome;rw [h2];rfl,by simpa only [whIn,h1] using hk,List.mem_map.2 ⟨_,look_mem19 h1,rfl⟩⟩
  | true =>
   obtain ⟨ls,hls⟩:=Option.isSome_iff_exists.1 hl
   obtain ⟨j,h1,h2,_⟩:=inR_look ir i ls hls
   exact ⟨true,j,by show (look s.row j).isSome;rw [h2];rfl,by simpa only [whIn,h1] using hk,List.mem_map.2 ⟨_,look_mem19 h1,rfl⟩⟩
 -- what stays
 have stays:∀κ j,(match κ with|false=>(look (dropL (idsOf σb τb) s.box) j).isSome|true=>(look (dropL (idsOf σr τr) s.row) j).isSome)→s.live κ j∧(∀k,ω.f κ j k→¬ handed bx rw (whIn ω σb σr) k)∧(match κ with|false=>inv τb j=Option.none|true=>inv τr j=Option.none):=by
  intro κ j hl
  have hinv:∀(τ:Ids),j ∉ τ.map (·.2)→inv τ j=Option.none:=fun τ hτ=>by
   cases hq:inv τ j with
   | none=>rfl
   | some i=>exact absurd (List.mem_map.2 ⟨_,inv_mem hq,rfl⟩) hτ
  have hap:s.live κ j→(match κ with|false=>j ∉ σb.map (·.2)|true=>j ∉ σr.map (·.2))→∀k,ω.f κ j k→¬ handed bx rw (whIn ω σb σr) k:=by
   intro hs hn k hk ho
   obtain ⟨κ',j',h1,h2,h3⟩:=own k ho
   obtain ⟨rfl,rfl⟩:=h.apart _ _ _ _ hs h1 k hk h2
   cases κ with
   | false=>exact hn h3
   | true=>exact hn h3
  cases κ with
  | false =>
   have hl:(look (dropL (idsOf σb τb) s.box) j).isSome:=hl
   rw [look_dropL] at hl
   cases hq:(idsOf σb τb).elem j with
   | true=>rw [hq] at hl;cases hl
   | false =>
    rw [hq] at hl
    have hq:j ∉ idsOf σb τb:=by simpa using hq
    simp only [idsOf,List.mem_append,not_or] at hq
    exact ⟨hl,hap hl hq.1,hinv _ hq.2⟩
  | true =>
   have hl:(look (dropL (idsOf σr τr) s.row) j).isSome:=hl
   rw [look_dropL] at hl
   cases hq:(idsOf σr τr).elem j with
   | true=>rw [hq] at hl;cases hl
   | false =>
    rw [hq] at hl
    have hq:j ∉ idsOf σr τr:=by simpa using hq
    simp only [idsOf,List.mem_append,not_or] at hq
    exact ⟨hl,hap hl hq.1,hinv _ hq.2⟩
 have lookD:∀{α:Type} {ks:List Nat} {e:List (Nat×α)} {j:Nat} {x:α},look (dropL ks e) j=some x→look e j=some x:=fun {α ks e j x} hx=>by
  rw [look_dropL] at hx
  split at hx
  ·cases hx
  ·exact hx
 -- a live number: it came back, or it stayed
 have hlive:∀κ j,(s.io σb σr τb τr bx' rw').live κ j→(∃i,(roots bx' rw').live κ i∧(whOut ω ω' τb τr).f κ j=ω'.f κ i∧(match κ with|false=>inv τb j=some i|true=>inv τr j=some i)) ∨
   (s.live κ j∧(∀k,ω.f κ j k→¬ handed bx rw (whIn ω σb σr) k)∧(whOut ω ω' τb τr).f κ j=ω.f κ j):=by
  intro κ j hl
  cases κ with
  | false =>
   simp only [St.live,St.io,look_append] at hl
   cases hq:inv τb j with
   | some i=>exact .inl ⟨i,(liveB i j hq).1,by simp only [whOut,hq],rfl⟩
   | none =>
    have:look (outB τb τr bx') j=Option.none:=by unfold outB;rw [look_out (fun i=>((look bx' i).getD []).map (L.ids τb τr)),hq];rfl
    rw [this] at hl
    simp only [look_map (List.map (L.kl (deadOf σb τb) (deadOf σr τr))),Option.isSome_map] at hl
    obtain ⟨h1,h2,h3⟩:=stays false j hl
    exact .inr ⟨h1,h2,by simp only [whOut,hq]⟩
  | true =>
   simp only [St.live,St.io,look_append] at hl
   cases hq:inv τr j with
   | some i=>exact .inl ⟨i,(liveR i j hq).1,by simp only [whOut,hq],rfl⟩
   | none =>
    have:look (outR τb τr rw') j=Option.none:=by unfold outR;rw [look_out (fun i=>((look rw' i).getD ⟨0,[],[]⟩).map (L.ids τb τr)),hq];rfl
    rw [this] at hl
    simp only [look_map (RowC.map (L.kl (deadOf σb τb) (deadOf σr τr))),Option.isSome_map] at hl
    obtain ⟨h1,h2,h3⟩:=stays true j hl
    exact .inr ⟨h1,h2,by simp only [whOut,hq]⟩
 have oldOk:∀k,handed bx rw (whIn ω σb σr) k→w0.heap.size≤k∨F0 k:=fun k hk=>by
  obtain ⟨κ,j,h1,h2,_⟩:=own k hk
  exact (h.fresh κ j h1 k h2).2.1
 refine ⟨{size:=h.size,defers:=h.defers,keeps:=?_,mle:=Mem.le_trans h.mle hC.mle,mold:=?_,ok:=hC.ok,env:=?_,box:=?_,row:=?_,fresh:=?_,apart:=?_,home:=?_,good:=h.good},hI⟩
 ·refine ⟨hC.keeps.os.trans h.keeps.os,hC.keeps.tape.trans h.keeps.tape,hC.keeps.output.trans h.keeps.output,Nat.le_trans h.keeps.size hC.keeps.size,fun k hk hF=>?_⟩
  refine (hC.keeps.block k (Nat.lt_of_lt_of_le hk h.keeps.size) fun ho=>?_).trans (h.keeps.block k hk hF)
  rcases oldOk k ho with hq|hq
  ·omega
  ·exact hF hq
 ·intro x hx hF
  refine (hC.mold x (Nat.lt_of_lt_of_le hx h.keeps.size) fun ho=>?_).trans (h.mold x hx hF)
  rcases oldOk _ ho with hq|hq
  ·omega
  ·exact hF hq
 ·intro t x hx
  obtain ⟨y,hy,rfl⟩:=map_look hx
  exact (h.env t y hy).map hE
 ·intro j ls hj
  simp only [St.io,look_append] at hj
  cases hq:inv τb j with
  | some i =>
   have e:look (outB τb τr bx') j=some (((look bx' i).getD []).map (L.ids τb τr)):=by unfold outB;rw [look_out (fun i=>((look bx' i).getD []).map (L.ids τb τr)),hq];rfl
   rw [e] at hj
   simp only [Option.some.injEq] at hj
   subst hj
   obtain ⟨ls,hls⟩:=Option.isSome_iff_exists.1 (liveB i j hq).1
   rw [hls]
   exact (hC.box i ls hls).remap R2 (by simp only [whOut,hq]) (by simp only [whOut,hq])
  | none =>
   have e:look (outB τb τr bx') j=Option.none:=by unfold outB;rw [look_out (fun i=>((look bx' i).getD []).map (L.ids τb τr)),hq];rfl
   rw [e] at hj
   obtain ⟨ls0,h1,rfl⟩:=map_look hj
   obtain ⟨h2,h3,h4⟩:=stays false j (by show (look (dropL (idsOf σb τb) s.box) j).isSome;rw [h1];rfl)
   have hk:=(h.box j ls0 (lookD h1)).keep (Mem.le_refl m) (w':=w') fun k hk=>hC.keeps.block k (h.fresh false j h2 k hk).1 (h3 k hk)
   exact hk.remap R1 (by simp only [whOut,hq]) (by simp only [whOut,hq])
 ·intro j r hj
  simp only [St.io,look_append] at hj
  cases hq:inv τr j with
  | some i =>
   have e:look (outR τb τr rw') j=some (((look rw' i).getD ⟨0,[],[]⟩).map (L.ids τb τr)):=by unfold outR;rw [look_out (fun i=>((look rw' i).getD ⟨0,[],[]⟩).map (L.ids τb τr)),hq];rfl
   rw [e] at hj
   simp only [Option.some.injEq] at hj
   subst hj
   obtain ⟨ls,hls⟩:=Option.isSome_iff_exists.1 (liveR i j hq).1
   rw [hls]
   exact (hC.row i ls hls).remap R2 (by simp only [whOut,hq]) (by simp only [whOut,hq])
  | none =>
   have e:look (outR τb τr rw') j=Option.none:=by unfold outR;rw [look_out (fun i=>((look rw' i).getD ⟨0,[],[]⟩).map (L.ids τb τr)),hq];rfl
   rw [e] at hj
   obtain ⟨r0,h1,rfl⟩:=map_look hj
   obtain ⟨h2,h3,h4⟩:=stays true j (by show (look (dropL (idsOf σr τr) s.row) j).isSome;rw [h1];rfl)
   have hk:=(h.row j r0 (lookD h1)).keep (Mem.le_refl m) (w':=w') fun k hk=>hC.keeps.block k (h.fresh true j h2 k hk).1 (h3 k hk)
   exact hk.remap R1 (by simp only [whOut,hq]) (by simp only [whOut,hq])
 ·intro κ j hl k hk
  rcases hlive κ j hl with ⟨i,h1,h2,_⟩|⟨h1,h2,h3⟩
  ·rw [h2] at hk
   obtain ⟨k1,k2,k3⟩:=hC.fresh κ i h1 k hk
   refine ⟨k1,?_,k3⟩
   rcases k2 with k2|k2
   ·exact .inl (Nat.le_trans h.keeps.size k2)
   ·exact oldOk k k2
  ·rw [h3] at hk
   obtain ⟨k1,k2,k3⟩:=h.fresh κ j h1 k hk
   refine ⟨Nat.lt_of_lt_of_le k1 hC.keeps.size,k2,fun x v hx he=>?_⟩
   subst he
   rw [hC.mold x k1 (h2 _ hk)] at hx
   exact k3 x v hx rfl
 ·intro κ j κ' j' hl hl' k hk hk'
  have sep:∀κ i κ' j,(roots bx' rw').live κ i→ω'.f κ i k→s.live κ' j→ω.f κ' j k→¬ handed bx rw (whIn ω σb σr) k→False:=by
   intro κ i κ' j h1 h2 h3 h4 h5
   obtain ⟨_,k2,_⟩:=hC.fresh κ i h1 k h2
   have k1:=(h.fresh κ' j h3 k h4).1
   rcases k2 with k2|k2
   ·omega
   ·exact h5 k2
  rcases hlive κ j hl with ⟨i,h1,h2,h3⟩|⟨h1,h2,h3⟩<;>rcases hlive κ' j' hl' with ⟨i',h1',h2',h3'⟩|⟨h1',h2',h3'⟩
  ·rw [h2] at hk
   rw [h2'] at hk'
   obtain ⟨rfl,rfl⟩:=hC.apart _ _ _ _ h1 h1' k hk hk'
   refine ⟨rfl,?_⟩
   cases κ with
   | false =>
    have e1:=good_inv tb h3
    have e2:=good_inv tb h3'
    rw [e1] at e2
    injection e2
   | true =>
    have e1:=good_inv tr h3
    have e2:=good_inv tr h3'
    rw [e1] at e2
    injection e2
  ·rw [h2] at hk
   rw [h3'] at hk'
   exact (sep _ _ _ _ h1 hk h1' hk' (h2' _ hk')).elim
  ·rw [h3] at hk
   rw [h2'] at hk'
   exact (sep _ _ _ _ h1' hk' h1 hk (h2 _ hk)).elim
  ·rw [h3] at hk
   rw [h3'] at hk'
   exact h.apart _ _ _ _ h1 h1' k hk hk'
 ·refine ⟨h.home.big,fun j b hb hl=>?_,fun j b hb hl=>?_⟩
  ·cases hq:inv τb j with
   | some i =>
    have e:(whOut ω ω' τb τr).box j=ω'.box i:=by simp only [whOut,hq]
    rcases (liveB i j hq).2 with hlt|hm
    ·have:=(h.home.big j (.inl (by rw [hb];rfl))).1
     omega
    ·rw [e,backB i j hm hq]
     exact h.home.box j b hb (inBx i j hm).2
   | none =>
    have e:(whOut ω ω' τb τr).box j=ω.box j:=by simp only [whOut,hq]
    rw [e]
    rcases hlive false j hl with ⟨i,_,_,h3⟩|⟨h1,_⟩
    ·have h3:inv τb j=some i:=h3
     rw [hq] at h3;cases h3
    ·exact h.home.box j b hb h1
  ·cases hq:inv τr j with
   | some i =>
    have e:(whOut ω ω' τb τr).row j=ω'.row i:=by simp only [whOut,hq]
    rcases (liveR i j hq).2 with hlt|hm
    ·have:=(h.home.big j (.inr (by rw [hb];rfl))).1
     omega
    ·rw [e,backR i j hm hq]
     exact h.home.row j b hb (inRw i j hm).2
   | none =>
    have e:(whOut ω ω' τb τr).row j=ω.row j:=by simp only [whOut,hq]
    rw [e]
    rcases hlive true j hl with ⟨i,_,_,h3⟩|⟨h1,_⟩
    ·have h3:inv τr j=some i:=h3
     rw [hq] at h3;cases h3
    ·exact h.home.row j b hb h1
theorem vrep_back {σb σr:Ids} (hb:∀i j,look σb i=some j→ω'.box i=ω.box j) (hr:∀i j,look σr i=some j→ω'.row i=ω.row j) {v:Value} {x:V} (hid:okV σb σr x=true)
  (h:VRep m ω v (x.map (L.ids σb σr))):VRep m ω' v x:=by
 cases x with
 | one l=>exact ids_back hb hr hid h
 | agg ls =>
  obtain ⟨cs,h1,h2,h3⟩:=h
  refine ⟨cs,h1,by simpa using h2,fun j l hl=>?_⟩
  obtain ⟨u,h4,h5⟩:=h3 j (l.ids σb σr) (by simp [hl])
  exact ⟨u,h4,ids_back hb hr (List.all_eq_true.1 hid l (List.mem_of_getElem? hl)) h5⟩
theorem CallMoves.io {f:FuncId} {xs ys:List V} {bx bx':Boxes} {rw rw':Rows} {r:A} {d:Option Tmp} (σb σr τb τr:Ids) (hS:SatM P f ys bx rw r bx' rw') (hd:s.okD d)
  (gb:goodIds σb=true) (gr:goodIds σr=true) (ob:okIn σb bx=true) (or:okIn σr rw=true) (ib:inB s σb σr bx) (ir:inR s σr rw)
  (tb:goodIds τb=true) (tr:goodIds τr=true) (pb:okOut s.n σb τb bx'=true) (pr:okOut s.n σr τr rw'=true)
  (hx:ys.map (V.map (L.ids σb σr))=xs) (hy:ys.all (okV σb σr)=true):CallMoves P f xs s d ((s.io σb σr τb τr bx' rw').putO d (r.map (L.ids τb τr))):=by
 intro w0 m0 F0 a w m ω h vs hA
 have hIn:=h.handIn gb gr ob or ib ir
 have hA':ArgsRep m (whIn ω σb σr) vs ys:=by
  subst hx
  refine ⟨by simpa using hA.1,fun i x hi=>?_⟩
  obtain ⟨v,h1,h2⟩:=hA.2 i (x.map (L.ids σb σr)) (by simp [hi])
  exact ⟨v,h1,vrep_back (fun i j hj=>by simp only [whIn,hj]) (fun i j hj=>by simp only [whIn,hj]) (List.all_eq_true.1 hy x (List.mem_of_getElem? hi)) h2⟩
 refine (hS.call m w vs (whIn ω σb σr) hIn hA').mono fun v w' hp=>?_
 obtain ⟨m',ω',hC,hv⟩:=hp
 obtain ⟨h1,h2⟩:=h.handOut gb gr ob or ib ir tb tr pb pr hC
 exact ⟨m',_,h1.putO hd (hv.map h2)⟩
theorem CallG.io {f:FuncId} {xs ys:List V} {bx bx':Boxes} {rw rw':Rows} {r:A} {d:Option Tmp} {K:St→Prop} (σb σr τb τr:Ids) (hS:SatM P f ys bx rw r bx' rw')
  (gs:(goodIds σb&&goodIds σr&&goodIds τb&&goodIds τr&&okIn σb bx&&okIn σr rw&&okOut s.n σb τb bx'&&okOut s.n σr τr rw'&&ys.all (okV σb σr))=true)
  (hx:ys.map (V.map (L.ids σb σr))=xs) (hin:inB s σb σr bx∧inR s σr rw) (h:s.okD d∧K ((s.io σb σr τb τr bx' rw').putO d (r.map (L.ids τb τr)))):CallG P f xs s d K:=by
 simp only [Bool.and_eq_true] at gs
 obtain ⟨⟨⟨⟨⟨⟨⟨⟨g1,g2⟩,g3⟩,g4⟩,g5⟩,g6⟩,g7⟩,g8⟩,g9⟩:=gs
 exact ⟨_,.io σb σr τb τr hS h.1 g1 g2 g5 g6 hin.1 hin.2 g3 g4 g7 g8 hx g9,h.2⟩
end
end Go.Bw
namespace Go.Bw
def ioSt (s:St) (kb kr ib ir:List Nat) (bo:Boxes) (ro:Rows):St :=
 {n:=s.n,env:=s.env.map fun p=>(p.1,p.2.map (L.kl kb kr)),box:=bo++(dropL ib s.box).map fun p=>(p.1,p.2.map (L.kl kb kr)),row:=ro++(dropL ir s.row).map fun p=>(p.1,p.2.map (L.kl kb kr))}
theorem ioSt_mk (n:Nat) (e:List (Nat×A)) (b:Boxes) (k:Rows) (kb kr ib ir:List Nat) (bo:Boxes) (ro:Rows):ioSt ⟨n,e,b,k⟩ kb kr ib ir bo ro =
  ⟨n,e.map fun p=>(p.1,p.2.map (L.kl kb kr)),bo++(dropL ib b).map fun p=>(p.1,p.2.map (L.kl kb kr)),ro++(dropL ir k).map fun p=>(p.1,p.2.map (L.kl kb kr))⟩:=rfl
theorem CallJ.io {P:Program} {T:TypeId→Option TI} {ops:Array Oper} {d:Option Tmp} {l:List Oper} {s:St} {K:St→Prop} {f:FuncId} {xs ys:List V} {bx bx':Boxes} {rw rw':Rows} {r:A} (σb σr τb τr:Ids) (kb kr ib ir:List Nat)
  (hS:SatM P f ys bx rw r bx' rw') (gs:(goodIds σb&&goodIds σr&&goodIds τb&&goodIds τr&&okIn σb bx&&okIn σr rw&&okOut s.n σb τb bx'&&okOut s.n σr τr rw'&&ys.all (okV σb σr))=true)
  (hd:deadOf σb τb=kb∧deadOf σr τr=kr∧idsOf σb τb=ib∧idsOf σr τr=ir) (hx:ys.map (V.map (L.ids σb σr))=xs) (hin:inB s σb σr bx∧inR s σr rw)
  (hk:s.okD d∧VOps P T ops l ((ioSt s kb kr ib ir (outB τb τr bx') (outR τb τr rw')).putO d (r.map (L.ids τb τr))) K):CallJ P T ops d l s K (f,xs):=by
 obtain ⟨rfl,rfl,rfl,rfl⟩:=hd
 exact CallG.io σb σr τb τr hS gs hx hin hk
theorem inB_nil (s:St) (σb σr:Ids):inB s σb σr []=True:=rfl
theorem inR_nil (s:St) (σr:Ids):inR s σr []=True:=rfl
theorem inB_cons (s:St) (σb σr:Ids) (i:Nat) (ls:List L) (r:Boxes):inB s σb σr ((i,ls)::r)=(mO (look σb i) (fun j=>look s.box j=some (ls.map (L.ids σb σr))∧ls.all (okIds σb σr)=true)∧inB s σb σr r):=rfl
theorem inR_cons (s:St) (σr:Ids) (i:Nat) (q:RowC) (r:Rows):inR s σr ((i,q)::r)=(mO (look σr i) (fun j=>q.ov=[]∧look s.row j=some q)∧inR s σr r):=rfl
theorem outB_nil (τr:Ids) (bx:Boxes):outB [] τr bx=[]:=rfl
theorem outR_nil (τb:Ids) (rw:Rows):outR τb [] rw=[]:=rfl
theorem run_overlaps_zero {P:Program} (w:World) (tS tR e:TypeId) (ht:P.underlying tS=some (.slice e)) (size:Nat) (hz:∀w,(Go.sizeOf e).run P w=.ok size w) (A B:Option Addr) (ca lb cb:Nat) :
  (Extern.SlicesOverlaps.overlaps #[tS,tS] #[tR] #[.slice A 0 ca,.slice B lb cb]).run P w=.ok (.bool false) w:=by
 change Sem.run P (α:=Value) (do
  let some t:=(#[tS,tS]:Array TypeId)[0]?|stuck "slices.overlaps: no parameter types"
  let .slice elem ←underlying t|stuck "slices.overlaps: slice type expected"
  let size ←sizeOf elem
  match (A:Option Addr),(B:Option Addr) with
  | some a,some b =>
   if 0=0∨lb=0∨size=0 then pure (Value.bool false)
   else if a.block != b.block&&(←frozen a)&&(←frozen b) then unsupported .addressObserved
   else do
    if a.block != b.block then do
     noView a;noView b
     if ←mayBeOne a b then return Value.bool ((←choose (.extern "sameAddr.stringBytes" 2))==1)
    pure (Value.bool (a.block==b.block&&a.off<b.off+lb * size&&b.off<a.off+0 * size))
  | _,_=>pure (Value.bool false)) w=_
 cases A<;>cases B<;>simp [run_underlying ht,hz]
theorem CallMoves.apart {P:Program} {f:FuncId} {fn:Func} {s:St} {d:Option Tmp} {t e:TypeId} {id lo n id' lo' n':Nat} {r r':RowC} {tR:TypeId} {sz:Nat} (hf:P.funcs[f]?=some fn) (hname:(fn.name=="runtime.NumGoroutine")=false)
  (hb:fn.body.isNone=true) (hn:Extern.findNext fn=none) (he:Extern.find fn=some (Extern.SlicesOverlaps.overlaps #[t,t] #[tR])) (ht:P.underlying t=some (.slice e)) (hz:∀w,(sizeOf e).run P w=.ok sz w)
  (hd:s.okD d) (hne:id≠id') (hr:look s.row id=some r) (hr':look s.row id'=some r') (hcl:ovOut r'.ov r'.xs.length) (hfit:lo'+n'≤r'.xs.length) (h0:0<n') (hs0:0<r'.sz) :
  CallMoves P f [.one (.ref id lo n),.one (.ref id' lo' n')] s d (St.putO {s with row:=sput id' ⟨r'.sz,r'.xs.take (lo'+n'),[]⟩ s.row} d (.v (.one (.bool false)))):=by
 intro w0 m0 F0 a w m ω h vs hA
 obtain ⟨hl,hA⟩:=hA
 obtain ⟨v1,h1,r1⟩:=hA 0 _ rfl
 obtain ⟨v2,h2,r2⟩:=hA 1 _ rfl
 have ee:vs.toArray=#[v1,v2]:=by
  match vs,hl,h1,h2 with
  | [x,y],_,h1,h2=>simp at h1 h2;rw [h1,h2]
 have r1:RefAt (ω.row id) lo n v1:=r1
 have r2:RefAt (ω.row id') lo' n' v2:=r2
 have hC:=h.rowCut hr' (ovOut_get hcl) hfit
 have hrun:(Extern.SlicesOverlaps.overlaps #[t,t] #[tR] #[v1,v2]).run P w=.ok (.bool false) w:=by
  rcases r2 with ⟨_,_,hn0,_⟩|⟨b',ad',k1',k2',hv2,k4'⟩
  ·omega
  obtain ⟨q1',q2',q3'⟩:=h.row id' r' hr'
  rw [k1'] at q3'
  obtain ⟨cs',e',p1',p2',p3',p4',p5',_⟩:=q3'
  have had':=k4' (.inl (by omega))
  rcases r1 with ⟨_,_,hn0,hv1⟩|⟨b,ad,k1,k2,hv1,k4⟩
  ·rw [hv1,hv2]
   exact run_overlaps_zero w t tR e ht sz hz _ _ _ _ _
  by_cases hlt:lo<(ω.row id).cap∨lo=0
  ·obtain ⟨q1,q2,q3⟩:=h.row id r hr
   rw [k1] at q3
   obtain ⟨cs,e0,p1,p2,p3,p4,p5,_⟩:=q3
   have had:=k4 hlt
   subst had had'
   rw [hv1,hv2]
   have hbb:b≠b':=by
    intro hbb
    subst hbb
    have:=(h.apart true id true id' (by show (look s.row id).isSome;rw [hr];rfl) (by show (look s.row id').isSome;rw [hr'];rfl) b p5 p5').2
    exact hne this
   refine Lib.run_overlaps_apart w t tR e ht sz hz _ _ _ _ _ _ hbb e0 e' cs.size cs'.size ?_ ?_ ?_ ?_ ?_
   ·simp [World.shape?,p1]
   ·simp [World.shape?,p1']
   ·rw [p2']
    have:0<(ω.row id').cap:=by omega
    exact Nat.ne_of_gt (Nat.mul_pos this hs0)
   ·simp [World.frozen?,p1]
   ·simp [World.frozen?,p1]
  ·have hn0:n=0:=by omega
   subst hn0
   rw [hv1,hv2]
   exact run_overlaps_zero w t tR e ht sz hz _ _ _ _ _
 refine .inl ⟨.bool false,w,?_,m,ω,hC.putO hd (Rep.bool false)⟩
 rw [ee,run_callFunc_extern hf hname hb hn he,hrun]
 rfl
theorem CallMoves.froz {P:Program} {f:FuncId} {xs ys:List V} {r:A} {s:St} {d:Option Tmp} (kb kr:List Nat) (hd:s.okD d) (hS:Sat P f ys r) (hy:(xs.map fun x=>x.map (topL kb kr (s.rest kb kr)))=ys):CallMoves P f xs s d ((s.freeze kb kr).putO d (r.map L.clos)):=by
 intro w0 m0 F0 a w m ω h vs hA
 obtain ⟨m',h',hle,hg⟩:=h.freeze kb kr
 have hA':ArgsRep m' ω vs ys:=by
  subst hy
  refine ⟨by simpa using hA.1,fun i x hi=>?_⟩
  rw [List.getElem?_map,Option.map_eq_some_iff] at hi
  obtain ⟨x0,hi,rfl⟩:=hi
  obtain ⟨v,h1,h2⟩:=hA.2 i x0 hi
  exact ⟨v,h1,h2.map hg⟩
 have hd':(s.freeze kb kr).okD d:=by
  cases d with
  | none=>trivial
  | some d=>exact hd
 exact CallMoves.pure hd' hS w0 m0 F0 a w m' ω h' vs hA'
theorem CallJ.froz {P:Program} {T:TypeId→Option TI} {ops:Array Oper} {d:Option Tmp} {l:List Oper} {s:St} {K:St→Prop} {f:FuncId} {xs ys:List V} {r:A} (kb kr:List Nat) (h:Sat P f ys r) (hy:(xs.map fun x=>x.map (topL kb kr (s.rest kb kr)))=ys)
  (hk:s.okD d∧VOps P T ops l ((s.freeze kb kr).putO d (r.map L.clos)) K):CallJ P T ops d l s K (f,xs):=⟨_,.froz kb kr hk.1 h hy,hk.2⟩
theorem CallJ.frozI {P:Program} {T:TypeId→Option TI} {ops:Array Oper} {d:Option Tmp} {l:List Oper} {s:St} {K:St→Prop} {f:FuncId} {xs ys:List V} {r:A} (kb kr:List Nat) (hy:(xs.map fun x=>x.map (topL kb kr (s.rest kb kr)))=ys) (h:Sat P f ys r)
  (hk:s.okD d∧VOps P T ops l ((s.freeze kb kr).putO d (r.map L.clos)) K):CallJ P T ops d l s K (f,xs):=.froz kb kr h hy hk
theorem AWP.drawT {P:Program} {T:TypeId→Option TI} {w0:World} {m0:Mem} {F0:Home} {Q:Exit→St→Prop} {s:St} {id:Nat} {l l1 l2:List Oper} (hT:TabOk P T) (hm:P.follows .mixedOrders=true) (na dep:Nat) (hchk:drawOk l.toArray na dep=true) (h1:l.take na=l1) (h2:l.drop na=l2)
  (h:∀K2:St→Prop,(∀s',(∀K:St→Prop,(∀s',Q .normal s'→K s')→VOps P T l.toArray l2 s' K)→K2 s')→VHead P T l.toArray l1 s K2):AWP P w0 m0 F0 (.region id l.toArray true) Q s :=
 AWP.draw hT hm na dep rfl hchk h1 h2 fun K hK=>h (fun s'=>VOps P T l.toArray l2 s' K) fun _ ht=>ht K hK
end Go.Bw
