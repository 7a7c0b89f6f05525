/- Proved: contracts of functions of this translation, for every state, and what they rest on; bounds stand ahead. -/
import Derived.IntWalk
import Derived.Lib.Overlaps
import Derived.Laws.Externs
import Derived.Test.YtmnpdfeocknafaaGreatDoorVa
set_option linter.unusedSimpArgs false
set_option linter.unusedVariables false
namespace Go.Bw
open Go.RowKit
section
variable {P:Program} {w0:World} {m0:Mem} {s s':St} {a:Act} {w:World} {m:Mem} {ω:Wh} {F0:Home} {T:TypeId→Option TI}
def mO {α:Type} (x:Option α) (k:α→Prop):Prop:=match x with|some y=>k y|none=>False
theorem be {α:Type} {k:α→Prop} (y:α):mO (some y) k=k y:=rfl
theorem aF {α:Type} {x:Option α} {k:α→Prop} (h:mO x k):∃y,x=some y∧k y:=by
 cases x with
 | none=>cases h
 | some y=>exact ⟨y,rfl,h⟩
def HW (P:Program) (s:St) (f:FuncId) (xs:List V) (k:A→Prop):Prop:=∃r,(Sat P f xs r∧k (r.map L.cP))∨(Sat P f (xs.map fun x=>x.map (gN 4 ⟨0,[],[],s.row⟩)) r∧k (r.map L.flat))
def oneOf:Option A→Option L|some (.v (.one l))=>some l|_=>none
def eQ:Option A→Option Bool|some (.v (.one (.bool b)))=>some b|_=>none
def fI:Option A→Option Int|some (.v (.one (.int _ n)))=>some n|_=>none
def fT:Option A→Option (List V)|some (.cR xs)=>some xs|_=>none
def fE:Option A→Option V|some (.v x)=>some x|_=>none
def fU:Option A→Option (List L)|some (.v (.agg ls))=>some ls|_=>none
theorem rf {x:Option A} {l:L} (h:oneOf x=some l):x=some (.v (.one l)):=by
 unfold oneOf at h;split at h<;>simp_all
theorem Fh {x:Option A} {b:Bool} (h:eQ x=some b):x=some (.v (.one (.bool b))):=by
 unfold eQ at h;split at h<;>simp_all
theorem LP {x:Option A} {n:Int} (h:fI x=some n):∃k,x=some (.v (.one (.int k n))):=by
 unfold fI at h;split at h<;>simp_all
theorem RB {x:Option A} {xs:List V} (h:fT x=some xs):x=some (.cR xs):=by
 unfold fT at h;split at h<;>simp_all
theorem Dt {x:Option A} {y:V} (h:fE x=some y):x=some (.v y):=by
 unfold fE at h;split at h<;>simp_all
theorem RC {x:Option A} {ls:List L} (h:fU x=some ls):x=some (.v (.agg ls)):=by
 unfold fU at h;split at h<;>simp_all
def dt (T:TypeId→Option TI) (t:TypeId):Option TI:=(T t).bind fun i=>i.elem.bind T
theorem wx (hT:pR P T) {t:TypeId} {j:TI} (h:dt T t=some j):∃i e,T t=some i∧i.elem=some e∧T e=some j∧gM P t i=true∧gM P e j=true:=by
 unfold dt at h
 cases hi:T t with
 | none=>rw [hi] at h;cases h
 | some i =>
  rw [hi] at h
  simp only [dJ] at h
  cases he:i.elem with
  | none=>rw [he] at h;cases h
  | some e =>
   rw [he] at h
   simp only [dJ] at h
   exact ⟨i,e,rfl,he,h,hT _ _ hi,hT _ _ h⟩
theorem Fi {t:TypeId} {k:IntKind} (h:ug P t=some k):P.underlying t=some (.int k):=by
 unfold ug at h
 split at h
 ·injection h with h;subst h;assumption
 ·cases h
def eC (s:St) (i:TI) (K:A→Prop):L→Prop
 | .fz ls=>mO (dR i ls) fun z=>K (.v z)
 | .ptr id off=>mO (look s.box id) fun ls=>mO (dR i ((ls.drop off).map L.dQ)) fun z=>K (.v z)
 | .dj id k off=>mO (look s.row id) fun r=>k<r.xs.length∧mO (dR i ((dS r.ov k 0 (r.xs.getD k [])).drop off)) fun z=>K (.v z)
 | _=>False
def eF (s:St) (j:TI) (n:Int) (K:A→Prop):L→Prop
 | .sl sz xs=>(0≤n∧n<xs.length)∧j.size=sz∧K (.v (.one (.fz (xs.getD n.toNat []))))
 | .ref id lo q=>mO (look s.row id) fun r=>(0≤n∧n<q)∧j.size=r.sz∧K (.v (.one (.dj id (lo+n.toNat) 0)))
 | _=>False
def eD (T:TypeId→Option TI) (s:St) (t:TypeId) (lo hi:Option Operand) (K:A→Prop):L→Prop
 | .str q=>mO (T t) fun i=>mO (cY T s t 0 lo) fun l=>mO (cY T s t q.size hi) fun h=>(0≤l∧l≤h∧h≤q.size)∧i.bB=true∧K (.v (.one (.str (q.extract l.toNat h.toNat))))
 | .sl sz xs=>mO (dt T t) fun j=>mO (cY T s t 0 lo) fun l=>mO (cY T s t xs.length hi) fun h=>(0≤l∧l≤h∧h≤xs.length)∧j.size=sz∧K (.v (.one (.sl sz ((xs.take h.toNat).drop l.toNat))))
 | .nil sz=>mO (dt T t) fun j=>mO (cY T s t 0 lo) fun l=>mO (cY T s t 0 hi) fun h=>(0≤l∧l≤h∧h≤0)∧j.size=sz∧K (.v (.one (.nil sz)))
 | .ref id b q=>mO (dt T t) fun j=>mO (look s.row id) fun r=>mO (cY T s t 0 lo) fun l=>mO (cY T s t q hi) fun h=>(0≤l∧l≤h∧(h≤q∨(h≤r.xs.length - b∧b≤r.xs.length)))∧j.size=r.sz∧K (.v (.one (.ref id (b+l.toNat) (h.toNat - l.toNat))))
 | _=>False
def eY (T:TypeId→Option TI) (s:St) (i:TI) (y:Operand) (K:A→Prop):L→Prop
 | .str q=>mO (fI (aE T s 0 y)) fun n=>(0≤n∧n<q.size)∧i.bB=true∧K (.v (.one (.int .u8 ((q.data.toList.getD n.toNat 0).toNat:Nat))))
 | _=>False
def eZ (P:Program) (op:BinOp) (t:TypeId) (K:A→Prop):V→V→Prop
 | .one l1,.one l2=>mO (fV P t op l1 l2) fun p=>p.1∧K (.v (.one p.2))
 | .agg xs,.agg ys=>mO (Ar P t) fun ks=>(xs.map L.kd=ks∧ys.map L.kd=ks)∧mO (dE xs ys) fun b=>mO (fW op b) fun b'=>K (.v (.one (.bool b')))
 | _,_=>False
def fj (P:Program) (T:TypeId→Option TI) (t t':TypeId) (K:A→Prop):L→Prop
 | .int _ n=>(P.underlying t).isSome=true∧mO (ug P t') fun k'=>K (.v (.one (.int k' (k'.wrap n))))
 | .str q=>mO (T t) fun i=>mO (T t') fun i'=>mO i'.elem fun e=>(i.bB=true∧ug P e=some .u8)∧K (.v (.one (.sl 1 (chunks 1 q.size (q.data.toList.map fun b=>L.int .u8 b.toNat)))))
 | _=>False
def Fj (K:A→Prop):L→Prop
 | .int k n=>K (.v (.one (.int k (k.wrap (0 - n)))))
 | _=>False
def bF (P:Program) (T:TypeId→Option TI) (o:Oper) (s:St) (K:A→Prop):Prop :=
 match o.op with
 | .move x=>mO (aE T s o.type x) K
 | .assign x=>mO (aE T s o.type x) K
 | .pick c x y=>mO (eQ (aE T s 0 c)) fun b=>mO (aE T s o.type (if b then x else y)) K
 | .unOp .not _ x=>mO (eQ (aE T s 0 x)) fun b=>K (.v (.one (.bool !b)))
 | .load t x=>mO (T t) fun i=>mO (oneOf (aE T s 0 x)) (eC s i K)
 | .fieldAddr t x f=>mO (T t) fun i=>mO (oneOf (aE T s 0 x)) fun y=>mO (fX i f) fun off=>mO (fQ off y) fun z=>K (.v (.one z))
 | .field t x f=>mO (T t) fun i=>mO i.fields fun l=>mO l[f]? fun p=>mO (T p.2) fun j=>mO (fU (aE T s 0 x)) fun ls=>p.1+j.size≤ls.length∧mO (eN j.agg ((ls.drop p.1).take j.size)) fun z=>K (.v z)
 | .indexAddr t x y=>mO (dt T t) fun j=>mO (fI (aE T s 0 y)) fun n=>mO (oneOf (aE T s 0 x)) (eF s j n K)
 | .index t x y=>mO (T t) fun i=>mO (oneOf (aE T s 0 x)) (eY T s i y K)
 | .extract x k=>mO (fT (aE T s 0 x)) fun xs=>mO xs[k]? fun y=>K (.v y)
 | .binOp op t x y _=>mO (fE (aE T s t x)) fun v1=>mO (fE (aE T s t y)) fun v2=>eZ P op t K v1 v2
 | .build t parts=>mO (T t) fun i=>mO i.fields fun l=>mO i.zero fun z=>mO (placesOf T l) fun pl=>mO (dB T s 0 (fun k=>pl[k]?) z parts.toList) fun ls=>K (.v (.agg ls))
 | .buildSlice t len parts=>mO (dt T t) fun j=>mO j.zero fun z=>(z.length=j.size∧0<j.size∧len * j.size≤16777216) ∧
   mO (dB T s 0 (fun k=>some (k * j.size,j.size)) (dP z len) parts.toList) fun ls=>ls.all L.dH=true∧K (.v (.one (.sl j.size (chunks j.size len (ls.map L.cP)))))
 | .makeFunc (.func f) first caps=>first=#[]∧mO (ff s T 0 caps.toList) fun cs=>K (.v (.one (.bD f cs)))
 | .slice t x lo hi none=>mO (oneOf (aE T s t x)) (eD T s t lo hi K)
 | .slice t x lo hi (some z)=>mO (dt T t) fun _=>mO (oneOf (aE T s t x)) fun v1=>mO (nL v1) fun n=>mO (cY T s t 0 lo) fun l=>mO (cY T s t n hi) fun h=>mO (cY T s t 0 (some z)) fun mx=>(0≤l∧l≤h∧h≤mx∧mx≤n)∧hi.isSome=true∧K (.v (.one .any))
 | .nilCheck x=>mO (oneOf (aE T s 0 x)) fun y=>fY y=true∧K (.v (.one y))
 | .convert t t' x=>mO (oneOf (aE T s 0 x)) (fj P T t t' K)
 | .call c=>(match c.callee with
   | .builtin .len=>(match c.args.toList,c.argTypes.toList with
    | [x],[t]=>mO (T t) fun i=>mO (oneOf (aE T s t x)) fun l=>mO (fZ l) fun n=>gd i l=true∧K (.v (.one (.int .i64 n)))
    | _,_=>False)
   | .builtin .max=>(match c.args.toList with
    | [x,y]=>mO (oneOf (aE T s 0 x)) fun l1=>mO (oneOf (aE T s 0 y)) fun l2=>mO (gf l1 l2) fun l=>K (.v (.one l))
    | _=>False)
   | .builtin .min=>(match c.args.toList with
    | [x,y]=>mO (oneOf (aE T s 0 x)) fun l1=>mO (oneOf (aE T s 0 y)) fun l2=>mO (gg l1 l2) fun l=>K (.v (.one l))
    | _=>False)
   | .value _=>mO (ez T s c) fun p=>HW P s p.1 p.2 K
   | _=>False)
 | .unOp .neg _ x=>mO (oneOf (aE T s 0 x)) (Fj K)
 | _=>False
theorem RD (hT:pR P T) {o:Oper} {t:TypeId} {x:Operand} {lo hi:Option Operand} {K:A→Prop} (ho:o.op=.slice t x lo hi none) (h:CI P w0 m0 F0 s a w m ω) {l:L} (hx:aE T s t x=some (.v (.one l))) (hV:eD T s t lo hi K l):∃x,K x∧qh P w0 m0 F0 s o x a w ω:=by
 cases l with
 | str q =>
  obtain ⟨i,hi,hV⟩:=aF hV
  obtain ⟨l,hl,hV⟩:=aF hV
  obtain ⟨hh,hhi,hV⟩:=aF hV
  obtain ⟨⟨h0,h1,h2⟩,hs,hK⟩:=hV
  exact ⟨_,hK,RE ho (hT _ _ hi) hs h hx hl hhi h0 h1 h2⟩
 | sl sz xs =>
  obtain ⟨j,hj,hV⟩:=aF hV
  obtain ⟨l,hl,hV⟩:=aF hV
  obtain ⟨hh,hhi,hV⟩:=aF hV
  obtain ⟨⟨h0,h1,h2⟩,hs,hK⟩:=hV
  obtain ⟨i,e,hi',he,hE,hti,htj⟩:=wx hT hj
  exact ⟨_,hK,RF ho hti he htj hs h hx hl hhi h0 h1 h2⟩
 | nil sz =>
  obtain ⟨j,hj,hV⟩:=aF hV
  obtain ⟨l,hl,hV⟩:=aF hV
  obtain ⟨hh,hhi,hV⟩:=aF hV
  obtain ⟨⟨h0,h1,h2⟩,hs,hK⟩:=hV
  obtain ⟨i,e,hi',he,hE,hti,htj⟩:=wx hT hj
  exact ⟨_,hK,RG ho hti he htj h hx hl hhi h0 h1 h2⟩
 | ref id b q =>
  obtain ⟨j,hj,hV⟩:=aF hV
  obtain ⟨r,hr,hV⟩:=aF hV
  obtain ⟨l,hl,hV⟩:=aF hV
  obtain ⟨hh,hhi,hV⟩:=aF hV
  obtain ⟨⟨h0,h1,h2⟩,hs,hK⟩:=hV
  obtain ⟨i,e,hi',he,hE,hti,htj⟩:=wx hT hj
  exact ⟨_,hK,RH ho hti he htj h hx hr hs hl hhi h0 h1 (h2.imp (fun q=>q) (fun q=>⟨by omega,q.2⟩))⟩
 | _=>cases hV
theorem CO (hT:pR P T) {o:Oper} {K:A→Prop} (hV:bF P T o s K) (h:CI P w0 m0 F0 s a w m ω):∃x,K x∧qh P w0 m0 F0 s o x a w ω:=by
 unfold bF at hV
 split at hV
 case h_1 x ho=>obtain ⟨y,hy,hK⟩:=aF hV;exact ⟨y,hK,LQ ho h hy⟩
 case h_2 x ho=>obtain ⟨y,hy,hK⟩:=aF hV;exact ⟨_,hK,LR ho h hy⟩
 case h_3 c x y ho =>
  obtain ⟨b,hb,hV⟩:=aF hV
  obtain ⟨z,hz,hK⟩:=aF hV
  exact ⟨z,hK,RI ho h (Fh hb) hz⟩
 case h_4 t x ho=>obtain ⟨b,hb,hK⟩:=aF hV;exact ⟨_,hK,RJ ho h (Fh hb)⟩
 case h_5 t x ho =>
  obtain ⟨i,hi,hV⟩:=aF hV
  obtain ⟨y,hy,hV⟩:=aF hV
  have hy:=rf hy
  cases y with
  | fz ls =>
   obtain ⟨z,hz,hK⟩:=aF hV
   exact ⟨_,hK,RK ho (hT _ _ hi) h hy hz⟩
  | ptr id off =>
   obtain ⟨ls,hls,hV⟩:=aF hV
   obtain ⟨z,hz,hK⟩:=aF hV
   exact ⟨_,hK,RL ho (hT _ _ hi) h hy hls hz⟩
  | dj id k off =>
   obtain ⟨r,hr,hk,hV⟩:=aF hV
   obtain ⟨z,hz,hK⟩:=aF hV
   exact ⟨_,hK,RM ho (hT _ _ hi) h hy hr hk hz⟩
  | _=>cases hV
 case h_6 t x f ho =>
  obtain ⟨i,hi,hV⟩:=aF hV
  obtain ⟨y,hy,hV⟩:=aF hV
  obtain ⟨off,hoff,hV⟩:=aF hV
  obtain ⟨z,hz,hK⟩:=aF hV
  exact ⟨_,hK,RN ho (hT _ _ hi) h (rf hy) hoff hz⟩
 case h_7 t x f ho =>
  obtain ⟨i,hi,hV⟩:=aF hV
  obtain ⟨l,hl,hV⟩:=aF hV
  obtain ⟨⟨off,ft⟩,hp,hV⟩:=aF hV
  obtain ⟨j,hj,hV⟩:=aF hV
  obtain ⟨ls,hls,hfit,hV⟩:=aF hV
  obtain ⟨z,hz,hK⟩:=aF hV
  exact ⟨_,hK,RO ho (hT _ _ hi) hl hp (hT _ _ hj) h (RC hls) hfit hz⟩
 case h_8 t x y ho =>
  obtain ⟨j,hj,hV⟩:=aF hV
  obtain ⟨n,hn,hV⟩:=aF hV
  obtain ⟨l,hx,hV⟩:=aF hV
  obtain ⟨k,hn⟩:=LP hn
  have hx:=rf hx
  obtain ⟨i,e,hi,he,hE,hti,htj⟩:=wx hT hj
  cases l with
  | sl sz xs =>
   obtain ⟨⟨h0,h1⟩,hs,hK⟩:=hV
   exact ⟨_,hK,RP ho hti he htj hs h hx hn h0 h1⟩
  | ref id lo q =>
   obtain ⟨r,hr,⟨h0,h1⟩,hs,hK⟩:=aF hV
   exact ⟨_,hK,RQ ho hti he htj h hx hr hs hn h0 h1⟩
  | _=>cases hV
 case h_9 t x y ho =>
  obtain ⟨i,hi,hV⟩:=aF hV
  obtain ⟨l,hl,hV⟩:=aF hV
  cases l with
  | str q =>
   obtain ⟨n,hn,hV⟩:=aF hV
   obtain ⟨⟨h0,h1⟩,hs,hK⟩:=hV
   obtain ⟨k,hn⟩:=LP hn
   exact ⟨_,hK,RR ho (hT _ _ hi) hs h (rf hl) hn h0 h1⟩
  | _=>cases hV
 case h_10 x k ho =>
  obtain ⟨xs,hx,hV⟩:=aF hV
  obtain ⟨y,hy,hK⟩:=aF hV
  exact ⟨_,hK,RS ho h (RB hx) hy⟩
 case h_11 op t x y t' ho =>
  obtain ⟨v1,h1,hV⟩:=aF hV
  obtain ⟨v2,h2,hV⟩:=aF hV
  unfold eZ at hV
  split at hV
  ·obtain ⟨⟨p,l⟩,h3,hp,hK⟩:=aF hV
   exact ⟨_,hK,RU ho h (Dt h1) (Dt h2) h3 hp⟩
  ·obtain ⟨ks,hk,⟨h3,h4⟩,hV⟩:=aF hV
   obtain ⟨b,hb,hV⟩:=aF hV
   obtain ⟨b',hb',hK⟩:=aF hV
   exact ⟨_,hK,RV ho hk h (Dt h1) (Dt h2) h3 h4 hb hb'⟩
  ·cases hV
 case h_12 t parts ho =>
  obtain ⟨i,hi,hV⟩:=aF hV
  obtain ⟨l,hl,hV⟩:=aF hV
  obtain ⟨z,hz,hV⟩:=aF hV
  obtain ⟨pl,hp,hV⟩:=aF hV
  obtain ⟨ls,hls,hK⟩:=aF hV
  exact ⟨_,hK,RW ho hT hi hl hz hp h hls⟩
 case h_13 t len parts ho =>
  obtain ⟨j,hj,hV⟩:=aF hV
  obtain ⟨z,hz,hc,hV⟩:=aF hV
  obtain ⟨ls,hls,hfz,hK⟩:=aF hV
  obtain ⟨i,e,hi,he,hE,hti,htj⟩:=wx hT hj
  exact ⟨_,hK,RX ho hT hi he hE hz hc.1 hc.2.1 hc.2.2 h hls hfz⟩
 case h_14 f first caps ho =>
  obtain ⟨rfl,hV⟩:=hV
  obtain ⟨cs,hcs,hK⟩:=aF hV
  exact ⟨_,hK,RY ho h hcs⟩
 case h_15 t x lo hi ho =>
  obtain ⟨l,hl,hV⟩:=aF hV
  exact RD hT ho h (rf hl) hV
 case h_16 t x lo hi z ho =>
  obtain ⟨j,hj,hV⟩:=aF hV
  obtain ⟨v1,hx,hV⟩:=aF hV
  obtain ⟨n,hn,hV⟩:=aF hV
  obtain ⟨l,hl,hV⟩:=aF hV
  obtain ⟨hh,hhi,hV⟩:=aF hV
  obtain ⟨mx,hmx,hV⟩:=aF hV
  obtain ⟨⟨h0,h1,h2,h3⟩,hs,hK⟩:=hV
  obtain ⟨i,e,hi',he,hE,hti,htj⟩:=wx hT hj
  exact ⟨_,hK,RZ ho hti he htj h (rf hx) hn hl hhi hs hmx h0 h1 h2 h3⟩
 case h_17 x ho =>
  obtain ⟨y,hy,hp,hK⟩:=aF hV
  exact ⟨_,hK,R0 ho h (rf hy) hp⟩
 case h_18 t t' x ho =>
  obtain ⟨l,hl,hV⟩:=aF hV
  cases l with
  | int k n =>
   obtain ⟨hs,hV⟩:=hV
   obtain ⟨k',hk,hK⟩:=aF hV
   exact ⟨_,hK,Sa ho hs (Fi hk) h (rf hl)⟩
  | str q =>
   obtain ⟨i,hi,hV⟩:=aF hV
   obtain ⟨i',hi',hV⟩:=aF hV
   obtain ⟨e,he,⟨hs,hk⟩,hK⟩:=aF hV
   exact ⟨_,hK,Sb ho (hT _ _ hi) hs (hT _ _ hi') he (Fi hk) h (rf hl)⟩
  | _=>cases hV
 case h_19 c ho =>
  split at hV
  ·rename_i hcal
   split at hV
   ·rename_i x t hargs htys
    obtain ⟨i,hi,hV⟩:=aF hV
    obtain ⟨l,hl,hV⟩:=aF hV
    obtain ⟨n,hn,hk,hK⟩:=aF hV
    refine ⟨_,hK,?_⟩
    have hc:c={callee:=.builtin .len,args:=#[x],argTypes:=#[t]}:=by
     cases c with
     | mk cl ar tys =>
      simp only at hcal hargs htys
      have e1:ar=#[x]:=by apply vI;simpa using hargs
      have e2:tys=#[t]:=by apply vI;simpa using htys
      subst hcal e1 e2
      rfl
    rw [hc] at ho
    exact LS ho (hT _ _ hi) h (rf hl) hn hk
   ·cases hV
  ·rename_i hcal
   split at hV
   ·rename_i x y hargs
    obtain ⟨l1,h1,hV⟩:=aF hV
    obtain ⟨l2,h2,hV⟩:=aF hV
    obtain ⟨l,hl,hK⟩:=aF hV
    refine ⟨_,hK,?_⟩
    have hc:c={callee:=.builtin .max,args:=#[x,y],argTypes:=c.argTypes}:=by
     cases c with
     | mk cl ar tys =>
      simp only at hcal hargs
      have e1:ar=#[x,y]:=by apply vI;simpa using hargs
      subst hcal e1
      rfl
    rw [hc] at ho
    exact Sc ho h (rf h1) (rf h2) hl
   ·cases hV
  ·rename_i hcal
   split at hV
   ·rename_i x y hargs
    obtain ⟨l1,h1,hV⟩:=aF hV
    obtain ⟨l2,h2,hV⟩:=aF hV
    obtain ⟨l,hl,hK⟩:=aF hV
    refine ⟨_,hK,?_⟩
    have hc:c={callee:=.builtin .min,args:=#[x,y],argTypes:=c.argTypes}:=by
     cases c with
     | mk cl ar tys =>
      simp only at hcal hargs
      have e1:ar=#[x,y]:=by apply vI;simpa using hargs
      subst hcal e1
      rfl
    rw [hc] at ho
    exact Sd ho h (rf h1) (rf h2) hl
   ·cases hV
  ·obtain ⟨⟨f,xs⟩,hc,r,hS⟩:=aF hV
   rcases hS with ⟨hS,hK⟩|⟨hS,hK⟩
   ·exact ⟨_,hK,Rx ho h hc hS⟩
   ·exact ⟨_,hK,Ry ho h hc hS⟩
  ·cases hV
 case h_20 t x ho =>
  obtain ⟨l,hl,hV⟩:=aF hV
  cases l with
  | int k n=>exact ⟨_,hV,Se ho h (rf hl)⟩
  | _=>cases hV
 case h_21=>cases hV
def w6 (P:Program) (f:FuncId) (xs:List V) (s:St) (d:Option Tmp) (s':St):Prop :=
 ∀(w0:World) (m0:Mem) (F0:Home) (a:Act) (w:World) (m:Mem) (ω:Wh),CI P w0 m0 F0 s a w m ω→∀vs:List Value,vQ m ω vs xs→A' P f vs.toArray w fun v w'=>ry P w0 m0 F0 s' (a.put d v) w'
def xq (P:Program) (f:FuncId) (xs:List V) (s:St) (d:Option Tmp) (K:St→Prop):Prop:=∃s',w6 P f xs s d s'∧K s'
theorem A'.mono {f:FuncId} {args:Array Value} {R R':Value→World→Prop} (h:A' P f args w R) (hR:∀v w',R v w'→R' v w'):A' P f args w R':=by
 rcases h with ⟨v,w',h1,h2⟩|⟨h1,h2⟩
 ·exact .inl ⟨v,w',h1,hR _ _ h2⟩
 ·exact .inr ⟨h1,h2.mono fun e w' ⟨v,he,hr⟩=>⟨v,he,hR _ _ hr⟩⟩
theorem w6.pure {f:FuncId} {xs:List V} {r:A} {d:Option Tmp} (hd:s.rO d) (hS:Sat P f xs r):w6 P f xs s d (s.fw d (r.map L.cP)):=by
 intro w0 m0 F0 a w m ω h vs hA
 refine (hS.call m w vs ω (CI.none h.C7 h.ok) hA).mono fun v w' hp=>?_
 obtain ⟨m',ω',hC,hv⟩:=hp
 refine ⟨m',ω,(h.grow ⟨hC.keeps.os,hC.keeps.tape,hC.keeps.output,hC.keeps.size,fun k hk=>hC.keeps.block k hk wV⟩ hC.qb (fun x hx=>hC.qc x hx wV) hC.ok).fw hd ?_⟩
 exact hv.map fun v l hl=>L.HU hl
theorem w6.wy {f:FuncId} {xs:List V} {r:A} {d:Option Tmp} (hd:s.rO d) (hS:Sat P f (xs.map fun x=>x.map (gN 4 s)) r):w6 P f xs s d (s.fw d (r.map L.flat)):=by
 intro w0 m0 F0 a w m ω h vs h2
 let F:Nat→Prop:=Hf s ω
 have hF:∀x v,m x=some v→¬ F x.block:=by
  rintro x v hx ⟨κ,id,hl,hk⟩
  exact (h.fresh κ id hl _ hk).2.2 x v hx rfl
 have hle:=EO (w:=w) hF
 have hA:vQ (wU m w F) ω vs (xs.map fun x=>x.map (gN 4 s)):=by
  refine ⟨by simpa using h2.1,fun i x hi=>?_⟩
  rw [ql,rI] at hi
  obtain ⟨x0,hi,rfl⟩:=hi
  obtain ⟨v,h3,h4⟩:=h2.2 i x0 hi
  exact ⟨v,h3,h4.map fun v l hl=>(He h hle (fun κ id hl x hx=>C6 (m:=m) ⟨κ,id,hl,hx⟩) 4 v l hl).ua⟩
 refine (hS.call _ w vs ω (CI.none h.C7 (EP h.ok)) hA).mono fun v w' hp=>?_
 obtain ⟨m',ω',hC,hv⟩:=hp
 have hlt:∀k,F k→k<w.heap.size:=fun k ⟨κ,id,hl,hk⟩=>(h.fresh κ id hl k hk).1
 refine ⟨B1 m' F,ω,(h.grow ⟨hC.keeps.os,hC.keeps.tape,hC.keeps.output,hC.keeps.size,fun k hk=>hC.keeps.block k hk wV⟩ (fun x v hx=>?_) (fun x hx=>?_) (fun x v hx=>?_)).fw hd (hv.map fun v l hl=>L.KE hl)⟩
 ·rw [Bq (hF x v hx)]
  exact hC.qb x v (hle x v hx)
 ·by_cases hb:F x.block
  ·rw [Er hb]
   cases hm:m x with
   | none=>rfl
   | some v=>exact absurd hb (hF x v hm)
  ·rw [Bq hb,hC.qc x hx wV,AZ hb]
 ·by_cases hb:F x.block
  ·rw [Er hb] at hx;cases hx
  ·rw [Bq hb] at hx
   exact hC.ok x v hx
theorem xq.pure {f:FuncId} {xs:List V} {r:A} {d:Option Tmp} {K:St→Prop} (hS:Sat P f xs r) (h:s.rO d∧K (s.fw d (r.map L.cP))):xq P f xs s d K:=⟨_,.pure h.1 hS,h.2⟩
theorem xq.wy {f:FuncId} {xs ys:List V} {r:A} {d:Option Tmp} {K:St→Prop} (hS:Sat P f ys r) (hy:(xs.map fun x=>x.map (gN 4 s))=ys) (h:s.rO d∧K (s.fw d (r.map L.flat))):xq P f xs s d K:=⟨_,.wy h.1 (hy▸hS),h.2⟩
def pk (s:St) (d:Option Tmp) (K:St→Prop) (y:A):Prop:=match d with|some d=>d<s.n∧K (s.put d y)|none=>K s
theorem yM {d:Option Tmp} {K:St→Prop} {y:A} (h:pk s d K y):s.rO d∧K (s.fw d y):=by
 unfold pk at h
 split at h
 ·exact h
 ·exact ⟨trivial,h⟩
def dM (s:St) (d:Option Tmp) (K:St→Prop) (e:Option A):Prop:=match d with
 | some d=>(match e with
  | some (.v (.one (.nil z)))=>d<s.n∧K (s.Fc d z)
  | some (.v (.one (.ref id lo n)))=>mO (look s.row id) fun r=>d<s.n∧K (s.Fb id d lo n r)
  | some y=>d<s.n∧K (s.put d y)
  | none=>False)
 | none=>False
def fC (s:St) (i:TI) (vs:List L) (K:St→Prop):L→Prop
 | .ptr id off=>mO (look s.box id) fun ls=>(vs.length=i.size∧off+vs.length≤ls.length)∧K {s with box:=bz id (dp off vs ls) s.box}
 | .dj id k off=>mO (look s.row id) fun r=>(vs.length=i.size∧k<r.xs.length∧off+vs.length≤r.sz)∧K {s with row:=bz id (r.store k off vs) s.row}
 | _=>False
def Cm:List (Nat×Nat×L)→Nat→Prop
 | [],_=>True
 | p::r,n=>p.1<n∧Cm r n
theorem LU:∀{ov:List (Nat×Nat×L)} {n:Nat},Cm ov n→aP ov n 0=none
 | [],_,_=>rfl
 | (p,q,l)::r,n,h=>by
  simp only [aP]
  rw [if_neg (fun e=>by have:=h.1;simp only at this;omega)]
  exact LU h.2
def fJ (s:St) (j:TI):L→Option (Nat×List (List L)×List (Nat×Nat×L)×Prop)
 | .sl sz ys=>some (sz,ys,[],True)
 | .nil _=>some (j.size,[],[],True)
 | .ref id lo n=>match look s.row id with
  | some r=>match r.ov with
   | []=>some (r.sz,(r.xs.drop lo).take n,[],lo+n≤r.xs.length∧pT r.xs)
   | ov=>some (r.sz,r.xs,ov,lo=0∧n=r.xs.length∧pT r.xs∧Cm ov n)
  | none=>none
 | _=>none
def gh (s:St) (j:TI):L→Option (Option Nat×Nat×List (List L)×Prop)
 | .nil _=>some (none,j.size,[],True)
 | .ref id lo n=>match look s.row id with
  | some r=>some (some id,r.sz,r.xs.take n,lo=0∧r.ov=[]∧n≤r.xs.length)
  | none=>none
 | _=>none
theorem Sf (h:CI P w0 m0 F0 s a w m ω) {j:TI} {v:Value} {l:L} {sz:Nat} {ys:List (List L)} {ov:List (Nat×Nat×L)} {p:Prop} (hy:fJ s j l=some (sz,ys,ov,p)) (hp:p) (hl:bi m ω v l):yL m w ω v sz ys ov:=by
 cases l<;>simp only [fJ,reduceCtorEq,Option.some.injEq,Prod.mk.injEq] at hy
 ·obtain ⟨rfl,rfl,rfl,_⟩:=hy
  exact LV h.ok hl
 ·obtain ⟨rfl,rfl,rfl,_⟩:=hy
  exact LW hl _
 ·rename_i id lo n
  split at hy
  ·rename_i r hr
   split at hy
   ·rename_i hov
    simp only [Option.some.injEq,Prod.mk.injEq] at hy
    obtain ⟨rfl,rfl,rfl,rfl⟩:=hy
    exact Du h hl hr hp.1 hp.2 (fun i j _=>by rw [hov];rfl)
   ·simp only [Option.some.injEq,Prod.mk.injEq] at hy
    obtain ⟨rfl,rfl,rfl,rfl⟩:=hy
    obtain ⟨rfl,rfl,ho,_⟩:=hp
    have:=Du (ov:=r.ov) h hl hr (by omega) ho (fun i j _=>by rw [cN])
    simpa using this
  ·cases hy
theorem Sg {j:TI} {l:L} {sz:Nat} {ys:List (List L)} {ov:List (Nat×Nat×L)} {p:Prop} (hy:fJ s j l=some (sz,ys,ov,p)) (hp:p):aP ov ys.length 0=none:=by
 cases l<;>simp only [fJ,reduceCtorEq,Option.some.injEq,Prod.mk.injEq] at hy
 ·obtain ⟨rfl,rfl,rfl,_⟩:=hy
  rfl
 ·obtain ⟨rfl,rfl,rfl,_⟩:=hy
  rfl
 ·split at hy
  ·split at hy
   ·simp only [Option.some.injEq,Prod.mk.injEq] at hy
    obtain ⟨rfl,rfl,rfl,rfl⟩:=hy
    rfl
   ·simp only [Option.some.injEq,Prod.mk.injEq] at hy
    obtain ⟨rfl,rfl,rfl,rfl⟩:=hy
    obtain ⟨_,rfl,_,hi⟩:=hp
    exact LU hi
  ·cases hy
theorem Sh {j:TI} {l:L} {src:Option Nat} {sz:Nat} {xs:List (List L)} {p:Prop} (hy:gh s j l=some (src,sz,xs,p)) (hp:p):Fa s l sz xs src:=by
 cases l<;>simp only [gh,reduceCtorEq,Option.some.injEq,Prod.mk.injEq] at hy
 ·obtain ⟨rfl,rfl,rfl,_⟩:=hy
  exact .nil _ _
 ·split at hy
  ·rename_i r hr
   simp only [Option.some.injEq,Prod.mk.injEq] at hy
   obtain ⟨rfl,rfl,rfl,rfl⟩:=hy
   obtain ⟨rfl,h1,h2⟩:=hp
   exact .ref _ _ r hr h1 h2
  ·cases hy
def xD:List (Nat×Nat×L)→Nat→Prop
 | [],_=>True
 | p::r,n=>n≤p.1∧xD r n
theorem Dv:∀{ov:List (Nat×Nat×L)} {n:Nat},xD ov n→∀i j,i<n→aP ov i j=none
 | [],_,_,_,_,_=>rfl
 | (p,q,l)::r,n,h,i,j,hi=>by
  simp only [aP]
  rw [if_neg (fun e=>by have:=h.1;simp only at this;omega)]
  exact Dv h.2 i j hi
def marked:aN→Prop
 | ⟨_,xs,[(c,0,_)]⟩=>c=xs.length
 | _=>False
theorem Si {r:aN} (h:marked r):aP r.ov r.xs.length 0≠none∧∀i j,i<r.xs.length→aP r.ov i j=none:=by
 obtain ⟨sz,xs,ov⟩:=r
 match ov,h with
 | [(c,0,l)],h =>
  have h:c=xs.length:=h
  subst h
  refine ⟨by simp [aP],fun i j hi=>?_⟩
  simp only [aP]
  rw [if_neg (fun e=>by simp only at hi;omega)]
def gk (s:St) (j:TI):L→Option (Nat×List (List L)×Prop)
 | .sl sz ys=>some (sz,ys,True)
 | .nil _=>some (j.size,[],True)
 | .ref id lo n=>match look s.row id with
  | some r=>some (r.sz,(r.xs.drop lo).take n,lo+n≤r.xs.length∧pT r.xs∧xD r.ov r.xs.length)
  | none=>none
 | _=>none
theorem Sj (h:CI P w0 m0 F0 s a w m ω) {j:TI} {v:Value} {l:L} {sz:Nat} {ys:List (List L)} {p:Prop} (hy:gk s j l=some (sz,ys,p)) (hp:p) (hl:bi m ω v l):yL m w ω v sz ys []:=by
 cases l<;>simp only [gk,reduceCtorEq,Option.some.injEq,Prod.mk.injEq] at hy
 ·obtain ⟨rfl,rfl,_⟩:=hy
  exact LV h.ok hl
 ·obtain ⟨rfl,rfl,_⟩:=hy
  exact LW hl _
 ·rename_i id lo n
  split at hy
  ·rename_i r hr
   simp only [Option.some.injEq,Prod.mk.injEq] at hy
   obtain ⟨rfl,rfl,rfl⟩:=hy
   exact Du h hl hr hp.1 hp.2.1 (fun i j hi=>by rw [Dv hp.2.2 (lo+i) j (by omega)];rfl)
  ·cases hy
def eG (s:St) (j:TI) (z:List L) (d:Nat) (K:St→Prop) (l1 l2:L):Prop:=mO (gh s j l1) fun p=>mO (fJ s j l2) fun q =>
 (p.2.2.2∧q.2.2.2)∧(j.size=p.2.1∧j.size=q.1∧z.length=j.size)∧((p.2.2.1.length+q.2.1.length) * j.bytes≤140737488355328∧p.2.2.1.length+q.2.1.length≤9223372036854775807)∧d<s.n∧K (s.appended p.1 d p.2.1 (p.2.2.1++q.2.1) (eB p.2.2.1.length q.2.2.1))
def HX (s:St) (j:TI) (d:Nat) (K:St→Prop) (id lo n lo' k:Nat):Prop:=mO (look s.row id) fun r=>(lo=0∧r.ov=[]∧n+k≤r.xs.length∧lo'+k≤r.xs.length∧pT r.xs∧j.size=r.sz)∧d<s.n ∧
 K (St.put {s with row:=bz id ⟨r.sz,r.xs.take n++(r.xs.drop lo').take k++r.xs.drop (n+k),[]⟩ s.row} d (.v (.one (.ref id 0 (n+k)))))
def HY (s:St) (j:TI) (z:List L) (d:Nat) (K:St→Prop) (id lo n:Nat) (k:Int):Prop:=mO (look s.row id) fun r=>(lo=0∧marked r∧n≤r.xs.length∧pT (r.xs.take n)∧j.size=r.sz∧z.length=r.sz∧0<r.sz)∧(0<k∧(r.xs.length:Int)<n+k∧(n+k.toNat) * j.bytes≤140737488355328∧n+k.toNat≤9223372036854775807)∧d<s.n ∧
 K (s.appended none d r.sz (r.xs.take n++List.replicate k.toNat (z.map L.cP)) [])
def eH (P:Program) (s:St) (t t':TypeId) (j:TI) (z:List L) (d:Nat) (K:St→Prop):L→L→Prop
 | .ref id lo n,.ref id' lo' k=>t=t'∧(if id=id' then HX s j d K id lo n lo' k else eG s j z d K (.ref id lo n) (.ref id' lo' k))
 | .ref id lo n,.int _ k=>(ug P t').isSome=true∧HY s j z d K id lo n k
 | .nil _,.int _ k=>(ug P t').isSome=true∧(z.length=j.size∧0<j.size∧0<k∧k.toNat * j.bytes≤140737488355328∧k.toNat≤9223372036854775807)∧d<s.n∧K (s.appended none d j.size (List.replicate k.toNat (z.map L.cP)) [])
 | l1,l2=>t=t'∧eG s j z d K l1 l2
def fK (s:St) (j:TI) (d:Option Tmp) (K:St→Prop):L→L→Prop
 | .ref id lo n,l2=>mO (look s.row id) fun r=>mO (gk s j l2) fun q=>(xD r.ov r.xs.length∧lo+n≤r.xs.length∧j.size=r.sz∧q.1=r.sz∧q.2.2)∧s.rO d ∧
   K (St.fw {s with row:=bz id ⟨r.sz,r.xs.take lo++q.2.1.take (min q.2.1.length n)++r.xs.drop (lo+min q.2.1.length n),r.ov⟩ s.row} d (.v (.one (.int .i64 ((min q.2.1.length n:Nat):Int)))))
 | _,_=>False
def fL (s:St) (j:TI) (z:List L) (d:Option Tmp) (K:St→Prop):L→Prop
 | .ref id lo n=>mO (look s.row id) fun r=>(xD r.ov r.xs.length∧lo+n≤r.xs.length∧j.size=r.sz∧z.length=r.sz)∧s.rO d ∧
   K (St.fw {s with row:=bz id ⟨r.sz,r.xs.take lo++List.replicate n (z.map L.cP)++r.xs.drop (lo+n),r.ov⟩ s.row} d (.cR []))
 | _=>False
def Fk (s:St) (d:Nat) (K:St→Prop):L→Prop
 | .nil _=>d<s.n∧K (s.put d (.v (.one (.int .i64 0))))
 | .ref id lo _=>mO (look s.row id) fun r=>(lo=0∧r.ov=[])∧d<s.n∧∀p:Nat,r.xs.length+p≤9223372036854775807→K (St.put {s with row:=bz id (qz r p) s.row} d (.v (.one (.int .i64 ((r.xs.length+p:Nat):Int)))))
 | _=>False
def dc (P:Program) (T:TypeId→Option TI) (o:Oper) (s:St) (K:St→Prop):Prop :=
 match o.op with
 | .assign x=>dM s o.dst K (aE T s o.type x)
 | .box _ x=>mO o.dst fun d=>mO (dT T s 0 x) fun ls=>d<s.n∧K (s.xS d ls)
 | .alloc e=>mO o.dst fun d=>mO (T e) fun i=>mO i.zero fun ls=>d<s.n∧K (s.xS d ls)
 | .store t x y=>o.dst=none∧mO (T t) fun i=>mO (dT T s t y) fun vs=>mO (oneOf (aE T s 0 x)) (fC s i vs K)
 | .buildSlice t len parts=>mO o.dst fun d=>mO (dt T t) fun j=>mO j.zero fun z=>(z.length=j.size∧0<j.size∧len * j.size≤16777216) ∧
   mO (dB T s 0 (fun k=>some (k * j.size,j.size)) (dP z len) parts.toList) fun ls=>d<s.n∧K ((s.xC none d (rowOf j.size len ls)).put d (.v (.one (.ref d 0 len))))
 | .call c=>(match c.callee with
   | .builtin .append=>mO o.dst fun d=>(match c.args.toList,c.argTypes.toList with
    | [x,y],[t,t']=>mO (dt T t) fun j=>mO j.zero fun z=>mO (oneOf (aE T s t x)) fun l1=>mO (oneOf (aE T s t y)) fun l2=>eH P s t t' j z d K l1 l2
    | _,_=>False)
   | .builtin .copy=>(match c.args.toList,c.argTypes.toList with
    | [x,y],[t,_]=>mO (dt T t) fun j=>mO (oneOf (aE T s t x)) fun l1=>mO (oneOf (aE T s t y)) fun l2=>fK s j o.dst K l1 l2
    | _,_=>False)
   | .builtin .clear=>(match c.args.toList,c.argTypes.toList with
    | [x],[t]=>mO (dt T t) fun j=>mO j.zero fun z=>mO (oneOf (aE T s t x)) fun l1=>fL s j z o.dst K l1
    | _,_=>False)
   | .builtin .cap=>mO o.dst fun d=>(match c.args.toList,c.argTypes.toList with
    | [x],[t]=>mO (dt T t) fun _=>mO (oneOf (aE T s t x)) fun l1=>Fk s d K l1
    | _,_=>False)
   | .value _=>mO (ez T s c) fun p=>xq P p.1 p.2 s o.dst K
   | _=>bF P T o s (pk s o.dst K))
 | .binOp .eql t x (.const (.slice none 0 0)) _=>mO (oneOf (aE T s t x)) fun l=>isSlice l=true∧mO (T t) fun i=>i.elem.isSome=true∧∀b,(∀n,nL l=some n→0<n→b=false)→pk s o.dst K (.v (.one (.bool b)))
 | _=>bF P T o s (pk s o.dst K)
def As (P:Program) (w0:World) (m0:Mem) (F0:Home) (o:Oper) (a:Act) (w:World) (K:St→Prop):Prop :=
 ∀next Q,(∀s' a' w',K s'→ry P w0 m0 F0 s' a' w'→next a' w')→o.wp P a w next Q
theorem rY.follows {o:Oper} {s':St} {K:St→Prop} (h:rY P w0 m0 F0 o a w s') (hK:K s'):As P w0 m0 F0 o a w K :=
 fun next Q hn=>h next Q fun _ w' hc=>hn s' _ w' hK hc
theorem LX (hT:pR P T) {o:Oper} {K:St→Prop} (hV:bF P T o s (pk s o.dst K)) (h:CI P w0 m0 F0 s a w m ω):As P w0 m0 F0 o a w K:=by
 obtain ⟨x,hx,hG⟩:=CO hT hV h
 have hd:=yM hx
 exact (hG.HZ hd.1).follows hd.2
theorem Ba (hT:pR P T) {o:Oper} {K:St→Prop} (hV:dc P T o s K) (h:CI P w0 m0 F0 s a w m ω):As P w0 m0 F0 o a w K:=by
 unfold dc at hV
 split at hV
 case h_1 x ho =>
  unfold dM at hV
  split at hV
  ·rename_i d hd
   split at hV
   ·rename_i z hz
    exact (Rv ho hd hV.1 h hz).follows hV.2
   ·rename_i id lo n hz
    obtain ⟨r,hr,hn,hK⟩:=aF hV
    exact (Ru ho hd hn h hz hr).follows hK
   ·rename_i y hy
    have:=(LR ho h hy).HZ (by rw [hd];exact hV.1)
    rw [hd] at this
    exact this.follows hV.2
   ·cases hV
  ·cases hV
 case h_2 e x ho =>
  obtain ⟨d,hd,hV⟩:=aF hV
  obtain ⟨ls,hls,hn,hK⟩:=aF hV
  exact (Sk ho hd hn h hls).follows hK
 case h_3 e ho =>
  obtain ⟨d,hd,hV⟩:=aF hV
  obtain ⟨i,hi,hV⟩:=aF hV
  obtain ⟨ls,hls,hn,hK⟩:=aF hV
  exact (P6 ho hd hn (hT _ _ hi) hls h).follows hK
 case h_4 t x y ho =>
  obtain ⟨hd,hV⟩:=hV
  obtain ⟨i,hi,hV⟩:=aF hV
  obtain ⟨vs,hvs,hV⟩:=aF hV
  obtain ⟨l,hl,hV⟩:=aF hV
  have hl:=rf hl
  cases l with
  | ptr id off =>
   obtain ⟨ls,hls,⟨h1,h2⟩,hK⟩:=aF hV
   exact (P7 ho hd (hT _ _ hi) h hl hls hvs h1 h2).follows hK
  | dj id k off =>
   obtain ⟨r,hr,⟨h1,h2,h3⟩,hK⟩:=aF hV
   exact (Sl ho hd (hT _ _ hi) h hl hr hvs h1 h2 h3).follows hK
  | _=>cases hV
 case h_5 t len parts ho =>
  obtain ⟨d,hd,hV⟩:=aF hV
  obtain ⟨j,hj,hV⟩:=aF hV
  obtain ⟨z,hz,hc,hV⟩:=aF hV
  obtain ⟨ls,hls,hn,hK⟩:=aF hV
  obtain ⟨i,e,hi,he,hE,hti,htj⟩:=wx hT hj
  exact (Rw ho hd hn hT hi he hE hz hc.1 hc.2.1 hc.2.2 h hls).follows hK
 case h_6 c ho =>
  split at hV
  ·rename_i hcal
   obtain ⟨d,hd,hV⟩:=aF hV
   split at hV
   ·rename_i x y t t' hargs htys
    obtain ⟨j,hj,hV⟩:=aF hV
    obtain ⟨z,hz,hV⟩:=aF hV
    obtain ⟨l1,hl1,hV⟩:=aF hV
    obtain ⟨l2,hl2,hV⟩:=aF hV
    obtain ⟨i,e,hi,he,hE,hti,htj⟩:=wx hT hj
    have hc:c={callee:=.builtin .append,args:=#[x,y],argTypes:=#[t,t']}:=by
     cases c with
     | mk cl ar tys =>
      simp only at hcal hargs htys
      have e1:ar=#[x,y]:=by apply vI;simpa using hargs
      have e2:tys=#[t,t']:=by apply vI;simpa using htys
      subst hcal e1 e2
      rfl
    rw [hc] at ho
    have std:∀l1 l2,oneOf (aE T s t x)=some l1→oneOf (aE T s t y)=some l2→t=t'→eG s j z d K l1 l2→As P w0 m0 F0 o a w K:=by
     intro l1 l2 hl1 hl2 htt hQ
     subst htt
     obtain ⟨⟨src,sz,xs,p⟩,hs,hQ⟩:=aF hQ
     obtain ⟨⟨sz',ys,ov,q⟩,hy,hQ⟩:=aF hQ
     obtain ⟨⟨hp,hq⟩,⟨h1,h2,h3⟩,⟨h4,h5⟩,hn,hK⟩:=hQ
     simp only at h1 h2 h3 h4 h5 hn hK hp hq
     have h2':sz'=sz:=by omega
     subst h2'
     exact (Rr ho hd hn hti he htj hz h1 (h3.trans h1) h (rf hl1) (Sh hs hp) (Sf h hy hq (iS h (rf hl2))) (Sg hy hq) h4 h5).follows hK
    have rr:∀id lo n id' lo' k,l1=.ref id lo n→l2=.ref id' lo' k→As P w0 m0 F0 o a w K:=by
     rintro id lo n id' lo' k rfl rfl
     obtain ⟨htt,hQ⟩:=hV
     split at hQ
     ·rename_i hid
      subst hid
      subst htt
      obtain ⟨r,hr,⟨h0,hov,h1,h2,h3,h4⟩,hn,hK⟩:=aF hQ
      subst h0
      have hl:((r.xs.drop lo').take k).length=k:=by simp;omega
      have hy:=Du (ov:=[]) h (iS h (rf hl2)) hr h2 h3 (fun i j _=>by rw [hov];rfl)
      have:=LY ho hd hn hti he htj h4 h (rf hl1) hr hov hy (by rw [hl];exact h1)
      rw [hl] at this
      exact this.follows hK
     ·exact std _ _ hl1 hl2 htt hQ
    have ri:∀id lo n kq k,l1=.ref id lo n→l2=.int kq k→As P w0 m0 F0 o a w K:=by
     rintro id lo n kq k rfl rfl
     obtain ⟨hcv,hV⟩:=hV
     obtain ⟨kn,hkn⟩:=Option.isSome_iff_exists.1 hcv
     obtain ⟨r,hr,⟨h0,hmk,h1,h2,h3,h4,h5⟩,⟨h6,h7,h8,h9⟩,hn,hK⟩:=aF hV
     subst h0
     obtain ⟨mk1,mk2⟩:=Si hmk
     have hkk:k=(k.toNat:Int):=by omega
     have hl2':=rf hl2
     rw [hkk] at hl2'
     exact (Sm ho hd hn hti he htj hz h3 h4 h5 (Fi hkn) h (rf hl1) hl2' hr mk2 mk1 h1 h2 (by omega) (by omega) h8 h9).follows hK
    have ni:∀sz kq k,l1=.nil sz→l2=.int kq k→As P w0 m0 F0 o a w K:=by
     rintro sz kq k rfl rfl
     obtain ⟨hcv,⟨q1,q2,q3,q4,q5⟩,hn,hK⟩:=hV
     obtain ⟨kn,hkn⟩:=Option.isSome_iff_exists.1 hcv
     have hkk:k=(k.toNat:Int):=by omega
     have hl2':=rf hl2
     rw [hkk] at hl2'
     exact (Sn ho hd hn hti he htj hz q1 q2 (Fi hkn) h (rf hl1) hl2' (by omega) q4 q5).follows hK
    cases l1 with
    | ref id lo n =>
     cases l2 with
     | ref id' lo' k=>exact rr _ _ _ _ _ _ rfl rfl
     | int kq k=>exact ri _ _ _ _ _ rfl rfl
     | _=>exact std _ _ hl1 hl2 hV.1 hV.2
    | nil sz =>
     cases l2 with
     | int kq k=>exact ni _ _ _ rfl rfl
     | _=>exact std _ _ hl1 hl2 hV.1 hV.2
    | _=>exact std _ _ hl1 hl2 hV.1 hV.2
   ·cases hV
  ·rename_i hcal
   split at hV
   ·rename_i x y t t' hargs htys
    obtain ⟨j,hj,hV⟩:=aF hV
    obtain ⟨l1,hl1,hV⟩:=aF hV
    obtain ⟨l2,hl2,hV⟩:=aF hV
    obtain ⟨i,e,hi,he,hE,hti,htj⟩:=wx hT hj
    have hc:c={callee:=.builtin .copy,args:=#[x,y],argTypes:=#[t,t']}:=by
     cases c with
     | mk cl ar tys =>
      simp only at hcal hargs htys
      have e1:ar=#[x,y]:=by apply vI;simpa using hargs
      have e2:tys=#[t,t']:=by apply vI;simpa using htys
      subst hcal e1 e2
      rfl
    rw [hc] at ho
    cases l1 with
    | ref id lo n =>
     obtain ⟨r,hr,hV⟩:=aF hV
     obtain ⟨⟨sz,ys,p⟩,hy,⟨h1,h2,h3,h4,h5⟩,hdd,hK⟩:=aF hV
     simp only at h4 h5 hK
     subst h4
     exact (So ho hdd hti he htj h3 h (rf hl1) hr (Dv h1) h2 (Sj h hy h5 (iS h (rf hl2))) rfl).follows hK
    | _=>cases hV
   ·cases hV
  ·rename_i hcal
   split at hV
   ·rename_i x t hargs htys
    obtain ⟨j,hj,hV⟩:=aF hV
    obtain ⟨z,hz,hV⟩:=aF hV
    obtain ⟨l1,hl1,hV⟩:=aF hV
    obtain ⟨i,e,hi,he,hE,hti,htj⟩:=wx hT hj
    have hc:c={callee:=.builtin .clear,args:=#[x],argTypes:=#[t]}:=by
     cases c with
     | mk cl ar tys =>
      simp only at hcal hargs htys
      have e1:ar=#[x]:=by apply vI;simpa using hargs
      have e2:tys=#[t]:=by apply vI;simpa using htys
      subst hcal e1 e2
      rfl
    rw [hc] at ho
    cases l1 with
    | ref id lo n =>
     obtain ⟨r,hr,⟨h1,h2,h3,h4⟩,hdd,hK⟩:=aF hV
     exact (Sq ho hdd hti he htj hz h3 h4 h (rf hl1) hr (Dv h1) h2).follows hK
    | _=>cases hV
   ·cases hV
  ·rename_i hcal
   obtain ⟨d,hd,hV⟩:=aF hV
   split at hV
   ·rename_i x t hargs htys
    obtain ⟨j,hj,hV⟩:=aF hV
    obtain ⟨l1,hl1,hV⟩:=aF hV
    obtain ⟨i,e,hi,he,hE,hti,htj⟩:=wx hT hj
    have hc:c={callee:=.builtin .cap,args:=#[x],argTypes:=#[t]}:=by
     cases c with
     | mk cl ar tys =>
      simp only at hcal hargs htys
      have e1:ar=#[x]:=by apply vI;simpa using hargs
      have e2:tys=#[t]:=by apply vI;simpa using htys
      subst hcal e1 e2
      rfl
    rw [hc] at ho
    cases l1 with
    | ref id lo n =>
     obtain ⟨r,hr,⟨h0,hov⟩,hn,hK⟩:=aF hV
     subst h0
     obtain ⟨p,hp,hM⟩:=Sr ho hd hn hti he h (rf hl1) hr hov
     exact hM.follows (hK p hp)
    | nil sz=>exact (Ss ho hd hV.1 hti he h (rf hl1)).follows hV.2
    | _=>cases hV
   ·cases hV
  ·obtain ⟨⟨f,xs⟩,hc,s',hM,hK⟩:=aF hV
   obtain ⟨vs,h1,h2⟩:=EQ ho h hc
   exact rY.follows (Cl h1 (hM _ _ _ a w m ω h vs h2)) hK
  ·exact LX hT hV h
 case h_7 t x t' ho =>
  obtain ⟨l,hl,hs,hV⟩:=aF hV
  obtain ⟨i,hi,he,hV⟩:=aF hV
  obtain ⟨e,he⟩:=Option.isSome_iff_exists.1 he
  obtain ⟨b,hb,hG⟩:=Su ho (hT _ _ hi) he h (rf hl) hs
  have hd:=yM (hV b hb)
  exact (hG.HZ hd.1).follows hd.2
 case h_8=>exact LX hT hV h
end
end Go.Bw
namespace Go.Bw
open Go.RowKit
section
variable {P:Program} {w0:World} {m0:Mem} {s:St} {a:Act} {w:World} {m:Mem} {ω:Wh} {F0:Home} {T:TypeId→Option TI}
def guardOf (ops:Array Oper) (s:St) (o:Oper):Option Bool :=
 match o.guard with
 | none=>some true
 | some (j,want)=>match (ops[j]?).bind (·.dst) with
  | some t=>(match look s.env t with|some (.v (.one (.bool b)))=>some (b==want)|some (.cR [])=>some false|_=>none)
  | none=>none
theorem Sv (a:Act) {t:Nat} {b:Bool} (h:a.tmps.getD t undef=.bool b):a.tmps[t]?=some (.bool b):=by
 rw [vt] at h
 cases hq:a.tmps[t]? with
 | none=>rw [hq] at h;simp [undef] at h
 | some v=>rw [hq] at h;simpa using h
theorem uq (h : CI P w0 m0 F0 s a w m ω) {ops : Array Oper} {o : Oper} {b : Bool} (hg : guardOf ops s o = some b) : Region.wanted o (yielded ops a.tmps) = b := by
  unfold guardOf at hg
  unfold Region.wanted
  split at hg
  · rename_i hn
    injection hg with hg
    rw [hn, ← hg]
  · rename_i j want hn
    rw [hn]
    split at hg
    · rename_i t ht
      split at hg
      · rename_i b' hb
        injection hg with hg
        have hv : aM m (a.tmps.getD t undef) (.bool b') := h.env t _ hb
        have hval : a.tmps[t]? = some (.bool b') := by
          generalize hx : a.tmps.getD t undef = u at hv
          cases hv
          exact Sv a hx
        simp only [yielded, ht, dJ, hval]
        rw [← hg]
        cases b' <;> cases want <;> rfl
      · rename_i hb
        injection hg with hg
        have hv := h.env t _ hb
        have hval : ∀ b', a.tmps[t]? ≠ some (.bool b') := by
          intro b' hq
          rw [vt, hq] at hv
          obtain ⟨vs, hv, _⟩ := hv
          cases hv
        rw [← hg]
        simp only [yielded, ht, dJ]
        first
          | rfl
          | (split
             · rename_i b' hq
               exact absurd hq (hval b')
             · rfl)
      · cases hg
    · cases hg
def bL (P:Program) (T:TypeId→Option TI) (ops:Array Oper):List Oper→St→(St→Prop)→Prop
 | [],s,K=>K s
 | o::l,s,K=>match guardOf ops s o with
  | some true=>dc P T o s fun s'=>bL P T ops l s' K
  | some false=>pk s o.dst (fun s'=>bL P T ops l s' K) (.cR [])
  | none=>False
def Aa (P:Program) (w0:World) (m0:Mem) (F0:Home) (Q:Exit→St→Prop) (e:Exit) (a:Act) (w:World):Prop:=∃s,Q e s∧ry P w0 m0 F0 s a w
theorem Fl (hT:pR P T) {ops:Array Oper} {K:St→Prop} {Q:Exit→Act→World→Prop} (hQ:∀s a w,K s→ry P w0 m0 F0 s a w→Q .normal a w) :
  ∀(l:List Oper) (k:Nat) (s:St) (a:Act) (w:World),ops.toList.drop k=l→bL P T ops l s K→ry P w0 m0 F0 s a w→wpOps P ops Q (List.range' k l.length) a w
 | [],k,s,a,w,_,hV,hC=>hQ s a w hV hC
 | o::l,k,s,a,w,hl,hV,hC=>by
  obtain ⟨m,ω,h⟩:=hC
  have hk:ops[k]?=some o:=by
   have:(ops.toList.drop k)[0]?=some o:=by rw [hl];rfl
   simpa [rJ] using this
  have hl':ops.toList.drop (k+1)=l:=by
   have:(ops.toList.drop k).drop 1=l:=by rw [hl];rfl
   simpa [Af] using this
  simp only [bP,Ha,wpOps,hk]
  simp only [bL] at hV
  split at hV
  ·rename_i hg
   rw [if_pos (uq h hg)]
   exact .inl (Ba hT hV h _ _ fun s' a' w' hK hc=>Fl hT hQ l (k+1) s' a' w' hl' hK hc)
  ·rename_i hg
   rw [if_neg (by rw [uq h hg];simp)]
   unfold pk at hV
   split at hV
   ·rename_i d hd
    rw [hd]
    exact Fl hT hQ l (k+1) _ _ w hl' hV.2 ⟨m,ω,h.put hV.1 w7⟩
   ·rename_i hd
    rw [hd]
    exact Fl hT hQ l (k+1) _ _ w hl' hV ⟨m,ω,h⟩
  ·cases hV
def ab (P:Program) (w0:World) (m0:Mem) (F0:Home) (c:Code) (Q:Exit→St→Prop) (s:St):Prop :=
 ∀a w,ry P w0 m0 F0 s a w→c.wp P (Aa P w0 m0 F0 Q) a w
section rules
variable {Q:Exit→St→Prop}
def St.le (s' s:St):Prop:=s'.n=s.n∧(∀t x,look s'.env t=some x→look s.env t=some x)∧(∀i ls,look s'.box i=some ls→look s.box i=some ls)∧∀i r,look s'.row i=some r→look s.row i=some r
theorem ry.le {s':St} (h:ry P w0 m0 F0 s a w) (hl:St.le s' s):ry P w0 m0 F0 s' a w:=by
 obtain ⟨m,ω,h⟩:=h
 exact ⟨m,ω,h.weaken hl.1 hl.2.1 hl.2.2.1 hl.2.2.2⟩
theorem St.le_refl (s:St):St.le s s:=⟨rfl,fun _ _ h=>h,fun _ _ h=>h,fun _ _ h=>h⟩
theorem ry.freeze (h:ry P w0 m0 F0 s a w) (kb kr:List Nat):ry P w0 m0 F0 (s.freeze kb kr) a w:=by
 obtain ⟨m,ω,h⟩:=h
 obtain ⟨m',h',_,_⟩:=h.freeze kb kr
 exact ⟨m',ω,h'⟩
theorem ab.Dw {c:Code} {s':St} (hl:St.le s' s) (h:ab P w0 m0 F0 c Q s'):ab P w0 m0 F0 c Q s:=fun a w hc=>h a w (hc.le hl)
theorem ab.rN {c:Code} (kb kr:List Nat) (h:ab P w0 m0 F0 c Q (s.freeze kb kr)):ab P w0 m0 F0 c Q s:=fun a w hc=>h a w (hc.freeze kb kr)
theorem ab.mono {c:Code} {Q':Exit→St→Prop} (h:ab P w0 m0 F0 c Q s) (hq:∀e s,Q e s→Q' e s):ab P w0 m0 F0 c Q' s :=
 fun a w hc=>wp_mono (h a w hc) fun e _ _ ⟨s',h1,h2⟩=>⟨s',hq e s' h1,h2⟩
def wz (R:St→Prop) (Q:Exit→St→Prop):Exit→St→Prop
 | .normal,s=>R s
 | e,s=>Q e s
def zG (id:Nat) (Q:Exit→St→Prop):Exit→St→Prop
 | .exit id',s=>if id'=id then Q .normal s else Q (.exit id') s
 | e,s=>Q e s
theorem qD (h:Q .normal s):ab P w0 m0 F0 .skip Q s:=fun _ _ hc=>wp_skip ⟨s,h,hc⟩
theorem qM {id:Nat} (h:Q (.exit id) s):ab P w0 m0 F0 (.exit id) Q s:=fun _ _ hc=>wp_exit ⟨s,h,hc⟩
theorem qE (h:Q .ret s):ab P w0 m0 F0 .ret Q s:=fun _ _ hc=>wp_ret ⟨s,h,hc⟩
theorem qA {x y:Code} (h:ab P w0 m0 F0 x (wz (ab P w0 m0 F0 y Q) Q) s):ab P w0 m0 F0 (.seq x y) Q s:=by
 intro a w hc
 refine wp_seq (wp_mono (h a w hc) fun e a' w' he=>?_)
 obtain ⟨s',h1,h2⟩:=he
 cases e with
 | normal=>exact h1 a' w' h2
 | _=>exact ⟨s',h1,h2⟩
theorem ab.cond {c:Operand} {x y:Code} {b:Bool} (hb:eQ (aE T s 0 c)=some b) (h1:b=true→ab P w0 m0 F0 x Q s) (h2:b=false→ab P w0 m0 F0 y Q s):ab P w0 m0 F0 (.cond c x y) Q s:=by
 intro a w hc
 obtain ⟨m,ω,h⟩:=hc
 have he:a.eval c=.bool b:=Fm h (Fh hb)
 exact wp_cond_split he (fun e=>h1 e a w ⟨m,ω,h⟩) (fun e=>h2 e a w ⟨m,ω,h⟩)
theorem qC {id:Nat} {c:Code} (h:ab P w0 m0 F0 c (zG id Q) s):ab P w0 m0 F0 (.block id c) Q s:=by
 intro a w hc
 refine wp_block (wp_mono (h a w hc) fun e a' w' he=>?_)
 obtain ⟨s',h1,h2⟩:=he
 cases e with
 | exit id' =>
  simp only [zG] at h1
  simp only [Exit.inBlock]
  split at h1
  ·rename_i hid;rw [if_pos hid];exact ⟨s',h1,h2⟩
  ·rename_i hid;rw [if_neg hid];exact ⟨s',h1,h2⟩
 | _=>exact ⟨s',h1,h2⟩
theorem ab.loop {ι:Type} {c:Code} (I:ι→St) (μ:ι→Nat) (i0:ι) (h0:St.le (I i0) s)
  (round:∀i,ab P w0 m0 F0 c (wz (fun s'=>∃j,μ j<μ i∧St.le (I j) s') Q) (I i)):ab P w0 m0 F0 (.loop c) Q s:=by
 intro a w hc
 have key:∀n i a w,μ i=n→ry P w0 m0 F0 (I i) a w→∀(b:Frame) (k:List Item) (cs:List Frame),
   ∃e a' w',Aa P w0 m0 F0 Q e a' w'∧Arrives P (lone (b.at a (.code c::.inLoop c::k)) cs w) b k cs e a' w':=by
  intro n
  induction n using Nat.strongRecOn with
  | _ n ih =>
   intro i a w hn hC b k cs
   obtain ⟨e,a₁,w₁,⟨s1,hq,hc1⟩,harr⟩:=round i a w hC b (.inLoop c::k) cs
   cases e with
   | normal =>
    obtain ⟨j,hlt,hle⟩:=hq
    obtain ⟨e₂,a₂,w₂,hq₂,harr₂⟩:=ih (μ j) (hn▸hlt) j a₁ w₁ rfl (hc1.le hle) b k cs
    exact ⟨e₂,a₂,w₂,hq₂,.of_steps (Steps.trans harr (.one step_inLoop)) harr₂⟩
   | exit id=>exact ⟨_,a₁,w₁,⟨s1,hq,hc1⟩,.pass (x:=.inLoop c) rfl (fun _ _=>.inl (by simp)) harr⟩
   | goto l=>exact ⟨_,a₁,w₁,⟨s1,hq,hc1⟩,.pass (x:=.inLoop c) rfl (fun _ _=>.inl (by simp)) harr⟩
   | ret=>exact ⟨_,a₁,w₁,⟨s1,hq,hc1⟩,.pass (x:=.inLoop c) rfl (fun _ _=>.inl (by simp)) harr⟩
   | panic ch=>exact ⟨_,a₁,w₁,⟨s1,hq,hc1⟩,.pass (x:=.inLoop c) rfl (fun _ _=>.inl (by simp)) harr⟩
   | outgrown=>exact ⟨_,a₁,w₁,⟨s1,hq,hc1⟩,.pass (x:=.inLoop c) rfl (fun _ _=>.inl (by simp)) harr⟩
 intro b k cs
 obtain ⟨e,a',w',hq,harr⟩:=key _ i0 a w rfl (hc.le h0) b k cs
 exact ⟨e,a',w',hq,.of_steps (.one step_loop) harr⟩
theorem ab.Sw (hT:pR P T) {id:Nat} {ops:Array Oper} {l:List Oper} (hl:ops.toList=l) (h:bL P T ops l s (Q .normal)):ab P w0 m0 F0 (.region id ops false) Q s:=by
 intro a w hc
 refine wp_region ?_
 have:=Fl hT (K:=Q .normal) (Q:=Aa P w0 m0 F0 Q) (fun s a w h1 h2=>⟨s,h1,h2⟩) l 0 s a w (by simpa using hl) h hc
 have hlen:l.length=ops.size:=by rw [←hl];simp
 rwa [←Hb,hlen] at this
theorem ab.region (hT:pR P T) {id:Nat} {ops:Array Oper} {l:List Oper} (hl:ops.toList=l) (h:∀K:St→Prop,(∀s',Q .normal s'→K s')→bL P T ops l s K):ab P w0 m0 F0 (.region id ops false) Q s :=
 ab.Sw hT hl (h _ fun _ h=>h)
end rules
end
end Go.Bw
namespace Go.Bw
open Go.RowKit
section
variable {P:Program} {w0:World} {m0:Mem} {s s':St} {a:Act} {w:World} {m:Mem} {ω:Wh} {F0:Home} {T:TypeId→Option TI}
theorem P8 {ty:TypeId} {x:Operand} (h:∀ty,aE T s ty x=aE T s' ty x):dT T s ty x=dT T s' ty x:=by
 unfold dT;rw [h]
theorem H0 {ty:TypeId} {place:Nat→Option (Nat×Nat)}:∀(ps:List (Nat×Operand)) (ls:List L),(∀p∈ps,∀ty,aE T s ty p.2=aE T s' ty p.2)→dB T s ty place ls ps=dB T s' ty place ls ps
 | [],_,_=>rfl
 | (i,x)::ps,ls,h=>by
  simp only [dB]
  have e:dT T s ty x=dT T s' ty x:=P8 fun ty=>h (i,x) (by simp) ty
  have e2:∀q,dB T s ty place q ps=dB T s' ty place q ps:=fun q=>H0 ps q fun p hp=>h p (by simp [hp])
  simp only [e,e2]
theorem LZ {ty:TypeId}:∀(l:List Operand),(∀x∈l,∀ty,aE T s ty x=aE T s' ty x)→ff s T ty l=ff s' T ty l
 | [],_=>rfl
 | x::l,h=>by
  simp only [ff]
  rw [h x (by simp),LZ l fun y hy=>h y (by simp [hy])]
theorem L0:∀(l:List Operand) (tys:List TypeId),(∀x∈l,∀ty,aE T s ty x=aE T s' ty x)→fv T s l tys=fv T s' l tys
 | [],_,_=>rfl
 | x::l,tys,h=>by
  simp only [fv]
  rw [h x (by simp),L0 l tys.tail fun y hy=>h y (by simp [hy])]
theorem Dy {ty:TypeId} {n:Nat} (x:Option Operand) (h:∀y,x=some y→∀ty,aE T s ty y=aE T s' ty y):cY T s ty n x=cY T s' ty n x:=by
 cases x with
 | none=>rfl
 | some y=>simp only [cY];rw [h y rfl]
theorem Sx (c:Call) (h:∀x∈c.operands.toList,∀ty,aE T s ty x=aE T s' ty x):ez T s c=ez T s' c:=by
 unfold ez
 cases hc:c.callee with
 | value g =>
  simp only
  rw [h g (by simp [Call.operands,hc]),L0 _ _ fun x hx=>h x (by simp only [Call.operands,hc,Xz,yg];exact .inr hx)]
 | _=>rfl
theorem Sy {i:TI} {K:A→Prop} (hb:∀id ls,look s.box id=some ls→look s'.box id=some ls) (hr:s'.row=s.row) {l:L} (h:eC s i K l):eC s' i K l:=by
 cases l<;>simp only [eC,hr] at h ⊢
 case ptr id off =>
  obtain ⟨ls,h1,h2⟩:=aF h
  rw [hb _ _ h1]
  exact h2
 all_goals exact h
theorem SA {j:TI} {n:Int} {K:A→Prop} (hr:s'.row=s.row) {l:L} (h:eF s j n K l):eF s' j n K l:=by
 cases l<;>simp only [eF,hr] at h ⊢<;>exact h
theorem L1 {o:Oper} {K:A→Prop} (hb:∀id ls,look s.box id=some ls→look s'.box id=some ls) (hr:s'.row=s.row) (E:∀x∈o.op.operands.toList,∀ty,aE T s ty x=aE T s' ty x) (h:bF P T o s K):bF P T o s' K:=by
 unfold bF at h ⊢
 split at h
 case h_1 x ho=>simp only [ho] at E ⊢;rw [←E x (by simp [Op.operands])];exact h
 case h_2 x ho=>simp only [ho] at E ⊢;rw [←E x (by simp [Op.operands])];exact h
 case h_3 c x y ho =>
  simp only [ho] at E ⊢
  rw [←E c (by simp [Op.operands])]
  obtain ⟨b,hb',h⟩:=aF h
  rw [hb',be,←E _ (by cases b<;>simp [Op.operands])]
  exact h
 case h_4 t x ho=>simp only [ho] at E ⊢;rw [←E x (by simp [Op.operands])];exact h
 case h_5 t x ho =>
  simp only [ho] at E ⊢
  rw [←E x (by simp [Op.operands])]
  obtain ⟨i,hi,h⟩:=aF h
  obtain ⟨l,hl,h⟩:=aF h
  rw [hi,hl]
  exact Sy hb hr h
 case h_6 t x f ho=>simp only [ho] at E ⊢;rw [←E x (by simp [Op.operands])];exact h
 case h_7 t x f ho=>simp only [ho] at E ⊢;rw [←E x (by simp [Op.operands])];exact h
 case h_8 t x y ho =>
  simp only [ho] at E ⊢
  rw [←E x (by simp [Op.operands]),←E y (by simp [Op.operands])]
  obtain ⟨i,hi,h⟩:=aF h
  obtain ⟨n,hn,h⟩:=aF h
  obtain ⟨l,hl,h⟩:=aF h
  rw [hi,hn,hl]
  exact SA hr h
 case h_9 t x y ho =>
  simp only [ho] at E ⊢
  rw [←E x (by simp [Op.operands])]
  obtain ⟨i,hi,h⟩:=aF h
  obtain ⟨l,hl,h⟩:=aF h
  rw [hi,hl]
  show eY T s' i y K l
  cases l<;>simp only [eY] at h ⊢
  rw [←E y (by simp [Op.operands])]
  exact h
 case h_10 x k ho=>simp only [ho] at E ⊢;rw [←E x (by simp [Op.operands])];exact h
 case h_11 op t x y t' ho=>simp only [ho] at E ⊢;rw [←E x (by simp [Op.operands]),←E y (by simp [Op.operands])];exact h
 case h_12 t parts ho =>
  simp only [ho] at E ⊢
  have hf:∀pl z,dB T s' 0 pl z parts.toList=dB T s 0 pl z parts.toList:=fun pl z=>(H0 _ _ fun p hp=>E p.2 (by simp only [Op.operands,BP];exact ⟨p,hp,rfl⟩)).symm
  simp only [hf]
  exact h
 case h_13 t len parts ho =>
  simp only [ho] at E ⊢
  have hf:∀pl z,dB T s' 0 pl z parts.toList=dB T s 0 pl z parts.toList:=fun pl z=>(H0 _ _ fun p hp=>E p.2 (by simp only [Op.operands,BP];exact ⟨p,hp,rfl⟩)).symm
  simp only [hf]
  exact h
 case h_14 f first caps ho =>
  simp only [ho] at E ⊢
  rw [←LZ (s:=s) (s':=s') caps.toList fun x hx=>E x (by simp only [Op.operands,Xz,yg];exact .inr hx)]
  exact h
 case h_15 t x lo hi ho =>
  simp only [ho] at E ⊢
  have e1:∀n,cY T s' t n lo=cY T s t n lo:=fun n=>(Dy lo fun y hy=>E y (by simp [Op.operands,hy])).symm
  have e2:∀n,cY T s' t n hi=cY T s t n hi:=fun n=>(Dy hi fun y hy=>E y (by simp [Op.operands,hy])).symm
  rw [←E x (by simp [Op.operands])]
  obtain ⟨l,hl,h⟩:=aF h
  rw [hl]
  show eD T s' t lo hi K l
  cases l<;>simp only [eD,e1,e2,hr] at h ⊢<;>exact h
 case h_16 t x lo hi z ho =>
  simp only [ho] at E ⊢
  have e1:∀n,cY T s' t n lo=cY T s t n lo:=fun n=>(Dy lo fun y hy=>E y (by simp [Op.operands,hy])).symm
  have e2:∀n,cY T s' t n hi=cY T s t n hi:=fun n=>(Dy hi fun y hy=>E y (by simp [Op.operands,hy])).symm
  have e3:∀n,cY T s' t n (some z)=cY T s t n (some z):=fun n=>(Dy (some z) fun y hy=>E y (by simp [Op.operands,←Ae hy])).symm
  rw [←E x (by simp [Op.operands])]
  simp only [e1,e2,e3]
  exact h
 case h_17 x ho=>simp only [ho] at E ⊢;rw [←E x (by simp [Op.operands])];exact h
 case h_18 t t' x ho=>simp only [ho] at E ⊢;rw [←E x (by simp [Op.operands])];exact h
 case h_19 c ho =>
  simp only [ho] at E ⊢
  split at h
  ·rename_i hcal
   split at h
   ·rename_i x t hargs htys
    rw [←E x (by simp [Op.operands,Call.operands,hcal,hargs])]
    exact h
   ·cases h
  ·rename_i hcal
   split at h
   ·rename_i x y hargs
    rw [←E x (by simp [Op.operands,Call.operands,hcal,hargs]),←E y (by simp [Op.operands,Call.operands,hcal,hargs])]
    exact h
   ·cases h
  ·rename_i hcal
   split at h
   ·rename_i x y hargs
    rw [←E x (by simp [Op.operands,Call.operands,hcal,hargs]),←E y (by simp [Op.operands,Call.operands,hcal,hargs])]
    exact h
   ·cases h
  ·rw [←Sx (s:=s) (s':=s') c fun x hx=>E x (by simpa [Op.operands] using hx)]
   simpa only [HW,hr] using h
  ·cases h
 case h_20 t x ho=>simp only [ho] at E ⊢;rw [←E x (by simp [Op.operands])];exact h
 case h_21=>cases h
theorem SB {i:TI} {K:A→Prop} {l:L} (h:eC s i K l):∃z,K z∧eC s i (fun q=>q=z) l:=by
 cases l<;>simp only [eC] at h ⊢
 ·obtain ⟨z,hz,h⟩:=aF h
  exact ⟨_,h,by simp only [hz,be]⟩
 ·obtain ⟨ls,hls,h⟩:=aF h
  obtain ⟨z,hz,h⟩:=aF h
  exact ⟨_,h,by simp only [hls,hz,be]⟩
 ·obtain ⟨r,hr,h1,h⟩:=aF h
  obtain ⟨z,hz,h⟩:=aF h
  exact ⟨_,h,by simp only [hr,hz,be];exact ⟨h1,trivial⟩⟩
theorem SC {j:TI} {n:Int} {K:A→Prop} {l:L} (h:eF s j n K l):∃z,K z∧eF s j n (fun q=>q=z) l:=by
 cases l<;>simp only [eF] at h ⊢
 ·exact ⟨_,h.2.2,h.1,h.2.1,rfl⟩
 ·obtain ⟨r,hr,h1,h2,h3⟩:=aF h
  exact ⟨_,h3,by rw [hr];exact ⟨h1,h2,rfl⟩⟩
theorem L2 {o:Oper} {K:A→Prop} (h:bF P T o s K):∃x,K x∧bF P T o s (fun y=>y=x):=by
 unfold bF at h ⊢
 split at h
 case h_1 x ho=>obtain ⟨y,hy,h⟩:=aF h;exact ⟨_,h,by simp only [hy,be]⟩
 case h_2 x ho=>obtain ⟨y,hy,h⟩:=aF h;exact ⟨_,h,by simp only [hy,be]⟩
 case h_3 c x y ho =>
  obtain ⟨b,hb,h⟩:=aF h
  obtain ⟨z,hz,h⟩:=aF h
  exact ⟨_,h,by simp only [hb,hz,be]⟩
 case h_4 t x ho=>obtain ⟨b,hb,h⟩:=aF h;exact ⟨_,h,by simp only [hb,be]⟩
 case h_5 t x ho =>
  obtain ⟨i,hi,h⟩:=aF h
  obtain ⟨y,hy,h⟩:=aF h
  obtain ⟨z,h1,h2⟩:=SB h
  exact ⟨z,h1,by rw [hi,hy];exact h2⟩
 case h_6 t x f ho =>
  obtain ⟨i,hi,h⟩:=aF h
  obtain ⟨y,hy,h⟩:=aF h
  obtain ⟨off,ho',h⟩:=aF h
  obtain ⟨z,hz,h⟩:=aF h
  exact ⟨_,h,by simp only [hi,hy,ho',hz,be]⟩
 case h_7 t x f ho =>
  obtain ⟨i,hi,h⟩:=aF h
  obtain ⟨l,hl,h⟩:=aF h
  obtain ⟨p,hp,h⟩:=aF h
  obtain ⟨j,hj,h⟩:=aF h
  obtain ⟨ls,hls,hf,h⟩:=aF h
  obtain ⟨z,hz,h⟩:=aF h
  exact ⟨_,h,by simp only [hi,hl,hp,hj,hls,be];exact ⟨hf,by simp only [hz,be]⟩⟩
 case h_8 t x y ho =>
  obtain ⟨j,hj,h⟩:=aF h
  obtain ⟨n,hn,h⟩:=aF h
  obtain ⟨l,hl,h⟩:=aF h
  obtain ⟨z,h1,h2⟩:=SC h
  exact ⟨z,h1,by rw [hj,hn,hl];exact h2⟩
 case h_9 t x y ho =>
  obtain ⟨i,hi,h⟩:=aF h
  obtain ⟨l,hl,h⟩:=aF h
  rw [hi,hl]
  show ∃x,K x∧eY T s i y (fun y=>y=x) l
  cases l<;>simp only [eY] at h ⊢
  obtain ⟨n,hn,h1,h2,h⟩:=aF h
  exact ⟨_,h,by simp only [hn,be];exact ⟨h1,h2,trivial⟩⟩
 case h_10 x k ho =>
  obtain ⟨xs,hx,h⟩:=aF h
  obtain ⟨y,hy,h⟩:=aF h
  exact ⟨_,h,by simp only [hx,hy,be]⟩
 case h_11 op t x y t' ho =>
  obtain ⟨v1,h1,h⟩:=aF h
  obtain ⟨v2,h2,h⟩:=aF h
  rw [h1,h2]
  show ∃x,K x∧eZ P op t (fun y=>y=x) v1 v2
  unfold eZ at h ⊢
  split at h
  ·obtain ⟨p,h3,h4,h⟩:=aF h
   exact ⟨_,h,by simp only [h3,be];exact ⟨h4,trivial⟩⟩
  ·obtain ⟨ks,hk,h3,h⟩:=aF h
   obtain ⟨b,hb,h⟩:=aF h
   obtain ⟨b',hb',h⟩:=aF h
   exact ⟨_,h,by simp only [hk,hb,hb',be];exact ⟨h3,trivial⟩⟩
  ·cases h
 case h_12 t parts ho =>
  obtain ⟨i,hi,h⟩:=aF h
  obtain ⟨l,hl,h⟩:=aF h
  obtain ⟨z,hz,h⟩:=aF h
  obtain ⟨pl,hp,h⟩:=aF h
  obtain ⟨ls,hls,h⟩:=aF h
  exact ⟨_,h,by simp only [hi,hl,hz,hp,hls,be]⟩
 case h_13 t len parts ho =>
  obtain ⟨j,hj,h⟩:=aF h
  obtain ⟨z,hz,hc,h⟩:=aF h
  obtain ⟨ls,hls,hfz,h⟩:=aF h
  exact ⟨_,h,by simp only [hj,hz,hls,be];exact ⟨hc,hfz,trivial⟩⟩
 case h_14 f first caps ho =>
  obtain ⟨h1,h⟩:=h
  obtain ⟨cs,hcs,h⟩:=aF h
  exact ⟨_,h,h1,by simp only [hcs,be]⟩
 case h_15 t x lo hi ho =>
  obtain ⟨l,hl,h⟩:=aF h
  rw [hl]
  show ∃x,K x∧eD T s t lo hi (fun y=>y=x) l
  cases l<;>simp only [eD] at h ⊢
  ·obtain ⟨i,hi',h⟩:=aF h
   obtain ⟨l,hl,h⟩:=aF h
   obtain ⟨hh,hhi,h1,h2,h⟩:=aF h
   exact ⟨_,h,by simp only [hi',hl,hhi,be];exact ⟨h1,h2,trivial⟩⟩
  ·obtain ⟨i,hi',h⟩:=aF h
   obtain ⟨l,hl,h⟩:=aF h
   obtain ⟨hh,hhi,h1,h2,h⟩:=aF h
   exact ⟨_,h,by simp only [hi',hl,hhi,be];exact ⟨h1,h2,trivial⟩⟩
  ·obtain ⟨i,hi',h⟩:=aF h
   obtain ⟨l,hl,h⟩:=aF h
   obtain ⟨hh,hhi,h1,h2,h⟩:=aF h
   exact ⟨_,h,by simp only [hi',hl,hhi,be];exact ⟨h1,h2,trivial⟩⟩
  ·obtain ⟨i,hi',h⟩:=aF h
   obtain ⟨r,hr,h⟩:=aF h
   obtain ⟨l,hl,h⟩:=aF h
   obtain ⟨hh,hhi,h1,h2,h⟩:=aF h
   exact ⟨_,h,by simp only [hi',hr,hl,hhi,be];exact ⟨h1,h2,trivial⟩⟩
 case h_16 t x lo hi z ho =>
  obtain ⟨j,hj,h⟩:=aF h
  obtain ⟨v1,hx,h⟩:=aF h
  obtain ⟨n,hn,h⟩:=aF h
  obtain ⟨l,hl,h⟩:=aF h
  obtain ⟨hh,hhi,h⟩:=aF h
  obtain ⟨mx,hmx,h1,h2,h⟩:=aF h
  exact ⟨_,h,by simp only [hj,hx,hn,hl,hhi,hmx,be];exact ⟨h1,h2,trivial⟩⟩
 case h_17 x ho =>
  obtain ⟨y,hy,h1,h⟩:=aF h
  exact ⟨_,h,by simp only [hy,be];exact ⟨h1,trivial⟩⟩
 case h_18 t t' x ho =>
  obtain ⟨l,hl,h⟩:=aF h
  rw [hl]
  show ∃x,K x∧fj P T t t' (fun y=>y=x) l
  cases l<;>simp only [fj] at h ⊢
  ·obtain ⟨h1,h⟩:=h
   obtain ⟨k,hk,h⟩:=aF h
   exact ⟨_,h,h1,by simp only [hk,be]⟩
  ·obtain ⟨i,hi,h⟩:=aF h
   obtain ⟨i',hi',h⟩:=aF h
   obtain ⟨e,he,h1,h⟩:=aF h
   exact ⟨_,h,by simp only [hi,hi',he,be];exact ⟨h1,trivial⟩⟩
 case h_19 c ho =>
  split at h
  ·split at h
   ·obtain ⟨i,hi,h⟩:=aF h
    obtain ⟨l,hl,h⟩:=aF h
    obtain ⟨n,hn,h1,h⟩:=aF h
    exact ⟨_,h,by simp only [hi,hl,hn,be];exact ⟨h1,trivial⟩⟩
   ·cases h
  ·split at h
   ·obtain ⟨l1,h1,h⟩:=aF h
    obtain ⟨l2,h2,h⟩:=aF h
    obtain ⟨l,hl,h⟩:=aF h
    exact ⟨_,h,by simp only [h1,h2,hl,be]⟩
   ·cases h
  ·split at h
   ·obtain ⟨l1,h1,h⟩:=aF h
    obtain ⟨l2,h2,h⟩:=aF h
    obtain ⟨l,hl,h⟩:=aF h
    exact ⟨_,h,by simp only [h1,h2,hl,be]⟩
   ·cases h
  ·obtain ⟨p,hp,r,h⟩:=aF h
   rcases h with ⟨h1,h⟩|⟨h1,h⟩
   ·exact ⟨_,h,by simp only [hp,be];exact ⟨r,.inl ⟨h1,rfl⟩⟩⟩
   ·exact ⟨_,h,by simp only [hp,be];exact ⟨r,.inr ⟨h1,rfl⟩⟩⟩
  ·cases h
 case h_20 t x ho =>
  obtain ⟨l,hl,h⟩:=aF h
  cases l with
  | int k n=>exact ⟨_,h,by simp only [hl,be,Fj]⟩
  | _=>cases h
 case h_21=>cases h
def cQ (P:Program) (T:TypeId→Option TI) (ops:Array Oper):List Oper→St→(St→Prop)→Prop
 | [],s,K=>K s
 | o::l,s,K=>match guardOf ops s o with
  | some true=>bF P T o s (pk s o.dst fun s'=>cQ P T ops l s' K)
  | some false=>pk s o.dst (fun s'=>cQ P T ops l s' K) (.cR [])
  | none=>False
def pM (s:St):List (Option Tmp×A)→St
 | []=>s
 | p::ps=>pM (s.fw p.1 p.2) ps
def Br (P:Program) (T:TypeId→Option TI) (ops:Array Oper) (s:St) (o:Oper) (x:A):Prop :=
 s.rO o.dst∧((guardOf ops s o=some true∧bF P T o s (fun y=>y=x))∨(guardOf ops s o=some false∧x=.cR []))
theorem KF (s:St) (d:Option Tmp) (x:A):(s.fw d x).n=s.n:=by cases d<;>rfl
theorem KG (s:St) (d:Option Tmp) (x:A):(s.fw d x).box=s.box:=by cases d<;>rfl
theorem KH (s:St) (d:Option Tmp) (x:A):(s.fw d x).row=s.row:=by cases d<;>rfl
theorem xE:∀(ps:List (Option Tmp×A)) (s:St),(pM s ps).n=s.n
 | [],_=>rfl
 | p::ps,s=>by rw [pM,xE ps,KF]
theorem yB:∀(ps:List (Option Tmp×A)) (s:St),(pM s ps).box=s.box
 | [],_=>rfl
 | p::ps,s=>by rw [pM,yB ps,KG]
theorem xT:∀(ps:List (Option Tmp×A)) (s:St),(pM s ps).row=s.row
 | [],_=>rfl
 | p::ps,s=>by rw [pM,xT ps,KH]
theorem B3 {ops:Array Oper} {K:St→Prop}:∀(l:List Oper) (s:St),cQ P T ops l s K→∃ps:List (Option Tmp×A),ps.length=l.length∧K (pM s ps) ∧
  ∀(i:Nat) (o:Oper),l[i]?=some o→∃x,ps[i]?=some (o.dst,x)∧Br P T ops (pM s (ps.take i)) o x
 | [],s,h=>⟨[],rfl,h,fun i o hi=>by simp at hi⟩
 | o::l,s,h=>by
  simp only [cQ] at h
  have fin:∀x,Br P T ops s o x→cQ P T ops l (s.fw o.dst x) K→∃ps:List (Option Tmp×A),ps.length=(o::l).length∧K (pM s ps) ∧
    ∀(i:Nat) (o':Oper),(o::l)[i]?=some o'→∃x,ps[i]?=some (o'.dst,x)∧Br P T ops (pM s (ps.take i)) o' x:=by
   intro x hx h
   obtain ⟨ps,h1,h2,h3⟩:=B3 l _ h
   refine ⟨(o.dst,x)::ps,by simp [h1],h2,fun i o' hi=>?_⟩
   cases i with
   | zero=>simp only [c8,Option.some.injEq] at hi;subst hi;exact ⟨x,rfl,hx⟩
   | succ i =>
    obtain ⟨y,h4,h5⟩:=h3 i o' (by simpa using hi)
    exact ⟨y,by simpa using h4,h5⟩
  split at h
  ·rename_i hg
   obtain ⟨x,hx,hv⟩:=L2 h
   obtain ⟨h1,h2⟩:=yM hx
   exact fin x ⟨h1,.inl ⟨hg,hv⟩⟩ h2
  ·rename_i hg
   obtain ⟨h1,h2⟩:=yM h
   exact fin _ ⟨h1,.inr ⟨hg,rfl⟩⟩ h2
  ·cases h
def ES (ps:List (Option Tmp×A)):Prop:=∀(i j:Nat) (p q:Option Tmp×A) (t:Tmp),ps[i]?=some p→ps[j]?=some q→p.1=some t→q.1=some t→i=j
theorem xF:∀(ps:List (Option Tmp×A)) (s:St),ES ps→∀(t:Tmp) (x:A),look (pM s ps).env t=some x↔(some t,x)∈ps∨((∀p∈ps,p.1≠some t)∧look s.env t=some x)
 | [],s,_,t,x=>by simp [pM]
 | p::ps,s,hA,t,x=>by
  have hA':ES ps:=fun i j q r u h1 h2 h3 h4=>by
   have:=hA (i+1) (j+1) q r u (by simpa using h1) (by simpa using h2) h3 h4
   omega
  rw [pM,xF ps _ hA' t x]
  have hput:look (s.fw p.1 p.2).env t=if p.1=some t then some p.2 else look s.env t:=by
   unfold St.fw
   cases hp:p.1 with
   | none=>simp
   | some d =>
    simp only [St.put,look,Option.some.injEq]
  rw [hput]
  by_cases hp:p.1=some t
  ·have hno:∀q∈ps,q.1≠some t:=by
    intro q hq he
    obtain ⟨j,hj,rfl⟩:=List.mem_iff_getElem.1 hq
    have:=hA 0 (j+1) p ps[j] t rfl (by simp [ig hj]) hp he
    omega
   rw [if_pos hp]
   constructor
   ·rintro (h|⟨_,h⟩)
    ·exact .inl (by simp [h])
    ·injection h with h
     exact .inl (by rw [←h,←hp];simp)
   ·rintro (h|⟨h,_⟩)
    ·rcases List.mem_cons.1 h with h|h
     ·refine .inr ⟨hno,?_⟩
      rw [←h]
     ·exact .inl h
    ·exact absurd hp (h p (by simp))
  ·rw [if_neg hp]
   constructor
   ·rintro (h|⟨h1,h2⟩)
    ·exact .inl (by simp [h])
    ·refine .inr ⟨fun q hq=>?_,h2⟩
     rcases List.mem_cons.1 hq with rfl|hq
     ·exact hp
     ·exact h1 q hq
   ·rintro (h|⟨h1,h2⟩)
    ·rcases List.mem_cons.1 h with h|h
     ·exact absurd (by rw [←h]) hp
     ·exact .inl h
    ·exact .inr ⟨fun q hq=>h1 q (by simp [hq]),h2⟩
def direct (ops:Array Oper) (i:Nat):List Nat:=match ops[i]? with|some o=>(o.after.toList.filter (Region.binds .any)).map (·.on)|none=>[]
def bD (ops:Array Oper):Nat→Nat→List Nat
 | 0,i=>direct ops i
 | f+1,i=>direct ops i++(direct ops i).flatMap (bD ops f)
def qm (ops:Array Oper) (i:Nat):Option Tmp:=(ops[i]?).bind (·.dst)
def looksAt (ops:Array Oper) (i:Nat):List Tmp:=match ops[i]? with|some o=>o.looksAt ops|none=>[]
def wj (ops:Array Oper) (na dep:Nat):Bool :=
 decide (na≤ops.size)&&(List.range ops.size).all fun i =>
  (direct ops i).all (fun j=>decide (j<i)) &&
  (if i<na then (List.range na).all fun j=>i==j||((qm ops j).isNone||(qm ops i != qm ops j)) &&
    (match qm ops j with|none=>true|some t=>!(looksAt ops i).elem t||(if j<i then (bD ops dep i).elem j else (bD ops dep j).elem i))
   else (List.range i).all fun j=>(bD ops dep i).elem j)
theorem Dz {ops:Array Oper} {listed:Nat→Prop} (hcl:∀i,listed i→∀j∈direct ops i,listed j):∀(f i:Nat),(∀j∈direct ops i,listed j)→∀j∈bD ops f i,listed j
 | 0,i,h,j,hj=>h j hj
 | f+1,i,h,j,hj=>by
  simp only [bD,yg,List.mem_flatMap] at hj
  rcases hj with hj|⟨k,hk,hj⟩
  ·exact h j hj
  ·exact Dz hcl f k (hcl k (h k hk)) j hj
theorem CI.ext (h:CI P w0 m0 F0 s a w m ω) (hn:s'.n=s.n) (he:∀t,look s'.env t=look s.env t) (hb:s'.box=s.box) (hr:s'.row=s.row):CI P w0 m0 F0 s' a w m ω :=
 h.weaken hn (fun t x hx=>by rw [←he];exact hx) (fun i ls hi=>by rw [←hb];exact hi) (fun i ls hi=>by rw [←hr];exact hi)
theorem KI {x:Operand} (h:∀t,x=.tmp t→look s.env t=look s'.env t) (ty:TypeId):aE T s ty x=aE T s' ty x:=by
 cases x with
 | tmp t=>exact h t rfl
 | _=>rfl
theorem H2 {ops:Array Oper} {o:Oper} (h:∀t∈o.looksAt ops,look s.env t=look s'.env t):guardOf ops s o=guardOf ops s' o:=by
 unfold guardOf
 split
 ·rfl
 ·rename_i j want hg
  split
  ·rename_i t ht
   rw [h t (by simp [Oper.looksAt,hg,ht])]
  ·rfl
theorem GC {ops:Array Oper} {o:Oper} {t:Tmp} (h:Operand.tmp t∈o.op.operands.toList):t∈o.looksAt ops:=by
 unfold Oper.looksAt
 refine AJ _ (List.mem_filterMap.2 ⟨_,h,rfl⟩)
theorem P9 (hT:pR P T) {ops:Array Oper} {o:Oper} {x:A} (h:Br P T ops s' o x) (hbox:∀id ls,look s'.box id=some ls→look s.box id=some ls) (hrow:s'.row=s.row) (hn:s'.n=s.n) (hl:∀t∈o.looksAt ops,look s'.env t=look s.env t) (hC:CI P w0 m0 F0 s a w m ω)
  {K:Act→World→Prop} {Q:Exit→Act→World→Prop} (hK:∀v w' m',CI P w0 m0 F0 (s.fw o.dst x) (a.put o.dst v) w' m' ω→K (a.put o.dst v) w') :
  if Region.wanted o (yielded ops a.tmps) then o.wp P a w K Q∨(o.asks P a w∧LetsOut Q) else K (a.put o.dst undef) w:=by
 obtain ⟨hd,h⟩:=h
 have hd':s.rO o.dst:=by
  unfold St.rO at hd ⊢
  split at hd
  ·rw [←hn];exact hd
  ·trivial
 rcases h with ⟨hg,hv⟩|⟨hg,rfl⟩
 ·rw [H2 (s':=s) hl] at hg
  rw [if_pos (uq hC hg)]
  have hv':=L1 (s':=s) hbox hrow.symm (fun y hy ty=>KI (fun t ht=>hl t (GC (ht▸hy))) ty) hv
  obtain ⟨y,rfl,hG⟩:=CO hT hv' hC
  exact .inl (hG.1 _ _ fun v w' ⟨m',h1,h2⟩=>hK v w' m' (h1.fw hd' h2))
 ·rw [H2 (s':=s) hl] at hg
  rw [if_neg (by rw [uq hC hg];simp)]
  exact hK undef w m (hC.fw hd' w7)
def At (ps:List (Option Tmp×A)):Prop:=ps.Pairwise fun p q=>∀t,p.1=some t→q.1≠some t
theorem At.apart {ps:List (Option Tmp×A)} (h:At ps):ES ps:=by
 intro i j p q t hi hj hp hq
 have hi':=(List.getElem?_eq_some_iff.1 hi)
 have hj':=(List.getElem?_eq_some_iff.1 hj)
 obtain ⟨li,rfl⟩:=hi'
 obtain ⟨lj,rfl⟩:=hj'
 rcases O6 i j with hlt|heq|hgt
 ·exact absurd hq (List.pairwise_iff_getElem.1 h i j li lj hlt t hp)
 ·exact heq
 ·exact absurd hp (List.pairwise_iff_getElem.1 h j i lj li hgt t hq)
def sG (L:Nat→Bool) (ps:List (Option Tmp×A)):List (Option Tmp×A):=(ps.zipIdx.filter fun p=>L p.2).map (·.1)
theorem Bb {L:Nat→Bool} {ps:List (Option Tmp×A)} {p:Option Tmp×A}:p∈sG L ps↔∃i,L i=true∧ps[i]?=some p:=by
 unfold sG
 simp only [BP,Ca]
 constructor
 ·rintro ⟨⟨q,i⟩,⟨h1,h2⟩,rfl⟩
  exact ⟨i,h2,by simpa using List.mem_zipIdx_iff_getElem?.1 h1⟩
 ·rintro ⟨i,h1,h2⟩
  exact ⟨(p,i),⟨List.mem_zipIdx_iff_getElem?.2 (by simpa using h2),h1⟩,rfl⟩
theorem Bs {L:Nat→Bool} {ps:List (Option Tmp×A)} (h:At ps):At (sG L ps):=by
 refine Kv ?_ h
 have h1:(ps.zipIdx.filter fun p=>L p.2).Sublist ps.zipIdx:=YS
 have h2:=h1.map (fun p:(Option Tmp×A)×Nat=>p.1)
 have h3:ps.zipIdx.map (fun p:(Option Tmp×A)×Nat=>p.1)=ps:=by simp
 rw [h3] at h2
 exact h2
theorem mem_ready {ops:Array Oper} {listed:Array Bool} (hsz:listed.size=ops.size) {i:Nat}:i∈Region.ready .any ops listed↔i<ops.size∧listed.getD i false=false∧∀j∈direct ops i,listed.getD j false=true:=by
 unfold Region.ready
 simp only [Ca,AX,qa,wY]
 constructor
 ·rintro ⟨h1,h2,h3⟩
  have hs:ops[i]?=some ops[i]:=y7 h1
  rw [hs] at h3
  simp only [dv,eE,XA,wO,wY] at h3
  refine ⟨h1,?_,fun j hj=>?_⟩
  ·simp only [vt] at h2 ⊢
   have:i<listed.size:=by omega
   rw [y7 this] at h2 ⊢
   simpa using h2
  ·simp only [direct,hs,BP,Ca] at hj
   obtain ⟨e,⟨h4,h5⟩,rfl⟩:=hj
   obtain ⟨k,hk,rfl⟩:=List.mem_iff_getElem.1 h4
   have:=h3 k (by simpa using hk)
   simp only [Array.getElem_toList] at h5
   rw [h5] at this
   simpa using this
 ·rintro ⟨h1,h2,h3⟩
  have hs:ops[i]?=some ops[i]:=y7 h1
  refine ⟨h1,?_,?_⟩
  ·simp only [vt] at h2 ⊢
   have:i<listed.size:=by omega
   rw [y7 this] at h2 ⊢
   simpa using h2
  ·rw [hs]
   simp only [dv,eE,XA,wO,wY]
   intro k hk
   cases hb:Region.binds .any ops[i].after[k] with
   | false=>exact .inl rfl
   | true =>
    refine .inr (h3 _ ?_)
    simp only [direct,hs,BP,Ca]
    exact ⟨_,⟨by simp,hb⟩,rfl⟩
theorem vS (listed:Array Bool) {i:Nat} (hi:i<listed.size) (j:Nat):(listed.setIfInBounds i true).getD j false=if j=i then true else listed.getD j false:=by
 simp only [vt]
 by_cases h:j=i
 ·subst h
  simp [hi]
 ·rw [if_neg h,O7 (fun e=>h e.symm)]
structure BQ (ops:Array Oper) (na dep:Nat):Prop where
 le:na≤ops.size
 back:∀i,i<ops.size→∀j∈direct ops i,j<i
 apart:∀i j,i<na→j<na→i≠j→∀t,qm ops i=some t→qm ops j≠some t
 reads:∀i j t,i<na→j<na→i≠j→qm ops j=some t→t∈looksAt ops i→(j<i→j∈bD ops dep i)∧(i<j→i∈bD ops dep j)
 tail:∀i j,na≤i→i<ops.size→j<i→j∈bD ops dep i
theorem GD {ops:Array Oper} {na dep:Nat} (h:wj ops na dep=true):BQ ops na dep:=by
 unfold wj at h
 simp only [qa,uv,zC,AX] at h
 obtain ⟨h0,h⟩:=h
 refine ⟨h0,fun i hi j hj=>(h i hi).1 j hj,fun i j hi hj hne t hti htj=>?_,fun i j t hi hj hne ht hl=>?_,fun i j hi hin hj=>?_⟩
 ·have h1:=(h i (by omega)).2
  rw [if_pos hi] at h1
  simp only [zC,AX] at h1
  have h2:=h1 j hj
  simp only [wO,uP,qa] at h2
  rcases h2 with h2|⟨h2,_⟩
  ·exact hne h2
  ·rw [hti,htj] at h2
   simp at h2
 ·have h1:=(h i (by omega)).2
  rw [if_pos hi] at h1
  simp only [zC,AX] at h1
  have h2:=h1 j hj
  simp only [wO,uP,qa] at h2
  rcases h2 with h2|⟨_,h2⟩
  ·exact absurd h2 hne
  ·rw [ht] at h2
   have hl':(looksAt ops i).elem t=true:=by simpa using hl
   simp only [hl',fi,Rh] at h2
   constructor
   ·intro hlt
    rw [if_pos hlt] at h2
    simpa using h2
   ·intro hlt
    rw [if_neg (by omega)] at h2
    simpa using h2
 ·have h1:=(h i hin).2
  rw [if_neg (by omega)] at h1
  simp only [zC,AX] at h1
  simpa using h1 j hj
theorem Fo (hT:pR P T) {ops:Array Oper} {na dep:Nat} (F:BQ ops na dep) {K:St→Prop} {Q:Exit→Act→World→Prop} (hQ:∀s a w,K s→ry P w0 m0 F0 s a w→Q .normal a w) :
  ∀(fuel k:Nat) (listed:Array Bool) (s:St) (a:Act) (w:World),na≤k→k+fuel=ops.size→listed.size=ops.size→(∀i,i<ops.size→(listed.getD i false=true↔i<k)) →
   bL P T ops (ops.toList.drop k) s K→ry P w0 m0 F0 s a w→wpAny P .any ops Q fuel listed a w
 | 0,k,listed,s,a,w,hk,hf,hsz,hl,hV,hC=>by
  have hd:ops.toList.drop k=[]:=by apply EK;simp;omega
  rw [hd] at hV
  refine ⟨?_,hQ s a w hV hC⟩
  apply List.eq_nil_iff_forall_not_mem.2
  intro i hi
  obtain ⟨h1,h2,_⟩:=(mem_ready hsz).1 hi
  rw [(hl i h1).2 (by omega)] at h2
  cases h2
 | fuel+1,k,listed,s,a,w,hk,hf,hsz,hl,hV,hC=>by
  have hkn:k<ops.size:=by omega
  have hready:∀i,i∈Region.ready .any ops listed↔i=k:=by
   intro i
   rw [mem_ready hsz]
   constructor
   ·rintro ⟨h1,h2,h3⟩
    have hge:¬ i<k:=fun hlt=>by rw [(hl i h1).2 hlt] at h2;cases h2
    rcases cV k i with hgt|hle
    ·have hcl:=Dz (ops:=ops) (listed:=fun j=>listed.getD j false=true) (fun j hj j' hj'=>by
      have hjn:j<ops.size:=by
       rcases cV j ops.size with h|h
       ·exact h
       ·rw [vt,xR (by omega)] at hj;cases hj
      have hb:=F.back j hjn j' hj'
      exact (hl j' (by omega)).2 (by have:=(hl j hjn).1 hj;omega)) dep i h3 k (F.tail i k (by omega) h1 hgt)
     have:=(hl k hkn).1 hcl
     omega
    ·omega
   ·rintro rfl
    refine ⟨hkn,?_,fun j hj=>(hl j (by have:=F.back i hkn j hj;omega)).2 (F.back i hkn j hj)⟩
    cases hb:listed.getD i false with
    | false=>rfl
    | true=>have:=(hl i hkn).1 hb;omega
  refine ⟨fun hn=>?_,fun i hi=>?_⟩
  ·have:=(hready k).2 rfl
   rw [hn] at this
   cases this
  ·have hik:=(hready i).1 hi
   subst hik
   have ho:ops[i]?=some ops[i]:=y7 hkn
   have hdrop:ops.toList.drop i=ops[i]::ops.toList.drop (i+1):=by
    rw [uV (by simpa using hkn)]
    simp
   rw [hdrop] at hV
   have next:∀s' a' w',bL P T ops (ops.toList.drop (i+1)) s' K→ry P w0 m0 F0 s' a' w'→wpAny P .any ops Q fuel (listed.setIfInBounds i true) a' w':=fun s' a' w' h1 h2 =>
    Fo hT F hQ fuel (i+1) _ s' a' w' (by omega) (by omega) (by simpa using hsz) (fun j hj=>by
     rw [vS listed (by omega)]
     by_cases hji:j=i
     ·simp [hji]
     ·rw [if_neg hji,hl j hj]
      omega) h1 h2
   obtain ⟨m,ω,h⟩:=hC
   simp only [wpOp,ho]
   simp only [bL] at hV
   split at hV
   ·rename_i hg
    rw [if_pos (uq h hg)]
    exact .inl (Ba hT hV h _ _ fun s' a' w' hK hc=>next s' a' w' hK hc)
   ·rename_i hg
    rw [if_neg (by rw [uq h hg];simp)]
    obtain ⟨h1,h2⟩:=yM hV
    exact next _ _ w h2 ⟨m,ω,h.fw h1 w7⟩
   ·cases hV
theorem SD (hT:pR P T) {ops:Array Oper} {na dep:Nat} (F:BQ ops na dep) {K:St→Prop} {Q:Exit→Act→World→Prop} (hQ:∀s a w,K s→ry P w0 m0 F0 s a w→Q .normal a w) {s:St} {ps:List (Option Tmp×A)}
  (hlen:ps.length=na) (hstep:∀i,i<na→∃o x,ops[i]?=some o∧ps[i]?=some (o.dst,x)∧Br P T ops (pM s (ps.take i)) o x) (hV:bL P T ops (ops.toList.drop na) (pM s ps) K) :
  ∀(fuel:Nat) (listed:Array Bool) (a:Act) (w:World) (c:Nat),c+fuel=ops.size→listed.size=ops.size→((List.range ops.size).filter fun i=>listed.getD i false).length=c →
   (∀i,i<ops.size→listed.getD i false=true→∀j∈direct ops i,listed.getD j false=true)→(∀i,na≤i→i<ops.size→listed.getD i false=false) →
   (∃m ω,CI P w0 m0 F0 (pM s (sG (fun i=>listed.getD i false) ps)) a w m ω)→wpAny P .any ops Q fuel listed a w:=by
 have hapart:At ps:=by
  refine List.pairwise_iff_getElem.2 fun i j hi hj hij t hp=>?_
  obtain ⟨o,x,h1,h2,_⟩:=hstep i (by omega)
  obtain ⟨o',x',h1',h2',_⟩:=hstep j (by omega)
  rw [ig hi] at h2
  rw [ig hj] at h2'
  injection h2 with h2
  injection h2' with h2'
  rw [h2] at hp
  rw [h2']
  have hp':o.dst=some t:=hp
  have h4:=F.apart i j (by omega) (by omega) (by omega) t (by simp [qm,h1,hp'])
  simpa [qm,h1'] using h4
 have hdst:∀j p,ps[j]?=some p→j<na∧qm ops j=p.1:=by
  intro j p hp
  have hj:j<na:=by rw [←hlen];exact (List.getElem?_eq_some_iff.1 hp).1
  obtain ⟨o,x,h1,h2,_⟩:=hstep j hj
  rw [hp] at h2
  injection h2 with h2
  exact ⟨hj,by simp [qm,h1,h2]⟩
 intro fuel
 induction fuel with
 | zero =>
  intro listed a w c hc hsz hcnt hcl htl hC
  have hall:∀i,i<ops.size→listed.getD i false=true:=by
   intro i hi
   have h1:((List.range ops.size).filter fun i=>listed.getD i false).length=(List.range ops.size).length:=by rw [hcnt,Ri];omega
   have h2:=List.length_filter_eq_length_iff.1 h1
   exact h2 i (by simpa using hi)
  have hna:na=ops.size:=by
   rcases cV na ops.size with h|h
   ·have:=htl na (br _) h
    rw [hall na h] at this
    cases this
   ·have:=F.le;omega
  obtain ⟨m,ω,h⟩:=hC
  have hA:CI P w0 m0 F0 (pM s ps) a w m ω:=by
   refine h.ext (by rw [xE,xE]) (fun t=>?_) (by rw [yB,yB]) (by rw [xT,xT])
   apply Hc
   intro x
   rw [xF _ _ hapart.apart,xF _ _ (Bs hapart).apart]
   have hmem:∀p,p∈ps↔p∈sG (fun i=>listed.getD i false) ps:=by
    intro p
    rw [Bb]
    constructor
    ·intro hp
     obtain ⟨i,hi,rfl⟩:=List.mem_iff_getElem.1 hp
     exact ⟨i,hall i (by omega),ig hi⟩
    ·rintro ⟨i,_,hi⟩
     exact rX hi
   simp only [hmem]
  exact Fo hT F hQ 0 na listed (pM s ps) a w (br _) (by omega) hsz (fun i hi=>⟨fun _=>by omega,fun _=>hall i hi⟩) hV ⟨m,ω,hA⟩
 | succ fuel ih =>
  intro listed a w c hc hsz hcnt hcl htl hC
  by_cases hdone:∀i,i<na→listed.getD i false=true
  ·
   obtain ⟨m,ω,h⟩:=hC
   have hA:CI P w0 m0 F0 (pM s ps) a w m ω:=by
    refine h.ext (by rw [xE,xE]) (fun t=>?_) (by rw [yB,yB]) (by rw [xT,xT])
    apply Hc
    intro x
    rw [xF _ _ hapart.apart,xF _ _ (Bs hapart).apart]
    have hmem:∀p,p∈ps↔p∈sG (fun i=>listed.getD i false) ps:=by
     intro p
     rw [Bb]
     constructor
     ·intro hp
      obtain ⟨i,hi,rfl⟩:=List.mem_iff_getElem.1 hp
      exact ⟨i,hdone i (by omega),ig hi⟩
     ·rintro ⟨i,_,hi⟩
      exact rX hi
    simp only [hmem]
   have hcna:c=na:=by
    rw [←hcnt]
    have h1:((List.range ops.size).filter fun i=>listed.getD i false)=(List.range ops.size).filter fun i=>decide (i<na):=by
     apply En
     intro i hi
     have hi:i<ops.size:=by simpa using hi
     by_cases hlt:i<na
     ·rw [hdone i hlt];simp [hlt]
     ·rw [htl i (by omega) hi];simp [hlt]
    rw [h1]
    have h2:∀n,na≤n→((List.range n).filter fun i=>decide (i<na)).length=na:=by
     intro n hn
     induction n with
     | zero=>simp;omega
     | succ n ihn =>
      rw [Cb,tZ,bA]
      rcases cV n na with h|h
      ·have hna:na=n+1:=by omega
       have:((List.range n).filter fun i=>decide (i<na))=List.range n:=by
        apply List.filter_eq_self.2
        intro i hi
        have:i<n:=by simpa using hi
        simp;omega
       rw [this]
       simp [h]
       omega
      ·rw [ihn h]
       simp [show ¬ n<na from by omega]
    exact h2 _ F.le
   exact Fo hT F hQ (fuel+1) na listed (pM s ps) a w (br _) (by omega) hsz (fun i hi=>⟨(fun hl=>by
    rcases cV i na with h|h
    ·exact h
    ·rw [htl i h hi] at hl
     cases hl),fun hlt=>hdone i hlt⟩) hV ⟨m,ω,hA⟩
  ·
   have hex:∃i,i<na∧listed.getD i false=false:=by
    apply Dm
    intro hn
    apply hdone
    intro i hi
    cases hb:listed.getD i false with
    | true=>rfl
    | false=>exact absurd ⟨i,hi,hb⟩ hn
   refine ⟨fun hn=>?_,fun i hi=>?_⟩
   ·exfalso
    obtain ⟨i,h1,h2⟩:=hex
    have key:∀n i,i≤n→i<na→listed.getD i false=false→∃k,k∈Region.ready .any ops listed:=by
     intro n
     induction n with
     | zero =>
      intro i hi hina hb
      have:i=0:=by omega
      subst this
      refine ⟨0,(mem_ready hsz).2 ⟨by have:=F.le;omega,hb,fun j hj=>?_⟩⟩
      have:=F.back 0 (by have:=F.le;omega) j hj
      omega
     | succ n ihn =>
      intro i hi hina hb
      by_cases hall:∀j∈direct ops i,listed.getD j false=true
      ·exact ⟨i,(mem_ready hsz).2 ⟨by have:=F.le;omega,hb,hall⟩⟩
      ·have:∃j,j∈direct ops i∧listed.getD j false=false:=by
        apply Dm
        intro hn
        apply hall
        intro j hj
        cases hb:listed.getD j false with
        | true=>rfl
        | false=>exact absurd ⟨j,hj,hb⟩ hn
       obtain ⟨j,hj,hjb⟩:=this
       have:=F.back i (by have:=F.le;omega) j hj
       exact ihn j (by omega) (by omega) hjb
    obtain ⟨k,hk⟩:=key i i (br _) h1 h2
    rw [hn] at hk
    cases hk
   ·obtain ⟨h1,h2,h3⟩:=(mem_ready hsz).1 hi
    have hcl':∀j∈bD ops dep i,listed.getD j false=true:=Dz (ops:=ops) (listed:=fun j=>listed.getD j false=true) (fun j hj j' hj'=>by
     have hjn:j<ops.size:=by
      rcases cV j ops.size with h|h
      ·exact h
      ·rw [vt,xR (by omega)] at hj;cases hj
     exact hcl j hjn hj j' hj') dep i h3
    have hina:i<na:=by
     rcases cV i na with h|h
     ·exact h
     ·obtain ⟨j,hj,hjb⟩:=hex
      have:=hcl' j (F.tail i j h h1 (by omega))
      rw [hjb] at this
      cases this
    obtain ⟨o,x,ho,hp,hS⟩:=hstep i hina
    obtain ⟨m,ω,h⟩:=hC
    simp only [wpOp,ho]
    refine P9 hT hS (s:=pM s (sG (fun i=>listed.getD i false) ps)) (fun i x hx=>by rw [yB] at hx ⊢;exact hx) (by rw [xT,xT]) (by rw [xE,xE]) (fun t ht=>?_) h (fun v w' m' hC'=>?_)
    ·
     have htl':t∈looksAt ops i:=by simpa [looksAt,ho] using ht
     have happ:ES (ps.take i):=by
      refine At.apart ?_
      exact Kv (List.take_sublist i ps) hapart
     apply Hc
     intro y
     rw [xF _ _ happ,xF _ _ (Bs hapart).apart]
     have hmem:∀y,(some t,y)∈ps.take i↔(some t,y)∈sG (fun i=>listed.getD i false) ps:=by
      intro y
      rw [Bb]
      constructor
      ·intro hm
       obtain ⟨j,hj,he⟩:=List.mem_iff_getElem.1 hm
       have hjl:j<i:=by simp at hj;omega
       have hpj:ps[j]?=some (some t,y):=by
        have:=ig hj
        rw [he,qg,if_pos hjl] at this
        exact this
       obtain ⟨hjna,hjd⟩:=hdst j _ hpj
       exact ⟨j,hcl' j ((F.reads i j t hina hjna (by omega) hjd htl').1 hjl),hpj⟩
      ·rintro ⟨j,hjb,hpj⟩
       obtain ⟨hjna,hjd⟩:=hdst j _ hpj
       have hji:j≠i:=fun e=>by rw [e,h2] at hjb;cases hjb
       rcases cV j i with hlt|hge
       ·refine rX (i:=j) ?_
        rw [qg,if_pos hlt]
        exact hpj
       ·have hm:=(F.reads i j t hina hjna (fun e=>hji e.symm) hjd htl').2 (by omega)
        have hb:=Dz (ops:=ops) (listed:=fun j=>listed.getD j false=true) (fun j hj j' hj'=>by
         have hjn:j<ops.size:=by
          rcases cV j ops.size with h|h
          ·exact h
          ·rw [vt,xR (by omega)] at hj;cases hj
         exact hcl j hjn hj j' hj') dep j (fun j' hj'=>hcl j (by have:=F.le;omega) hjb j' hj') i hm
        rw [h2] at hb
        cases hb
     have hall:(∀p∈ps.take i,p.1≠some t)↔(∀p∈sG (fun i=>listed.getD i false) ps,p.1≠some t):=by
      constructor
      ·intro hh p hp' he
       obtain ⟨p1,p2⟩:=p
       simp only at he
       subst he
       exact hh _ ((hmem p2).2 hp') rfl
      ·intro hh p hp' he
       obtain ⟨p1,p2⟩:=p
       simp only at he
       subst he
       exact hh _ ((hmem p2).1 hp') rfl
     rw [hmem y,hall]
    ·refine ih (listed.setIfInBounds i true) _ w' (c+1) (by omega) (by simpa using hsz) ?_ ?_ ?_ ?_
     ·rw [←hcnt]
      have h4:∀n,i<n→((List.range n).filter fun j=>(listed.setIfInBounds i true).getD j false).length=((List.range n).filter fun j=>listed.getD j false).length+1:=by
       intro n hn
       induction n with
       | zero=>omega
       | succ n ihn =>
        rw [Cb,tZ,tZ,bA,bA]
        rcases cV i n with hlt|hge
        ·rw [ihn hlt]
         have:([n].filter fun j=>(listed.setIfInBounds i true).getD j false)=[n].filter fun j=>listed.getD j false:=by
          apply En
          intro j hj
          have:j=n:=by simpa using hj
          rw [vS listed (by omega),if_neg (by omega)]
         rw [this]
         omega
        ·have hin:i=n:=by omega
         subst hin
         have e1:((List.range i).filter fun j=>(listed.setIfInBounds i true).getD j false)=(List.range i).filter fun j=>listed.getD j false:=by
          apply En
          intro j hj
          have:j<i:=by simpa using hj
          rw [vS listed (by omega),if_neg (by omega)]
         have e2:([i].filter fun j=>(listed.setIfInBounds i true).getD j false).length=1:=by
          have:(listed.setIfInBounds i true).getD i false=true:=by rw [vS listed (by omega),if_pos rfl]
          simp only [dL,this,if_true,dO,bP,bI]
         have e3:([i].filter fun j=>listed.getD j false).length=0:=by
          simp only [dL,h2,de,if_false,dO,bI]
         rw [e1,e2,e3]
      exact h4 _ h1
     ·intro j hj hb k hk
      rw [vS listed (by omega)] at hb ⊢
      by_cases hki:k=i
      ·rw [if_pos hki]
      ·rw [if_neg hki]
       by_cases hji:j=i
       ·subst hji;exact h3 k hk
       ·rw [if_neg hji] at hb;exact hcl j hj hb k hk
     ·intro j hj hjn
      rw [vS listed (by omega),if_neg (by omega)]
      exact htl j hj hjn
     ·refine ⟨m',ω,hC'.ext (by rw [xE,KF,xE]) (fun t=>?_) (by rw [yB,KG,yB]) (by rw [xT,KH,xT])⟩
      apply Hc
      intro y
      rw [xF _ _ (Bs hapart).apart]
      have hput:look ((pM s (sG (fun i=>listed.getD i false) ps)).fw o.dst x).env t=if o.dst=some t then some x else look (pM s (sG (fun i=>listed.getD i false) ps)).env t:=by
       unfold St.fw
       cases hd:o.dst with
       | none=>simp
       | some d=>simp only [St.put,look,Option.some.injEq]
      rw [hput]
      have hmem:∀p,p∈sG (fun j=>(listed.setIfInBounds i true).getD j false) ps↔p=(o.dst,x)∨p∈sG (fun j=>listed.getD j false) ps:=by
       intro p
       simp only [Bb]
       constructor
       ·rintro ⟨j,hb,hj⟩
        rw [vS listed (by omega)] at hb
        by_cases hji:j=i
        ·subst hji
         rw [hp] at hj
         injection hj with hj
         exact .inl hj.symm
        ·rw [if_neg hji] at hb
         exact .inr ⟨j,hb,hj⟩
       ·rintro (rfl|⟨j,hb,hj⟩)
        ·exact ⟨i,by rw [vS listed (by omega),if_pos rfl],hp⟩
        ·refine ⟨j,?_,hj⟩
         rw [vS listed (by omega)]
         split
         ·rfl
         ·exact hb
      by_cases hd:o.dst=some t
      ·rw [if_pos hd]
       have hno:∀p∈sG (fun j=>listed.getD j false) ps,p.1≠some t:=by
        intro p hp' he
        obtain ⟨j,hb,hj⟩:=Bb.1 hp'
        have:=hapart.apart i j _ _ t hp hj hd he
        subst this
        rw [h2] at hb
        cases hb
       simp only [hmem]
       constructor
       ·rintro (h5|⟨h5,_⟩)
        ·rcases h5 with h5|h5
         ·injection h5 with _ h5;rw [h5]
         ·exact absurd rfl (hno _ h5)
        ·exact absurd hd (h5 _ (.inl rfl))
       ·intro h5
        injection h5 with h5
        exact .inl (.inl (by rw [hd,h5]))
      ·rw [if_neg hd,xF _ _ (Bs hapart).apart]
       simp only [hmem]
       constructor
       ·rintro (h5|⟨h5,h6⟩)
        ·rcases h5 with h5|h5
         ·injection h5 with h5 _;exact absurd h5.symm hd
         ·exact .inl h5
        ·exact .inr ⟨fun p hp'=>h5 p (.inr hp'),h6⟩
       ·rintro (h5|⟨h5,h6⟩)
        ·exact .inl (.inr h5)
        ·refine .inr ⟨fun p hp'=>?_,h6⟩
         rcases hp' with rfl|hp'
         ·exact hd
         ·exact h5 p hp'
theorem ab.SE (hT:pR P T) (hm:P.follows .mixedOrders=true) {Q:Exit→St→Prop} {id:Nat} {ops:Array Oper} {l:List Oper} (na dep:Nat) (hl:ops.toList=l) (hchk:wj ops na dep=true)
  (h:cQ P T ops (l.take na) s fun s'=>bL P T ops (l.drop na) s' (Q .normal)):ab P w0 m0 F0 (.region id ops true) Q s:=by
 intro a w hc
 have F:=GD hchk
 obtain ⟨ps,h1,h2,h3⟩:=B3 _ _ h
 have hlen:ps.length=na:=by
  rw [h1,←hl,rV,um]
  have:=F.le
  omega
 obtain ⟨m,ω,hC⟩:=hc
 refine wp_region_any hm ?_
 have hg0:∀i,(Array.replicate ops.size false).getD i false=false:=fun i=>by
  rw [vt,Ky]
  split<;>rfl
 refine SD hT F (K:=Q .normal) (Q:=Aa P w0 m0 F0 Q) (s:=s) (ps:=ps) (fun s a w h1 h2=>⟨s,h1,h2⟩) hlen (fun i hi=>?_) (by rw [hl];exact h2) ops.size _ a _ 0 (by omega) (by simp) ?_ ?_ ?_ ?_
 ·have hin:i<ops.size:=by have:=F.le;omega
  have ho:ops[i]?=some ops[i]:=y7 hin
  obtain ⟨x,h4,h5⟩:=h3 i ops[i] (by rw [←hl,qg,if_pos hi,BY];exact ho)
  exact ⟨ops[i],x,ho,h4,h5⟩
 ·rw [List.filter_eq_nil_iff.2 (fun i _=>by rw [hg0];simp)]
  rfl
 ·intro i _ hb
  rw [hg0] at hb
  cases hb
 ·intro i _ _
  exact hg0 i
 ·have:sG (fun i=>(Array.replicate ops.size false).getD i false) ps=[]:=by
   unfold sG
   simp only [hg0]
   simp
  rw [this]
  exact ⟨m,ω,hC.draw⟩
theorem ab.draw (hT:pR P T) (hm:P.follows .mixedOrders=true) {Q:Exit→St→Prop} {id:Nat} {ops:Array Oper} {l l1 l2:List Oper} (na dep:Nat) (hl:ops.toList=l) (hchk:wj ops na dep=true) (h1:l.take na=l1) (h2:l.drop na=l2)
  (h:∀K:St→Prop,(∀s',Q .normal s'→K s')→cQ P T ops l1 s fun s'=>bL P T ops l2 s' K):ab P w0 m0 F0 (.region id ops true) Q s :=
 ab.SE hT hm na dep hl hchk (by rw [h1,h2];exact h _ fun _ h=>h)
end
end Go.Bw
namespace Go.Bw
open Go.RowKit
section
variable {P:Program} {w0:World} {m0:Mem} {s s':St} {a:Act} {w:World} {m:Mem} {ω:Wh} {F0:Home} {T:TypeId→Option TI}
def aO:List V→A
 | [y]=>.v y
 | ys=>.cR ys
def aS (s:St) (i:TI):L→Option V
 | .fz ls=>dR i ls
 | .ptr id off=>match look s.box id with|some ls=>dR i ((ls.drop off).map L.dQ)|none=>none
 | .dj id k off=>match look s.row id with|some r=>if k<r.xs.length then dR i ((dS r.ov k 0 (r.xs.getD k [])).drop off) else none|none=>none
 | _=>none
def aQ (T:TypeId→Option TI) (s:St):List ResultVar→Option (List V)
 | []=>some []
 | .tmp t::r=>match fE (look s.env t),aQ T s r with|some y,some q=>some (y::q)|_,_=>none
 | .cell x t::r=>match oneOf (look s.env x),T t,aQ T s r with
  | some l,some i,some q=>(match aS s i l with|some y=>some (y::q)|none=>none)
  | _,_,_=>none
theorem H3 {t:TypeId} {i:TI} (hT:gM P t i=true) {ad:Addr} {cs:List Value} {ls:List L} {y:V} (hl:cs.length=ls.length)
  (hc:∀(j:Nat) (v:Value),cs[j]?=some v→w.cell? (ad.add j)=some v) (hr:∀(j:Nat) (l:L),ls[j]?=some l→∃v,cs[j]?=some v∧bi m ω v l) (hy:dR i ls=some y):∃v,(Instr.loadAt t (.pointer (some ad))).run P w=.ok v w∧sJ m ω v y:=by
 obtain ⟨hsz,hv⟩:=L3 hy
 exact L4 (P:=P) (w:=w) (m:=m) (ω:=ω) hT (ad:=ad) (cs:=cs.take i.size) (ls:=ls.take i.size) (by simp [hl]) (by rw [rV];omega)
  (fun j v hv=>hc j v (by rw [qg] at hv;split at hv;exact hv;cases hv))
  (fun j l hl=>by
   rw [qg] at hl
   split at hl
   ·rename_i hj
    obtain ⟨v,h6,h7⟩:=hr j l hl
    exact ⟨v,by rw [qg,if_pos hj];exact h6,h7⟩
   ·cases hl) hv
theorem SF {t:TypeId} {i:TI} {l:L} {v:Value} {y:V} (hT:gM P t i=true) (h:CI P w0 m0 F0 s a w m ω) (hv:bi m ω v l) (hy:aS s i l=some y):∃ad u,v=.pointer (some ad)∧(Instr.loadAt t (.pointer (some ad))).run P w=.ok u w∧sJ m ω u y:=by
 cases l with
 | fz ls =>
  obtain ⟨ad,had,hf⟩:=aM.E8 hv
  obtain ⟨cs,h1,h2,h3⟩:=L5 h.ok hf
  obtain ⟨u,h4,h5⟩:=H3 (ω:=ω) hT h1 h2 (fun j l hj=>let ⟨v,h4,h5⟩:=h3 j l hj;⟨v,h4,h5.ua⟩) hy
  exact ⟨ad,u,had,h4,h5⟩
 | ptr id off =>
  simp only [aS] at hy
  split at hy
  ·rename_i ls hb
   obtain ⟨cs,h1,h2,h3⟩:=L6 h hb off
   obtain ⟨u,h4,h5⟩:=H3 hT h1 h2 h3 hy
   exact ⟨_,u,hv,h4,h5⟩
  ·cases hy
 | dj id k off =>
  simp only [aS] at hy
  split at hy
  ·rename_i r hb
   split at hy
   ·rename_i hk
    obtain ⟨b,hblk,had⟩:=hv
    obtain ⟨b',hblk',hsz,cs,h1,h2,h3⟩:=L7 h hb hk off
    rw [hblk] at hblk'
    injection hblk' with hbb
    subst hbb
    rw [hsz] at had
    obtain ⟨u,h4,h5⟩:=H3 hT h1 h2 h3 hy
    exact ⟨_,u,had,h4,h5⟩
   ·cases hy
  ·cases hy
 | _=>cases hy
theorem H4 (hT:pR P T) (hC:CI P w0 m0 F0 s a w m ω):∀(l:List ResultVar) (ys:List V),aQ T s l=some ys →
  ∃vs:List Value,(l.mapM fun (x:ResultVar)=>(match x with
   | .tmp t=>pure (a.tmps.getD t undef)
   | .cell x t=>do loadVar t (←asAddr (a.tmps.getD x undef)):Sem Value)).run P w=.ok vs w∧vs.length=ys.length∧∀(j:Nat) (y:V),ys[j]?=some y→∃v,vs[j]?=some v∧sJ m ω v y
 | [],ys,h=>by simp only [aQ,Option.some.injEq] at h;subst h;exact ⟨[],by simp,rfl,fun j y hj=>by simp at hj⟩
 | .tmp t::r,ys,h=>by
  simp only [aQ] at h
  split at h
  ·rename_i y q hy hq
   simp only [Option.some.injEq] at h
   subst h
   obtain ⟨vs,h1,h2,h3⟩:=H4 hT hC r q hq
   have hv:sJ m ω (a.tmps.getD t undef) y:=hC.env t _ (Dt hy)
   refine ⟨a.tmps.getD t undef::vs,?_,by simp [h2],fun j y' hj=>?_⟩
   ·simp only [O8,Sem.run_bind,Sem.run_pure,Result.andThen_ok,h1]
   ·cases j with
    | zero=>simp only [c8,Option.some.injEq] at hj;subst hj;exact ⟨_,rfl,hv⟩
    | succ j=>exact h3 j y' (by simpa using hj)
  ·cases h
 | .cell x t::r,ys,h=>by
  simp only [aQ] at h
  split at h
  ·rename_i l i q hx hi hq
   split at h
   ·rename_i y hy
    simp only [Option.some.injEq] at h
    subst h
    have hv:bi m ω (a.tmps.getD x undef) l:=hC.env x _ (rf hx)
    obtain ⟨ad,u,had,hld,hvu⟩:=SF (hT _ _ hi) hC hv hy
    obtain ⟨vs,h1,h2,h3⟩:=H4 hT hC r q hq
    have hld':(loadVar t ad).run P w=.ok u w:=by
     simpa only [Instr.loadAt,Instr.sureAddr,Sem.run_bind,Sem.run_pure,Result.andThen_ok] using hld
    refine ⟨u::vs,?_,by simp [h2],fun j y' hj=>?_⟩
    ·have has:(asAddr (a.tmps.getD x undef)).run P w=.ok ad w:=by rw [had];rfl
     simp only [O8,Sem.run_bind,has,Sem.run_pure,Result.andThen_ok,hld',h1]
    ·cases j with
     | zero=>simp only [c8,Option.some.injEq] at hj;subst hj;exact ⟨_,rfl,hvu⟩
     | succ j=>exact h3 j y' (by simpa using hj)
   ·cases h
  ·cases h
theorem Ph (hT:pR P T) (hC:CI P w0 m0 F0 s a w m ω) {fn:Func} {ys:List V} (hr:aQ T s fn.results.toList=some ys) :
  ∃v,(results fn a.tmps).run P w=.ok v w∧sO m ω v (aO ys):=by
 obtain ⟨vs,h1,h2,h3⟩:=H4 hT hC fn.results.toList ys hr
 have hrun:(results fn a.tmps).run P w=.ok (if h:vs.toArray.size=1 then vs.toArray[0] else .tuple vs.toArray) w:=by
  unfold results
  rw [XB]
  simp only [Sem.run_bind,Sem.run_map]
  erw [h1]
  simp only [Result.andThen_ok,Sem.run_pure]
 refine ⟨_,hrun,?_⟩
 match ys,vs,h2,h3 with
 | [],[],_,_=>exact ⟨#[],rfl,rfl,fun j x hj=>by simp at hj⟩
 | [y],[v],_,h3 =>
  obtain ⟨u,hu,hv⟩:=h3 0 y rfl
  simp only [c8,Option.some.injEq] at hu
  subst hu
  exact hv
 | y::y2::rest,v::v2::vs,h2,h3 =>
  have hne:¬ ((v::v2::vs).toArray.size=1):=by simp
  rw [dif_neg hne]
  exact ⟨_,rfl,by simpa using h2,fun j x hj=>let ⟨u,h4,h5⟩:=h3 j x hj;⟨u,by simpa using h4,h5⟩⟩
 | [],_::_,h2,_=>simp at h2
 | _::_,[],h2,_=>simp at h2
 | [_],_::_::_,h2,_=>simp at h2
 | _::_::_,[_],h2,_=>simp at h2
def bK:Nat→List V→List (Nat×A)
 | _,[]=>[]
 | k,x::xs=>(k,.v x)::bK (k+1) xs
theorem JS:∀(xs:List V) (k t:Nat) (x:A),look (bK k xs) t=some x→k≤t∧∃y,xs[t - k]?=some y∧x=.v y
 | [],k,t,x,h=>by simp [bK,look] at h
 | y::xs,k,t,x,h=>by
  simp only [bK,look] at h
  split at h
  ·rename_i hk
   injection h with h
   subst hk
   exact ⟨br _,y,by simp,h.symm⟩
  ·rename_i hk
   obtain ⟨h1,z,h2,h3⟩:=JS xs (k+1) t x h
   refine ⟨by omega,z,?_,h3⟩
   have:t - k=(t - (k+1))+1:=by omega
   rw [this,dr]
   exact h2
def uh {α:Type} (e:List (Nat×α)):List (Nat×α)→Prop
 | []=>True
 | (t,x)::r=>look e t=some x∧uh e r
theorem x7 {α:Type} {e:List (Nat×α)}:∀{r:List (Nat×α)},uh e r→∀t x,look r t=some x→look e t=some x
 | [],_,t,x,h=>by cases h
 | (t',y)::r,⟨h1,h2⟩,t,x,h=>by
  simp only [look] at h
  split at h
  ·rename_i ht;injection h with h;subst h;subst ht;exact h1
  ·exact x7 h2 t x h
theorem St.bN {n:Nat} {e e':List (Nat×A)} {b b':List (Nat×List L)} {k k':List (Nat×aN)} (he:uh e e') (hb:uh b b') (hk:uh k k'):St.le ⟨n,e',b',k'⟩ ⟨n,e,b,k⟩ :=
 ⟨rfl,x7 he,x7 hb,x7 hk⟩
theorem H5 {α:Type} (e:List (Nat×α)):uh e []=True:=rfl
theorem H6 {α:Type} (e:List (Nat×α)) (t:Nat) (x:α) (r:List (Nat×α)):uh e ((t,x)::r)=(look e t=some x∧uh e r):=rfl
def aR (T:TypeId→Option TI) (fn:Func) (kb kr:List Nat) (r:A) (bx':qJ) (rw':Rows):Exit→St→Prop
 | .normal,s|.ret,s=>mO (aQ T s fn.results.toList) fun ys=>(aO (ys.map fun y=>(y.map (pV kb kr (s.rest kb kr))).map L.norm)=r)∧uh (s.freeze kb kr).box bx'∧uh (s.freeze kb kr).row rw'
 | _,_=>False
theorem Pj (g:V→V) (ys:List V):aO (ys.map g)=(match aO ys with|.v y=>.v (g y)|.cR q=>.cR (q.map g)):=by
 match ys with
 | []=>rfl
 | [y]=>rfl
 | y::z::r=>rfl
theorem L8 (hT:pR P T) {f:FuncId} {fn:Func} {c:Code} {xs:List V} {bx bx':qJ} {rw rw':Rows} {r:A} (kb kr:List Nat) (hf:P.funcs[f]?=some fn) (hb:fn.body=some c) (hn:(fn.name=="runtime.NumGoroutine")=false) (hx:xs.length≤fn.ntmps∧fn.ntmps≤1000)
  (h:∀w0 m0 F0,ab P w0 m0 F0 c (aR T fn kb kr r bx' rw') {n:=fn.ntmps,env:=bK 0 xs,box:=bx,row:=rw}):db P f xs bx rw r bx' rw':=by
 refine ⟨fun m w vs ω hC hA=>?_⟩
 refine .inr ⟨?_,?_⟩
 ·simp only [callFunc,Sem.run_bind,program,Sem.run,Result.andThen_ok,hf]
  rw [hn,hb]
  simp
 ·refine calls_of_wp hf hb ?_
  have hCC:ry P w m (handed bx rw ω) {n:=fn.ntmps,env:=bK 0 xs,box:=bx,row:=rw} {tmps:=vs.toArray++Array.replicate (fn.ntmps - vs.toArray.size) undef,defers:=[]} w:=by
   refine ⟨m,ω,{size:=?_,defers:=rfl,keeps:=hC.keeps,qb:=hC.qb,qc:=hC.qc,ok:=hC.ok,env:=fun t x ht=>?_,box:=hC.box,row:=hC.row,fresh:=fun κ id hl=>hC.fresh κ id (by cases κ<;>exact hl),apart:=fun κ id κ' id' hl hl'=>hC.apart κ id κ' id' (by cases κ<;>exact hl) (by cases κ'<;>exact hl'),home:=⟨fun id hid=>?_,hC.home.box,hC.home.row⟩,pL:=hC.pL}⟩
   ·simp [hA.1]
    omega
   ·obtain ⟨_,y,h2,rfl⟩:=JS xs 0 t x ht
    simp only [wc] at h2
    obtain ⟨v,h3,h4⟩:=hA.2 t y h2
    have:(vs.toArray++Array.replicate (fn.ntmps - vs.toArray.size) undef).getD t undef=v:=by
     rw [vt,x5 (by simpa using (List.getElem?_eq_some_iff.1 h3).1)]
     simp [h3]
    rw [this]
    exact h4
   ·have:=hC.home.tz id hid
    exact ⟨by show fn.ntmps≤id;omega,this.2⟩
  refine wp_mono (h w m _ _ _ hCC) fun e a' w' he=>?_
  obtain ⟨s',hq,m',ω',hC'⟩:=he
  have fin:(mO (aQ T s' fn.results.toList) fun ys=>(aO (ys.map fun y=>(y.map (pV kb kr (s'.rest kb kr))).map L.norm)=r)∧uh (s'.freeze kb kr).box bx'∧uh (s'.freeze kb kr).row rw')→a'.defers=[]∧∃v,(results fn a'.tmps).run P w'=.ok v w'∧∃v',Ending.returned v=.returned v'∧HS P w m ω bx rw r bx' rw' v' w':=by
   intro hq
   obtain ⟨ys,h1,h2,h3,h4⟩:=aF hq
   obtain ⟨v,h5,h6⟩:=Ph hT hC' h1
   obtain ⟨m'',hF,hle,hg⟩:=hC'.freeze kb kr
   have h7:sO m'' ω' v r:=by
    rw [←h2]
    have:=(h6.map hg).map (g:=L.norm) (fun v l hl=>KC (m:=m'') (ω:=ω') hl)
    have e:((aO ys).map (pV kb kr (s'.rest kb kr))).map L.norm=aO (ys.map fun y=>(y.map (pV kb kr (s'.rest kb kr))).map L.norm):=by
     rw [Pj]
     cases aO ys with
     | v y=>rfl
     | cR q=>simp [A.map]
    rw [e] at this
    exact this
   have h8:CI P w m (handed bx rw ω) (roots bx' rw') a0 w' m'' ω':=by
    have hw:=hF.weaken (s':={s'.freeze kb kr with env:=[],box:=bx',row:=rw'}) rfl (fun t x hx=>by cases hx) (x7 h3) (x7 h4)
    exact {size:=rfl,defers:=rfl,keeps:=hw.keeps,qb:=hw.qb,qc:=hw.qc,ok:=hw.ok,env:=(fun t x hx=>by cases hx),box:=hw.box,row:=hw.row,fresh:=fun κ id hl=>hw.fresh κ id (by cases κ<;>exact hl),apart:=fun κ id κ' id' hl hl'=>hw.apart κ id κ' id' (by cases κ<;>exact hl) (by cases κ'<;>exact hl'),home:=⟨fun id hid=>⟨bg _,(hw.home.tz id hid).2⟩,hw.home.box,hw.home.row⟩,pL:=hw.pL}
   exact ⟨hC'.defers,v,h5,v,rfl,m'',ω',h8,h7⟩
  cases e with
  | normal=>exact fin hq
  | ret=>exact fin hq
  | _=>cases hq
theorem SH (hT:pR P T) {f:FuncId} {fn:Func} {c:Code} {xs:List V} {r:A} (hf:P.funcs[f]?=some fn) (hb:fn.body=some c) (hn:(fn.name=="runtime.NumGoroutine")=false) (hx:xs.length≤fn.ntmps∧fn.ntmps≤1000)
  (h:∀w0 m0 F0,ab P w0 m0 F0 c (aR T fn [] [] r [] []) {n:=fn.ntmps,env:=bK 0 xs,box:=[],row:=[]}):Sat P f xs r :=
 L8 hT [] [] hf hb hn hx h
end
theorem db.rN {P:Program} {f:FuncId} {xs:List V} {r r':A} {bx':qJ} {rw':Rows} (h:db P f xs [] [] r bx' rw') (e:r.map (pV [] [] ((roots bx' rw').rest [] []))=r'):Sat P f xs r':=by
 refine ⟨fun m w vs ω hC hA=>?_⟩
 refine (h.call m w vs ω hC hA).mono fun v w' hp=>?_
 obtain ⟨m',ω',hC',hv⟩:=hp
 obtain ⟨m'',hF,hle,hg⟩:=hC'.freeze [] []
 refine ⟨m'',ω',?_,e▸hv.map hg⟩
 have hw:=hF.weaken (s':=roots [] []) rfl (fun t x hx=>by cases hx) (fun t x hx=>by cases hx) (fun t x hx=>by cases hx)
 exact hw
end Go.Bw
namespace Go.Bw
theorem look_nil {α:Type} (i:Nat):look ([]:List (Nat×α)) i=none:=rfl
theorem gY {α:Type} (t:Nat) (x:α) (e:List (Nat×α)) (i:Nat):look ((t,x)::e) i=if t=i then some x else look e i:=rfl
theorem iT {α:Type} (i:Nat):Bw.del i ([]:List (Nat×α))=[]:=rfl
theorem iU {α:Type} (i t:Nat) (x:α) (e:List (Nat×α)):Bw.del i ((t,x)::e)=if t=i then Bw.del i e else (t,x)::Bw.del i e:=rfl
theorem iV (n:Nat) (e:List (Nat×A)) (b:qJ) (k:Rows) (d:Nat) (x:A):St.put ⟨n,e,b,k⟩ d x=⟨n,(d,x)::e,b,k⟩:=rfl
theorem iW (s:St) (d:Nat) (x:A):s.fw (some d) x=s.put d x:=rfl
theorem iX (s:St) (x:A):s.fw none x=s:=rfl
theorem iY (s:St) (d:Nat):s.rO (some d)=(d<s.n):=rfl
theorem iZ (s:St):s.rO none=True:=rfl
theorem bQ (s:St) (d:Nat) (K:St→Prop) (y:A):pk s (some d) K y=(d<s.n∧K (s.put d y)):=rfl
theorem bR (s:St) (K:St→Prop) (y:A):pk s none K y=K s:=rfl
theorem ja (n:Nat) (e:List (Nat×A)) (b:qJ) (k:Rows) (id:Nat):St.vm ⟨n,e,b,k⟩ id=⟨n,e.map fun p=>(p.1,p.2.map (L.dx id)),(Bw.del id b).map fun p=>(p.1,p.2.map (L.dx id)),k.map fun p=>(p.1,p.2.map (L.dx id))⟩:=rfl
theorem jc (n:Nat) (e:List (Nat×A)) (b:qJ) (k:Rows) (id:Nat):St.aV ⟨n,e,b,k⟩ id=⟨n,e.map fun p=>(p.1,p.2.map (L.aV id)),b.map fun p=>(p.1,p.2.map (L.aV id)),(Bw.del id k).map fun p=>(p.1,p.2.map (L.aV id))⟩:=rfl
theorem jd (s:St) (d:Nat) (ls:List L):s.xS d ls=({s.vm d with box:=(d,ls.map (L.dx d))::(s.vm d).box}).put d (.v (.one (.ptr d 0))):=rfl
theorem je (s:St) (src:Option Nat) (d:Nat) (r:aN):s.xC src d r={(s.fx src).aV d with row:=(d,(r.kill src).map (L.aV d))::((s.fx src).aV d).row}:=rfl
theorem jf (g:L→L) (sz:Nat) (xs:List (List L)) (ov:List (Nat×Nat×L)):aN.map g ⟨sz,xs,ov⟩=⟨sz,xs,ov.map fun p=>(p.1,p.2.1,g p.2.2)⟩:=rfl
theorem SI (kb kr:List Nat) (s:St) (k:IntKind) (n:Int):pV kb kr s (.int k n)=.int k n:=rfl
theorem SJ (kb kr:List Nat) (s:St) (b:Bool):pV kb kr s (.bool b)=.bool b:=rfl
theorem SK (kb kr:List Nat) (s:St) (b:ByteArray):pV kb kr s (.str b)=.str b:=rfl
theorem SL (kb kr:List Nat) (s:St) (sz:Nat) (xs:List (List L)):pV kb kr s (.sl sz xs)=.sl sz xs:=rfl
theorem SM (kb kr:List Nat) (s:St) (sz:Nat):pV kb kr s (.nil sz)=.nil sz:=rfl
theorem SN (kb kr:List Nat) (s:St) (sz:Nat) (xs:List (List L)):pV kb kr s (.own sz xs)=.own sz xs:=rfl
theorem SO (kb kr:List Nat) (s:St) (ls:List L):pV kb kr s (.fz ls)=.fz ls:=rfl
theorem SP (kb kr:List Nat) (s:St):pV kb kr s .any=.any:=rfl
theorem x8 (kb kr:List Nat) (s:St) (id lo n:Nat):pV kb kr s (.ref id lo n)=if kr.elem id then .ref id lo n else gN 4 s (.ref id lo n):=rfl
theorem SQ (kb kr:List Nat) (s:St) (id o:Nat):pV kb kr s (.ptr id o)=if kb.elem id then .ptr id o else gN 4 s (.ptr id o):=rfl
theorem SS (kb kr:List Nat) (s:St) (id i o:Nat):pV kb kr s (.dj id i o)=if kr.elem id then .dj id i o else gN 4 s (.dj id i o):=rfl
theorem jg (n:Nat) (s:St) (k:IntKind) (q:Int):gN (n+1) s (.int k q)=.int k q:=rfl
theorem jh (n:Nat) (s:St) (b:Bool):gN (n+1) s (.bool b)=.bool b:=rfl
theorem ji (n:Nat) (s:St) (b:ByteArray):gN (n+1) s (.str b)=.str b:=rfl
theorem jk (n:Nat) (s:St) (sz:Nat) (xs:List (List L)):gN (n+1) s (.sl sz xs)=.sl sz xs:=rfl
theorem jl (n:Nat) (s:St) (sz:Nat):gN (n+1) s (.nil sz)=.nil sz:=rfl
theorem jm (n:Nat) (s:St) (ls:List L):gN (n+1) s (.fz ls)=.fz ls:=rfl
theorem jn (n:Nat) (s:St):gN (n+1) s .any=.any:=rfl
theorem jo (n:Nat) (s:St) (sz:Nat) (xs:List (List L)):gN (n+1) s (.own sz xs)=.sl sz (xs.map fun x=>x.map (L.fD 3)):=rfl
theorem jq (n:Nat) (s:St) (f:FuncId) (caps:List L):gN (n+1) s (.bD f caps)=.bD f (caps.map (gN n s)):=rfl
theorem jr (n:Nat) (s:St) (id lo k:Nat):gN (n+1) s (.ref id lo k)=match look s.row id with
  | some r=>if lo+k≤r.xs.length then .sl r.sz (((uf (gN n s) r).drop lo).take k) else .any
  | none=>.any:=rfl
theorem js (n:Nat) (s:St) (id i o:Nat):gN (n+1) s (.dj id i o)=match look s.row id with
  | some r=>if i<r.xs.length then .fz (((uf (gN n s) r).getD i []).drop o) else .any
  | none=>.any:=rfl
theorem jt (n:Nat) (s:St) (id o:Nat):gN (n+1) s (.ptr id o)=match look s.box id with
  | some ls=>.fz ((ls.map (gN n s)).drop o)
  | none=>.any:=rfl
theorem jv (fr:L→L) (sz:Nat) (xs:List (List L)):uf fr ⟨sz,xs,[]⟩=xs.map fun x=>x.map (L.fD 4):=rfl
def BR (fr:L→L) (l:L):Option L→L
 | some l'=>fr l'
 | none=>l.fD 4
theorem jw (fr:L→L) (l l':L):BR fr l (some l')=fr l':=rfl
theorem jx (fr:L→L) (l:L):BR fr l none=l.fD 4:=rfl
def zH (fr:L→L) (ov:List (Nat×Nat×L)) (i:Nat):Nat→List L→List L
 | _,[]=>[]
 | j,l::r=>BR fr l (aP ov i j)::zH fr ov i (j+1) r
def yN (fr:L→L) (ov:List (Nat×Nat×L)):Nat→List (List L)→List (List L)
 | _,[]=>[]
 | i,x::r=>zH fr ov i 0 x::yN fr ov (i+1) r
theorem gZ (fr:L→L) (ov:List (Nat×Nat×L)) (i j:Nat):zH fr ov i j []=[]:=rfl
theorem gV (fr:L→L) (ov:List (Nat×Nat×L)) (i j:Nat) (l:L) (r:List L):zH fr ov i j (l::r)=BR fr l (aP ov i j)::zH fr ov i (j+1) r:=rfl
theorem jy (fr:L→L) (ov:List (Nat×Nat×L)) (i:Nat):yN fr ov i []=[]:=rfl
theorem hY (fr:L→L) (ov:List (Nat×Nat×L)) (i:Nat) (x:List L) (r:List (List L)):yN fr ov i (x::r)=zH fr ov i 0 x::yN fr ov (i+1) r:=rfl
theorem L9 (fr:L→L) (ov:List (Nat×Nat×L)) (i:Nat):∀(x:List L) (j:Nat),((x.zipIdx j).map fun q=>match aP ov i q.2 with|some l=>fr l|none=>q.1.fD 4)=zH fr ov i j x
 | [],_=>rfl
 | l::r,j=>by
  simp only [XC,aJ,zH]
  rw [L9 fr ov i r (j+1)]
  congr 1
theorem Ma (fr:L→L) (ov:List (Nat×Nat×L)):∀(xs:List (List L)) (i:Nat),((xs.zipIdx i).map fun p=>p.1.zipIdx.map fun q=>match aP ov p.2 q.2 with|some l=>fr l|none=>q.1.fD 4)=yN fr ov i xs
 | [],_=>rfl
 | x::r,i=>by
  simp only [XC,aJ,yN]
  rw [Ma fr ov r (i+1),L9]
theorem jz (fr:L→L) (sz:Nat) (xs:List (List L)) (p:Nat×Nat×L) (ov:List (Nat×Nat×L)):uf fr ⟨sz,xs,p::ov⟩=yN fr (p::ov) 0 xs:=Ma fr (p::ov) xs 0
theorem jA (n:Nat) (k:IntKind) (q:Int):L.fD (n+1) (.int k q)=.int k q:=rfl
theorem jB (n:Nat) (b:Bool):L.fD (n+1) (.bool b)=.bool b:=rfl
theorem jC (n:Nat) (b:ByteArray):L.fD (n+1) (.str b)=.str b:=rfl
theorem jD (n:Nat) (sz:Nat) (xs:List (List L)):L.fD (n+1) (.sl sz xs)=.sl sz xs:=rfl
theorem jE (n:Nat) (sz:Nat):L.fD (n+1) (.nil sz)=.nil sz:=rfl
theorem jF (n:Nat):L.fD (n+1) .any=.any:=rfl
theorem jG (n:Nat) (sz:Nat) (xs:List (List L)):L.fD (n+1) (.own sz xs)=.sl sz (xs.map fun x=>x.map (L.fD n)):=rfl
theorem SU {α:Type} (e:List (Nat×α)):uw [] e=[]:=by unfold uw;simp
theorem SV {α:Type} (k:List Nat):uw k ([]:List (Nat×α))=[]:=rfl
theorem SW {α:Type} (k:List Nat) (t:Nat) (x:α) (e:List (Nat×α)):uw k ((t,x)::e)=if k.elem t then (t,x)::uw k e else uw k e:=by
 simp only [uw,dL]
theorem bh {α:Type} (e:List (Nat×α)):rW [] e=e:=by unfold rW;simp
theorem bt {α:Type} (k:List Nat):rW k ([]:List (Nat×α))=[]:=rfl
theorem bu {α:Type} (k:List Nat) (t:Nat) (x:α) (e:List (Nat×α)):rW k ((t,x)::e)=if k.elem t then rW k e else (t,x)::rW k e:=by
 simp only [rW,dL]
 cases k.elem t<;>rfl
theorem jH (i k:Nat) (l:L) (r:List L):dS [] i k (l::r)=l.dQ::dS [] i (k+1) r:=rfl
theorem jI (ov:List (Nat×Nat×L)) (i k:Nat):dS ov i k []=[]:=rfl
theorem jJ (k:IntKind) (q:Int):L.cP (.int k q)=.int k q:=rfl
theorem jK (b:Bool):L.cP (.bool b)=.bool b:=rfl
theorem jL (b:ByteArray):L.cP (.str b)=.str b:=rfl
theorem jM (sz:Nat) (xs:List (List L)):L.cP (.sl sz xs)=.sl sz xs:=rfl
theorem jN (sz:Nat):L.cP (.nil sz)=.sl sz []:=rfl
theorem jO:L.cP .any=.any:=rfl
theorem jP (ls:List L):L.cP (.fz ls)=.fz ls:=rfl
theorem jQ:pT []=True:=by simp [pT]
theorem jR (x:List L) (r:List (List L)):pT (x::r)=((x.all fun l=>!l.fS)=true∧pT r):=by
 simp [pT]
theorem jS (x y:List (List L)):pT (x++y)=(pT x∧pT y):=by
 simp only [pT,yg,JK]
 exact ⟨fun h=>⟨fun z hz=>h z (.inl hz),fun z hz=>h z (.inr hz)⟩,fun h z hz=>hz.elim (h.1 z) (h.2 z)⟩
theorem y9 {α:Type} {e:α→List L} (h:∀x,(e x).all (fun l=>!l.fS)=true) (l:List α):pT (l.map e)=True:=by
 simp only [pT,JK,iff_true]
 intro x hx y hy
 obtain ⟨z,_,rfl⟩:=List.mem_map.1 hx
 simpa using List.all_eq_true.1 (h z) y hy
theorem qB {R:St→Prop} {Q:Exit→St→Prop} {s:St} (h:R s):wz R Q .normal s:=h
theorem qF {R:St→Prop} {Q:Exit→St→Prop} {s:St} (h:Q .ret s):wz R Q .ret s:=h
theorem qN {R:St→Prop} {Q:Exit→St→Prop} {s:St} {id:Nat} (h:Q (.exit id) s):wz R Q (.exit id) s:=h
theorem qO {id:Nat} {Q:Exit→St→Prop} {s:St} (h:Q .normal s):zG id Q .normal s:=h
theorem qL {id:Nat} {Q:Exit→St→Prop} {s:St} (h:Q .ret s):zG id Q .ret s:=h
theorem qQ {id:Nat} {Q:Exit→St→Prop} {s:St} (h:Q .normal s):zG id Q (.exit id) s:=by simpa [zG] using h
theorem qR {id id':Nat} {Q:Exit→St→Prop} {s:St} (hne:(id'==id)=false) (h:Q (.exit id') s):zG id Q (.exit id') s:=by
 have:id'≠id:=by simpa using hne
 simpa [zG,this] using h
theorem ab.cut {P:Program} {w0:World} {m0:Mem} {F0:Home} {x z:Code} {Q Q3:Exit→St→Prop} {s:St} (s1:St) (h1:ab P w0 m0 F0 x (wz (fun s'=>St.le s1 s') Q) s) (h2:ab P w0 m0 F0 z Q3 s1):ab P w0 m0 F0 x (wz (ab P w0 m0 F0 z Q3) Q) s :=
 h1.mono fun e s' he=>by
  cases e with
  | normal=>exact ab.Dw he h2
  | _=>exact he
theorem bJ {α:Type} (f:α→List L) (xs:List α) (k:Nat) (h:k<xs.length):(xs.map f).getD k []=f xs[k]:=by
 simp [List.getD,h]
theorem iP (k:Nat) (h:k<9223372036854775807):IntKind.i64.wrap ((k:Int)+1)=((k+1:Nat):Int):=by
 rw [IntWalk.i64_in _ ⟨by omega,by omega⟩];rfl
theorem jT (n:Int) (h:-9223372036854775808≤n∧n≤9223372036854775807):IntKind.i64.wrap n=n:=IntWalk.i64_in n h
class Fp {α:Type} (k:α→Prop):Type where
instance {α:Type} (k:α→Prop):Fp k:=⟨⟩
def mT {α:Type} (x:Option α) (k:α→Prop) [Fp k]:Prop:=mO x k
theorem bO {α:Type} {k:α→Prop} [Fp k] (y:α):mT (some y) k=k y:=rfl
section
variable (P:Program) (T:TypeId→Option TI) (ops:Array Oper) (l:List Oper) (s:St) (K:St→Prop) (KA:A→Prop) (d:Option Tmp) (n:Tmp) (ty t t':TypeId) (pos:String) (af:Array Edge) (x y z c:Operand) (op:Op) (g:Option (Nat×Bool))
theorem jU:bL P T ops [] s K=K s:=rfl
theorem jV:bL P T ops (⟨d,op,ty,pos,af,none⟩::l) s K=dc P T ⟨d,op,ty,pos,af,none⟩ s (fun s'=>bL P T ops l s' K):=rfl
theorem jW:cQ P T ops [] s K=K s:=rfl
theorem jX:cQ P T ops (⟨d,op,ty,pos,af,none⟩::l) s K=bF P T ⟨d,op,ty,pos,af,none⟩ s (pk s d fun s'=>cQ P T ops l s' K):=rfl
def gC (ops:Array Oper) (j:Nat):Option Tmp:=(ops[j]?).bind (·.dst)
def iC:Option A→Option (Option Bool)|some (.v (.one (.bool b)))=>some (some b)|some (.cR [])=>some none|_=>none
def fy (ops:Array Oper) (s:St) (j:Nat):Option (Option Bool):=match gC ops j with|some t=>iC (look s.env t)|none=>none
theorem jY (x y:Int):(x != y)=!(x==y):=rfl
def ax (P:Program) (T:TypeId→Option TI) (ops:Array Oper) (want:Bool) (d:Option Tmp) (op:Op) (ty:TypeId) (pos:String) (af:Array Edge) (l:List Oper) (s:St) (K:St→Prop) (b:Option Bool):Prop :=
 match (match b with|some b=>b==want|none=>false) with
 | true=>bL P T ops (⟨d,op,ty,pos,af,none⟩::l) s K
 | false=>pk s d (fun s'=>bL P T ops l s' K) (.cR [])
theorem jZ:ax P T ops true d op ty pos af l s K (some true)=bL P T ops (⟨d,op,ty,pos,af,none⟩::l) s K:=rfl
theorem j4:ax P T ops false d op ty pos af l s K (some false)=bL P T ops (⟨d,op,ty,pos,af,none⟩::l) s K:=rfl
theorem j5:ax P T ops true d op ty pos af l s K (some false)=pk s d (fun s'=>bL P T ops l s' K) (.cR []):=rfl
theorem j6:ax P T ops false d op ty pos af l s K (some true)=pk s d (fun s'=>bL P T ops l s' K) (.cR []):=rfl
theorem j7 (want:Bool):ax P T ops want d op ty pos af l s K none=pk s d (fun s'=>bL P T ops l s' K) (.cR []):=rfl
theorem j8 (want b:Bool):ax P T ops want d op ty pos af l s K (some (!b))=ax P T ops (!want) d op ty pos af l s K (some b):=by cases b<;>cases want<;>rfl
theorem qS {P:Program} {T:TypeId→Option TI} {ops:Array Oper} {want:Bool} {d:Option Tmp} {op:Op} {ty:TypeId} {pos:String} {af:Array Edge} {l:List Oper} {s:St} {K:St→Prop} {b:Bool} (h1:b=true→ax P T ops want d op ty pos af l s K (some true)) (h2:b=false→ax P T ops want d op ty pos af l s K (some false)):ax P T ops want d op ty pos af l s K (some b):=by cases b;exact h2 rfl;exact h1 rfl
theorem j9 (j:Nat) (want:Bool):bL P T ops (⟨d,op,ty,pos,af,some (j,want)⟩::l) s K =
  mT (fy ops s j) (ax P T ops want d op ty pos af l s K):=by
 have:guardOf ops s ⟨d,op,ty,pos,af,some (j,want)⟩=(fy ops s j).map (fun b=>match b with|some b=>b==want|none=>false):=by
  simp only [guardOf,fy,gC]
  cases hb:(ops[j]?).bind (·.dst) with
  | none=>rfl
  | some t =>
   simp only
   cases look s.env t with
   | none=>rfl
   | some a=>cases a with
    | v y=>cases y with
     | one l=>cases l<;>rfl
     | _=>rfl
    | cR xs=>cases xs<;>rfl
 show (match guardOf ops s ⟨d,op,ty,pos,af,some (j,want)⟩ with
  | some true=>dc P T ⟨d,op,ty,pos,af,some (j,want)⟩ s fun s'=>bL P T ops l s' K|some false=>pk s d (fun s'=>bL P T ops l s' K) (.cR [])|none=>False)=_
 rw [this]
 cases fy ops s j with
 | none=>rfl
 | some b=>simp only [dv,bO,ax];cases (match b with|some b=>b==want|none=>false)<;>rfl
def ay (P:Program) (T:TypeId→Option TI) (ops:Array Oper) (want:Bool) (d:Option Tmp) (op:Op) (ty:TypeId) (pos:String) (af:Array Edge) (l:List Oper) (s:St) (K:St→Prop) (b:Option Bool):Prop :=
 match (match b with|some b=>b==want|none=>false) with
 | true=>cQ P T ops (⟨d,op,ty,pos,af,none⟩::l) s K
 | false=>pk s d (fun s'=>cQ P T ops l s' K) (.cR [])
theorem kc:ay P T ops true d op ty pos af l s K (some true)=cQ P T ops (⟨d,op,ty,pos,af,none⟩::l) s K:=rfl
theorem ke:ay P T ops false d op ty pos af l s K (some false)=cQ P T ops (⟨d,op,ty,pos,af,none⟩::l) s K:=rfl
theorem ki:ay P T ops true d op ty pos af l s K (some false)=pk s d (fun s'=>cQ P T ops l s' K) (.cR []):=rfl
theorem kj:ay P T ops false d op ty pos af l s K (some true)=pk s d (fun s'=>cQ P T ops l s' K) (.cR []):=rfl
theorem kk (want:Bool):ay P T ops want d op ty pos af l s K none=pk s d (fun s'=>cQ P T ops l s' K) (.cR []):=rfl
theorem km (want b:Bool):ay P T ops want d op ty pos af l s K (some (!b))=ay P T ops (!want) d op ty pos af l s K (some b):=by cases b<;>cases want<;>rfl
theorem qT {P:Program} {T:TypeId→Option TI} {ops:Array Oper} {want:Bool} {d:Option Tmp} {op:Op} {ty:TypeId} {pos:String} {af:Array Edge} {l:List Oper} {s:St} {K:St→Prop} {b:Bool} (h1:b=true→ay P T ops want d op ty pos af l s K (some true)) (h2:b=false→ay P T ops want d op ty pos af l s K (some false)):ay P T ops want d op ty pos af l s K (some b):=by cases b;exact h2 rfl;exact h1 rfl
theorem ko (j:Nat) (want:Bool):cQ P T ops (⟨d,op,ty,pos,af,some (j,want)⟩::l) s K =
  mT (fy ops s j) (ay P T ops want d op ty pos af l s K):=by
 have:guardOf ops s ⟨d,op,ty,pos,af,some (j,want)⟩=(fy ops s j).map (fun b=>match b with|some b=>b==want|none=>false):=by
  simp only [guardOf,fy,gC]
  cases hb:(ops[j]?).bind (·.dst) with
  | none=>rfl
  | some t =>
   simp only
   cases look s.env t with
   | none=>rfl
   | some a=>cases a with
    | v y=>cases y with
     | one l=>cases l<;>rfl
     | _=>rfl
    | cR xs=>cases xs<;>rfl
 show (match guardOf ops s ⟨d,op,ty,pos,af,some (j,want)⟩ with
  | some true=>bF P T ⟨d,op,ty,pos,af,some (j,want)⟩ s (pk s d fun s'=>cQ P T ops l s' K)|some false=>pk s d (fun s'=>cQ P T ops l s' K) (.cR [])|none=>False)=_
 rw [this]
 cases fy ops s j with
 | none=>rfl
 | some b=>simp only [dv,bO,ay];cases (match b with|some b=>b==want|none=>false)<;>rfl
def ai (P:Program) (T:TypeId→Option TI) (ops:Array Oper) (d:Option Tmp) (l:List Oper) (s:St) (K:St→Prop) (p:FuncId×List V):Prop:=xq P p.1 p.2 s d fun s'=>bL P T ops l s' K
def bH (P:Program) (T:TypeId→Option TI) (ops:Array Oper) (d:Option Tmp) (l:List Oper) (s:St) (K:St→Prop) (p:FuncId×List V):Prop:=HW P s p.1 p.2 (pk s d fun s'=>cQ P T ops l s' K)
theorem ku (f:Operand) (args:Array Operand) (tys:Array TypeId):dc P T ⟨d,.call ⟨.value f,args,tys⟩,ty,pos,af,none⟩ s (fun s'=>bL P T ops l s' K)=mT (ez T s ⟨.value f,args,tys⟩) (ai P T ops d l s K):=rfl
theorem kv (f:Operand) (args:Array Operand) (tys:Array TypeId):bF P T ⟨d,.call ⟨.value f,args,tys⟩,ty,pos,af,none⟩ s (pk s d fun s'=>cQ P T ops l s' K)=mT (ez T s ⟨.value f,args,tys⟩) (bH P T ops d l s K):=rfl
theorem ai.pure {P:Program} {T:TypeId→Option TI} {ops:Array Oper} {d:Option Tmp} {l:List Oper} {s:St} {K:St→Prop} {f:FuncId} {xs:List V} {r:A} (h:Sat P f xs r) (hk:s.rO d∧bL P T ops l (s.fw d (r.map L.cP)) K):ai P T ops d l s K (f,xs):=xq.pure h hk
theorem ai.wy {P:Program} {T:TypeId→Option TI} {ops:Array Oper} {d:Option Tmp} {l:List Oper} {s:St} {K:St→Prop} {f:FuncId} {xs ys:List V} {r:A} (h:Sat P f ys r) (hy:(xs.map fun x=>x.map (gN 4 s))=ys) (hk:s.rO d∧bL P T ops l (s.fw d (r.map L.flat)) K):ai P T ops d l s K (f,xs):=xq.wy h hy hk
theorem ai.cO {P:Program} {T:TypeId→Option TI} {ops:Array Oper} {d:Option Tmp} {l:List Oper} {s:St} {K:St→Prop} {f:FuncId} {xs ys:List V} {r:A} (hy:(xs.map fun x=>x.map (gN 4 s))=ys) (h:Sat P f ys r) (hk:s.rO d∧bL P T ops l (s.fw d (r.map L.flat)) K):ai P T ops d l s K (f,xs):=xq.wy h hy hk
theorem ai.is {P:Program} {T:TypeId→Option TI} {ops:Array Oper} {d:Option Tmp} {l:List Oper} {s:St} {K:St→Prop} {p:FuncId×List V} (h:ai P T ops d l s K p):ai P T ops d l s K p:=h
theorem bH.is {P:Program} {T:TypeId→Option TI} {ops:Array Oper} {d:Option Tmp} {l:List Oper} {s:St} {K:St→Prop} {p:FuncId×List V} (h:bH P T ops d l s K p):bH P T ops d l s K p:=h
theorem bH.intro {P:Program} {T:TypeId→Option TI} {ops:Array Oper} {d:Option Tmp} {l:List Oper} {s:St} {K:St→Prop} {f:FuncId} {xs:List V} {r:A} (h:Sat P f xs r) (hk:pk s d (fun s'=>cQ P T ops l s' K) (r.map L.cP)):bH P T ops d l s K (f,xs):=⟨r,.inl ⟨h,hk⟩⟩
theorem bH.wy {P:Program} {T:TypeId→Option TI} {ops:Array Oper} {d:Option Tmp} {l:List Oper} {s:St} {K:St→Prop} {f:FuncId} {xs ys:List V} {r:A} (h:Sat P f ys r) (hy:(xs.map fun x=>x.map (gN 4 ⟨0,[],[],s.row⟩))=ys) (hk:pk s d (fun s'=>cQ P T ops l s' K) (r.map L.flat)):bH P T ops d l s K (f,xs):=⟨r,.inr ⟨hy▸h,hk⟩⟩
theorem kw:bF P T ⟨d,.move x,ty,pos,af,g⟩ s KA=mT (aE T s ty x) KA:=rfl
theorem kA:bF P T ⟨d,.assign x,ty,pos,af,g⟩ s KA=mT (aE T s ty x) KA:=rfl
def az (T:TypeId→Option TI) (s:St) (ty:TypeId) (x y:Operand) (KA:A→Prop) [Fp KA] (b:Bool):Prop:=mO (aE T s ty (if b then x else y)) KA
theorem bS:az T s ty x y KA true=mT (aE T s ty x) KA:=rfl
theorem bT:az T s ty x y KA false=mT (aE T s ty y) KA:=rfl
theorem qU {T:TypeId→Option TI} {s:St} {ty:TypeId} {x y:Operand} {KA:A→Prop} {b:Bool} (h1:b=true→az T s ty x y KA true) (h2:b=false→az T s ty x y KA false):az T s ty x y KA b:=by cases b;exact h2 rfl;exact h1 rfl
theorem kB:bF P T ⟨d,.pick c x y,ty,pos,af,g⟩ s KA=mT (eQ (aE T s 0 c)) (az T s ty x y KA):=rfl
theorem bU (KA:A→Prop) (k:IntKind) (n:Int):Fj KA (.int k n)=KA (.v (.one (.int k (k.wrap (0 - n))))):=rfl
theorem kD:bF P T ⟨d,.unOp .neg t x,ty,pos,af,g⟩ s KA=mT (oneOf (aE T s 0 x)) (Fj KA):=rfl
theorem kE:bF P T ⟨d,.unOp .not t x,ty,pos,af,g⟩ s KA=mT (eQ (aE T s 0 x)) fun b=>KA (.v (.one (.bool !b))):=rfl
theorem kF:bF P T ⟨d,.load t x,ty,pos,af,g⟩ s KA=mT (T t) fun i=>mT (oneOf (aE T s 0 x)) (eC s i KA):=rfl
theorem bV (i:TI) (ls:List L):eC s i KA (.fz ls)=mT (dR i ls) fun z=>KA (.v z):=rfl
theorem bW (i:TI) (id o:Nat):eC s i KA (.ptr id o)=mT (look s.box id) fun ls=>mT (dR i ((ls.drop o).map L.dQ)) fun z=>KA (.v z):=rfl
theorem bX (i:TI) (id k o:Nat):eC s i KA (.dj id k o)=mT (look s.row id) fun r=>k<r.xs.length∧mT (dR i ((dS r.ov k 0 (r.xs.getD k [])).drop o)) fun z=>KA (.v z):=rfl
theorem kG (f:Nat):bF P T ⟨d,.fieldAddr t x f,ty,pos,af,g⟩ s KA=mT (T t) fun i=>mT (oneOf (aE T s 0 x)) fun y=>mT (fX i f) fun off=>mT (fQ off y) fun z=>KA (.v (.one z)):=rfl
theorem kH (f:Nat):bF P T ⟨d,.field t x f,ty,pos,af,g⟩ s KA=mT (T t) fun i=>mT i.fields fun l=>mT l[f]? fun p=>mT (T p.2) fun j=>mT (fU (aE T s 0 x)) fun ls=>p.1+j.size≤ls.length∧mT (eN j.agg ((ls.drop p.1).take j.size)) fun z=>KA (.v z):=rfl
theorem kI:bF P T ⟨d,.indexAddr t x y,ty,pos,af,g⟩ s KA=mT (dt T t) fun j=>mT (fI (aE T s 0 y)) fun n=>mT (oneOf (aE T s 0 x)) (eF s j n KA):=rfl
theorem bY (j:TI) (n:Int) (sz:Nat) (xs:List (List L)):eF s j n KA (.sl sz xs)=((0≤n∧n<xs.length)∧j.size=sz∧KA (.v (.one (.fz (xs.getD n.toNat []))))):=rfl
theorem bZ (j:TI) (n:Int) (id lo q:Nat):eF s j n KA (.ref id lo q)=mT (look s.row id) fun r=>(0≤n∧n<q)∧j.size=r.sz∧KA (.v (.one (.dj id (lo+n.toNat) 0))):=rfl
theorem kJ:bF P T ⟨d,.index t x y,ty,pos,af,g⟩ s KA=mT (T t) fun i=>mT (oneOf (aE T s 0 x)) (eY T s i y KA):=rfl
theorem cd (i:TI) (q:ByteArray):eY T s i y KA (.str q)=mT (fI (aE T s 0 y)) fun n=>(0≤n∧n<q.size)∧i.bB=true∧KA (.v (.one (.int .u8 ((q.data.toList.getD n.toNat 0).toNat:Nat)))):=rfl
theorem kK (k:Nat):bF P T ⟨d,.extract x k,ty,pos,af,g⟩ s KA=mT (fT (aE T s 0 x)) fun xs=>mT xs[k]? fun y=>KA (.v y):=rfl
theorem kL (bo:BinOp):bF P T ⟨d,.binOp bo t x y t',ty,pos,af,g⟩ s KA=mT (fE (aE T s t x)) fun v1=>mT (fE (aE T s t y)) (eZ P bo t KA v1):=rfl
theorem cg (bo:BinOp) (l1 l2:L):eZ P bo t KA (.one l1) (.one l2)=mT (fV P t bo l1 l2) fun p=>p.1∧KA (.v (.one p.2)):=rfl
theorem cj (bo:BinOp) (xs ys:List L):eZ P bo t KA (.agg xs) (.agg ys)=mT (Ar P t) fun ks=>(xs.map L.kd=ks∧ys.map L.kd=ks)∧mT (dE xs ys) fun b=>mT (fW bo b) fun b'=>KA (.v (.one (.bool b'))):=rfl
theorem kM (parts:Array (Nat×Operand)):bF P T ⟨d,.build t parts,ty,pos,af,g⟩ s KA=mT (T t) fun i=>mT i.fields fun l=>mT i.zero fun z=>mT (placesOf T l) fun pl=>mT (dB T s 0 (fun k=>pl[k]?) z parts.toList) fun ls=>KA (.v (.agg ls)):=rfl
theorem kN (len:Nat) (parts:Array (Nat×Operand)):bF P T ⟨d,.buildSlice t len parts,ty,pos,af,g⟩ s KA=mT (dt T t) fun j=>mT j.zero fun z=>(z.length=j.size∧0<j.size∧len * j.size≤16777216) ∧
   mT (dB T s 0 (fun k=>some (k * j.size,j.size)) (dP z len) parts.toList) fun ls=>ls.all L.dH=true∧KA (.v (.one (.sl j.size (chunks j.size len (ls.map L.cP))))):=rfl
theorem kO (f:FuncId) (caps:Array Operand):bF P T ⟨d,.makeFunc (.func f) #[] caps,ty,pos,af,g⟩ s KA=mT (ff s T 0 caps.toList) fun cs=>KA (.v (.one (.bD f cs))):=by
 show (#[]=#[]∧_)=_
 simp only [true_and]
 rfl
theorem kP (lo hi:Option Operand):bF P T ⟨d,.slice t x lo hi none,ty,pos,af,g⟩ s KA=mT (oneOf (aE T s t x)) (eD T s t lo hi KA):=rfl
theorem ck (lo hi:Option Operand) (q:ByteArray):eD T s t lo hi KA (.str q)=mT (T t) fun i=>mT (cY T s t 0 lo) fun l=>mT (cY T s t q.size hi) fun h=>(0≤l∧l≤h∧h≤q.size)∧i.bB=true∧KA (.v (.one (.str (q.extract l.toNat h.toNat)))):=rfl
theorem cp (lo hi:Option Operand) (sz:Nat) (xs:List (List L)):eD T s t lo hi KA (.sl sz xs)=mT (dt T t) fun j=>mT (cY T s t 0 lo) fun l=>mT (cY T s t xs.length hi) fun h=>(0≤l∧l≤h∧h≤xs.length)∧j.size=sz∧KA (.v (.one (.sl sz ((xs.take h.toNat).drop l.toNat)))):=rfl
theorem cq (lo hi:Option Operand) (sz:Nat):eD T s t lo hi KA (.nil sz)=mT (dt T t) fun j=>mT (cY T s t 0 lo) fun l=>mT (cY T s t 0 hi) fun h=>(0≤l∧l≤h∧h≤0)∧j.size=sz∧KA (.v (.one (.nil sz))):=rfl
theorem cr (lo hi:Option Operand) (id b q:Nat):eD T s t lo hi KA (.ref id b q)=mT (dt T t) fun j=>mT (look s.row id) fun r=>mT (cY T s t 0 lo) fun l=>mT (cY T s t q hi) fun h=>(0≤l∧l≤h∧(h≤q∨(h≤r.xs.length - b∧b≤r.xs.length)))∧j.size=r.sz∧KA (.v (.one (.ref id (b+l.toNat) (h.toNat - l.toNat)))):=rfl
theorem kQ (lo hi:Option Operand) (z:Operand):bF P T ⟨d,.slice t x lo hi (some z),ty,pos,af,g⟩ s KA=mT (dt T t) fun _=>mT (oneOf (aE T s t x)) fun v1=>mT (nL v1) fun n=>mT (cY T s t 0 lo) fun l=>mT (cY T s t n hi) fun h=>mT (cY T s t 0 (some z)) fun mx=>(0≤l∧l≤h∧h≤mx∧mx≤n)∧hi.isSome=true∧KA (.v (.one .any)):=rfl
theorem kR:bF P T ⟨d,.nilCheck x,ty,pos,af,g⟩ s KA=mT (oneOf (aE T s 0 x)) fun y=>fY y=true∧KA (.v (.one y)):=rfl
theorem kS:bF P T ⟨d,.convert t t' x,ty,pos,af,g⟩ s KA=mT (oneOf (aE T s 0 x)) (fj P T t t' KA):=rfl
theorem cu (k:IntKind) (q:Int):fj P T t t' KA (.int k q)=((P.underlying t).isSome=true∧mT (ug P t') fun k'=>KA (.v (.one (.int k' (k'.wrap q))))):=rfl
theorem cv (q:ByteArray):fj P T t t' KA (.str q)=mT (T t) fun i=>mT (T t') fun i'=>mT i'.elem fun e=>(i.bB=true∧ug P e=some .u8)∧KA (.v (.one (.sl 1 (chunks 1 q.size (q.data.toList.map fun b=>L.int .u8 b.toNat))))):=rfl
theorem kT:bF P T ⟨d,.call ⟨.builtin .len,#[x],#[t]⟩,ty,pos,af,g⟩ s KA=mT (T t) fun i=>mT (oneOf (aE T s t x)) fun l=>mT (fZ l) fun n=>gd i l=true∧KA (.v (.one (.int .i64 n))):=rfl
theorem kU (tys:Array TypeId):bF P T ⟨d,.call ⟨.builtin .max,#[x,y],tys⟩,ty,pos,af,g⟩ s KA=mT (oneOf (aE T s 0 x)) fun l1=>mT (oneOf (aE T s 0 y)) fun l2=>mT (gf l1 l2) fun l=>KA (.v (.one l)):=rfl
theorem kV (tys:Array TypeId):bF P T ⟨d,.call ⟨.builtin .min,#[x,y],tys⟩,ty,pos,af,g⟩ s KA=mT (oneOf (aE T s 0 x)) fun l1=>mT (oneOf (aE T s 0 y)) fun l2=>mT (gg l1 l2) fun l=>KA (.v (.one l)):=rfl
theorem kW:dc P T ⟨d,.assign x,ty,pos,af,g⟩ s K=dM s d K (aE T s ty x):=rfl
theorem cw (k:IntKind) (q:Int):dM s (some n) K (some (.v (.one (.int k q))))=(n<s.n∧K (s.put n (.v (.one (.int k q))))):=rfl
theorem cz (b:Bool):dM s (some n) K (some (.v (.one (.bool b))))=(n<s.n∧K (s.put n (.v (.one (.bool b))))):=rfl
theorem cA (b:ByteArray):dM s (some n) K (some (.v (.one (.str b))))=(n<s.n∧K (s.put n (.v (.one (.str b))))):=rfl
theorem cB (f:FuncId) (cs:List L):dM s (some n) K (some (.v (.one (.bD f cs))))=(n<s.n∧K (s.put n (.v (.one (.bD f cs))))):=rfl
theorem cC (sz:Nat) (xs:List (List L)):dM s (some n) K (some (.v (.one (.sl sz xs))))=(n<s.n∧K (s.put n (.v (.one (.sl sz xs))))):=rfl
theorem cD (z:Nat):dM s (some n) K (some (.v (.one (.nil z))))=(n<s.n∧K (s.Fc n z)):=rfl
theorem cE (id lo q:Nat):dM s (some n) K (some (.v (.one (.ref id lo q))))=mT (look s.row id) fun r=>n<s.n∧K (s.Fb id n lo q r):=rfl
theorem cF (ls:List L):dM s (some n) K (some (.v (.agg ls)))=(n<s.n∧K (s.put n (.v (.agg ls)))):=rfl
theorem cG (ls:List L):dM s (some n) K (some (.v (.one (.fz ls))))=(n<s.n∧K (s.put n (.v (.one (.fz ls))))):=rfl
theorem cH (i o:Nat):dM s (some n) K (some (.v (.one (.ptr i o))))=(n<s.n∧K (s.put n (.v (.one (.ptr i o))))):=rfl
theorem cI (i k o:Nat):dM s (some n) K (some (.v (.one (.dj i k o))))=(n<s.n∧K (s.put n (.v (.one (.dj i k o))))):=rfl
theorem cJ:dM s (some n) K (some (.v (.one .any)))=(n<s.n∧K (s.put n (.v (.one .any)))):=rfl
theorem kX (z:Nat):s.Fc n z=(s.xC none n ⟨z,[],[]⟩).put n (.v (.one (.ref n 0 0))):=rfl
theorem kY (id lo q:Nat) (r:aN):s.Fb id n lo q r=(s.xC (some id) n r).put n (.v (.one (.ref n lo q))):=rfl
theorem kZ (src:Option Nat) (sz:Nat) (xs:List (List L)) (ov:List (Nat×Nat×L)):s.appended src n sz xs ov=(s.xC src n ⟨sz,xs,ov⟩).put n (.v (.one (.ref n 0 xs.length))):=rfl
theorem ld (e:TypeId):dc P T ⟨some n,.box e x,ty,pos,af,g⟩ s K=mT (dT T s 0 x) fun ls=>n<s.n∧K (s.xS n ls):=rfl
theorem lg (e:TypeId):dc P T ⟨some n,.alloc e,ty,pos,af,g⟩ s K=mT (T e) fun i=>mT i.zero fun ls=>n<s.n∧K (s.xS n ls):=rfl
theorem lh:dc P T ⟨none,.store t x y,ty,pos,af,g⟩ s K=mT (T t) fun i=>mT (dT T s t y) fun vs=>mT (oneOf (aE T s 0 x)) (fC s i vs K):=by
 show (none=none∧_)=_
 simp only [true_and]
 rfl
theorem cK (i:TI) (vs:List L) (id o:Nat):fC s i vs K (.ptr id o)=mT (look s.box id) fun ls=>(vs.length=i.size∧o+vs.length≤ls.length)∧K {s with box:=bz id (dp o vs ls) s.box}:=rfl
theorem cL (i:TI) (vs:List L) (id k o:Nat):fC s i vs K (.dj id k o)=mT (look s.row id) fun r=>(vs.length=i.size∧k<r.xs.length∧o+vs.length≤r.sz)∧K {s with row:=bz id (r.store k o vs) s.row}:=rfl
theorem ll (sz:Nat) (xs:List (List L)) (ov:List (Nat×Nat×L)) (i o:Nat) (vs:List L):aN.store ⟨sz,xs,ov⟩ i o vs=⟨sz,xs.set i (dp o (vs.map L.cP) (xs.getD i [])),fq i o vs (fF i o vs.length ov)⟩:=rfl
theorem lv (len:Nat) (parts:Array (Nat×Operand)):dc P T ⟨some n,.buildSlice t len parts,ty,pos,af,g⟩ s K=mT (dt T t) fun j=>mT j.zero fun z=>(z.length=j.size∧0<j.size∧len * j.size≤16777216) ∧
   mT (dB T s 0 (fun k=>some (k * j.size,j.size)) (dP z len) parts.toList) fun ls=>n<s.n∧K ((s.xC none n (rowOf j.size len ls)).put n (.v (.one (.ref n 0 len)))):=rfl
theorem lx:dc P T ⟨some n,.call ⟨.builtin .append,#[x,y],#[t,t']⟩,ty,pos,af,g⟩ s K=mT (dt T t) fun j=>mT j.zero fun z=>mT (oneOf (aE T s t x)) fun l1=>mT (oneOf (aE T s t y)) fun l2=>eH P s t t' j z n K l1 l2:=rfl
theorem ly (j:TI) (z:List L) (id lo q id' lo' q':Nat):eH P s t t' j z n K (.ref id lo q) (.ref id' lo' q')=(t=t'∧(if id=id' then HX s j n K id lo q lo' q' else eG s j z n K (.ref id lo q) (.ref id' lo' q'))):=rfl
theorem lz (j:TI) (z:List L) (id lo q sz:Nat) (xs:List (List L)):eH P s t t' j z n K (.ref id lo q) (.sl sz xs)=(t=t'∧eG s j z n K (.ref id lo q) (.sl sz xs)):=rfl
theorem lG (j:TI) (z:List L) (id lo q sz:Nat):eH P s t t' j z n K (.ref id lo q) (.nil sz)=(t=t'∧eG s j z n K (.ref id lo q) (.nil sz)):=rfl
theorem lH (j:TI) (z:List L) (id lo q:Nat) (k:IntKind) (i:Int):eH P s t t' j z n K (.ref id lo q) (.int k i)=((ug P t').isSome=true∧HY s j z n K id lo q i):=rfl
theorem lI (j:TI) (z:List L) (sz id lo q:Nat):eH P s t t' j z n K (.nil sz) (.ref id lo q)=(t=t'∧eG s j z n K (.nil sz) (.ref id lo q)):=rfl
theorem lJ (j:TI) (z:List L) (sz sz':Nat) (xs:List (List L)):eH P s t t' j z n K (.nil sz) (.sl sz' xs)=(t=t'∧eG s j z n K (.nil sz) (.sl sz' xs)):=rfl
theorem lL (j:TI) (z:List L) (sz sz':Nat):eH P s t t' j z n K (.nil sz) (.nil sz')=(t=t'∧eG s j z n K (.nil sz) (.nil sz')):=rfl
theorem lN (j:TI) (z:List L) (sz:Nat) (k:IntKind) (i:Int):eH P s t t' j z n K (.nil sz) (.int k i)=((ug P t').isSome=true∧(z.length=j.size∧0<j.size∧0<i∧i.toNat * j.bytes≤140737488355328∧i.toNat≤9223372036854775807)∧n<s.n∧K (s.appended none n j.size (List.replicate i.toNat (z.map L.cP)) [])):=rfl
theorem lP (j:TI) (z:List L) (l1 l2:L):eG s j z n K l1 l2=mT (gh s j l1) fun p=>mT (fJ s j l2) fun q =>
      (p.2.2.2∧q.2.2.2)∧(j.size=p.2.1∧j.size=q.1∧z.length=j.size)∧((p.2.2.1.length+q.2.1.length) * j.bytes≤140737488355328∧p.2.2.1.length+q.2.1.length≤9223372036854775807)∧n<s.n∧K (s.appended p.1 n p.2.1 (p.2.2.1++q.2.1) (eB p.2.2.1.length q.2.2.1)):=rfl
theorem lQ (j:TI) (id lo q lo' q':Nat):HX s j n K id lo q lo' q'=mT (look s.row id) fun r=>(lo=0∧r.ov=[]∧q+q'≤r.xs.length∧lo'+q'≤r.xs.length∧pT r.xs∧j.size=r.sz)∧n<s.n ∧
 K (St.put {s with row:=bz id ⟨r.sz,r.xs.take q++(r.xs.drop lo').take q'++r.xs.drop (q+q'),[]⟩ s.row} n (.v (.one (.ref id 0 (q+q'))))):=rfl
theorem lS (j:TI) (z:List L) (id lo q:Nat) (k:Int):HY s j z n K id lo q k=mT (look s.row id) fun r=>(lo=0∧marked r∧q≤r.xs.length∧pT (r.xs.take q)∧j.size=r.sz∧z.length=r.sz∧0<r.sz)∧(0<k∧(r.xs.length:Int)<q+k∧(q+k.toNat) * j.bytes≤140737488355328∧q+k.toNat≤9223372036854775807)∧n<s.n ∧
 K (s.appended none n r.sz (r.xs.take q++List.replicate k.toNat (z.map L.cP)) []):=rfl
theorem lV (sz:Nat) (xs:List (List L)) (c:Nat) (l:L):marked ⟨sz,xs,[(c,0,l)]⟩=(c=xs.length):=rfl
theorem lW (q:Nat):xD [] q=True:=rfl
theorem lY (p q:Nat) (e:Nat×L) (r:List (Nat×Nat×L)):xD ((p,e)::r) q=(q≤p∧xD r q):=rfl
theorem lZ (q:Nat):Cm [] q=True:=rfl
theorem l5 (p q:Nat) (e:Nat×L) (r:List (Nat×Nat×L)):Cm ((p,e)::r) q=(p<q∧Cm r q):=rfl
theorem l7 (sz:Nat) (xs:List (List L)) (p:Nat):qz ⟨sz,xs,[]⟩ p=⟨sz,xs++List.replicate p (List.replicate sz .any),[(xs.length+p,0,.any)]⟩:=rfl
theorem l9:dc P T ⟨d,.call ⟨.builtin .copy,#[x,y],#[t,t']⟩,ty,pos,af,g⟩ s K=mT (dt T t) fun j=>mT (oneOf (aE T s t x)) fun l1=>mT (oneOf (aE T s t y)) fun l2=>fK s j d K l1 l2:=rfl
theorem ma (j:TI) (id lo q:Nat) (l2:L):fK s j d K (.ref id lo q) l2=mT (look s.row id) fun r=>mT (gk s j l2) fun p=>(xD r.ov r.xs.length∧lo+q≤r.xs.length∧j.size=r.sz∧p.1=r.sz∧p.2.2)∧s.rO d ∧
   K (St.fw {s with row:=bz id ⟨r.sz,r.xs.take lo++p.2.1.take (min p.2.1.length q)++r.xs.drop (lo+min p.2.1.length q),r.ov⟩ s.row} d (.v (.one (.int .i64 ((min p.2.1.length q:Nat):Int))))):=rfl
theorem mb:dc P T ⟨d,.call ⟨.builtin .clear,#[x],#[t]⟩,ty,pos,af,g⟩ s K=mT (dt T t) fun j=>mT j.zero fun z=>mT (oneOf (aE T s t x)) fun l1=>fL s j z d K l1:=rfl
theorem mc (j:TI) (z:List L) (id lo q:Nat):fL s j z d K (.ref id lo q)=mT (look s.row id) fun r=>(xD r.ov r.xs.length∧lo+q≤r.xs.length∧j.size=r.sz∧z.length=r.sz)∧s.rO d ∧
   K (St.fw {s with row:=bz id ⟨r.sz,r.xs.take lo++List.replicate q (z.map L.cP)++r.xs.drop (lo+q),r.ov⟩ s.row} d (.cR [])):=rfl
theorem me:dc P T ⟨some n,.call ⟨.builtin .cap,#[x],#[t]⟩,ty,pos,af,g⟩ s K=mT (dt T t) fun _=>mT (oneOf (aE T s t x)) fun l1=>Fk s n K l1:=rfl
theorem mf (sz:Nat):Fk s n K (.nil sz)=(n<s.n∧K (s.put n (.v (.one (.int .i64 0))))):=rfl
theorem mh (id lo q:Nat):Fk s n K (.ref id lo q)=mT (look s.row id) fun r=>(lo=0∧r.ov=[])∧n<s.n∧∀p:Nat,r.xs.length+p≤9223372036854775807→K (St.put {s with row:=bz id (qz r p) s.row} n (.v (.one (.int .i64 ((r.xs.length+p:Nat):Int))))):=rfl
theorem mi:dc P T ⟨d,.binOp .eql t x (.const (.slice none 0 0)) t',ty,pos,af,g⟩ s K=mT (oneOf (aE T s t x)) fun l=>isSlice l=true∧mT (T t) fun i=>i.elem.isSome=true∧∀b,(∀n,nL l=some n→0<n→b=false)→pk s d K (.v (.one (.bool b))):=rfl
theorem mj:dc P T ⟨d,.move x,ty,pos,af,g⟩ s K=mT (aE T s ty x) (pk s d K):=rfl
theorem mm:dc P T ⟨d,.pick c x y,ty,pos,af,g⟩ s K=bF P T ⟨d,.pick c x y,ty,pos,af,g⟩ s (pk s d K):=rfl
theorem mn:dc P T ⟨d,.unOp .neg t x,ty,pos,af,g⟩ s K=bF P T ⟨d,.unOp .neg t x,ty,pos,af,g⟩ s (pk s d K):=rfl
theorem mo:dc P T ⟨d,.unOp .not t x,ty,pos,af,g⟩ s K=bF P T ⟨d,.unOp .not t x,ty,pos,af,g⟩ s (pk s d K):=rfl
theorem mq:dc P T ⟨d,.load t x,ty,pos,af,g⟩ s K=bF P T ⟨d,.load t x,ty,pos,af,g⟩ s (pk s d K):=rfl
theorem mr (f:Nat):dc P T ⟨d,.fieldAddr t x f,ty,pos,af,g⟩ s K=bF P T ⟨d,.fieldAddr t x f,ty,pos,af,g⟩ s (pk s d K):=rfl
theorem mu (f:Nat):dc P T ⟨d,.field t x f,ty,pos,af,g⟩ s K=bF P T ⟨d,.field t x f,ty,pos,af,g⟩ s (pk s d K):=rfl
theorem mw:dc P T ⟨d,.indexAddr t x y,ty,pos,af,g⟩ s K=bF P T ⟨d,.indexAddr t x y,ty,pos,af,g⟩ s (pk s d K):=rfl
theorem my:dc P T ⟨d,.index t x y,ty,pos,af,g⟩ s K=bF P T ⟨d,.index t x y,ty,pos,af,g⟩ s (pk s d K):=rfl
theorem mz (k:Nat):dc P T ⟨d,.extract x k,ty,pos,af,g⟩ s K=bF P T ⟨d,.extract x k,ty,pos,af,g⟩ s (pk s d K):=rfl
theorem mC (bo:BinOp) (u:Tmp):dc P T ⟨d,.binOp bo t x (.tmp u) t',ty,pos,af,g⟩ s K=bF P T ⟨d,.binOp bo t x (.tmp u) t',ty,pos,af,g⟩ s (pk s d K):=by cases bo<;>rfl
theorem mD (bo:BinOp) (k:IntKind) (q:Int):dc P T ⟨d,.binOp bo t x (.const (.int k q)) t',ty,pos,af,g⟩ s K=bF P T ⟨d,.binOp bo t x (.const (.int k q)) t',ty,pos,af,g⟩ s (pk s d K):=by cases bo<;>rfl
theorem mE (bo:BinOp) (q:ByteArray):dc P T ⟨d,.binOp bo t x (.const (.string q)) t',ty,pos,af,g⟩ s K=bF P T ⟨d,.binOp bo t x (.const (.string q)) t',ty,pos,af,g⟩ s (pk s d K):=by cases bo<;>rfl
theorem mG (bo:BinOp) (q:Option Addr):dc P T ⟨d,.binOp bo t x (.const (.pointer q)) t',ty,pos,af,g⟩ s K=bF P T ⟨d,.binOp bo t x (.const (.pointer q)) t',ty,pos,af,g⟩ s (pk s d K):=by cases bo<;>rfl
theorem mH (parts:Array (Nat×Operand)):dc P T ⟨d,.build t parts,ty,pos,af,g⟩ s K=bF P T ⟨d,.build t parts,ty,pos,af,g⟩ s (pk s d K):=rfl
theorem mI (f:Fn) (first caps:Array Operand):dc P T ⟨d,.makeFunc f first caps,ty,pos,af,g⟩ s K=bF P T ⟨d,.makeFunc f first caps,ty,pos,af,g⟩ s (pk s d K):=rfl
theorem mJ (lo hi mx:Option Operand):dc P T ⟨d,.slice t x lo hi mx,ty,pos,af,g⟩ s K=bF P T ⟨d,.slice t x lo hi mx,ty,pos,af,g⟩ s (pk s d K):=rfl
theorem mK:dc P T ⟨d,.nilCheck x,ty,pos,af,g⟩ s K=bF P T ⟨d,.nilCheck x,ty,pos,af,g⟩ s (pk s d K):=rfl
theorem mL:dc P T ⟨d,.convert t t' x,ty,pos,af,g⟩ s K=bF P T ⟨d,.convert t t' x,ty,pos,af,g⟩ s (pk s d K):=rfl
theorem mM (args:Array Operand) (tys:Array TypeId):dc P T ⟨d,.call ⟨.builtin .len,args,tys⟩,ty,pos,af,g⟩ s K=bF P T ⟨d,.call ⟨.builtin .len,args,tys⟩,ty,pos,af,g⟩ s (pk s d K):=rfl
theorem mN (args:Array Operand) (tys:Array TypeId):dc P T ⟨d,.call ⟨.builtin .max,args,tys⟩,ty,pos,af,g⟩ s K=bF P T ⟨d,.call ⟨.builtin .max,args,tys⟩,ty,pos,af,g⟩ s (pk s d K):=rfl
theorem mP (args:Array Operand) (tys:Array TypeId):dc P T ⟨d,.call ⟨.builtin .min,args,tys⟩,ty,pos,af,g⟩ s K=bF P T ⟨d,.call ⟨.builtin .min,args,tys⟩,ty,pos,af,g⟩ s (pk s d K):=rfl
end
section
variable {P:Program} {T:TypeId→Option TI} {w0:World} {m0:Mem} {F0:Home} {Q:Exit→St→Prop} {s:St}
theorem qV {id:Nat} {l:List Oper} (hT:pR P T) (h:∀K:St→Prop,(∀s',Q .normal s'→K s')→bL P T l.toArray l s K):ab P w0 m0 F0 (.region id l.toArray false) Q s :=
 ab.region hT rfl h
theorem yD {id:Nat} {l:List Oper} (hT:pR P T) (hm:P.follows .mixedOrders=true) (dep:Nat) (hchk:wj l.toArray l.length dep=true)
  (h:∀K:St→Prop,(∀s',Q .normal s'→K s')→cQ P T l.toArray l s K):ab P w0 m0 F0 (.region id l.toArray true) Q s :=
 ab.draw hT hm (l1:=l) (l2:=[]) l.length dep rfl hchk (dw ..) (Hd ..) h
end
def aA (P:Program) (w0:World) (m0:Mem) (F0:Home) (x y:Code) (Q:Exit→St→Prop) (s:St) (b:Bool):Prop:=(b=true→ab P w0 m0 F0 x Q s)∧(b=false→ab P w0 m0 F0 y Q s)
section
variable {P:Program} {T:TypeId→Option TI} {w0:World} {m0:Mem} {F0:Home} {Q:Exit→St→Prop} {s:St} {c:Operand} {x y:Code} {b:Bool}
theorem qW (hb:eQ (aE T s 0 c)=some b) (h:aA P w0 m0 F0 x y Q s b):ab P w0 m0 F0 (.cond c x y) Q s:=ab.cond hb h.1 h.2
theorem qX (h:ab P w0 m0 F0 x Q s):aA P w0 m0 F0 x y Q s true:=⟨fun _=>h,fun h=>by cases h⟩
theorem qY (h:ab P w0 m0 F0 y Q s):aA P w0 m0 F0 x y Q s false:=⟨(fun h=>by cases h),fun _=>h⟩
theorem qZ (h:aA P w0 m0 F0 y x Q s b):aA P w0 m0 F0 x y Q s (!b):=⟨fun e=>h.2 (by simpa using e),fun e=>h.1 (by simpa using e)⟩
theorem aA.Bt (hb:b=true) (h:ab P w0 m0 F0 x Q s):aA P w0 m0 F0 x y Q s b:=⟨fun _=>h,fun h=>by rw [hb] at h;cases h⟩
theorem aA.Bu (hb:b=false) (h:ab P w0 m0 F0 y Q s):aA P w0 m0 F0 x y Q s b:=⟨(fun h=>by rw [hb] at h;cases h),fun _=>h⟩
theorem yS (h1:b=true→ab P w0 m0 F0 x Q s) (h2:b=false→ab P w0 m0 F0 y Q s):aA P w0 m0 F0 x y Q s b:=⟨h1,h2⟩
end
theorem ax.Bt {P:Program} {T:TypeId→Option TI} {ops:Array Oper} {want:Bool} {d:Option Tmp} {op:Op} {ty:TypeId} {pos:String} {af:Array Edge} {l:List Oper} {s:St} {K:St→Prop} {b:Bool} (hb:b=true) (h:ax P T ops want d op ty pos af l s K (some true)):ax P T ops want d op ty pos af l s K (some b):=hb▸h
theorem ax.Bu {P:Program} {T:TypeId→Option TI} {ops:Array Oper} {want:Bool} {d:Option Tmp} {op:Op} {ty:TypeId} {pos:String} {af:Array Edge} {l:List Oper} {s:St} {K:St→Prop} {b:Bool} (hb:b=false) (h:ax P T ops want d op ty pos af l s K (some false)):ax P T ops want d op ty pos af l s K (some b):=hb▸h
theorem ay.Bt {P:Program} {T:TypeId→Option TI} {ops:Array Oper} {want:Bool} {d:Option Tmp} {op:Op} {ty:TypeId} {pos:String} {af:Array Edge} {l:List Oper} {s:St} {K:St→Prop} {b:Bool} (hb:b=true) (h:ay P T ops want d op ty pos af l s K (some true)):ay P T ops want d op ty pos af l s K (some b):=hb▸h
theorem ay.Bu {P:Program} {T:TypeId→Option TI} {ops:Array Oper} {want:Bool} {d:Option Tmp} {op:Op} {ty:TypeId} {pos:String} {af:Array Edge} {l:List Oper} {s:St} {K:St→Prop} {b:Bool} (hb:b=false) (h:ay P T ops want d op ty pos af l s K (some false)):ay P T ops want d op ty pos af l s K (some b):=hb▸h
theorem az.Bt {T:TypeId→Option TI} {s:St} {ty:TypeId} {x y:Operand} {KA:A→Prop} {b:Bool} (hb:b=true) (h:az T s ty x y KA true):az T s ty x y KA b:=hb▸h
theorem az.Bu {T:TypeId→Option TI} {s:St} {ty:TypeId} {x y:Operand} {KA:A→Prop} {b:Bool} (hb:b=false) (h:az T s ty x y KA false):az T s ty x y KA b:=hb▸h
section
variable {P:Program} {T:TypeId→Option TI} {ops:Array Oper} {l:List Oper} {o:Oper} {s:St} {s':Unit→St} {K:St→Prop} {KA:A→Prop} {d:Option Tmp}
theorem bL.congr (h:∀u,s=s' u):bL P T ops l s K=bL P T ops l (s' ()) K:=by rw [h ()]
theorem cQ.congr (h:∀u,s=s' u):cQ P T ops l s K=cQ P T ops l (s' ()) K:=by rw [h ()]
theorem dc.congr (h:∀u,s=s' u):dc P T o s K=dc P T o (s' ()) K:=by rw [h ()]
theorem bF.congr (h:∀u,s=s' u):bF P T o s KA=bF P T o (s' ()) KA:=by rw [h ()]
theorem pk.congr {x:A} {x':Unit→A} (h:∀u,s=s' u) (hx:∀u,x=x' u):pk s d K x=pk (s' ()) d K (x' ()):=by rw [h (),hx ()]
theorem dM.congr {e:Option A} {e':Unit→Option A} (h:∀u,s=s' u) (he:∀u,e=e' u):dM s d K e=dM (s' ()) d K (e' ()):=by rw [h (),he ()]
theorem fC.congr {i:TI} {vs:List L} {p:L} {i':Unit→TI} {vs':Unit→List L} {p':Unit→L} (h:∀u,s=s' u) (hi:∀u,i=i' u) (hv:∀u,vs=vs' u) (hp:∀u,p=p' u):fC s i vs K p=fC (s' ()) (i' ()) (vs' ()) K (p' ()):=by rw [h (),hi (),hv (),hp ()]
theorem eH.congr {t t':TypeId} {j:TI} {z:List L} {n:Nat} {p q:L} {j':Unit→TI} {z':Unit→List L} {p' q':Unit→L} (h:∀u,s=s' u) (hj:∀u,j=j' u) (hz:∀u,z=z' u) (hp:∀u,p=p' u) (hq:∀u,q=q' u):eH P s t t' j z n K p q=eH P (s' ()) t t' (j' ()) (z' ()) n K (p' ()) (q' ()):=by rw [h (),hj (),hz (),hp (),hq ()]
theorem eG.congr {j:TI} {z:List L} {n:Nat} {p q:L} {j':Unit→TI} {z':Unit→List L} {p' q':Unit→L} (h:∀u,s=s' u) (hj:∀u,j=j' u) (hz:∀u,z=z' u) (hp:∀u,p=p' u) (hq:∀u,q=q' u):eG s j z n K p q=eG (s' ()) (j' ()) (z' ()) n K (p' ()) (q' ()):=by rw [h (),hj (),hz (),hp (),hq ()]
theorem fK.congr {j:TI} {p q:L} {j':Unit→TI} {p' q':Unit→L} (h:∀u,s=s' u) (hj:∀u,j=j' u) (hp:∀u,p=p' u) (hq:∀u,q=q' u):fK s j d K p q=fK (s' ()) (j' ()) d K (p' ()) (q' ()):=by rw [h (),hj (),hp (),hq ()]
theorem fL.congr {j:TI} {z:List L} {p:L} {j':Unit→TI} {z':Unit→List L} {p':Unit→L} (h:∀u,s=s' u) (hj:∀u,j=j' u) (hz:∀u,z=z' u) (hp:∀u,p=p' u):fL s j z d K p=fL (s' ()) (j' ()) (z' ()) d K (p' ()):=by rw [h (),hj (),hz (),hp ()]
theorem eC.congr {i:TI} {v:L} {i':Unit→TI} {v':Unit→L} (h:∀u,s=s' u) (hi:∀u,i=i' u) (hp:∀u,v=v' u):eC s i KA v=eC (s' ()) (i' ()) KA (v' ()):=by rw [h (),hi (),hp ()]
theorem eF.congr {j:TI} {n:Int} {v:L} {j':Unit→TI} {n':Unit→Int} {v':Unit→L} (h:∀u,s=s' u) (hi:∀u,j=j' u) (hn:∀u,n=n' u) (hp:∀u,v=v' u):eF s j n KA v=eF (s' ()) (j' ()) (n' ()) KA (v' ()):=by rw [h (),hi (),hn (),hp ()]
theorem eD.congr {t:TypeId} {lo hi:Option Operand} {v:L} {v':Unit→L} (h:∀u,s=s' u) (hp:∀u,v=v' u):eD T s t lo hi KA v=eD T (s' ()) t lo hi KA (v' ()):=by rw [h (),hp ()]
theorem eY.congr {i:TI} {y:Operand} {v:L} {i':Unit→TI} {v':Unit→L} (h:∀u,s=s' u) (hi:∀u,i=i' u) (hp:∀u,v=v' u):eY T s i y KA v=eY T (s' ()) (i' ()) y KA (v' ()):=by rw [h (),hi (),hp ()]
theorem eZ.congr {op:BinOp} {t:TypeId} {v w:V} {v' w':Unit→V} (h:∀u,v=v' u) (hp:∀u,w=w' u):eZ P op t KA v w=eZ P op t KA (v' ()) (w' ()):=by rw [h (),hp ()]
theorem fj.congr {t t':TypeId} {v:L} {v':Unit→L} (h:∀u,v=v' u):fj P T t t' KA v=fj P T t t' KA (v' ()):=by rw [h ()]
end
theorem LN:(∀{α β:Type} {f:α→β} {l:List α},(l.map f).length=l.length)∧(∀{α:Type} {l l':List α},(l++l').length=l.length+l'.length)∧(∀{α:Type} {x:α} {l:List α},(x::l).length=l.length+1)∧(∀{α:Type},([]:List α).length=0) ∧
  (∀{α:Type} {i:Nat} {l:List α},(l.take i).length=min i l.length)∧(∀{α:Type} {i:Nat} {l:List α},(l.drop i).length=l.length - i)∧(∀{α:Type} {l:List α} {i:Nat} {x:α},(l.set i x).length=l.length)∧(∀{α:Type} {n:Nat} {x:α},(List.replicate n x).length=n) ∧
  (∀{a b:Nat},((a+b:Nat):Int)=(a:Int)+(b:Int))∧(∀{n:Nat},(n:Int).toNat=n)∧(∀{n:Nat},0+n=n) :=
 ⟨bw _,bA,bP,bI,rV,wu,tw,yh,iy _ _,bG _,cN _⟩
theorem NM:(∀{p:Prop} [Decidable p],(decide p=true)=p)∧(∀{p:Prop} [Decidable p],(decide p=false)↔¬ p)∧(∀{a b:Int},(a==b)=true↔a=b)∧(∀{a b:Nat},(a==b)=true↔a=b)∧(∀{a b:List UInt8},(a==b)=true↔a=b)∧(∀{a b:Bool},(a==b)=true↔a=b) ∧
  (∀{a b:Int},(a==b)=false↔a≠b)∧(∀{a b:Nat},(a==b)=false↔a≠b)∧(∀{a b:List UInt8},(a==b)=false↔a≠b)∧(∀{a b:Bool},(a==b)=false↔a≠b) ∧
  (∀{b:Bool},((!b)=true)↔(b=false))∧(∀{b:Bool},((!b)=false)↔(b=true))∧(∀{a b:Bool},((a&&b)=true)=(a=true∧b=true))∧(∀{a b:Bool},((a||b)=true)=(a=true∨b=true)) ∧
  (∀{a b:Bool},((a&&b)=false)↔(a=true→b=false))∧(∀{a b:Bool},((a||b)=false)↔(a=false∧b=false))∧(∀{b:Bool},(¬b=true)=(b=false))∧(∀{b:Bool},(¬b=false)=(b=true)) ∧
  (∀{a b:Int},¬ a<b↔b≤a)∧(∀{a b:Int},¬ a≤b↔b<a)∧(∀{α:Type} {a b:α},(a≠b)=¬ (a=b)) :=
 ⟨uv,AK,uP,uP,uP,uP,JL,JL,JL,JL,(by intro b;cases b<;>simp),(by intro b;cases b<;>simp),qa _ _,wO _ _,O9,XD,HJ _,Bool.not_eq_false _,XE,XF,ne_eq _ _⟩
theorem LE:(∀{α:Type} (e:List (Nat×α)) (t:Nat) (x:α) (r:List (Nat×α)),uh e ((t,x)::r)=(look e t=some x∧uh e r))∧(∀{α:Type} (e:List (Nat×α)),uh e []=True)∧(∀{α:Type} (t:Nat) (x:α) (e:List (Nat×α)) (i:Nat),look ((t,x)::e) i=if t=i then some x else look e i)∧(∀{α:Type} (i:Nat),look ([]:List (Nat×α)) i=none) ∧
  (∀{p:Prop},(p∧p)=p)∧(∀{p:Prop},(p∧True)=p)∧(∀{p:Prop},(True∧p)=p)∧(∀{α:Type} {a b:α},(some a=some b)=(a=b))∧(∀{a a':Nat} {b b':List (List L)} {c c':List (Nat×Nat×L)},(aN.mk a b c=aN.mk a' b' c')=(a=a'∧b=b'∧c=c')) ∧
  (∀{α:Type} {l:List α},l.take 0=[])∧(∀{α β:Type} {f:α→β},[].map f=[])∧(∀{α β:Type} {f:α→β} {a:α} {l:List α},(a::l).map f=f a::l.map f)∧(∀{α β:Type} {f:α→β} {l l':List α},(l++l').map f=l.map f++l'.map f) ∧
  (((0:Nat):Int)=0)∧(∀{a b:Nat},((a+b:Nat):Int)=(a:Int)+(b:Int))∧(((1:Nat):Int)=1) :=
 ⟨H6,H5,gY,look_nil,and_self _,and_true _,true_and _,Option.some.injEq _ _,aN.mk.injEq _ _ _ _ _ _,c9,aI,aJ,dn,rfl,iy _ _,rfl⟩
theorem RT:(∀{α:Type} (e:List (Nat×α)),uw [] e=[])∧(∀{α:Type} (k:List Nat),uw k ([]:List (Nat×α))=[])∧(∀{α:Type} (k:List Nat) (t:Nat) (x:α) (e:List (Nat×α)),uw k ((t,x)::e)=if k.elem t then (t,x)::uw k e else uw k e) ∧
  (∀{α:Type} (e:List (Nat×α)),rW [] e=e)∧(∀{α:Type} (k:List Nat),rW k ([]:List (Nat×α))=[])∧(∀{α:Type} (k:List Nat) (t:Nat) (x:α) (e:List (Nat×α)),rW k ((t,x)::e)=if k.elem t then rW k e else (t,x)::rW k e) ∧
  (∀(kb kr:List Nat) (s:St) (k:IntKind) (n:Int),pV kb kr s (.int k n)=.int k n)∧(∀(kb kr:List Nat) (s:St) (b:Bool),pV kb kr s (.bool b)=.bool b)∧(∀(kb kr:List Nat) (s:St) (b:ByteArray),pV kb kr s (.str b)=.str b)∧(∀(kb kr:List Nat) (s:St) (sz:Nat) (xs:List (List L)),pV kb kr s (.sl sz xs)=.sl sz xs) ∧
  (∀(kb kr:List Nat) (s:St) (sz:Nat),pV kb kr s (.nil sz)=.nil sz)∧(∀(kb kr:List Nat) (s:St) (sz:Nat) (xs:List (List L)),pV kb kr s (.own sz xs)=.own sz xs)∧(∀(kb kr:List Nat) (s:St) (ls:List L),pV kb kr s (.fz ls)=.fz ls)∧(∀(kb kr:List Nat) (s:St),pV kb kr s .any=.any) ∧
  (∀(kb kr:List Nat) (s:St) (id lo n:Nat),pV kb kr s (.ref id lo n)=if kr.elem id then .ref id lo n else gN 4 s (.ref id lo n))∧(∀(kb kr:List Nat) (s:St) (id o:Nat),pV kb kr s (.ptr id o)=if kb.elem id then .ptr id o else gN 4 s (.ptr id o)) ∧
  (∀(kb kr:List Nat) (s:St) (id i o:Nat),pV kb kr s (.dj id i o)=if kr.elem id then .dj id i o else gN 4 s (.dj id i o))∧(∀{α:Type} (e:List (Nat×α)),uh e []=True)∧(∀{α:Type} (e:List (Nat×α)) (t:Nat) (x:α) (r:List (Nat×α)),uh e ((t,x)::r)=(look e t=some x∧uh e r)) :=
 ⟨SU,SV,SW,bh,bt,bu,SI,SJ,SK,SL,SM,SN,SO,SP,x8,SQ,SS,H5,H6⟩
end Go.Bw
namespace Go.Bw
open Go.RowKit
section
variable {P:Program} {w0:World} {m0:Mem} {s s':St} {a:Act} {w:World} {m:Mem} {ω:Wh} {F0:Home} {T:TypeId→Option TI}
theorem JT (hT:pR P T) {ops:Array Oper} {na dep:Nat} (F:BQ ops na dep) {K:St→Prop} {Q:Exit→Act→World→Prop} (hQ:∀s a w,K s→ry P w0 m0 F0 s a w→Q .normal a w)
  {C:(Nat→Bool)→Act→World→Prop}
  (hstep:∀(S:Nat→Bool) (i:Nat) (a:Act) (w:World) (o:Oper),ops[i]?=some o→i<na→S i=false→(∀j,na≤j→S j=false)→(∀j∈bD ops dep i,S j=true)→(∀j,S j=true→∀j'∈bD ops dep j,S j'=true)→C S a w →
   ∀(K':Act→World→Prop) (Q:Exit→Act→World→Prop),(∀a' w',C (fun j=>if j=i then true else S j) a' w'→K' a' w')→if Region.wanted o (yielded ops a.tmps) then o.wp P a w K' Q∨(o.asks P a w∧LetsOut Q) else K' (a.put o.dst undef) w)
  (hend:∀S a w,(∀j,j<na→S j=true)→(∀j,na≤j→S j=false)→C S a w→∃s2,bL P T ops (ops.toList.drop na) s2 K∧ry P w0 m0 F0 s2 a w) :
  ∀(fuel:Nat) (listed:Array Bool) (a:Act) (w:World) (c:Nat),c+fuel=ops.size→listed.size=ops.size→((List.range ops.size).filter fun i=>listed.getD i false).length=c →
   (∀i,i<ops.size→listed.getD i false=true→∀j∈direct ops i,listed.getD j false=true)→(∀i,na≤i→listed.getD i false=false) →
   C (fun i=>listed.getD i false) a w→wpAny P .any ops Q fuel listed a w:=by
 intro fuel
 induction fuel with
 | zero =>
  intro listed a w c hc hsz hcnt hcl htl hC
  have hall:∀i,i<ops.size→listed.getD i false=true:=by
   intro i hi
   have h1:((List.range ops.size).filter fun i=>listed.getD i false).length=(List.range ops.size).length:=by rw [hcnt,Ri];omega
   have h2:=List.length_filter_eq_length_iff.1 h1
   exact h2 i (by simpa using hi)
  have hna:na=ops.size:=by
   rcases cV na ops.size with h|h
   ·have:=htl na (br _)
    rw [hall na h] at this
    cases this
   ·have:=F.le;omega
  have hd:ops.toList.drop na=[]:=by apply EK;simp;omega
  obtain ⟨s2,hV,hc2⟩:=hend _ a w (fun j hj=>hall j (by omega)) htl hC
  rw [hd] at hV
  refine ⟨?_,hQ s2 a w hV hc2⟩
  apply List.eq_nil_iff_forall_not_mem.2
  intro i hi
  obtain ⟨h1,h2,_⟩:=(mem_ready hsz).1 hi
  rw [hall i h1] at h2
  cases h2
 | succ fuel ih =>
  intro listed a w c hc hsz hcnt hcl htl hC
  by_cases hdone:∀i,i<na→listed.getD i false=true
  ·have hcna:c=na:=by
    rw [←hcnt]
    have h1:((List.range ops.size).filter fun i=>listed.getD i false)=(List.range ops.size).filter fun i=>decide (i<na):=by
     apply En
     intro i hi
     have hi:i<ops.size:=by simpa using hi
     by_cases hlt:i<na
     ·rw [hdone i hlt];simp [hlt]
     ·rw [htl i (by omega)];simp [hlt]
    rw [h1]
    have h2:∀n,na≤n→((List.range n).filter fun i=>decide (i<na)).length=na:=by
     intro n hn
     induction n with
     | zero=>simp;omega
     | succ n ihn =>
      rw [Cb,tZ,bA]
      rcases cV n na with h|h
      ·have hna:na=n+1:=by omega
       have:((List.range n).filter fun i=>decide (i<na))=List.range n:=by
        apply List.filter_eq_self.2
        intro i hi
        have:i<n:=by simpa using hi
        simp;omega
       rw [this]
       simp [h]
       omega
      ·rw [ihn h]
       simp [show ¬ n<na from by omega]
    exact h2 _ F.le
   obtain ⟨s2,hV,hc2⟩:=hend _ a w hdone htl hC
   exact Fo hT F hQ (fuel+1) na listed s2 a w (br _) (by omega) hsz (fun i hi=>⟨(fun hl=>by
    rcases cV i na with h|h
    ·exact h
    ·rw [htl i h] at hl
     cases hl),fun hlt=>hdone i hlt⟩) hV hc2
  ·have hex:∃i,i<na∧listed.getD i false=false:=by
    apply Dm
    intro hn
    apply hdone
    intro i hi
    cases hb:listed.getD i false with
    | true=>rfl
    | false=>exact absurd ⟨i,hi,hb⟩ hn
   have hclo:∀i,(∀j∈direct ops i,listed.getD j false=true)→∀j∈bD ops dep i,listed.getD j false=true:=fun i h3 =>
    Dz (ops:=ops) (listed:=fun j=>listed.getD j false=true) (fun j hj j' hj'=>by
     have hjn:j<ops.size:=by
      rcases cV j ops.size with h|h
      ·exact h
      ·rw [vt,xR (by omega)] at hj;cases hj
     exact hcl j hjn hj j' hj') dep i h3
   refine ⟨fun hn=>?_,fun i hi=>?_⟩
   ·exfalso
    obtain ⟨i,h1,h2⟩:=hex
    have key:∀n i,i≤n→i<na→listed.getD i false=false→∃k,k∈Region.ready .any ops listed:=by
     intro n
     induction n with
     | zero =>
      intro i hi hina hb
      have:i=0:=by omega
      subst this
      refine ⟨0,(mem_ready hsz).2 ⟨by have:=F.le;omega,hb,fun j hj=>?_⟩⟩
      have:=F.back 0 (by have:=F.le;omega) j hj
      omega
     | succ n ihn =>
      intro i hi hina hb
      by_cases hall:∀j∈direct ops i,listed.getD j false=true
      ·exact ⟨i,(mem_ready hsz).2 ⟨by have:=F.le;omega,hb,hall⟩⟩
      ·have:∃j,j∈direct ops i∧listed.getD j false=false:=by
        apply Dm
        intro hn
        apply hall
        intro j hj
        cases hb:listed.getD j false with
        | true=>rfl
        | false=>exact absurd ⟨j,hj,hb⟩ hn
       obtain ⟨j,hj,hjb⟩:=this
       have:=F.back i (by have:=F.le;omega) j hj
       exact ihn j (by omega) (by omega) hjb
    obtain ⟨k,hk⟩:=key i i (br _) h1 h2
    rw [hn] at hk
    cases hk
   ·obtain ⟨h1,h2,h3⟩:=(mem_ready hsz).1 hi
    have hcl':=hclo i h3
    have hina:i<na:=by
     rcases cV i na with h|h
     ·exact h
     ·obtain ⟨j,hj,hjb⟩:=hex
      have:=hcl' j (F.tail i j h h1 (by omega))
      rw [hjb] at this
      cases this
    have ho:ops[i]?=some ops[i]:=y7 h1
    simp only [wpOp,ho]
    refine hstep _ i a w ops[i] ho hina h2 htl hcl' (fun j hj=>hclo j (hcl j (by
     rcases cV j ops.size with h|h
     ·exact h
     ·have hj:listed.getD j false=true:=hj
      rw [vt,xR (by omega)] at hj;cases hj) hj)) hC _ _ fun a' w' hC'=>?_
    refine ih (listed.setIfInBounds i true) a' w' (c+1) (by omega) (by simpa using hsz) ?_ ?_ ?_ ?_
    ·rw [←hcnt]
     have h4:∀n,i<n→((List.range n).filter fun j=>(listed.setIfInBounds i true).getD j false).length=((List.range n).filter fun j=>listed.getD j false).length+1:=by
      intro n hn
      induction n with
      | zero=>omega
      | succ n ihn =>
       rw [Cb,tZ,tZ,bA,bA]
       rcases cV i n with hlt|hge
       ·rw [ihn hlt]
        have:([n].filter fun j=>(listed.setIfInBounds i true).getD j false)=[n].filter fun j=>listed.getD j false:=by
         apply En
         intro j hj
         have:j=n:=by simpa using hj
         rw [vS listed (by omega),if_neg (by omega)]
        rw [this]
        omega
       ·have hin:i=n:=by omega
        subst hin
        have e1:((List.range i).filter fun j=>(listed.setIfInBounds i true).getD j false)=(List.range i).filter fun j=>listed.getD j false:=by
         apply En
         intro j hj
         have:j<i:=by simpa using hj
         rw [vS listed (by omega),if_neg (by omega)]
        have e2:([i].filter fun j=>(listed.setIfInBounds i true).getD j false).length=1:=by
         have:(listed.setIfInBounds i true).getD i false=true:=by rw [vS listed (by omega),if_pos rfl]
         simp only [dL,this,if_true,dO,bP,bI]
        have e3:([i].filter fun j=>listed.getD j false).length=0:=by
         simp only [dL,h2,de,if_false,dO,bI]
        rw [e1,e2,e3]
     exact h4 _ h1
    ·intro j hj hb k hk
     rw [vS listed (by omega)] at hb ⊢
     by_cases hki:k=i
     ·rw [if_pos hki]
     ·rw [if_neg hki]
      by_cases hji:j=i
      ·subst hji;exact h3 k hk
      ·rw [if_neg hji] at hb;exact hcl j hj hb k hk
    ·intro j hj
     rw [vS listed (by omega),if_neg (by omega)]
     exact htl j hj
    ·have e:(fun j=>(listed.setIfInBounds i true).getD j false)=fun j=>if j=i then true else listed.getD j false:=funext fun j=>vS listed (by omega) j
     rw [e]
     exact hC'
def CP (d:Nat):A:=.v (.one (.ptr d 0))
def wk (s:St) (p:Nat×List L):St:={s with env:=(p.1,CP p.1)::s.env,box:=p::s.box}
theorem Hg (qs:List (Option Tmp×A)):∀(ps:List (Option Tmp×A)) (s:St),pM s (ps++qs)=pM (pM s ps) qs
 | [],_=>rfl
 | p::ps,s=>Hg qs ps (s.fw p.1 p.2)
theorem Hh {t:Tmp}:∀{ps:List (Option Tmp×A)} {s:St},(∀p∈ps,p.1≠some t)→look (pM s ps).env t=look s.env t
 | [],s,_=>rfl
 | p::ps,s,h=>by
  rw [pM,Hh (fun q hq=>h q (by simp [hq]))]
  have hp:=h p (by simp)
  unfold St.fw
  cases hd:p.1 with
  | none=>rfl
  | some d =>
   simp only [St.put,look]
   rw [if_neg (fun e=>hp (by rw [hd,e]))]
end
end Go.Bw
namespace Go.Bw
open Go.RowKit
section
variable {P:Program} {w0:World} {m0:Mem} {s s':St} {a:Act} {w w':World} {m m':Mem} {ω ω':Wh} {F0:Home} {T:TypeId→Option TI}
def inv:ik→Nat→Option Nat
 | [],_=>none
 | (i,j')::r,j=>if j'=j then some i else inv r j
def sH (τ:ik):Bool:=τ.all fun p=>inv τ p.2==some p.1&&look τ p.1==some p.2
theorem Cn {α:Type} {x:α} {i:Nat}:∀{e:List (Nat×α)},look e i=some x→(i,x)∈e
 | [],h=>by cases h
 | (t,y)::e,h=>by
  simp only [look] at h
  split at h
  ·rename_i ht;injection h with h;subst h;subst ht;exact x6 ..
  ·exact uW _ (Cn h)
theorem Bv {i j:Nat}:∀{τ:ik},inv τ j=some i→(i,j)∈τ
 | [],h=>by cases h
 | (t,y)::e,h=>by
  simp only [inv] at h
  split at h
  ·rename_i ht;injection h with h;subst h;subst ht;exact x6 ..
  ·exact uW _ (Bv h)
theorem Co {τ:ik} (h:sH τ=true) {i j:Nat} (hm:(i,j)∈τ):inv τ j=some i∧look τ i=some j:=by
 have:=List.all_eq_true.1 h _ hm
 simpa using this
theorem Cp {τ:ik} (h:sH τ=true) {i j:Nat} (hl:look τ i=some j):inv τ j=some i:=(Co h (Cn hl)).1
theorem Fq {τ:ik} (h:sH τ=true) {i j:Nat} (hl:inv τ j=some i):look τ i=some j:=(Co h (Bv hl)).2
theorem Bx {α:Type} (g:Nat→α) (j:Nat):∀(τ:ik),look (τ.map fun p=>(p.2,g p.1)) j=(inv τ j).map g
 | []=>rfl
 | (i,j')::τ=>by
  simp only [aJ,look,inv]
  split
  ·rfl
  ·exact Bx g j τ
theorem DB {α:Type} (i:Nat):∀(e e':List (Nat×α)),look (e++e') i=match look e i with|some x=>some x|none=>look e' i
 | [],_=>rfl
 | (t,x)::e,e'=>by
  simp only [aW,look]
  split
  ·rfl
  ·exact DB i e e'
def ui (σ τ:ik):List Nat:=σ.map (·.2)++τ.map (·.2)
def s8 (σ τ:ik):List Nat:=((σ++τ).filter fun p=>!(σ.elem p&&τ.elem p)).map (·.2)
def eU (τb τr:ik) (bx:qJ):qJ:=τb.map fun p=>(p.2,((look bx p.1).getD []).map (L.ids τb τr))
def eK (τb τr:ik) (rw:Rows):Rows:=τr.map fun p=>(p.2,((look rw p.1).getD ⟨0,[],[]⟩).map (L.ids τb τr))
def St.io (s:St) (σb σr τb τr:ik) (bx':qJ) (rw':Rows):St :=
 {n:=s.n,env:=s.env.map fun p=>(p.1,p.2.map (L.kl (s8 σb τb) (s8 σr τr))),
  box:=eU τb τr bx'++(rW (ui σb τb) s.box).map fun p=>(p.1,p.2.map (L.kl (s8 σb τb) (s8 σr τr))),
  row:=eK τb τr rw'++(rW (ui σr τr) s.row).map fun p=>(p.1,p.2.map (L.kl (s8 σb τb) (s8 σr τr)))}
def x9 (s:St) (σb σr:ik):qJ→Prop
 | []=>True
 | (i,ls)::r=>mO (look σb i) (fun j=>look s.box j=some (ls.map (L.ids σb σr))∧ls.all (vR σb σr)=true)∧x9 s σb σr r
def xU (s:St) (σr:ik):Rows→Prop
 | []=>True
 | (i,q)::r=>mO (look σr i) (fun j=>q.ov=[]∧look s.row j=some q)∧xU s σr r
theorem Cq {σb σr:ik}:∀{bx:qJ},x9 s σb σr bx→∀i ls,look bx i=some ls→∃j,look σb i=some j∧look s.box j=some (ls.map (L.ids σb σr))∧ls.all (vR σb σr)=true
 | [],_,i,ls,h=>by cases h
 | (t,x)::r,hI,i,ls,h=>by
  simp only [look] at h
  split at h
  ·rename_i ht
   injection h with h
   subst h;subst ht
   obtain ⟨j,h1,h2⟩:=aF hI.1
   exact ⟨j,h1,h2⟩
  ·exact Cq hI.2 i ls h
theorem Cr {σr:ik}:∀{rw:Rows},xU s σr rw→∀i q,look rw i=some q→∃j,look σr i=some j∧look s.row j=some q∧q.ov=[]
 | [],_,i,ls,h=>by cases h
 | (t,x)::r,hI,i,ls,h=>by
  simp only [look] at h
  split at h
  ·rename_i ht
   injection h with h
   subst h;subst ht
   obtain ⟨j,h1,h2,h3⟩:=aF hI.1
   exact ⟨j,h1,h3,h2⟩
  ·exact Cr hI.2 i ls h
def w8 {α:Type} (σ:ik) (bx:List (Nat×α)):Bool:=σ.all fun p=>(look bx p.1).isSome&&(decide (1000≤p.1)&&decide (p.1<2000))
def yn {α:Type} (n:Nat) (σ τ:ik) (bx':List (Nat×α)):Bool:=τ.all fun p=>(look bx' p.1).isSome&&(decide (p.2<n)||σ.elem p)
def okV (σb σr:ik):V→Bool
 | .one l=>vR σb σr l
 | .agg ls=>ls.all (vR σb σr)
noncomputable def sf (ω:Wh) (σb σr:ik):Wh where
 box:=fun i=>match look σb i with|some j=>ω.box j|none=>0
 row:=fun i=>match look σr i with|some j=>ω.row j|none=>⟨none,0,0⟩
 f:=fun κ i k=>match κ with
  | false=>(match look σb i with|some j=>ω.f false j k|none=>False)
  | true=>(match look σr i with|some j=>ω.f true j k|none=>False)
noncomputable def qG (ω ω':Wh) (τb τr:ik):Wh where
 box:=fun j=>match inv τb j with|some i=>ω'.box i|none=>ω.box j
 row:=fun j=>match inv τr j with|some i=>ω'.row i|none=>ω.row j
 f:=fun κ j=>match κ with
  | false=>(match inv τb j with|some i=>ω'.f false i|none=>ω.f false j)
  | true=>(match inv τr j with|some i=>ω'.f true i|none=>ω.f true j)
theorem SX {σb σr:ik} (hb:∀i j,look σb i=some j→ω'.box i=ω.box j) (hr:∀i j,look σr i=some j→ω'.row i=ω.row j) {G:Nat→Prop} {v:Value} {l:L} (hid:vR σb σr l=true)
  (h:sP m w ω G v (l.ids σb σr)):sP m w ω' G v l:=by
 rcases sP.cases h with ⟨sz,xs,he,h⟩|⟨_,h⟩|⟨t,q,he,h⟩
 ·cases l<;>simp only [L.ids,L.dK,reduceCtorEq] at he
  ·cases he
   exact h
  all_goals (split at he<;>cases he)
 ·exact (HV hb hr hid h).Cj
 ·cases l<;>simp only [L.ids,L.dK,reduceCtorEq] at he
  case rT =>
   cases he
   exact h
  all_goals (split at he<;>cases he)
theorem CI.P' (h:CI P w0 m0 F0 s a w m ω) {σb σr:ik} {bx:qJ} {rw:Rows} (gb:sH σb=true) (gr:sH σr=true) (ob:w8 σb bx=true) (or:w8 σr rw=true)
  (ib:x9 s σb σr bx) (ir:xU s σr rw):CI P w m (handed bx rw (sf ω σb σr)) (roots bx rw) a0 w m (sf ω σb σr):=by
 have hbox:∀i j,look σb i=some j→(sf ω σb σr).box i=ω.box j:=fun i j hj=>by simp only [sf,hj]
 have hrow:∀i j,look σr i=some j→(sf ω σb σr).row i=ω.row j:=fun i j hj=>by simp only [sf,hj]
 have live:∀κ i,(roots bx rw).live κ i→∃j,s.live κ j∧(sf ω σb σr).f κ i=ω.f κ j∧(match κ with|false=>look σb i=some j|true=>look σr i=some j):=by
  intro κ i hl
  cases κ with
  | false =>
   obtain ⟨ls,hls⟩:=Option.isSome_iff_exists.1 hl
   obtain ⟨j,h1,h2,_⟩:=Cq ib i ls hls
   exact ⟨j,by show (look s.box j).isSome;rw [h2];rfl,by funext k;simp only [sf,h1],h1⟩
  | true =>
   obtain ⟨q,hq⟩:=Option.isSome_iff_exists.1 hl
   obtain ⟨j,h1,h2,_⟩:=Cr ir i q hq
   exact ⟨j,by show (look s.row j).isSome;rw [h2];rfl,by funext k;simp only [sf,h1],h1⟩
 refine {size:=rfl,defers:=rfl,keeps:=uG.refl _ _,qb:=Mem.le_refl m,qc:=fun _ _ _=>rfl,ok:=h.ok,env:=(fun t x hx=>by cases hx),box:=?_,row:=?_,fresh:=?_,apart:=?_,home:=?_,pL:=?_}
 rotate_right
 ·refine h.HT fun k hk=>?_
  obtain ⟨κ,i,hl,hk⟩:=hk
  obtain ⟨j,h1,h2,_⟩:=live κ i hl
  exact (h.fresh κ j h1 k (h2▸hk)).2.1
 ·intro i ls hi
  obtain ⟨j,h1,h2,h3⟩:=Cq ib i ls hi
  obtain ⟨cs,e,k1,k2,k3,G,k4,k5,k6⟩:=h.box j _ h2
  have hf:(sf ω σb σr).f false i=ω.f false j:=by funext k;simp only [sf,h1]
  refine ⟨cs,e,by rw [hbox i j h1];exact k1,by simpa using k2,by rw [hbox i j h1,hf];exact k3,G,fun j' k hk=>by rw [hbox i j h1,hf];exact k4 j' k hk,k5,fun q l hq=>?_⟩
  obtain ⟨v,k7,k8⟩:=k6 q (l.ids σb σr) (by simp [hq])
  exact ⟨v,k7,SX hbox hrow (List.all_eq_true.1 h3 l (rX hq)) k8⟩
 ·intro i q hi
  obtain ⟨j,h1,h2,h3⟩:=Cr ir i q hi
  have hf:(sf ω σb σr).f true i=ω.f true j:=by funext k;simp only [sf,h1]
  have hR:uo m w ω (ω.row j) (ω.f true j) q:=h.row j q h2
  show uo m w _ _ _ q
  rw [hrow i j h1,hf]
  obtain ⟨k1,k2,k3⟩:=hR
  refine ⟨k1,k2,?_⟩
  split at k3
  ·exact k3
  ·obtain ⟨cs,e,g1,g2,g3,g4,g5,G,g6,g7,g8⟩:=k3
   refine ⟨cs,e,g1,g2,g3,g4,g5,G,g6,g7,fun i j u hu=>?_⟩
   obtain ⟨v,g9,g10⟩:=g8 i j u hu
   rw [h3] at g10 ⊢
   exact ⟨v,g9,g10⟩
 ·intro κ i hl k hk
  obtain ⟨j,h1,h2,_⟩:=live κ i hl
  have hk':=hk
  rw [h2] at hk'
  obtain ⟨k1,k2,k3⟩:=h.fresh κ j h1 k hk'
  exact ⟨k1,.inr ⟨κ,i,hl,hk⟩,k3⟩
 ·intro κ i κ' i' hl hl' k hk hk'
  obtain ⟨j,h1,h2,h3⟩:=live κ i hl
  obtain ⟨j',h1',h2',h3'⟩:=live κ' i' hl'
  rw [h2] at hk
  rw [h2'] at hk'
  obtain ⟨rfl,rfl⟩:=h.apart _ _ _ _ h1 h1' k hk hk'
  refine ⟨rfl,?_⟩
  cases κ with
  | false =>
   have e1:=Cp gb h3
   have e2:=Cp gb h3'
   rw [e1] at e2
   injection e2
  | true =>
   have e1:=Cp gr h3
   have e2:=Cp gr h3'
   rw [e1] at e2
   injection e2
 ·refine ⟨fun i hi=>⟨bg _,?_⟩,fun i b hb hl=>?_,fun i b hb hl=>?_⟩
  ·rcases hi with hi|hi
   ·simp only [handed] at hi
    split at hi
    ·rename_i hq
     obtain ⟨ls,hls⟩:=Option.isSome_iff_exists.1 hq
     obtain ⟨j,h1,_⟩:=Cq ib i ls hls
     have:=List.all_eq_true.1 ob _ (Cn h1)
     simp only [qa,uv] at this
     exact this.2
    ·cases hi
   ·simp only [handed] at hi
    split at hi
    ·rename_i hq
     obtain ⟨ls,hls⟩:=Option.isSome_iff_exists.1 hq
     obtain ⟨j,h1,_⟩:=Cr ir i ls hls
     have:=List.all_eq_true.1 or _ (Cn h1)
     simp only [qa,uv] at this
     exact this.2
    ·cases hi
  ·simp only [handed] at hb
   split at hb
   ·injection hb
   ·cases hb
  ·simp only [handed] at hb
   split at hb
   ·injection hb
   ·cases hb
theorem Md {σ τ:ik} {i j:Nat} (hm:(i,j)∈σ++τ) (hd:(s8 σ τ).elem j=false):(i,j)∈σ∧(i,j)∈τ:=by
 have hd:j ∉ s8 σ τ:=by simpa using hd
 by_cases hq:(i,j)∈σ∧(i,j)∈τ
 ·exact hq
 ·exact absurd (List.mem_map.2 ⟨(i,j),List.mem_filter.2 ⟨hm,by simpa [Decidable.imp_iff_not_or] using hq⟩,rfl⟩) hd
theorem CI.Qa (h:CI P w0 m0 F0 s a w m ω) {σb σr τb τr:ik} {bx bx':qJ} {rw rw':Rows} (gb:sH σb=true) (gr:sH σr=true) (ob:w8 σb bx=true) (or:w8 σr rw=true)
  (ib:x9 s σb σr bx) (ir:xU s σr rw) (tb:sH τb=true) (tr:sH τr=true) (pb:yn s.n σb τb bx'=true) (pr:yn s.n σr τr rw'=true)
  (hC:CI P w m (handed bx rw (sf ω σb σr)) (roots bx' rw') a0 w' m' ω') :
  CI P w0 m0 F0 (s.io σb σr τb τr bx' rw') a w' m' (qG ω ω' τb τr)∧∀v l,bi m' ω' v l→bi m' (qG ω ω' τb τr) v (l.ids τb τr):=by
 have H8:∀i j,look τb i=some j→(qG ω ω' τb τr).box j=ω'.box i:=fun i j hj=>by simp only [qG,Cp tb hj]
 have fwdR:∀i j,look τr i=some j→(qG ω ω' τb τr).row j=ω'.row i:=fun i j hj=>by simp only [qG,Cp tr hj]
 have liveB:∀i j,inv τb j=some i→(look bx' i).isSome∧(j<s.n∨(i,j)∈σb):=fun i j hj=>by
  have:=List.all_eq_true.1 pb _ (Bv hj)
  simpa using this
 have liveR:∀i j,inv τr j=some i→(look rw' i).isSome∧(j<s.n∨(i,j)∈σr):=fun i j hj=>by
  have:=List.all_eq_true.1 pr _ (Bv hj)
  simpa using this
 have inBx:∀i j,(i,j)∈σb→(look bx i).isSome∧(look s.box j).isSome:=fun i j hm=>by
  have:=List.all_eq_true.1 ob _ hm
  simp only [qa] at this
  obtain ⟨ls,hls⟩:=Option.isSome_iff_exists.1 this.1
  obtain ⟨j',h1,h2,_⟩:=Cq ib i ls hls
  rw [(Co gb hm).2] at h1
  injection h1 with h1
  subst h1
  exact ⟨this.1,by rw [h2];rfl⟩
 have inRw:∀i j,(i,j)∈σr→(look rw i).isSome∧(look s.row j).isSome:=fun i j hm=>by
  have:=List.all_eq_true.1 or _ hm
  simp only [qa] at this
  obtain ⟨ls,hls⟩:=Option.isSome_iff_exists.1 this.1
  obtain ⟨j',h1,h2,_⟩:=Cr ir i ls hls
  rw [(Co gr hm).2] at h1
  injection h1 with h1
  subst h1
  exact ⟨this.1,by rw [h2];rfl⟩
 have backB:∀i j,(i,j)∈σb→inv τb j=some i→ω'.box i=ω.box j:=fun i j hm hj=>by
  refine (hC.home.box i (ω.box j) ?_ (liveB i j hj).1)
  simp only [handed,(inBx i j hm).1,if_true,sf,(Co gb hm).2]
 have backR:∀i j,(i,j)∈σr→inv τr j=some i→ω'.row i=ω.row j:=fun i j hm hj=>by
  refine (hC.home.row i (ω.row j) ?_ (liveR i j hj).1)
  simp only [handed,(inRw i j hm).1,if_true,sf,(Co gr hm).2]
 have klB:∀j,(s8 σb τb).elem j=false→(qG ω ω' τb τr).box j=ω.box j:=fun j hj=>by
  simp only [qG]
  split
  ·rename_i i hi
   have hk:=Md (JM _ (Bv hi)) hj
   exact backB i j hk.1 hi
  ·rfl
 have klR:∀j,(s8 σr τr).elem j=false→(qG ω ω' τb τr).row j=ω.row j:=fun j hj=>by
  simp only [qG]
  split
  ·rename_i i hi
   have hk:=Md (JM _ (Bv hi)) hj
   exact backR i j hk.1 hi
  ·rfl
 have hE:∀v l,bi m ω v l→bi m' (qG ω ω' τb τr) v (l.kl (s8 σb τb) (s8 σr τr)):=fun v l hl=>(Rz klB klR hl).mono hC.qb
 have hI:∀v l,bi m' ω' v l→bi m' (qG ω ω' τb τr) v (l.ids τb τr):=fun v l hl=>RA H8 fwdR hl
 have R1:Au m m' ω (qG ω ω' τb τr) (L.kl (s8 σb τb) (s8 σr τr)):=⟨hC.qb,hE,fun _ _=>rfl,fun _ _=>rfl⟩
 have R2:Au m' m' ω' (qG ω ω' τb τr) (L.ids τb τr):=⟨Mem.le_refl _,hI,fun _ _=>rfl,fun _ _=>rfl⟩
 have own:∀k,handed bx rw (sf ω σb σr) k→∃κ j,s.live κ j∧ω.f κ j k∧(match κ with|false=>j∈σb.map (·.2)|true=>j∈σr.map (·.2)):=by
  rintro k ⟨κ,i,hl,hk⟩
  cases κ with
  | false =>
   obtain ⟨ls,hls⟩:=Option.isSome_iff_exists.1 hl
   obtain ⟨j,h1,h2,_⟩:=Cq ib i ls hls
   exact ⟨false,j,by show (look s.box j).isSome;rw [h2];rfl,by simpa only [sf,h1] using hk,List.mem_map.2 ⟨_,Cn h1,rfl⟩⟩
  | true =>
   obtain ⟨ls,hls⟩:=Option.isSome_iff_exists.1 hl
   obtain ⟨j,h1,h2,_⟩:=Cr ir i ls hls
   exact ⟨true,j,by show (look s.row j).isSome;rw [h2];rfl,by simpa only [sf,h1] using hk,List.mem_map.2 ⟨_,Cn h1,rfl⟩⟩
 have stays:∀κ j,(match κ with|false=>(look (rW (ui σb τb) s.box) j).isSome|true=>(look (rW (ui σr τr) s.row) j).isSome)→s.live κ j∧(∀k,ω.f κ j k→¬ handed bx rw (sf ω σb σr) k)∧(match κ with|false=>inv τb j=Option.none|true=>inv τr j=Option.none):=by
  intro κ j hl
  have hinv:∀(τ:ik),j ∉ τ.map (·.2)→inv τ j=Option.none:=fun τ hτ=>by
   cases hq:inv τ j with
   | none=>rfl
   | some i=>exact absurd (List.mem_map.2 ⟨_,Bv hq,rfl⟩) hτ
  have hap:s.live κ j→(match κ with|false=>j ∉ σb.map (·.2)|true=>j ∉ σr.map (·.2))→∀k,ω.f κ j k→¬ handed bx rw (sf ω σb σr) k:=by
   intro hs hn k hk ho
   obtain ⟨κ',j',h1,h2,h3⟩:=own k ho
   obtain ⟨rfl,rfl⟩:=h.apart _ _ _ _ hs h1 k hk h2
   cases κ with
   | false=>exact hn h3
   | true=>exact hn h3
  cases κ with
  | false =>
   have hl:(look (rW (ui σb τb) s.box) j).isSome:=hl
   rw [Aq] at hl
   cases hq:(ui σb τb).elem j with
   | true=>rw [hq] at hl;cases hl
   | false =>
    rw [hq] at hl
    have hq:j ∉ ui σb τb:=by simpa using hq
    simp only [ui,yg,not_or] at hq
    exact ⟨hl,hap hl hq.1,hinv _ hq.2⟩
  | true =>
   have hl:(look (rW (ui σr τr) s.row) j).isSome:=hl
   rw [Aq] at hl
   cases hq:(ui σr τr).elem j with
   | true=>rw [hq] at hl;cases hl
   | false =>
    rw [hq] at hl
    have hq:j ∉ ui σr τr:=by simpa using hq
    simp only [ui,yg,not_or] at hq
    exact ⟨hl,hap hl hq.1,hinv _ hq.2⟩
 have lookD:∀{α:Type} {ks:List Nat} {e:List (Nat×α)} {j:Nat} {x:α},look (rW ks e) j=some x→look e j=some x:=fun {α ks e j x} hx=>by
  rw [Aq] at hx
  split at hx
  ·cases hx
  ·exact hx
 have hlive:∀κ j,(s.io σb σr τb τr bx' rw').live κ j→(∃i,(roots bx' rw').live κ i∧(qG ω ω' τb τr).f κ j=ω'.f κ i∧(match κ with|false=>inv τb j=some i|true=>inv τr j=some i)) ∨
   (s.live κ j∧(∀k,ω.f κ j k→¬ handed bx rw (sf ω σb σr) k)∧(qG ω ω' τb τr).f κ j=ω.f κ j):=by
  intro κ j hl
  cases κ with
  | false =>
   simp only [St.live,St.io,DB] at hl
   cases hq:inv τb j with
   | some i=>exact .inl ⟨i,(liveB i j hq).1,by simp only [qG,hq],rfl⟩
   | none =>
    have:look (eU τb τr bx') j=Option.none:=by unfold eU;rw [Bx (fun i=>((look bx' i).getD []).map (L.ids τb τr)),hq];rfl
    rw [this] at hl
    simp only [yH (List.map (L.kl (s8 σb τb) (s8 σr τr))),XH] at hl
    obtain ⟨h1,h2,h3⟩:=stays false j hl
    exact .inr ⟨h1,h2,by simp only [qG,hq]⟩
  | true =>
   simp only [St.live,St.io,DB] at hl
   cases hq:inv τr j with
   | some i=>exact .inl ⟨i,(liveR i j hq).1,by simp only [qG,hq],rfl⟩
   | none =>
    have:look (eK τb τr rw') j=Option.none:=by unfold eK;rw [Bx (fun i=>((look rw' i).getD ⟨0,[],[]⟩).map (L.ids τb τr)),hq];rfl
    rw [this] at hl
    simp only [yH (aN.map (L.kl (s8 σb τb) (s8 σr τr))),XH] at hl
    obtain ⟨h1,h2,h3⟩:=stays true j hl
    exact .inr ⟨h1,h2,by simp only [qG,hq]⟩
 have oldOk:∀k,handed bx rw (sf ω σb σr) k→w0.heap.size≤k∨F0 k:=fun k hk=>by
  obtain ⟨κ,j,h1,h2,_⟩:=own k hk
  exact (h.fresh κ j h1 k h2).2.1
 refine ⟨{size:=h.size,defers:=h.defers,keeps:=?_,qb:=Mem.le_trans h.qb hC.qb,qc:=?_,ok:=hC.ok,env:=?_,box:=?_,row:=?_,fresh:=?_,apart:=?_,home:=?_,pL:=h.pL},hI⟩
 ·refine ⟨hC.keeps.os.trans h.keeps.os,hC.keeps.tape.trans h.keeps.tape,hC.keeps.output.trans h.keeps.output,pU h.keeps.size hC.keeps.size,fun k hk hF=>?_⟩
  refine (hC.keeps.block k (wN hk h.keeps.size) fun ho=>?_).trans (h.keeps.block k hk hF)
  rcases oldOk k ho with hq|hq
  ·omega
  ·exact hF hq
 ·intro x hx hF
  refine (hC.qc x (wN hx h.keeps.size) fun ho=>?_).trans (h.qc x hx hF)
  rcases oldOk _ ho with hq|hq
  ·omega
  ·exact hF hq
 ·intro t x hx
  obtain ⟨y,hy,rfl⟩:=rR hx
  exact (h.env t y hy).map hE
 ·intro j ls hj
  simp only [St.io,DB] at hj
  cases hq:inv τb j with
  | some i =>
   have e:look (eU τb τr bx') j=some (((look bx' i).getD []).map (L.ids τb τr)):=by unfold eU;rw [Bx (fun i=>((look bx' i).getD []).map (L.ids τb τr)),hq];rfl
   rw [e] at hj
   simp only [Option.some.injEq] at hj
   subst hj
   obtain ⟨ls,hls⟩:=Option.isSome_iff_exists.1 (liveB i j hq).1
   rw [hls]
   exact (hC.box i ls hls).sX R2 (by simp only [qG,hq]) (by simp only [qG,hq])
  | none =>
   have e:look (eU τb τr bx') j=Option.none:=by unfold eU;rw [Bx (fun i=>((look bx' i).getD []).map (L.ids τb τr)),hq];rfl
   rw [e] at hj
   obtain ⟨ls0,h1,rfl⟩:=rR hj
   obtain ⟨h2,h3,h4⟩:=stays false j (by show (look (rW (ui σb τb) s.box) j).isSome;rw [h1];rfl)
   have hk:=(h.box j ls0 (lookD h1)).keep (Mem.le_refl m) (w':=w') fun k hk=>hC.keeps.block k (h.fresh false j h2 k hk).1 (h3 k hk)
   exact hk.sX R1 (by simp only [qG,hq]) (by simp only [qG,hq])
 ·intro j r hj
  simp only [St.io,DB] at hj
  cases hq:inv τr j with
  | some i =>
   have e:look (eK τb τr rw') j=some (((look rw' i).getD ⟨0,[],[]⟩).map (L.ids τb τr)):=by unfold eK;rw [Bx (fun i=>((look rw' i).getD ⟨0,[],[]⟩).map (L.ids τb τr)),hq];rfl
   rw [e] at hj
   simp only [Option.some.injEq] at hj
   subst hj
   obtain ⟨ls,hls⟩:=Option.isSome_iff_exists.1 (liveR i j hq).1
   rw [hls]
   exact (hC.row i ls hls).sX R2 (by simp only [qG,hq]) (by simp only [qG,hq])
  | none =>
   have e:look (eK τb τr rw') j=Option.none:=by unfold eK;rw [Bx (fun i=>((look rw' i).getD ⟨0,[],[]⟩).map (L.ids τb τr)),hq];rfl
   rw [e] at hj
   obtain ⟨r0,h1,rfl⟩:=rR hj
   obtain ⟨h2,h3,h4⟩:=stays true j (by show (look (rW (ui σr τr) s.row) j).isSome;rw [h1];rfl)
   have hk:=(h.row j r0 (lookD h1)).keep (Mem.le_refl m) (w':=w') fun k hk=>hC.keeps.block k (h.fresh true j h2 k hk).1 (h3 k hk)
   exact hk.sX R1 (by simp only [qG,hq]) (by simp only [qG,hq])
 ·intro κ j hl k hk
  rcases hlive κ j hl with ⟨i,h1,h2,_⟩|⟨h1,h2,h3⟩
  ·rw [h2] at hk
   obtain ⟨k1,k2,k3⟩:=hC.fresh κ i h1 k hk
   refine ⟨k1,?_,k3⟩
   rcases k2 with k2|k2
   ·exact .inl (pU h.keeps.size k2)
   ·exact oldOk k k2
  ·rw [h3] at hk
   obtain ⟨k1,k2,k3⟩:=h.fresh κ j h1 k hk
   refine ⟨wN k1 hC.keeps.size,k2,fun x v hx he=>?_⟩
   subst he
   rw [hC.qc x k1 (h2 _ hk)] at hx
   exact k3 x v hx rfl
 ·intro κ j κ' j' hl hl' k hk hk'
  have sep:∀κ i κ' j,(roots bx' rw').live κ i→ω'.f κ i k→s.live κ' j→ω.f κ' j k→¬ handed bx rw (sf ω σb σr) k→False:=by
   intro κ i κ' j h1 h2 h3 h4 h5
   obtain ⟨_,k2,_⟩:=hC.fresh κ i h1 k h2
   have k1:=(h.fresh κ' j h3 k h4).1
   rcases k2 with k2|k2
   ·omega
   ·exact h5 k2
  rcases hlive κ j hl with ⟨i,h1,h2,h3⟩|⟨h1,h2,h3⟩<;>rcases hlive κ' j' hl' with ⟨i',h1',h2',h3'⟩|⟨h1',h2',h3'⟩
  ·rw [h2] at hk
   rw [h2'] at hk'
   obtain ⟨rfl,rfl⟩:=hC.apart _ _ _ _ h1 h1' k hk hk'
   refine ⟨rfl,?_⟩
   cases κ with
   | false =>
    have e1:=Fq tb h3
    have e2:=Fq tb h3'
    rw [e1] at e2
    injection e2
   | true =>
    have e1:=Fq tr h3
    have e2:=Fq tr h3'
    rw [e1] at e2
    injection e2
  ·rw [h2] at hk
   rw [h3'] at hk'
   exact (sep _ _ _ _ h1 hk h1' hk' (h2' _ hk')).elim
  ·rw [h3] at hk
   rw [h2'] at hk'
   exact (sep _ _ _ _ h1' hk' h1 hk (h2 _ hk)).elim
  ·rw [h3] at hk
   rw [h3'] at hk'
   exact h.apart _ _ _ _ h1 h1' k hk hk'
 ·refine ⟨h.home.tz,fun j b hb hl=>?_,fun j b hb hl=>?_⟩
  ·cases hq:inv τb j with
   | some i =>
    have e:(qG ω ω' τb τr).box j=ω'.box i:=by simp only [qG,hq]
    rcases (liveB i j hq).2 with hlt|hm
    ·have:=(h.home.tz j (.inl (by rw [hb];rfl))).1
     omega
    ·rw [e,backB i j hm hq]
     exact h.home.box j b hb (inBx i j hm).2
   | none =>
    have e:(qG ω ω' τb τr).box j=ω.box j:=by simp only [qG,hq]
    rw [e]
    rcases hlive false j hl with ⟨i,_,_,h3⟩|⟨h1,_⟩
    ·have h3:inv τb j=some i:=h3
     rw [hq] at h3;cases h3
    ·exact h.home.box j b hb h1
  ·cases hq:inv τr j with
   | some i =>
    have e:(qG ω ω' τb τr).row j=ω'.row i:=by simp only [qG,hq]
    rcases (liveR i j hq).2 with hlt|hm
    ·have:=(h.home.tz j (.inr (by rw [hb];rfl))).1
     omega
    ·rw [e,backR i j hm hq]
     exact h.home.row j b hb (inRw i j hm).2
   | none =>
    have e:(qG ω ω' τb τr).row j=ω.row j:=by simp only [qG,hq]
    rw [e]
    rcases hlive true j hl with ⟨i,_,_,h3⟩|⟨h1,_⟩
    ·have h3:inv τr j=some i:=h3
     rw [hq] at h3;cases h3
    ·exact h.home.row j b hb h1
theorem Qb {σb σr:ik} (hb:∀i j,look σb i=some j→ω'.box i=ω.box j) (hr:∀i j,look σr i=some j→ω'.row i=ω.row j) {v:Value} {x:V} (hid:okV σb σr x=true)
  (h:sJ m ω v (x.map (L.ids σb σr))):sJ m ω' v x:=by
 cases x with
 | one l=>exact HV hb hr hid h
 | agg ls =>
  obtain ⟨cs,h1,h2,h3⟩:=h
  refine ⟨cs,h1,by simpa using h2,fun j l hl=>?_⟩
  obtain ⟨u,h4,h5⟩:=h3 j (l.ids σb σr) (by simp [hl])
  exact ⟨u,h4,HV hb hr (List.all_eq_true.1 hid l (rX hl)) h5⟩
theorem w6.io {f:FuncId} {xs ys:List V} {bx bx':qJ} {rw rw':Rows} {r:A} {d:Option Tmp} (σb σr τb τr:ik) (hS:db P f ys bx rw r bx' rw') (hd:s.rO d)
  (gb:sH σb=true) (gr:sH σr=true) (ob:w8 σb bx=true) (or:w8 σr rw=true) (ib:x9 s σb σr bx) (ir:xU s σr rw)
  (tb:sH τb=true) (tr:sH τr=true) (pb:yn s.n σb τb bx'=true) (pr:yn s.n σr τr rw'=true)
  (hx:ys.map (V.map (L.ids σb σr))=xs) (hy:ys.all (okV σb σr)=true):w6 P f xs s d ((s.io σb σr τb τr bx' rw').fw d (r.map (L.ids τb τr))):=by
 intro w0 m0 F0 a w m ω h vs hA
 have hIn:=h.P' gb gr ob or ib ir
 have hA':vQ m (sf ω σb σr) vs ys:=by
  subst hx
  refine ⟨by simpa using hA.1,fun i x hi=>?_⟩
  obtain ⟨v,h1,h2⟩:=hA.2 i (x.map (L.ids σb σr)) (by simp [hi])
  exact ⟨v,h1,Qb (fun i j hj=>by simp only [sf,hj]) (fun i j hj=>by simp only [sf,hj]) (List.all_eq_true.1 hy x (rX hi)) h2⟩
 refine (hS.call m w vs (sf ω σb σr) hIn hA').mono fun v w' hp=>?_
 obtain ⟨m',ω',hC,hv⟩:=hp
 obtain ⟨h1,h2⟩:=h.Qa gb gr ob or ib ir tb tr pb pr hC
 exact ⟨m',_,h1.fw hd (hv.map h2)⟩
theorem xq.io {f:FuncId} {xs ys:List V} {bx bx':qJ} {rw rw':Rows} {r:A} {d:Option Tmp} {K:St→Prop} (σb σr τb τr:ik) (hS:db P f ys bx rw r bx' rw')
  (gs:(sH σb&&sH σr&&sH τb&&sH τr&&w8 σb bx&&w8 σr rw&&yn s.n σb τb bx'&&yn s.n σr τr rw'&&ys.all (okV σb σr))=true)
  (hx:ys.map (V.map (L.ids σb σr))=xs) (hin:x9 s σb σr bx∧xU s σr rw) (h:s.rO d∧K ((s.io σb σr τb τr bx' rw').fw d (r.map (L.ids τb τr)))):xq P f xs s d K:=by
 simp only [qa] at gs
 obtain ⟨⟨⟨⟨⟨⟨⟨⟨g1,g2⟩,g3⟩,g4⟩,g5⟩,g6⟩,g7⟩,g8⟩,g9⟩:=gs
 exact ⟨_,.io σb σr τb τr hS h.1 g1 g2 g5 g6 hin.1 hin.2 g3 g4 g7 g8 hx g9,h.2⟩
end
end Go.Bw
namespace Go.Bw
def ET (s:St) (kb kr ib ir:List Nat) (bo:qJ) (ro:Rows):St :=
 {n:=s.n,env:=s.env.map fun p=>(p.1,p.2.map (L.kl kb kr)),box:=bo++(rW ib s.box).map fun p=>(p.1,p.2.map (L.kl kb kr)),row:=ro++(rW ir s.row).map fun p=>(p.1,p.2.map (L.kl kb kr))}
theorem mQ (n:Nat) (e:List (Nat×A)) (b:qJ) (k:Rows) (kb kr ib ir:List Nat) (bo:qJ) (ro:Rows):ET ⟨n,e,b,k⟩ kb kr ib ir bo ro =
  ⟨n,e.map fun p=>(p.1,p.2.map (L.kl kb kr)),bo++(rW ib b).map fun p=>(p.1,p.2.map (L.kl kb kr)),ro++(rW ir k).map fun p=>(p.1,p.2.map (L.kl kb kr))⟩:=rfl
theorem ai.io {P:Program} {T:TypeId→Option TI} {ops:Array Oper} {d:Option Tmp} {l:List Oper} {s:St} {K:St→Prop} {f:FuncId} {xs ys:List V} {bx bx':qJ} {rw rw':Rows} {r:A} (σb σr τb τr:ik) (kb kr ib ir:List Nat)
  (hS:db P f ys bx rw r bx' rw') (gs:(sH σb&&sH σr&&sH τb&&sH τr&&w8 σb bx&&w8 σr rw&&yn s.n σb τb bx'&&yn s.n σr τr rw'&&ys.all (okV σb σr))=true)
  (hd:s8 σb τb=kb∧s8 σr τr=kr∧ui σb τb=ib∧ui σr τr=ir) (hx:ys.map (V.map (L.ids σb σr))=xs) (hin:x9 s σb σr bx∧xU s σr rw)
  (hk:s.rO d∧bL P T ops l ((ET s kb kr ib ir (eU τb τr bx') (eK τb τr rw')).fw d (r.map (L.ids τb τr))) K):ai P T ops d l s K (f,xs):=by
 obtain ⟨rfl,rfl,rfl,rfl⟩:=hd
 exact xq.io σb σr τb τr hS gs hx hin hk
theorem mR (s:St) (σb σr:ik):x9 s σb σr []=True:=rfl
theorem mS (s:St) (σr:ik):xU s σr []=True:=rfl
theorem mU (s:St) (σb σr:ik) (i:Nat) (ls:List L) (r:qJ):x9 s σb σr ((i,ls)::r)=(mO (look σb i) (fun j=>look s.box j=some (ls.map (L.ids σb σr))∧ls.all (vR σb σr)=true)∧x9 s σb σr r):=rfl
theorem mV (s:St) (σr:ik) (i:Nat) (q:aN) (r:Rows):xU s σr ((i,q)::r)=(mO (look σr i) (fun j=>q.ov=[]∧look s.row j=some q)∧xU s σr r):=rfl
theorem mW (τr:ik) (bx:qJ):eU [] τr bx=[]:=rfl
theorem mX (τb:ik) (rw:Rows):eK τb [] rw=[]:=rfl
theorem Mk {P:Program} (w:World) (tS tR e:TypeId) (ht:P.underlying tS=some (.slice e)) (size:Nat) (hz:∀w,(Go.sizeOf e).run P w=.ok size w) (A B:Option Addr) (ca lb cb:Nat) :
  (Extern.SlicesOverlaps.overlaps #[tS,tS] #[tR] #[.slice A 0 ca,.slice B lb cb]).run P w=.ok (.bool false) w:=by
 change Sem.run P (α:=Value) (do
  let some t:=(#[tS,tS]:Array TypeId)[0]?|stuck "slices.overlaps: no parameter types"
  let .slice elem ←underlying t|stuck "slices.overlaps: slice type expected"
  let size ←sizeOf elem
  match (A:Option Addr),(B:Option Addr) with
  | some a,some b =>
   if 0=0∨lb=0∨size=0 then pure (Value.bool false)
   else if a.block != b.block&&(←frozen a)&&(←frozen b) then unsupported .addressObserved
   else do
    if a.block != b.block then do
     noView a;noView b
     if ←mayBeOne a b then return Value.bool ((←choose (.extern "sameAddr.stringBytes" 2))==1)
    pure (Value.bool (a.block==b.block&&a.off<b.off+lb * size&&b.off<a.off+0 * size))
  | _,_=>pure (Value.bool false)) w=_
 cases A<;>cases B<;>simp [run_underlying ht,hz]
theorem w6.apart {P:Program} {f:FuncId} {fn:Func} {s:St} {d:Option Tmp} {t e:TypeId} {id lo n id' lo' n':Nat} {r r':aN} {tR:TypeId} {sz:Nat} (hf:P.funcs[f]?=some fn) (hname:(fn.name=="runtime.NumGoroutine")=false)
  (hb:fn.body.isNone=true) (hn:Extern.findNext fn=none) (he:Extern.find fn=some (Extern.SlicesOverlaps.overlaps #[t,t] #[tR])) (ht:P.underlying t=some (.slice e)) (hz:∀w,(sizeOf e).run P w=.ok sz w)
  (hd:s.rO d) (hne:id≠id') (hr:look s.row id=some r) (hr':look s.row id'=some r') (hcl:xD r'.ov r'.xs.length) (hfit:lo'+n'≤r'.xs.length) (h0:0<n') (hs0:0<r'.sz) :
  w6 P f [.one (.ref id lo n),.one (.ref id' lo' n')] s d (St.fw {s with row:=bz id' ⟨r'.sz,r'.xs.take (lo'+n'),[]⟩ s.row} d (.v (.one (.bool false)))):=by
 intro w0 m0 F0 a w m ω h vs hA
 obtain ⟨hl,hA⟩:=hA
 obtain ⟨v1,h1,r1⟩:=hA 0 _ rfl
 obtain ⟨v2,h2,r2⟩:=hA 1 _ rfl
 have ee:vs.toArray=#[v1,v2]:=by
  match vs,hl,h1,h2 with
  | [x,y],_,h1,h2=>simp at h1 h2;rw [h1,h2]
 have r1:rk (ω.row id) lo n v1:=r1
 have r2:rk (ω.row id') lo' n' v2:=r2
 have hC:=h.DE hr' (Dv hcl) hfit
 have hrun:(Extern.SlicesOverlaps.overlaps #[t,t] #[tR] #[v1,v2]).run P w=.ok (.bool false) w:=by
  rcases r2 with ⟨_,_,hn0,_⟩|⟨b',ad',k1',k2',hv2,k4'⟩
  ·omega
  obtain ⟨q1',q2',q3'⟩:=h.row id' r' hr'
  rw [k1'] at q3'
  obtain ⟨cs',e',p1',p2',p3',p4',p5',_⟩:=q3'
  have had':=k4' (.inl (by omega))
  rcases r1 with ⟨_,_,hn0,hv1⟩|⟨b,ad,k1,k2,hv1,k4⟩
  ·rw [hv1,hv2]
   exact Mk w t tR e ht sz hz _ _ _ _ _
  by_cases hlt:lo<(ω.row id).cap∨lo=0
  ·obtain ⟨q1,q2,q3⟩:=h.row id r hr
   rw [k1] at q3
   obtain ⟨cs,e0,p1,p2,p3,p4,p5,_⟩:=q3
   have had:=k4 hlt
   subst had had'
   rw [hv1,hv2]
   have hbb:b≠b':=by
    intro hbb
    subst hbb
    have:=(h.apart true id true id' (by show (look s.row id).isSome;rw [hr];rfl) (by show (look s.row id').isSome;rw [hr'];rfl) b p5 p5').2
    exact hne this
   refine Lib.run_overlaps_apart w t tR e ht sz hz _ _ _ _ _ _ hbb e0 e' cs.size cs'.size ?_ ?_ ?_ ?_ ?_
   ·simp [World.shape?,p1]
   ·simp [World.shape?,p1']
   ·rw [p2']
    have:0<(ω.row id').cap:=by omega
    exact Nat.ne_of_gt (Nat.mul_pos this hs0)
   ·simp [World.frozen?,p1]
   ·simp [World.frozen?,p1]
  ·have hn0:n=0:=by omega
   subst hn0
   rw [hv1,hv2]
   exact Mk w t tR e ht sz hz _ _ _ _ _
 refine .inl ⟨.bool false,w,?_,m,ω,hC.fw hd (aM.bool false)⟩
 rw [ee,run_callFunc_extern hf hname hb hn he,hrun]
 rfl
theorem w6.Ib {P:Program} {f:FuncId} {xs ys:List V} {r:A} {s:St} {d:Option Tmp} (kb kr:List Nat) (hd:s.rO d) (hS:Sat P f ys r) (hy:(xs.map fun x=>x.map (pV kb kr (s.rest kb kr)))=ys):w6 P f xs s d ((s.freeze kb kr).fw d (r.map L.cP)):=by
 intro w0 m0 F0 a w m ω h vs hA
 obtain ⟨m',h',hle,hg⟩:=h.freeze kb kr
 have hA':vQ m' ω vs ys:=by
  subst hy
  refine ⟨by simpa using hA.1,fun i x hi=>?_⟩
  rw [ql,rI] at hi
  obtain ⟨x0,hi,rfl⟩:=hi
  obtain ⟨v,h1,h2⟩:=hA.2 i x0 hi
  exact ⟨v,h1,h2.map hg⟩
 have hd':(s.freeze kb kr).rO d:=by
  cases d with
  | none=>trivial
  | some d=>exact hd
 exact w6.pure hd' hS w0 m0 F0 a w m' ω h' vs hA'
theorem ai.Ib {P:Program} {T:TypeId→Option TI} {ops:Array Oper} {d:Option Tmp} {l:List Oper} {s:St} {K:St→Prop} {f:FuncId} {xs ys:List V} {r:A} (kb kr:List Nat) (h:Sat P f ys r) (hy:(xs.map fun x=>x.map (pV kb kr (s.rest kb kr)))=ys)
  (hk:s.rO d∧bL P T ops l ((s.freeze kb kr).fw d (r.map L.cP)) K):ai P T ops d l s K (f,xs):=⟨_,.Ib kb kr hk.1 h hy,hk.2⟩
theorem ai.Es {P:Program} {T:TypeId→Option TI} {ops:Array Oper} {d:Option Tmp} {l:List Oper} {s:St} {K:St→Prop} {f:FuncId} {xs ys:List V} {r:A} (kb kr:List Nat) (hy:(xs.map fun x=>x.map (pV kb kr (s.rest kb kr)))=ys) (h:Sat P f ys r)
  (hk:s.rO d∧bL P T ops l ((s.freeze kb kr).fw d (r.map L.cP)) K):ai P T ops d l s K (f,xs):=.Ib kb kr h hy hk
theorem ab.Bc {P:Program} {T:TypeId→Option TI} {w0:World} {m0:Mem} {F0:Home} {Q:Exit→St→Prop} {s:St} {id:Nat} {l l1 l2:List Oper} (hT:pR P T) (hm:P.follows .mixedOrders=true) (na dep:Nat) (hchk:wj l.toArray na dep=true) (h1:l.take na=l1) (h2:l.drop na=l2)
  (h:∀K2:St→Prop,(∀s',(∀K:St→Prop,(∀s',Q .normal s'→K s')→bL P T l.toArray l2 s' K)→K2 s')→cQ P T l.toArray l1 s K2):ab P w0 m0 F0 (.region id l.toArray true) Q s :=
 ab.draw hT hm na dep rfl hchk h1 h2 fun K hK=>h (fun s'=>bL P T l.toArray l2 s' K) fun _ ht=>ht K hK
end Go.Bw
