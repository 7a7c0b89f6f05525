/-
  WHAT IS PROVED HERE, of this translation: Mem.le_refl, Mem.le_trans, Rep.mono, Rep.oneCell, FRep.mono, FRep.rep, Rep.frep, CRep.keep, CRep.sub, CRep.oneCell, frzMem_in, frzMem_out, .., owned_none, CI.goodN, gives_call, L.flat_e, cutMem_out, cutMem_in, frzV_n, gives_lentR, kl_e, ids_back, ids_fwd.
  A theorem that ends in sat says what the function it names returns, whatever the state it is called in; the bounds on its arguments stand ahead of it.
-/
import Derived.Calls
import Derived.Orders
import Derived.Below
import Derived.Laws.AppendOwn
import Derived.Laws.Entries
import Derived.WalkKit
import Derived.Laws.Pointers
import Derived.Laws.Small
import Derived.Laws.Tables
import Derived.Laws.StructEq
import Derived.WalkSpells
import Derived.Lib.AppendZerosOnto
set_option linter.unusedSimpArgs false
set_option linter.unusedVariables false
namespace Go.Bw
open Go.RowKit
inductive L where
 | int (k:IntKind) (n:Int)
 | bool (b:Bool)
 | str (s:ByteArray)
 | sl (sz:Nat) (xs:List (List L))
 | nil (sz:Nat)
 | own (sz:Nat) (xs:List (List L))
 | clo (f:FuncId) (caps:List L)
 | fz (ls:List L)
 | ptr (id o:Nat)
 | eptr (id i o:Nat)
 | ref (id lo n:Nat)
 | any
 | nilp
 | byt (t:TypeId) (l:List UInt8)
 | raw (v:Value)
 deriving Inhabited
abbrev Mem:=Addr→Option Value
def cellOf (xs:List (List L)) (i j:Nat):Option L:=(xs[i]?).bind (·[j]?)
inductive Rep (m:Mem):Value→L→Prop
 | int (k:IntKind) (n:Int):Rep m (.int k n) (.int k n)
 | bool (b:Bool):Rep m (.bool b) (.bool b)
 | str (s:ByteArray):Rep m (.string s) (.str s)
 | nil (sz:Nat):Rep m (.slice none 0 0) (.nil sz)
 | slNil (sz:Nat):Rep m (.slice none 0 0) (.sl sz [])
 | sl (ad:Addr) (len cap sz:Nat) (xs:List (List L)) (vals:Nat→Nat→Value) (hlen:len=xs.length) (hc:len≤cap)
   (hsz:∀x∈xs,x.length=sz)
   (hm:∀i j u,cellOf xs i j=some u→m (ad.add (i * sz+j))=some (vals i j))
   (hr:∀i j u,cellOf xs i j=some u→Rep m (vals i j) u):Rep m (.slice (some ad) len cap) (.sl sz xs)
 | clo (f:FuncId) (caps:List L) (vs:List Value) (vals:Nat→Value) (hl:vs.length=caps.length)
   (hm:∀i u,caps[i]?=some u→vs[i]?=some (vals i))
   (hr:∀i u,caps[i]?=some u→Rep m (vals i) u) :
   Rep m (.func (.func f) #[] vs.toArray) (.clo f caps)
 | fz (ad:Addr) (ls:List L) (vals:Nat→Value) (hm:∀j u,ls[j]?=some u→m (ad.add j)=some (vals j)) (hr:∀j u,ls[j]?=some u→Rep m (vals j) u) :
   Rep m (.pointer (some ad)) (.fz ls)
 | any (v:Value) (h:v.oneCell'=true):Rep m v .any
 | nilp:Rep m (.pointer none) .nilp
 | raw (v:Value) (h:v.oneCell'=true):Rep m v (.raw v)
def Mem.le (m m':Mem):Prop:=∀a v,m a=some v→m' a=some v
theorem Mem.le_refl (m:Mem):Mem.le m m:=fun _ _ h=>h
theorem Mem.le_trans {a b c:Mem} (h:Mem.le a b) (k:Mem.le b c):Mem.le a c:=fun x v hx=>k x v (h x v hx)
theorem Rep.mono {m m':Mem} (hm:Mem.le m m') {v:Value} {l:L} (h:Rep m v l):Rep m' v l:=by
 induction h with
 | int k n=>exact .int k n
 | bool b=>exact .bool b
 | str s=>exact .str s
 | nil sz=>exact .nil sz
 | slNil sz=>exact .slNil sz
 | sl ad len cap sz xs vals hlen hc hsz h1 _ ih=>exact .sl ad len cap sz xs vals hlen hc hsz (fun i j u hu=>hm _ _ (h1 i j u hu)) ih
 | clo f caps vs vals hl h1 _ ih=>exact .clo f caps vs vals hl h1 ih
 | fz ad ls vals h1 _ ih=>exact .fz ad ls vals (fun j u hu=>hm _ _ (h1 j u hu)) ih
 | any v h=>exact .any v h
 | nilp=>exact .nilp
 | raw v h=>exact .raw v h
theorem Rep.oneCell {m:Mem} {v:Value} {l:L} (h:Rep m v l):v.oneCell'=true:=by
 cases h<;>first|rfl|assumption
def FRep (m:Mem) (ad:Addr) (ls:List L):Prop:=∀(j:Nat) (u:L),ls[j]?=some u→∃v,m (ad.add j)=some v∧Rep m v u
theorem FRep.mono {m m':Mem} (hm:Mem.le m m') {ad:Addr} {ls:List L} (h:FRep m ad ls):FRep m' ad ls :=
 fun j u hu=>let ⟨v,h1,h2⟩:=h j u hu;⟨v,hm _ _ h1,h2.mono hm⟩
theorem FRep.rep {m:Mem} {ad:Addr} {ls:List L} (h:FRep m ad ls):Rep m (.pointer (some ad)) (.fz ls):=by
 refine .fz ad ls (fun j=>(m (ad.add j)).getD default) (fun j u hu=>?_) (fun j u hu=>?_)
 ·obtain ⟨v,h1,_⟩:=h j u hu
  rw [h1];rfl
 ·obtain ⟨v,h1,h2⟩:=h j u hu
  rw [h1];exact h2
theorem Rep.frep {m:Mem} {v:Value} {ls:List L} (h:Rep m v (.fz ls)):∃ad,v=.pointer (some ad)∧FRep m ad ls:=by
 cases h with
 | fz ad _ vals h1 h2=>exact ⟨ad,rfl,fun j u hu=>⟨_,h1 j u hu,h2 j u hu⟩⟩
inductive CRep (m:Mem) (w:World):(Nat→Prop)→Value→L→Prop
 | fr {F:Nat→Prop} {v:Value} {l:L} (h:Rep m v l):CRep m w F v l
 | ownNil {F:Nat→Prop} (sz:Nat):CRep m w F (.slice none 0 0) (.own sz [])
 | own {F:Nat→Prop} (b n cap sz:Nat) (xs:List (List L)) (cs:Array Value) (e:TypeId) (vals:Nat→Nat→Value) (G:Nat→Nat→Nat→Prop)
   (hb:F b) (hh:w.heap[b]?=some (.cells cs e (0,0))) (hn:n=xs.length) (hcap:n≤cap) (hcm:cap≤maxLen) (hcs:cs.size=cap * sz) (hsz:∀x∈xs,x.length=sz)
   (hG:∀i j k,G i j k→F k∧k≠b) (hD:∀i j i' j' k,G i j k→G i' j' k→i=i'∧j=j')
   (hv:∀i j u,cellOf xs i j=some u→cs[i * sz+j]?=some (vals i j)) (hc:∀i j u,cellOf xs i j=some u→CRep m w (G i j) (vals i j) u)
   (hone:∀(q:Nat) (v:Value),cs[q]?=some v→v.oneCell'=true) :
   CRep m w F (.slice (some ⟨b,0,none⟩) n cap) (.own sz xs)
theorem CRep.keep {m m':Mem} {w w':World} (hm:Mem.le m m') {F:Nat→Prop} {v:Value} {l:L} (h:CRep m w F v l) (hw:∀k,F k→w'.heap[k]?=w.heap[k]?):CRep m' w' F v l:=by
 induction h with
 | fr h=>exact .fr (h.mono hm)
 | ownNil sz=>exact .ownNil sz
 | own b n cap sz xs cs e vals G hb hh hn hcap hcm hcs hsz hG hD hv _ hone ih =>
  exact .own b n cap sz xs cs e vals G hb ((hw b hb).trans hh) hn hcap hcm hcs hsz hG hD hv (fun i j u hu=>ih i j u hu fun k hk=>hw k (hG i j k hk).1) hone
theorem CRep.sub {m:Mem} {w:World} {F F':Nat→Prop} {v:Value} {l:L} (h:CRep m w F v l) (hF:∀k,F k→F' k):CRep m w F' v l:=by
 cases h with
 | fr h=>exact .fr h
 | ownNil sz=>exact .ownNil sz
 | own b n cap sz xs cs e vals G hb hh hn hcap hcm hcs hsz hG hD hv hc hone=>exact .own b n cap sz xs cs e vals G (hF b hb) hh hn hcap hcm hcs hsz (fun i j k h=>⟨hF k (hG i j k h).1,(hG i j k h).2⟩) hD hv hc hone
theorem CRep.oneCell {m:Mem} {w:World} {F:Nat→Prop} {v:Value} {l:L} (h:CRep m w F v l):v.oneCell'=true:=by
 cases h with
 | fr h=>exact h.oneCell
 | ownNil sz=>rfl
 | own=>rfl
def L.frzN:Nat→L→L
 | 0,.own _ _=>.any
 | n+1,.own sz xs=>.sl sz (xs.map fun x=>x.map (L.frzN n))
 | _,.ptr _ _=>.any
 | _,.eptr _ _ _=>.any
 | _,.ref _ _ _=>.any
 | _,.byt _ _=>.any
 | _,l=>l
noncomputable def frzMem (m:Mem) (w:World) (F:Nat→Prop):Mem:=by
 classical exact fun x=>if F x.block then w.cell? x else m x
theorem frzMem_in {m:Mem} {w:World} {F:Nat→Prop} {x:Addr} (h:F x.block):frzMem m w F x=w.cell? x:=by
 unfold frzMem;rw [if_pos h]
theorem frzMem_out {m:Mem} {w:World} {F:Nat→Prop} {x:Addr} (h:¬ F x.block):frzMem m w F x=m x:=by
 unfold frzMem;rw [if_neg h]
theorem frzMem_le {m:Mem} {w:World} {F:Nat→Prop} (hF:∀x v,m x=some v→¬ F x.block):Mem.le m (frzMem m w F):=fun x v h=>by
 rw [frzMem_out (hF x v h)];exact h
theorem frzMem_ok {m:Mem} {w:World} {F:Nat→Prop} (hok:∀x v,m x=some v→w.cell? x=some v):∀x v,frzMem m w F x=some v→w.cell? x=some v:=fun x v h=>by
 by_cases hx:F x.block
 ·rwa [frzMem_in hx] at h
 ·rw [frzMem_out hx] at h;exact hok x v h
theorem cellOf_map (xs:List (List L)) (f:L→L) (i j:Nat) (u:L) (h:cellOf (xs.map fun x=>x.map f) i j=some u):∃u',cellOf xs i j=some u'∧u=f u':=by
 unfold cellOf at h ⊢
 rw [List.getElem?_map] at h
 cases hx:xs[i]? with
 | none=>rw [hx] at h;simp at h
 | some x =>
  rw [hx] at h
  simp only [Option.map_some,Option.bind_some,List.getElem?_map,Option.map_eq_some_iff] at h
  obtain ⟨u',h1,h2⟩:=h
  exact ⟨u',by simpa using h1,h2.symm⟩
theorem Rep.frz {m:Mem} {v:Value} {l:L} (h:Rep m v l) (n:Nat):Rep m v (l.frzN n):=by
 cases l with
 | own=>cases h
 | ptr=>cases h
 | eptr=>cases h
 | ref=>cases h
 | byt=>cases h
 | _=>cases n<;>exact h
theorem cell_row {w:World} {b:Nat} {cs:Array Value} {e:TypeId} {fr:Nat×Nat} (h:w.heap[b]?=some (.cells cs e fr)) (k:Nat):w.cell? ((⟨b,0,none⟩:Addr).add k)=cs[k]?:=by
 rw [Addr.add_lit]
 simp [World.cell?,h]
theorem block_add (x:Addr) (n:Nat):(x.add n).block=x.block:=by unfold Addr.add;split<;>rfl
theorem CRep.frz {m m':Mem} {w:World} {F:Nat→Prop} {v:Value} {l:L} (h:CRep m w F v l) (hm:Mem.le m m') (hF:∀x:Addr,F x.block→m' x=w.cell? x):∀n,Rep m' v (l.frzN n):=by
 induction h with
 | fr h=>exact (h.mono hm).frz
 | ownNil sz =>
  intro n
  cases n with
  | zero=>exact .any _ rfl
  | succ n=>exact .slNil sz
 | own b n cap sz xs cs e vals G hb hh hn hcap hcm hcs hsz hG hD hv _ hone ih =>
  intro d
  cases d with
  | zero=>exact .any _ rfl
  | succ d =>
   refine .sl ⟨b,0,none⟩ n cap sz _ vals (by simpa using hn) hcap (fun x hx=>?_) (fun i j u hu=>?_) (fun i j u hu=>?_)
   ·obtain ⟨y,hy,rfl⟩:=List.mem_map.1 hx
    simpa using hsz y hy
   ·obtain ⟨u',hu',_⟩:=cellOf_map xs (L.frzN d) i j u hu
    rw [hF _ (by rw [block_add];exact hb),cell_row hh]
    exact hv i j u' hu'
   ·obtain ⟨u',hu',rfl⟩:=cellOf_map xs (L.frzN d) i j u hu
    exact ih i j u' hu' (fun x hx=>hF x (hG i j _ hx).1) d
structure RowI where
 blk:Option Nat
 cap:Nat
 sz:Nat
structure Wh where
 box:Nat→Nat
 row:Nat→RowI
 /-- What a box (false), a row (true) owns. -/
 f:Bool→Nat→Nat→Prop
def PRep (ω:Wh) (v:Value):L→Prop
 | .ptr id o=>v=.pointer (some ⟨ω.box id,o,none⟩)
 | .eptr id i o=>∃b,(ω.row id).blk=some b∧v=.pointer (some ⟨b,i * (ω.row id).sz+o,none⟩)
 | _=>False
def RefAt (r:RowI) (lo n:Nat) (v:Value):Prop :=
 (r.blk=none∧lo=0∧n=0∧v=.slice none 0 0)∨∃b ad,r.blk=some b∧lo+n≤r.cap∧v=.slice (some ad) n (r.cap - lo)∧(lo<r.cap∨lo=0→ad=⟨b,lo * r.sz,none⟩)
def ERep (m:Mem) (ω:Wh) (v:Value):L→Prop
 | .ptr id o=>PRep ω v (.ptr id o)
 | .eptr id i o=>PRep ω v (.eptr id i o)
 | .ref id lo n=>RefAt (ω.row id) lo n v
 | .clo f caps=>∃vs:List Value,v=.func (.func f) #[] vs.toArray∧vs.length=caps.length∧∀(i:Nat) (u:L),caps[i]?=some u→∃x,vs[i]?=some x∧(Rep m x u∨PRep ω x u)
 | l=>Rep m v l
inductive V where
 | one (l:L)
 | agg (ls:List L)
 deriving Inhabited
inductive A where
 | v (x:V)
 | tup (xs:List V)
 deriving Inhabited
def VRep (m:Mem) (ω:Wh) (v:Value):V→Prop
 | .one l=>ERep m ω v l
 | .agg ls=>∃cs:Array Value,v=.agg cs∧cs.size=ls.length∧∀(j:Nat) (l:L),ls[j]?=some l→∃u,cs[j]?=some u∧ERep m ω u l
def ARep (m:Mem) (ω:Wh) (v:Value):A→Prop
 | .v x=>VRep m ω v x
 | .tup xs=>∃vs:Array Value,v=.tuple vs∧vs.size=xs.length∧∀(j:Nat) (x:V),xs[j]?=some x→∃u,vs[j]?=some u∧VRep m ω u x
def ByT (w:World) (G:Nat→Prop) (v:Value) (t:TypeId) (l:List UInt8):Prop :=
 (l=[]∧v=.slice none 0 0)∨∃g cap cur,G g∧v=.slice (some ⟨g,0,none⟩) l.length cap∧w.heap[g]?=some (.cells cur t (0,0))∧l.length≤cap∧cap≤maxLen∧cur.size=cap∧cur.toList.take l.length=l.map fun b=>Value.int .u8 b.toNat
theorem ByT.keep {w w':World} {G:Nat→Prop} {v:Value} {t:TypeId} {l:List UInt8} (h:ByT w G v t l) (hw:∀k,G k→w'.heap[k]?=w.heap[k]?):ByT w' G v t l :=
 h.imp (fun h=>h) fun ⟨g,cap,cur,h1,h2,h3,h4⟩=>⟨g,cap,cur,h1,h2,(hw g h1).trans h3,h4⟩
theorem ByT.oneCell {w:World} {G:Nat→Prop} {v:Value} {t:TypeId} {l:List UInt8} (h:ByT w G v t l):v.oneCell'=true:=by
 rcases h with ⟨_,rfl⟩|⟨g,cap,cur,_,rfl,_⟩<;>rfl
def XRep (m:Mem) (w:World) (ω:Wh) (G:Nat→Prop) (v:Value):L→Prop
 | .own sz xs=>CRep m w G v (.own sz xs)
 | .byt t l=>ByT w G v t l
 | l=>ERep m ω v l
theorem PRep.oneCell {ω:Wh} {v:Value} {l:L} (h:PRep ω v l):v.oneCell'=true:=by
 cases l<;>simp only [PRep] at h
 ·rw [h];rfl
 ·obtain ⟨b,_,h⟩:=h;rw [h];rfl
theorem ERep.oneCell {m:Mem} {ω:Wh} {v:Value} {l:L} (h:ERep m ω v l):v.oneCell'=true:=by
 cases l with
 | ptr id o=>exact PRep.oneCell (l:=.ptr id o) h
 | eptr id i o=>exact PRep.oneCell (l:=.eptr id i o) h
 | ref id lo n =>
  rcases h with ⟨_,_,_,h⟩|⟨b,ad,_,_,h,_⟩<;>rw [h]<;>rfl
 | clo f caps=>obtain ⟨vs,h,_⟩:=h;rw [h];rfl
 | _=>exact Rep.oneCell (m:=m) h
theorem XRep.cases {m:Mem} {w:World} {ω:Wh} {G:Nat→Prop} {v:Value} {l:L} (h:XRep m w ω G v l):(∃sz xs,l=.own sz xs∧CRep m w G v l)∨((∀sz xs,l≠.own sz xs)∧ERep m ω v l)∨∃t q,l=.byt t q∧ByT w G v t q:=by
 cases l with
 | own sz xs=>exact .inl ⟨sz,xs,rfl,h⟩
 | byt t q=>exact .inr (.inr ⟨t,q,rfl,h⟩)
 | _=>exact .inr (.inl ⟨fun _ _ e=>(by cases e),h⟩)
theorem XRep.oneCell {m:Mem} {w:World} {ω:Wh} {G:Nat→Prop} {v:Value} {l:L} (h:XRep m w ω G v l):v.oneCell'=true:=by
 rcases h.cases with ⟨_,_,_,h⟩|⟨_,h⟩|⟨_,_,_,h⟩
 ·exact h.oneCell
 ·exact h.oneCell
 ·exact h.oneCell
theorem Rep.erep {m:Mem} {ω:Wh} {v:Value} {l:L} (h:Rep m v l):ERep m ω v l:=by
 cases l with
 | ptr=>cases h
 | eptr=>cases h
 | ref=>cases h
 | clo f caps =>
  cases h with
  | clo _ _ vs vals hl hm hr=>exact ⟨vs,rfl,hl,fun i u hu=>⟨_,hm i u hu,.inl (hr i u hu)⟩⟩
 | _=>exact h
theorem ERep.xrep {m:Mem} {w:World} {ω:Wh} {G:Nat→Prop} {v:Value} {l:L} (h:ERep m ω v l):XRep m w ω G v l:=by
 cases l with
 | own=>cases h
 | byt=>cases h
 | _=>exact h
def L.peek:L→L
 | .own _ _=>.any
 | .byt _ _=>.any
 | l=>l
theorem XRep.peek {m:Mem} {w:World} {ω:Wh} {G:Nat→Prop} {v:Value} {l:L} (h:XRep m w ω G v l):ERep m ω v l.peek:=by
 cases l with
 | own sz xs=>exact Rep.any v (CRep.oneCell (l:=.own sz xs) h)
 | byt t q=>exact Rep.any v (ByT.oneCell (t:=t) (l:=q) h)
 | _=>exact h
theorem ERep.mono {m m':Mem} {ω:Wh} (hm:Mem.le m m') {v:Value} {l:L} (h:ERep m ω v l):ERep m' ω v l:=by
 cases l with
 | ptr=>exact h
 | eptr=>exact h
 | ref=>exact h
 | clo f caps =>
  obtain ⟨vs,h1,h2,h3⟩:=h
  exact ⟨vs,h1,h2,fun i u hu=>let ⟨x,h4,h5⟩:=h3 i u hu;⟨x,h4,h5.imp (·.mono hm) id⟩⟩
 | _=>exact Rep.mono (m:=m) hm h
theorem VRep.mono {m m':Mem} {ω:Wh} {v:Value} {x:V} (hm:Mem.le m m') (h:VRep m ω v x):VRep m' ω v x:=by
 cases x with
 | one l=>exact ERep.mono hm h
 | agg ls=>obtain ⟨cs,h1,h2,h3⟩:=h;exact ⟨cs,h1,h2,fun j l hl=>let ⟨u,h4,h5⟩:=h3 j l hl;⟨u,h4,h5.mono hm⟩⟩
theorem ARep.mono {m m':Mem} {ω:Wh} {v:Value} {x:A} (hm:Mem.le m m') (h:ARep m ω v x):ARep m' ω v x:=by
 cases x with
 | v x=>exact VRep.mono hm h
 | tup xs=>obtain ⟨vs,h1,h2,h3⟩:=h;exact ⟨vs,h1,h2,fun j x hx=>let ⟨u,h4,h5⟩:=h3 j x hx;⟨u,h4,h5.mono hm⟩⟩
theorem XRep.keep {m m':Mem} {w w':World} {ω:Wh} {G:Nat→Prop} (hm:Mem.le m m') {v:Value} {l:L} (h:XRep m w ω G v l) (hw:∀k,G k→w'.heap[k]?=w.heap[k]?):XRep m' w' ω G v l:=by
 cases l with
 | own sz xs=>exact CRep.keep (l:=.own sz xs) hm h hw
 | byt t q=>exact ByT.keep (t:=t) (l:=q) h hw
 | int k n=>exact ERep.mono (ω:=ω) (l:=.int k n) hm h
 | bool b=>exact ERep.mono (ω:=ω) (l:=.bool b) hm h
 | str b=>exact ERep.mono (ω:=ω) (l:=.str b) hm h
 | sl sz xs=>exact ERep.mono (ω:=ω) (l:=.sl sz xs) hm h
 | nil sz=>exact ERep.mono (ω:=ω) (l:=.nil sz) hm h
 | clo f c=>exact ERep.mono (ω:=ω) (l:=.clo f c) hm h
 | fz ls=>exact ERep.mono (ω:=ω) (l:=.fz ls) hm h
 | ptr id o=>exact ERep.mono (ω:=ω) (l:=.ptr id o) hm h
 | eptr id i o=>exact ERep.mono (ω:=ω) (l:=.eptr id i o) hm h
 | ref id lo n=>exact ERep.mono (ω:=ω) (l:=.ref id lo n) hm h
 | any=>exact ERep.mono (ω:=ω) (l:=.any) hm h
 | nilp=>exact ERep.mono (ω:=ω) (l:=.nilp) hm h
 | raw v=>exact ERep.mono (ω:=ω) (l:=.raw v) hm h
def V.map (g:L→L):V→V
 | .one l=>.one (g l)
 | .agg ls=>.agg (ls.map g)
def A.map (g:L→L):A→A
 | .v x=>.v (x.map g)
 | .tup xs=>.tup (xs.map (V.map g))
theorem VRep.map {m m':Mem} {ω ω':Wh} {g:L→L} (hg:∀v l,ERep m ω v l→ERep m' ω' v (g l)) {v:Value} {x:V} (h:VRep m ω v x):VRep m' ω' v (x.map g):=by
 cases x with
 | one l=>exact hg _ _ h
 | agg ls =>
  obtain ⟨cs,h1,h2,h3⟩:=h
  refine ⟨cs,h1,by simpa using h2,fun j l hl=>?_⟩
  simp only [List.getElem?_map,Option.map_eq_some_iff] at hl
  obtain ⟨l0,h4,rfl⟩:=hl
  obtain ⟨u,h5,h6⟩:=h3 j l0 h4
  exact ⟨u,h5,hg _ _ h6⟩
theorem ARep.map {m m':Mem} {ω ω':Wh} {g:L→L} (hg:∀v l,ERep m ω v l→ERep m' ω' v (g l)) {v:Value} {x:A} (h:ARep m ω v x):ARep m' ω' v (x.map g):=by
 cases x with
 | v x=>exact VRep.map hg h
 | tup xs =>
  obtain ⟨vs,h1,h2,h3⟩:=h
  refine ⟨vs,h1,by simpa using h2,fun j x hx=>?_⟩
  simp only [List.getElem?_map,Option.map_eq_some_iff] at hx
  obtain ⟨x0,h4,rfl⟩:=hx
  obtain ⟨u,h5,h6⟩:=h3 j x0 h4
  exact ⟨u,h5,h6.map hg⟩
def upd {α:Type} (f:Nat→α) (i:Nat) (x:α):Nat→α:=fun j=>if j=i then x else f j
def look {α:Type}:List (Nat×α)→Nat→Option α
 | [],_=>none
 | (t,x)::e,i=>if t=i then some x else look e i
theorem look_map {α β:Type} (f:α→β):∀(e:List (Nat×α)) (i:Nat),look (e.map fun p=>(p.1,f p.2)) i=(look e i).map f
 | [],_=>rfl
 | (t,x)::e,i=>by
  simp only [List.map_cons,look]
  split
  ·rfl
  ·exact look_map f e i
def del {α:Type} (i:Nat):List (Nat×α)→List (Nat×α)
 | []=>[]
 | (t,x)::e=>if t=i then del i e else (t,x)::del i e
theorem look_del {α:Type} (i:Nat):∀(e:List (Nat×α)) (j:Nat),look (del i e) j=if j=i then none else look e j
 | [],j=>by simp [del,look]
 | (t,x)::e,j=>by
  simp only [del]
  by_cases ht:t=i
  ·rw [if_pos ht,look_del i e j]
   by_cases hj:j=i
   ·simp [hj]
   ·rw [if_neg hj,if_neg hj,look,if_neg (by omega)]
  ·rw [if_neg ht,look,look_del i e j,look]
   by_cases hj:j=i
   ·rw [if_pos hj,if_pos hj,if_neg (by omega)]
   ·rw [if_neg hj,if_neg hj]
def sput {α:Type} (i:Nat) (x:α) (e:List (Nat×α)):List (Nat×α):=(i,x)::del i e
theorem look_sput {α:Type} (i:Nat) (x:α) (e:List (Nat×α)) (j:Nat):look (sput i x e) j=if j=i then some x else look e j:=by
 simp only [sput,look]
 by_cases h:i=j
 ·rw [if_pos h,if_pos h.symm]
 ·rw [if_neg h,if_neg (fun e=>h e.symm),look_del,if_neg (fun e=>h e.symm)]
structure RowC where
 sz:Nat
 xs:List (List L)
 ov:List (Nat×Nat×L)
def ovGet:List (Nat×Nat×L)→Nat→Nat→Option L
 | [],_,_=>none
 | (a,b,l)::r,i,j=>if a=i∧b=j then some l else ovGet r i j
theorem ovGet_map (g:L→L):∀(o:List (Nat×Nat×L)) (i j:Nat),ovGet (o.map fun p=>(p.1,p.2.1,g p.2.2)) i j=(ovGet o i j).map g
 | [],_,_=>rfl
 | (a,b,l)::r,i,j=>by
  simp only [List.map_cons,ovGet]
  split
  ·rfl
  ·exact ovGet_map g r i j
structure St where
 n:Nat
 env:List (Nat×A)
 box:List (Nat×List L)
 row:List (Nat×RowC)
def St.put (s:St) (d:Nat) (x:A):St:={s with env:=(d,x)::s.env}
def St.del (s:St) (d:Nat):St:=s.put d (.tup [])
def RowC.map (g:L→L) (r:RowC):RowC:={r with ov:=r.ov.map fun p=>(p.1,p.2.1,g p.2.2)}
def St.map (g:L→L) (s:St):St :=
 {s with env:=s.env.map fun p=>(p.1,p.2.map g),box:=s.box.map fun p=>(p.1,p.2.map g),row:=s.row.map fun p=>(p.1,p.2.map g)}
def St.live (s:St):Bool→Nat→Prop
 | false,id=>(look s.box id).isSome
 | true,id=>(look s.row id).isSome
def BoxRep (m:Mem) (w:World) (ω:Wh) (id:Nat) (ls:List L):Prop :=
 ∃cs e,w.heap[ω.box id]?=some (.cells cs e (0,0))∧cs.size=ls.length∧ω.f false id (ω.box id)∧∃G:Nat→Nat→Prop,(∀j k,G j k→ω.f false id k∧k≠ω.box id)∧(∀j j' k,G j k→G j' k→j=j') ∧
  ∀(j:Nat) (l:L),ls[j]?=some l→∃v,cs[j]?=some v∧XRep m w ω (G j) v l
def RCell (m:Mem) (w:World) (ω:Wh) (G:Nat→Prop) (v:Value) (u:L):Option L→Prop
 | some l=>ERep m ω v l
 | none=>CRep m w G v u
def CapOk (cap:Nat) (cs:Array Value) (r:RowC):Prop :=
 cap≤maxLen∧(∀l,ovGet r.ov r.xs.length 0=some l→cap=r.xs.length)∧∀(q:Nat) (v:Value),cs[q]?=some v→v.oneCell'=true
def RowRepG (m:Mem) (w:World) (ω:Wh) (ri:RowI) (F:Nat→Prop) (r:RowC):Prop :=
 ri.sz=r.sz∧(∀x∈r.xs,x.length=r.sz)∧match ri.blk with
  | none=>r.xs=[]∧ri.cap=0
  | some b=>∃cs e,w.heap[b]?=some (.cells cs e (0,0))∧cs.size=ri.cap * r.sz∧r.xs.length≤ri.cap∧CapOk ri.cap cs r∧F b ∧
   ∃G:Nat→Nat→Nat→Prop,(∀i j k,G i j k→F k∧k≠b)∧(∀i j i' j' k,G i j k→G i' j' k→i=i'∧j=j') ∧
    ∀i j u,cellOf r.xs i j=some u→∃v,cs[i * r.sz+j]?=some v∧RCell m w ω (G i j) v u (ovGet r.ov i j)
def RowRep (m:Mem) (w:World) (ω:Wh) (id:Nat) (r:RowC):Prop:=RowRepG m w ω (ω.row id) (ω.f true id) r
structure Keeps (F:Nat→Prop) (w w':World):Prop where
 os:w'.os=w.os
 tape:w'.tape=w.tape
 output:w'.output=w.output
 size:w.heap.size≤w'.heap.size
 block:∀k,k<w.heap.size→¬ F k→w'.heap[k]?=w.heap[k]?
structure Home where
 own:Nat→Prop
 box:Nat→Option Nat
 row:Nat→Option RowI
instance:CoeFun Home (fun _=>Nat→Prop):=⟨Home.own⟩
structure HomeOk (F0:Home) (s:St) (ω:Wh):Prop where
 big:∀id,(F0.box id).isSome∨(F0.row id).isSome→s.n≤id∧1000≤id∧id<2000
 box:∀id b,F0.box id=some b→(look s.box id).isSome→ω.box id=b
 row:∀id b,F0.row id=some b→(look s.row id).isSome→ω.row id=b
structure LaidW (P:Program) (w:World):Prop where
 pow:(P.globalNamed "internal/strconv.uint64pow10").isSome→w.var? P "internal/strconv.uint64pow10"=some ((List.range 20).map fun i=>Value.int .u64 ((10 ^ i:Nat):Int)).toArray
 syn:(P.globalNamed "strconv.ErrSyntax").isSome→∃tp p,w.var? P "strconv.ErrSyntax"=some #[.iface tp p]
 rng:(P.globalNamed "strconv.ErrRange").isSome→∃tp p,w.var? P "strconv.ErrRange"=some #[.iface tp p]
def GoodC (P:Program) (w:World) (F:Nat→Prop):Prop:=∀w',Keeps F w w'→LaidW P w'
structure CI (P:Program) (w0:World) (m0:Mem) (F0:Home) (s:St) (a:Act) (w:World) (m:Mem) (ω:Wh):Prop where
 size:a.tmps.size=s.n
 defers:a.defers=[]
 keeps:Keeps F0.own w0 w
 mle:Mem.le m0 m
 mold:∀x:Addr,x.block<w0.heap.size→¬ F0 x.block→m x=m0 x
 ok:∀x v,m x=some v→w.cell? x=some v
 env:∀t x,look s.env t=some x→ARep m ω (a.tmps.getD t undef) x
 box:∀id ls,look s.box id=some ls→BoxRep m w ω id ls
 row:∀id r,look s.row id=some r→RowRep m w ω id r
 fresh:∀κ id,s.live κ id→∀k,ω.f κ id k→k<w.heap.size∧(w0.heap.size≤k∨F0 k)∧∀x v,m x=some v→x.block≠k
 apart:∀κ id κ' id',s.live κ id→s.live κ' id'→∀k,ω.f κ id k→ω.f κ' id' k→κ=κ'∧id=id'
 home:HomeOk F0 s ω
 good:GoodC P w0 F0.own
def Conc (P:Program) (w0:World) (m0:Mem) (F0:Home) (s:St) (a:Act) (w:World):Prop:=∃m ω,CI P w0 m0 F0 s a w m ω
end Go.Bw
namespace Go.Bw
open Go.RowKit
section
variable {P:Program} {w0:World} {m0:Mem} {F0:Home} {s s':St} {a:Act} {w w':World} {m m':Mem} {ω ω':Wh}
theorem Keeps.refl (F:Nat→Prop) (w:World):Keeps F w w:=⟨rfl,rfl,rfl,Nat.le_refl _,fun _ _ _=>rfl⟩
theorem Keeps.below {F:Nat→Prop} (h:Keeps F w0 w) (hb:Below w.heap.size w w'):Keeps F w0 w' :=
 ⟨hb.os.trans h.os,hb.tape.trans h.tape,hb.output.trans h.output,Nat.le_trans h.size hb.size,fun k hk hF=>(hb.block k (Nat.lt_of_lt_of_le hk h.size)).trans (h.block k hk hF)⟩
theorem Keeps.grown {F:Nat→Prop} (h:Keeps F w0 w) {b:Nat} (hg:w.grownBy w' (some b)) (hb:w0.heap.size≤b∨F b):Keeps F w0 w' :=
 ⟨hg.os.trans h.os,hg.tape.trans h.tape,hg.output.trans h.output,Nat.le_trans h.size hg.size,fun k hk hF=>(hg.block k (Nat.lt_of_lt_of_le hk h.size) (fun e=>by
  injection e with e
  subst e
  rcases hb with hb|hb
  ·omega
  ·exact hF hb)).trans (h.block k hk hF)⟩
theorem m_lt (hok:∀x v,m x=some v→w.cell? x=some v) {x:Addr} (h:w.heap.size≤x.block):m x=none:=by
 cases hm:m x with
 | none=>rfl
 | some v=>exact absurd (World.block_lt_of_cell? w x (hok x v hm)) (by omega)
theorem BoxRep.keep {id:Nat} {ls:List L} (h:BoxRep m w ω id ls) (hm:Mem.le m m') (hw:∀k,ω.f false id k→w'.heap[k]?=w.heap[k]?):BoxRep m' w' ω id ls:=by
 obtain ⟨cs,e,h1,h2,h3,G,h4,h5,h6⟩:=h
 exact ⟨cs,e,(hw _ h3).trans h1,h2,h3,G,h4,h5,fun j l hj=>let ⟨v,h7,h8⟩:=h6 j l hj;⟨v,h7,h8.keep hm fun k hk=>hw k (h4 j k hk).1⟩⟩
theorem RCell.keep {G:Nat→Prop} {v:Value} {u:L} {o:Option L} (h:RCell m w ω G v u o) (hm:Mem.le m m') (hw:∀k,G k→w'.heap[k]?=w.heap[k]?):RCell m' w' ω G v u o:=by
 cases o with
 | none=>exact CRep.keep hm h hw
 | some l=>exact ERep.mono hm h
theorem RowRep.keep {id:Nat} {r:RowC} (h:RowRep m w ω id r) (hm:Mem.le m m') (hw:∀k,ω.f true id k→w'.heap[k]?=w.heap[k]?):RowRep m' w' ω id r:=by
 obtain ⟨h1,h2,h3⟩:=h
 refine ⟨h1,h2,?_⟩
 split at h3
 ·exact h3
 ·obtain ⟨cs,e,g1,g2,g3,g4,g5,G,g6,g7,g8⟩:=h3
  exact ⟨cs,e,(hw _ g5).trans g1,g2,g3,g4,g5,G,g6,g7,fun i j u hu=>let ⟨v,g9,g10⟩:=g8 i j u hu;⟨v,g9,g10.keep hm fun k hk=>hw k (g6 i j k hk).1⟩⟩
theorem CI.grow (h:CI P w0 m0 F0 s a w m ω) (hb:Below w.heap.size w w') (hm:Mem.le m m')
  (hmo:∀x:Addr,x.block<w.heap.size→m' x=m x) (hok:∀x v,m' x=some v→w'.cell? x=some v):CI P w0 m0 F0 s a w' m' ω where
 size:=h.size
 defers:=h.defers
 keeps:=h.keeps.below hb
 mle:=Mem.le_trans h.mle hm
 mold:=fun x hx hF=>(hmo x (Nat.lt_of_lt_of_le hx h.keeps.size)).trans (h.mold x hx hF)
 ok:=hok
 env:=fun t x hx=>(h.env t x hx).mono hm
 box:=fun id ls hl=>(h.box id ls hl).keep hm fun k hk=>hb.block k (h.fresh false id (by show (look s.box id).isSome;rw [hl];rfl) k hk).1
 row:=fun id r hl=>(h.row id r hl).keep hm fun k hk=>hb.block k (h.fresh true id (by show (look s.row id).isSome;rw [hl];rfl) k hk).1
 fresh:=fun κ id hl k hk=>by
  obtain ⟨h1,h2,h3⟩:=h.fresh κ id hl k hk
  refine ⟨Nat.lt_of_lt_of_le h1 hb.size,h2,fun x v hx he=>h3 x v ?_ he⟩
  rw [←hmo x (by omega)]
  exact hx
 apart:=h.apart
 home:=h.home
 good:=h.good
theorem CI.draw (h:CI P w0 m0 F0 s a w m ω):CI P w0 m0 F0 s a w.drew m ω :=
 h.grow ⟨rfl,rfl,rfl,Nat.le_refl _,fun _ _=>rfl⟩ (Mem.le_refl m) (fun _ _=>rfl) (fun x v hx=>h.ok x v hx)
theorem getD_set (a:Array Value) (d:Nat) (v:Value) (hd:d<a.size) (t:Nat):(a.setIfInBounds d v).getD t undef=if t=d then v else a.getD t undef:=by
 by_cases h:t=d
 ·subst h
  simp [Array.getD,hd]
 ·rw [if_neg h]
  simp only [Array.getD_eq_getD_getElem?]
  rw [Array.getElem?_setIfInBounds_ne (fun e=>h e.symm)]
theorem CI.put (h:CI P w0 m0 F0 s a w m ω) {d:Nat} {v:Value} {x:A} (hd:d<s.n) (hx:ARep m ω v x):CI P w0 m0 F0 (s.put d x) (a.put (some d) v) w m ω where
 size:=by simpa [Act.put,St.put] using h.size
 defers:=h.defers
 keeps:=h.keeps
 mle:=h.mle
 mold:=h.mold
 ok:=h.ok
 env:=fun t y hy=>by
  simp only [Act.put]
  rw [getD_set _ _ _ (by rw [h.size];exact hd)]
  simp only [St.put,look] at hy
  by_cases ht:d=t
  ·rw [if_pos ht] at hy
   injection hy with hy
   subst hy
   rw [if_pos ht.symm]
   exact hx
  ·rw [if_neg ht] at hy
   rw [if_neg (fun e=>ht e.symm)]
   exact h.env t y hy
 box:=h.box
 row:=h.row
 fresh:=fun κ id hl=>h.fresh κ id (by cases κ<;>exact hl)
 apart:=fun κ id κ' id' hl hl'=>h.apart κ id κ' id' (by cases κ<;>exact hl) (by cases κ'<;>exact hl')
 home:=⟨h.home.big,h.home.box,h.home.row⟩
 good:=h.good
theorem arep_undef {m:Mem} {ω:Wh}:ARep m ω undef (.tup []):=⟨#[],rfl,rfl,fun j x hx=>by simp at hx⟩
structure Remap (m m':Mem) (ω ω':Wh) (g:L→L):Prop where
 le:Mem.le m m'
 e:∀v l,ERep m ω v l→ERep m' ω' v (g l)
 own:∀sz xs,g (.own sz xs)=.own sz xs
 byt:∀t q,g (.byt t q)=.byt t q
theorem XRep.remap {g:L→L} (R:Remap m m' ω ω' g) {G:Nat→Prop} {v:Value} {l:L} (h:XRep m w ω G v l):XRep m' w ω' G v (g l):=by
 rcases h.cases with ⟨sz,xs,rfl,h⟩|⟨_,h⟩|⟨t,q,rfl,h⟩
 ·rw [R.own]
  exact CRep.keep R.le h fun _ _=>rfl
 ·exact (R.e _ _ h).xrep
 ·rw [R.byt]
  exact h
theorem BoxRep.remap {g:L→L} (R:Remap m m' ω ω' g) {id id':Nat} {ls:List L} (h:BoxRep m w ω id ls) (hb:ω'.box id'=ω.box id) (hf:ω'.f false id'=ω.f false id):BoxRep m' w ω' id' (ls.map g):=by
 obtain ⟨cs,e,h1,h2,h3,G,h4,h5,h6⟩:=h
 refine ⟨cs,e,by rw [hb];exact h1,by simpa using h2,by rw [hb,hf];exact h3,G,fun j k hk=>by rw [hb,hf];exact h4 j k hk,h5,fun j l hj=>?_⟩
 simp only [List.getElem?_map,Option.map_eq_some_iff] at hj
 obtain ⟨l0,hj,rfl⟩:=hj
 obtain ⟨v,h7,h8⟩:=h6 j l0 hj
 exact ⟨v,h7,h8.remap R⟩
theorem CapOk.map {cap:Nat} {cs:Array Value} {r:RowC} (g:L→L) (h:CapOk cap cs r):CapOk cap cs (r.map g):=by
 refine ⟨h.1,fun l hl=>?_,h.2.2⟩
 simp only [RowC.map] at hl ⊢
 rw [ovGet_map,Option.map_eq_some_iff] at hl
 obtain ⟨l0,hl,_⟩:=hl
 exact h.2.1 l0 hl
theorem RowRepG.remap {g:L→L} (R:Remap m m' ω ω' g) {ri:RowI} {F:Nat→Prop} {r:RowC} (h:RowRepG m w ω ri F r):RowRepG m' w ω' ri F (r.map g):=by
 obtain ⟨h1,h2,h3⟩:=h
 refine ⟨h1,h2,?_⟩
 split
 ·rename_i hq
  rw [hq] at h3
  exact h3
 ·rename_i b hq
  rw [hq] at h3
  obtain ⟨cs,e,g1,g2,g3,g4,g5,G,g6,g7,g8⟩:=h3
  refine ⟨cs,e,g1,g2,g3,g4.map g,g5,G,g6,g7,fun i j u hu=>?_⟩
  obtain ⟨v,g9,g10⟩:=g8 i j u hu
  refine ⟨v,g9,?_⟩
  simp only [RowC.map]
  rw [ovGet_map]
  cases hov:ovGet r.ov i j with
  | none=>rw [hov] at g10;exact CRep.keep R.le g10 fun _ _=>rfl
  | some l=>rw [hov] at g10;exact R.e _ _ g10
theorem RowRep.remap {g:L→L} (R:Remap m m' ω ω' g) {id id':Nat} {r:RowC} (h:RowRep m w ω id r) (hb:ω'.row id'=ω.row id) (hf:ω'.f true id'=ω.f true id):RowRep m' w ω' id' (r.map g):=by
 unfold RowRep
 rw [hb,hf]
 exact RowRepG.remap R h
theorem CI.remap (h:CI P w0 m0 F0 s a w m ω) {g:L→L} (R:Remap m m' ω ω' g) (hn:s'.n=s.n)
  (henv:∀t x,look s'.env t=some x→∃y,look s.env t=some y∧x=y.map g)
  (hbox:∀id ls,look s'.box id=some ls→∃ls0,look s.box id=some ls0∧ls=ls0.map g∧ω'.box id=ω.box id∧ω'.f false id=ω.f false id)
  (hrow:∀id r,look s'.row id=some r→∃r0,look s.row id=some r0∧r=r0.map g∧ω'.row id=ω.row id∧ω'.f true id=ω.f true id)
  (hok:∀x v,m' x=some v→w.cell? x=some v)
  (hm:∀x,m' x=m x∨((w0.heap.size≤x.block∨F0 x.block)∧∀κ id,s'.live κ id→¬ ω'.f κ id x.block)):CI P w0 m0 F0 s' a w m' ω':=by
 have hlive:∀κ id,s'.live κ id→s.live κ id∧ω'.f κ id=ω.f κ id:=by
  intro κ id hl
  cases κ with
  | false =>
   obtain ⟨ls,hls⟩:=Option.isSome_iff_exists.1 hl
   obtain ⟨ls0,h1,_,_,h2⟩:=hbox id ls hls
   exact ⟨by show (look s.box _).isSome;rw [h1];rfl,h2⟩
  | true =>
   obtain ⟨ls,hls⟩:=Option.isSome_iff_exists.1 hl
   obtain ⟨ls0,h1,_,_,h2⟩:=hrow id ls hls
   exact ⟨by show (look s.row _).isSome;rw [h1];rfl,h2⟩
 refine {size:=hn▸h.size,defers:=h.defers,keeps:=h.keeps,mle:=Mem.le_trans h.mle R.le,mold:=?_,ok:=hok,env:=?_,box:=?_,row:=?_,fresh:=?_,apart:=?_,home:=?_,good:=h.good}
 ·intro x hx hF
  rcases hm x with he|⟨he,_⟩
  ·rw [he];exact h.mold x hx hF
  ·rcases he with he|he
   ·omega
   ·exact absurd he hF
 ·intro t x hx
  obtain ⟨y,hy,rfl⟩:=henv t x hx
  exact (h.env t y hy).map R.e
 ·intro id ls hls
  obtain ⟨ls0,h1,rfl,h2,h3⟩:=hbox id ls hls
  exact (h.box _ _ h1).remap R h2 h3
 ·intro id r hr
  obtain ⟨r0,h1,rfl,h2,h3⟩:=hrow id r hr
  exact (h.row _ _ h1).remap R h2 h3
 ·intro κ id hl k hk
  obtain ⟨h1,h2⟩:=hlive κ id hl
  have hk':=hk
  rw [h2] at hk'
  obtain ⟨h3,h4,h5⟩:=h.fresh κ _ h1 k hk'
  refine ⟨h3,h4,fun x v hx he=>?_⟩
  rcases hm x with hmx|⟨_,hmx⟩
  ·exact h5 x v (by rw [←hmx];exact hx) he
  ·exact hmx κ id hl (by rw [he];exact hk)
 ·intro κ id κ' id' hl hl' k hk hk'
  obtain ⟨h1,h2⟩:=hlive κ id hl
  obtain ⟨h1',h2'⟩:=hlive κ' id' hl'
  rw [h2] at hk
  rw [h2'] at hk'
  exact h.apart _ _ _ _ h1 h1' k hk hk'
 ·refine ⟨fun id hid=>hn▸h.home.big id hid,fun id b hb hl=>?_,fun id b hb hl=>?_⟩
  ·obtain ⟨ls,hls⟩:=Option.isSome_iff_exists.1 hl
   obtain ⟨ls0,h1,_,h2,_⟩:=hbox id ls hls
   rw [h2]
   exact h.home.box id b hb (by rw [h1];rfl)
  ·obtain ⟨ls,hls⟩:=Option.isSome_iff_exists.1 hl
   obtain ⟨ls0,h1,_,h2,_⟩:=hrow id ls hls
   rw [h2]
   exact h.home.row id b hb (by rw [h1];rfl)
theorem CI.weaken (h : CI P w0 m0 F0 s a w m ω) (hn : s'.n = s.n) (he : ∀ t x, look s'.env t = some x → look s.env t = some x)
    (hb : ∀ i ls, look s'.box i = some ls → look s.box i = some ls) (hr : ∀ i r, look s'.row i = some r → look s.row i = some r) : CI P w0 m0 F0 s' a w m ω := by
  have hl : ∀ κ id, s'.live κ id → s.live κ id := by
    intro κ id hl
    cases κ with
    | false => obtain ⟨x, hx⟩ := Option.isSome_iff_exists.1 hl; show (look s.box id).isSome; rw [hb _ _ hx]; rfl
    | true => obtain ⟨x, hx⟩ := Option.isSome_iff_exists.1 hl; show (look s.row id).isSome; rw [hr _ _ hx]; rfl
  exact { size := hn ▸ h.size, defers := h.defers, keeps := h.keeps, mle := h.mle, mold := h.mold, ok := h.ok, env := fun t x hx => h.env t x (he t x hx), box := fun i ls hi => h.box i ls (hb i ls hi), row := fun i r hi => h.row i r (hr i r hi),
          fresh := fun κ id hx => h.fresh κ id (hl κ id hx), apart := fun κ id κ' id' hx hx' => h.apart κ id κ' id' (hl κ id hx) (hl κ' id' hx'),
          home := ⟨fun id hid => hn ▸ h.home.big id hid, fun id b hb hi => h.home.box id b hb (hl false id hi), fun id b hb hi => h.home.row id b hb (hl true id hi)⟩, good := h.good }

theorem CI.reF (h:CI P w0 m0 F0 s a w m ω) (f:Bool→Nat→Nat→Prop) (hf:∀κ id,s.live κ id→f κ id=ω.f κ id):CI P w0 m0 F0 s a w m {ω with f:=f}:=by
 have hE:∀v l,ERep m ω v l→ERep m {ω with f:=f} v l:=by
  intro v l hl
  cases l with
  | clo f' caps=>obtain ⟨vs,h1,h2,h3⟩:=hl;exact ⟨vs,h1,h2,fun i u hu=>let ⟨x,h4,h5⟩:=h3 i u hu;⟨x,h4,h5.imp id (fun hp=>by cases u<;>exact hp)⟩⟩
  | _=>exact hl
 have hid:∀x:A,x=x.map id:=by
  intro x
  cases x with
  | v x=>cases x<;>simp [A.map,V.map]
  | tup xs =>
   simp only [A.map]
   congr 1
   have:V.map id=id:=by funext x;cases x<;>simp [V.map]
   rw [this];simp
 refine h.remap (g:=id) ⟨Mem.le_refl m,hE,fun _ _=>rfl,fun _ _=>rfl⟩ rfl (fun t x hx=>⟨x,hx,hid x⟩) (fun i ls hi=>⟨ls,hi,by simp,rfl,hf false i (by show (look s.box i).isSome;rw [hi];rfl)⟩)
  (fun i r hi=>⟨r,hi,by cases r;simp [RowC.map],rfl,hf true i (by show (look s.row i).isSome;rw [hi];rfl)⟩) h.ok (fun x=>.inl rfl)
theorem CI.touch (h:CI P w0 m0 F0 s a w m ω) {b:Nat} (hg:w.grownBy w' (some b)) (hb:w0.heap.size≤b∨F0 b) (hno:∀κ id,s.live κ id→¬ ω.f κ id b) (hm:∀x v,m x=some v→x.block≠b):CI P w0 m0 F0 s a w' m ω where
 size:=h.size
 defers:=h.defers
 keeps:=h.keeps.grown hg hb
 mle:=h.mle
 mold:=h.mold
 ok:=fun x v hx=>hg.cell (h.ok x v hx) (fun e=>hm x v hx (by injection e))
 env:=h.env
 box:=fun id ls hl=>by
  have hlive:s.live false id:=by show (look s.box id).isSome;rw [hl];rfl
  exact (h.box id ls hl).keep (Mem.le_refl m) fun k hk=>hg.block k (h.fresh false id hlive k hk).1 (fun e=>by injection e with e;subst e;exact hno _ _ hlive hk)
 row:=fun id ls hl=>by
  have hlive:s.live true id:=by show (look s.row id).isSome;rw [hl];rfl
  exact (h.row id ls hl).keep (Mem.le_refl m) fun k hk=>hg.block k (h.fresh true id hlive k hk).1 (fun e=>by injection e with e;subst e;exact hno _ _ hlive hk)
 fresh:=fun κ id hl k hk=>by
  obtain ⟨h1,h2,h3⟩:=h.fresh κ id hl k hk
  exact ⟨Nat.lt_of_lt_of_le h1 hg.size,h2,h3⟩
 apart:=h.apart
 home:=h.home
 good:=h.good
theorem CI.addBox (h:CI P w0 m0 F0 s a w m ω) (id:Nat) (ls:List L) (hid:look s.box id=none) (hH:∀b,F0.box id=some b→ω.box id=b) (hB:BoxRep m w ω id ls)
  (hf:∀k,ω.f false id k→k<w.heap.size∧(w0.heap.size≤k∨F0 k)∧∀x v,m x=some v→x.block≠k) (hd:∀κ id',s.live κ id'→∀k,ω.f κ id' k→¬ ω.f false id k) :
  CI P w0 m0 F0 {s with box:=(id,ls)::s.box} a w m ω:=by
 have hlive:∀κ i,({s with box:=(id,ls)::s.box}:St).live κ i→(κ=false∧i=id)∨s.live κ i:=by
  intro κ i hl
  cases κ with
  | true=>exact .inr hl
  | false =>
   simp only [St.live,look] at hl
   by_cases hi:id=i
   ·exact .inl ⟨rfl,hi.symm⟩
   ·rw [if_neg hi] at hl;exact .inr hl
 refine {size:=h.size,defers:=h.defers,keeps:=h.keeps,mle:=h.mle,mold:=h.mold,ok:=h.ok,env:=h.env,box:=?_,row:=h.row,fresh:=?_,apart:=?_,home:=⟨h.home.big,fun i b hb hi=>?_,h.home.row⟩,good:=h.good}
 ·intro i ls' hl
  simp only [look] at hl
  by_cases hi:id=i
  ·rw [if_pos hi] at hl;injection hl with hl;subst hl;subst hi;exact hB
  ·rw [if_neg hi] at hl;exact h.box i ls' hl
 ·intro κ i hl k hk
  rcases hlive κ i hl with ⟨rfl,rfl⟩|hl
  ·exact hf k hk
  ·exact h.fresh κ i hl k hk
 ·intro κ i κ' i' hl hl' k hk hk'
  have g1:=hlive κ i hl
  have g2:=hlive κ' i' hl'
  clear hl hl'
  rcases g1 with ⟨rfl,rfl⟩|g1<;>rcases g2 with ⟨rfl,rfl⟩|g2
  ·exact ⟨rfl,rfl⟩
  ·exact absurd hk (hd _ _ g2 k hk')
  ·exact absurd hk' (hd _ _ g1 k hk)
  ·exact h.apart _ _ _ _ g1 g2 k hk hk'
 ·simp only [look] at hi
  by_cases hid':id=i
  ·subst hid';exact hH b hb
  ·rw [if_neg hid'] at hi;exact h.home.box i b hb hi
theorem CI.addRow (h:CI P w0 m0 F0 s a w m ω) (id:Nat) (r:RowC) (hid:look s.row id=none) (hH:∀b,F0.row id=some b→ω.row id=b) (hB:RowRep m w ω id r)
  (hf:∀k,ω.f true id k→k<w.heap.size∧(w0.heap.size≤k∨F0 k)∧∀x v,m x=some v→x.block≠k) (hd:∀κ id',s.live κ id'→∀k,ω.f κ id' k→¬ ω.f true id k) :
  CI P w0 m0 F0 {s with row:=(id,r)::s.row} a w m ω:=by
 have hlive:∀κ i,({s with row:=(id,r)::s.row}:St).live κ i→(κ=true∧i=id)∨s.live κ i:=by
  intro κ i hl
  cases κ with
  | false=>exact .inr hl
  | true =>
   simp only [St.live,look] at hl
   by_cases hi:id=i
   ·exact .inl ⟨rfl,hi.symm⟩
   ·rw [if_neg hi] at hl;exact .inr hl
 refine {size:=h.size,defers:=h.defers,keeps:=h.keeps,mle:=h.mle,mold:=h.mold,ok:=h.ok,env:=h.env,box:=h.box,row:=?_,fresh:=?_,apart:=?_,home:=⟨h.home.big,h.home.box,fun i b hb hi=>?_⟩,good:=h.good}
 ·intro i ls' hl
  simp only [look] at hl
  by_cases hi:id=i
  ·rw [if_pos hi] at hl;injection hl with hl;subst hl;subst hi;exact hB
  ·rw [if_neg hi] at hl;exact h.row i ls' hl
 ·intro κ i hl k hk
  rcases hlive κ i hl with ⟨rfl,rfl⟩|hl
  ·exact hf k hk
  ·exact h.fresh κ i hl k hk
 ·intro κ i κ' i' hl hl' k hk hk'
  have g1:=hlive κ i hl
  have g2:=hlive κ' i' hl'
  clear hl hl'
  rcases g1 with ⟨rfl,rfl⟩|g1<;>rcases g2 with ⟨rfl,rfl⟩|g2
  ·exact ⟨rfl,rfl⟩
  ·exact absurd hk (hd _ _ g2 k hk')
  ·exact absurd hk' (hd _ _ g1 k hk)
  ·exact h.apart _ _ _ _ g1 g2 k hk hk'
 ·simp only [look] at hi
  by_cases hid':id=i
  ·subst hid';exact hH b hb
  ·rw [if_neg hid'] at hi;exact h.home.row i b hb hi
def L.noPtr0 (id:Nat):L→L
 | .ptr i o=>if i=id then .any else .ptr i o
 | l=>l
def L.noPtr (id:Nat):L→L
 | .clo f caps=>.clo f (caps.map (L.noPtr0 id))
 | l=>l.noPtr0 id
def L.noRow0 (id:Nat):L→L
 | .eptr i k o=>if i=id then .any else .eptr i k o
 | .ref i lo n=>if i=id then .any else .ref i lo n
 | l=>l
def L.noRow (id:Nat):L→L
 | .clo f caps=>.clo f (caps.map (L.noRow0 id))
 | l=>l.noRow0 id
theorem noPtr_e {id:Nat} (hb:∀i,i≠id→ω'.box i=ω.box i) (hr:ω'.row=ω.row) {v:Value} {l:L} (h:ERep m ω v l):ERep m ω' v (l.noPtr id):=by
 have hP:∀x u,PRep ω x u→Rep m x (u.noPtr0 id)∨PRep ω' x (u.noPtr0 id):=by
  intro x u hu
  cases u with
  | ptr i o =>
   simp only [L.noPtr0]
   split
   ·exact .inl (.any _ hu.oneCell)
   ·rename_i hi
    refine .inr ?_
    show x=_
    rw [hb i hi]
    exact hu
  | eptr i k o=>exact .inr (by show ∃b,_;rw [hr];exact hu)
  | _=>cases hu
 have hR:∀x u,Rep m x u→Rep m x (u.noPtr0 id):=by
  intro x u hu
  cases u with
  | ptr=>cases hu
  | _=>exact hu
 cases l with
 | ptr i o =>
  rcases hP v (.ptr i o) h with h|h
  ·exact h.erep
  ·simp only [L.noPtr,L.noPtr0] at h ⊢
   by_cases hi:i=id
   ·rw [if_pos hi] at h;cases h
   ·rw [if_neg hi] at h ⊢;exact h
 | eptr i k o=>show ∃b,_;rw [hr];exact h
 | ref i lo n=>show RefAt (ω'.row i) lo n v;rw [hr];exact h
 | clo f caps =>
  obtain ⟨vs,h1,h2,h3⟩:=h
  refine ⟨vs,h1,by simpa using h2,fun i u hu=>?_⟩
  simp only [List.getElem?_map,Option.map_eq_some_iff] at hu
  obtain ⟨u0,hu,rfl⟩:=hu
  obtain ⟨x,h4,h5⟩:=h3 i u0 hu
  refine ⟨x,h4,?_⟩
  rcases h5 with h5|h5
  ·exact .inl (hR _ _ h5)
  ·exact hP _ _ h5
 | _=>exact h
theorem noRow_e {id:Nat} (hb:∀i,i≠id→ω'.row i=ω.row i) (hr:ω'.box=ω.box) {v:Value} {l:L} (h:ERep m ω v l):ERep m ω' v (l.noRow id):=by
 have hP:∀x u,PRep ω x u→Rep m x (u.noRow0 id)∨PRep ω' x (u.noRow0 id):=by
  intro x u hu
  cases u with
  | eptr i k o =>
   simp only [L.noRow0]
   split
   ·exact .inl (.any _ hu.oneCell)
   ·rename_i hi
    refine .inr ?_
    show ∃b,_
    rw [hb i hi]
    exact hu
  | ptr i o=>exact .inr (by show x=_;rw [hr];exact hu)
  | _=>cases hu
 have hR:∀x u,Rep m x u→Rep m x (u.noRow0 id):=by
  intro x u hu
  cases u with
  | eptr=>cases hu
  | ref=>cases hu
  | _=>exact hu
 cases l with
 | eptr i k o =>
  rcases hP v (.eptr i k o) h with h|h
  ·exact h.erep
  ·simp only [L.noRow,L.noRow0] at h ⊢
   by_cases hi:i=id
   ·rw [if_pos hi] at h;cases h
   ·rw [if_neg hi] at h ⊢;exact h
 | ptr i o=>show v=_;rw [hr];exact h
 | ref i lo n =>
  simp only [L.noRow,L.noRow0]
  split
  ·exact Rep.any v (ERep.oneCell (ω:=ω) (m:=m) (l:=.ref i lo n) h)
  ·rename_i hi
   show RefAt (ω'.row i) lo n v
   rw [hb i hi]
   exact h
 | clo f caps =>
  obtain ⟨vs,h1,h2,h3⟩:=h
  refine ⟨vs,h1,by simpa using h2,fun i u hu=>?_⟩
  simp only [List.getElem?_map,Option.map_eq_some_iff] at hu
  obtain ⟨u0,hu,rfl⟩:=hu
  obtain ⟨x,h4,h5⟩:=h3 i u0 hu
  refine ⟨x,h4,?_⟩
  rcases h5 with h5|h5
  ·exact .inl (hR _ _ h5)
  ·exact hP _ _ h5
 | _=>exact h
def St.noBox (s:St) (id:Nat):St:={s.map (L.noPtr id) with box:=(Bw.del id s.box).map fun p=>(p.1,p.2.map (L.noPtr id))}
def St.noRow (s:St) (id:Nat):St:={s.map (L.noRow id) with row:=(Bw.del id s.row).map fun p=>(p.1,p.2.map (L.noRow id))}
theorem map_look {α β:Type} {f:α→β} {e:List (Nat×α)} {t:Nat} {x:β} (h:look (e.map fun p=>(p.1,f p.2)) t=some x):∃y,look e t=some y∧x=f y:=by
 rw [look_map f] at h
 obtain ⟨y,h1,h2⟩:=Option.map_eq_some_iff.1 h
 exact ⟨y,h1,h2.symm⟩
theorem CI.noBox (h:CI P w0 m0 F0 s a w m ω) (id:Nat) (b:Nat) (f:Nat→Prop):CI P w0 m0 F0 (s.noBox id) a w m {box:=upd ω.box id b,row:=ω.row,f:=fun κ i=>if κ=false∧i=id then f else ω.f κ i}:=by
 have hdel:∀i ls,look ((Bw.del id s.box).map fun p=>(p.1,p.2.map (L.noPtr id))) i=some ls→i≠id∧∃ls0,look s.box i=some ls0∧ls=ls0.map (L.noPtr id):=by
  intro i ls hi
  obtain ⟨y,h1,h2⟩:=map_look hi
  rw [look_del] at h1
  split at h1
  ·cases h1
  ·rename_i hne;exact ⟨hne,y,h1,h2⟩
 refine h.remap (g:=L.noPtr id) ⟨Mem.le_refl m,fun v l hl=>(by refine noPtr_e (ω:=ω) (fun i hi=>?_) ?_ hl;simp [upd,hi];rfl),fun _ _=>rfl,fun _ _=>rfl⟩ rfl (fun t x hx=>map_look hx)
  (fun i ls hi=>?_) (fun i r hi=>?_) h.ok (fun x=>.inl rfl)
 ·obtain ⟨hne,ls0,h1,h2⟩:=hdel i ls hi
  exact ⟨ls0,h1,h2,by simp [upd,hne],by simp [hne]⟩
 ·obtain ⟨r0,h1,h2⟩:=map_look hi
  exact ⟨r0,h1,h2,rfl,by simp⟩
theorem CI.noRow (h:CI P w0 m0 F0 s a w m ω) (id:Nat) (b:RowI) (f:Nat→Prop):CI P w0 m0 F0 (s.noRow id) a w m {box:=ω.box,row:=upd ω.row id b,f:=fun κ i=>if κ=true∧i=id then f else ω.f κ i}:=by
 have hdel:∀i ls,look ((Bw.del id s.row).map fun p=>(p.1,p.2.map (L.noRow id))) i=some ls→i≠id∧∃ls0,look s.row i=some ls0∧ls=ls0.map (L.noRow id):=by
  intro i ls hi
  obtain ⟨y,h1,h2⟩:=map_look hi
  rw [look_del] at h1
  split at h1
  ·cases h1
  ·rename_i hne;exact ⟨hne,y,h1,h2⟩
 refine h.remap (g:=L.noRow id) ⟨Mem.le_refl m,fun v l hl=>(by refine noRow_e (ω:=ω) (fun i hi=>?_) ?_ hl;simp [upd,hi];rfl),fun _ _=>rfl,fun _ _=>rfl⟩ rfl (fun t x hx=>map_look hx)
  (fun i ls hi=>?_) (fun i r hi=>?_) h.ok (fun x=>.inl rfl)
 ·obtain ⟨r0,h1,h2⟩:=map_look hi
  exact ⟨r0,h1,h2,rfl,by simp⟩
 ·obtain ⟨hne,ls0,h1,h2⟩:=hdel i r hi
  exact ⟨ls0,h1,h2,by simp [upd,hne],by simp [hne]⟩
theorem noBox_none (s:St) (id:Nat):look (s.noBox id).box id=none:=by
 simp only [St.noBox]
 rw [look_map (List.map (L.noPtr id)),look_del,if_pos rfl]
 rfl
theorem noRow_none (s:St) (id:Nat):look (s.noRow id).row id=none:=by
 simp only [St.noRow]
 rw [look_map (RowC.map (L.noRow id)),look_del,if_pos rfl]
 rfl
def St.newBox0 (s:St) (id:Nat) (ls:List L):St:={s.noBox id with box:=(id,ls.map (L.noPtr id))::(s.noBox id).box}
theorem CI.newBox (h:CI P w0 m0 F0 s a w m ω) (id:Nat) (hid:id<s.n) (cs:Array Value) (e:TypeId) (ls:List L) (hs:cs.size=ls.length)
  (hr:∀(j:Nat) (l:L),ls[j]?=some l→∃v,cs[j]?=some v∧ERep m ω v l) :
  ∃ω',CI P w0 m0 F0 (s.newBox0 id ls) a (w.alloc (.cells cs e (0,0))) m ω'∧ω'.box id=w.heap.size:=by
 have hb:Below w.heap.size w (w.alloc (.cells cs e (0,0))):=(Below.refl _ w).alloc (Nat.le_refl _) _
 have hok:∀x v,m x=some v→(w.alloc (.cells cs e (0,0))).cell? x=some v:=fun x v hx=>by
  rw [World.cell?_alloc_lt w _ x (World.block_lt_of_cell? w x (h.ok x v hx))]
  exact h.ok x v hx
 have h1:=h.grow hb (Mem.le_refl m) (fun _ _=>rfl) hok
 have h2:=h1.noBox id w.heap.size (fun k=>k=w.heap.size)
 refine ⟨_,h2.addBox id (ls.map (L.noPtr id)) (noBox_none s id) (fun b hb=>by have:=(h.home.big id (.inl (by rw [hb];rfl))).1;omega) ?_ ?_ ?_,by simp [upd]⟩
 ·refine ⟨cs,e,?_,by simpa using hs,by simp [upd],fun _ _=>False,fun j k hk=>hk.elim,fun j j' k hk=>hk.elim,fun j l hj=>?_⟩
  ·simp only [upd,if_true];exact heap_alloc_new w _
  ·have hj':=hj
   simp only [List.getElem?_map,Option.map_eq_some_iff] at hj'
   obtain ⟨l0,hj',rfl⟩:=hj'
   obtain ⟨v,h3,h4⟩:=hr j l0 hj'
   refine ⟨v,h3,ERep.xrep ?_⟩
   refine noPtr_e (ω:=ω) (fun i hi=>?_) ?_ h4
   ·simp [upd,hi]
   ·rfl
 ·intro k hk
  simp only [true_and,if_true] at hk
  subst hk
  refine ⟨by show _<(w.heap.push _).size;simp,.inl h.keeps.size,fun x v hx he=>?_⟩
  rw [m_lt h.ok (by omega)] at hx
  cases hx
 ·intro κ id' hl k hk hk'
  simp only [true_and,if_true] at hk'
  subst hk'
  have hne:¬ (κ=false∧id'=id):=by
   rintro ⟨rfl,rfl⟩
   simp only [St.live] at hl
   rw [noBox_none] at hl
   cases hl
  simp only [if_neg hne] at hk
  have hl':s.live κ id':=by
   cases κ with
   | false =>
    simp only [St.live] at hl ⊢
    obtain ⟨x,hx⟩:=Option.isSome_iff_exists.1 hl
    obtain ⟨y,hy,_⟩:=map_look hx
    rw [look_del] at hy
    split at hy
    ·cases hy
    ·rw [hy];rfl
   | true =>
    simp only [St.live] at hl ⊢
    obtain ⟨x,hx⟩:=Option.isSome_iff_exists.1 hl
    obtain ⟨y,hy,_⟩:=map_look hx
    rw [hy];rfl
  have:=(h.fresh κ id' hl' _ hk).1
  omega
end
end Go.Bw
namespace Go.Bw
open Go.RowKit
structure TI where
 size:Nat
 bytes:Nat
 agg:Bool
 elem:Option TypeId
 fields:Option (List (Nat×TypeId))
 isStr:Bool
 zero:Option (List L)
def L.plainOf:Value→L→Bool
 | .int k n,.int k' n'=>k==k'&&n==n'
 | .bool b,.bool b'=>b==b'
 | .string s,.str s'=>s.data.toList==s'.data.toList
 | .slice none 0 0,.nil _=>true
 | .pointer none,.nilp=>true
 | _,_=>false
def matchAll:List Value→List L→Bool
 | [],[]=>true
 | v::vs,l::ls=>L.plainOf v l&&matchAll vs ls
 | _,_=>false
theorem rep_of_plain {m:Mem} {v:Value} {l:L} (h:L.plainOf v l=true):Rep m v l:=by
 unfold L.plainOf at h
 split at h
 ·simp only [Bool.and_eq_true,beq_iff_eq] at h
  obtain ⟨rfl,rfl⟩:=h
  exact .int _ _
 ·simp only [beq_iff_eq] at h;subst h;exact .bool _
 ·rename_i s s'
  have:s=s':=by
   obtain ⟨d⟩:=s;obtain ⟨d'⟩:=s'
   have:d.toList=d'.toList:=by simpa using h
   rw [Array.toList_inj.1 this]
  subst this;exact .str _
 ·exact .nil _
 ·exact .nilp
 ·cases h
theorem matchAll_rep {m:Mem}:∀(vs:List Value) (ls:List L),matchAll vs ls=true→vs.length=ls.length∧∀(j:Nat) (l:L),ls[j]?=some l→∃v,vs[j]?=some v∧Rep m v l
 | [],[],_=>⟨rfl,fun j l h=>by simp at h⟩
 | [],_::_,h=>by simp [matchAll] at h
 | _::_,[],h=>by simp [matchAll] at h
 | v::vs,l::ls,h=>by
  simp only [matchAll,Bool.and_eq_true] at h
  obtain ⟨h1,h2⟩:=matchAll_rep (m:=m) vs ls h.2
  refine ⟨by simp [h1],fun j l' hj=>?_⟩
  cases j with
  | zero=>simp only [List.getElem?_cons_zero,Option.some.injEq] at hj;subst hj;exact ⟨v,rfl,rep_of_plain h.1⟩
  | succ j=>exact h2 j l' (by simpa using hj)
def isAggD:TypeDesc→Bool
 | .struct _|.array _ _=>true
 | _=>false
def isAggV:Value→Bool
 | .agg _=>true
 | _=>false
def tiOk (P:Program) (t:TypeId) (i:TI):Bool :=
 match P.info? t,P.underlying t with
 | some inf,some d =>
  inf.size==i.size&&inf.bytes==i.bytes &&
  isAggD d==i.agg &&
  (match d with|.string=>true|_=>false)==i.isStr &&
  (match i.elem,d with|some e,.slice e'=>e==e'|some _,_=>false|none,.slice _=>false|none,_=>true) &&
  (match i.fields,d with|some l,.struct fs=>fs.toList.map (fun f=>(f.offset,f.type))==l&&fs.toList.all (fun f=>(P.info? f.type).any (·.size != 0))|some _,_=>false|none,.struct _=>false|none,_=>true) &&
  (match i.zero with|none=>true|some ls=>match inf.zero with|some z=>matchAll z.cells.toList ls&&isAggV z==i.agg|none=>false)
 | _,_=>false
def TabOk (P:Program) (T:TypeId→Option TI):Prop:=∀t i,T t=some i→tiOk P t i=true
structure TIFacts (P:Program) (t:TypeId) (i:TI):Prop where
 info:∃inf,P.info? t=some inf∧inf.size=i.size∧inf.bytes=i.bytes
 agg:∃d,P.underlying t=some d∧isAggD d=i.agg
 elem:∀e,i.elem=some e→P.underlying t=some (.slice e)
 str:i.isStr=true→P.underlying t=some .string
 fields:∀l,i.fields=some l→∃fs:Array Field,P.underlying t=some (.struct fs)∧fs.toList.map (fun f=>(f.offset,f.type))=l∧∀f∈fs.toList,∃inf,P.info? f.type=some inf∧inf.size≠0
 zero:∀ls,i.zero=some ls→∃inf z,P.info? t=some inf∧inf.zero=some z∧matchAll z.cells.toList ls=true∧isAggV z=i.agg
theorem tiFacts {P:Program} {t:TypeId} {i:TI} (h:tiOk P t i=true):TIFacts P t i:=by
 unfold tiOk at h
 split at h
 ·rename_i inf d hinf hd
  simp only [Bool.and_eq_true,beq_iff_eq] at h
  obtain ⟨⟨⟨⟨⟨⟨h1,h2⟩,h3⟩,h4⟩,h5⟩,h6⟩,h7⟩:=h
  refine ⟨⟨inf,hinf,h1,h2⟩,⟨d,hd,h3⟩,?_,?_,?_,?_⟩
  ·intro e he
   rw [he] at h5
   split at h5
   ·simp_all
   ·cases h5
   ·cases h5
   ·simp_all
  ·intro hs
   rw [hs] at h4
   split at h4
   ·exact hd
   ·cases h4
  ·intro l hl
   rw [hl] at h6
   split at h6
   ·rename_i l' fs heq1
    simp only [Option.some.injEq] at heq1
    subst heq1
    simp only [Bool.and_eq_true,beq_iff_eq,List.all_eq_true] at h6
    refine ⟨fs,hd,h6.1,fun f hf=>?_⟩
    have:=h6.2 f hf
    cases hq:P.info? f.type with
    | none=>rw [hq] at this;simp at this
    | some q=>rw [hq] at this;exact ⟨q,rfl,by simpa using this⟩
   ·cases h6
   all_goals simp_all
  ·intro ls hls
   rw [hls] at h7
   simp only at h7
   split at h7
   ·rename_i z hz
    simp only [Bool.and_eq_true,beq_iff_eq] at h7
    exact ⟨inf,z,hinf,hz,h7.1,h7.2⟩
   ·cases h7
 ·cases h
section
variable {P:Program} {w0:World} {m0:Mem} {s:St} {a:Act} {w:World} {m:Mem} {ω:Wh} {F0:Home} {T:TypeId→Option TI}
def szOf (T:TypeId→Option TI) (t:TypeId):Nat:=match T t with|some i=>(match i.elem with|some e=>(match T e with|some j=>j.size|none=>0)|none=>0)|none=>0
def constA (T:TypeId→Option TI) (ty:TypeId):Value→Option A
 | .int k n=>some (.v (.one (.int k n)))
 | .bool b=>some (.v (.one (.bool b)))
 | .string s=>some (.v (.one (.str s)))
 | .slice none 0 0=>some (.v (.one (.nil (szOf T ty))))
 | .pointer none=>some (.v (.one .nilp))
 | _=>none
def evalO (T:TypeId→Option TI) (s:St) (ty:TypeId):Operand→Option A
 | .tmp t=>look s.env t
 | .const c=>constA T ty c
 | .func f=>some (.v (.one (.clo f [])))
 | .global _=>none
theorem evalO_sound (h:CI P w0 m0 F0 s a w m ω) {ty:TypeId} {x:Operand} {y:A} (hy:evalO T s ty x=some y):ARep m ω (a.eval x) y:=by
 cases x with
 | tmp t=>exact h.env t y hy
 | const c =>
  simp only [evalO] at hy
  unfold constA at hy
  split at hy<;>first|cases hy|skip
  ·exact Rep.int _ _
  ·exact Rep.bool _
  ·exact Rep.str _
  ·exact Rep.nil _
  ·exact Rep.nilp
 | global g=>cases hy
 | func f =>
  simp only [evalO,Option.some.injEq] at hy
  subst hy
  exact ⟨[],rfl,rfl,fun i u hu=>by simp at hu⟩
theorem add_add (x:Addr) (i j:Nat):(x.add i).add j=x.add (i+j):=by
 unfold Addr.add
 by_cases hi:i=0<;>by_cases hj:j=0<;>simp [hi,hj,Nat.add_assoc]
theorem FRep.drop {ad:Addr} {ls:List L} (h:FRep m ad ls) (n:Nat):FRep m (ad.add n) (ls.drop n):=fun j u hu=>by
 rw [add_add]
 exact h (n+j) u (by simpa [List.getElem?_drop] using hu)
theorem FRep.take {ad:Addr} {ls:List L} (h:FRep m ad ls) (n:Nat):FRep m ad (ls.take n):=fun j u hu=>h j u (by
 rw [List.getElem?_take] at hu
 split at hu
 ·exact hu
 ·cases hu)
theorem cells_of_frep (hok:∀x v,m x=some v→w.cell? x=some v) {ad:Addr} {ls:List L} (h:FRep m ad ls) :
  ∃cs:List Value,cs.length=ls.length∧(∀(j:Nat) (v:Value),cs[j]?=some v→w.cell? (ad.add j)=some v)∧∀(j:Nat) (l:L),ls[j]?=some l→∃v,cs[j]?=some v∧Rep m v l:=by
 have hex:∀j:Fin ls.length,∃v,m (ad.add j)=some v∧Rep m v ls[j]:=fun j=>h j ls[j] (List.getElem?_eq_getElem j.2)
 refine ⟨List.ofFn fun j=>Classical.choose (hex j),by simp,fun j v hv=>?_,fun j l hl=>?_⟩
 ·rw [List.getElem?_ofFn] at hv
  split at hv
  ·rename_i hj
   injection hv with hv
   subst hv
   exact hok _ _ (Classical.choose_spec (hex ⟨j,hj⟩)).1
  ·cases hv
 ·obtain ⟨hj,rfl⟩:=List.getElem?_eq_some_iff.1 hl
  refine ⟨Classical.choose (hex ⟨j,hj⟩),?_,(Classical.choose_spec (hex ⟨j,hj⟩)).2⟩
  rw [List.getElem?_ofFn,dif_pos hj]
theorem run_isAgg {t:TypeId} {d:TypeDesc} (hd:P.underlying t=some d) (w:World):(isAgg t).run P w=.ok (isAggD d) w:=by
 unfold isAgg
 simp only [Sem.run_bind,run_underlying hd,Result.andThen_ok]
 cases d<;>rfl
theorem run_sizeOf {t:TypeId} {inf:TypeInfo} (hi:P.info? t=some inf) (w:World):(sizeOf t).run P w=.ok inf.size w:=by
 simp [sizeOf,typeInfo,hi]
def asV (agg:Bool) (ls:List L):Option V:=if agg then some (.agg ls) else match ls with|[l]=>some (.one l)|_=>none
theorem run_loadAt {t:TypeId} {i:TI} (hT:tiOk P t i=true) {ad:Addr} {cs:List Value} {ls:List L} (hl:cs.length=ls.length) (hs:ls.length=i.size)
  (hc:∀(j:Nat) (v:Value),cs[j]?=some v→w.cell? (ad.add j)=some v) (hr:∀(j:Nat) (l:L),ls[j]?=some l→∃v,cs[j]?=some v∧ERep m ω v l) {x:V} (hx:asV i.agg ls=some x) :
  ∃v,(Instr.loadAt t (.pointer (some ad))).run P w=.ok v w∧VRep m ω v x:=by
 have F:=tiFacts hT
 obtain ⟨inf,hinf,hsz,_⟩:=F.info
 obtain ⟨d,hd,hag⟩:=F.agg
 by_cases hg:i.agg=true
 ·rw [hg] at hx hag
  simp only [asV,if_true,Option.some.injEq] at hx
  subst hx
  refine ⟨.agg cs.toArray,?_,⟨cs.toArray,rfl,by simp [hl],fun j l hj=>?_⟩⟩
  ·have hl':=run_loadCells_list (P:=P) w ad cs hc
   rw [hl,hs,←hsz] at hl'
   simp only [Instr.loadAt,Instr.sureAddr,loadVar,Sem.run_bind,Sem.run_pure,Result.andThen_ok,run_isAgg hd,hag,if_true,run_sizeOf hinf,hl']
  ·obtain ⟨v,h1,h2⟩:=hr j l hj
   exact ⟨v,by simpa using h1,h2⟩
 ·have hg':i.agg=false:=by simpa using hg
  rw [hg'] at hx hag
  simp only [asV,Bool.false_eq_true,if_false] at hx
  match ls,hx with
  | [l],hx =>
   simp only [Option.some.injEq] at hx
   subst hx
   obtain ⟨v,h1,h2⟩:=hr 0 l rfl
   refine ⟨v,?_,h2⟩
   have h0:=hc 0 v h1
   simp only [Addr.add_zero'] at h0
   simp only [Instr.loadAt,Instr.sureAddr,loadVar,Sem.run_bind,Sem.run_pure,Result.andThen_ok,run_isAgg hd,hag,Bool.false_eq_true,if_false,load,Sem.run,h0]
end
end Go.Bw
namespace Go.Bw
open Go.RowKit
section
variable {P:Program} {w0:World} {m0:Mem} {s:St} {a:Act} {w:World} {m:Mem} {ω:Wh} {F0:Home} {T:TypeId→Option TI}
def Gives (P:Program) (o:Oper) (a:Act) (w:World) (R:Value→World→Prop):Prop :=
 ∀next Q,(∀v w',R v w'→next (a.put o.dst v) w')→o.wp P a w next Q
theorem gives_of_run {o:Oper} {v:Value} {w':World} {R:Value→World→Prop} (h:(execOp a.eval o).run P w=.ok (.value v) w') (hR:R v w'):Gives P o a w R:=by
 intro next Q hn
 unfold Oper.wp
 rw [h,Oper.upon_value]
 exact hn v w' hR
theorem gives_of_skip {o:Oper} {w':World} {R:Value→World→Prop} (h:(execOp a.eval o).run P w=.ok .skip w') (hR:R undef w'):Gives P o a w R:=by
 intro next Q hn
 unfold Oper.wp
 rw [h,Oper.upon_skip]
 exact hn undef w' hR
theorem Gives.mono {o:Oper} {R R':Value→World→Prop} (h:Gives P o a w R) (hR:∀v w',R v w'→R' v w'):Gives P o a w R' :=
 fun next Q hn=>h next Q fun v w' hv=>hn v w' (hR v w' hv)
def plainOp (o:Oper):Bool:=match o.op with
 | .move _=>true
 | .assign _=>true
 | .load ..=>true
 | .fieldAddr ..=>true
 | .indexAddr ..=>true
 | .binOp ..=>true
 | .extract ..=>true
 | .build ..=>true
 | .pick ..=>true
 | .unOp ..=>true
 | .slice ..=>true
 | .field ..=>true
 | .index ..=>true
 | .makeFunc ..=>true
 | .nilCheck _=>true
 | .call c=>(match c.callee with
  | .builtin .len=>true
  | _=>false)
 | _=>false
def GivesA (P:Program) (w0:World) (m0:Mem) (F0:Home) (s:St) (o:Oper) (x:A) (a:Act) (w:World) (ω:Wh):Prop :=
 (Gives P o a w fun v w'=>∃m',CI P w0 m0 F0 s a w' m' ω∧ARep m' ω v x) ∧
 (plainOp o=true→∃v m',(execOp a.eval o).run P w=.ok (.value v) w∧CI P w0 m0 F0 s a w m' ω∧ARep m' ω v x)
theorem givesA_of_value {o:Oper} {v:Value} {x:A} (h:CI P w0 m0 F0 s a w m ω) (hrun:(execOp a.eval o).run P w=.ok (.value v) w) (hx:ARep m ω v x):GivesA P w0 m0 F0 s o x a w ω :=
 ⟨gives_of_run hrun ⟨m,h,hx⟩,fun _=>⟨v,m,hrun,h,hx⟩⟩
theorem givesA_of {o:Oper} {x:A} (hp:plainOp o=false) (h:Gives P o a w fun v w'=>∃m',CI P w0 m0 F0 s a w' m' ω∧ARep m' ω v x):GivesA P w0 m0 F0 s o x a w ω :=
 ⟨h,fun h'=>by rw [hp] at h';cases h'⟩
def intBin (op:BinOp) (k:IntKind) (x y:Int):Option L :=
 match op with
 | .add=>some (.int k (k.wrap (x+y)))
 | .sub=>some (.int k (k.wrap (x - y)))
 | .mul=>some (.int k (k.wrap (x * y)))
 | .eql=>some (.bool (x==y))
 | .neq=>some (.bool (x != y))
 | .lss=>some (.bool (x<y))
 | .leq=>some (.bool (x≤y))
 | .gtr=>some (.bool (x > y))
 | .geq=>some (.bool (x ≥ y))
 | _=>none
def strBin (op:BinOp) (x y:ByteArray):Option L :=
 match op with
 | .eql=>some (.bool (x.toList==y.toList))
 | .neq=>some (.bool !(x.toList==y.toList))
 | .lss=>some (.bool (Op.bytesLess x.toList y.toList))
 | .leq=>some (.bool (Op.bytesLess x.toList y.toList||x.toList==y.toList))
 | .gtr=>some (.bool !(Op.bytesLess x.toList y.toList||x.toList==y.toList))
 | .geq=>some (.bool !Op.bytesLess x.toList y.toList)
 | _=>none
def strAdd (op:BinOp) (x y:ByteArray):Option (Prop×L) :=
 match op with
 | .add=>some (x.size+y.size≤9223372036854775807,.str (x++y))
 | .eql=>(strBin .eql x y).map fun l=>(True,l)
 | .neq=>(strBin .neq x y).map fun l=>(True,l)
 | .lss=>(strBin .lss x y).map fun l=>(True,l)
 | .leq=>(strBin .leq x y).map fun l=>(True,l)
 | .gtr=>(strBin .gtr x y).map fun l=>(True,l)
 | .geq=>(strBin .geq x y).map fun l=>(True,l)
 | _=>none
theorem strAdd_else {op:BinOp} {x y:ByteArray} {p:Prop×L} (h:strAdd op x y=some p) (hn:op≠.add):(strBin op x y).map (fun l=>(True,l))=some p:=by
 cases op<;>first|exact absurd rfl hn|exact h|cases h
def intDivL (op:BinOp) (k:IntKind) (x y:Int):Option (Prop×L) :=
 match op with
 | .rem=>some (y≠0,.int k (x.tmod y))
 | .quo=>some (y≠0,.int k (k.wrap (x.tdiv y)))
 | _=>none
def boolBin (op:BinOp) (x y:Bool):Option Bool :=
 match op with
 | .eql=>some (x==y)
 | .neq=>some !(x==y)
 | _=>none
def shrL (op:BinOp) (k:IntKind) (x y:Int):Option (Prop×L) :=
 match op with
 | .shr=>some (0≤y∧y≤k.bits,.int k (x / 2 ^ y.toNat))
 | _=>none
def boolTy (P:Program) (t:TypeId):Bool:=match P.underlying t with|some .bool=>true|_=>false
def ptrTy (P:Program) (t:TypeId):Bool:=match P.underlying t with|some (.pointer _)=>true|_=>false
def ptrNil (P:Program) (t:TypeId) (op:BinOp) (b:Bool):Option (Prop×L) :=
 match op with
 | .eql=>some (ptrTy P t=true,.bool b)
 | .neq=>some (ptrTy P t=true,.bool !b)
 | _=>none
theorem ptrTy_under {t:TypeId} (h:ptrTy P t=true):P.underlying t=some (.pointer (P.pointee t)):=by
 unfold ptrTy at h
 unfold Program.pointee
 split at h
 ·rename_i e he
  rw [he]
 ·cases h
theorem ptrNil_run {t:TypeId} {op:BinOp} {p:Option Addr} {q:Prop} {l:L} (h:ptrNil P t op p.isNone=some (q,l)) (hq:q):∃v,(binOp op t (.pointer p) (.pointer none)).run P w=.ok v w∧Rep m v l:=by
 cases op<;>simp only [ptrNil,Option.some.injEq,Prod.mk.injEq,reduceCtorEq] at h
 ·obtain ⟨rfl,rfl⟩:=h
  exact ⟨_,run_eql_pointer_nil w t p (ptrTy_under hq),.bool _⟩
 ·obtain ⟨rfl,rfl⟩:=h
  exact ⟨_,run_neq_pointer_nil w t p (ptrTy_under hq),.bool _⟩
def binL (P:Program) (t:TypeId) (op:BinOp):L→L→Option (Prop×L)
 | .int k x,.int k' y=>if k=k' then (match intBin op k x y with|some l=>some (True,l)|none=>(match intDivL op k x y with|some l=>some l|none=>shrL op k x y)) else shrL op k x y
 | .str x,.str y=>strAdd op x y
 | .bool x,.bool y=>(boolBin op x y).map fun b=>(boolTy P t=true,.bool b)
 | .fz _,.nilp=>ptrNil P t op false
 | .nilp,.nilp=>ptrNil P t op true
 | _,_=>none
theorem intBin_run (op:BinOp) (t:TypeId) (k:IntKind) (x y:Int) (l:L) (h:intBin op k x y=some l):∃v,(binOp op t (.int k x) (.int k y))=pure v∧Rep m v l:=by
 cases op<;>simp only [intBin,Option.some.injEq,reduceCtorEq] at h<;>subst h<;>simp only [binOp_add,binOp_sub,binOp_mul,binOp_eql,binOp_neq,binOp_lss,binOp_leq,binOp_gtr,binOp_geq,Op.intArith] <;>
  exact ⟨_,rfl,by first|exact .int _ _|exact .bool _⟩
theorem strBin_run (op:BinOp) (t:TypeId) (x y:ByteArray) (l:L) (h:strBin op x y=some l):∃v,(binOp op t (.string x) (.string y))=pure v∧Rep m v l:=by
 cases op<;>simp only [strBin,Option.some.injEq,reduceCtorEq] at h<;>subst h<;>simp only [binOp,Op.stringOp]<;>exact ⟨_,rfl,.bool _⟩
theorem boolTy_under {t:TypeId} (h:boolTy P t=true):P.underlying t=some .bool:=by
 unfold boolTy at h
 split at h
 ·assumption
 ·cases h
theorem shrL_run {op:BinOp} {t:TypeId} {k k':IntKind} {x y:Int} {p:Prop} {l:L} (h:shrL op k x y=some (p,l)) (hp:p):∃v,(binOp op t (.int k x) (.int k' y)).run P w=.ok v w∧Rep m v l:=by
 cases op<;>simp only [shrL,Option.some.injEq,Prod.mk.injEq,reduceCtorEq] at h
 obtain ⟨rfl,rfl⟩:=h
 refine ⟨.int k (x / 2 ^ y.toNat),?_,.int _ _⟩
 rw [binOp_shr,shift_shr _ _ _ _ hp.1 hp.2]
 rfl
theorem givesA_binOp {o:Oper} {op:BinOp} {t t':TypeId} {x y:Operand} {l1 l2 l:L} {p:Prop} (ho:o.op=.binOp op t x y t') (h:CI P w0 m0 F0 s a w m ω)
  (hx:evalO T s t x=some (.v (.one l1))) (hy:evalO T s t y=some (.v (.one l2))) (hb:binL P t op l1 l2=some (p,l)) (hp:p):GivesA P w0 m0 F0 s o (.v (.one l)) a w ω:=by
 have h1:=evalO_sound h hx
 have h2:=evalO_sound h hy
 have key:∀u1 u2,ERep m ω u1 l1→ERep m ω u2 l2→eqGuard op t x y u1 u2=pure ()∧∃v,(binOp op t u1 u2).run P w=.ok v w∧Rep m v l:=by
  clear h1 h2
  unfold binL at hb
  split at hb
  ·rename_i k q k' r
   intro u1 u2 h1 h2
   have h1:Rep m u1 (.int k q):=h1
   have h2:Rep m u2 (.int k' r):=h2
   cases h1;cases h2
   refine ⟨eqGuard_at_int ..,?_⟩
   split at hb
   ·rename_i hk
    subst hk
    split at hb
    ·rename_i l' hl
     simp only [Option.some.injEq,Prod.mk.injEq] at hb
     obtain ⟨_,rfl⟩:=hb
     obtain ⟨v,h3,h4⟩:=intBin_run (m:=m) op t k q r l' hl
     exact ⟨v,by rw [h3];rfl,h4⟩
    ·split at hb
     ·rename_i l' hl
      simp only [Option.some.injEq] at hb
      subst hb
      cases op<;>simp only [intDivL,Option.some.injEq,Prod.mk.injEq,reduceCtorEq] at hl
      ·obtain ⟨rfl,rfl⟩:=hl
       refine ⟨.int k (k.wrap (q.tdiv r)),?_,.int _ _⟩
       simp only [binOp_quo,Op.intDiv]
       simp [hp]
      ·obtain ⟨rfl,rfl⟩:=hl
       refine ⟨.int k (q.tmod r),?_,.int _ _⟩
       simp only [binOp_rem,Op.intDiv]
       simp [hp]
     ·exact shrL_run hb hp
   ·exact shrL_run hb hp
  ·rename_i q r
   intro u1 u2 h1 h2
   have h1:Rep m u1 (.str q):=h1
   have h2:Rep m u2 (.str r):=h2
   cases h1;cases h2
   refine ⟨eqGuard_at_string ..,?_⟩
   by_cases hadd:op=.add
   ·subst hadd
    simp only [strAdd,Option.some.injEq,Prod.mk.injEq] at hb
    obtain ⟨rfl,rfl⟩:=hb
    refine ⟨.string (q++r),?_,.str _⟩
    have hm:¬ (((q.size+r.size:Nat):Int) > IntKind.i64.max):=by
     have:IntKind.i64.max=9223372036854775807:=by decide
     rw [this]
     omega
    show (Op.stringOp .add q r).run P w=_
    unfold Op.stringOp
    simp only
    rw [if_neg hm]
    rfl
   replace hb:=strAdd_else hb hadd
   cases hs:strBin op q r with
   | none=>rw [hs] at hb;simp at hb
   | some l' =>
    rw [hs] at hb
    simp only [Option.map_some,Option.some.injEq,Prod.mk.injEq] at hb
    obtain ⟨_,rfl⟩:=hb
    obtain ⟨v,h3,h4⟩:=strBin_run (m:=m) op t q r l' hs
    exact ⟨v,by rw [h3];rfl,h4⟩
  ·rename_i q r
   intro u1 u2 h1 h2
   have h1:Rep m u1 (.bool q):=h1
   have h2:Rep m u2 (.bool r):=h2
   cases h1;cases h2
   refine ⟨eqGuard_at_bool ..,?_⟩
   cases hs:boolBin op q r with
   | none=>rw [hs] at hb;simp at hb
   | some l' =>
    rw [hs] at hb
    simp only [Option.map_some,Option.some.injEq,Prod.mk.injEq] at hb
    obtain ⟨rfl,rfl⟩:=hb
    have hu:=boolTy_under hp
    have he:=run_equal_bool (P:=P) w t q r hu
    cases op<;>simp only [boolBin,Option.some.injEq,reduceCtorEq] at hs
    ·subst hs
     exact ⟨.bool (q==r),run_eql_bool (P:=P) w t q r hu,.bool _⟩
    ·subst hs
     refine ⟨.bool !(q==r),?_,.bool _⟩
     show (do pure (Value.bool (!(←Op.equal t (.bool q) (.bool r)))):Sem Value).run P w=_
     simp only [Sem.run_bind,he,Result.andThen_ok,Sem.run_pure]
  ·intro u1 u2 h1 h2
   have h1:Rep m u1 (.fz _):=h1
   have h2:Rep m u2 .nilp:=h2
   cases h1;cases h2
   exact ⟨eqGuard_at_pointer ..,ptrNil_run (p:=some _) hb hp⟩
  ·intro u1 u2 h1 h2
   have h1:Rep m u1 .nilp:=h1
   have h2:Rep m u2 .nilp:=h2
   cases h1;cases h2
   exact ⟨eqGuard_at_pointer ..,ptrNil_run (p:=none) hb hp⟩
  ·cases hb
 obtain ⟨h0,v,h3,h4⟩:=key _ _ h1 h2
 refine givesA_of_value h (v:=v) ?_ h4.erep
 unfold execOp
 simp only [ho,h0,Sem.run_bind,Sem.run_pure,Result.andThen_ok,h3]
end
end Go.Bw
namespace Go.Bw
open Go.RowKit
section
variable {P:Program} {w0:World} {m0:Mem} {s:St} {a:Act} {w:World} {m:Mem} {ω:Wh} {F0:Home} {T:TypeId→Option TI}
def loadV (i:TI) (ls:List L):Option V:=if i.size≤ls.length then asV i.agg (ls.take i.size) else none
theorem loadV_some {i:TI} {ls:List L} {x:V} (h:loadV i ls=some x):i.size≤ls.length∧asV i.agg (ls.take i.size)=some x:=by
 unfold loadV at h
 split at h
 ·exact ⟨by assumption,h⟩
 ·cases h
def overlay (ov:List (Nat×Nat×L)) (i:Nat):Nat→List L→List L
 | _,[]=>[]
 | k,l::r=>((ovGet ov i k).getD l.peek)::overlay ov i (k+1) r
theorem overlay_length (ov:List (Nat×Nat×L)) (i:Nat):∀(k:Nat) (x:List L),(overlay ov i k x).length=x.length
 | _,[]=>rfl
 | k,l::r=>by simp [overlay,overlay_length ov i (k+1) r]
theorem overlay_get (ov:List (Nat×Nat×L)) (i:Nat):∀(k:Nat) (x:List L) (j:Nat),(overlay ov i k x)[j]?=(x[j]?).map fun l=>(ovGet ov i (k+j)).getD l.peek
 | _,[],j=>by simp [overlay]
 | k,l::r,0=>by simp [overlay]
 | k,l::r,j+1=>by
  simp only [overlay,List.getElem?_cons_succ]
  rw [overlay_get ov i (k+1) r j,show k+1+j=k+(j+1) by omega]
theorem run_load_cells {o:Oper} {t:TypeId} {i:TI} {x:Operand} {ad:Addr} {y:V} (ho:o.op=.load t x) (hT:tiOk P t i=true) (h:CI P w0 m0 F0 s a w m ω) (had:a.eval x=.pointer (some ad)) {cs:List Value} {ls:List L} (hl:cs.length=ls.length)
  (hc:∀(j:Nat) (v:Value),cs[j]?=some v→w.cell? (ad.add j)=some v) (hr:∀(j:Nat) (l:L),ls[j]?=some l→∃v,cs[j]?=some v∧ERep m ω v l) (hy:loadV i ls=some y):GivesA P w0 m0 F0 s o (.v y) a w ω:=by
 obtain ⟨hsz,hv⟩:=loadV_some hy
 obtain ⟨v,h4,h5⟩:=run_loadAt (P:=P) (w:=w) (m:=m) (ω:=ω) hT (ad:=ad) (cs:=cs.take i.size) (ls:=ls.take i.size) (by simp [hl]) (by rw [List.length_take];omega)
  (fun j v hv=>hc j v (by rw [List.getElem?_take] at hv;split at hv;exact hv;cases hv))
  (fun j l hl=>by
   rw [List.getElem?_take] at hl
   split at hl
   ·rename_i hj
    obtain ⟨v,h6,h7⟩:=hr j l hl
    exact ⟨v,by rw [List.getElem?_take,if_pos hj];exact h6,h7⟩
   ·cases hl) hv
 refine givesA_of_value h (v:=v) ?_ h5
 unfold execOp
 simp only [ho,had,Sem.run_bind,Sem.run_pure,Result.andThen_ok,h4]
theorem givesA_load_fz {o:Oper} {t:TypeId} {i:TI} {x:Operand} {ty:TypeId} {ls:List L} {y:V} (ho:o.op=.load t x) (hT:tiOk P t i=true) (h:CI P w0 m0 F0 s a w m ω)
  (hx:evalO T s ty x=some (.v (.one (.fz ls)))) (hy:loadV i ls=some y):GivesA P w0 m0 F0 s o (.v y) a w ω:=by
 obtain ⟨ad,had,hf⟩:=Rep.frep (evalO_sound h hx)
 obtain ⟨cs,h1,h2,h3⟩:=cells_of_frep h.ok hf
 exact run_load_cells ho hT h had h1 h2 (fun j l hj=>let ⟨v,h4,h5⟩:=h3 j l hj;⟨v,h4,h5.erep⟩) hy
theorem box_cells (h:CI P w0 m0 F0 s a w m ω) {id:Nat} {ls:List L} (hb:look s.box id=some ls) (off:Nat) :
  ∃cs:List Value,cs.length=((ls.drop off).map L.peek).length∧(∀(j:Nat) (v:Value),cs[j]?=some v→w.cell? ((⟨ω.box id,off,none⟩:Addr).add j)=some v) ∧
   ∀(j:Nat) (l:L),((ls.drop off).map L.peek)[j]?=some l→∃v,cs[j]?=some v∧ERep m ω v l:=by
 obtain ⟨cs,e,h1,h2,h3,G,h4,h5,h6⟩:=h.box id ls hb
 refine ⟨cs.toList.drop off,by simp [h2],fun j v hv=>?_,fun j l hl=>?_⟩
 ·rw [Addr.add_lit,cell_of_row w _ _ cs e (0,0) h1]
  simpa [List.getElem?_drop] using hv
 ·rw [List.getElem?_map,List.getElem?_drop,Option.map_eq_some_iff] at hl
  obtain ⟨l0,hl,rfl⟩:=hl
  obtain ⟨v,h7,h8⟩:=h6 _ l0 hl
  exact ⟨v,by simpa [List.getElem?_drop] using h7,h8.peek⟩
theorem givesA_load_ptr {o:Oper} {t:TypeId} {i:TI} {x:Operand} {ty:TypeId} {id off:Nat} {ls:List L} {y:V} (ho:o.op=.load t x) (hT:tiOk P t i=true) (h:CI P w0 m0 F0 s a w m ω)
  (hx:evalO T s ty x=some (.v (.one (.ptr id off)))) (hb:look s.box id=some ls) (hy:loadV i ((ls.drop off).map L.peek)=some y):GivesA P w0 m0 F0 s o (.v y) a w ω:=by
 have had:a.eval x=_:=evalO_sound h hx
 obtain ⟨cs,h1,h2,h3⟩:=box_cells h hb off
 exact run_load_cells ho hT h had h1 h2 h3 hy
theorem cellOf_row {xs:List (List L)} {i:Nat} (hi:i<xs.length) (j:Nat):cellOf xs i j=(xs.getD i [])[j]?:=by
 simp [cellOf,List.getD,hi]
theorem row_cells (h:CI P w0 m0 F0 s a w m ω) {id:Nat} {r:RowC} (hb:look s.row id=some r) {i:Nat} (hi:i<r.xs.length) (off:Nat) :
  ∃b,(ω.row id).blk=some b∧(ω.row id).sz=r.sz∧∃cs:List Value,cs.length=((overlay r.ov i 0 (r.xs.getD i [])).drop off).length∧(∀(j:Nat) (v:Value),cs[j]?=some v→w.cell? ((⟨b,i * r.sz+off,none⟩:Addr).add j)=some v) ∧
   ∀(j:Nat) (l:L),((overlay r.ov i 0 (r.xs.getD i [])).drop off)[j]?=some l→∃v,cs[j]?=some v∧ERep m ω v l:=by
 obtain ⟨h1,h2,h3⟩:=h.row id r hb
 split at h3
 ·rw [h3.1] at hi;simp at hi
 ·rename_i b hblk
  obtain ⟨cs,e,g1,g2,g3,g4,g5,G,g6,g7,g8⟩:=h3
  have hlen:(r.xs.getD i []).length=r.sz:=by
   rw [show r.xs.getD i []=r.xs[i] by simp [List.getD,hi]]
   exact h2 _ (List.getElem_mem hi)
  have hfit:i * r.sz+r.sz≤cs.size:=by
   have:(i+1) * r.sz≤(ω.row id).cap * r.sz:=Nat.mul_le_mul_right _ (by omega)
   rw [Nat.add_mul] at this
   omega
  refine ⟨b,hblk,h1,(cs.toList.drop (i * r.sz+off)).take (r.sz - off),?_,fun j v hv=>?_,fun j l hl=>?_⟩
  ·simp only [List.length_take,List.length_drop,Array.length_toList,overlay_length,hlen]
   omega
  ·rw [List.getElem?_take] at hv
   split at hv
   ·rw [Addr.add_lit,cell_of_row w _ _ cs e (0,0) g1]
    simpa [List.getElem?_drop] using hv
   ·cases hv
  ·rw [List.getElem?_drop,overlay_get,Option.map_eq_some_iff] at hl
   obtain ⟨u,hu,rfl⟩:=hl
   have hj:off+j<r.sz:=by rw [←hlen];exact (List.getElem?_eq_some_iff.1 hu).1
   obtain ⟨v,g9,g10⟩:=g8 i (off+j) u (by rw [cellOf_row hi];exact hu)
   refine ⟨v,?_,?_⟩
   ·rw [List.getElem?_take,if_pos (by omega),List.getElem?_drop,show i * r.sz+off+j=i * r.sz+(off+j) by omega]
    simpa using g9
   ·simp only [Nat.zero_add]
    cases hov:ovGet r.ov i (off+j) with
    | some q=>rw [hov] at g10;exact g10
    | none =>
     rw [hov] at g10
     simp only [Option.getD_none]
     have g10:CRep m w (G i (off+j)) v u:=g10
     cases g10 with
     | fr hq =>
      cases u with
      | own=>cases hq
      | byt=>cases hq
      | _=>exact hq.erep
     | ownNil=>exact Rep.any _ rfl
     | own=>exact Rep.any _ rfl
theorem givesA_load_eptr {o:Oper} {t:TypeId} {i:TI} {x:Operand} {ty:TypeId} {id k off:Nat} {r:RowC} {y:V} (ho:o.op=.load t x) (hT:tiOk P t i=true) (h:CI P w0 m0 F0 s a w m ω)
  (hx:evalO T s ty x=some (.v (.one (.eptr id k off)))) (hb:look s.row id=some r) (hk:k<r.xs.length) (hy:loadV i ((overlay r.ov k 0 (r.xs.getD k [])).drop off)=some y):GivesA P w0 m0 F0 s o (.v y) a w ω:=by
 obtain ⟨b,hblk,had⟩:=evalO_sound h hx
 obtain ⟨b',hblk',hsz,cs,h1,h2,h3⟩:=row_cells h hb hk off
 rw [hblk] at hblk'
 injection hblk' with hbb
 subst hbb
 rw [hsz] at had
 exact run_load_cells ho hT h had h1 h2 h3 hy
theorem run_fieldAt {t:TypeId} {i:TI} {l:List (Nat×TypeId)} {f off:Nat} {ft:TypeId} (hT:tiOk P t i=true) (hl:i.fields=some l) (hf:l[f]?=some (off,ft)) (ad:Addr) :
  (Instr.fieldAt t (.pointer (some ad)) f).run P w=.ok (.pointer (some (ad.add off))) w:=by
 obtain ⟨fs,h1,h2,h3⟩:=(tiFacts hT).fields l hl
 rw [←h2,List.getElem?_map,Option.map_eq_some_iff] at hf
 obtain ⟨fd,hf,he⟩:=hf
 simp only [Prod.mk.injEq] at he
 obtain ⟨rfl,rfl⟩:=he
 obtain ⟨inf,h4,h5⟩:=h3 fd (List.mem_of_getElem? hf)
 have hf':fs[f]?=some fd:=by simpa using hf
 simp only [Instr.fieldAt,Sem.run_bind,run_underlying h1,Result.andThen_ok,hf',Instr.sureAddr,Sem.run_pure,fieldPlace,run_sizeOf h4,if_neg h5]
def fieldOff (i:TI) (f:Nat):Option Nat:=match i.fields with|some l=>(match l[f]? with|some (off,_)=>some off|none=>none)|none=>none
def moveL (n:Nat):L→Option L
 | .fz ls=>some (.fz (ls.drop n))
 | .ptr id o=>some (.ptr id (o+n))
 | .eptr id i o=>some (.eptr id i (o+n))
 | _=>none
theorem moveL_sound {n:Nat} {v:Value} {l l':L} (h:moveL n l=some l') (hv:ERep m ω v l):∃ad,v=.pointer (some ad)∧ERep m ω (.pointer (some (ad.add n))) l':=by
 cases l<;>simp only [moveL,Option.some.injEq,reduceCtorEq] at h<;>subst h
 ·obtain ⟨ad,h1,h2⟩:=Rep.frep hv
  exact ⟨ad,h1,(h2.drop n).rep⟩
 ·exact ⟨_,hv,by rw [Addr.add_lit];rfl⟩
 ·obtain ⟨b,h1,h2⟩:=hv
  exact ⟨_,h2,b,h1,by rw [Addr.add_lit];simp only [Nat.add_assoc]⟩
theorem givesA_fieldAddr {o:Oper} {t:TypeId} {i:TI} {x:Operand} {ty:TypeId} {f off:Nat} {y z:L} (ho:o.op=.fieldAddr t x f) (hT:tiOk P t i=true) (h:CI P w0 m0 F0 s a w m ω)
  (hx:evalO T s ty x=some (.v (.one y))) (hf:fieldOff i f=some off) (hz:moveL off y=some z):GivesA P w0 m0 F0 s o (.v (.one z)) a w ω:=by
 obtain ⟨ad,had,hv⟩:=moveL_sound hz (evalO_sound h hx)
 unfold fieldOff at hf
 split at hf
 ·rename_i l hl
  split at hf
  ·rename_i off' ft hf'
   simp only [Option.some.injEq] at hf
   subst hf
   refine givesA_of_value h (v:=.pointer (some (ad.add off'))) ?_ hv
   unfold execOp
   simp only [ho,had,Sem.run_bind,Sem.run_pure,Result.andThen_ok,run_fieldAt hT hl hf']
  ·cases hf
 ·cases hf
theorem givesA_indexAddr {o:Oper} {t e:TypeId} {i j:TI} {x y:Operand} {ty ty':TypeId} {sz:Nat} {xs:List (List L)} {k:IntKind} {n:Int} (ho:o.op=.indexAddr t x y) (hT:tiOk P t i=true)
  (he:i.elem=some e) (hE:tiOk P e j=true) (hsz:j.size=sz) (h:CI P w0 m0 F0 s a w m ω) (hx:evalO T s ty x=some (.v (.one (.sl sz xs)))) (hy:evalO T s ty' y=some (.v (.one (.int k n))))
  (h0:0≤n) (h1:n<xs.length):GivesA P w0 m0 F0 s o (.v (.one (.fz (xs.getD n.toNat [])))) a w ω:=by
 have hu:=(tiFacts hT).elem e he
 obtain ⟨inf,hinf,hs,_⟩:=(tiFacts hE).info
 have hvx:Rep m (a.eval x) (.sl sz xs):=evalO_sound h hx
 have hvy:Rep m (a.eval y) (.int k n):=evalO_sound h hy
 generalize hax:a.eval x=u at hvx
 generalize hay:a.eval y=u' at hvy
 cases hvy with
 | int =>
 cases hvx with
 | slNil=>simp at h1;omega
 | sl ad len cap _ _ vals hlen hc hz hm hr =>
  have hlt:n.toNat<xs.length:=by omega
  refine givesA_of_value h (v:=.pointer (some (ad.add (n.toNat * sz)))) ?_ (Rep.erep (ω:=ω) (FRep.rep fun jj u hu'=>?_))
  ·unfold execOp
   have:n<(len:Int):=by omega
   simp only [ho,hax,hay,Sem.run_bind,Sem.run_pure,Result.andThen_ok,Instr.indexAt,asIntOf,run_underlying hu,run_sizeOf hinf,hs,hsz,h0,this,and_self,if_true]
  ·have hget:xs.getD n.toNat []=xs[n.toNat]:=by simp [List.getD,hlt]
   rw [hget] at hu'
   have hc':cellOf xs n.toNat jj=some u:=by simp [cellOf,List.getElem?_eq_getElem hlt,hu']
   rw [add_add]
   exact ⟨_,hm _ _ _ hc',hr _ _ _ hc'⟩
theorem givesA_indexRef {o:Oper} {t e:TypeId} {i j:TI} {x y:Operand} {ty ty':TypeId} {id lo q:Nat} {r:RowC} {k:IntKind} {n:Int} (ho:o.op=.indexAddr t x y) (hT:tiOk P t i=true)
  (he:i.elem=some e) (hE:tiOk P e j=true) (h:CI P w0 m0 F0 s a w m ω) (hx:evalO T s ty x=some (.v (.one (.ref id lo q)))) (hb:look s.row id=some r) (hsz:j.size=r.sz) (hy:evalO T s ty' y=some (.v (.one (.int k n))))
  (h0:0≤n) (h1:n<q):GivesA P w0 m0 F0 s o (.v (.one (.eptr id (lo+n.toNat) 0))) a w ω:=by
 have hu:=(tiFacts hT).elem e he
 obtain ⟨inf,hinf,hs,_⟩:=(tiFacts hE).info
 have hvx:RefAt (ω.row id) lo q (a.eval x):=evalO_sound h hx
 have hvy:Rep m (a.eval y) (.int k n):=evalO_sound h hy
 generalize hax:a.eval x=u at hvx
 generalize hay:a.eval y=u' at hvy
 cases hvy with
 | int =>
 have hrs:=(h.row id r hb).1
 rcases hvx with ⟨_,_,rfl,_⟩|⟨b,ad,g1,g2,rfl,g4⟩
 ·simp at h1;omega
 ·have had:=g4 (.inl (by omega))
  subst had
  refine givesA_of_value h (v:=.pointer (some ((⟨b,lo * (ω.row id).sz,none⟩:Addr).add (n.toNat * r.sz)))) ?_ ?_
  ·unfold execOp
   simp only [ho,hax,hay,Sem.run_bind,Sem.run_pure,Result.andThen_ok,Instr.indexAt,asIntOf,run_underlying hu,run_sizeOf hinf,hs,hsz,h0,h1,and_self,if_true]
  ·refine ⟨b,g1,?_⟩
   rw [Addr.add_lit,hrs,Nat.add_mul,Nat.add_zero]
def boundN (T:TypeId→Option TI) (s:St) (ty:TypeId) (dflt:Nat):Option Operand→Option Int
 | none=>some dflt
 | some x=>match evalO T s ty x with|some (.v (.one (.int _ n)))=>some n|_=>none
def BoundV (a:Act) (dflt:Nat) (q:Int):Option Operand→Prop
 | none=>q=dflt
 | some z=>∃k,a.eval z=.int k q
theorem boundN_sound (h:CI P w0 m0 F0 s a w m ω) {ty:TypeId} {d:Nat} {x:Option Operand} {q:Int} (hq:boundN T s ty d x=some q):BoundV a d q x:=by
 cases x with
 | none=>simp only [boundN,Option.some.injEq] at hq;exact hq.symm
 | some z =>
  simp only [boundN] at hq
  split at hq
  ·rename_i k n hz
   simp only [Option.some.injEq] at hq
   subst hq
   have hv:Rep m (a.eval z) (.int k n):=evalO_sound h hz
   refine ⟨k,?_⟩
   generalize a.eval z=u at hv
   cases hv
   rfl
  ·cases hq
theorem run_sliceBound {k:IntKind} {n:Int} {y:Nat} {code:BoundsCode} (h0:0≤n) (h1:n≤y):(Instr.sliceBound (.int k n) y code).run P w=.ok n.toNat w:=by
 simp [Instr.sliceBound,asIntOf,h0,h1]
theorem run_bounds {lo hi:Option Operand} {len cap:Nat} {isS:Bool} {l h:Int} (hl:BoundV a 0 l lo) (hh:BoundV a len h hi) (h0:0≤l) (h1:l≤h) (h2:h≤cap) :
  (Instr.sliceBounds isS len cap (lo.map a.eval) (hi.map a.eval) none).run P w=.ok (l.toNat,h.toNat,cap) w:=by
 unfold Instr.sliceBounds
 cases hi with
 | none =>
  have hh:h=len:=hh
  cases lo with
  | none =>
   have hl:l=(0:Nat):=hl
   simp only [Option.map_none,Sem.run_bind,Sem.run_pure,Result.andThen_ok,hh,hl,Int.toNat_natCast]
  | some z =>
   obtain ⟨k,hz⟩:=hl
   simp only [Option.map_none,Option.map_some,hz,Option.isSome_none,Bool.false_eq_true,if_false,Sem.run_bind,Sem.run_pure,Result.andThen_ok]
   rw [run_sliceBound h0 (by omega)]
   simp only [Result.andThen_ok,hh,Int.toNat_natCast]
 | some z2 =>
  obtain ⟨k2,hz2⟩:=hh
  cases lo with
  | none =>
   have hl:l=(0:Nat):=hl
   simp only [Option.map_none,Option.map_some,hz2,Sem.run_bind,Sem.run_pure,Result.andThen_ok]
   rw [run_sliceBound (by omega) h2]
   simp only [Result.andThen_ok,hl,Int.toNat_natCast]
  | some z =>
   obtain ⟨k,hz⟩:=hl
   simp only [Option.map_none,Option.map_some,hz,hz2,Option.isSome_none,Bool.false_eq_true,if_false,Sem.run_bind,Sem.run_pure,Result.andThen_ok]
   rw [run_sliceBound (by omega) h2]
   simp only [Result.andThen_ok]
   rw [run_sliceBound h0 (by omega)]
   simp only [Result.andThen_ok]
theorem run_slice_op {o:Oper} {t e:TypeId} {inf:TypeInfo} {x:Operand} {lo hi:Option Operand} {A:Option Addr} {len cap:Nat} {l h:Int} (ho:o.op=.slice t x lo hi none) (hu:P.underlying t=some (.slice e)) (hinf:P.info? e=some inf) (hax:a.eval x=.slice A len cap)
  (hl:BoundV a 0 l lo) (hh:BoundV a len h hi) (h0:0≤l) (h1:l≤h) (h2:h≤cap) :
  (execOp a.eval o).run P w=.ok (.value (.slice (if cap=l.toNat then A else A.map (·.add (l.toNat * inf.size))) (h.toNat - l.toNat) (cap - l.toNat))) w:=by
 unfold execOp
 simp only [ho,hax,Option.map_none,Sem.run_bind,Instr.sliceAt,run_underlying hu,Result.andThen_ok,Instr.slice]
 rw [run_bounds (P:=P) (w:=w) hl hh h0 h1 h2]
 simp only [Result.andThen_ok,Sem.run_bind,run_sizeOf hinf,Sem.run_pure]
theorem rep_sub {v:Value} {sz:Nat} {xs:List (List L)} (hv:Rep m v (.sl sz xs)) (l h':Nat) (hl:l≤h') (hh:h'≤xs.length) :
  ∃A n c,v=.slice A n c∧n=xs.length∧n≤c∧Rep m (.slice (if c=l then A else A.map (·.add (l * sz))) (h' - l) (c - l)) (.sl sz ((xs.take h').drop l)):=by
 cases hv with
 | slNil =>
  refine ⟨none,0,0,rfl,rfl,Nat.le_refl _,?_⟩
  simp at hh
  have:l=0:=by omega
  subst this
  subst hh
  simp
  exact .slNil _
 | sl ad len cap _ _ vals hlen hc hz hm hr =>
  refine ⟨some ad,len,cap,rfl,hlen,hc,?_⟩
  have hlen':((xs.take h').drop l).length=h' - l:=by simp;omega
  by_cases hcl:cap=l
  ·rw [if_pos hcl]
   have h0:h' - l=0:=by omega
   have hnil:(xs.take h').drop l=[]:=List.eq_nil_of_length_eq_zero (by omega)
   rw [hnil,h0]
   exact .sl ad 0 _ sz [] vals rfl (Nat.zero_le _) (fun x hx=>by cases hx) (fun i j u hu=>by simp [cellOf] at hu) (fun i j u hu=>by simp [cellOf] at hu)
  ·rw [if_neg hcl]
   have hcell:∀i j u,cellOf ((xs.take h').drop l) i j=some u→cellOf xs (l+i) j=some u:=by
    intro i j u hu
    unfold cellOf at hu ⊢
    rw [List.getElem?_drop,List.getElem?_take] at hu
    split at hu
    ·exact hu
    ·simp at hu
   refine .sl (ad.add (l * sz)) (h' - l) (cap - l) sz _ (fun i j=>vals (l+i) j) hlen'.symm (by omega) (fun x hx=>hz x (List.mem_of_mem_take (List.mem_of_mem_drop hx))) (fun i j u hu=>?_) (fun i j u hu=>hr _ _ _ (hcell i j u hu))
   have:=hm _ _ _ (hcell i j u hu)
   rw [add_add,show l * sz+(i * sz+j)=(l+i) * sz+j from by rw [Nat.add_mul];omega]
   exact this
theorem givesA_slice {o:Oper} {t e:TypeId} {i j:TI} {x:Operand} {lo hi:Option Operand} {sz:Nat} {xs:List (List L)} {l hh:Int} (ho:o.op=.slice t x lo hi none) (hT:tiOk P t i=true)
  (he:i.elem=some e) (hE:tiOk P e j=true) (hsz:j.size=sz) (h:CI P w0 m0 F0 s a w m ω) (hx:evalO T s t x=some (.v (.one (.sl sz xs))))
  (hl:boundN T s t 0 lo=some l) (hhi:boundN T s t xs.length hi=some hh) (h0:0≤l) (h1:l≤hh) (h2:hh≤xs.length) :
  GivesA P w0 m0 F0 s o (.v (.one (.sl sz ((xs.take hh.toNat).drop l.toNat)))) a w ω:=by
 have hu:=(tiFacts hT).elem e he
 obtain ⟨inf,hinf,hs,_⟩:=(tiFacts hE).info
 obtain ⟨A,n,c,hax,hn,hnc,hrep⟩:=rep_sub (m:=m) (evalO_sound h hx) l.toNat hh.toNat (by omega) (by omega)
 rw [←hn] at hhi
 refine givesA_of_value h (run_slice_op ho hu hinf hax (boundN_sound h hl) (boundN_sound h hhi) h0 h1 (by omega)) ?_
 rw [hs,hsz]
 exact hrep
theorem givesA_sliceRef {o:Oper} {t e:TypeId} {i j:TI} {x:Operand} {lo hi:Option Operand} {id b0 q:Nat} {r:RowC} {l hh:Int} (ho:o.op=.slice t x lo hi none) (hT:tiOk P t i=true)
  (he:i.elem=some e) (hE:tiOk P e j=true) (h:CI P w0 m0 F0 s a w m ω) (hx:evalO T s t x=some (.v (.one (.ref id b0 q)))) (hb:look s.row id=some r) (hsz:j.size=r.sz)
  (hl:boundN T s t 0 lo=some l) (hhi:boundN T s t q hi=some hh) (h0:0≤l) (h1:l≤hh) (h2:hh≤q∨(hh≤r.xs.length - b0∧b0≤r.xs.length)) :
  GivesA P w0 m0 F0 s o (.v (.one (.ref id (b0+l.toNat) (hh.toNat - l.toNat)))) a w ω:=by
 have hu:=(tiFacts hT).elem e he
 obtain ⟨inf,hinf,hs,_⟩:=(tiFacts hE).info
 have hvx:RefAt (ω.row id) b0 q (a.eval x):=evalO_sound h hx
 obtain ⟨hrs,_,hrow⟩:=h.row id r hb
 generalize hax:a.eval x=u at hvx
 rcases hvx with ⟨g0,rfl,rfl,rfl⟩|⟨b,ad,g1,g2,rfl,g4⟩
 ·rw [g0] at hrow
  have hx0:r.xs.length=0:=by rw [hrow.1];rfl
  have hh0:hh=0:=by omega
  have hl0:l=0:=by omega
  subst hh0 hl0
  refine givesA_of_value h (run_slice_op ho hu hinf hax (boundN_sound h hl) (boundN_sound h hhi) (Int.le_refl 0) (Int.le_refl 0) (Int.le_refl 0)) ?_
  exact .inl ⟨g0,rfl,rfl,rfl⟩
 ·rw [g1] at hrow
  obtain ⟨cs,e',k1,k2,k3,k4,_⟩:=hrow
  have hcap:hh.toNat≤(ω.row id).cap - b0:=by omega
  refine givesA_of_value h (run_slice_op ho hu hinf hax (boundN_sound h hl) (boundN_sound h hhi) h0 h1 (by omega)) ?_
  refine .inr ⟨b,if (ω.row id).cap - b0=l.toNat then ad else ad.add (l.toNat * inf.size),g1,by omega,?_,fun hlt=>?_⟩
  ·rw [Nat.sub_sub]
   congr 1
   split<;>simp
  ·by_cases hc:(ω.row id).cap - b0=l.toNat
   ·rw [if_pos hc]
    have:b0+l.toNat=0:=by omega
    have hb0:b0=0:=by omega
    have hl0:l.toNat=0:=by omega
    rw [hl0,Nat.add_zero]
    exact g4 (.inr hb0)
   ·rw [if_neg hc,g4 (.inl (by omega)),Addr.add_lit,hs,hsz,hrs,Nat.add_mul]
theorem givesA_sliceNil {o:Oper} {t e:TypeId} {i j:TI} {x:Operand} {lo hi:Option Operand} {sz:Nat} {l hh:Int} (ho:o.op=.slice t x lo hi none) (hT:tiOk P t i=true)
  (he:i.elem=some e) (hE:tiOk P e j=true) (h:CI P w0 m0 F0 s a w m ω) (hx:evalO T s t x=some (.v (.one (.nil sz))))
  (hl:boundN T s t 0 lo=some l) (hhi:boundN T s t 0 hi=some hh) (h0:0≤l) (h1:l≤hh) (h2:hh≤0) :
  GivesA P w0 m0 F0 s o (.v (.one (.nil sz))) a w ω:=by
 have hu:=(tiFacts hT).elem e he
 obtain ⟨inf,hinf,hs,_⟩:=(tiFacts hE).info
 have hv:Rep m (a.eval x) (.nil sz):=evalO_sound h hx
 generalize hax:a.eval x=u at hv
 cases hv
 have hh0:hh=0:=by omega
 have hl0:l=0:=by omega
 subst hh0 hl0
 refine givesA_of_value h (run_slice_op ho hu hinf hax (boundN_sound h hl) (boundN_sound h hhi) (Int.le_refl 0) (Int.le_refl 0) (Int.le_refl 0)) ?_
 exact Rep.nil sz
def nL:L→Option Nat
 | .sl _ xs=>some xs.length
 | .ref _ _ q=>some q
 | .nil _=>some 0
 | _=>none
theorem givesA_slice3 {o:Oper} {t e:TypeId} {i j:TI} {x:Operand} {lo hi:Option Operand} {z:Operand} {v1:L} {n:Nat} {l hh mx:Int} (ho:o.op=.slice t x lo hi (some z)) (hT:tiOk P t i=true)
  (he:i.elem=some e) (hE:tiOk P e j=true) (h:CI P w0 m0 F0 s a w m ω) (hx:evalO T s t x=some (.v (.one v1))) (hn:nL v1=some n)
  (hl:boundN T s t 0 lo=some l) (hhi:boundN T s t n hi=some hh) (hhs:hi.isSome=true) (hmx:boundN T s t 0 (some z)=some mx) (h0:0≤l) (h1:l≤hh) (h2:hh≤mx) (h3:mx≤n) :
  GivesA P w0 m0 F0 s o (.v (.one .any)) a w ω:=by
 have hu:=(tiFacts hT).elem e he
 obtain ⟨inf,hinf,hs,_⟩:=(tiFacts hE).info
 have hv:=evalO_sound h hx
 have hsl:∃A c,a.eval x=.slice A n c∧n≤c:=by
  generalize a.eval x=u at hv
  cases v1<;>simp only [nL,Option.some.injEq,reduceCtorEq] at hn
  ·subst hn
   have hv:Rep m u (.sl _ _):=hv
   cases hv with
   | slNil=>exact ⟨none,0,rfl,Nat.le_refl _⟩
   | sl ad len cap _ _ vals hlen hc=>subst hlen;exact ⟨some ad,cap,rfl,hc⟩
  ·subst hn
   have hv:Rep m u (.nil _):=hv
   cases hv
   exact ⟨none,0,rfl,Nat.le_refl _⟩
  ·subst hn
   rcases hv with ⟨_,_,rfl,rfl⟩|⟨b,ad,_,g2,rfl,_⟩
   ·exact ⟨none,0,rfl,Nat.le_refl _⟩
   ·exact ⟨some ad,_,rfl,by omega⟩
 obtain ⟨A,c,hax,hnc⟩:=hsl
 obtain ⟨kz,hz⟩:=boundN_sound h hmx
 have hbl:=boundN_sound h hl
 have hbh:=boundN_sound h hhi
 obtain ⟨zh,rfl⟩:=Option.isSome_iff_exists.1 hhs
 obtain ⟨kh,hzh⟩:=hbh
 refine givesA_of_value h (v:=.slice (if mx.toNat=l.toNat then A else A.map (·.add (l.toNat * inf.size))) (hh.toNat - l.toNat) (mx.toNat - l.toNat)) ?_ (Rep.any _ rfl)
 have hb:(Instr.sliceBounds true n c (lo.map a.eval) (some (.int kh hh)) (some (.int kz mx))).run P w=.ok (l.toNat,hh.toNat,mx.toNat) w:=by
  unfold Instr.sliceBounds
  simp only [Sem.run_bind,if_true,Option.isSome_some]
  rw [run_sliceBound (by omega) (by omega)]
  simp only [Result.andThen_ok]
  rw [run_sliceBound (by omega) (by omega)]
  simp only [Result.andThen_ok]
  cases lo with
  | none =>
   have hbl:l=(0:Nat):=hbl
   simp only [Option.map_none,Sem.run_bind,Sem.run_pure,Result.andThen_ok,hbl,Int.toNat_natCast]
  | some zl =>
   obtain ⟨kl,hzl⟩:=hbl
   simp only [Option.map_some,hzl,Sem.run_bind]
   rw [run_sliceBound h0 (by omega)]
   simp only [Result.andThen_ok,Sem.run_pure]
 unfold execOp
 simp only [ho,hax,Option.map_some,hzh,hz,Sem.run_bind,Instr.sliceAt,run_underlying hu,Result.andThen_ok,Instr.slice]
 rw [hb]
 simp only [Result.andThen_ok,Sem.run_bind,run_sizeOf hinf,Sem.run_pure]
theorem givesA_sliceStr {o:Oper} {t:TypeId} {i:TI} {x:Operand} {lo hi:Option Operand} {q:ByteArray} {l hh:Int} (ho:o.op=.slice t x lo hi none) (hT:tiOk P t i=true)
  (hs:i.isStr=true) (h:CI P w0 m0 F0 s a w m ω) (hx:evalO T s t x=some (.v (.one (.str q))))
  (hl:boundN T s t 0 lo=some l) (hhi:boundN T s t q.size hi=some hh) (h0:0≤l) (h1:l≤hh) (h2:hh≤q.size) :
  GivesA P w0 m0 F0 s o (.v (.one (.str (q.extract l.toNat hh.toNat)))) a w ω:=by
 have hu:=(tiFacts hT).str hs
 have hv:Rep m (a.eval x) (.str q):=evalO_sound h hx
 generalize hax:a.eval x=u at hv
 cases hv
 refine givesA_of_value h (v:=.string (q.extract l.toNat hh.toNat)) ?_ (Rep.str _)
 unfold execOp
 simp only [ho,hax,Option.map_none,Sem.run_bind,Instr.sliceAt,run_underlying hu,Result.andThen_ok,Instr.slice,Option.isSome_none,Bool.false_eq_true,if_false,Sem.run_pure]
 rw [run_bounds (P:=P) (w:=w) (boundN_sound h hl) (boundN_sound h hhi) h0 h1 h2]
 simp only [Result.andThen_ok]
end
end Go.Bw
namespace Go.Bw
open Go.RowKit
section
variable {P:Program} {w0:World} {m0:Mem} {s:St} {a:Act} {w:World} {m:Mem} {ω:Wh} {F0:Home} {T:TypeId→Option TI}
theorem givesA_move {o:Oper} {x:Operand} {y:A} (ho:o.op=.move x) (h:CI P w0 m0 F0 s a w m ω) (hx:evalO T s o.type x=some y):GivesA P w0 m0 F0 s o y a w ω :=
 givesA_of_value h (v:=a.eval x) (by unfold execOp;simp only [ho,Sem.run_pure]) (evalO_sound h hx)
theorem givesA_assign {o:Oper} {x:Operand} {y:A} (ho:o.op=.assign x) (h:CI P w0 m0 F0 s a w m ω) (hx:evalO T s o.type x=some y):GivesA P w0 m0 F0 s o y a w ω :=
 givesA_of_value h (v:=a.eval x) (by unfold execOp;simp only [ho,Sem.run_pure]) (evalO_sound h hx)
theorem bool_of {x:Operand} {b:Bool} {ty:TypeId} (h:CI P w0 m0 F0 s a w m ω) (hx:evalO T s ty x=some (.v (.one (.bool b)))):a.eval x=.bool b:=by
 have h1:Rep m (a.eval x) (.bool b):=evalO_sound h hx
 generalize a.eval x=u at h1
 cases h1
 rfl
theorem int_of {x:Operand} {k:IntKind} {n:Int} {ty:TypeId} (h:CI P w0 m0 F0 s a w m ω) (hx:evalO T s ty x=some (.v (.one (.int k n)))):a.eval x=.int k n:=by
 have h1:Rep m (a.eval x) (.int k n):=evalO_sound h hx
 generalize a.eval x=u at h1
 cases h1
 rfl
theorem str_of {x:Operand} {q:ByteArray} {ty:TypeId} (h:CI P w0 m0 F0 s a w m ω) (hx:evalO T s ty x=some (.v (.one (.str q)))):a.eval x=.string q:=by
 have h1:Rep m (a.eval x) (.str q):=evalO_sound h hx
 generalize a.eval x=u at h1
 cases h1
 rfl
theorem givesA_pick {o:Oper} {c x y:Operand} {ty:TypeId} {b:Bool} {z:A} (ho:o.op=.pick c x y) (h:CI P w0 m0 F0 s a w m ω) (hc:evalO T s ty c=some (.v (.one (.bool b))))
  (hz:evalO T s o.type (if b then x else y)=some z):GivesA P w0 m0 F0 s o z a w ω:=by
 have hac:=bool_of h hc
 refine givesA_of_value h (v:=a.eval (if b then x else y)) ?_ (evalO_sound h hz)
 unfold execOp
 simp only [ho,hac,Sem.run_bind,asBool,Sem.run_pure,Result.andThen_ok]
 cases b<;>rfl
theorem givesA_not {o:Oper} {t:TypeId} {x:Operand} {ty:TypeId} {b:Bool} (ho:o.op=.unOp .not t x) (h:CI P w0 m0 F0 s a w m ω) (hx:evalO T s ty x=some (.v (.one (.bool b)))) :
  GivesA P w0 m0 F0 s o (.v (.one (.bool !b))) a w ω:=by
 have hac:=bool_of h hx
 refine givesA_of_value h (v:=.bool !b) ?_ (Rep.bool _)
 unfold execOp
 simp only [ho,hac,Op.unary,Sem.run_bind,Sem.run_pure,Result.andThen_ok]
theorem givesA_neg {o:Oper} {t:TypeId} {x:Operand} {ty:TypeId} {k:IntKind} {n:Int} (ho:o.op=.unOp .neg t x) (h:CI P w0 m0 F0 s a w m ω) (hx:evalO T s ty x=some (.v (.one (.int k n)))) :
  GivesA P w0 m0 F0 s o (.v (.one (.int k (k.wrap (0 - n))))) a w ω:=by
 have hac:=int_of h hx
 refine givesA_of_value h (v:=.int k (k.wrap (0 - n))) ?_ (Rep.int _ _)
 unfold execOp
 simp only [ho,hac,Op.unary,Op.intArith,Sem.run_bind,Sem.run_pure,Result.andThen_ok]
def lenL:L→Option Int
 | .sl _ xs=>some xs.length
 | .nil _=>some 0
 | .str s=>some s.size
 | .ref _ _ n=>some n
 | _=>none
def lenKind (i:TI):L→Bool|.str _=>i.isStr|_=>i.elem.isSome
theorem run_call_builtin {o:Oper} {b:Builtin} {args:Array Operand} {tys:Array TypeId} (ho:o.op=.call {callee:=.builtin b,args:=args,argTypes:=tys}) :
  ∃cs,(execOp a.eval o).run P w=(builtin b tys o.type cs (args.map a.eval)).run P w:=by
 unfold execOp
 simp only [ho,resolve,invoke,Sem.run_bind,Sem.run_pure,Result.andThen_ok]
 exact ⟨_,rfl⟩
theorem givesA_len {o:Oper} {t:TypeId} {i:TI} {x:Operand} {l:L} {n:Int} (ho:o.op=.call {callee:=.builtin .len,args:=#[x],argTypes:=#[t]}) (hT:tiOk P t i=true) (h:CI P w0 m0 F0 s a w m ω)
  (hx:evalO T s t x=some (.v (.one l))) (hn:lenL l=some n) (hk:lenKind i l=true):GivesA P w0 m0 F0 s o (.v (.one (.int .i64 n))) a w ω:=by
 have h1:=evalO_sound h hx
 generalize hac:a.eval x=u at h1
 refine givesA_of_value h (v:=.int .i64 n) ?_ (Rep.int _ _)
 obtain ⟨q,hq⟩:=run_call_builtin (P:=P) (a:=a) (w:=w) ho
 rw [hq]
 simp only [List.map_toArray,List.map_cons,List.map_nil,hac,builtin]
 have sl:∀A c (k:Nat),i.elem.isSome=true→u=.slice A k c→n=k→(do
    let r ←Builtin.len_ #[t] o.type #[u]
    pure (Next.value r):Sem Next).run P w=.ok (.value (.int .i64 n)) w:=by
  intro A c k hk hu hn
  obtain ⟨e,he⟩:=Option.isSome_iff_exists.1 hk
  have hue:=(tiFacts hT).elem e he
  subst hu hn
  simp [Builtin.len_,run_underlying hue,goInt]
 cases l<;>simp only [lenL,Option.some.injEq,reduceCtorEq] at hn
 ·have h1:Rep m u (.str _):=h1
  cases h1
  have hu:=(tiFacts hT).str (by simpa [lenKind] using hk)
  simp [Builtin.len_,run_underlying hu,goInt,hn]
 ·have h1:Rep m u (.sl _ _):=h1
  cases h1 with
  | slNil=>exact sl none 0 0 hk rfl (by simpa using hn.symm)
  | sl ad len cap _ _ vals hlen=>exact sl _ _ _ hk rfl (by omega)
 ·have h1:Rep m u (.nil _):=h1
  cases h1
  exact sl none 0 0 hk rfl (by simpa using hn.symm)
 ·rcases h1 with ⟨_,_,rfl,rfl⟩|⟨b,ad,_,_,rfl,_⟩
  ·exact sl none 0 0 hk rfl (by simpa using hn.symm)
  ·exact sl _ _ _ hk rfl hn.symm
theorem givesA_extract {o:Oper} {x:Operand} {k:Nat} {ty:TypeId} {xs:List V} {y:V} (ho:o.op=.extract x k) (h:CI P w0 m0 F0 s a w m ω) (hx:evalO T s ty x=some (.tup xs)) (hy:xs[k]?=some y) :
  GivesA P w0 m0 F0 s o (.v y) a w ω:=by
 obtain ⟨vs,h1,h2,h3⟩:=evalO_sound h hx
 obtain ⟨u,h4,h5⟩:=h3 k y hy
 refine givesA_of_value h (v:=u) ?_ h5
 unfold execOp
 simp only [ho,h1,Instr.extract,h4,Sem.run_bind,Sem.run_pure,Result.andThen_ok]
def isPtrLike:L→Bool
 | .fz _=>true
 | .ptr _ _=>true
 | .eptr _ _ _=>true
 | .clo _ _=>true
 | _=>false
theorem givesA_nilCheck {o:Oper} {x:Operand} {ty:TypeId} {y:L} (ho:o.op=.nilCheck x) (h:CI P w0 m0 F0 s a w m ω) (hx:evalO T s ty x=some (.v (.one y))) (hy:isPtrLike y=true) :
  GivesA P w0 m0 F0 s o (.v (.one y)) a w ω:=by
 have h1:=evalO_sound h hx
 refine givesA_of_value h (v:=a.eval x) ?_ h1
 unfold execOp
 cases y<;>simp only [isPtrLike,Bool.false_eq_true] at hy
 ·obtain ⟨vs,h2,_⟩:=h1
  simp only [ho,h2,Sem.run_pure]
 ·obtain ⟨ad,had,_⟩:=Rep.frep h1
  simp only [ho,had,Sem.run_pure]
 ·have had:a.eval x=_:=h1
  simp only [ho,had,Sem.run_pure]
 ·obtain ⟨b,_,had⟩:=h1
  simp only [ho,had,Sem.run_pure]
theorem run_part {t:TypeId} {i:TI} (hT:tiOk P t i=true) {cs:Array Value} {ls:List L} (hl:cs.size=ls.length) (hr:∀(j:Nat) (l:L),ls[j]?=some l→∃v,cs[j]?=some v∧ERep m ω v l) {off:Nat} (hfit:off+i.size≤ls.length) {x:V}
  (hx:asV i.agg ((ls.drop off).take i.size)=some x):∃v,(part t cs off).run P w=.ok v w∧VRep m ω v x:=by
 have F:=tiFacts hT
 obtain ⟨inf,hinf,hsz,_⟩:=F.info
 obtain ⟨d,hd,hag⟩:=F.agg
 by_cases hg:i.agg=true
 ·rw [hg] at hx hag
  simp only [asV,if_true,Option.some.injEq] at hx
  subst hx
  refine ⟨.agg (cs.extract off (off+inf.size)),?_,⟨_,rfl,by simp [hsz];omega,fun j l hj=>?_⟩⟩
  ·simp only [part,Sem.run_bind,Sem.run_pure,Result.andThen_ok,run_isAgg hd,hag,if_true,run_sizeOf hinf]
  ·rw [List.getElem?_take] at hj
   split at hj
   ·rename_i hlt
    rw [List.getElem?_drop] at hj
    obtain ⟨v,h1,h2⟩:=hr _ _ hj
    refine ⟨v,?_,h2⟩
    rw [Array.getElem?_extract,if_pos (by omega)]
    exact h1
   ·cases hj
 ·have hg':i.agg=false:=by simpa using hg
  rw [hg'] at hx hag
  simp only [asV,Bool.false_eq_true,if_false] at hx
  have hone:∃l,(ls.drop off).take i.size=[l]:=by
   match hq:(ls.drop off).take i.size,hx with
   | [l],_=>exact ⟨l,rfl⟩
  obtain ⟨l,hone⟩:=hone
  rw [hone] at hx
  simp only [Option.some.injEq] at hx
  subst hx
  have hl0:ls[off]?=some l:=by
   have:((ls.drop off).take i.size)[0]?=some l:=by rw [hone];rfl
   rw [List.getElem?_take] at this
   split at this
   ·simpa [List.getElem?_drop] using this
   ·cases this
  obtain ⟨v,h1,h2⟩:=hr off l hl0
  refine ⟨v,?_,h2⟩
  simp only [part,Sem.run_bind,Sem.run_pure,Result.andThen_ok,run_isAgg hd,hag,Bool.false_eq_true,if_false,h1]
theorem givesA_field {o:Oper} {t ft:TypeId} {i j:TI} {x:Operand} {ty:TypeId} {f off:Nat} {l:List (Nat×TypeId)} {ls:List L} {y:V} (ho:o.op=.field t x f) (hT:tiOk P t i=true) (hfl:i.fields=some l) (hf:l[f]?=some (off,ft))
  (hJ:tiOk P ft j=true) (h:CI P w0 m0 F0 s a w m ω) (hx:evalO T s ty x=some (.v (.agg ls))) (hfit:off+j.size≤ls.length) (hy:asV j.agg ((ls.drop off).take j.size)=some y):GivesA P w0 m0 F0 s o (.v y) a w ω:=by
 obtain ⟨cs,h1,h2,h3⟩:=evalO_sound h hx
 obtain ⟨fs,g1,g2,g3⟩:=(tiFacts hT).fields l hfl
 rw [←g2,List.getElem?_map,Option.map_eq_some_iff] at hf
 obtain ⟨fd,hf,he⟩:=hf
 simp only [Prod.mk.injEq] at he
 obtain ⟨rfl,rfl⟩:=he
 have hf':fs[f]?=some fd:=by simpa using hf
 obtain ⟨v,h4,h5⟩:=run_part (w:=w) (ω:=ω) hJ h2 h3 hfit hy
 refine givesA_of_value h (v:=v) ?_ h5
 unfold execOp
 simp only [ho,h1,Instr.field,Sem.run_bind,run_underlying g1,Result.andThen_ok,hf',asAgg,Sem.run_pure,h4]
def setL:Nat→List L→List L→List L
 | 0,[],ls=>ls
 | 0,v::vs,_::ls=>v::setL 0 vs ls
 | n+1,vs,l::ls=>l::setL n vs ls
 | _,_,[]=>[]
theorem setL_length:∀(n:Nat) (vs ls:List L),(setL n vs ls).length=ls.length
 | 0,[],ls=>by simp [setL]
 | 0,v::vs,[]=>by simp [setL]
 | 0,v::vs,_::ls=>by simp [setL,setL_length 0 vs ls]
 | n+1,vs,[]=>by simp [setL]
 | n+1,vs,l::ls=>by simp [setL,setL_length n vs ls]
theorem setL_get:∀(n:Nat) (vs ls:List L) (k:Nat),k<ls.length→(setL n vs ls)[k]?=if n≤k∧k<n+vs.length then vs[k - n]? else ls[k]?
 | 0,[],ls,k,hk=>by
  rw [if_neg (by simp)]
  cases ls<;>simp [setL]
 | 0,v::vs,[],k,hk=>by simp at hk
 | 0,v::vs,_::ls,0,hk=>by simp [setL]
 | 0,v::vs,_::ls,k+1,hk=>by
  simp only [setL,List.getElem?_cons_succ]
  rw [setL_get 0 vs ls k (by simpa using hk)]
  simp
 | n+1,vs,[],k,hk=>by simp at hk
 | n+1,vs,l::ls,0,hk=>by simp [setL]
 | n+1,vs,l::ls,k+1,hk=>by
  simp only [setL,List.getElem?_cons_succ]
  rw [setL_get n vs ls k (by simpa using hk)]
  by_cases hc:n≤k∧k<n+vs.length
  ·rw [if_pos hc,if_pos (by omega)]
   congr 1
   omega
  ·rw [if_neg hc,if_neg (by omega)]
theorem foldl_set:∀(l:List (Value×Nat)) (off:Nat) (cs:Array Value) (k:Nat) (st:Nat),(∀(j:Nat) (p:Value×Nat),l[j]?=some p→p.2=st+j) →
  (l.foldl (fun cs (p:Value×Nat)=>cs.setIfInBounds (off+p.2) p.1) cs).size=cs.size ∧
  (k<cs.size→(l.foldl (fun cs (p:Value×Nat)=>cs.setIfInBounds (off+p.2) p.1) cs)[k]?=if off+st≤k∧k<off+st+l.length then (l[k - off - st]?).map (·.1) else cs[k]?)
 | [],off,cs,k,st,_=>⟨rfl,fun hk=>by rw [if_neg (by simp)];rfl⟩
 | p::l,off,cs,k,st,hp=>by
  have hst:p.2=st:=by simpa using hp 0 p rfl
  obtain ⟨h1,h2⟩:=foldl_set l off (cs.setIfInBounds (off+p.2) p.1) k (st+1) (fun j q hq=>by have:=hp (j+1) q (by simpa using hq);omega)
  refine ⟨by simpa using h1,fun hk=>?_⟩
  rw [List.foldl_cons,h2 (by simpa using hk)]
  by_cases hc:off+(st+1)≤k∧k<off+(st+1)+l.length
  ·rw [if_pos hc,if_pos (by simp;omega)]
   have:k - off - st=(k - off - (st+1))+1:=by omega
   rw [this,List.getElem?_cons_succ]
  ·rw [if_neg hc,hst]
   by_cases hk2:k=off+st
   ·subst hk2
    rw [if_pos (by simp)]
    simp [hk]
   ·rw [if_neg (by simp;omega),Array.getElem?_setIfInBounds_ne (by omega)]
def partCells (T:TypeId→Option TI) (s:St) (ty:TypeId) (x:Operand):Option (List L) :=
 match evalO T s ty x with
 | some (.v (.one l))=>some [l]
 | some (.v (.agg ls))=>some ls
 | _=>none
def fillL (T:TypeId→Option TI) (s:St) (ty:TypeId) (place:Nat→Option (Nat×Nat)) (ls:List L):List (Nat×Operand)→Option (List L)
 | []=>some ls
 | (i,x)::rest =>
  match place i,partCells T s ty x with
  | some (off,size),some vs=>if vs.length=size∧off+size≤ls.length then fillL T s ty place (setL off vs ls) rest else none
  | _,_=>none
theorem cells_one {v:Value} {l:L} (h:ERep m ω v l):v.cells=#[v]:=by
 have:=h.oneCell
 cases v<;>first|rfl|cases this
theorem partCells_sound (h:CI P w0 m0 F0 s a w m ω) {ty:TypeId} {x:Operand} {vs:List L} (hx:partCells T s ty x=some vs) :
  (a.eval x).cells.size=vs.length∧∀(j:Nat) (l:L),vs[j]?=some l→∃v,(a.eval x).cells[j]?=some v∧ERep m ω v l:=by
 unfold partCells at hx
 split at hx
 ·rename_i l hl
  simp only [Option.some.injEq] at hx
  subst hx
  have h1:ERep m ω (a.eval x) l:=evalO_sound h hl
  rw [cells_one h1]
  refine ⟨rfl,fun j l' hj=>?_⟩
  cases j with
  | zero=>simp only [List.getElem?_cons_zero,Option.some.injEq] at hj;subst hj;exact ⟨_,rfl,h1⟩
  | succ j=>simp at hj
 ·rename_i ls hl
  simp only [Option.some.injEq] at hx
  subst hx
  obtain ⟨cs,h1,h2,h3⟩:=evalO_sound h hl
  rw [h1]
  exact ⟨h2,h3⟩
 ·cases hx
theorem fill_sound (h:CI P w0 m0 F0 s a w m ω) {ty:TypeId} {place:Nat→Option (Nat×Nat)}:∀(parts:List (Nat×Operand)) (cs:Array Value) (ls ls':List L),cs.size=ls.length →
  (∀(j:Nat) (l:L),ls[j]?=some l→∃v,cs[j]?=some v∧ERep m ω v l)→fillL T s ty place ls parts=some ls' →
  ∃cs',Instr.fill place cs (parts.map fun p=>(p.1,a.eval p.2))=some cs'∧cs'.size=ls'.length∧ls'.length=ls.length∧∀(j:Nat) (l:L),ls'[j]?=some l→∃v,cs'[j]?=some v∧ERep m ω v l
 | [],cs,ls,ls',hs,hr,hf=>by
  simp only [fillL,Option.some.injEq] at hf
  subst hf
  exact ⟨cs,rfl,hs,rfl,hr⟩
 | (i,x)::rest,cs,ls,ls',hs,hr,hf=>by
  simp only [fillL] at hf
  split at hf
  ·rename_i off size vs hp hv
   split at hf
   ·rename_i hc
    obtain ⟨h1,h2⟩:=partCells_sound h hv
    have hz:=fun k=>foldl_set ((a.eval x).cells.zipIdx.toList) off cs k 0 (by
     intro j p hj
     simp at hj
     obtain ⟨q,_,rfl⟩:=hj
     simp)
    have hlen:((a.eval x).cells.zipIdx.toList).length=vs.length:=by simp [h1]
    have hfe:(a.eval x).cells.zipIdx.foldl (fun cs (p:Value×Nat)=>cs.setIfInBounds (off+p.2) p.1) cs=((a.eval x).cells.zipIdx.toList).foldl (fun cs (p:Value×Nat)=>cs.setIfInBounds (off+p.2) p.1) cs:=by
     rw [←Array.foldl_toList]
    obtain ⟨cs',h3,h4,h5,h6⟩:=fill_sound h rest ((a.eval x).cells.zipIdx.foldl (fun cs (p:Value×Nat)=>cs.setIfInBounds (off+p.2) p.1) cs) (setL off vs ls) ls'
     (by rw [hfe,(hz 0).1,setL_length];exact hs)
     (by
      intro j l hj
      have hjl:j<ls.length:=by
       have:=(List.getElem?_eq_some_iff.1 hj).1
       rwa [setL_length] at this
      rw [setL_get off vs ls j hjl] at hj
      rw [hfe,(hz j).2 (by omega)]
      split at hj
      ·rename_i hjc
       rw [if_pos (by omega)]
       obtain ⟨v,h7,h8⟩:=h2 _ _ hj
       refine ⟨v,?_,h8⟩
       simp only [Nat.sub_zero]
       simp [h7]
      ·rename_i hjc
       rw [if_neg (by omega)]
       exact hr j l hj) hf
    refine ⟨cs',?_,h4,by rw [h5,setL_length],h6⟩
    simp only [List.map_cons,Instr.fill,hp]
    rw [if_neg (by simp;omega)]
    exact h3
   ·cases hf
  ·cases hf
def placesOf (T:TypeId→Option TI):List (Nat×TypeId)→Option (List (Nat×Nat))
 | []=>some []
 | (off,t)::l=>match T t,placesOf T l with|some i,some r=>some ((off,i.size)::r)|_,_=>none
theorem placesOf_run (hT:TabOk P T):∀(fs:List Field) (pl:List (Nat×Nat)),placesOf T (fs.map fun f=>(f.offset,f.type))=some pl →
  fs.mapM (fun f=>(P.info? f.type).map fun i=>(f.offset,i.size))=some pl
 | [],pl,h=>by simpa [placesOf] using h
 | f::fs,pl,h=>by
  simp only [List.map_cons,placesOf] at h
  split at h
  ·rename_i i r hi hr
   simp only [Option.some.injEq] at h
   obtain ⟨inf,h1,h2,_⟩:=(tiFacts (hT _ _ hi)).info
   simp [List.mapM_cons,h1,h2,placesOf_run hT fs r hr,h]
  ·cases h
theorem givesA_build {o:Oper} {t:TypeId} {i:TI} {parts:Array (Nat×Operand)} {l:List (Nat×TypeId)} {pl:List (Nat×Nat)} {z ls:List L} {ty:TypeId} (ho:o.op=.build t parts) (hTab:TabOk P T) (hi:T t=some i)
  (hl:i.fields=some l) (hz:i.zero=some z) (hp:placesOf T l=some pl) (h:CI P w0 m0 F0 s a w m ω) (hf:fillL T s ty (fun k=>pl[k]?) z parts.toList=some ls):GivesA P w0 m0 F0 s o (.v (.agg ls)) a w ω:=by
 have F:=tiFacts (hTab _ _ hi)
 obtain ⟨fs,g1,g2,_⟩:=F.fields l hl
 obtain ⟨inf,zv,g3,g4,g5,g6⟩:=F.zero z hz
 have hrun:=run_places (P:=P) w fs.toList pl (placesOf_run hTab fs.toList pl (by rw [g2];exact hp))
 obtain ⟨g7,g8⟩:=matchAll_rep (m:=m) zv.cells.toList z g5
 obtain ⟨cs,h1,h2,_,h4⟩:=fill_sound h parts.toList zv.cells z ls (by simpa using g7) (fun j l hj=>let ⟨v,h5,h6⟩:=g8 j l hj;⟨v,by simpa using h5,h6.erep⟩) hf
 refine givesA_of_value h (v:=.agg cs) ?_ ⟨cs,rfl,h2,h4⟩
 have hmap:(parts.map fun x=>(x.1,a.eval x.2)).toList=parts.toList.map fun p=>(p.1,a.eval p.2):=by simp
 unfold execOp
 simp only [ho,Instr.build,Sem.run_bind,run_underlying g1,Result.andThen_ok,typeInfo,zeroValue,Array.mapM_eq_mapM_toList,hmap]
 simp [g3,g4,hrun,h1]
end
end Go.Bw
namespace Go.Bw
open Go.RowKit
section
variable {P:Program} {w0:World} {m0:Mem} {s:St} {a:Act} {w:World} {m:Mem} {ω:Wh} {F0:Home} {T:TypeId→Option TI}
def L.isFz:L→Bool
 | .ptr _ _=>false
 | .eptr _ _ _=>false
 | .ref _ _ _=>false
 | .clo _ caps=>caps.all fun l=>match l with|.ptr _ _=>false|.eptr _ _ _=>false|_=>true
 | _=>true
def L.clos:L→L
 | .nil sz=>.sl sz []
 | l=>if l.isFz then l else .any
theorem Rep.clos {v:Value} {l:L} (h:Rep m v l) (hl:l.isFz=true):Rep m v l.clos:=by
 cases l with
 | nil sz =>
  cases h
  exact .slNil sz
 | _=>simp only [L.clos];rw [if_pos hl];exact h
theorem ERep.rep {v:Value} {l:L} (h:ERep m ω v l) (hl:l.isFz=true):Rep m v l:=by
 cases l with
 | ptr=>cases hl
 | eptr=>cases hl
 | ref=>cases hl
 | clo f caps =>
  obtain ⟨vs,rfl,h2,h3⟩:=h
  simp only [L.isFz,List.all_eq_true] at hl
  refine .clo f caps vs (fun i=>(vs[i]?).getD default) h2 (fun i u hu=>?_) (fun i u hu=>?_)
  ·obtain ⟨x,h4,_⟩:=h3 i u hu
   rw [h4];rfl
  ·obtain ⟨x,h4,h5⟩:=h3 i u hu
   rw [h4]
   rcases h5 with h5|h5
   ·exact h5
   ·have:=hl u (List.mem_of_getElem? hu)
    cases u with
    | ptr=>cases this
    | eptr=>cases this
    | _=>cases h5
 | _=>exact h
def rowMem (m:Mem) (b:Nat) (cs:Array Value):Mem:=fun x=>if x.block=b then (if x.spot=none then cs[x.off]? else none) else m x
theorem CI.newRow (h:CI P w0 m0 F0 s a w m ω) {w':World} (cs:Array Value) (e:TypeId) (fr:Nat×Nat) (hw:Below w.heap.size w w') (hh:w'.heap[w.heap.size]?=some (.cells cs e fr)) :
  CI P w0 m0 F0 s a w' (rowMem m w.heap.size cs) ω∧Mem.le m (rowMem m w.heap.size cs):=by
 have hle:Mem.le m (rowMem m w.heap.size cs):=fun x v hx=>by
  have:=World.block_lt_of_cell? w x (h.ok x v hx)
  simp only [rowMem,if_neg (Nat.ne_of_lt this)]
  exact hx
 refine ⟨h.grow hw hle (fun x hx=>by simp only [rowMem,if_neg (Nat.ne_of_lt hx)]) (fun x v hx=>?_),hle⟩
 simp only [rowMem] at hx
 by_cases hb:x.block=w.heap.size
 ·rw [if_pos hb] at hx
  split at hx
  ·rename_i hsp
   have:x=⟨w.heap.size,x.off,none⟩:=by cases x;simp_all
   rw [this,cell_of_row w' _ _ cs e fr hh]
   exact hx
  ·cases hx
 ·rw [if_neg hb] at hx
  rw [hw.cell (World.block_lt_of_cell? w x (h.ok x v hx))]
  exact h.ok x v hx
theorem rowMem_at (m:Mem) (b:Nat) (cs:Array Value) (j:Nat):rowMem m b cs ((⟨b,0,none⟩:Addr).add j)=cs[j]?:=by
 rw [Addr.add_lit]
 simp [rowMem]
def chunks (sz:Nat):Nat→List L→List (List L)
 | 0,_=>[]
 | n+1,ls=>ls.take sz::chunks sz n (ls.drop sz)
theorem chunks_length (sz:Nat):∀(n:Nat) (ls:List L),(chunks sz n ls).length=n
 | 0,_=>rfl
 | n+1,ls=>by simp [chunks,chunks_length sz n]
theorem chunks_size (sz:Nat):∀(n:Nat) (ls:List L),ls.length=n * sz→∀x∈chunks sz n ls,x.length=sz
 | 0,_,_,x,hx=>by simp [chunks] at hx
 | n+1,ls,h,x,hx=>by
  rw [Nat.add_mul] at h
  simp only [chunks,List.mem_cons] at hx
  rcases hx with rfl|hx
  ·simp;omega
  ·exact chunks_size sz n (ls.drop sz) (by simp;omega) x hx
theorem chunks_cell (sz:Nat):∀(n:Nat) (ls:List L) (i j:Nat) (u:L),cellOf (chunks sz n ls) i j=some u→ls[i * sz+j]?=some u∧j<sz
 | 0,_,i,j,u,h=>by simp [chunks,cellOf] at h
 | n+1,ls,0,j,u,h=>by
  simp only [chunks,cellOf,List.getElem?_cons_zero,Option.bind_some] at h
  rw [List.getElem?_take] at h
  split at h
  ·exact ⟨by simpa using h,by assumption⟩
  ·cases h
 | n+1,ls,i+1,j,u,h=>by
  have h':cellOf (chunks sz n (ls.drop sz)) i j=some u:=by simpa [chunks,cellOf] using h
  obtain ⟨h1,h2⟩:=chunks_cell sz n (ls.drop sz) i j u h'
  rw [List.getElem?_drop] at h1
  refine ⟨?_,h2⟩
  rw [Nat.add_mul]
  rw [←h1]
  congr 1
  omega
theorem rep_row {m:Mem} {b:Nat} {cs:Array Value} {sz n cap:Nat} {ls:List L} (hl:ls.length=n * sz) (hcap:n≤cap) (hr:∀(j:Nat) (l:L),ls[j]?=some l→∃v,cs[j]?=some v∧Rep m v l) (hle:Mem.le m (rowMem m b cs)) :
  Rep (rowMem m b cs) (.slice (some ⟨b,0,none⟩) n cap) (.sl sz (chunks sz n ls)):=by
 refine .sl ⟨b,0,none⟩ n cap sz _ (fun i j=>(cs[i * sz+j]?).getD default) (chunks_length sz n ls).symm hcap (chunks_size sz n ls hl) (fun i j u hu=>?_) (fun i j u hu=>?_)
 ·obtain ⟨h1,_⟩:=chunks_cell sz n ls i j u hu
  obtain ⟨v,h2,_⟩:=hr _ _ h1
  rw [rowMem_at,h2]
  rfl
 ·obtain ⟨h1,_⟩:=chunks_cell sz n ls i j u hu
  obtain ⟨v,h2,h3⟩:=hr _ _ h1
  rw [h2]
  exact h3.mono hle
def repL (z:List L):Nat→List L
 | 0=>[]
 | n+1=>z++repL z n
theorem repL_length (z:List L):∀n,(repL z n).length=n * z.length
 | 0=>by simp [repL]
 | n+1=>by simp [repL,repL_length z n,Nat.add_mul];omega
theorem repL_get (z:List L):∀(n j:Nat),j<n * z.length→(repL z n)[j]?=z[j % z.length]?
 | 0,j,h=>by simp at h
 | n+1,j,h=>by
  rw [Nat.add_mul] at h
  simp only [repL]
  by_cases hj:j<z.length
  ·rw [List.getElem?_append_left hj,Nat.mod_eq_of_lt hj]
  ·rw [List.getElem?_append_right (by omega),repL_get z n _ (by omega)]
   congr 1
   exact (Nat.mod_eq_sub_mod (by omega)).symm
theorem givesA_buildSlice {o:Oper} {t e:TypeId} {i j:TI} {len:Nat} {parts:Array (Nat×Operand)} {z ls:List L} {ty:TypeId} (ho:o.op=.buildSlice t len parts) (hTab:TabOk P T) (hi:T t=some i) (he:i.elem=some e) (hj:T e=some j)
  (hz:j.zero=some z) (hzl:z.length=j.size) (hsz:0<j.size) (hbig:len * j.size≤16777216) (h:CI P w0 m0 F0 s a w m ω)
  (hf:fillL T s ty (fun k=>some (k * j.size,j.size)) (repL z len) parts.toList=some ls) (hfz:ls.all L.isFz=true):GivesA P w0 m0 F0 s o (.v (.one (.sl j.size (chunks j.size len (ls.map L.clos))))) a w ω:=by
 have F:=tiFacts (hTab _ _ hj)
 have hu:=(tiFacts (hTab _ _ hi)).elem e he
 obtain ⟨inf,g1,g2,_⟩:=F.info
 obtain ⟨inf',zv,g3,g4,g5,_⟩:=F.zero z hz
 rw [g1] at g3
 injection g3 with g3
 subst g3
 obtain ⟨g7,g8⟩:=matchAll_rep (m:=m) zv.cells.toList z g5
 have hzs:zv.cells.size=j.size:=by simpa [hzl] using g7
 let init:Array Value:=(Array.range (len * j.size)).map (zv.cells[· % zv.cells.size]!)
 have hinit:init.size=(repL z len).length:=by simp [init,repL_length,hzl]
 have hir:∀(k:Nat) (l:L),(repL z len)[k]?=some l→∃v,init[k]?=some v∧ERep m ω v l:=by
  intro k l hk
  have hlt:k<len * j.size:=by
   have:=(List.getElem?_eq_some_iff.1 hk).1
   rwa [repL_length,hzl] at this
  rw [repL_get z len k (by rw [hzl];exact hlt)] at hk
  obtain ⟨v,h1,h2⟩:=g8 _ l hk
  refine ⟨v,?_,h2.erep⟩
  simp only [init,Array.getElem?_map,Array.getElem?_range,if_pos hlt,Option.map_some]
  rw [hzs,←hzl]
  have:k % z.length<zv.cells.size:=by rw [hzs,←hzl];exact Nat.mod_lt _ (by omega)
  rw [getElem!_pos zv.cells (k % z.length) this]
  have h1':zv.cells[k % z.length]?=some v:=by simpa using h1
  rw [Array.getElem?_eq_getElem this] at h1'
  exact h1'
 obtain ⟨cs,h1,h2,h3,h4⟩:=fill_sound h parts.toList init (repL z len) ls hinit hir hf
 obtain ⟨hci,hle⟩:=h.newRow (w':=w.alloc (.cells cs e (0,0))) cs e (0,0) (Below.alloc (Below.refl _ _) (Nat.le_refl _) _) (heap_alloc_new w _)
 refine givesA_of (by simp [plainOp,ho]) ?_
 refine gives_of_run (v:=.slice (some ⟨w.heap.size,0,none⟩) len len) (w':=w.alloc (.cells cs e (0,0))) ?_ ⟨rowMem m w.heap.size cs,hci,?_⟩
 ·have hmap:(parts.map fun x=>(x.1,a.eval x.2)).toList=parts.toList.map fun p=>(p.1,a.eval p.2):=by simp
  have h1':Instr.fill (fun i=>some (i * inf.size,inf.size)) ((Array.range (len * inf.size)).map (zv.cells[· % zv.cells.size]!)) (parts.toList.map fun p=>(p.1,a.eval p.2))=some cs:=by rw [g2];exact h1
  unfold execOp
  by_cases h0:len * inf.size=0
  ·have hr0:Array.range (len * inf.size)=#[]:=by rw [h0];rfl
   rw [hr0] at h1'
   simp only [List.map_toArray,List.map_nil] at h1'
   have hr1:∀f:Nat→Value,(Array.range 0).map f=#[]:=fun f=>by simp
   simp only [ho,Instr.buildSlice,Sem.run_bind,run_underlying hu,Result.andThen_ok,run_sizeOf g1,hmap]
   rw [if_neg (by omega),if_pos h0]
   simp only [Sem.run_pure,Sem.run_bind,Result.andThen_ok,h0,hr1,h1',newRow,newObj]
   rfl
  ·simp only [ho,Instr.buildSlice,Sem.run_bind,run_underlying hu,Result.andThen_ok,run_sizeOf g1,hmap]
   rw [if_neg (by rw [g2];omega),if_neg h0]
   simp only [zeroValue,typeInfo,Sem.run_bind,Sem.run,g1,g4,Result.andThen_ok,Sem.run_pure,h1',newRow,newObj,program]
   rfl
 ·refine rep_row (by rw [List.length_map,h3,repL_length,hzl]) (Nat.le_refl _) (fun j l hj=>?_) hle
  rw [List.getElem?_map,Option.map_eq_some_iff] at hj
  obtain ⟨l0,hj,rfl⟩:=hj
  obtain ⟨v,h5,h6⟩:=h4 j l0 hj
  have hz:=List.all_eq_true.1 hfz l0 (List.mem_of_getElem? hj)
  exact ⟨v,h5,(h6.rep hz).clos hz⟩
def capL:L→Bool
 | .fz _=>true
 | .ptr _ _=>true
 | .eptr _ _ _=>true
 | _=>false
def capsOf (s:St) (T:TypeId→Option TI) (ty:TypeId):List Operand→Option (List L)
 | []=>some []
 | x::r=>match evalO T s ty x,capsOf s T ty r with|some (.v (.one l)),some q=>if capL l then some (l::q) else none|_,_=>none
theorem capsOf_sound (h:CI P w0 m0 F0 s a w m ω) {ty:TypeId}:∀(l:List Operand) (caps:List L),capsOf s T ty l=some caps →
  l.length=caps.length∧∀(i:Nat) (u:L),caps[i]?=some u→∃x,(l.map a.eval)[i]?=some x∧(Rep m x u∨PRep ω x u)
 | [],caps,hc=>by simp only [capsOf,Option.some.injEq] at hc;subst hc;exact ⟨rfl,fun i u h=>by simp at h⟩
 | x::r,caps,hc=>by
  simp only [capsOf] at hc
  split at hc
  ·rename_i l q hx hq
   split at hc
   ·rename_i hl
    simp only [Option.some.injEq] at hc
    subst hc
    obtain ⟨h1,h2⟩:=capsOf_sound h r q hq
    refine ⟨by simp [h1],fun i u hu=>?_⟩
    cases i with
    | zero =>
     simp only [List.getElem?_cons_zero,Option.some.injEq] at hu
     subst hu
     have hv:ERep m ω (a.eval x) l:=evalO_sound h hx
     refine ⟨a.eval x,rfl,?_⟩
     cases l with
     | fz=>exact .inl hv
     | ptr=>exact .inr hv
     | eptr=>exact .inr hv
     | _=>cases hl
    | succ i=>exact h2 i u (by simpa using hu)
   ·cases hc
  ·cases hc
theorem givesA_makeFunc {o:Oper} {f:FuncId} {caps:Array Operand} {cs:List L} {ty:TypeId} (ho:o.op=.makeFunc (.func f) #[] caps) (h:CI P w0 m0 F0 s a w m ω) (hc:capsOf s T ty caps.toList=some cs) :
  GivesA P w0 m0 F0 s o (.v (.one (.clo f cs))) a w ω:=by
 obtain ⟨h1,h2⟩:=capsOf_sound h caps.toList cs hc
 refine givesA_of_value h (v:=.func (.func f) #[] (caps.toList.map a.eval).toArray) ?_ ⟨caps.toList.map a.eval,rfl,by simpa using h1,h2⟩
 have:caps.map a.eval=(caps.toList.map a.eval).toArray:=by
  apply Array.ext'
  simp
 unfold execOp
 simp only [ho,Instr.makeFunc,this,Array.map_empty,Sem.run_bind,Sem.run_pure,Result.andThen_ok]
theorem givesA_index {o:Oper} {t:TypeId} {i:TI} {x y:Operand} {ty ty':TypeId} {q:ByteArray} {k:IntKind} {n:Int} (ho:o.op=.index t x y) (hT:tiOk P t i=true) (hs:i.isStr=true) (h:CI P w0 m0 F0 s a w m ω)
  (hx:evalO T s ty x=some (.v (.one (.str q)))) (hy:evalO T s ty' y=some (.v (.one (.int k n)))) (h0:0≤n) (h1:n<q.size):GivesA P w0 m0 F0 s o (.v (.one (.int .u8 ((q.data.toList.getD n.toNat 0).toNat:Nat)))) a w ω:=by
 have hu:=(tiFacts hT).str hs
 have hax:=str_of h hx
 have hay:=int_of h hy
 have hlt:n.toNat<q.size:=by omega
 refine givesA_of_value h (v:=.int .u8 ((q.data.toList.getD n.toNat 0).toNat:Nat)) ?_ (Rep.int _ _)
 have hq:q[n.toNat]?=some (q.data.toList.getD n.toNat 0):=by
  have h3:q[n.toNat]?=some q[n.toNat]:=getElem?_pos q n.toNat hlt
  rw [h3]
  congr 1
  have hd:n.toNat<q.data.toList.length:=by simpa using hlt
  simp [List.getD,List.getElem?_eq_getElem hd]
  rfl
 unfold execOp
 simp only [ho,hax,hay,Instr.index,asIntOf,Sem.run_bind,Sem.run_pure,Result.andThen_ok,run_underlying hu,h0,if_true,hq]
theorem givesA_convInt {o:Oper} {t t':TypeId} {x:Operand} {ty:TypeId} {k k':IntKind} {n:Int} (ho:o.op=.convert t t' x) (hs:(P.underlying t).isSome=true) (hd:P.underlying t'=some (.int k')) (h:CI P w0 m0 F0 s a w m ω)
  (hx:evalO T s ty x=some (.v (.one (.int k n)))):GivesA P w0 m0 F0 s o (.v (.one (.int k' (k'.wrap n)))) a w ω:=by
 have hax:=int_of h hx
 refine givesA_of_value h (v:=.int k' (k'.wrap n)) ?_ (Rep.int _ _)
 obtain ⟨d,hd0⟩:=Option.isSome_iff_exists.1 hs
 unfold execOp
 simp only [ho,hax,convert,Sem.run_bind,run_underlying hd0,run_underlying hd,Result.andThen_ok,Conv.intToInt,Sem.run_pure]
theorem givesA_strBytes {o:Oper} {t t' e:TypeId} {i i':TI} {x:Operand} {ty:TypeId} {q:ByteArray} (ho:o.op=.convert t t' x) (hT:tiOk P t i=true) (hs:i.isStr=true) (hT':tiOk P t' i'=true) (he:i'.elem=some e) (hE:P.underlying e=some (.int .u8))
  (h:CI P w0 m0 F0 s a w m ω) (hx:evalO T s ty x=some (.v (.one (.str q)))):GivesA P w0 m0 F0 s o (.v (.one (.sl 1 (chunks 1 q.size (q.data.toList.map fun b=>L.int .u8 b.toNat))))) a w ω:=by
 have hu:=(tiFacts hT).str hs
 have hu':=(tiFacts hT').elem e he
 have hax:=str_of h hx
 let cap:=grownCap w q.size 0 e
 let cs:Array Value:=q.data.map (fun b=>Value.int .u8 b.toNat)++Array.replicate (cap - q.size) (.int .u8 0)
 let w1:=w.drew.alloc (.cells cs e (0,0))
 let w':=w1.freeze ⟨w.heap.size,cs.size,none⟩ 1
 have hh1:w1.heap[w.heap.size]?=some (.cells cs e (0,0)):=heap_alloc_new w.drew _
 have hb:Below w.heap.size w w':=by
  refine ⟨rfl,rfl,rfl,?_,fun k hk=>?_⟩
  ·show _≤(World.freeze w1 _ 1).heap.size
   simp [World.freeze,w1,World.alloc]
  ·show (World.freeze w1 _ 1).heap[k]?=_
   simp only [World.freeze,Nat.one_ne_zero,if_false,Array.getElem?_modify]
   rw [if_neg (by omega)]
   exact Below.heap_alloc w.drew _ k hk
 have hfr:∃fr,w'.heap[w.heap.size]?=some (.cells cs e fr):=by
  refine ⟨(cs.size,cs.size+1),?_⟩
  show (World.freeze w1 _ 1).heap[w.heap.size]?=_
  simp only [World.freeze,Nat.one_ne_zero,if_false,Array.getElem?_modify,if_true,hh1,Option.map_some]
  rfl
 obtain ⟨fr,hfr⟩:=hfr
 obtain ⟨hci,hle⟩:=h.newRow cs e fr hb hfr
 have hr:∀(j:Nat) (l:L),(q.data.toList.map fun b=>L.int .u8 (b.toNat:Int))[j]?=some l→∃v,cs[j]?=some v∧Rep m v l:=by
  intro j l hj
  simp only [List.getElem?_map,Option.map_eq_some_iff] at hj
  obtain ⟨b,hb,rfl⟩:=hj
  refine ⟨.int .u8 b.toNat,?_,.int _ _⟩
  have hlt:j<q.data.size:=by simpa using (List.getElem?_eq_some_iff.1 hb).1
  simp only [cs]
  rw [Array.getElem?_append_left (by simpa using hlt)]
  simp only [Array.getElem?_map]
  have:q.data[j]?=some b:=by simpa using hb
  rw [this];rfl
 have hcap:q.size≤cap:=grownCap_ge w q.size 0 e
 refine givesA_of (by simp [plainOp,ho]) ?_
 refine gives_of_run (v:=.slice (some ⟨w.heap.size,0,none⟩) q.size cap) (w':=w') ?_ ⟨_,hci,rep_row (by simp) hcap hr hle⟩
 have hsh:w1.shape? w.heap.size=some (e,cs.size):=by simp [World.shape?,hh1]
 unfold execOp
 simp only [ho,hax,convert,Sem.run_bind,run_underlying hu,run_underlying hu',run_underlying hE,Result.andThen_ok,Conv.stringToBytes,choose,Sem.run,Question.forced,Bool.false_eq_true,if_false,newRow,newObj,Sem.run_pure,markStringish,shape,freeze]
 have e2:(Question.appendCap q.size 0 e).cut (w.tape w.drawn (Question.appendCap q.size 0 e))=cap:=rfl
 simp only [e2]
 have hsh2:World.shape? {heap:=w.heap.push (.cells (q.data.map (fun b=>Value.int .u8 b.toNat)++Array.replicate (cap - q.size) (.int .u8 0)) e),tape:=w.tape,drawn:=w.drawn+1,os:=w.os,output:=w.output} w.heap.size=some (e,cs.size):=hsh
 simp only [hsh2,Sem.run,Result.andThen_ok]
 rfl
def convK (P:Program) (t:TypeId):Option IntKind:=match P.underlying t with|some (.int k)=>some k|_=>none
def maxL:L→L→Option L|.int k x,.int _ y=>some (.int k (if y > x then y else x))|_,_=>none
def minL:L→L→Option L|.int k x,.int _ y=>some (.int k (if y<x then y else x))|_,_=>none
theorem givesA_max {o:Oper} {tys:Array TypeId} {x y:Operand} {l1 l2 l:L} (ho:o.op=.call {callee:=.builtin .max,args:=#[x,y],argTypes:=tys}) (h:CI P w0 m0 F0 s a w m ω)
  (hx:evalO T s 0 x=some (.v (.one l1))) (hy:evalO T s 0 y=some (.v (.one l2))) (hl:maxL l1 l2=some l):GivesA P w0 m0 F0 s o (.v (.one l)) a w ω:=by
 obtain ⟨k,q,k',r,rfl,rfl,hl2⟩:∃k q k' r,l1=.int k q∧l2=.int k' r∧some (.int k (if r > q then r else q))=some l:=by
  unfold maxL at hl
  split at hl
  ·exact ⟨_,_,_,_,rfl,rfl,hl⟩
  ·cases hl
 have hac:=int_of h hx
 have had:=int_of h hy
 simp only [Option.some.injEq] at hl2
 subst hl2
 refine givesA_of_value h (v:=.int k (if r > q then r else q)) ?_ (Rep.int _ _)
 obtain ⟨q',hq⟩:=run_call_builtin (P:=P) (a:=a) (w:=w) ho
 rw [hq]
 simp only [List.map_toArray,List.map_cons,List.map_nil,hac,had,builtin]
 simp [Builtin.max_,Builtin.max2]
theorem givesA_min {o:Oper} {tys:Array TypeId} {x y:Operand} {l1 l2 l:L} (ho:o.op=.call {callee:=.builtin .min,args:=#[x,y],argTypes:=tys}) (h:CI P w0 m0 F0 s a w m ω)
  (hx:evalO T s 0 x=some (.v (.one l1))) (hy:evalO T s 0 y=some (.v (.one l2))) (hl:minL l1 l2=some l):GivesA P w0 m0 F0 s o (.v (.one l)) a w ω:=by
 obtain ⟨k,q,k',r,rfl,rfl,hl2⟩:∃k q k' r,l1=.int k q∧l2=.int k' r∧some (.int k (if r<q then r else q))=some l:=by
  unfold minL at hl
  split at hl
  ·exact ⟨_,_,_,_,rfl,rfl,hl⟩
  ·cases hl
 have hac:=int_of h hx
 have had:=int_of h hy
 simp only [Option.some.injEq] at hl2
 subst hl2
 refine givesA_of_value h (v:=.int k (if r<q then r else q)) ?_ (Rep.int _ _)
 obtain ⟨q',hq⟩:=run_call_builtin (P:=P) (a:=a) (w:=w) ho
 rw [hq]
 simp only [List.map_toArray,List.map_cons,List.map_nil,hac,had,builtin]
 simp [Builtin.min_,Builtin.min2]
def isSlice:L→Bool|.sl _ _=>true|.nil _=>true|.ref _ _ _=>true|_=>false
theorem gives_eqNil {o:Oper} {t t' e:TypeId} {i:TI} {x:Operand} {l:L} (ho:o.op=.binOp .eql t x (.const (.slice none 0 0)) t') (hT:tiOk P t i=true) (he:i.elem=some e) (h:CI P w0 m0 F0 s a w m ω)
  (hx:evalO T s t x=some (.v (.one l))) (hl:isSlice l=true):∃b,(∀n,nL l=some n→0<n→b=false)∧GivesA P w0 m0 F0 s o (.v (.one (.bool b))) a w ω:=by
 have hu:=(tiFacts hT).elem e he
 have h1:=evalO_sound h hx
 have hs:∃A n c,a.eval x=.slice A n c∧(∀k,nL l=some k→0<k→A.isNone=false):=by
  generalize a.eval x=u at h1
  cases l<;>simp only [isSlice,Bool.false_eq_true] at hl
  ·have h1:Rep m u (.sl _ _):=h1
   cases h1 with
   | slNil=>exact ⟨_,_,_,rfl,fun k hk h0=>by simp [nL] at hk;omega⟩
   | sl=>exact ⟨_,_,_,rfl,fun _ _ _=>rfl⟩
  ·have h1:Rep m u (.nil _):=h1
   cases h1
   exact ⟨_,_,_,rfl,fun k hk h0=>by simp [nL] at hk;omega⟩
  ·rcases h1 with ⟨_,_,rfl,rfl⟩|⟨b,ad,_,_,rfl,_⟩
   ·exact ⟨_,_,_,rfl,fun k hk h0=>by simp [nL] at hk;omega⟩
   ·exact ⟨_,_,_,rfl,fun _ _ _=>rfl⟩
 obtain ⟨A,n,c,hs,hn⟩:=hs
 refine ⟨A.isNone,hn,givesA_of_value h (v:=.bool A.isNone) ?_ (Rep.bool _)⟩
 have hr:=Lib.run_eql_slice_nil (P:=P) w t e A n c 0 0 hu
 unfold execOp
 simp only [ho,hs,eqGuard_at_slice,Sem.run_bind,Sem.run_pure,Result.andThen_ok]
 show ((binOp .eql t (.slice A n c) (.slice none 0 0)).run P w).andThen _=_
 rw [hr]
 rfl
def eqCell:L→L→Option Bool
 | .int k x,.int k' y=>if k=k' then some (x==y) else none
 | .bool x,.bool y=>some (x==y)
 | .str x,.str y=>some (x.toList==y.toList)
 | _,_=>none
def eqCells:List L→List L→Option Bool
 | [],[]=>some true
 | x::xs,y::ys=>(eqCell x y).bind fun b=>(eqCells xs ys).map fun c=>b&&c
 | _,_=>none
theorem eqCells_append:∀(xs ys xs' ys':List L) (b:Bool),xs.length=ys.length→eqCells (xs++xs') (ys++ys')=some b→∃c d,eqCells xs ys=some c∧eqCells xs' ys'=some d∧b=(c&&d)
 | [],[],xs',ys',b,_,h=>⟨true,b,rfl,h,by simp⟩
 | x::xs,y::ys,xs',ys',b,hl,h=>by
  simp only [List.cons_append,eqCells,Option.bind_eq_some_iff,Option.map_eq_some_iff] at h
  obtain ⟨e,h1,f,h2,rfl⟩:=h
  obtain ⟨c,d,h3,h4,rfl⟩:=eqCells_append xs ys xs' ys' f (by simpa using hl) h2
  exact ⟨e&&c,d,by simp [eqCells,h1,h3],h4,by simp [Bool.and_assoc]⟩
 | [],_::_,_,_,_,hl,_=>by simp at hl
 | _::_,[],_,_,_,hl,_=>by simp at hl
def L.kd:L→Nat
 | .int _ _=>0
 | .bool _=>1
 | .str _=>2
 | _=>3
def eqFs (P:Program) (rec_:TypeId→Option (List Nat)):List Field→Nat→Option (List Nat)
 | [],_=>some []
 | f::fs,n=>if f.name="_"∨f.offset≠n then none else
  match rec_ f.type,P.info? f.type with
  | some k,some i=>if i.size=k.length∧0<k.length then (eqFs P rec_ fs (n+k.length)).map (k++·) else none
  | _,_=>none
def eqOk (P:Program):Nat→TypeId→Option (List Nat)
 | 0,_=>none
 | d+1,t=>match P.underlying t with
  | some .bool=>some [1]
  | some (.int _)=>some [0]
  | some .string=>some [2]
  | some (.struct fs)=>if P.stoodInHeld t then none else eqFs P (eqOk P d) fs.toList 0
  | _=>none
def eqK (P:Program) (t:TypeId):Option (List Nat):=match P.underlying t with
 | some (.struct _)=>if P.eqGuardType P.depth t then none else eqOk P 5 t
 | _=>none
def CellsRep (m:Mem) (cs:List Value) (xs:List L):Prop:=cs.length=xs.length∧∀(j:Nat) (l:L),xs[j]?=some l→∃v,cs[j]?=some v∧Rep m v l
theorem CellsRep.sub {cs:List Value} {xs:List L} (h:CellsRep m cs xs) (n k:Nat):CellsRep m ((cs.drop n).take k) ((xs.drop n).take k):=by
 refine ⟨by simp [h.1],fun j l hj=>?_⟩
 rw [List.getElem?_take] at hj
 split at hj
 ·rename_i hlt
  rw [List.getElem?_drop] at hj
  obtain ⟨v,h1,h2⟩:=h.2 _ l hj
  exact ⟨v,by rw [List.getElem?_take,if_pos hlt,List.getElem?_drop];exact h1,h2⟩
 ·cases hj
def mkVal (P:Program) (t:TypeId) (cs:List Value):Value:=match P.underlying t with
 | some (.struct _)|some (.array _ _)=>.agg cs.toArray
 | _=>cs.headD undef
theorem run_part_mk {t:TypeId} {i:TypeInfo} {d:TypeDesc} (hi:P.info? t=some i) (hd:P.underlying t=some d) (cs:List Value) (off:Nat) (hfit:off+i.size≤cs.length) (h1:isAggD d=true∨i.size=1):(part t cs.toArray off).run P w=.ok (mkVal P t ((cs.drop off).take i.size)) w:=by
 unfold part mkVal
 simp only [Sem.run_bind,run_isAgg hd,Result.andThen_ok,hd]
 by_cases hag:isAggD d=true
 ·rw [hag]
  simp only [if_true,Sem.run_bind,run_sizeOf hi,Result.andThen_ok,Sem.run_pure]
  have:(cs.toArray.extract off (off+i.size))=((cs.drop off).take i.size).toArray:=by
   apply Array.ext'
   simp [List.take_drop,Nat.add_comm]
  rw [this]
  cases d<;>first|rfl|cases hag
 ·have hs:i.size=1:=h1.resolve_left hag
  have hlt:off<cs.length:=by omega
  have e1:(cs.drop off).take i.size=[cs[off]]:=by
   rw [hs,List.drop_eq_getElem_cons hlt]
   rfl
  have e2:cs.toArray[off]?=some cs[off]:=by simp [List.getElem?_eq_getElem hlt]
  rw [e1]
  simp only [hag,Bool.false_eq_true,if_false,e2,Sem.run_pure]
  cases d<;>first|rfl|(exact absurd rfl hag)
theorem run_eqFs {e:Nat} {rec_:TypeId→Option (List Nat)} (ih:∀t ks,rec_ t=some ks→∀(cs cs':List Value) (xs ys:List L) (b:Bool),CellsRep m cs xs→CellsRep m cs' ys→xs.map L.kd=ks→ys.map L.kd=ks→eqCells xs ys=some b →
   (Op.equalIn e t (mkVal P t cs) (mkVal P t cs')).run P w=.ok b w∧(∃d,P.underlying t=some d∧(isAggD d=true∨ks.length=1))) (cs cs':List Value) (xs ys:List L) (h1:CellsRep m cs xs) (h2:CellsRep m cs' ys) :
  ∀(fs:List Field) (n:Nat) (ks:List Nat) (b:Bool),eqFs P rec_ fs n=some ks→(xs.drop n).map L.kd=ks→(ys.drop n).map L.kd=ks→eqCells (xs.drop n) (ys.drop n)=some b→(Op.eqFields e cs.toArray cs'.toArray fs).run P w=.ok b w
 | [],n,ks,b,hf,hx,hy,hb=>by
  simp only [eqFs,Option.some.injEq] at hf
  subst hf
  have e1:xs.drop n=[]:=List.map_eq_nil_iff.1 hx
  have e2:ys.drop n=[]:=List.map_eq_nil_iff.1 hy
  rw [e1,e2] at hb
  simp only [eqCells,Option.some.injEq] at hb
  subst hb
  simp [Op.eqFields]
 | f::fs,n,ks,b,hf,hx,hy,hb=>by
  simp only [eqFs] at hf
  split at hf
  ·cases hf
  ·rename_i hc
   have hname:f.name≠"_":=fun h=>hc (.inl h)
   have hoff:f.offset=n:=Classical.byContradiction fun h=>hc (.inr h)
   split at hf
   ·rename_i k i hk hi
    split at hf
    ·rename_i hsz
     obtain ⟨hsz,hpos⟩:=hsz
     obtain ⟨ks',hr,rfl⟩:=Option.map_eq_some_iff.1 hf
     have hlx:(xs.drop n).length=k.length+ks'.length:=by have:=congrArg List.length hx;simpa using this
     have hly:(ys.drop n).length=k.length+ks'.length:=by have:=congrArg List.length hy;simpa using this
     have hx1:((xs.drop n).take k.length).map L.kd=k:=by rw [List.map_take,hx];simp
     have hy1:((ys.drop n).take k.length).map L.kd=k:=by rw [List.map_take,hy];simp
     have hx2:(xs.drop (n+k.length)).map L.kd=ks':=by rw [←List.drop_drop,List.map_drop,hx];simp
     have hy2:(ys.drop (n+k.length)).map L.kd=ks':=by rw [←List.drop_drop,List.map_drop,hy];simp
     have hb':eqCells ((xs.drop n).take k.length++xs.drop (n+k.length)) ((ys.drop n).take k.length++ys.drop (n+k.length))=some b:=by
      rw [←List.drop_drop,←List.drop_drop,List.take_append_drop,List.take_append_drop]
      exact hb
     obtain ⟨c,d,h3,h4,rfl⟩:=eqCells_append _ _ _ _ b (by simp;simp at hlx hly;omega) hb'
     obtain ⟨h5,dd,h6,h7⟩:=ih _ _ hk _ _ _ _ c (h1.sub n k.length) (h2.sub n k.length) hx1 hy1 h3
     have hfit:n+i.size≤cs.length:=by rw [h1.1,hsz];simp at hlx;omega
     have hfit':n+i.size≤cs'.length:=by rw [h2.1,hsz];simp at hly;omega
     have h7':isAggD dd=true∨i.size=1:=by rw [hsz];exact h7
     simp only [Op.eqFields,hoff]
     rw [if_pos hname]
     simp only [Sem.run_bind,run_part_mk (w:=w) hi h6 cs n hfit h7',run_part_mk (w:=w) hi h6 cs' n hfit' h7',Result.andThen_ok]
     rw [←hsz] at h5
     rw [h5]
     simp only [Result.andThen_ok]
     cases c with
     | false=>simp
     | true =>
      simp only [Bool.not_true,Bool.false_eq_true,if_false,Bool.true_and]
      exact run_eqFs ih cs cs' xs ys h1 h2 fs _ _ d hr hx2 hy2 h4
    ·cases hf
   ·cases hf
theorem run_eqTy:∀(d:Nat) (t:TypeId) (ks:List Nat),eqOk P d t=some ks→∀(e:Nat) (cs cs':List Value) (xs ys:List L) (b:Bool),CellsRep m cs xs→CellsRep m cs' ys→xs.map L.kd=ks→ys.map L.kd=ks→eqCells xs ys=some b →
  (Op.equalIn (e+d) t (mkVal P t cs) (mkVal P t cs')).run P w=.ok b w∧∃dd,P.underlying t=some dd∧(isAggD dd=true∨ks.length=1)
 | 0,t,ks,h=>by simp [eqOk] at h
 | d+1,t,ks,h=>by
  intro e cs cs' xs ys b h1 h2 hx hy hb
  have one:∀(k:Nat),ks=[k]→∃x y u v,xs=[x]∧ys=[y]∧cs=[u]∧cs'=[v]∧L.kd x=k∧L.kd y=k∧Rep m u x∧Rep m v y∧eqCell x y=some b:=by
   intro k hk
   subst hk
   have hlx:xs.length=1:=by have:=congrArg List.length hx;simpa using this
   have hly:ys.length=1:=by have:=congrArg List.length hy;simpa using this
   obtain ⟨x,rfl⟩:=List.length_eq_one_iff.1 hlx
   obtain ⟨y,rfl⟩:=List.length_eq_one_iff.1 hly
   obtain ⟨u0,rfl⟩:=List.length_eq_one_iff.1 (h1.1.trans hlx)
   obtain ⟨v0,rfl⟩:=List.length_eq_one_iff.1 (h2.1.trans hly)
   obtain ⟨u,hu,hu'⟩:=h1.2 0 x rfl
   obtain ⟨v,hv,hv'⟩:=h2.2 0 y rfl
   simp only [List.getElem?_cons_zero,Option.some.injEq] at hu hv
   subst hu hv
   refine ⟨x,y,_,_,rfl,rfl,rfl,rfl,by simpa using hx,by simpa using hy,hu',hv',?_⟩
   simp only [eqCells,Option.bind_eq_some_iff,Option.map_some,Option.some.injEq,Bool.and_true] at hb
   obtain ⟨q,h3,rfl⟩:=hb
   exact h3
  simp only [eqOk] at h
  split at h
  ·rename_i hd
   simp only [Option.some.injEq] at h
   obtain ⟨x,y,u,v,rfl,rfl,rfl,rfl,kx,ky,hu,hv,hb⟩:=one 1 h.symm
   refine ⟨?_,_,hd,.inr (by rw [←h];rfl)⟩
   have e1:mkVal P t [u]=u:=by unfold mkVal;rw [hd];rfl
   have e2:mkVal P t [v]=v:=by unfold mkVal;rw [hd];rfl
   rw [e1,e2]
   cases x<;>simp [L.kd] at kx
   cases y<;>simp [L.kd] at ky
   cases hu;cases hv
   simp only [eqCell,Option.some.injEq] at hb
   subst hb
   exact run_equalIn_bool' w (e+d) t _ _ hd
  ·rename_i q hd
   simp only [Option.some.injEq] at h
   obtain ⟨x,y,u,v,rfl,rfl,rfl,rfl,kx,ky,hu,hv,hb2⟩:=one 0 h.symm
   refine ⟨?_,_,hd,.inr (by rw [←h];rfl)⟩
   have e1:mkVal P t [u]=u:=by unfold mkVal;rw [hd];rfl
   have e2:mkVal P t [v]=v:=by unfold mkVal;rw [hd];rfl
   rw [e1,e2]
   cases x<;>simp [L.kd] at kx
   cases y<;>simp [L.kd] at ky
   cases hu;cases hv
   rename_i k1 n1 k2 n2
   by_cases hkk:k1=k2
   ·subst hkk
    simp only [eqCell,if_true,Option.some.injEq] at hb2
    subst hb2
    exact run_equalIn_int w (e+d) t _ _ _ _ hd
   ·simp [eqCell,hkk] at hb2
  ·rename_i hd
   simp only [Option.some.injEq] at h
   obtain ⟨x,y,u,v,rfl,rfl,rfl,rfl,kx,ky,hu,hv,hb⟩:=one 2 h.symm
   refine ⟨?_,_,hd,.inr (by rw [←h];rfl)⟩
   have e1:mkVal P t [u]=u:=by unfold mkVal;rw [hd];rfl
   have e2:mkVal P t [v]=v:=by unfold mkVal;rw [hd];rfl
   rw [e1,e2]
   cases x<;>simp [L.kd] at kx
   cases y<;>simp [L.kd] at ky
   cases hu;cases hv
   simp only [eqCell,Option.some.injEq] at hb
   subst hb
   exact run_equalIn_string w (e+d) t _ _ hd
  ·rename_i fs hd
   split at h
   ·cases h
   ·rename_i hst
    refine ⟨?_,_,hd,.inl rfl⟩
    have e1:∀c,mkVal P t c=.agg c.toArray:=fun c=>by unfold mkVal;rw [hd]
    have hfo:P.fieldsOf t=fs:=by unfold Program.fieldsOf;rw [hd]
    have:=run_equalIn_struct (P:=P) w (e+d) t cs.toArray cs'.toArray (by rw [hfo];exact hd) (by simpa using hst)
    rw [e1,e1]
    show (Op.equalIn (e+d+1) t _ _).run P w=_
    rw [this,hfo]
    exact run_eqFs (fun t ks hk cs cs' xs ys b a1 a2 a3 a4 a5=>run_eqTy d t ks hk e cs cs' xs ys b a1 a2 a3 a4 a5) cs cs' xs ys h1 h2 fs.toList 0 ks b h (by simpa using hx) (by simpa using hy) (by simpa using hb)
  ·cases h
def eqOp (op:BinOp) (b:Bool):Option Bool:=match op with|.eql=>some b|.neq=>some !b|_=>none
theorem eqCell_fz {x y:L} {b:Bool} (h:eqCell x y=some b):x.isFz=true∧y.isFz=true:=by
 unfold eqCell at h
 split at h
 ·exact ⟨rfl,rfl⟩
 ·exact ⟨rfl,rfl⟩
 ·exact ⟨rfl,rfl⟩
 ·cases h
theorem eqCells_fz:∀(xs ys:List L) (b:Bool),eqCells xs ys=some b→(∀x∈xs,x.isFz=true)∧∀y∈ys,y.isFz=true
 | [],[],_,_=>⟨fun x hx=>(by cases hx),fun x hx=>(by cases hx)⟩
 | x::xs,y::ys,b,h=>by
  simp only [eqCells,Option.bind_eq_some_iff,Option.map_eq_some_iff] at h
  obtain ⟨e,h1,c,h2,_⟩:=h
  obtain ⟨h3,h4⟩:=eqCells_fz xs ys c h2
  obtain ⟨h5,h6⟩:=eqCell_fz h1
  exact ⟨fun z hz=>(List.mem_cons.1 hz).elim (fun e=>e▸h5) (h3 z),fun z hz=>(List.mem_cons.1 hz).elim (fun e=>e▸h6) (h4 z)⟩
 | [],_::_,_,h=>by simp [eqCells] at h
 | _::_,[],_,h=>by simp [eqCells] at h
theorem givesA_eqAgg {o:Oper} {op:BinOp} {t t':TypeId} {x y:Operand} {xs ys:List L} {ks:List Nat} {b b':Bool} (ho:o.op=.binOp op t x y t') (hk:eqK P t=some ks) (h:CI P w0 m0 F0 s a w m ω)
  (hx:evalO T s t x=some (.v (.agg xs))) (hy:evalO T s t y=some (.v (.agg ys))) (hkx:xs.map L.kd=ks) (hky:ys.map L.kd=ks) (hb:eqCells xs ys=some b) (hop:eqOp op b=some b'):GivesA P w0 m0 F0 s o (.v (.one (.bool b'))) a w ω:=by
 unfold eqK at hk
 split at hk
 ·rename_i fs hd
  split at hk
  ·cases hk
  ·rename_i hg
   obtain ⟨cs,h1,h2,h3⟩:=evalO_sound h hx
   obtain ⟨cs',h1',h2',h3'⟩:=evalO_sound h hy
   obtain ⟨h4,_⟩:=run_eqTy (w:=w) 5 t ks hk 9995 cs.toList cs'.toList xs ys b ⟨by simpa using h2,fun j l hj=>let ⟨v,h5,h6⟩:=h3 j l hj;⟨v,by simpa using h5,h6.rep ((eqCells_fz xs ys b hb).1 l (List.mem_of_getElem? hj))⟩⟩ ⟨by simpa using h2',fun j l hj=>let ⟨v,h5,h6⟩:=h3' j l hj;⟨v,by simpa using h5,h6.rep ((eqCells_fz xs ys b hb).2 l (List.mem_of_getElem? hj))⟩⟩ hkx hky hb
   have e1:∀c:Array Value,mkVal P t c.toList=.agg c:=fun c=>by unfold mkVal;rw [hd]
   rw [e1,e1] at h4
   refine givesA_of_value h (v:=.bool b') ?_ (Rep.bool _)
   have hgr:=run_eqGuard_agg (P:=P) w op t x y cs cs' (by simpa using hg)
   unfold execOp
   simp only [ho,h1,h1',Sem.run_bind,hgr,Result.andThen_ok]
   cases op<;>simp only [eqOp,Option.some.injEq,reduceCtorEq] at hop
   ·subst hop
    rw [run_eql_struct,h4]
    rfl
   ·subst hop
    rw [run_neq_struct,h4]
    rfl
 ·cases hk
end
end Go.Bw
namespace Go.Bw
open Go.RowKit
section
variable {P:Program} {w0:World} {m0:Mem} {s s':St} {a:Act} {w w':World} {m:Mem} {ω:Wh} {F0:Home} {T:TypeId→Option TI}
def Moves (P:Program) (w0:World) (m0:Mem) (F0:Home) (o:Oper) (a:Act) (w:World) (s':St):Prop:=Gives P o a w fun v w'=>Conc P w0 m0 F0 s' (a.put o.dst v) w'
def St.putO (s:St) (d:Option Tmp) (x:A):St:=match d with|some d=>s.put d x|none=>s
def St.okD (s:St) (d:Option Tmp):Prop:=match d with|some d=>d<s.n|none=>True
theorem CI.putO (h:CI P w0 m0 F0 s a w m ω) {d:Option Tmp} {v:Value} {x:A} (hd:s.okD d) (hx:ARep m ω v x):CI P w0 m0 F0 (s.putO d x) (a.put d v) w m ω:=by
 cases d with
 | none=>exact h
 | some d=>exact h.put hd hx
theorem GivesA.moves {o:Oper} {x:A} (h:GivesA P w0 m0 F0 s o x a w ω) (hd:s.okD o.dst):Moves P w0 m0 F0 o a w (s.putO o.dst x) :=
 Gives.mono h.1 fun _ _ ⟨m',hc,hx⟩=>⟨m',ω,hc.putO hd hx⟩
def St.newBox (s:St) (d:Nat) (ls:List L):St:=(s.newBox0 d ls).put d (.v (.one (.ptr d 0)))
theorem moves_box {o:Oper} {e:TypeId} {x:Operand} {ty:TypeId} {d:Nat} {ls:List L} (ho:o.op=.box e x) (hd:o.dst=some d) (hn:d<s.n) (h:CI P w0 m0 F0 s a w m ω) (hx:partCells T s ty x=some ls):Moves P w0 m0 F0 o a w (s.newBox d ls):=by
 obtain ⟨h1,h2⟩:=partCells_sound h hx
 obtain ⟨ω',hb,hbb⟩:=h.newBox d hn (a.eval x).cells e ls h1 h2
 refine gives_of_run (v:=.pointer (some ⟨w.heap.size,0,none⟩)) (w':=w.alloc (.cells (a.eval x).cells e (0,0))) ?_ ⟨m,ω',?_⟩
 ·unfold execOp
  simp only [ho,Instr.box,newVar,newRow,newObj,Sem.run_bind,Sem.run,Result.andThen_ok,Sem.run_pure]
  rfl
 ·rw [hd]
  exact hb.put hn (by show _=_;rw [hbb])
theorem moves_alloc {o:Oper} {e:TypeId} {i:TI} {d:Nat} {ls:List L} (ho:o.op=.alloc e) (hd:o.dst=some d) (hn:d<s.n) (hT:tiOk P e i=true) (hz:i.zero=some ls) (h:CI P w0 m0 F0 s a w m ω) :
  Moves P w0 m0 F0 o a w (s.newBox d ls):=by
 obtain ⟨inf,z,g1,g2,g3,_⟩:=(tiFacts hT).zero ls hz
 obtain ⟨h1,h2⟩:=matchAll_rep (m:=m) z.cells.toList ls g3
 obtain ⟨ω',hb,hbb⟩:=h.newBox d hn z.cells e ls (by simpa using h1) (fun j l hj=>let ⟨v,h5,h6⟩:=h2 j l hj;⟨v,by simpa using h5,h6.erep⟩)
 refine gives_of_run (v:=.pointer (some ⟨w.heap.size,0,none⟩)) (w':=w.alloc (.cells z.cells e (0,0))) ?_ ⟨m,ω',?_⟩
 ·unfold execOp
  simp only [ho,Instr.alloc,zeroValue,typeInfo,program,newVar,newRow,newObj,Sem.run_bind,Sem.run,Result.andThen_ok,Sem.run_pure,g1,g2]
  rfl
 ·rw [hd]
  exact hb.put hn (by show _=_;rw [hbb])
theorem XRep.grown {G:Nat→Prop} {v:Value} {l:L} {b:Nat} (h:XRep m w ω G v l) (hg:w.grownBy w' (some b)) (hG:∀k,G k→k<w.heap.size∧k≠b):XRep m w' ω G v l :=
 h.keep (Mem.le_refl m) fun k hk=>hg.block k (hG k hk).1 fun e=>(hG k hk).2 (by injection e)
theorem RCell.grown {G:Nat→Prop} {v:Value} {u:L} {o:Option L} {b:Nat} (h:RCell m w ω G v u o) (hg:w.grownBy w' (some b)) (hG:∀k,G k→k<w.heap.size∧k≠b):RCell m w' ω G v u o :=
 h.keep (Mem.le_refl m) fun k hk=>hg.block k (hG k hk).1 fun e=>(hG k hk).2 (by injection e)
theorem CI.boxUpd (h:CI P w0 m0 F0 s a w m ω) {id:Nat} {ls0 ls:List L} (hb:look s.box id=some ls0) (hg:w.grownBy w' (some (ω.box id))) {cs:Array Value} {e:TypeId}
  (hh:w'.heap[ω.box id]?=some (.cells cs e (0,0))) (hs:cs.size=ls.length) (G:Nat→Nat→Prop) (hG:∀j k,G j k→ω.f false id k∧k≠ω.box id) (hD:∀j j' k,G j k→G j' k→j=j')
  (hc:∀(j:Nat) (l:L),ls[j]?=some l→∃v,cs[j]?=some v∧XRep m w' ω (G j) v l):CI P w0 m0 F0 {s with box:=sput id ls s.box} a w' m ω:=by
 obtain ⟨cs0,e0,g1,g2,g3,_⟩:=h.box id ls0 hb
 have hlive:s.live false id:=by show (look s.box id).isSome;rw [hb];rfl
 have hf:=h.fresh false id hlive
 have hdel:∀κ i,({s with box:=Bw.del id s.box}:St).live κ i→s.live κ i∧¬ (κ=false∧i=id):=by
  intro κ i hl
  cases κ with
  | true=>exact ⟨hl,fun e=>by cases e.1⟩
  | false =>
   simp only [St.live] at hl
   rw [look_del] at hl
   split at hl
   ·cases hl
   ·rename_i hne;exact ⟨hl,fun e=>hne e.2⟩
 have h1:CI P w0 m0 F0 {s with box:=Bw.del id s.box} a w m ω:=h.weaken rfl (fun _ _ h=>h) (fun i l hi=>by
  rw [look_del] at hi
  split at hi
  ·cases hi
  ·exact hi) (fun _ _ h=>h)
 have h2:=h1.touch hg (hf _ g3).2.1 (fun κ i hl hk=>by
  obtain ⟨h3,h4⟩:=hdel κ i hl
  exact h4 (h.apart κ i false id h3 hlive _ hk g3)) (hf _ g3).2.2
 refine h2.addBox id ls (by show look (Bw.del id s.box) id=none;rw [look_del,if_pos rfl]) (fun b hb'=>h.home.box id b hb' (by rw [hb];rfl)) ⟨cs,e,hh,hs,g3,G,hG,hD,hc⟩ (fun k hk=>?_) (fun κ i hl k hk hk'=>?_)
 ·obtain ⟨h3,h4,h5⟩:=hf k hk
  exact ⟨Nat.lt_of_lt_of_le h3 hg.size,h4,h5⟩
 ·obtain ⟨h3,h4⟩:=hdel κ i hl
  exact h4 (h.apart κ i false id h3 hlive _ hk hk')
theorem CI.rowUpd (h:CI P w0 m0 F0 s a w m ω) {id:Nat} {r r':RowC} (hb:look s.row id=some r) {b:Nat} (hblk:(ω.row id).blk=some b) (hg:w.grownBy w' (some b)) {cs:Array Value} {e:TypeId}
  (hh:w'.heap[b]?=some (.cells cs e (0,0))) (hs:cs.size=(ω.row id).cap * r'.sz) (hsz:(ω.row id).sz=r'.sz) (hx:∀x∈r'.xs,x.length=r'.sz) (hl:r'.xs.length≤(ω.row id).cap) (hC:CapOk (ω.row id).cap cs r')
  (G:Nat→Nat→Nat→Prop) (hG:∀i j k,G i j k→ω.f true id k∧k≠b) (hD:∀i j i' j' k,G i j k→G i' j' k→i=i'∧j=j')
  (hc:∀i j u,cellOf r'.xs i j=some u→∃v,cs[i * r'.sz+j]?=some v∧RCell m w' ω (G i j) v u (ovGet r'.ov i j)):CI P w0 m0 F0 {s with row:=sput id r' s.row} a w' m ω:=by
 obtain ⟨g1,g2,g3⟩:=h.row id r hb
 rw [hblk] at g3
 obtain ⟨cs0,e0,k1,k2,k3,k4,k5,_⟩:=g3
 have hlive:s.live true id:=by show (look s.row id).isSome;rw [hb];rfl
 have hf:=h.fresh true id hlive
 have hdel:∀κ i,({s with row:=Bw.del id s.row}:St).live κ i→s.live κ i∧¬ (κ=true∧i=id):=by
  intro κ i hl
  cases κ with
  | false=>exact ⟨hl,fun e=>by cases e.1⟩
  | true =>
   simp only [St.live] at hl
   rw [look_del] at hl
   split at hl
   ·cases hl
   ·rename_i hne;exact ⟨hl,fun e=>hne e.2⟩
 have h1:CI P w0 m0 F0 {s with row:=Bw.del id s.row} a w m ω:=h.weaken rfl (fun _ _ h=>h) (fun _ _ h=>h) (fun i l hi=>by
  rw [look_del] at hi
  split at hi
  ·cases hi
  ·exact hi)
 have h2:=h1.touch hg (hf _ k5).2.1 (fun κ i hl hk=>by
  obtain ⟨h3,h4⟩:=hdel κ i hl
  exact h4 (h.apart κ i true id h3 hlive _ hk k5)) (hf _ k5).2.2
 refine h2.addRow id r' (by show look (Bw.del id s.row) id=none;rw [look_del,if_pos rfl]) (fun b hb'=>h.home.row id b hb' (by rw [hb];rfl)) ⟨hsz,hx,?_⟩ (fun k hk=>?_) (fun κ i hl k hk hk'=>?_)
 ·rw [hblk]
  exact ⟨cs,e,hh,hs,hl,hC,k5,G,hG,hD,hc⟩
 ·obtain ⟨h3,h4,h5⟩:=hf k hk
  exact ⟨Nat.lt_of_lt_of_le h3 hg.size,h4,h5⟩
 ·obtain ⟨h3,h4⟩:=hdel κ i hl
  exact h4 (h.apart κ i true id h3 hlive _ hk hk')
theorem store_get {cur:Array Value} {off:Nat} {vs:List Value} (hfit:off+vs.length≤cur.size) (k:Nat) :
  ((cur.toList.take off++vs++cur.toList.drop (off+vs.length)).toArray)[k]?=if off≤k∧k<off+vs.length then vs[k - off]? else cur[k]?:=by
 have hto:(cur.toList.take off).length=off:=by simp;omega
 simp only [List.getElem?_toArray]
 by_cases c1:k<off
 ·rw [if_neg (by omega),List.append_assoc,List.getElem?_append_left (by omega),List.getElem?_take,if_pos c1]
  simp
 ·by_cases c2:k<off+vs.length
  ·rw [if_pos ⟨by omega,c2⟩,List.append_assoc,List.getElem?_append_right (by omega),hto,List.getElem?_append_left (by omega)]
  ·rw [if_neg (by omega),List.getElem?_append_right (by simp only [List.length_append,hto];omega),List.getElem?_drop]
   simp only [List.length_append,hto,Array.getElem?_toList]
   congr 1
   omega
theorem store_size {cur:Array Value} {off:Nat} {vs:List Value} (hfit:off+vs.length≤cur.size):(cur.toList.take off++vs++cur.toList.drop (off+vs.length)).toArray.size=cur.size:=by
 simp;omega
theorem grownBy_setRow (w:World) (b:Nat) (cs:Array Value):w.grownBy (w.setRow b cs) (some b) :=
 ⟨rfl,rfl,rfl,by simp,fun k _ hk=>setRow_other w _ k _ (fun e=>hk (by rw [e]))⟩
theorem store_box (h:CI P w0 m0 F0 s a w m ω) {id off:Nat} {ls vs:List L} {cs:Array Value} (hb:look s.box id=some ls) (hfit:off+vs.length≤ls.length) (hl:cs.size=vs.length)
  (hr:∀(j:Nat) (l:L),vs[j]?=some l→∃v,cs[j]?=some v∧ERep m ω v l) :
  ∃w',(storeCells ⟨ω.box id,off,none⟩ cs.toList).run P w=.ok () w'∧CI P w0 m0 F0 {s with box:=sput id (setL off vs ls) s.box} a w' m ω:=by
 obtain ⟨cur,e,h1,h2,h3,G,h4,h5,h6⟩:=h.box id ls hb
 have hlive:s.live false id:=by show (look s.box id).isSome;rw [hb];rfl
 have hone:∀v∈cs.toList,v.oneCell'=true:=by
  intro v hv
  obtain ⟨j,hj,rfl⟩:=List.mem_iff_getElem.1 hv
  have hj':j<vs.length:=by simp at hj;omega
  obtain ⟨u,h6,h7⟩:=hr j vs[j] (List.getElem?_eq_getElem hj')
  have:cs.toList[j]=u:=by
   have h8:cs.toList[j]?=some u:=by simpa using h6
   rw [List.getElem?_eq_getElem hj] at h8
   injection h8
  rw [this]
  exact h7.oneCell
 have hst:=run_storeCells_at P (ω.box id) off e cs.toList 0 cur w h1 (by simp;omega) hone
 simp only [Nat.add_zero] at hst
 refine ⟨_,hst,?_⟩
 clear hst
 have hfit':off+cs.toList.length≤cur.size:=by simp;omega
 have hget:=fun k=>store_get hfit' k
 have hsize:=store_size hfit'
 generalize (cur.toList.take off++cs.toList++cur.toList.drop (off+cs.toList.length)).toArray=cs' at hget hsize
 have hg:=grownBy_setRow w (ω.box id) cs'
 refine h.boxUpd hb hg (setRow_heap w _ cur _ e _ h1) ?_ G h4 h5 (fun j l hj=>?_)
 ·rw [hsize,setL_length];exact h2
 ·have hjl:j<ls.length:=by
   have:=(List.getElem?_eq_some_iff.1 hj).1
   rwa [setL_length] at this
  rw [setL_get off vs ls j hjl] at hj
  rw [hget]
  simp only [Array.length_toList,hl]
  split at hj
  ·rename_i hc
   rw [if_pos hc]
   obtain ⟨v,h7,h8⟩:=hr _ l hj
   exact ⟨v,by simpa using h7,h8.xrep⟩
  ·rename_i hc
   rw [if_neg hc]
   obtain ⟨v,h7,h8⟩:=h6 j l hj
   exact ⟨v,h7,h8.grown hg fun k hk=>⟨(h.fresh false id hlive k (h4 j k hk).1).1,(h4 j k hk).2⟩⟩
theorem moves_store {o:Oper} {t:TypeId} {i:TI} {x y:Operand} {ty ty':TypeId} {id off:Nat} {ls vs:List L} (ho:o.op=.store t x y) (hd:o.dst=none) (hT:tiOk P t i=true) (h:CI P w0 m0 F0 s a w m ω)
  (hx:evalO T s ty x=some (.v (.one (.ptr id off)))) (hb:look s.box id=some ls) (hy:partCells T s ty' y=some vs) (hsz:vs.length=i.size) (hfit:off+vs.length≤ls.length) :
  Moves P w0 m0 F0 o a w {s with box:=sput id (setL off vs ls) s.box}:=by
 have had:a.eval x=_:=evalO_sound h hx
 obtain ⟨h1,h2⟩:=partCells_sound h hy
 obtain ⟨inf,g1,g2,_⟩:=(tiFacts hT).info
 obtain ⟨w',h3,h4⟩:=store_box h hb hfit h1 h2
 refine gives_of_skip (w':=w') ?_ ⟨m,ω,?_⟩
 ·unfold execOp
  simp only [ho,had,Instr.storeAt,Instr.sureAddr,storeVar,Sem.run_bind,Sem.run_pure,Result.andThen_ok,run_sizeOf g1]
  rw [if_neg (by omega)]
  simp only [h3,Result.andThen_ok]
 ·rw [hd]
  exact h4
def ovDel (i o n:Nat):List (Nat×Nat×L)→List (Nat×Nat×L)
 | []=>[]
 | p::r=>if p.1=i∧o≤p.2.1∧p.2.1<o+n then ovDel i o n r else p::ovDel i o n r
def ovAdd (i:Nat):Nat→List L→List (Nat×Nat×L)→List (Nat×Nat×L)
 | _,[],r=>r
 | o,l::ls,r=>if l.isFz then ovAdd i (o+1) ls r else (i,o,l)::ovAdd i (o+1) ls r
theorem ovGet_del (i o n:Nat):∀(ov:List (Nat×Nat×L)) (i' j':Nat),ovGet (ovDel i o n ov) i' j'=if i'=i∧o≤j'∧j'<o+n then none else ovGet ov i' j'
 | [],i',j'=>by simp [ovDel,ovGet]
 | (p,q,l)::r,i',j'=>by
  simp only [ovDel]
  split
  ·rename_i hc
   rw [ovGet_del i o n r]
   simp only [ovGet]
   by_cases h1:i'=i∧o≤j'∧j'<o+n
   ·rw [if_pos h1,if_pos h1]
   ·rw [if_neg h1,if_neg h1,if_neg]
    rintro ⟨rfl,rfl⟩
    exact h1 hc
  ·rename_i hc
   simp only [ovGet]
   by_cases h1:p=i'∧q=j'
   ·rw [if_pos h1,if_neg]
    ·simp [h1]
    ·rintro h2
     obtain ⟨rfl,rfl⟩:=h1
     exact hc h2
   ·rw [if_neg h1,ovGet_del i o n r,if_neg h1]
theorem ovGet_add (i:Nat) (ov:List (Nat×Nat×L)):∀(ls:List L) (o i' j':Nat),ovGet (ovAdd i o ls ov) i' j'=if i'=i∧o≤j'∧j'<o+ls.length then (match ls[j' - o]? with|some l=>if l.isFz then ovGet ov i' j' else some l|none=>ovGet ov i' j') else ovGet ov i' j'
 | [],o,i',j'=>by
  rw [if_neg (by simp only [List.length_nil];omega)]
  rfl
 | l::ls,o,i',j'=>by
  have ih:=ovGet_add i ov ls (o+1) i' j'
  by_cases hz:l.isFz=true
  ·simp only [ovAdd,hz,if_true]
   rw [ih]
   by_cases h0:i'=i∧j'=o
   ·obtain ⟨rfl,rfl⟩:=h0
    rw [if_neg (by omega),if_pos (by simp)]
    simp [hz]
   ·by_cases h1:i'=i∧o+1≤j'∧j'<o+1+ls.length
    ·rw [if_pos h1,if_pos (by simp;omega)]
     have:j' - o=(j' - (o+1))+1:=by omega
     rw [this,List.getElem?_cons_succ]
    ·rw [if_neg h1,if_neg (by simp;omega)]
  ·have hz:l.isFz=false:=by simpa using hz
   simp only [ovAdd,hz,Bool.false_eq_true,if_false,ovGet]
   by_cases h0:i=i'∧o=j'
   ·obtain ⟨rfl,rfl⟩:=h0
    rw [if_pos ⟨rfl,rfl⟩,if_pos (by simp)]
    simp [hz]
   ·rw [if_neg h0,ih]
    by_cases h1:i'=i∧o+1≤j'∧j'<o+1+ls.length
    ·rw [if_pos h1,if_pos (by simp;omega)]
     have:j' - o=(j' - (o+1))+1:=by omega
     rw [this,List.getElem?_cons_succ]
    ·rw [if_neg h1,if_neg (by simp;omega)]
def RowC.store (r:RowC) (i o:Nat) (vs:List L):RowC :=
 {sz:=r.sz,xs:=r.xs.set i (setL o (vs.map L.clos) (r.xs.getD i [])),ov:=ovAdd i o vs (ovDel i o vs.length r.ov)}
theorem mul_add_inj {n i j i' j':Nat} (hj:j<n) (hj':j'<n) (h:i * n+j=i' * n+j'):i=i'∧j=j':=by
 have h1:(i * n+j) / n=i:=by rw [Nat.mul_comm,Nat.mul_add_div (by omega),Nat.div_eq_of_lt hj];simp
 have h2:(i' * n+j') / n=i':=by rw [Nat.mul_comm,Nat.mul_add_div (by omega),Nat.div_eq_of_lt hj'];simp
 have h3:(i * n+j) % n=j:=by rw [Nat.mul_comm,Nat.mul_add_mod,Nat.mod_eq_of_lt hj]
 have h4:(i' * n+j') % n=j':=by rw [Nat.mul_comm,Nat.mul_add_mod,Nat.mod_eq_of_lt hj']
 exact ⟨by rw [←h1,h,h2],by rw [←h3,h,h4]⟩
theorem store_row (h:CI P w0 m0 F0 s a w m ω) {id i off:Nat} {r:RowC} {vs:List L} {cs:Array Value} (hb:look s.row id=some r) (hi:i<r.xs.length) (hfit:off+vs.length≤r.sz) (hl:cs.size=vs.length)
  (hr:∀(j:Nat) (l:L),vs[j]?=some l→∃v,cs[j]?=some v∧ERep m ω v l) :
  ∃b w',(ω.row id).blk=some b∧(ω.row id).sz=r.sz∧(storeCells ⟨b,i * r.sz+off,none⟩ cs.toList).run P w=.ok () w'∧CI P w0 m0 F0 {s with row:=sput id (r.store i off vs) s.row} a w' m ω:=by
 obtain ⟨g1,g2,g3⟩:=h.row id r hb
 have hlive:s.live true id:=by show (look s.row id).isSome;rw [hb];rfl
 split at g3
 ·rw [g3.1] at hi;simp at hi
 rename_i b hblk
 obtain ⟨cur,e,k1,k2,k3,k4,k5,G,k6,k7,k8⟩:=g3
 have hone:∀v∈cs.toList,v.oneCell'=true:=by
  intro v hv
  obtain ⟨j,hj,rfl⟩:=List.mem_iff_getElem.1 hv
  have hj':j<vs.length:=by simp at hj;omega
  obtain ⟨u,h6,h7⟩:=hr j vs[j] (List.getElem?_eq_getElem hj')
  have:cs.toList[j]=u:=by
   have h8:cs.toList[j]?=some u:=by simpa using h6
   rw [List.getElem?_eq_getElem hj] at h8
   injection h8
  rw [this]
  exact h7.oneCell
 have hsz:i * r.sz+r.sz≤cur.size:=by
  have:(i+1) * r.sz≤(ω.row id).cap * r.sz:=Nat.mul_le_mul_right _ (by omega)
  rw [Nat.add_mul] at this
  omega
 have hst:=run_storeCells_at P b (i * r.sz+off) e cs.toList 0 cur w k1 (by simp;omega) hone
 simp only [Nat.add_zero] at hst
 refine ⟨b,_,hblk,g1,hst,?_⟩
 clear hst
 have hfit':i * r.sz+off+cs.toList.length≤cur.size:=by simp;omega
 have hget:=fun k=>store_get hfit' k
 have hsize:=store_size hfit'
 generalize (cur.toList.take (i * r.sz+off)++cs.toList++cur.toList.drop (i * r.sz+off+cs.toList.length)).toArray=cs' at hget hsize
 have hg:=grownBy_setRow w b cs'
 have hxi:(r.xs.getD i []).length=r.sz:=by
  rw [show r.xs.getD i []=r.xs[i] by simp [List.getD,hi]]
  exact g2 _ (List.getElem_mem hi)
 refine h.rowUpd hb hblk hg (setRow_heap w _ cur _ e _ k1) ?_ g1 ?_ ?_ ?_ G k6 k7 (fun i' j u hu=>?_)
 ·rw [hsize];exact k2
 ·intro x hx
  rcases List.mem_or_eq_of_mem_set hx with hx|hx
  ·exact g2 x hx
  ·rw [hx,setL_length];exact hxi
 ·simpa [RowC.store] using k3
 ·refine ⟨k4.1,fun l hl'=>?_,fun q v hq=>?_⟩
  ·simp only [RowC.store,List.length_set] at hl' ⊢
   rw [ovGet_add,ovGet_del,if_neg (by omega),if_neg (by omega)] at hl'
   exact k4.2.1 l hl'
  ·rw [hget] at hq
   split at hq
   ·exact hone v (List.mem_of_getElem? hq)
   ·exact k4.2.2 q v hq
 ·rw [hget]
  simp only [RowC.store,Array.length_toList,hl]
  have hj:j<r.sz:=by
   unfold cellOf at hu
   simp only [RowC.store] at hu
   rw [List.getElem?_set] at hu
   split at hu
   ·rename_i he
    subst he
    simp only [hi,if_true,Option.bind_some] at hu
    have:=(List.getElem?_eq_some_iff.1 hu).1
    rwa [setL_length,hxi] at this
   ·cases hq:r.xs[i']? with
    | none=>rw [hq] at hu;simp at hu
    | some x =>
     rw [hq] at hu
     simp only [Option.bind_some] at hu
     have:=g2 x (List.mem_of_getElem? hq)
     rw [←this]
     exact (List.getElem?_eq_some_iff.1 hu).1
  rw [ovGet_add,ovGet_del]
  by_cases hc:i'=i∧off≤j∧j<off+vs.length
  ·obtain ⟨rfl,hc1,hc2⟩:=hc
   rw [if_pos (by omega),if_pos ⟨rfl,hc1,hc2⟩]
   have hlt:j - off<vs.length:=by omega
   obtain ⟨v,h7,h8⟩:=hr (j - off) vs[j - off] (List.getElem?_eq_getElem hlt)
   refine ⟨v,by rw [show i' * r.sz+j - (i' * r.sz+off)=j - off by omega];simpa using h7,?_⟩
   rw [List.getElem?_eq_getElem hlt]
   simp only
   have hu':u=(vs[j - off]).clos:=by
    unfold cellOf at hu
    simp only [RowC.store] at hu
    rw [List.getElem?_set_self (by simpa using hi)] at hu
    simp only [Option.bind_some] at hu
    rw [setL_get _ _ _ _ (by rw [hxi];exact hj),if_pos (by simp;omega)] at hu
    simpa [List.getElem?_eq_getElem hlt] using hu.symm
   by_cases hz:(vs[j - off]).isFz=true
   ·rw [if_pos hz]
    simp only [hc1,hc2,and_self,if_true]
    rw [hu']
    exact .fr ((h8.rep hz).clos hz)
   ·rw [if_neg hz]
    exact h8
  ·have hne:¬ (i * r.sz+off≤i' * r.sz+j∧i' * r.sz+j<i * r.sz+off+vs.length):=by
    rintro ⟨h1,h2⟩
    have hoff:i' * r.sz+j - i * r.sz<r.sz:=by omega
    obtain ⟨he1,he2⟩:=mul_add_inj hj hoff (show i' * r.sz+j=i * r.sz+(i' * r.sz+j - i * r.sz) by omega)
    subst he1
    exact hc ⟨rfl,by omega,by omega⟩
   rw [if_neg hne,if_neg hc,if_neg hc]
   have hu':cellOf r.xs i' j=some u:=by
    unfold cellOf at hu ⊢
    simp only [RowC.store] at hu
    rw [List.getElem?_set] at hu
    split at hu
    ·rename_i he
     subst he
     simp only [hi,if_true,Option.bind_some] at hu
     rw [setL_get _ _ _ _ (by rw [hxi];exact hj),if_neg (by simp;omega)] at hu
     rw [List.getElem?_eq_getElem hi]
     simpa [List.getD,hi] using hu
    ·exact hu
   obtain ⟨v,h7,h8⟩:=k8 i' j u hu'
   exact ⟨v,h7,h8.grown hg fun k hk=>⟨(h.fresh true id hlive k (k6 _ _ _ hk).1).1,(k6 _ _ _ hk).2⟩⟩
theorem moves_storeRow {o:Oper} {t:TypeId} {ti:TI} {x y:Operand} {ty ty':TypeId} {id i off:Nat} {r:RowC} {vs:List L} (ho:o.op=.store t x y) (hd:o.dst=none) (hT:tiOk P t ti=true) (h:CI P w0 m0 F0 s a w m ω)
  (hx:evalO T s ty x=some (.v (.one (.eptr id i off)))) (hb:look s.row id=some r) (hy:partCells T s ty' y=some vs) (hsz:vs.length=ti.size) (hi:i<r.xs.length) (hfit:off+vs.length≤r.sz) :
  Moves P w0 m0 F0 o a w {s with row:=sput id (r.store i off vs) s.row}:=by
 obtain ⟨b,hblk,had⟩:=evalO_sound h hx
 obtain ⟨h1,h2⟩:=partCells_sound h hy
 obtain ⟨inf,g1,g2,_⟩:=(tiFacts hT).info
 obtain ⟨b',w',h3,h4,h5,h6⟩:=store_row h hb hi hfit h1 h2
 rw [hblk] at h3
 injection h3 with hbb
 subst hbb
 rw [h4] at had
 refine gives_of_skip (w':=w') ?_ ⟨m,ω,?_⟩
 ·unfold execOp
  simp only [ho,had,Instr.storeAt,Instr.sureAddr,storeVar,Sem.run_bind,Sem.run_pure,Result.andThen_ok,run_sizeOf g1]
  rw [if_neg (by omega)]
  simp only [h5,Result.andThen_ok]
 ·rw [hd]
  exact h6
end
end Go.Bw
namespace Go.Bw
open Go.RowKit
section
variable {P:Program} {w0:World} {m0:Mem} {s s':St} {a:Act} {w w':World} {m:Mem} {ω:Wh} {F0:Home} {T:TypeId→Option TI}
theorem noRow_live {id:Nat} {κ:Bool} {i:Nat} (h:(s.noRow id).live κ i):s.live κ i∧¬ (κ=true∧i=id):=by
 cases κ with
 | false =>
  simp only [St.live] at h ⊢
  obtain ⟨x,hx⟩:=Option.isSome_iff_exists.1 h
  obtain ⟨y,hy,_⟩:=map_look hx
  exact ⟨by rw [hy];rfl,fun e=>by cases e.1⟩
 | true =>
  simp only [St.live] at h ⊢
  obtain ⟨x,hx⟩:=Option.isSome_iff_exists.1 h
  obtain ⟨y,hy,_⟩:=map_look hx
  rw [look_del] at hy
  split at hy
  ·cases hy
  ·rename_i hne;exact ⟨by rw [hy];rfl,fun e=>hne e.2⟩
def St.killRow (s:St):Option Nat→St
 | none=>s
 | some id=>s.noRow id
def L.kill:Option Nat→L→L
 | none,l=>l
 | some id,l=>l.noRow id
def RowC.kill:Option Nat→RowC→RowC
 | none,r=>r
 | some id,r=>r.map (L.noRow id)
def St.newRow0 (s:St) (src:Option Nat) (d:Nat) (r:RowC):St :=
 {(s.killRow src).noRow d with row:=(d,(r.kill src).map (L.noRow d))::((s.killRow src).noRow d).row}
theorem CI.rowNew (h:CI P w0 m0 F0 s a w m ω) (src:Option Nat) (d:Nat) (hd:d<s.n) (ri:RowI) (Fd:Nat→Prop) {r:RowC}
  (hw:Below w.heap.size w w'∨∃b id,src=some id∧s.live true id∧ω.f true id b∧w.grownBy w' (some b))
  (hF:∀k,Fd k→(∃id,src=some id∧s.live true id∧ω.f true id k)∨(w.heap.size≤k∧k<w'.heap.size))
  (hR:RowRepG m w' ω ri Fd r) :
  ∃ω',CI P w0 m0 F0 (s.newRow0 src d r) a w' m ω'∧ω'.row d=ri∧∀v l,ERep m ω v l→ERep m ω' v ((l.kill src).noRow d):=by
 have hwle:w.heap.size≤w'.heap.size:=by
  rcases hw with hw|⟨b,id,_,_,_,hw⟩
  ·exact hw.size
  ·exact hw.size
 -- the source is dropped
 have k1:∃ω1,CI P w0 m0 F0 (s.killRow src) a w m ω1∧(∀v l,ERep m ω v l→ERep m ω1 v (l.kill src))∧(∀κ i,(s.killRow src).live κ i→s.live κ i∧ω1.f κ i=ω.f κ i∧∀id,src=some id→¬ (κ=true∧i=id))∧RowRepG m w' ω1 ri Fd (r.kill src):=by
  cases src with
  | none=>exact ⟨ω,h,fun _ _ h=>h,fun κ i hl=>⟨hl,rfl,fun id e=>by cases e⟩,hR⟩
  | some id =>
   refine ⟨_,h.noRow id (ω.row id) (ω.f true id),fun v l hl=>?_,fun κ i hl=>?_,?_⟩
   ·refine noRow_e (ω:=ω) (fun i hi=>?_) ?_ hl
    ·simp [upd,hi]
    ·rfl
   ·obtain ⟨h1,h2⟩:=noRow_live hl
    exact ⟨h1,by simp only [if_neg h2],fun id' e=>by injection e with e;subst e;exact h2⟩
   ·refine RowRepG.remap (ω:=ω) ⟨Mem.le_refl m,fun v l hl=>?_,fun _ _=>rfl,fun _ _=>rfl⟩ hR
    refine noRow_e (ω:=ω) (fun i hi=>?_) ?_ hl
    ·simp [upd,hi]
    ·rfl
 obtain ⟨ω1,h1,e1,l1,r1⟩:=k1
 have h2:=h1.noRow d ri Fd
 have hlive:∀κ i,((s.killRow src).noRow d).live κ i→s.live κ i∧(∀id,src=some id→¬ (κ=true∧i=id))∧(if κ=true∧i=d then Fd else ω1.f κ i)=ω.f κ i:=by
  intro κ i hl
  obtain ⟨g1,g2⟩:=noRow_live hl
  obtain ⟨g3,g4,g5⟩:=l1 κ i g1
  exact ⟨g3,g5,by rw [if_neg g2];exact g4⟩
 have h3:CI P w0 m0 F0 ((s.killRow src).noRow d) a w' m {box:=ω1.box,row:=upd ω1.row d ri,f:=fun κ i=>if κ=true∧i=d then Fd else ω1.f κ i}:=by
  rcases hw with hw|⟨b,id,hs,hl,hb,hw⟩
  ·refine h2.grow hw (Mem.le_refl m) (fun _ _=>rfl) (fun x v hx=>?_)
   rw [hw.cell (World.block_lt_of_cell? w x (h.ok x v hx))]
   exact h.ok x v hx
  ·have hf:=h.fresh true id hl b hb
   refine h2.touch hw hf.2.1 (fun κ i hl' hk=>?_) hf.2.2
   obtain ⟨g1,g2,g3⟩:=hlive κ i hl'
   have hk':ω.f κ i b:=by rw [←g3];exact hk
   exact g2 id hs (h.apart κ i true id g1 hl b hk' hb)
 refine ⟨_,h3.addRow d ((r.kill src).map (L.noRow d)) (noRow_none _ d) (fun b hb=>by have:=(h.home.big d (.inr (by rw [hb];rfl))).1;omega) ?_ ?_ ?_,by simp [upd],fun v l hl=>?_⟩
 ·have hRR:RowRepG m w' {box:=ω1.box,row:=upd ω1.row d ri,f:=fun κ i=>if κ=true∧i=d then Fd else ω1.f κ i} ri Fd ((r.kill src).map (L.noRow d)):=by
   refine RowRepG.remap (ω:=ω1) ⟨Mem.le_refl m,fun v l hl=>?_,fun _ _=>rfl,fun _ _=>rfl⟩ r1
   refine noRow_e (ω:=ω1) (fun i hi=>?_) ?_ hl
   ·simp [upd,hi]
   ·rfl
  have e2:(upd ω1.row d ri) d=ri:=by simp [upd]
  have e3:(fun (κ:Bool) (i:Nat)=>if κ=true∧i=d then Fd else ω1.f κ i) true d=Fd:=by simp
  unfold RowRep
  simp only [e2,e3]
  exact hRR
 ·intro k hk
  simp only [true_and,if_true] at hk
  rcases hF k hk with ⟨id,hs,hl,hk⟩|⟨g1,g2⟩
  ·obtain ⟨g1,g2,g3⟩:=h.fresh true id hl k hk
   exact ⟨Nat.lt_of_lt_of_le g1 hwle,g2,g3⟩
  ·refine ⟨g2,.inl (Nat.le_trans h.keeps.size g1),fun x v hx he=>?_⟩
   rw [m_lt h.ok (by omega)] at hx
   cases hx
 ·intro κ i hl k hk hk'
  obtain ⟨g1,g2,g3⟩:=hlive κ i hl
  have hk:ω.f κ i k:=by rw [←g3];exact hk
  simp only [true_and,if_true] at hk'
  rcases hF k hk' with ⟨id,hs,hl',hk''⟩|⟨g4,_⟩
  ·exact g2 id hs (h.apart κ i true id g1 hl' k hk hk'')
  ·have:=(h.fresh κ i g1 k hk).1
   omega
 ·refine noRow_e (ω:=ω1) (fun i hi=>?_) ?_ (e1 v l hl)
  ·simp [upd,hi]
  ·rfl
def ovShift (n:Nat):List (Nat×Nat×L)→List (Nat×Nat×L)
 | []=>[]
 | p::r=>(n+p.1,p.2.1,p.2.2)::ovShift n r
theorem ovGet_shift (n:Nat):∀(ov:List (Nat×Nat×L)) (i j:Nat),ovGet (ovShift n ov) i j=if n≤i then ovGet ov (i - n) j else none
 | [],i,j=>by simp [ovShift,ovGet]
 | (p,q,l)::r,i,j=>by
  simp only [ovShift,ovGet]
  rw [ovGet_shift n r]
  by_cases hi:n≤i
  ·rw [if_pos hi]
   by_cases h1:n+p=i∧q=j
   ·rw [if_pos h1,if_pos hi,if_pos ⟨by omega,h1.2⟩]
   ·rw [if_neg h1,if_pos hi,if_neg (fun e=>h1 ⟨by omega,e.2⟩)]
  ·rw [if_neg hi,if_neg (fun e=>hi (by omega)),if_neg hi]
def SliceRd (m:Mem) (w:World) (ω:Wh) (v:Value) (sz:Nat) (ys:List (List L)) (ov:List (Nat×Nat×L)):Prop :=
 ∃A c,v=.slice A ys.length c∧ys.length≤c∧(∀y∈ys,y.length=sz)∧(A=none→ys=[])∧∀ad,A=some ad→∃news:List Value,news.length=ys.length * sz∧(∀(j:Nat) (u:Value),news[j]?=some u→w.cell? (ad.add j)=some u) ∧
  (∀u∈news,u.oneCell'=true)∧∀i j u,cellOf ys i j=some u→∃v,news[i * sz+j]?=some v∧RCell m w ω (fun _=>False) v u (ovGet ov i j)
theorem flat_cells (hok:∀x v,m x=some v→w.cell? x=some v) {ad:Addr} {n c sz:Nat} {ys:List (List L)} (h:Rep m (.slice (some ad) n c) (.sl sz ys)) :
  n=ys.length∧∃news:List Value,news.length=n * sz∧(∀(j:Nat) (u:Value),news[j]?=some u→w.cell? (ad.add j)=some u)∧(∀u∈news,u.oneCell'=true) ∧
   ∀i j u,cellOf ys i j=some u→∃v,news[i * sz+j]?=some v∧Rep m v u:=by
 cases h with
 | sl _ _ _ _ _ vals hlen hc hz hm hr =>
  refine ⟨hlen,?_⟩
  have hcell:∀q,q<n * sz→∃u,cellOf ys (q / sz) (q % sz)=some u:=by
   intro q hq
   have hsz:0<sz:=by
    rcases Nat.eq_zero_or_pos sz with h0|h0
    ·rw [h0] at hq;simp at hq
    ·exact h0
   have h1:q / sz<ys.length:=by rw [←hlen];exact Nat.div_lt_of_lt_mul (by rw [Nat.mul_comm];exact hq)
   have h2:(ys[q / sz]).length=sz:=hz _ (List.getElem_mem h1)
   have h3:q % sz<(ys[q / sz]).length:=by rw [h2];exact Nat.mod_lt _ hsz
   exact ⟨ys[q / sz][q % sz],by simp [cellOf,h1,h3]⟩
  refine ⟨List.ofFn fun q:Fin (n * sz)=>vals (q / sz) (q % sz),by simp,fun j u hj=>?_,fun u hu=>?_,fun i j u hu=>?_⟩
  ·rw [List.getElem?_ofFn] at hj
   split at hj
   ·rename_i hlt
    injection hj with hj
    subst hj
    obtain ⟨l,hl⟩:=hcell j hlt
    have:=hok _ _ (hm _ _ _ hl)
    rwa [show j / sz * sz+j % sz=j from by rw [Nat.mul_comm];exact Nat.div_add_mod j sz] at this
   ·cases hj
  ·obtain ⟨q,rfl⟩:=List.mem_ofFn.1 hu
   obtain ⟨l,hl⟩:=hcell q q.2
   exact (hr _ _ _ hl).oneCell
  ·have hi:i<n:=by
    unfold cellOf at hu
    cases h1:ys[i]? with
    | none=>rw [h1] at hu;simp at hu
    | some x=>rw [hlen];exact (List.getElem?_eq_some_iff.1 h1).1
   have hj:j<sz:=by
    unfold cellOf at hu
    cases h1:ys[i]? with
    | none=>rw [h1] at hu;simp at hu
    | some x =>
     rw [h1] at hu
     have:=hz x (List.mem_of_getElem? h1)
     rw [←this]
     exact (List.getElem?_eq_some_iff.1 hu).1
   have hlt:i * sz+j<n * sz:=by
    have:(i+1) * sz≤n * sz:=Nat.mul_le_mul_right sz hi
    rw [Nat.add_mul] at this
    omega
   refine ⟨vals i j,?_,hr _ _ _ hu⟩
   rw [List.getElem?_ofFn,dif_pos hlt]
   have hsz:0<sz:=by omega
   have e1:(i * sz+j) / sz=i:=by
    rw [Nat.mul_comm,Nat.mul_add_div hsz,Nat.div_eq_of_lt hj];simp
   have e2:(i * sz+j) % sz=j:=by
    rw [Nat.mul_comm,Nat.mul_add_mod,Nat.mod_eq_of_lt hj]
   simp only [e1,e2]
theorem sliceRd_sl (hok:∀x v,m x=some v→w.cell? x=some v) {v:Value} {sz:Nat} {ys:List (List L)} (h:Rep m v (.sl sz ys)):SliceRd m w ω v sz ys []:=by
 cases h with
 | slNil=>exact ⟨none,0,rfl,Nat.le_refl _,(fun y hy=>by cases hy),fun _=>rfl,fun ad h=>by cases h⟩
 | sl ad len cap _ _ vals hlen hc hz hm hr =>
  obtain ⟨_,news,h1,h2,h3,h4⟩:=flat_cells hok (Rep.sl (m:=m) ad len cap sz ys vals hlen hc hz hm hr)
  subst hlen
  refine ⟨some ad,cap,rfl,hc,hz,(fun h=>by cases h),fun ad' e=>?_⟩
  injection e with e
  subst e
  exact ⟨news,h1,h2,h3,fun i j u hu=>let ⟨v,h5,h6⟩:=h4 i j u hu;⟨v,h5,CRep.fr h6⟩⟩
theorem sliceRd_nil {v:Value} {z:Nat} (h:Rep m v (.nil z)) (sz:Nat):SliceRd m w ω v sz [] []:=by
 cases h
 exact ⟨none,0,rfl,Nat.le_refl _,(fun y hy=>by cases hy),fun _=>rfl,fun ad h=>by cases h⟩
def L.isOwn:L→Bool|.own _ _=>true|_=>false
def noOwn (xs:List (List L)):Prop:=∀x∈xs,∀l∈x,l.isOwn=false
theorem cellOf_mem {xs:List (List L)} {i j:Nat} {u:L} (h:cellOf xs i j=some u):∃x∈xs,u∈x:=by
 unfold cellOf at h
 cases hx:xs[i]? with
 | none=>rw [hx] at h;simp at h
 | some x=>rw [hx] at h;exact ⟨x,List.mem_of_getElem? hx,List.mem_of_getElem? h⟩
theorem RCell.noOwn {G:Nat→Prop} {v:Value} {u:L} {o:Option L} (h:RCell m w ω G v u o) (hu:u.isOwn=false) (G':Nat→Prop):RCell m w ω G' v u o:=by
 cases o with
 | some l=>exact h
 | none =>
  have h:CRep m w G v u:=h
  cases h with
  | fr h=>exact CRep.fr h
  | ownNil=>cases hu
  | own=>cases hu
theorem RCell.noOwnF {v:Value} {u:L} {o:Option L} (h:RCell m w ω (fun _=>False) v u o) (_ G':Nat→Prop):RCell m w ω G' v u o:=by
 cases o with
 | some l=>exact h
 | none=>exact CRep.sub h fun k hk=>hk.elim
theorem RCell.oneCell {G:Nat→Prop} {v:Value} {u:L} {o:Option L} (h:RCell m w ω G v u o):v.oneCell'=true:=by
 cases o with
 | some l=>exact ERep.oneCell h
 | none=>exact CRep.oneCell h
theorem row_flat (h:CI P w0 m0 F0 s a w m ω) {id:Nat} {r:RowC} (hb:look s.row id=some r) {b:Nat} (hblk:(ω.row id).blk=some b) {lo n:Nat} (hn:lo+n≤r.xs.length) :
  ∃(cs:Array Value) (e:TypeId) (G:Nat→Nat→Nat→Prop),w.heap[b]?=some (.cells cs e (0,0))∧cs.size=(ω.row id).cap * r.sz∧(∀i j k,G i j k→ω.f true id k∧k≠b)∧(∀i j i' j' k,G i j k→G i' j' k→i=i'∧j=j')∧ω.f true id b ∧
   ∃news:List Value,news.length=n * r.sz∧news=(cs.toList.drop (lo * r.sz)).take (n * r.sz)∧(∀u∈news,u.oneCell'=true)∧(∀i j u,cellOf ((r.xs.drop lo).take n) i j=some u→∃v,news[i * r.sz+j]?=some v∧RCell m w ω (G (lo+i) j) v u (ovGet r.ov (lo+i) j)):=by
 obtain ⟨g1,g2,g3⟩:=h.row id r hb
 rw [hblk] at g3
 obtain ⟨cs,e,k1,k2,k3,k4,k5,G,k6,k7,k8⟩:=g3
 have hfit:lo * r.sz+n * r.sz≤cs.size:=by
  rw [k2,←Nat.add_mul]
  exact Nat.mul_le_mul_right _ (by omega)
 have hcell:∀i j u,cellOf ((r.xs.drop lo).take n) i j=some u→i<n∧j<r.sz∧cellOf r.xs (lo+i) j=some u:=by
  intro i j u hu
  unfold cellOf at hu ⊢
  rw [List.getElem?_take] at hu
  split at hu
  ·rename_i hi
   rw [List.getElem?_drop] at hu
   refine ⟨hi,?_,hu⟩
   cases hx:r.xs[lo+i]? with
   | none=>rw [hx] at hu;simp at hu
   | some x =>
    rw [hx] at hu
    rw [←g2 x (List.mem_of_getElem? hx)]
    exact (List.getElem?_eq_some_iff.1 hu).1
  ·simp at hu
 have hget:∀k,((cs.toList.drop (lo * r.sz)).take (n * r.sz))[k]?=if k<n * r.sz then cs[lo * r.sz+k]? else none:=by
  intro k
  rw [List.getElem?_take]
  split
  ·rw [List.getElem?_drop];simp
  ·rfl
 refine ⟨cs,e,G,k1,k2,k6,k7,k5,_,?_,rfl,fun u hu=>?_,fun i j u hu=>?_⟩
 ·simp only [List.length_take,List.length_drop,Array.length_toList]
  omega
 ·obtain ⟨q,hq,rfl⟩:=List.mem_iff_getElem.1 hu
  have hq':q<n * r.sz:=by simp at hq;omega
  have hsz:0<r.sz:=by
   rcases Nat.eq_zero_or_pos r.sz with h0|h0
   ·rw [h0] at hq';simp at hq'
   ·exact h0
  have h1:q / r.sz<n:=Nat.div_lt_of_lt_mul (by rw [Nat.mul_comm];exact hq')
  have hlt:lo+q / r.sz<r.xs.length:=by omega
  have h2:(r.xs[lo+q / r.sz]).length=r.sz:=g2 _ (List.getElem_mem hlt)
  have h3:q % r.sz<(r.xs[lo+q / r.sz]).length:=by rw [h2];exact Nat.mod_lt _ hsz
  obtain ⟨v,h4,h5⟩:=k8 (lo+q / r.sz) (q % r.sz) (r.xs[lo+q / r.sz][q % r.sz]) (by simp [cellOf,hlt,h3])
  have h6:(lo+q / r.sz) * r.sz+q % r.sz=lo * r.sz+q:=by
   rw [Nat.add_mul,Nat.add_assoc,Nat.mul_comm (q / r.sz),Nat.div_add_mod]
  rw [h6] at h4
  have h7:=hget q
  rw [if_pos hq',h4,List.getElem?_eq_getElem hq] at h7
  injection h7 with h7
  rw [h7]
  exact h5.oneCell
 ·obtain ⟨hi,hj,hu'⟩:=hcell i j u hu
  obtain ⟨v,h4,h5⟩:=k8 _ j u hu'
  refine ⟨v,?_,h5⟩
  have hlt:i * r.sz+j<n * r.sz:=by
   have:(i+1) * r.sz≤n * r.sz:=Nat.mul_le_mul_right r.sz hi
   rw [Nat.add_mul] at this
   omega
  rw [hget,if_pos hlt,←h4]
  congr 1
  rw [Nat.add_mul]
  omega
theorem sliceRd_ref (h:CI P w0 m0 F0 s a w m ω) {v:Value} {id lo n:Nat} {r:RowC} (hv:RefAt (ω.row id) lo n v) (hb:look s.row id=some r) (hn:lo+n≤r.xs.length) (ho:noOwn r.xs) {ov:List (Nat×Nat×L)} (hov:∀i j,i<n→ovGet ov i j=ovGet r.ov (lo+i) j) :
  SliceRd m w ω v r.sz ((r.xs.drop lo).take n) ov:=by
 obtain ⟨g1,g2,g3⟩:=h.row id r hb
 have hlen:((r.xs.drop lo).take n).length=n:=by simp;omega
 rcases hv with ⟨g0,rfl,rfl,rfl⟩|⟨b,ad,k1,k2,rfl,k4⟩
 ·exact ⟨none,0,rfl,by simp,by simp,fun _=>by simp,fun ad h=>by cases h⟩
 ·obtain ⟨cs,e,G,q1,q2,q3,q4,q5,news,q6,q7,q8,q9⟩:=row_flat h hb k1 hn
  refine ⟨some ad,_,by rw [hlen],by rw [hlen];omega,(fun y hy=>g2 y (List.mem_of_mem_drop (List.mem_of_mem_take hy))),(fun h=>by cases h),fun ad' e=>?_⟩
  injection e with e
  subst e
  refine ⟨news,by rw [hlen];exact q6,fun j u hu=>?_,q8,fun i j u hu=>?_⟩
  ·have hj:j<n * r.sz:=by rw [←q6];exact (List.getElem?_eq_some_iff.1 hu).1
   have hlt:lo<(ω.row id).cap:=by
    rcases Nat.eq_zero_or_pos n with h0|h0
    ·rw [h0] at hj;simp at hj
    ·omega
   rw [k4 (.inl hlt),Addr.add_lit,cell_of_row w _ _ cs e (0,0) q1,g1]
   rw [q7,List.getElem?_take,if_pos hj,List.getElem?_drop] at hu
   simpa using hu
  ·obtain ⟨v,h5,h6⟩:=q9 i j u hu
   have hi:i<n:=by
    unfold cellOf at hu
    rw [List.getElem?_take] at hu
    split at hu
    ·assumption
    ·simp at hu
   refine ⟨v,h5,?_⟩
   rw [hov i j hi]
   have hu2:u.isOwn=false:=by
    obtain ⟨x,hx,hux⟩:=cellOf_mem hu
    exact ho x (List.mem_of_mem_drop (List.mem_of_mem_take hx)) u hux
   exact h6.noOwn hu2 _
end
end Go.Bw
namespace Go.Bw
open Go.RowKit
section
variable {P:Program} {w0:World} {m0:Mem} {s s':St} {a:Act} {w w':World} {m:Mem} {ω:Wh} {F0:Home} {T:TypeId→Option TI}
theorem run_append_room' (t ty e e':TypeId) (i:TypeInfo) (ht:P.underlying t=some (.slice e)) (hi:P.info? e=some i)
  (g sLen sCap:Nat) (cur:Array Value) (hg:w.heap[g]?=some (.cells cur e' (0,0)))
  (ad:Addr) (k c:Nat) (news:List Value) (hl:news.length=k * i.size) (hnews:∀j u,news[j]?=some u→w.cell? (ad.add j)=some u) (h1:∀u∈news,u.oneCell'=true)
  (hroom:sLen+k≤sCap) (hfit:sLen * i.size+news.length≤cur.size) :
  (Builtin.append_ #[t,t] ty #[.slice (some ⟨g,0,none⟩) sLen sCap,.slice (some ad) k c]).run P w =
   .ok (.slice (some ⟨g,0,none⟩) (sLen+k) sCap) (w.setRow g (cur.toList.take (sLen * i.size)++news++cur.toList.drop (sLen * i.size+news.length)).toArray):=by
 have hf:=run_firstCells_some (P:=P) w i.size k ad k c news hl hnews
 have hst:=run_storeCells_at P g (sLen * i.size) e' news 0 cur w hg (by simpa using hfit) h1
 simp only [Nat.add_zero] at hst
 simp [Builtin.append_,run_underlying ht,sizeOf,typeInfo,hi,Builtin.lenOf,hroom,hf,Addr.add_lit,hst]
theorem cellOf_append {xs ys:List (List L)} {i j:Nat} {u:L} (h:cellOf (xs++ys) i j=some u):(i<xs.length∧cellOf xs i j=some u)∨(xs.length≤i∧cellOf ys (i - xs.length) j=some u):=by
 unfold cellOf at h ⊢
 by_cases hi:i<xs.length
 ·rw [List.getElem?_append_left hi] at h
  exact .inl ⟨hi,h⟩
 ·rw [List.getElem?_append_right (by omega)] at h
  exact .inr ⟨by omega,h⟩
inductive Dst (s:St):L→Nat→List (List L)→Option Nat→Prop
 | nil (z sz:Nat):Dst s (.nil z) sz [] none
 | ref (id n:Nat) (r:RowC) (hb:look s.row id=some r) (hov:r.ov=[]) (hn:n≤r.xs.length):Dst s (.ref id 0 n) r.sz (r.xs.take n) (some id)
def St.appended (s:St) (src:Option Nat) (d sz:Nat) (xs:List (List L)) (ov:List (Nat×Nat×L)):St :=
 (s.newRow0 src d ⟨sz,xs,ov⟩).put d (.v (.one (.ref d 0 xs.length)))
theorem newRow0_n (src:Option Nat) (d:Nat) (r:RowC):(s.newRow0 src d r).n=s.n:=by cases src<;>rfl
theorem moves_append {o:Oper} {t e:TypeId} {i j:TI} {x y:Operand} {ty:TypeId} {d sz:Nat} {l1:L} {xs ys:List (List L)} {src:Option Nat} {z:List L} {ov:List (Nat×Nat×L)} (ho:o.op=.call {callee:=.builtin .append,args:=#[x,y],argTypes:=#[t,t]})
  (hd:o.dst=some d) (hn:d<s.n) (hT:tiOk P t i=true) (he:i.elem=some e) (hE:tiOk P e j=true) (hz:j.zero=some z) (hsz:j.size=sz) (hzl:z.length=sz) (h:CI P w0 m0 F0 s a w m ω)
  (hx:evalO T s ty x=some (.v (.one l1))) (hs:Dst s l1 sz xs src) (hy:SliceRd m w ω (a.eval y) sz ys ov) (hov0:ovGet ov ys.length 0=none)
  (hb:(xs.length+ys.length) * j.bytes≤140737488355328) (hm:xs.length+ys.length≤9223372036854775807):Moves P w0 m0 F0 o a w (s.appended src d sz (xs++ys) (ovShift xs.length ov)):=by
 have hu:=(tiFacts hT).elem e he
 obtain ⟨inf,zv,g1,g2,g3,_⟩:=(tiFacts hE).zero z hz
 obtain ⟨inf',g4,g5,g6⟩:=(tiFacts hE).info
 rw [g1] at g4
 injection g4 with g4
 subst g4
 rw [hsz] at g5
 have hzs:zv.cells.size=sz:=by
  have:=(matchAll_rep (m:=m) zv.cells.toList z g3).1
  simpa [hzl] using this
 have hz1:∀(v:Value),v∈zv.cells→v.oneCell'=true:=by
  intro v hv
  obtain ⟨k,hk,rfl⟩:=Array.mem_iff_getElem.1 hv
  obtain ⟨k1,k2⟩:=matchAll_rep (m:=m) zv.cells.toList z g3
  have hk':k<z.length:=by simp at k1;omega
  obtain ⟨v',k3,k4⟩:=k2 k z[k] (List.getElem?_eq_getElem hk')
  have:v'=zv.cells[k]:=by
   rw [List.getElem?_eq_getElem (by simpa using hk)] at k3
   injection k3 with k3
   rw [←k3];simp
  rw [←this]
  exact k4.oneCell
 have hz0:∀(k:Nat) (v:Value),v∈Builtin.zeroCells zv.cells k→v.oneCell'=true:=by
  intro k v hv
  unfold Builtin.zeroCells at hv
  obtain ⟨q,hq,rfl⟩:=Array.mem_map.1 hv
  have hq:q<k * zv.cells.size:=by simpa using hq
  have hpos:0<zv.cells.size:=by
   rcases Nat.eq_zero_or_pos zv.cells.size with h0|h0
   ·rw [h0] at hq;simp at hq
   ·exact h0
  rw [getElem!_pos zv.cells (q % zv.cells.size) (Nat.mod_lt _ hpos)]
  exact hz1 _ (Array.getElem_mem _)
 obtain ⟨q,hq⟩:=run_call_builtin (P:=P) (a:=a) (w:=w) ho
 have hv1:ERep m ω (a.eval x) l1:=evalO_sound h hx
 generalize hax:a.eval x=v1 at *
 generalize hay:a.eval y=v2 at *
 have hrun:(execOp a.eval o).run P w=((Builtin.append_ #[t,t] o.type #[v1,v2]).run P w).andThen fun v w'=>.ok (.value v) w':=by
  rw [hq]
  simp only [List.map_toArray,List.map_cons,List.map_nil,hax,hay,builtin,Sem.run_bind,Sem.run_pure]
 have hmaxw:maxLen=9223372036854775807:=rfl
 obtain ⟨A2,c2,rfl,hc2,hys,hnone,hnews⟩:=hy
 -- the end, alike on all ways
 have fin:∀(v':Value) (w':World) (ri:RowI) (Fd:Nat→Prop),(Builtin.append_ #[t,t] o.type #[v1,.slice A2 ys.length c2]).run P w=.ok v' w' →
   (Below w.heap.size w w'∨∃b id,src=some id∧s.live true id∧ω.f true id b∧w.grownBy w' (some b)) →
   (∀k,Fd k→(∃id,src=some id∧s.live true id∧ω.f true id k)∨(w.heap.size≤k∧k<w'.heap.size)) →
   RowRepG m w' ω ri Fd ⟨sz,xs++ys,ovShift xs.length ov⟩→RefAt ri 0 (xs++ys).length v'→Moves P w0 m0 F0 o a w (s.appended src d sz (xs++ys) (ovShift xs.length ov)):=by
  intro v' w' ri Fd hr hw hF hR hv'
  refine gives_of_run (v:=v') (w':=w') (by rw [hrun,hr];rfl) ?_
  obtain ⟨ω',hC,hri,_⟩:=h.rowNew src d hn ri Fd hw hF hR
  rw [hd]
  exact ⟨m,ω',hC.put (by rw [newRow0_n];exact hn) (by show RefAt (ω'.row d) 0 _ v';rw [hri];exact hv')⟩
 -- a new row: whatever was there before
 have grown:∀(olds news:List Value) (old:Nat) (Fd:Nat→Prop) (G:Nat→Nat→Nat→Prop),olds.length=xs.length * sz→news.length=ys.length * sz→(∀x∈xs,x.length=sz) →
   (∀k,Fd k→∃id,src=some id∧s.live true id∧ω.f true id k)→(∀i j k,G i j k→Fd k)→(∀i j i' j' k,G i j k→G i' j' k→i=i'∧j=j') →
   (∀i j u,cellOf xs i j=some u→∃v,olds[i * sz+j]?=some v∧CRep m w (G i j) v u) →
   (∀i j u,cellOf ys i j=some u→∃v,news[i * sz+j]?=some v∧RCell m w ω (fun _=>False) v u (ovGet ov i j))→old<xs.length+ys.length→(∀v∈olds,v.oneCell'=true)→(∀v∈news,v.oneCell'=true) →
   (Builtin.append_ #[t,t] o.type #[v1,.slice A2 ys.length c2]).run P w=.ok (.slice (some ⟨w.heap.size,0,none⟩) (xs.length+ys.length) (grownCap w (xs.length+ys.length) old e))
    (w.drew.alloc (.cells (olds.toArray++news.toArray++Builtin.zeroCells zv.cells (grownCap w (xs.length+ys.length) old e - (xs.length+ys.length))) e)) →
   Moves P w0 m0 F0 o a w (s.appended src d sz (xs++ys) (ovShift xs.length ov)):=by
  intro olds news old Fd G ho' hnw hxs hFd hG hGD h1 h2 hlt hon hnn hr
  have hge:=grownCap_ge w (xs.length+ys.length) old e
  have hcm:grownCap w (xs.length+ys.length) old e≤maxLen:=grownCap_le_maxLen w _ old e (by rw [hmaxw];exact hm)
  have hbl:Below w.heap.size w (w.drew.alloc (.cells (olds.toArray++news.toArray++Builtin.zeroCells zv.cells (grownCap w (xs.length+ys.length) old e - (xs.length+ys.length))) e)) :=
   ((Below.refl _ w).drew).alloc (Nat.le_refl _) _
  have hh:(w.drew.alloc (.cells (olds.toArray++news.toArray++Builtin.zeroCells zv.cells (grownCap w (xs.length+ys.length) old e - (xs.length+ys.length))) e)).heap[w.heap.size]?=_:=heap_alloc_new w.drew _
  have hsize:w.heap.size<(w.drew.alloc (.cells (olds.toArray++news.toArray++Builtin.zeroCells zv.cells (grownCap w (xs.length+ys.length) old e - (xs.length+ys.length))) e)).heap.size:=(Array.getElem?_eq_some_iff.1 hh).1
  have hold:∀k,Fd k→k<w.heap.size:=fun k hk=>by
   obtain ⟨id,_,hl,hk⟩:=hFd k hk
   exact (h.fresh true id hl k hk).1
  refine fin _ _ ⟨some w.heap.size,grownCap w (xs.length+ys.length) old e,sz⟩ (fun k=>Fd k∨k=w.heap.size) hr (.inl hbl) (fun k hk=>?_) ⟨rfl,fun x hx=>?_,?_⟩ (.inr ⟨w.heap.size,⟨w.heap.size,0,none⟩,rfl,by simp;omega,by simp,fun _=>by simp⟩)
  ·rcases hk with hk|rfl
   ·exact .inl (hFd k hk)
   ·exact .inr ⟨Nat.le_refl _,hsize⟩
  ·rcases List.mem_append.1 hx with hx|hx
   ·exact hxs x hx
   ·exact hys x hx
  ·refine ⟨_,e,hh,?_,by simpa using hge,⟨hcm,fun l hl=>?_,fun q v hq=>?_⟩,.inr rfl,G,(fun i j k hk=>⟨.inl (hG i j k hk),fun e=>?_⟩),hGD,fun i j u hu=>?_⟩
   ·simp only [Array.size_append,List.size_toArray,size_zeroCells,hzs,ho',hnw,←Nat.add_mul]
    congr 1
    omega
   ·simp only [List.length_append] at hl
    rw [ovGet_shift,if_pos (by omega),Nat.add_sub_cancel_left,hov0] at hl
    cases hl
   ·have hm':=Array.mem_of_getElem? hq
    simp only [Array.mem_append,List.mem_toArray] at hm'
    rcases hm' with (hm'|hm')|hm'
    ·exact hon v hm'
    ·exact hnn v hm'
    ·exact hz0 _ v hm'
   ·have:=hold k (hG i j k hk)
    omega
   ·simp only at hu
    have hszr:(⟨sz,xs++ys,ovShift xs.length ov⟩:RowC).sz=sz:=rfl
    rw [hszr]
    rcases cellOf_append hu with ⟨hi,hu⟩|⟨hi,hu⟩
    ·obtain ⟨v,h3,h4⟩:=h1 i j u hu
     refine ⟨v,?_,?_⟩
     ·have hlt':i * sz+j<olds.length:=(List.getElem?_eq_some_iff.1 h3).1
      rw [Array.getElem?_append_left (by simp;omega),Array.getElem?_append_left (by simpa using hlt')]
      simpa using h3
     ·rw [ovGet_shift,if_neg (by omega)]
      exact CRep.keep (Mem.le_refl m) h4 fun k hk=>hbl.block k (hold k (hG i j k hk))
    ·obtain ⟨v,h3,h4⟩:=h2 _ j u hu
     refine ⟨v,?_,?_⟩
     ·have hlt':=(List.getElem?_eq_some_iff.1 h3).1
      have he1:i * sz+j - olds.length=(i - xs.length) * sz+j:=by
       rw [ho',Nat.sub_mul]
       have:xs.length * sz≤i * sz:=Nat.mul_le_mul_right _ hi
       omega
      have hge':olds.length≤i * sz+j:=by
       rw [ho']
       have:xs.length * sz≤i * sz:=Nat.mul_le_mul_right _ hi
       omega
      rw [Array.getElem?_append_left (by simp;omega),Array.getElem?_append_right (by simpa using hge')]
      simp only [List.size_toArray,he1]
      simpa using h3
     ·rw [ovGet_shift,if_pos hi]
      exact (h4.noOwnF (fun _=>False) (G i j)).keep (Mem.le_refl m) fun k hk=>hbl.block k (hold k (hG i j k hk))
 -- onto nil
 have onnil:∀(_:v1=.slice none 0 0) (_:xs=[]),Moves P w0 m0 F0 o a w (s.appended src d sz (xs++ys) (ovShift xs.length ov)):=by
  intro e1 e2
  subst e1 e2
  rcases Nat.eq_zero_or_pos ys.length with h0|h0
  ·have hy0:ys=[]:=List.eq_nil_of_length_eq_zero h0
   subst hy0
   have hrun0:(Builtin.append_ #[t,t] o.type #[.slice none 0 0,.slice A2 0 c2]).run P w=.ok (.slice none 0 0) w:=by
    cases A2 with
    | none=>simp [Builtin.append_,run_underlying hu,sizeOf,typeInfo,g1,Builtin.lenOf,Builtin.firstCells]
    | some ad2=>simp [Builtin.append_,run_underlying hu,sizeOf,typeInfo,g1,Builtin.lenOf,Builtin.firstCells,loadCells,loadCellsFrom]
   exact fin _ w ⟨none,0,sz⟩ (fun _=>False) hrun0 (.inl (Below.refl _ _)) (fun k hk=>hk.elim) ⟨rfl,fun x hx=>by simp at hx,rfl,rfl⟩ (.inl ⟨rfl,rfl,rfl,rfl⟩)
  ·cases A2 with
   | none=>rw [hnone rfl] at h0;simp at h0
   | some ad2 =>
    obtain ⟨news,hnl,hnc,hn1,hnr⟩:=hnews ad2 rfl
    have hr:=run_append_nil (P:=P) w t o.type e inf zv hu g1 g2 ad2 ys.length c2 news (by rw [g5];exact hnl) hnc h0 (by simp only [List.length_nil,Nat.zero_add] at hm;omega) (by simp only [List.length_nil,Nat.zero_add] at hb;rw [g6];omega)
    refine grown [] news 0 (fun _=>False) (fun _ _ _=>False) (by simp) hnl (fun x hx=>by cases hx) (fun k hk=>hk.elim) (fun i j k hk=>hk) (fun i j i' j' k hk=>hk.elim) (fun i j u hu'=>by simp [cellOf] at hu') hnr (by simp;omega) (by simp) hn1 ?_
    simp only [List.length_nil,Nat.zero_add]
    rw [hr]
    simp
 cases hs with
 | nil z sz =>
  have hv1:Rep m v1 (.nil z):=hv1
  cases hv1
  exact onnil rfl rfl
 | ref id n r hrow hov hnr' =>
  rcases hv1 with ⟨_,_,rfl,rfl⟩|⟨b,ad,k1,k2,rfl,k4⟩
  ·exact onnil rfl (by simp)
  ·have had:=k4 (.inr rfl)
   have hlive:s.live true id:=by show (look s.row id).isSome;rw [hrow];rfl
   obtain ⟨q1,q2,q3⟩:=h.row id r hrow
   simp only [Nat.zero_mul] at had
   subst had
   have hlx:(r.xs.take n).length=n:=by simp;omega
   obtain ⟨cur,e',G,p1,p2,p3,p4,p5,olds,p6,p7,p8,p9⟩:=row_flat h hrow k1 (lo:=0) (n:=n) (by omega)
   simp only [List.drop_zero,Nat.zero_mul,Nat.zero_add] at p7 p9
   have hxs:∀x∈r.xs.take n,x.length=r.sz:=fun x hx=>q2 x (List.mem_of_mem_take hx)
   have hcapo:CapOk (ω.row id).cap cur r:=by
    rw [k1] at q3
    obtain ⟨cs0,e0,q5,_,_,q4,_⟩:=q3
    rw [p1] at q5
    injection (Option.some.inj q5) with q6
    rw [q6]
    exact q4
   have hcap:(ω.row id).cap≤maxLen:=hcapo.1
   have holds:∀i j u,cellOf (r.xs.take n) i j=some u→∃v,olds[i * r.sz+j]?=some v∧CRep m w (G i j) v u:=by
    intro i j u hu
    obtain ⟨v,h3,h4⟩:=p9 i j u hu
    rw [hov] at h4
    exact ⟨v,h3,h4⟩
   rw [hlx] at hb hm ⊢
   simp only [Nat.sub_zero] at *
   -- in place
   have inplace:∀(news:List Value) (w':World) (cs':Array Value),news.length=ys.length * r.sz→(∀v∈news,v.oneCell'=true)→n+ys.length≤(ω.row id).cap→w'.heap[b]?=some (.cells cs' e' (0,0))→w.grownBy w' (some b)→cs'.size=cur.size →
     (∀k,cs'[k]?=if n * r.sz≤k∧k<n * r.sz+news.length then news[k - n * r.sz]? else cur[k]?) →
     (∀i j u,cellOf ys i j=some u→∃v,news[i * r.sz+j]?=some v∧RCell m w ω (fun _=>False) v u (ovGet ov i j)) →
     (Builtin.append_ #[t,t] o.type #[.slice (some ⟨b,0,none⟩) n (ω.row id).cap,.slice A2 ys.length c2]).run P w=.ok (.slice (some ⟨b,0,none⟩) (n+ys.length) (ω.row id).cap) w' →
     Moves P w0 m0 F0 o a w (s.appended (some id) d r.sz (r.xs.take n++ys) (ovShift n ov)):=by
    intro news w' cs' hnl hn1' hroom hhw hg hcs hget hnr hr
    have:=fin _ w' (ω.row id) (ω.f true id) hr (.inr ⟨b,id,rfl,hlive,p5,hg⟩) (fun k hk=>.inl ⟨id,rfl,hlive,hk⟩) ⟨q1,fun x hx=>?_,?_⟩ (.inr ⟨b,⟨b,0,none⟩,k1,by simp;omega,by simp [hlx],fun _=>by simp⟩)
    ·rw [hlx] at this
     exact this
    ·rcases List.mem_append.1 hx with hx|hx
     ·exact hxs x hx
     ·exact hys x hx
    ·rw [k1]
     refine ⟨cs',e',hhw,by rw [hcs];exact p2,by simp;omega,⟨hcap,fun l hl=>?_,fun q v hq=>?_⟩,p5,(fun i j k=>i<n∧G i j k),(fun i j k hk=>p3 i j k hk.2),(fun i j i' j' k hk hk'=>p4 i j i' j' k hk.2 hk'.2),fun i j u hu=>?_⟩
     ·simp only [List.length_append,hlx] at hl
      rw [ovGet_shift,if_pos (by omega),Nat.add_sub_cancel_left,hov0] at hl
      cases hl
     ·rw [hget] at hq
      split at hq
      ·exact hn1' v (List.mem_of_getElem? hq)
      ·exact hcapo.2.2 q v hq
     simp only at hu
     have hszr:(⟨r.sz,r.xs.take n++ys,ovShift (r.xs.take n).length ov⟩:RowC).sz=r.sz:=rfl
     rw [hszr,hlx]
     rw [hget]
     rcases cellOf_append hu with ⟨hi,hu⟩|⟨hi,hu⟩
     ·rw [hlx] at hi
      obtain ⟨v,h3,h4⟩:=holds i j u hu
      have hlt:i * r.sz+j<n * r.sz:=by rw [←p6];exact (List.getElem?_eq_some_iff.1 h3).1
      rw [if_neg (by omega)]
      refine ⟨v,?_,?_⟩
      ·rw [p7,List.getElem?_take,if_pos hlt] at h3
       simpa using h3
      ·rw [ovGet_shift,if_neg (by omega)]
       refine CRep.keep (Mem.le_refl m) (h4.sub (F':=fun k=>i<n∧G i j k) fun k hk=>⟨hi,hk⟩) fun k hk=>hg.block k (h.fresh true id hlive k (p3 i j k hk.2).1).1 fun e=>?_
       injection e with e
       exact (p3 i j k hk.2).2 e
     ·rw [hlx] at hi hu
      obtain ⟨v,h3,h4⟩:=hnr _ j u hu
      have hlt:=(List.getElem?_eq_some_iff.1 h3).1
      have hle:n * r.sz≤i * r.sz:=Nat.mul_le_mul_right _ hi
      rw [Nat.sub_mul] at hlt h3
      rw [if_pos ⟨by omega,by omega⟩]
      refine ⟨v,by rw [←h3];congr 1;omega,?_⟩
      rw [ovGet_shift,if_pos hi]
      refine (h4.noOwnF (fun _=>False) (fun k=>i<n∧G i j k)).keep (Mem.le_refl m) fun k hk=>?_
      exact absurd hk.1 (by omega)
   cases A2 with
   | none =>
    have hy0:=hnone rfl
    subst hy0
    have hrun0:(Builtin.append_ #[t,t] o.type #[.slice (some ⟨b,0,none⟩) n (ω.row id).cap,.slice none 0 c2]).run P w=.ok (.slice (some ⟨b,0,none⟩) n (ω.row id).cap) w:=by
     have:n≤(ω.row id).cap:=by omega
     simp [Builtin.append_,run_underlying hu,sizeOf,typeInfo,g1,Builtin.lenOf,Builtin.firstCells,this,storeCells]
    exact inplace [] w cur (by simp) (by simp) (by simp;omega) p1 ⟨rfl,rfl,rfl,Nat.le_refl _,fun _ _ _=>rfl⟩ rfl (fun k=>by rw [if_neg (by simp)]) (fun i j u hu=>by simp [cellOf] at hu) hrun0
   | some ad2 =>
    obtain ⟨news,hnl,hnc,hn1,hnr⟩:=hnews ad2 rfl
    by_cases hroom:n+ys.length≤(ω.row id).cap
    ·have hfit:n * r.sz+news.length≤cur.size:=by rw [hnl,p2,←Nat.add_mul];exact Nat.mul_le_mul_right _ hroom
     have hr:=run_append_room' (P:=P) (w:=w) t o.type e e' inf hu g1 b n (ω.row id).cap cur p1 ad2 ys.length c2 news (by rw [g5];exact hnl) hnc hn1 hroom (by rw [g5];exact hfit)
     rw [g5] at hr
     exact inplace news _ _ hnl hn1 hroom (setRow_heap w b cur _ e' _ p1) (grownBy_setRow w b _) (store_size hfit) (fun k=>store_get hfit k) hnr hr
    ·have hr:=run_append_grow (P:=P) w t o.type e inf zv hu g1 g2 ⟨b,0,none⟩ n (ω.row id).cap olds (by rw [g5];exact p6) (fun j u hj=>by
      rw [cell_row p1]
      have hlt:j<n * r.sz:=by rw [←p6];exact (List.getElem?_eq_some_iff.1 hj).1
      rw [p7,List.getElem?_take,if_pos hlt] at hj
      simpa using hj) ad2 ys.length c2 news (by rw [g5];exact hnl) hnc (by omega) (by omega) (growslice_fits (by omega) (by rw [g6];exact hb))
     have:=grown olds news (ω.row id).cap (fun k=>ω.f true id k∧k≠b) (fun i j k=>i<n∧G i j k) (by rw [hlx];exact p6) hnl hxs (fun k hk=>⟨id,rfl,hlive,hk.1⟩) (fun i j k hk=>p3 i j k hk.2) (fun i j i' j' k hk hk'=>p4 i j i' j' k hk.2 hk'.2) (fun i j u hu=>by
      obtain ⟨v,h3,h4⟩:=holds i j u hu
      refine ⟨v,h3,h4.sub fun k hk=>⟨?_,hk⟩⟩
      unfold cellOf at hu
      rw [List.getElem?_take] at hu
      split at hu
      ·assumption
      ·simp at hu) hnr (by rw [hlx];omega) (fun v hv=>by
      rw [p7] at hv
      obtain ⟨q,hq⟩:=List.mem_iff_getElem?.1 (List.mem_of_mem_take hv)
      exact hcapo.2.2 q v (by simpa using hq)) hn1 (by rw [hlx];exact hr)
     rw [hlx] at this
     exact this
end
end Go.Bw
namespace Go.Bw
open Go.RowKit
section
variable {P:Program} {w0:World} {m0:Mem} {s s':St} {a:Act} {w w':World} {m m':Mem} {ω ω':Wh} {F0:Home} {T:TypeId→Option TI}
def frzRow (fr:L→L) (r:RowC):List (List L):=match r.ov with
 | []=>r.xs.map fun x=>x.map (L.frzN 4)
 | ov=>r.xs.zipIdx.map fun p=>p.1.zipIdx.map fun q=>match ovGet ov p.2 q.2 with|some l=>fr l|none=>q.1.frzN 4
def frzV:Nat→St→L→L
 | n+1,s,.ref id lo k=>match look s.row id with
  | some r=>if lo+k≤r.xs.length then .sl r.sz (((frzRow (frzV n s) r).drop lo).take k) else .any
  | none=>.any
 | n+1,s,.eptr id i o=>match look s.row id with
  | some r=>if i<r.xs.length then .fz (((frzRow (frzV n s) r).getD i []).drop o) else .any
  | none=>.any
 | n+1,s,.ptr id o=>match look s.box id with
  | some ls=>.fz ((ls.map (frzV n s)).drop o)
  | none=>.any
 | n+1,s,.clo f caps=>.clo f (caps.map (frzV n s))
 | 0,_,.ref _ _ _=>.any
 | 0,_,.eptr _ _ _=>.any
 | 0,_,.ptr _ _=>.any
 | 0,_,.clo _ _=>.any
 | _,_,l=>l.frzN 4
theorem frzRow_length (fr:L→L) (r:RowC):(frzRow fr r).length=r.xs.length:=by
 unfold frzRow;split<;>simp
theorem frzRow_cell (fr:L→L) (r:RowC) {i j:Nat} {u:L} (h:cellOf (frzRow fr r) i j=some u):∃u0,cellOf r.xs i j=some u0∧u=(match ovGet r.ov i j with|some l=>fr l|none=>u0.frzN 4):=by
 unfold frzRow at h
 split at h
 ·rename_i hov
  obtain ⟨u0,h1,h2⟩:=cellOf_map r.xs (L.frzN 4) i j u h
  exact ⟨u0,h1,by rw [hov];exact h2⟩
 ·unfold cellOf at h ⊢
  rw [List.getElem?_map,List.getElem?_zipIdx] at h
  cases hx:r.xs[i]? with
  | none=>rw [hx] at h;simp at h
  | some x =>
   rw [hx] at h
   simp only [Option.map_some,Option.bind_some,List.getElem?_map,List.getElem?_zipIdx,Option.map_eq_some_iff,Nat.zero_add] at h
   obtain ⟨q,⟨u0,h1,rfl⟩,h2⟩:=h
   exact ⟨u0,by simpa using h1,h2.symm⟩
theorem frzRow_size (fr:L→L) (r:RowC) {sz:Nat} (h:∀x∈r.xs,x.length=sz):∀x∈frzRow fr r,x.length=sz:=by
 intro x hx
 unfold frzRow at hx
 split at hx
 ·obtain ⟨y,hy,rfl⟩:=List.mem_map.1 hx
  simpa using h y hy
 ·obtain ⟨y,hy,rfl⟩:=List.mem_map.1 hx
  simp only [List.length_map,List.length_zipIdx]
  exact h _ (by
   obtain ⟨q,i⟩:=y
   have:=List.mem_zipIdx_iff_getElem?.1 hy
   exact List.mem_of_getElem? this)
theorem frzV_sound (h:CI P w0 m0 F0 s a w m ω) (hm:Mem.le m m') (hF:∀κ id,s.live κ id→∀x:Addr,ω.f κ id x.block→m' x=w.cell? x):∀(n:Nat) (v:Value) (l:L),ERep m ω v l→Rep m' v (frzV n s l):=by
 intro n
 induction n with
 | zero =>
  intro v l hl
  cases l with
  | ref=>exact .any v (ERep.oneCell (m:=m) (ω:=ω) hl)
  | eptr=>exact .any v (ERep.oneCell (m:=m) (ω:=ω) hl)
  | ptr=>exact .any v (ERep.oneCell (m:=m) (ω:=ω) hl)
  | clo=>exact .any v (ERep.oneCell (m:=m) (ω:=ω) hl)
  | own=>cases hl
  | byt=>cases hl
  | _=>exact (Rep.mono hm hl)
 | succ n ih =>
  intro v l hl
  have hrow:∀id r,look s.row id=some r→∀b,(ω.row id).blk=some b→∃cs e,w.heap[b]?=some (.cells cs e (0,0))∧ω.f true id b∧(∀i j u,cellOf (frzRow (frzV n s) r) i j=some u→∃v,m' ((⟨b,0,none⟩:Addr).add (i * r.sz+j))=some v∧Rep m' v u):=by
   intro id r hr b hblk
   have hlive:s.live true id:=by show (look s.row id).isSome;rw [hr];rfl
   obtain ⟨g1,g2,g3⟩:=h.row id r hr
   rw [hblk] at g3
   obtain ⟨cs,e,k1,k2,k3,k4,k5,G,k6,k7,k8⟩:=g3
   refine ⟨cs,e,k1,k5,fun i j u hu=>?_⟩
   obtain ⟨u0,hu0,rfl⟩:=frzRow_cell _ r hu
   obtain ⟨v,h3,h4⟩:=k8 i j u0 hu0
   refine ⟨v,?_,?_⟩
   ·rw [hF true id hlive _ (by rw [block_add];exact k5),cell_row k1]
    exact h3
   ·cases hov:ovGet r.ov i j with
    | some l=>rw [hov] at h4;exact ih v l h4
    | none =>
     rw [hov] at h4
     exact CRep.frz h4 hm (fun x hx=>hF true id hlive x (k6 i j _ hx).1) 4
  cases l with
  | ref id lo k =>
   simp only [frzV]
   cases hr:look s.row id with
   | none=>exact .any v (ERep.oneCell (m:=m) (ω:=ω) hl)
   | some r =>
    simp only
    split
    ·rename_i hlen
     have hl':RefAt (ω.row id) lo k v:=hl
     rcases hl' with ⟨_,rfl,rfl,rfl⟩|⟨b,ad,k1,k2,rfl,k4⟩
     ·simp only [List.drop_zero,List.take_zero]
      exact .slNil _
     ·obtain ⟨cs,e,q1,q2,q3⟩:=hrow id r hr b k1
      obtain ⟨g1,g2,_⟩:=h.row id r hr
      have hcell:∀i j u,cellOf (((frzRow (frzV n s) r).drop lo).take k) i j=some u→i<k∧cellOf (frzRow (frzV n s) r) (lo+i) j=some u:=by
       intro i j u hu
       unfold cellOf at hu ⊢
       rw [List.getElem?_take] at hu
       split at hu
       ·rename_i hi
        rw [List.getElem?_drop] at hu
        exact ⟨hi,hu⟩
       ·simp at hu
      refine .sl ad k _ r.sz _ (fun i j=>(m' (ad.add (i * r.sz+j))).getD default) (by simp [frzRow_length];omega) (by omega) (fun x hx=>frzRow_size _ r g2 x (List.mem_of_mem_drop (List.mem_of_mem_take hx))) (fun i j u hu=>?_) (fun i j u hu=>?_)
      ·obtain ⟨hi,hu⟩:=hcell i j u hu
       obtain ⟨v,h3,_⟩:=q3 _ j u hu
       rw [k4 (.inl (by omega)),g1,Addr.add_lit,show lo * r.sz+(i * r.sz+j)=(lo+i) * r.sz+j by rw [Nat.add_mul];omega]
       rw [Addr.add_lit,Nat.zero_add] at h3
       rw [h3];rfl
      ·obtain ⟨hi,hu⟩:=hcell i j u hu
       obtain ⟨v,h3,h4⟩:=q3 _ j u hu
       rw [k4 (.inl (by omega)),g1,Addr.add_lit,show lo * r.sz+(i * r.sz+j)=(lo+i) * r.sz+j by rw [Nat.add_mul];omega]
       rw [Addr.add_lit,Nat.zero_add] at h3
       rw [h3];exact h4
    ·exact .any v (ERep.oneCell (m:=m) (ω:=ω) hl)
  | eptr id i o =>
   simp only [frzV]
   cases hr:look s.row id with
   | none=>exact .any v (ERep.oneCell (m:=m) (ω:=ω) hl)
   | some r =>
    simp only
    split
    ·rename_i hlen
     obtain ⟨b,k1,rfl⟩:=hl
     obtain ⟨cs,e,q1,q2,q3⟩:=hrow id r hr b k1
     obtain ⟨g1,g2,_⟩:=h.row id r hr
     refine FRep.rep fun j u hu=>?_
     rw [List.getElem?_drop] at hu
     have hlt:i<(frzRow (frzV n s) r).length:=by rw [frzRow_length];exact hlen
     have hu':cellOf (frzRow (frzV n s) r) i (o+j)=some u:=by
      rw [cellOf_row hlt];exact hu
     obtain ⟨v,h3,h4⟩:=q3 _ _ u hu'
     refine ⟨v,?_,h4⟩
     rw [Addr.add_lit] at h3 ⊢
     rw [←h3,g1]
     congr 2
     omega
    ·exact .any v (ERep.oneCell (m:=m) (ω:=ω) hl)
  | ptr id o =>
   simp only [frzV]
   cases hr:look s.box id with
   | none=>exact .any v (ERep.oneCell (m:=m) (ω:=ω) hl)
   | some ls =>
    simp only
    have hlive:s.live false id:=by show (look s.box id).isSome;rw [hr];rfl
    obtain ⟨cs,e,k1,k2,k3,G,k4,k5,k6⟩:=h.box id ls hr
    have hl:v=_:=hl
    subst hl
    refine FRep.rep fun j u hu=>?_
    rw [List.getElem?_drop,List.getElem?_map,Option.map_eq_some_iff] at hu
    obtain ⟨l0,hl0,rfl⟩:=hu
    obtain ⟨v,h3,h4⟩:=k6 _ l0 hl0
    refine ⟨v,?_,?_⟩
    ·rw [Addr.add_lit,hF false id hlive _ k3]
     simp only [World.cell?,k1]
     exact h3
    ·rcases h4.cases with ⟨sz,xs,rfl,h4⟩|⟨_,h4⟩|⟨t,q,rfl,h4⟩
     ·have:frzV n s (.own sz xs)=(L.own sz xs).frzN 4:=by cases n<;>rfl
      rw [this]
      exact CRep.frz h4 hm (fun x hx=>hF false id hlive x (k4 _ _ hx).1) 4
     ·exact ih v l0 h4
     ·have:frzV n s (.byt t q)=.any:=by cases n<;>rfl
      rw [this]
      exact Rep.any _ h4.oneCell
  | clo f caps =>
   obtain ⟨vs,rfl,h2,h3⟩:=hl
   simp only [frzV]
   refine .clo f _ vs (fun i=>(vs[i]?).getD default) (by simpa using h2) (fun i u hu=>?_) (fun i u hu=>?_)
   ·simp only [List.getElem?_map,Option.map_eq_some_iff] at hu
    obtain ⟨u0,hu,rfl⟩:=hu
    obtain ⟨x,h4,_⟩:=h3 i u0 hu
    rw [h4];rfl
   ·simp only [List.getElem?_map,Option.map_eq_some_iff] at hu
    obtain ⟨u0,hu,rfl⟩:=hu
    obtain ⟨x,h4,h5⟩:=h3 i u0 hu
    rw [h4]
    refine ih _ _ ?_
    rcases h5 with h5|h5
    ·exact h5.erep
    ·cases u0 with
     | ptr=>exact h5
     | eptr=>exact h5
     | _=>cases h5
  | own=>cases hl
  | byt=>cases hl
  | _=>exact (Rep.mono hm hl)
def keepL {α:Type} (k:List Nat) (e:List (Nat×α)):List (Nat×α):=e.filter fun p=>k.elem p.1
def dropL {α:Type} (k:List Nat) (e:List (Nat×α)):List (Nat×α):=e.filter fun p=>!k.elem p.1
theorem look_keepL {α:Type} (k:List Nat):∀(e:List (Nat×α)) (i:Nat),look (keepL k e) i=if k.elem i then look e i else none
 | [],i=>by simp [keepL,look]
 | (t,x)::e,i=>by
  have ih:=look_keepL k e i
  simp only [keepL,List.filter_cons] at ih ⊢
  cases ht:k.elem t with
  | true =>
   simp only [if_true,look]
   by_cases h:t=i
   ·subst h;rw [if_pos rfl,if_pos rfl,ht];rfl
   ·rw [if_neg h,if_neg h];exact ih
  | false =>
   simp only [Bool.false_eq_true,if_false,look]
   rw [ih]
   by_cases h:t=i
   ·subst h;rw [ht];rfl
   ·rw [if_neg h]
theorem look_dropL {α:Type} (k:List Nat):∀(e:List (Nat×α)) (i:Nat),look (dropL k e) i=if k.elem i then none else look e i
 | [],i=>by simp [dropL,look]
 | (t,x)::e,i=>by
  have ih:=look_dropL k e i
  simp only [dropL,List.filter_cons] at ih ⊢
  cases ht:k.elem t with
  | true =>
   simp only [Bool.not_true,Bool.false_eq_true,if_false,look]
   rw [ih]
   by_cases h:t=i
   ·subst h;rw [ht];rfl
   ·rw [if_neg h]
  | false =>
   simp only [Bool.not_false,if_true,look]
   by_cases h:t=i
   ·subst h;rw [if_pos rfl,if_pos rfl,ht];rfl
   ·rw [if_neg h,if_neg h];exact ih
def St.rest (s:St) (kb kr:List Nat):St:={s with box:=dropL kb s.box,row:=dropL kr s.row}
def topL (kb kr:List Nat) (s1:St):L→L
 | .ref id lo k=>if kr.elem id then .ref id lo k else frzV 4 s1 (.ref id lo k)
 | .eptr id i o=>if kr.elem id then .eptr id i o else frzV 4 s1 (.eptr id i o)
 | .ptr id o=>if kb.elem id then .ptr id o else frzV 4 s1 (.ptr id o)
 | .own sz xs=>.own sz xs
 | .clo f caps=>.clo f (caps.map fun l=>match l with
  | .ptr id o=>if kb.elem id then .ptr id o else frzV 4 s1 (.ptr id o)
  | .eptr id i o=>if kr.elem id then .eptr id i o else frzV 4 s1 (.eptr id i o)
  | l=>l)
 | l=>l
def St.freeze (s:St) (kb kr:List Nat):St :=
 {n:=s.n,env:=s.env.map fun p=>(p.1,p.2.map (topL kb kr (s.rest kb kr))),box:=(keepL kb s.box).map fun p=>(p.1,p.2.map (topL kb kr (s.rest kb kr))),row:=(keepL kr s.row).map fun p=>(p.1,p.2.map (topL kb kr (s.rest kb kr)))}
theorem CI.freeze (h:CI P w0 m0 F0 s a w m ω) (kb kr:List Nat):∃m',CI P w0 m0 F0 (s.freeze kb kr) a w m' ω∧Mem.le m m'∧∀v l,ERep m ω v l→ERep m' ω v (topL kb kr (s.rest kb kr) l):=by
 have h1:CI P w0 m0 F0 (s.rest kb kr) a w m ω:=h.weaken rfl (fun _ _ h=>h) (fun i ls hi=>by
  simp only [St.rest] at hi
  rw [look_dropL] at hi
  split at hi
  ·cases hi
  ·exact hi) (fun i ls hi=>by
  simp only [St.rest] at hi
  rw [look_dropL] at hi
  split at hi
  ·cases hi
  ·exact hi)
 let F:Nat→Prop:=fun k=>∃κ id,(s.rest kb kr).live κ id∧ω.f κ id k
 have hF:∀x v,m x=some v→¬ F x.block:=by
  rintro x v hx ⟨κ,id,hl,hk⟩
  exact (h1.fresh κ id hl _ hk).2.2 x v hx rfl
 have hle:=frzMem_le (w:=w) hF
 have hS:=fun n v l hl=>frzV_sound h1 hle (fun κ id hl x hx=>frzMem_in (m:=m) ⟨κ,id,hl,hx⟩) n v l hl
 have hg:∀v l,ERep m ω v l→ERep (frzMem m w F) ω v (topL kb kr (s.rest kb kr) l):=by
  have hcap:∀x u,(Rep m x u∨PRep ω x u)→Rep (frzMem m w F) x (match u with
    | .ptr id o=>if kb.elem id then .ptr id o else frzV 4 (s.rest kb kr) (.ptr id o)
    | .eptr id i o=>if kr.elem id then .eptr id i o else frzV 4 (s.rest kb kr) (.eptr id i o)
    | l=>l)∨PRep ω x (match u with
    | .ptr id o=>if kb.elem id then .ptr id o else frzV 4 (s.rest kb kr) (.ptr id o)
    | .eptr id i o=>if kr.elem id then .eptr id i o else frzV 4 (s.rest kb kr) (.eptr id i o)
    | l=>l):=by
   intro x u hu
   cases u with
   | ptr id o =>
    rcases hu with hu|hu
    ·cases hu
    ·simp only
     split
     ·exact .inr hu
     ·exact .inl (hS 4 x _ hu)
   | eptr id i o =>
    rcases hu with hu|hu
    ·cases hu
    ·simp only
     split
     ·exact .inr hu
     ·exact .inl (hS 4 x _ hu)
   | _ =>
    rcases hu with hu|hu
    ·exact .inl (hu.mono hle)
    ·cases hu
  intro v l hl
  cases l with
  | ref id lo k =>
   simp only [topL]
   split
   ·exact hl
   ·exact (hS 4 v _ hl).erep
  | eptr id i o =>
   simp only [topL]
   split
   ·exact hl
   ·exact (hS 4 v _ hl).erep
  | ptr id o =>
   simp only [topL]
   split
   ·exact hl
   ·exact (hS 4 v _ hl).erep
  | own=>cases hl
  | byt=>cases hl
  | clo f caps =>
   obtain ⟨vs,rfl,h2,h3⟩:=hl
   refine ⟨vs,rfl,by simpa using h2,fun i u hu=>?_⟩
   simp only [List.getElem?_map,Option.map_eq_some_iff] at hu
   obtain ⟨u0,hu,rfl⟩:=hu
   obtain ⟨x,h4,h5⟩:=h3 i u0 hu
   exact ⟨x,h4,hcap x u0 h5⟩
  | _=>exact Rep.mono hle hl
 refine ⟨_,h.remap (g:=topL kb kr (s.rest kb kr)) ⟨hle,hg,fun _ _=>rfl,fun _ _=>rfl⟩ rfl (fun t x hx=>map_look hx) (fun i ls hi=>?_) (fun i r hi=>?_) (frzMem_ok h.ok) (fun x=>?_),hle,hg⟩
 ·obtain ⟨y,hy,rfl⟩:=map_look hi
  rw [look_keepL] at hy
  split at hy
  ·exact ⟨y,hy,rfl,rfl,rfl⟩
  ·cases hy
 ·obtain ⟨y,hy,rfl⟩:=map_look hi
  rw [look_keepL] at hy
  split at hy
  ·exact ⟨y,hy,rfl,rfl,rfl⟩
  ·cases hy
 ·by_cases hx:F x.block
  ·refine .inr ?_
   obtain ⟨κ,id,hl,hk⟩:=hx
   refine ⟨(h1.fresh κ id hl _ hk).2.1,fun κ' id' hl' hk'=>?_⟩
   -- what is kept isn't what is frozen
   have hk1:s.live κ' id'∧(if κ' then kr.elem id' else kb.elem id')=true:=by
    cases κ' with
    | false =>
     simp only [St.live,St.freeze] at hl'
     obtain ⟨z,hz⟩:=Option.isSome_iff_exists.1 hl'
     obtain ⟨y,hy,_⟩:=map_look hz
     rw [look_keepL] at hy
     split at hy
     ·rename_i hq;exact ⟨by show (look s.box id').isSome;rw [hy];rfl,hq⟩
     ·cases hy
    | true =>
     simp only [St.live,St.freeze] at hl'
     obtain ⟨z,hz⟩:=Option.isSome_iff_exists.1 hl'
     obtain ⟨y,hy,_⟩:=map_look hz
     rw [look_keepL] at hy
     split at hy
     ·rename_i hq;exact ⟨by show (look s.row id').isSome;rw [hy];rfl,hq⟩
     ·cases hy
   have hk2:s.live κ id∧(if κ then kr.elem id else kb.elem id)=false:=by
    cases κ with
    | false =>
     simp only [St.live,St.rest] at hl
     rw [look_dropL] at hl
     split at hl
     ·cases hl
     ·rename_i hq;exact ⟨hl,by simpa using hq⟩
    | true =>
     simp only [St.live,St.rest] at hl
     rw [look_dropL] at hl
     split at hl
     ·cases hl
     ·rename_i hq;exact ⟨hl,by simpa using hq⟩
   obtain ⟨rfl,rfl⟩:=h.apart _ _ _ _ hk1.1 hk2.1 _ hk' hk
   rw [hk1.2] at hk2
   cases hk2.2
  ·exact .inl (frzMem_out hx)
def St.takeRow (s:St) (id d lo n:Nat) (r:RowC):St:=(s.newRow0 (some id) d r).put d (.v (.one (.ref d lo n)))
theorem moves_takeRow {o:Oper} {x:Operand} {d id lo n:Nat} {r:RowC} (ho:o.op=.assign x) (hd:o.dst=some d) (hn:d<s.n) (h:CI P w0 m0 F0 s a w m ω)
  (hx:evalO T s o.type x=some (.v (.one (.ref id lo n)))) (hb:look s.row id=some r):Moves P w0 m0 F0 o a w (s.takeRow id d lo n r):=by
 have hlive:s.live true id:=by show (look s.row id).isSome;rw [hb];rfl
 obtain ⟨ω',hC,hri,_⟩:=h.rowNew (some id) d hn (ω.row id) (ω.f true id) (.inl (Below.refl _ _)) (fun k hk=>.inl ⟨id,rfl,hlive,hk⟩) (h.row id r hb)
 refine gives_of_run (v:=a.eval x) (w':=w) (by unfold execOp;simp only [ho,Sem.run_pure]) ?_
 rw [hd]
 refine ⟨m,ω',hC.put (by rw [newRow0_n];exact hn) ?_⟩
 show RefAt (ω'.row d) lo n _
 rw [hri]
 exact evalO_sound h hx
def St.nilRow (s:St) (d z:Nat):St:=(s.newRow0 none d ⟨z,[],[]⟩).put d (.v (.one (.ref d 0 0)))
theorem moves_nilRow {o:Oper} {x:Operand} {d z:Nat} (ho:o.op=.assign x) (hd:o.dst=some d) (hn:d<s.n) (h:CI P w0 m0 F0 s a w m ω)
  (hx:evalO T s o.type x=some (.v (.one (.nil z)))):Moves P w0 m0 F0 o a w (s.nilRow d z):=by
 obtain ⟨ω',hC,hri,_⟩:=h.rowNew (r:=⟨z,[],[]⟩) none d hn ⟨none,0,z⟩ (fun _=>False) (.inl (Below.refl _ _)) (fun k hk=>hk.elim) ⟨rfl,(fun x hx=>by cases hx),rfl,rfl⟩
 refine gives_of_run (v:=a.eval x) (w':=w) (by unfold execOp;simp only [ho,Sem.run_pure]) ?_
 rw [hd]
 refine ⟨m,ω',hC.put (by rw [newRow0_n];exact hn) ?_⟩
 show RefAt (ω'.row d) 0 0 _
 rw [hri]
 have hv:Rep m (a.eval x) (.nil z):=evalO_sound h hx
 generalize a.eval x=u at hv
 cases hv
 exact .inl ⟨rfl,rfl,rfl,rfl⟩
def ovAll:Nat→List (List L)→List (Nat×Nat×L)
 | _,[]=>[]
 | i,x::r=>ovAdd i 0 x (ovAll (i+1) r)
theorem ovGet_all:∀(X:List (List L)) (i0 i j:Nat),ovGet (ovAll i0 X) i j=if i0≤i then (match cellOf X (i - i0) j with|some l=>if l.isFz then none else some l|none=>none) else none
 | [],i0,i,j=>by simp [ovAll,ovGet,cellOf]
 | x::r,i0,i,j=>by
  simp only [ovAll]
  rw [ovGet_add,ovGet_all r]
  by_cases h1:i=i0
  ·subst h1
   simp only [Nat.le_refl,if_true,Nat.sub_self,Nat.not_succ_le_self,if_false,true_and,Nat.zero_le,Nat.zero_add,Nat.sub_zero,cellOf,List.getElem?_cons_zero,Option.bind_some]
   by_cases hj:j<x.length
   ·rw [if_pos hj]
    all_goals (cases x[j]?<;>rfl)
   ·rw [if_neg hj,List.getElem?_eq_none (by omega)]
  ·rw [if_neg (fun e=>h1 e.1)]
   by_cases h2:i0≤i
   ·rw [if_pos (by omega),if_pos h2]
    have:i - i0=(i - (i0+1))+1:=by omega
    simp only [cellOf,this,List.getElem?_cons_succ]
   ·rw [if_neg (by omega),if_neg h2]
def rowOf (sz len:Nat) (ls:List L):RowC:=⟨sz,(chunks sz len ls).map fun x=>x.map L.clos,ovAll 0 (chunks sz len ls)⟩
theorem moves_buildSlice {o:Oper} {t e:TypeId} {i j:TI} {len d:Nat} {parts:Array (Nat×Operand)} {z ls:List L} {ty:TypeId} (ho:o.op=.buildSlice t len parts) (hd:o.dst=some d) (hn:d<s.n) (hTab:TabOk P T) (hi:T t=some i) (he:i.elem=some e) (hj:T e=some j)
  (hz:j.zero=some z) (hzl:z.length=j.size) (hsz:0<j.size) (hbig:len * j.size≤16777216) (h:CI P w0 m0 F0 s a w m ω)
  (hf:fillL T s ty (fun k=>some (k * j.size,j.size)) (repL z len) parts.toList=some ls):Moves P w0 m0 F0 o a w ((s.newRow0 none d (rowOf j.size len ls)).put d (.v (.one (.ref d 0 len)))):=by
 have F:=tiFacts (hTab _ _ hj)
 have hu:=(tiFacts (hTab _ _ hi)).elem e he
 obtain ⟨inf,g1,g2,_⟩:=F.info
 obtain ⟨inf',zv,g3,g4,g5,_⟩:=F.zero z hz
 rw [g1] at g3
 injection g3 with g3
 subst g3
 obtain ⟨g7,g8⟩:=matchAll_rep (m:=m) zv.cells.toList z g5
 have hzs:zv.cells.size=j.size:=by simpa [hzl] using g7
 let init:Array Value:=(Array.range (len * j.size)).map (zv.cells[· % zv.cells.size]!)
 have hinit:init.size=(repL z len).length:=by simp [init,repL_length,hzl]
 have hir:∀(k:Nat) (l:L),(repL z len)[k]?=some l→∃v,init[k]?=some v∧ERep m ω v l:=by
  intro k l hk
  have hlt:k<len * j.size:=by
   have:=(List.getElem?_eq_some_iff.1 hk).1
   rwa [repL_length,hzl] at this
  rw [repL_get z len k (by rw [hzl];exact hlt)] at hk
  obtain ⟨v,h1,h2⟩:=g8 _ l hk
  refine ⟨v,?_,h2.erep⟩
  simp only [init,Array.getElem?_map,Array.getElem?_range,if_pos hlt,Option.map_some]
  rw [hzs,←hzl]
  have:k % z.length<zv.cells.size:=by rw [hzs,←hzl];exact Nat.mod_lt _ (by omega)
  rw [getElem!_pos zv.cells (k % z.length) this]
  have h1':zv.cells[k % z.length]?=some v:=by simpa using h1
  rw [Array.getElem?_eq_getElem this] at h1'
  exact h1'
 obtain ⟨cs,h1,h2,h3,h4⟩:=fill_sound h parts.toList init (repL z len) ls hinit hir hf
 have hll:ls.length=len * j.size:=by rw [h3,repL_length,hzl]
 have hh:(w.alloc (.cells cs e (0,0))).heap[w.heap.size]?=some (.cells cs e (0,0)):=heap_alloc_new w _
 have hlt:=(Array.getElem?_eq_some_iff.1 hh).1
 obtain ⟨ω',hC,hri,_⟩:=h.rowNew (w':=w.alloc (.cells cs e (0,0))) (r:=rowOf j.size len ls) none d hn ⟨some w.heap.size,len,j.size⟩ (fun k=>k=w.heap.size) (.inl (Below.alloc (Below.refl _ _) (Nat.le_refl _) _)) (fun k hk=>.inr ⟨by omega,by omega⟩) (by
  refine ⟨rfl,fun x hx=>?_,?_⟩
  ·obtain ⟨y,hy,rfl⟩:=List.mem_map.1 hx
   simpa [rowOf] using chunks_size j.size len ls hll y hy
  ·have hlen:len≤maxLen:=by
    have:len * 1≤len * j.size:=Nat.mul_le_mul_left _ hsz
    unfold maxLen
    omega
   refine ⟨cs,e,hh,by rw [h2,hll];rfl,by simp [rowOf,chunks_length],⟨hlen,fun l hl=>?_,fun q v hq=>?_⟩,rfl,fun _ _ _=>False,fun i j k hk=>hk.elim,fun i j i' j' k hk=>hk.elim,fun p q u hu=>?_⟩
   ·simp only [rowOf,List.length_map] at hl
    rw [ovGet_all,if_pos (Nat.zero_le _),Nat.sub_zero] at hl
    have hn:cellOf (chunks j.size len ls) (chunks j.size len ls).length 0=none:=by simp [cellOf]
    rw [hn] at hl
    cases hl
   ·have hq':q<ls.length:=by have:=(Array.getElem?_eq_some_iff.1 hq).1;omega
    obtain ⟨v',h5,h6⟩:=h4 q ls[q] (List.getElem?_eq_getElem hq')
    rw [hq] at h5
    injection h5 with h5
    rw [h5]
    exact h6.oneCell
   obtain ⟨u0,hu0,rfl⟩:=cellOf_map _ _ _ _ _ hu
   obtain ⟨k1,k2⟩:=chunks_cell j.size len ls p q u0 hu0
   obtain ⟨v,h5,h6⟩:=h4 _ u0 k1
   refine ⟨v,h5,?_⟩
   simp only [rowOf]
   rw [ovGet_all,if_pos (Nat.zero_le _),Nat.sub_zero,hu0]
   simp only
   by_cases hz:u0.isFz=true
   ·rw [if_pos hz]
    show CRep m _ _ v u0.clos
    exact .fr ((h6.rep hz).clos hz)
   ·rw [if_neg hz]
    exact h6)
 refine gives_of_run (v:=.slice (some ⟨w.heap.size,0,none⟩) len len) (w':=w.alloc (.cells cs e (0,0))) ?_ ⟨m,ω',?_⟩
 ·have hmap:(parts.map fun x=>(x.1,a.eval x.2)).toList=parts.toList.map fun p=>(p.1,a.eval p.2):=by simp
  have h1':Instr.fill (fun i=>some (i * inf.size,inf.size)) ((Array.range (len * inf.size)).map (zv.cells[· % zv.cells.size]!)) (parts.toList.map fun p=>(p.1,a.eval p.2))=some cs:=by rw [g2];exact h1
  unfold execOp
  by_cases h0:len * inf.size=0
  ·have hr0:Array.range (len * inf.size)=#[]:=by rw [h0];rfl
   rw [hr0] at h1'
   simp only [List.map_toArray,List.map_nil] at h1'
   have hr1:∀f:Nat→Value,(Array.range 0).map f=#[]:=fun f=>by simp
   simp only [ho,Instr.buildSlice,Sem.run_bind,run_underlying hu,Result.andThen_ok,run_sizeOf g1,hmap]
   rw [if_neg (by omega),if_pos h0]
   simp only [Sem.run_pure,Sem.run_bind,Result.andThen_ok,h0,hr1,h1',newRow,newObj]
   rfl
  ·simp only [ho,Instr.buildSlice,Sem.run_bind,run_underlying hu,Result.andThen_ok,run_sizeOf g1,hmap]
   rw [if_neg (by rw [g2];omega),if_neg h0]
   simp only [zeroValue,typeInfo,Sem.run_bind,Sem.run,g1,g4,Result.andThen_ok,Sem.run_pure,h1',newRow,newObj,program]
   rfl
 ·rw [hd]
  refine hC.put (by rw [newRow0_n];exact hn) ?_
  show RefAt (ω'.row d) 0 len _
  rw [hri]
  exact .inr ⟨w.heap.size,⟨w.heap.size,0,none⟩,rfl,by simp,by simp,fun _=>by simp⟩
end
end Go.Bw
namespace Go.Bw
open Go.RowKit
section
variable {P:Program} {w0:World} {m0:Mem} {s s':St} {a:Act} {w w':World} {m m':Mem} {ω ω':Wh} {F0:Home} {T:TypeId→Option TI}
theorem cell_lt {xs:List (List L)} {sz i j:Nat} {u:L} (h:∀x∈xs,x.length=sz) (hu:cellOf xs i j=some u):i<xs.length∧j<sz:=by
 unfold cellOf at hu
 cases hx:xs[i]? with
 | none=>rw [hx] at hu;simp at hu
 | some x =>
  rw [hx] at hu
  simp only [Option.bind_some] at hu
  refine ⟨(List.getElem?_eq_some_iff.1 hx).1,?_⟩
  rw [←h x (List.mem_of_getElem? hx)]
  exact (List.getElem?_eq_some_iff.1 hu).1
theorem CI.rowSet (h:CI P w0 m0 F0 s a w m ω) {id:Nat} {r:RowC} (hb:look s.row id=some r) (hcl:∀i j,i<r.xs.length→ovGet r.ov i j=none) {b:Nat} (hblk:(ω.row id).blk=some b)
  {cur:Array Value} {e:TypeId} (hcur:w.heap[b]?=some (.cells cur e (0,0))) {p:Nat} {ys:List (List L)} {news:List Value} (hfit:p+ys.length≤r.xs.length) (hysz:∀y∈ys,y.length=r.sz)
  (hnl:news.length=ys.length * r.sz) (hn1:∀u∈news,u.oneCell'=true) (hnr:∀i j u,cellOf ys i j=some u→∃v,news[i * r.sz+j]?=some v∧CRep m w (fun _=>False) v u) :
  p * r.sz+news.length≤cur.size∧CI P w0 m0 F0 {s with row:=sput id ⟨r.sz,r.xs.take p++ys++r.xs.drop (p+ys.length),r.ov⟩ s.row} a (w.setRow b (cur.toList.take (p * r.sz)++news++cur.toList.drop (p * r.sz+news.length)).toArray) m ω:=by
 obtain ⟨g1,g2,g3⟩:=h.row id r hb
 rw [hblk] at g3
 obtain ⟨cs,e',k1,k2,k3,k4,k5,G,k6,k7,k8⟩:=g3
 have hlive:s.live true id:=by show (look s.row id).isSome;rw [hb];rfl
 rw [hcur] at k1
 injection (Option.some.inj k1) with q1 q2
 subst q1
 have hfit':p * r.sz+news.length≤cur.size:=by rw [hnl,k2,←Nat.add_mul];exact Nat.mul_le_mul_right _ (by omega)
 refine ⟨hfit',?_⟩
 have hget:=fun k=>store_get hfit' k
 have hsize:=store_size hfit'
 generalize (cur.toList.take (p * r.sz)++news++cur.toList.drop (p * r.sz+news.length)).toArray=cs' at hget hsize ⊢
 have hg:=grownBy_setRow w b cs'
 have hlen:(r.xs.take p++ys++r.xs.drop (p+ys.length)).length=r.xs.length:=by simp;omega
 have hxs:∀x∈r.xs.take p++ys++r.xs.drop (p+ys.length),x.length=r.sz:=by
  intro x hx
  simp only [List.mem_append] at hx
  rcases hx with (hx|hx)|hx
  ·exact g2 x (List.mem_of_mem_take hx)
  ·exact hysz x hx
  ·exact g2 x (List.mem_of_mem_drop hx)
 refine h.rowUpd hb hblk hg (setRow_heap w b cur _ e _ hcur) (by rw [hsize];exact k2) g1 hxs (by simp only [hlen];exact k3) ⟨k4.1,fun l hl=>?_,fun q v hq=>?_⟩ (fun i j k=>(i<p∨p+ys.length≤i)∧G i j k) (fun i j k hk=>k6 i j k hk.2) (fun i j i' j' k hk hk'=>k7 i j i' j' k hk.2 hk'.2) fun i j u hu=>?_
 ·simp only [hlen] at hl ⊢
  exact k4.2.1 l hl
 ·rw [hget] at hq
  split at hq
  ·exact hn1 v (List.mem_of_getElem? hq)
  ·exact k4.2.2 q v hq
 ·simp only at hu ⊢
  obtain ⟨hi,hj⟩:=cell_lt hxs hu
  rw [hlen] at hi
  rw [hget,hcl i j hi]
  have old:(i<p∨p+ys.length≤i)→cellOf r.xs i j=some u→∃v,(if p * r.sz≤i * r.sz+j∧i * r.sz+j<p * r.sz+news.length then news[i * r.sz+j - p * r.sz]? else cur[i * r.sz+j]?)=some v∧RCell m (w.setRow b cs') ω (fun k=>(i<p∨p+ys.length≤i)∧G i j k) v u none:=by
   intro hio hu
   obtain ⟨v,h1,h2⟩:=k8 i j u hu
   rw [hcl i j hi] at h2
   have hne:¬ (p * r.sz≤i * r.sz+j∧i * r.sz+j<p * r.sz+news.length):=by
    rw [hnl,←Nat.add_mul]
    rintro ⟨h3,h4⟩
    rcases hio with hio|hio
    ·have:(i+1) * r.sz≤p * r.sz:=Nat.mul_le_mul_right _ hio
     rw [Nat.add_mul] at this
     omega
    ·have:(p+ys.length) * r.sz≤i * r.sz:=Nat.mul_le_mul_right _ hio
     omega
   rw [if_neg hne]
   refine ⟨v,h1,CRep.keep (Mem.le_refl m) (CRep.sub (F':=fun k=>(i<p∨p+ys.length≤i)∧G i j k) h2 fun k hk=>⟨hio,hk⟩) fun k hk=>?_⟩
   have hk':=k6 i j k hk.2
   exact hg.block k (h.fresh true id hlive k hk'.1).1 fun e=>by injection e with e;exact hk'.2 e
  rcases cellOf_append hu with ⟨h1,h2⟩|⟨h1,h2⟩
  ·rcases cellOf_append h2 with ⟨h3,h4⟩|⟨h3,h4⟩
   ·have h3:i<p:=by simp at h3;omega
    refine old (.inl h3) ?_
    unfold cellOf at h4 ⊢
    rwa [List.getElem?_take,if_pos h3] at h4
   ·have hpl:(r.xs.take p).length=p:=by simp;omega
    rw [hpl] at h3 h4
    obtain ⟨v,h5,h6⟩:=hnr _ j u h4
    have hlt:=(List.getElem?_eq_some_iff.1 h5).1
    have hle:p * r.sz≤i * r.sz:=Nat.mul_le_mul_right _ h3
    rw [Nat.sub_mul] at hlt h5
    rw [if_pos ⟨by omega,by omega⟩]
    refine ⟨v,by rw [←h5];congr 1;omega,?_⟩
    exact CRep.sub (CRep.keep (Mem.le_refl m) h6 fun k hk=>hk.elim) fun k hk=>hk.elim
  ·have hpl:(r.xs.take p++ys).length=p+ys.length:=by simp;omega
   rw [hpl] at h1 h2
   refine old (.inr h1) ?_
   unfold cellOf at h2 ⊢
   rw [List.getElem?_drop,show p+ys.length+(i - (p+ys.length))=i by omega] at h2
   exact h2
theorem CI.rowSame (h:CI P w0 m0 F0 s a w m ω) {id:Nat} {r:RowC} (hb:look s.row id=some r):CI P w0 m0 F0 {s with row:=sput id r s.row} a w m ω :=
 h.weaken rfl (fun _ _ h=>h) (fun _ _ h=>h) fun i r' hi=>by
  simp only [look_sput] at hi
  split at hi
  ·rename_i he
   injection hi with hi
   subst he;subst hi
   exact hb
  ·exact hi
theorem moves_appendIn {o:Oper} {t e:TypeId} {i j:TI} {x y:Operand} {ty:TypeId} {d id n:Nat} {r:RowC} {ys:List (List L)} (ho:o.op=.call {callee:=.builtin .append,args:=#[x,y],argTypes:=#[t,t]})
  (hd:o.dst=some d) (hn:d<s.n) (hT:tiOk P t i=true) (he:i.elem=some e) (hE:tiOk P e j=true) (hsz:j.size=r.sz) (h:CI P w0 m0 F0 s a w m ω)
  (hx:evalO T s ty x=some (.v (.one (.ref id 0 n)))) (hb:look s.row id=some r) (hov:r.ov=[]) (hy:SliceRd m w ω (a.eval y) r.sz ys []) (hfit:n+ys.length≤r.xs.length) :
  Moves P w0 m0 F0 o a w (St.put {s with row:=sput id ⟨r.sz,r.xs.take n++ys++r.xs.drop (n+ys.length),[]⟩ s.row} d (.v (.one (.ref id 0 (n+ys.length))))):=by
 have hu:=(tiFacts hT).elem e he
 obtain ⟨inf,g1,g5,g6⟩:=(tiFacts hE).info
 rw [hsz] at g5
 obtain ⟨q,hq⟩:=run_call_builtin (P:=P) (a:=a) (w:=w) ho
 have hv1:RefAt (ω.row id) 0 n (a.eval x):=evalO_sound h hx
 generalize hax:a.eval x=v1 at *
 generalize hay:a.eval y=v2 at *
 have hrun:(execOp a.eval o).run P w=((Builtin.append_ #[t,t] o.type #[v1,v2]).run P w).andThen fun v w'=>.ok (.value v) w':=by
  rw [hq]
  simp only [List.map_toArray,List.map_cons,List.map_nil,hax,hay,builtin,Sem.run_bind,Sem.run_pure]
 obtain ⟨A2,c2,rfl,hc2,hys,hnone,hnews⟩:=hy
 have same:ys=[]→(⟨r.sz,r.xs.take n++ys++r.xs.drop (n+ys.length),[]⟩:RowC)=r:=by
  intro h0
  subst h0
  cases r
  simp only at hov
  subst hov
  simp
 have quiet:ys=[]→(Builtin.append_ #[t,t] o.type #[v1,.slice A2 ys.length c2]).run P w=.ok v1 w→Moves P w0 m0 F0 o a w (St.put {s with row:=sput id ⟨r.sz,r.xs.take n++ys++r.xs.drop (n+ys.length),[]⟩ s.row} d (.v (.one (.ref id 0 (n+ys.length))))):=by
  intro h0 hr
  refine gives_of_run (v:=v1) (w':=w) (by rw [hrun,hr];rfl) ?_
  rw [hd,same h0]
  subst h0
  exact ⟨m,ω,(h.rowSame hb).put hn hv1⟩
 rcases hv1 with ⟨k0,_,hn0,hvv⟩|⟨b,ad,k1,k2,hvv,k4⟩
 ·obtain ⟨_,_,q3⟩:=h.row id r hb
  rw [k0] at q3
  have hy0:ys=[]:=List.eq_nil_of_length_eq_zero (by rw [q3.1] at hfit;simp only [List.length_nil] at hfit;omega)
  refine quiet hy0 ?_
  rw [hvv]
  subst hy0
  cases A2 with
  | none=>simp [Builtin.append_,run_underlying hu,sizeOf,typeInfo,g1,Builtin.lenOf,Builtin.firstCells]
  | some ad2=>simp [Builtin.append_,run_underlying hu,sizeOf,typeInfo,g1,Builtin.lenOf,Builtin.firstCells,loadCells,loadCellsFrom]
 ·have had:=k4 (.inr rfl)
  simp only [Nat.zero_mul] at had
  subst had
  subst hvv
  obtain ⟨q1,q2,q3⟩:=h.row id r hb
  rw [k1] at q3
  obtain ⟨cur,e',p1,p2,p3,p4,p5,_⟩:=q3
  cases A2 with
  | none =>
   have hy0:=hnone rfl
   refine quiet hy0 ?_
   subst hy0
   have:n≤(ω.row id).cap:=by omega
   simp [Builtin.append_,run_underlying hu,sizeOf,typeInfo,g1,Builtin.lenOf,Builtin.firstCells,this,storeCells]
  | some ad2 =>
   obtain ⟨news,hnl,hnc,hn1,hnr⟩:=hnews ad2 rfl
   obtain ⟨hf,hC⟩:=h.rowSet hb (fun i j _=>by rw [hov];rfl) k1 p1 (p:=n) hfit hys hnl hn1 hnr
   have hr:=run_append_room' (P:=P) (w:=w) t o.type e e' inf hu g1 b n ((ω.row id).cap - 0) cur p1 ad2 ys.length c2 news (by rw [g5];exact hnl) hnc hn1 (by omega) (by rw [g5];exact hf)
   rw [g5] at hr
   refine gives_of_run (w':=_) (by rw [hrun,hr];rfl) ?_
   rw [hd]
   rw [hov] at hC
   exact ⟨m,ω,hC.put hn (.inr ⟨b,_,k1,by omega,rfl,fun _=>by simp⟩)⟩
theorem moves_copy {o:Oper} {t e:TypeId} {t':TypeId} {i j:TI} {x y:Operand} {ty:TypeId} {id lo n:Nat} {r:RowC} {ys:List (List L)} {ov:List (Nat×Nat×L)} (ho:o.op=.call {callee:=.builtin .copy,args:=#[x,y],argTypes:=#[t,t']})
  (hd:s.okD o.dst) (hT:tiOk P t i=true) (he:i.elem=some e) (hE:tiOk P e j=true) (hsz:j.size=r.sz) (h:CI P w0 m0 F0 s a w m ω)
  (hx:evalO T s ty x=some (.v (.one (.ref id lo n)))) (hb:look s.row id=some r) (hcl:∀i j,i<r.xs.length→ovGet r.ov i j=none) (hfit:lo+n≤r.xs.length) (hy:SliceRd m w ω (a.eval y) r.sz ys ov) (hov:ov=[]) :
  Moves P w0 m0 F0 o a w (St.putO {s with row:=sput id ⟨r.sz,r.xs.take lo++ys.take (min ys.length n)++r.xs.drop (lo+min ys.length n),r.ov⟩ s.row} o.dst (.v (.one (.int .i64 ((min ys.length n:Nat):Int))))):=by
 subst hov
 have hu:=(tiFacts hT).elem e he
 obtain ⟨inf,g1,g5,g6⟩:=(tiFacts hE).info
 rw [hsz] at g5
 obtain ⟨q,hq⟩:=run_call_builtin (P:=P) (a:=a) (w:=w) ho
 have hv1:RefAt (ω.row id) lo n (a.eval x):=evalO_sound h hx
 generalize hax:a.eval x=v1 at *
 generalize hay:a.eval y=v2 at *
 have hrun:(execOp a.eval o).run P w=((Builtin.copy_ #[t,t'] o.type #[v1,v2]).run P w).andThen fun v w'=>.ok (.value v) w':=by
  rw [hq]
  simp only [List.map_toArray,List.map_cons,List.map_nil,hax,hay,builtin,Sem.run_bind,Sem.run_pure]
 obtain ⟨A2,c2,rfl,hc2,hys,hnone,hnews⟩:=hy
 have hmin:Nat.min ys.length n=min ys.length n:=rfl
 generalize hc:min ys.length n=c at *
 have hcn:c≤n∧c≤ys.length:=by omega
 have quiet:c=0→(Builtin.copy_ #[t,t'] o.type #[v1,.slice A2 ys.length c2]).run P w=.ok (goInt 0) w→Moves P w0 m0 F0 o a w (St.putO {s with row:=sput id ⟨r.sz,r.xs.take lo++ys.take c++r.xs.drop (lo+c),r.ov⟩ s.row} o.dst (.v (.one (.int .i64 ((c:Nat):Int))))):=by
  intro h0 hr
  subst h0
  refine gives_of_run (v:=goInt 0) (w':=w) (by rw [hrun,hr];rfl) ?_
  have e1:(⟨r.sz,r.xs.take lo++ys.take 0++r.xs.drop (lo+0),r.ov⟩:RowC)=r:=by simp
  rw [e1]
  exact ⟨m,ω,(h.rowSame hb).putO hd (Rep.int .i64 0)⟩
 rcases Nat.eq_zero_or_pos c with h0|h0
 ·refine quiet h0 ?_
  rw [h0] at hmin
  rcases hv1 with ⟨_,_,_,hvv⟩|⟨b,ad,_,_,hvv,_⟩
  ·subst hvv
   have hmin':Nat.min ys.length 0=0:=Nat.min_zero _
   cases A2<;>simp [Builtin.copy_,run_underlying hu,Builtin.lenOf,Builtin.firstCells,sizeOf,typeInfo,g1,hmin',loadCells,loadCellsFrom]
  ·subst hvv
   cases A2<;>simp [Builtin.copy_,run_underlying hu,Builtin.lenOf,Builtin.firstCells,sizeOf,typeInfo,g1,hmin,loadCells,loadCellsFrom,storeCells]
 ·rcases hv1 with ⟨_,_,hn0,_⟩|⟨b,ad,k1,k2,hvv,k4⟩
  ·omega
  ·obtain ⟨q1,q2,q3⟩:=h.row id r hb
   rw [k1] at q3
   obtain ⟨cur,e',p1,p2,p3,p4,p5,_⟩:=q3
   have had:=k4 (.inl (by omega))
   rw [q1] at had
   subst had
   subst hvv
   cases A2 with
   | none =>
    have hy0:=hnone rfl
    rw [hy0] at hcn
    simp at hcn
    omega
   | some ad2 =>
    obtain ⟨news,hnl,hnc,hn1,hnr⟩:=hnews ad2 rfl
    have hle:c * r.sz≤news.length:=by rw [hnl];exact Nat.mul_le_mul_right _ hcn.2
    have hyl:(ys.take c).length=c:=by simp;omega
    obtain ⟨hf,hC⟩:=h.rowSet hb hcl k1 p1 (p:=lo) (ys:=ys.take c) (news:=news.take (c * r.sz)) (by rw [hyl];omega) (fun y hy=>hys y (List.mem_of_mem_take hy)) (by rw [hyl,List.length_take];omega) (fun u hu=>hn1 u (List.mem_of_mem_take hu)) (fun p q u hu=>by
     have hpc:p<c:=by
      unfold cellOf at hu
      rw [List.getElem?_take] at hu
      split at hu
      ·assumption
      ·simp at hu
     have hu':cellOf ys p q=some u:=by
      unfold cellOf at hu ⊢
      rwa [List.getElem?_take,if_pos hpc] at hu
     obtain ⟨v,h1,h2⟩:=hnr p q u hu'
     refine ⟨v,?_,h2⟩
     have hq:=(cell_lt hys hu').2
     have:(p+1) * r.sz≤c * r.sz:=Nat.mul_le_mul_right _ hpc
     rw [Nat.add_mul] at this
     rw [List.getElem?_take,if_pos (by omega)]
     exact h1)
    rw [hyl] at hC
    have hfc:=run_firstCells_some (P:=P) w inf.size c ad2 ys.length c2 (news.take (c * r.sz)) (by rw [g5,List.length_take];omega) (fun q u hq=>by
     rw [List.getElem?_take] at hq
     split at hq
     ·exact hnc q u hq
     ·cases hq)
    have hst:=run_storeCells_at P b (lo * r.sz) e' (news.take (c * r.sz)) 0 cur w p1 (by simpa using hf) (fun u hu=>hn1 u (List.mem_of_mem_take hu))
    simp only [Nat.add_zero] at hst
    have hr:(Builtin.copy_ #[t,t'] o.type #[.slice (some ⟨b,lo * r.sz,none⟩) n ((ω.row id).cap - lo),.slice (some ad2) ys.length c2]).run P w=.ok (goInt c) (w.setRow b (cur.toList.take (lo * r.sz)++news.take (c * r.sz)++cur.toList.drop (lo * r.sz+(news.take (c * r.sz)).length)).toArray):=by
     simp [Builtin.copy_,run_underlying hu,Builtin.lenOf,sizeOf,typeInfo,g1,hmin,hfc,hst]
    refine gives_of_run (w':=_) (by rw [hrun,hr];rfl) ?_
    exact ⟨m,ω,hC.putO hd (Rep.int .i64 _)⟩
theorem zeroCells_get {zc:Array Value} {n q:Nat} (hq:q<n * zc.size):∃h:q % zc.size<zc.size,(Builtin.zeroCells zc n)[q]?=some zc[q % zc.size]:=by
 have hpos:0<zc.size:=by
  rcases Nat.eq_zero_or_pos zc.size with h0|h0
  ·rw [h0] at hq;simp at hq
  ·exact h0
 refine ⟨Nat.mod_lt _ hpos,?_⟩
 unfold Builtin.zeroCells
 rw [Array.getElem?_map,Array.getElem?_range,if_pos hq]
 simp only [Option.map_some]
 rw [getElem!_pos zc (q % zc.size) (Nat.mod_lt _ hpos)]
theorem clos_plain {v:Value} {l:L} (h:Rep m v l):Rep m v l.clos:=by
 refine h.clos ?_
 cases h<;>first
  | rfl
  | skip
 rename_i f caps vs vals hl hm hr
 simp only [L.isFz,List.all_eq_true]
 intro u hu
 obtain ⟨q,hq,rfl⟩:=List.mem_iff_getElem.1 hu
 have:=hr q _ (List.getElem?_eq_getElem hq)
 generalize vals q=vq at this
 cases hc:caps[q]<;>rw [hc] at this<;>first
  | rfl
  | cases this
theorem zeroRd {zc:Array Value} {z:List L} (hm:matchAll zc.toList z=true) (n:Nat):(Builtin.zeroCells zc n).toList.length=n * z.length∧(∀v∈(Builtin.zeroCells zc n).toList,v.oneCell'=true) ∧
  ∀i j u,cellOf (List.replicate n (z.map L.clos)) i j=some u→∃v,(Builtin.zeroCells zc n).toList[i * z.length+j]?=some v∧Rep m v u:=by
 obtain ⟨k1,k2⟩:=matchAll_rep (m:=m) zc.toList z hm
 have hzs:zc.size=z.length:=by simpa using k1
 refine ⟨by rw [Array.length_toList,size_zeroCells,hzs],fun v hv=>?_,fun i j u hu=>?_⟩
 ·obtain ⟨q,hq⟩:=List.mem_iff_getElem?.1 hv
  have hlt:q<n * zc.size:=by
   have:=(List.getElem?_eq_some_iff.1 hq).1
   rwa [Array.length_toList,size_zeroCells] at this
  obtain ⟨h1,h2⟩:=zeroCells_get hlt
  have hq:(Builtin.zeroCells zc n)[q]?=some v:=by simpa using hq
  rw [h2] at hq
  injection hq with hq
  subst hq
  obtain ⟨v',h3,h4⟩:=k2 (q % zc.size) z[q % zc.size] (List.getElem?_eq_getElem (by omega))
  have:v'=zc[q % zc.size]:=by
   rw [List.getElem?_eq_getElem (by simpa using h1)] at h3
   injection h3 with h3
   rw [←h3];simp
  rw [←this]
  exact h4.oneCell
 ·unfold cellOf at hu
  rw [List.getElem?_replicate] at hu
  split at hu
  ·rename_i hi
   simp only [Option.bind_some,List.getElem?_map,Option.map_eq_some_iff] at hu
   obtain ⟨l,hl,rfl⟩:=hu
   have hj:=(List.getElem?_eq_some_iff.1 hl).1
   have hlt:i * z.length+j<n * zc.size:=by
    rw [hzs]
    have:(i+1) * z.length≤n * z.length:=Nat.mul_le_mul_right _ hi
    rw [Nat.add_mul] at this
    omega
   obtain ⟨h1,h2⟩:=zeroCells_get hlt
   have e:(i * z.length+j) % zc.size=j:=by rw [hzs,Nat.mul_comm,Nat.mul_add_mod,Nat.mod_eq_of_lt hj]
   obtain ⟨v',h3,h4⟩:=k2 j l hl
   have hv:v'=zc[j]'(by omega):=by
    rw [List.getElem?_eq_getElem (by simp;omega)] at h3
    injection h3 with h3
    rw [←h3];simp
   refine ⟨v',?_,clos_plain h4⟩
   rw [Array.getElem?_toList,h2,hv]
   simp only [e]
  ·simp at hu
theorem moves_clear {o:Oper} {t e:TypeId} {i j:TI} {x:Operand} {ty:TypeId} {z:List L} {id lo n:Nat} {r:RowC} (ho:o.op=.call {callee:=.builtin .clear,args:=#[x],argTypes:=#[t]})
  (hd:s.okD o.dst) (hT:tiOk P t i=true) (he:i.elem=some e) (hE:tiOk P e j=true) (hz:j.zero=some z) (hsz:j.size=r.sz) (hzl:z.length=r.sz) (h:CI P w0 m0 F0 s a w m ω)
  (hx:evalO T s ty x=some (.v (.one (.ref id lo n)))) (hb:look s.row id=some r) (hcl:∀i j,i<r.xs.length→ovGet r.ov i j=none) (hfit:lo+n≤r.xs.length) :
  Moves P w0 m0 F0 o a w (St.putO {s with row:=sput id ⟨r.sz,r.xs.take lo++List.replicate n (z.map L.clos)++r.xs.drop (lo+n),r.ov⟩ s.row} o.dst (.tup [])):=by
 have hu:=(tiFacts hT).elem e he
 obtain ⟨inf,zv,g1,g2,g3,_⟩:=(tiFacts hE).zero z hz
 obtain ⟨q,hq⟩:=run_call_builtin (P:=P) (a:=a) (w:=w) ho
 have hv1:RefAt (ω.row id) lo n (a.eval x):=evalO_sound h hx
 generalize hax:a.eval x=v1 at *
 have hrun:(execOp a.eval o).run P w=((Builtin.clear_ #[t] o.type #[v1]).run P w).andThen fun v w'=>.ok (.value v) w':=by
  rw [hq]
  simp only [List.map_toArray,List.map_cons,List.map_nil,hax,builtin,Sem.run_bind,Sem.run_pure]
 have quiet:n=0→(Builtin.clear_ #[t] o.type #[v1]).run P w=.ok (.tuple #[]) w→Moves P w0 m0 F0 o a w (St.putO {s with row:=sput id ⟨r.sz,r.xs.take lo++List.replicate n (z.map L.clos)++r.xs.drop (lo+n),r.ov⟩ s.row} o.dst (.tup [])):=by
  intro h0 hr
  subst h0
  refine gives_of_run (v:=.tuple #[]) (w':=w) (by rw [hrun,hr];rfl) ?_
  have e1:(⟨r.sz,r.xs.take lo++List.replicate 0 (z.map L.clos)++r.xs.drop (lo+0),r.ov⟩:RowC)=r:=by simp
  rw [e1]
  exact ⟨m,ω,(h.rowSame hb).putO hd arep_undef⟩
 rcases hv1 with ⟨_,_,h0,hvv⟩|⟨b,ad,k1,k2,hvv,k4⟩
 ·refine quiet h0 ?_
  subst hvv
  simp [Builtin.clear_,run_underlying hu]
 ·rcases Nat.eq_zero_or_pos n with h0|h0
  ·refine quiet h0 ?_
   subst hvv
   subst h0
   simp [Builtin.clear_,run_underlying hu]
  ·obtain ⟨q1,q2,q3⟩:=h.row id r hb
   rw [k1] at q3
   obtain ⟨cur,e',p1,p2,p3,p4,p5,_⟩:=q3
   have had:=k4 (.inl (by omega))
   rw [q1] at had
   subst had
   subst hvv
   obtain ⟨z1,z2,z3⟩:=zeroRd (m:=m) g3 n
   rw [hzl] at z1 z3
   obtain ⟨hf,hC⟩:=h.rowSet hb hcl k1 p1 (p:=lo) (ys:=List.replicate n (z.map L.clos)) (news:=(Builtin.zeroCells zv.cells n).toList) (by simpa using hfit) (fun y hy=>by
    rw [List.eq_of_mem_replicate hy];simpa using hzl) (by simpa using z1) z2 (fun p q u hu=>by
    obtain ⟨v,h1,h2⟩:=z3 p q u hu
    exact ⟨v,h1,.fr h2⟩)
   rw [List.length_replicate] at hC
   have hst:=run_storeCells_at P b (lo * r.sz) e' (Builtin.zeroCells zv.cells n).toList 0 cur w p1 (by simpa using hf) z2
   simp only [Nat.add_zero] at hst
   have hr:(Builtin.clear_ #[t] o.type #[.slice (some ⟨b,lo * r.sz,none⟩) n ((ω.row id).cap - lo)]).run P w=.ok (.tuple #[]) (w.setRow b (cur.toList.take (lo * r.sz)++(Builtin.zeroCells zv.cells n).toList++cur.toList.drop (lo * r.sz+(Builtin.zeroCells zv.cells n).toList.length)).toArray):=by
    cases n with
    | zero=>omega
    | succ n=>simp [Builtin.clear_,run_underlying hu,zeroValue,typeInfo,g1,g2,hst]
   refine gives_of_run (w':=_) (by rw [hrun,hr];rfl) ?_
   exact ⟨m,ω,hC.putO hd arep_undef⟩
theorem CI.rowRe (h : CI P w0 m0 F0 s a w m ω) {id : Nat} {r r' : RowC} (hb : look s.row id = some r) (hR : RowRep m w ω id r') : CI P w0 m0 F0 { s with row := sput id r' s.row } a w m ω := by
  have hl : ∀ κ i, ({ s with row := sput id r' s.row } : St).live κ i → s.live κ i := by
    intro κ i hl
    cases κ with
    | false => exact hl
    | true =>
      simp only [St.live, look_sput] at hl ⊢
      split at hl
      · rename_i he; rw [he, hb]; rfl
      · exact hl
  refine { size := h.size, defers := h.defers, keeps := h.keeps, mle := h.mle, mold := h.mold, ok := h.ok, env := h.env, box := h.box, row := fun i q hi => ?_, fresh := fun κ i hi => h.fresh κ i (hl κ i hi), apart := fun κ i κ' i' hi hi' => h.apart κ i κ' i' (hl κ i hi) (hl κ' i' hi'),
           home := ⟨h.home.big, h.home.box, fun i b hb' hi => h.home.row i b hb' (hl true i hi)⟩, good := h.good }
  simp only [look_sput] at hi
  split at hi
  · rename_i he
    injection hi with hi
    subst hi
    rw [he]
    exact hR
  · exact h.row i q hi
def padRow (r:RowC) (p:Nat):RowC:=⟨r.sz,r.xs++List.replicate p (List.replicate r.sz .any),[(r.xs.length+p,0,.any)]⟩
theorem CI.rowPad (h:CI P w0 m0 F0 s a w m ω) {id:Nat} {r:RowC} (hb:look s.row id=some r) (hov:r.ov=[]):∃p,(ω.row id).cap=r.xs.length+p∧r.xs.length+p≤maxLen∧CI P w0 m0 F0 {s with row:=sput id (padRow r p) s.row} a w m ω:=by
 have hR:RowRepG m w ω (ω.row id) (ω.f true id) r:=h.row id r hb
 obtain ⟨g1,g2,g3⟩:=hR
 have hpl:∀(p:Nat) (x:List L),x∈(padRow r p).xs→x.length=r.sz:=by
  intro p x hx
  rcases List.mem_append.1 hx with hx|hx
  ·exact g2 x hx
  ·rw [List.eq_of_mem_replicate hx];simp
 cases hblk:(ω.row id).blk with
 | none =>
  rw [hblk] at g3
  refine ⟨0,by rw [g3.1,g3.2];rfl,by rw [g3.1];simp,h.rowRe hb ⟨g1,hpl 0,?_⟩⟩
  rw [hblk]
  exact ⟨by simp [padRow,g3.1],g3.2⟩
 | some b =>
  rw [hblk] at g3
  obtain ⟨cs,e,k1,k2,k3,k4,k5,G,k6,k7,k8⟩:=g3
  have hc:r.xs.length+((ω.row id).cap - r.xs.length)=(ω.row id).cap:=by omega
  refine ⟨(ω.row id).cap - r.xs.length,hc.symm,by rw [hc];exact k4.1,h.rowRe hb ⟨g1,hpl _,?_⟩⟩
  rw [hblk]
  have hl:(padRow r ((ω.row id).cap - r.xs.length)).xs.length=(ω.row id).cap:=by simp [padRow];omega
  refine ⟨cs,e,k1,k2,by rw [hl];exact Nat.le_refl _,⟨k4.1,fun l _=>hl.symm,k4.2.2⟩,k5,(fun i j k=>i<r.xs.length∧G i j k),(fun i j k hk=>k6 i j k hk.2),(fun i j i' j' k hk hk'=>k7 i j i' j' k hk.2 hk'.2),fun i j u hu=>?_⟩
  obtain ⟨hi,hj⟩:=cell_lt (hpl _) hu
  rw [hl] at hi
  have hno:ovGet (padRow r ((ω.row id).cap - r.xs.length)).ov i j=none:=by
   simp only [padRow,ovGet,hc]
   rw [if_neg (fun e=>by omega)]
  rw [hno]
  show ∃v,cs[i * r.sz+j]?=some v∧CRep m w _ v u
  rcases cellOf_append hu with ⟨h1,h2⟩|⟨h1,h2⟩
  ·obtain ⟨v,h3,h4⟩:=k8 i j u h2
   rw [hov] at h4
   exact ⟨v,h3,CRep.sub (F:=G i j) h4 fun k hk=>⟨h1,hk⟩⟩
  ·have hu':u=.any:=by
    unfold cellOf at h2
    rw [List.getElem?_replicate] at h2
    split at h2
    ·simp only [Option.bind_some,List.getElem?_replicate] at h2
     rw [if_pos hj] at h2
     injection h2 with h2
     exact h2.symm
    ·simp at h2
   subst hu'
   have hq:i * r.sz+j<cs.size:=by
    rw [k2]
    have:(i+1) * r.sz≤(ω.row id).cap * r.sz:=Nat.mul_le_mul_right _ hi
    rw [Nat.add_mul] at this
    omega
   exact ⟨cs[i * r.sz+j],Array.getElem?_eq_getElem hq,.fr (.any _ (k4.2.2 _ _ (Array.getElem?_eq_getElem hq)))⟩
theorem CI.rowCut (h:CI P w0 m0 F0 s a w m ω) {id k:Nat} {r:RowC} (hb:look s.row id=some r) (hcl:∀i j,i<r.xs.length→ovGet r.ov i j=none) (hk:k≤r.xs.length):CI P w0 m0 F0 {s with row:=sput id ⟨r.sz,r.xs.take k,[]⟩ s.row} a w m ω:=by
 have hR:RowRepG m w ω (ω.row id) (ω.f true id) r:=h.row id r hb
 obtain ⟨g1,g2,g3⟩:=hR
 refine h.rowRe hb ⟨g1,fun x hx=>g2 x (List.mem_of_mem_take hx),?_⟩
 cases hblk:(ω.row id).blk with
 | none =>
  rw [hblk] at g3
  exact ⟨by rw [g3.1];simp,g3.2⟩
 | some b =>
  rw [hblk] at g3
  obtain ⟨cs,e,k1,k2,k3,k4,k5,G,k6,k7,k8⟩:=g3
  refine ⟨cs,e,k1,k2,by simp;omega,⟨k4.1,fun l hl=>(by cases hl),k4.2.2⟩,k5,G,k6,k7,fun i j u hu=>?_⟩
  have hu':i<k∧cellOf r.xs i j=some u:=by
   unfold cellOf at hu ⊢
   rw [List.getElem?_take] at hu
   split at hu
   ·exact ⟨by assumption,hu⟩
   ·simp at hu
  obtain ⟨v,h3,h4⟩:=k8 i j u hu'.2
  rw [hcl i j (by omega)] at h4
  exact ⟨v,h3,h4⟩
theorem follows_cap {o:Oper} {t e:TypeId} {i:TI} {x:Operand} {ty:TypeId} {id n d:Nat} {r:RowC} (ho:o.op=.call {callee:=.builtin .cap,args:=#[x],argTypes:=#[t]})
  (hd:o.dst=some d) (hn:d<s.n) (hT:tiOk P t i=true) (he:i.elem=some e) (h:CI P w0 m0 F0 s a w m ω)
  (hx:evalO T s ty x=some (.v (.one (.ref id 0 n)))) (hb:look s.row id=some r) (hov:r.ov=[]) :
  ∃p,r.xs.length+p≤maxLen∧Moves P w0 m0 F0 o a w (St.put {s with row:=sput id (padRow r p) s.row} d (.v (.one (.int .i64 ((r.xs.length+p:Nat):Int))))):=by
 obtain ⟨p,hp,hm,hC⟩:=h.rowPad hb hov
 refine ⟨p,hm,?_⟩
 have hu:=(tiFacts hT).elem e he
 obtain ⟨q,hq⟩:=run_call_builtin (P:=P) (a:=a) (w:=w) ho
 have hv1:RefAt (ω.row id) 0 n (a.eval x):=evalO_sound h hx
 have hc:(Builtin.cap_ #[t] o.type #[a.eval x]).run P w=.ok (goInt (r.xs.length+p:Nat)) w:=by
  rw [←hp]
  rcases hv1 with ⟨k0,_,_,hvv⟩|⟨b,ad,k1,k2,hvv,k4⟩
  ·have hR:RowRepG m w ω (ω.row id) (ω.f true id) r:=h.row id r hb
   obtain ⟨_,_,g3⟩:=hR
   rw [k0] at g3
   rw [hvv,g3.2]
   simp [Builtin.cap_,run_underlying hu]
  ·rw [hvv]
   simp [Builtin.cap_,run_underlying hu]
 refine gives_of_run (v:=goInt (r.xs.length+p:Nat)) (w':=w) ?_ ?_
 ·rw [hq]
  simp only [List.map_toArray,List.map_cons,List.map_nil,builtin,Sem.run_bind,Sem.run_pure,hc]
  rfl
 ·rw [hd]
  exact ⟨m,ω,hC.put hn (Rep.int .i64 _)⟩
theorem moves_appendMk {o:Oper} {t t' e:TypeId} {i j:TI} {x y:Operand} {ty ty':TypeId} {d id n k:Nat} {kn kq:IntKind} {r:RowC} {z:List L} (ho:o.op=.call {callee:=.builtin .append,args:=#[x,y],argTypes:=#[t,t']})
  (hd:o.dst=some d) (hn:d<s.n) (hT:tiOk P t i=true) (he:i.elem=some e) (hE:tiOk P e j=true) (hz:j.zero=some z) (hsz:j.size=r.sz) (hzl:z.length=r.sz) (hs0:0<r.sz) (ht':P.underlying t'=some (.int kn)) (h:CI P w0 m0 F0 s a w m ω)
  (hx:evalO T s ty x=some (.v (.one (.ref id 0 n)))) (hy:evalO T s ty' y=some (.v (.one (.int kq (k:Int))))) (hb:look s.row id=some r) (hcl:∀i j,i<r.xs.length→ovGet r.ov i j=none)
  (hmk:ovGet r.ov r.xs.length 0≠none) (hnx:n≤r.xs.length) (hno:noOwn (r.xs.take n)) (h0:0<k) (hgr:r.xs.length<n+k) (hbs:(n+k) * j.bytes≤140737488355328) (hm:n+k≤9223372036854775807) :
  Moves P w0 m0 F0 o a w (s.appended none d r.sz (r.xs.take n++List.replicate k (z.map L.clos)) []):=by
 have hu:=(tiFacts hT).elem e he
 obtain ⟨inf,zv,g1,g2,g3,_⟩:=(tiFacts hE).zero z hz
 obtain ⟨inf',g4,g5,g6⟩:=(tiFacts hE).info
 rw [g1] at g4
 injection g4 with g4
 subst g4
 rw [hsz] at g5
 have hzs:zv.cells.size=r.sz:=by
  have:=(matchAll_rep (m:=m) zv.cells.toList z g3).1
  simpa [hzl] using this
 obtain ⟨q,hq⟩:=run_call_builtin (P:=P) (a:=a) (w:=w) ho
 have hv1:RefAt (ω.row id) 0 n (a.eval x):=evalO_sound h hx
 have hv2:a.eval y=.int kq k:=by
  have hv2:Rep m (a.eval y) (.int kq k):=evalO_sound h hy
  generalize a.eval y=u at hv2 ⊢
  cases hv2
  rfl
 generalize hax:a.eval x=v1 at *
 have hrun:(execOp a.eval o).run P w=((Builtin.append_ #[t,t'] o.type #[v1,.int kq k]).run P w).andThen fun v w'=>.ok (.value v) w':=by
  rw [hq]
  simp only [List.map_toArray,List.map_cons,List.map_nil,hax,hv2,builtin,Sem.run_bind,Sem.run_pure]
 have hmaxw:maxLen=9223372036854775807:=rfl
 obtain ⟨q1,q2,q3⟩:=h.row id r hb
 have hlx:(r.xs.take n).length=n:=by simp;omega
 -- the capacity, the elements
 have key:∃(base:Option Addr) (sCap:Nat) (olds:List Value),v1=.slice base n sCap∧sCap<n+k∧olds.length=n * r.sz∧(Builtin.firstCells inf.size n (.slice base n sCap)).run P w.drew=.ok olds.toArray w.drew∧(∀v∈olds,v.oneCell'=true) ∧
   ∀i j u,cellOf (r.xs.take n) i j=some u→∃v,olds[i * r.sz+j]?=some v∧CRep m w (fun _=>False) v u:=by
  rcases hv1 with ⟨k0,_,hn0,hvv⟩|⟨b,ad,k1,k2,hvv,k4⟩
  ·subst hn0
   refine ⟨none,0,[],hvv,by omega,by simp,by simp [Builtin.firstCells],by simp,fun i j u hu=>by simp [cellOf] at hu⟩
  ·obtain ⟨cs,e',G,p1,p2,p3,p4,p5,olds,p6,p7,p8,p9⟩:=row_flat h hb k1 (lo:=0) (n:=n) (by omega)
   simp only [List.drop_zero,Nat.zero_mul,Nat.zero_add] at p7 p9
   have had:=k4 (.inr rfl)
   simp only [Nat.zero_mul] at had
   subst had
   rw [k1] at q3
   obtain ⟨_,_,_,_,_,q4,_⟩:=q3
   have hcap:(ω.row id).cap=r.xs.length:=by
    cases hov:ovGet r.ov r.xs.length 0 with
    | none=>exact absurd hov hmk
    | some l=>exact q4.2.1 l hov
   refine ⟨some ⟨b,0,none⟩,(ω.row id).cap - 0,olds,hvv,by omega,p6,?_,p8,fun i j u hu=>?_⟩
   ·refine run_firstCells_some (P:=P) w.drew inf.size n ⟨b,0,none⟩ n _ olds (by rw [g5];exact p6) fun q u hq=>?_
    have hlt:q<n * r.sz:=by rw [←p6];exact (List.getElem?_eq_some_iff.1 hq).1
    show w.cell? _=some u
    rw [cell_row p1]
    rw [p7,List.getElem?_take,if_pos hlt] at hq
    simpa using hq
   ·obtain ⟨v,h1,h2⟩:=p9 i j u hu
    obtain ⟨x,hx',hux⟩:=cellOf_mem hu
    have hi:=(cell_lt (fun x hx=>q2 x (List.mem_of_mem_take hx)) hu).1
    rw [hcl i j (by simp at hi;omega)] at h2
    exact ⟨v,h1,RCell.noOwn (o:=none) h2 (hno x hx' u hux) _⟩
 obtain ⟨base,sCap,olds,hvv,hgc,hol,hfc,hon,hor⟩:=key
 have hr:=Lib.run_append_grow_zeros (P:=P) w t t' o.type e inf zv kq kn hu ht' g1 g2 base n sCap olds hfc k h0 (by rw [g5];exact hs0) hgc (by omega) (by rw [g6];have:k * j.bytes≤(n+k) * j.bytes:=Nat.mul_le_mul_right _ (by omega);omega) (growslice_fits (by omega) (by rw [g6];exact hbs))
 rw [←hvv] at hr
 have hge:=grownCap_ge w (n+k) sCap e
 have hcm:grownCap w (n+k) sCap e≤maxLen:=grownCap_le_maxLen w _ sCap e (by rw [hmaxw];exact hm)
 generalize grownCap w (n+k) sCap e=C at hr hge hcm
 obtain ⟨z1,z2,z3⟩:=zeroRd (m:=m) g3 k
 obtain ⟨y1,y2,_⟩:=zeroRd (m:=m) g3 (C - (n+k))
 rw [hzl] at z1 z3 y1
 have hbl:Below w.heap.size w (w.drew.alloc (.cells (olds.toArray++Builtin.zeroCells zv.cells k++Builtin.zeroCells zv.cells (C - (n+k))) e)):=((Below.refl _ w).drew).alloc (Nat.le_refl _) _
 have hh:(w.drew.alloc (.cells (olds.toArray++Builtin.zeroCells zv.cells k++Builtin.zeroCells zv.cells (C - (n+k))) e)).heap[w.heap.size]?=_:=heap_alloc_new w.drew _
 have hsize:=(Array.getElem?_eq_some_iff.1 hh).1
 have hzsz:(Builtin.zeroCells zv.cells k).size=k * r.sz:=by rw [←Array.length_toList];exact z1
 have hysz:(Builtin.zeroCells zv.cells (C - (n+k))).size=(C - (n+k)) * r.sz:=by rw [←Array.length_toList];exact y1
 obtain ⟨ω',hC,hri,_⟩:=h.rowNew (r:=⟨r.sz,r.xs.take n++List.replicate k (z.map L.clos),[]⟩) none d hn ⟨some w.heap.size,C,r.sz⟩ (fun q=>q=w.heap.size) (.inl hbl) (fun q hq=>.inr ⟨by omega,by rw [hq];exact hsize⟩) (by
  refine ⟨rfl,fun x hx=>?_,?_⟩
  ·rcases List.mem_append.1 hx with hx|hx
   ·exact q2 x (List.mem_of_mem_take hx)
   ·rw [List.eq_of_mem_replicate hx];simpa using hzl
  ·refine ⟨_,e,hh,?_,by simp;omega,⟨hcm,fun l hl=>(by cases hl),fun q v hq=>?_⟩,rfl,fun _ _ _=>False,(fun i j k hk=>hk.elim),(fun i j i' j' k hk=>hk.elim),fun i j u hu=>?_⟩
   ·simp only [Array.size_append,List.size_toArray,hzsz,hysz,hol,←Nat.add_mul]
    congr 1
    omega
   ·have hm':=Array.mem_of_getElem? hq
    simp only [Array.mem_append,List.mem_toArray] at hm'
    rcases hm' with (hm'|hm')|hm'
    ·exact hon v hm'
    ·exact z2 v (by simpa using hm')
    ·exact y2 v (by simpa using hm')
   ·show ∃v,_∧CRep m _ _ v u
    rcases cellOf_append hu with ⟨hi,hu⟩|⟨hi,hu⟩
    ·obtain ⟨v,h1,h2⟩:=hor i j u hu
     have hlt:=(List.getElem?_eq_some_iff.1 h1).1
     refine ⟨v,?_,CRep.keep (Mem.le_refl m) h2 fun k hk=>hk.elim⟩
     rw [Array.getElem?_append_left (by simp;omega),Array.getElem?_append_left (by simpa using hlt)]
     simpa using h1
    ·rw [hlx] at hi hu
     obtain ⟨v,h1,h2⟩:=z3 _ j u hu
     have hlt:=(List.getElem?_eq_some_iff.1 h1).1
     have hle:n * r.sz≤i * r.sz:=Nat.mul_le_mul_right _ hi
     rw [Nat.sub_mul] at hlt h1
     simp only [Array.length_toList] at hlt
     refine ⟨v,?_,.fr h2⟩
     rw [Array.getElem?_append_left (by simp;omega),Array.getElem?_append_right (by simp;omega)]
     rw [←h1,Array.getElem?_toList]
     congr 1
     simp
     omega)
 refine gives_of_run (w':=_) (by rw [hrun,hr];rfl) ?_
 rw [hd]
 refine ⟨m,ω',hC.put (by rw [newRow0_n];exact hn) ?_⟩
 show RefAt (ω'.row d) 0 _ _
 rw [hri]
 have hl2:(r.xs.take n++List.replicate k (z.map L.clos)).length=n+k:=by simp;omega
 rw [hl2]
 exact .inr ⟨w.heap.size,⟨w.heap.size,0,none⟩,rfl,by simp;omega,by simp,fun _=>by simp⟩
theorem nil_eval {x:Operand} {ty:TypeId} {sz:Nat} (h:CI P w0 m0 F0 s a w m ω) (hx:evalO T s ty x=some (.v (.one (.nil sz)))):a.eval x=.slice none 0 0:=by
 have hv:Rep m (a.eval x) (.nil sz):=evalO_sound h hx
 generalize a.eval x=u at hv ⊢
 cases hv
 rfl
theorem moves_capNil {o:Oper} {t e:TypeId} {i:TI} {x:Operand} {ty:TypeId} {n sz:Nat} (ho:o.op=.call {callee:=.builtin .cap,args:=#[x],argTypes:=#[t]}) (hd:o.dst=some n) (hn:n<s.n) (hT:tiOk P t i=true) (he:i.elem=some e) (h:CI P w0 m0 F0 s a w m ω)
  (hx:evalO T s ty x=some (.v (.one (.nil sz)))):Moves P w0 m0 F0 o a w (s.put n (.v (.one (.int .i64 0)))):=by
 have hu:=(tiFacts hT).elem e he
 obtain ⟨q,hq⟩:=run_call_builtin (P:=P) (a:=a) (w:=w) ho
 have hc:(Builtin.cap_ #[t] o.type #[a.eval x]).run P w=.ok (goInt (0:Nat)) w:=by
  rw [nil_eval h hx]
  simp [Builtin.cap_,run_underlying hu]
 refine gives_of_run (v:=goInt (0:Nat)) (w':=w) ?_ ?_
 ·rw [hq]
  simp only [List.map_toArray,List.map_cons,List.map_nil,builtin,Sem.run_bind,Sem.run_pure,hc]
  rfl
 ·rw [hd]
  exact ⟨m,ω,h.put hn (Rep.int .i64 _)⟩
theorem moves_appendNil {o:Oper} {t t' e:TypeId} {i j:TI} {x y:Operand} {ty ty':TypeId} {n k sz:Nat} {kn kq:IntKind} {z:List L} (ho:o.op=.call {callee:=.builtin .append,args:=#[x,y],argTypes:=#[t,t']})
  (hd:o.dst=some n) (hn:n<s.n) (hT:tiOk P t i=true) (he:i.elem=some e) (hE:tiOk P e j=true) (hz:j.zero=some z) (hzl:z.length=j.size) (hs0:0<j.size) (ht':P.underlying t'=some (.int kn)) (h:CI P w0 m0 F0 s a w m ω)
  (hx:evalO T s ty x=some (.v (.one (.nil sz)))) (hy:evalO T s ty' y=some (.v (.one (.int kq (k:Int))))) (h0:0<k) (hbs:k * j.bytes≤140737488355328) (hm:k≤9223372036854775807) :
  Moves P w0 m0 F0 o a w (s.appended Option.none n j.size (List.replicate k (z.map L.clos)) []):=by
 have hu:=(tiFacts hT).elem e he
 obtain ⟨inf,zv,g1,g2,g3,_⟩:=(tiFacts hE).zero z hz
 obtain ⟨inf',g4,g5,g6⟩:=(tiFacts hE).info
 rw [g1] at g4
 injection g4 with g4
 subst g4
 obtain ⟨q,hq⟩:=run_call_builtin (P:=P) (a:=a) (w:=w) ho
 have hv2:a.eval y=.int kq k:=by
  have hv2:Rep m (a.eval y) (.int kq k):=evalO_sound h hy
  generalize a.eval y=u at hv2 ⊢
  cases hv2
  rfl
 have hrun:(execOp a.eval o).run P w=((Builtin.append_ #[t,t'] o.type #[.slice none 0 0,.int kq k]).run P w).andThen fun v w'=>.ok (.value v) w':=by
  rw [hq]
  simp only [List.map_toArray,List.map_cons,List.map_nil,nil_eval h hx,hv2,builtin,Sem.run_bind,Sem.run_pure]
 have hmaxw:maxLen=9223372036854775807:=rfl
 have hr:=Lib.run_append_grow_zeros (P:=P) w t t' o.type e inf zv kq kn hu ht' g1 g2 none 0 0 [] (by simp [Builtin.firstCells]) k h0 (by rw [g5];exact hs0) (by omega) (by omega) (by rw [g6];omega) (growslice_fits (by omega) (by rw [g6,Nat.zero_add];exact hbs))
 simp only [Nat.zero_add] at hr
 have hge:=grownCap_ge w k 0 e
 have hcm:grownCap w k 0 e≤maxLen:=grownCap_le_maxLen w _ 0 e (by rw [hmaxw];exact hm)
 generalize grownCap w k 0 e=C at hr hge hcm
 obtain ⟨z1,z2,z3⟩:=zeroRd (m:=m) g3 k
 obtain ⟨y1,y2,_⟩:=zeroRd (m:=m) g3 (C - k)
 rw [hzl] at z1 z3 y1
 have hbl:Below w.heap.size w (w.drew.alloc (.cells (([]:List Value).toArray++Builtin.zeroCells zv.cells k++Builtin.zeroCells zv.cells (C - k)) e)):=((Below.refl _ w).drew).alloc (Nat.le_refl _) _
 have hh:(w.drew.alloc (.cells (([]:List Value).toArray++Builtin.zeroCells zv.cells k++Builtin.zeroCells zv.cells (C - k)) e)).heap[w.heap.size]?=_:=heap_alloc_new w.drew _
 have hsize:=(Array.getElem?_eq_some_iff.1 hh).1
 have hzsz:(Builtin.zeroCells zv.cells k).size=k * j.size:=by rw [←Array.length_toList];exact z1
 have hysz:(Builtin.zeroCells zv.cells (C - k)).size=(C - k) * j.size:=by rw [←Array.length_toList];exact y1
 obtain ⟨ω',hC,hri,_⟩:=h.rowNew (r:=⟨j.size,List.replicate k (z.map L.clos),[]⟩) Option.none n hn ⟨some w.heap.size,C,j.size⟩ (fun q=>q=w.heap.size) (.inl hbl) (fun q hq=>.inr ⟨by omega,by rw [hq];exact hsize⟩) (by
  refine ⟨rfl,fun x hx=>?_,?_⟩
  ·rw [List.eq_of_mem_replicate hx];simpa using hzl
  ·refine ⟨_,e,hh,?_,by simp;omega,⟨hcm,fun l hl=>(by cases hl),fun q v hq=>?_⟩,rfl,fun _ _ _=>False,(fun i j k hk=>hk.elim),(fun i j i' j' k hk=>hk.elim),fun i' j' u hu=>?_⟩
   ·simp only [Array.size_append,List.size_toArray,List.length_nil,hzsz,hysz,Nat.zero_add,←Nat.add_mul]
    congr 1
    omega
   ·have hm':=Array.mem_of_getElem? hq
    simp only [Array.mem_append,List.mem_toArray,List.not_mem_nil,false_or] at hm'
    rcases hm' with hm'|hm'
    ·exact z2 v (by simpa using hm')
    ·exact y2 v (by simpa using hm')
   ·show ∃v,_∧CRep m _ _ v u
    obtain ⟨v,h1,h2⟩:=z3 _ j' u hu
    have hlt:=(List.getElem?_eq_some_iff.1 h1).1
    simp only [Array.length_toList] at hlt
    refine ⟨v,?_,.fr h2⟩
    rw [Array.getElem?_append_left (by simp;omega),Array.getElem?_append_right (by simp)]
    rw [←h1,Array.getElem?_toList]
    congr 1)
 refine gives_of_run (w':=_) (by rw [hrun,hr];rfl) ?_
 rw [hd]
 refine ⟨m,ω',hC.put (by rw [newRow0_n];exact hn) ?_⟩
 show RefAt (ω'.row n) 0 _ _
 rw [hri]
 rw [List.length_replicate]
 exact .inr ⟨w.heap.size,⟨w.heap.size,0,none⟩,rfl,by simp;omega,by simp,fun _=>by simp⟩
end
end Go.Bw
namespace Go.Bw
open Go.RowKit
section
variable {P:Program} {w0:World} {m0:Mem} {s s':St} {a:Act} {w w':World} {m m':Mem} {ω ω':Wh} {F0:Home} {F:Nat→Prop} {T:TypeId→Option TI}
abbrev Boxes:=List (Nat×List L)
abbrev Rows:=List (Nat×RowC)
abbrev Ids:=List (Nat×Nat)
def ArgsRep (m:Mem) (ω:Wh) (vs:List Value) (xs:List V):Prop:=vs.length=xs.length∧∀(i:Nat) (x:V),xs[i]?=some x→∃v,vs[i]?=some v∧VRep m ω v x
def CallsR (P:Program) (f:FuncId) (args:Array Value) (w:World) (R:Value→World→Prop):Prop :=
 (∃v w',(callFunc f args).run P w=.ok (.value v) w'∧R v w')∨((callFunc f args).run P w=.ok (.enter f args) w∧Calls P f args w fun e w'=>∃v,e=.returned v∧R v w')
def roots (bx:Boxes) (rw:Rows):St:={n:=0,env:=[],box:=bx,row:=rw}
def a0:Act:={tmps:=#[],defers:=[]}
def Owned (s:St) (ω:Wh) (k:Nat):Prop:=∃κ id,s.live κ id∧ω.f κ id k
noncomputable def handed (bx:Boxes) (rw:Rows) (ω:Wh):Home where
 own:=Owned (roots bx rw) ω
 box:=fun id=>if (look bx id).isSome then some (ω.box id) else none
 row:=fun id=>if (look rw id).isSome then some (ω.row id) else none
def Post (P:Program) (w:World) (m:Mem) (ω:Wh) (bx:Boxes) (rw:Rows) (r:A) (bx':Boxes) (rw':Rows) (v:Value) (w':World):Prop :=
 ∃m' ω',CI P w m (handed bx rw ω) (roots bx' rw') a0 w' m' ω'∧ARep m' ω' v r
structure SatM (P:Program) (f:FuncId) (xs:List V) (bx:Boxes) (rw:Rows) (r:A) (bx':Boxes) (rw':Rows):Prop where
 call:∀(m:Mem) (w:World) (vs:List Value) (ω:Wh),CI P w m (handed bx rw ω) (roots bx rw) a0 w m ω→ArgsRep m ω vs xs→CallsR P f vs.toArray w (Post P w m ω bx rw r bx' rw')
def Sat (P:Program) (f:FuncId) (xs:List V) (r:A):Prop:=SatM P f xs [] [] r [] []
theorem gives_of_callsR {o:Oper} {f:FuncId} {args:Array Value} {R:Value→World→Prop} (hrun:(execOp a.eval o).run P w=(callFunc f args).run P w) (h:CallsR P f args w R):Gives P o a w R:=by
 rcases h with ⟨v,w',h1,h2⟩|⟨h1,h2⟩
 ·exact gives_of_run (by rw [hrun,h1]) h2
 ·intro next Q hn
  unfold Oper.wp
  rw [hrun,h1,Oper.upon_enter]
  refine h2.mono fun e w' he=>?_
  obtain ⟨v,rfl,hR⟩:=he
  exact hn v w' hR
def L.norm:L→L
 | .nil sz=>.sl sz []
 | l=>l
theorem norm_e {v:Value} {l:L} (h:ERep m ω v l):ERep m ω v l.norm:=by
 cases l with
 | nil sz =>
  have h:Rep m v (.nil sz):=h
  cases h
  exact Rep.slNil sz
 | _=>exact h
def argsOf (T:TypeId→Option TI) (s:St):List Operand→List TypeId→Option (List V)
 | [],_=>some []
 | x::xs,tys=>match evalO T s (tys.headD 0) x,argsOf T s xs tys.tail with
  | some (.v y),some r=>some (y.map L.norm::r)
  | _,_=>none
theorem argsOf_sound (h:CI P w0 m0 F0 s a w m ω):∀(l:List Operand) (tys:List TypeId) (xs:List V),argsOf T s l tys=some xs→ArgsRep m ω (l.map a.eval) xs
 | [],tys,xs,hx=>by simp only [argsOf,Option.some.injEq] at hx;subst hx;exact ⟨rfl,fun i x h=>by simp at h⟩
 | x::l,tys,xs,hx=>by
  simp only [argsOf] at hx
  split at hx
  ·rename_i y r hy hr
   simp only [Option.some.injEq] at hx
   subst hx
   obtain ⟨h1,h2⟩:=argsOf_sound h l tys.tail r hr
   refine ⟨by simpa using h1,fun i x' hi=>?_⟩
   cases i with
   | zero =>
    simp only [List.getElem?_cons_zero,Option.some.injEq] at hi
    subst hi
    have hv:VRep m ω (a.eval x) y:=evalO_sound h hy
    exact ⟨_,rfl,hv.map fun v l hl=>norm_e hl⟩
   | succ i=>simpa using h2 i x' (by simpa using hi)
  ·cases hx
def callOf (T:TypeId→Option TI) (s:St) (c:Call):Option (FuncId×List V) :=
 match c.callee with
 | .value g =>
  (match evalO T s 0 g with
  | some (.v (.one (.clo f caps)))=>(match argsOf T s c.args.toList c.argTypes.toList with|some xs=>some (f,xs++caps.map V.one)|none=>none)
  | _=>none)
 | _=>none
theorem callOf_plain {o:Oper} {c:Call} {f:FuncId} {xs:List V} (ho:o.op=.call c) (hc:callOf T s c=some (f,xs)):plainOp o=false:=by
 unfold callOf at hc
 split at hc
 ·rename_i g hg
  simp [plainOp,ho,hg]
 ·cases hc
theorem callOf_sound {o:Oper} {c:Call} {f:FuncId} {xs:List V} (ho:o.op=.call c) (h:CI P w0 m0 F0 s a w m ω) (hc:callOf T s c=some (f,xs)):∃vs:List Value,(execOp a.eval o).run P w=(callFunc f vs.toArray).run P w∧ArgsRep m ω vs xs:=by
 unfold callOf at hc
 split at hc
 ·rename_i g hg
  split at hc
  ·rename_i f' caps hf
   split at hc
   ·rename_i ys hys
    simp only [Option.some.injEq,Prod.mk.injEq] at hc
    obtain ⟨rfl,rfl⟩:=hc
    obtain ⟨cs,h1,h2,h3⟩:=evalO_sound h hf
    have hA:=argsOf_sound h _ _ _ hys
    refine ⟨(c.args.toList.map a.eval)++cs,?_,by simp [hA.1,h2],fun i x hi=>?_⟩
    ·unfold execOp
     simp only [ho,resolve,hg,h1,Deferred.ofValue,Sem.run_bind,Sem.run_pure,Result.andThen_ok,invoke]
     congr 2
     apply Array.ext'
     simp
    ·by_cases hlt:i<ys.length
     ·rw [List.getElem?_append_left hlt] at hi
      obtain ⟨v,h4,h5⟩:=hA.2 i x hi
      refine ⟨v,?_,h5⟩
      rw [List.getElem?_append_left (by rw [hA.1];exact hlt)]
      exact h4
     ·rw [List.getElem?_append_right (by omega),List.getElem?_map,Option.map_eq_some_iff] at hi
      obtain ⟨u,hu,rfl⟩:=hi
      obtain ⟨v,h4,h5⟩:=h3 _ u hu
      refine ⟨v,?_,?_⟩
      ·rw [List.getElem?_append_right (by rw [hA.1];omega),hA.1]
       exact h4
      ·rcases h5 with h5|h5
       ·exact h5.erep
       ·cases u with
        | ptr=>exact h5
        | eptr=>exact h5
        | _=>cases h5
   ·cases hc
  ·cases hc
 ·cases hc
theorem Keeps.chain {F F':Nat→Prop} {w w' w'':World} (h:Keeps F w w') (h':Keeps F' w' w'') (hF:∀k,F' k→w.heap.size≤k∨F k):Keeps F w w'' :=
 ⟨h'.os.trans h.os,h'.tape.trans h.tape,h'.output.trans h.output,Nat.le_trans h.size h'.size,fun k hk hn=>(h'.block k (Nat.lt_of_lt_of_le hk h.size) fun hf=>(hF k hf).elim (by omega) hn).trans (h.block k hk hn)⟩
theorem CI.goodFor (h:CI P w0 m0 F0 s a w m ω) {F:Nat→Prop} (hF:∀k,F k→w0.heap.size≤k∨F0 k):GoodC P w F:=fun w' hk=>h.good w' (h.keeps.chain hk hF)
theorem CI.none (hg:GoodC P w (handed [] [] ω).own) (hok:∀x v,m x=some v→w.cell? x=some v):CI P w m (handed [] [] ω) (roots [] []) a0 w m ω where
 size:=rfl
 defers:=rfl
 keeps:=Keeps.refl _ _
 mle:=Mem.le_refl m
 mold:=fun _ _ _=>rfl
 ok:=hok
 env:=fun t x hx=>by cases hx
 box:=fun t x hx=>by cases hx
 row:=fun t x hx=>by cases hx
 fresh:=fun κ id hl=>by cases κ<;>cases hl
 apart:=fun κ id _ _ hl=>by cases κ<;>cases hl
 home:=⟨(fun id hid=>by rcases hid with hid|hid<;>cases hid),(fun id b hb=>by cases hb),(fun id b hb=>by cases hb)⟩
 good:=hg
theorem L.clos_e {v:Value} {l:L} (h:ERep m ω v l):ERep m ω' v l.clos:=by
 by_cases hz:l.isFz=true
 ·exact ((h.rep hz).clos hz).erep
 ·have e:l.clos=.any:=by
   cases l<;>first
    | rfl
    | exact absurd rfl hz
    | (simp only [L.clos];rw [if_neg hz])
  rw [e]
  exact Rep.any v h.oneCell
theorem owned_none {k:Nat}:¬ (handed [] [] ω) k:=by
 rintro ⟨κ,id,hl,_⟩
 cases κ<;>cases hl
theorem CI.goodN (h:CI P w0 m0 F0 s a w m ω) {ω':Wh}:GoodC P w (handed [] [] ω').own:=h.goodFor fun k hk=>absurd hk owned_none
theorem gives_call {o:Oper} {c:Call} {f:FuncId} {xs:List V} {r:A} (ho:o.op=.call c) (h:CI P w0 m0 F0 s a w m ω) (hc:callOf T s c=some (f,xs)) (hS:Sat P f xs r):GivesA P w0 m0 F0 s o (r.map L.clos) a w ω:=by
 obtain ⟨vs,h1,h2⟩:=callOf_sound ho h hc
 refine givesA_of (callOf_plain ho hc) ?_
 refine (gives_of_callsR h1 (hS.call m w vs ω (CI.none h.goodN h.ok) h2)).mono fun v w' hp=>?_
 obtain ⟨m',ω',hC,hv⟩:=hp
 refine ⟨m',h.grow ⟨hC.keeps.os,hC.keeps.tape,hC.keeps.output,hC.keeps.size,fun k hk=>hC.keeps.block k hk owned_none⟩ hC.mle (fun x hx=>hC.mold x hx owned_none) hC.ok,?_⟩
 exact hv.map fun v l hl=>L.clos_e hl
def L.flat:L→L
 | .int k n=>.int k n
 | .bool b=>.bool b
 | .str s=>.str s
 | _=>.any
theorem L.flat_e {v:Value} {l:L} (h:ERep m ω v l):ERep m' ω' v l.flat:=by
 cases l with
 | int k n=>have h:Rep m v (.int k n):=h;cases h;exact Rep.int k n
 | bool b=>have h:Rep m v (.bool b):=h;cases h;exact Rep.bool b
 | str q=>have h:Rep m v (.str q):=h;cases h;exact Rep.str q
 | _=>exact Rep.any v (ERep.oneCell (m:=m) (ω:=ω) h)
noncomputable def cutMem (m:Mem) (F:Nat→Prop):Mem:=by
 classical exact fun x=>if F x.block then Option.none else m x
theorem cutMem_out {F:Nat→Prop} {x:Addr} (h:¬ F x.block):cutMem m F x=m x:=by unfold cutMem;rw [if_neg h]
theorem cutMem_in {F:Nat→Prop} {x:Addr} (h:F x.block):cutMem m F x=Option.none:=by unfold cutMem;rw [if_pos h]
theorem frzV_n (n n':Nat) (e e':List (Nat×A)) (b:Boxes) (r:Rows):∀k,frzV k ⟨n,e,b,r⟩=frzV k ⟨n',e',b,r⟩
 | 0=>by funext l;cases l<;>rfl
 | k+1=>by
  have ih:=frzV_n n n' e e' b r k
  funext l
  cases l<;>simp only [frzV,ih]
theorem gives_lentR {o:Oper} {c:Call} {f:FuncId} {xs:List V} {r:A} (ho:o.op=.call c) (h:CI P w0 m0 F0 s a w m ω) (hc:callOf T s c=some (f,xs)) (hS:Sat P f (xs.map fun x=>x.map (frzV 4 ⟨0,[],[],s.row⟩)) r):GivesA P w0 m0 F0 s o (r.map L.flat) a w ω:=by
 rw [frzV_n 0 s.n [] [] [] s.row] at hS
 obtain ⟨vs,h1,h2⟩:=callOf_sound ho h hc
 let F:Nat→Prop:=Owned s ω
 have hF:∀x v,m x=some v→¬ F x.block:=by
  rintro x v hx ⟨κ,id,hl,hk⟩
  exact (h.fresh κ id hl _ hk).2.2 x v hx rfl
 have hle:=frzMem_le (w:=w) hF
 have hlv:∀κ id,(St.mk s.n [] [] s.row).live κ id→s.live κ id:=fun κ id hl=>by
  cases κ with
  | false=>cases hl
  | true=>exact hl
 have hw:CI P w0 m0 F0 ⟨s.n,[],[],s.row⟩ a w m ω:=h.weaken rfl (fun t x hx=>by cases hx) (fun t x hx=>by cases hx) (fun t x hx=>hx)
 have hA:ArgsRep (frzMem m w F) ω vs (xs.map fun x=>x.map (frzV 4 ⟨s.n,[],[],s.row⟩)):=by
  refine ⟨by simpa using h2.1,fun i x hi=>?_⟩
  rw [List.getElem?_map,Option.map_eq_some_iff] at hi
  obtain ⟨x0,hi,rfl⟩:=hi
  obtain ⟨v,h3,h4⟩:=h2.2 i x0 hi
  exact ⟨v,h3,h4.map fun v l hl=>(frzV_sound hw hle (fun κ id hl x hx=>frzMem_in (m:=m) ⟨κ,id,hlv κ id hl,hx⟩) 4 v l hl).erep⟩
 refine givesA_of (callOf_plain ho hc) ?_
 refine (gives_of_callsR h1 (hS.call _ w vs ω (CI.none h.goodN (frzMem_ok h.ok)) hA)).mono fun v w' hp=>?_
 obtain ⟨m',ω',hC,hv⟩:=hp
 have hlt:∀k,F k→k<w.heap.size:=fun k ⟨κ,id,hl,hk⟩=>(h.fresh κ id hl k hk).1
 refine ⟨cutMem m' F,h.grow ⟨hC.keeps.os,hC.keeps.tape,hC.keeps.output,hC.keeps.size,fun k hk=>hC.keeps.block k hk owned_none⟩ (fun x v hx=>?_) (fun x hx=>?_) (fun x v hx=>?_),hv.map fun v l hl=>L.flat_e hl⟩
 ·rw [cutMem_out (hF x v hx)]
  exact hC.mle x v (hle x v hx)
 ·by_cases hb:F x.block
  ·rw [cutMem_in hb]
   cases hm:m x with
   | none=>rfl
   | some v=>exact absurd hb (hF x v hm)
  ·rw [cutMem_out hb,hC.mold x hx owned_none,frzMem_out hb]
 ·by_cases hb:F x.block
  ·rw [cutMem_in hb] at hx;cases hx
  ·rw [cutMem_out hb] at hx
   exact hC.ok x v hx
def L.ids0 (σb σr:Ids):L→L
 | .ptr id o=>match look σb id with|some j=>.ptr j o|none=>.any
 | .eptr id i o=>match look σr id with|some j=>.eptr j i o|none=>.any
 | .ref id lo n=>match look σr id with|some j=>.ref j lo n|none=>.any
 | l=>l
def L.ids (σb σr:Ids):L→L
 | .clo f caps=>.clo f (caps.map (L.ids0 σb σr))
 | l=>l.ids0 σb σr
def L.kl0 (kb kr:List Nat):L→L
 | .ptr id o=>if kb.elem id then .any else .ptr id o
 | .eptr id i o=>if kr.elem id then .any else .eptr id i o
 | .ref id lo n=>if kr.elem id then .any else .ref id lo n
 | l=>l
def L.kl (kb kr:List Nat):L→L
 | .clo f caps=>.clo f (caps.map (L.kl0 kb kr))
 | l=>l.kl0 kb kr
theorem kl_e {kb kr:List Nat} (hb:∀i,kb.elem i=false→ω'.box i=ω.box i) (hr:∀i,kr.elem i=false→ω'.row i=ω.row i) {v:Value} {l:L} (h:ERep m ω v l):ERep m ω' v (l.kl kb kr):=by
 have hP:∀x u,PRep ω x u→Rep m x (u.kl0 kb kr)∨PRep ω' x (u.kl0 kb kr):=by
  intro x u hu
  cases u with
  | ptr i o =>
   simp only [L.kl0]
   cases hk:kb.elem i with
   | true=>exact .inl (.any _ hu.oneCell)
   | false=>refine .inr ?_;show x=_;rw [hb i hk];exact hu
  | eptr i k o =>
   simp only [L.kl0]
   cases hk:kr.elem i with
   | true=>exact .inl (.any _ hu.oneCell)
   | false=>refine .inr ?_;show ∃b,_;rw [hr i hk];exact hu
  | _=>cases hu
 have hR:∀x u,Rep m x u→Rep m x (u.kl0 kb kr):=by
  intro x u hu
  cases u with
  | ptr=>cases hu
  | eptr=>cases hu
  | ref=>cases hu
  | _=>exact hu
 cases l with
 | ptr i o =>
  simp only [L.kl,L.kl0]
  cases hk:kb.elem i with
  | true=>exact Rep.any v (ERep.oneCell (ω:=ω) (m:=m) (l:=.ptr i o) h)
  | false=>show v=_;rw [hb i hk];exact h
 | eptr i k o =>
  simp only [L.kl,L.kl0]
  cases hk:kr.elem i with
  | true=>exact Rep.any v (ERep.oneCell (ω:=ω) (m:=m) (l:=.eptr i k o) h)
  | false=>show ∃b,_;rw [hr i hk];exact h
 | ref i lo n =>
  simp only [L.kl,L.kl0]
  cases hk:kr.elem i with
  | true=>exact Rep.any v (ERep.oneCell (ω:=ω) (m:=m) (l:=.ref i lo n) h)
  | false=>show RefAt (ω'.row i) lo n v;rw [hr i hk];exact h
 | clo f caps =>
  obtain ⟨vs,h1,h2,h3⟩:=h
  refine ⟨vs,h1,by simpa using h2,fun i u hu=>?_⟩
  simp only [List.getElem?_map,Option.map_eq_some_iff] at hu
  obtain ⟨u0,hu,rfl⟩:=hu
  obtain ⟨x,h4,h5⟩:=h3 i u0 hu
  refine ⟨x,h4,?_⟩
  rcases h5 with h5|h5
  ·exact .inl (hR _ _ h5)
  ·exact hP _ _ h5
 | _=>exact h
def okIds0 (σb σr:Ids):L→Bool
 | .ptr i _=>(look σb i).isSome
 | .eptr i _ _=>(look σr i).isSome
 | .ref i _ _=>(look σr i).isSome
 | _=>true
def okIds (σb σr:Ids):L→Bool
 | .clo _ caps=>caps.all (okIds0 σb σr)
 | l=>okIds0 σb σr l
theorem ids_back {σb σr:Ids} (hb:∀i j,look σb i=some j→ω'.box i=ω.box j) (hr:∀i j,look σr i=some j→ω'.row i=ω.row j) {v:Value} {l:L} (hid:okIds σb σr l=true)
  (h:ERep m ω v (l.ids σb σr)):ERep m ω' v l:=by
 cases l with
 | ptr i o =>
  obtain ⟨j,hj⟩:=Option.isSome_iff_exists.1 hid
  simp only [L.ids,L.ids0,hj] at h
  show v=_
  rw [hb i j hj]
  exact h
 | eptr i k o =>
  obtain ⟨j,hj⟩:=Option.isSome_iff_exists.1 hid
  simp only [L.ids,L.ids0,hj] at h
  show ∃b,_
  rw [hr i j hj]
  exact h
 | ref i lo n =>
  obtain ⟨j,hj⟩:=Option.isSome_iff_exists.1 hid
  simp only [L.ids,L.ids0,hj] at h
  show RefAt _ lo n v
  rw [hr i j hj]
  exact h
 | clo f caps =>
  obtain ⟨vs,h1,h2,h3⟩:=h
  refine ⟨vs,h1,by simpa using h2,fun i u hu=>?_⟩
  obtain ⟨x,h4,h5⟩:=h3 i (u.ids0 σb σr) (by simp [hu])
  refine ⟨x,h4,?_⟩
  have hui:=List.all_eq_true.1 hid u (List.mem_of_getElem? hu)
  cases u with
  | ptr i o =>
   obtain ⟨j,hj⟩:=Option.isSome_iff_exists.1 hui
   simp only [L.ids0,hj] at h5
   rcases h5 with h5|h5
   ·cases h5
   ·refine .inr ?_
    show x=_
    rw [hb i j hj]
    exact h5
  | eptr i k o =>
   obtain ⟨j,hj⟩:=Option.isSome_iff_exists.1 hui
   simp only [L.ids0,hj] at h5
   rcases h5 with h5|h5
   ·cases h5
   ·refine .inr ?_
    show ∃b,_
    rw [hr i j hj]
    exact h5
  | ref i lo n =>
   obtain ⟨j,hj⟩:=Option.isSome_iff_exists.1 hui
   simp only [L.ids0,hj] at h5
   rcases h5 with h5|h5<;>cases h5
  | _ =>
   rcases h5 with h5|h5
   ·exact .inl h5
   ·cases h5
 | _=>exact h
theorem ids_fwd {σb σr:Ids} (hb:∀i j,look σb i=some j→ω'.box j=ω.box i) (hr:∀i j,look σr i=some j→ω'.row j=ω.row i) {v:Value} {l:L} (h:ERep m ω v l):ERep m ω' v (l.ids σb σr):=by
 have hP:∀x u,PRep ω x u→Rep m x (u.ids0 σb σr)∨PRep ω' x (u.ids0 σb σr):=by
  intro x u hu
  cases u with
  | ptr i o =>
   simp only [L.ids0]
   cases hk:look σb i with
   | none=>exact .inl (.any _ hu.oneCell)
   | some j=>refine .inr ?_;show x=_;rw [hb i j hk];exact hu
  | eptr i k o =>
   simp only [L.ids0]
   cases hk:look σr i with
   | none=>exact .inl (.any _ hu.oneCell)
   | some j=>refine .inr ?_;show ∃b,_;rw [hr i j hk];exact hu
  | _=>cases hu
 have hR:∀x u,Rep m x u→Rep m x (u.ids0 σb σr):=by
  intro x u hu
  cases u with
  | ptr=>cases hu
  | eptr=>cases hu
  | ref=>cases hu
  | _=>exact hu
 cases l with
 | ptr i o =>
  simp only [L.ids,L.ids0]
  cases hk:look σb i with
  | none=>exact Rep.any v (ERep.oneCell (ω:=ω) (m:=m) (l:=.ptr i o) h)
  | some j=>show v=_;rw [hb i j hk];exact h
 | eptr i k o =>
  simp only [L.ids,L.ids0]
  cases hk:look σr i with
  | none=>exact Rep.any v (ERep.oneCell (ω:=ω) (m:=m) (l:=.eptr i k o) h)
  | some j=>show ∃b,_;rw [hr i j hk];exact h
 | ref i lo n =>
  simp only [L.ids,L.ids0]
  cases hk:look σr i with
  | none=>exact Rep.any v (ERep.oneCell (ω:=ω) (m:=m) (l:=.ref i lo n) h)
  | some j=>show RefAt (ω'.row j) lo n v;rw [hr i j hk];exact h
 | clo f caps =>
  obtain ⟨vs,h1,h2,h3⟩:=h
  refine ⟨vs,h1,by simpa using h2,fun i u hu=>?_⟩
  simp only [List.getElem?_map,Option.map_eq_some_iff] at hu
  obtain ⟨u0,hu,rfl⟩:=hu
  obtain ⟨x,h4,h5⟩:=h3 i u0 hu
  refine ⟨x,h4,?_⟩
  rcases h5 with h5|h5
  ·exact .inl (hR _ _ h5)
  ·exact hP _ _ h5
 | _=>exact h
end
end Go.Bw
