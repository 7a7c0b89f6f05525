/- Proved: contracts of functions of this translation, for every state, and what they rest on; bounds stand ahead. -/
import Derived.Calls
import Derived.Orders
import Derived.Below
import Derived.Laws.AppendOwn
import Derived.Laws.Entries
import Derived.WalkKit
import Derived.Laws.Pointers
import Derived.Laws.Small
import Derived.Laws.Tables
import Derived.Laws.StructEq
import Derived.WalkSpells
import Derived.Lib.AppendZerosOnto
set_option linter.unusedSimpArgs false
set_option linter.unusedVariables false
namespace Go.Bw
abbrev AJ:=@List.mem_append_left
abbrev AK:=@decide_eq_false_iff_not
abbrev AL:=@Int.le_refl
abbrev AM:=@List.replicate_zero
abbrev AX:=@List.mem_range
abbrev AY:=@List.eq_of_mem_replicate
abbrev Ae:=@Option.some.inj
abbrev Af:=@List.drop_drop
abbrev Al:=@List.eq_nil_of_length_eq_zero
abbrev Am:=@Bool.and_self
abbrev An:=@not_true_eq_false
abbrev BP:=@List.mem_map
abbrev BY:=@Array.getElem?_toList
abbrev Bm:=@List.set_getElem_self
abbrev C5:=@Nat.add_sub_cancel
abbrev CL:=@Nat.mod_lt
abbrev CM:=@List.map_id
abbrev CN:=@List.getElem_append_right
abbrev Ca:=@List.mem_filter
abbrev Cb:=@List.range_succ
abbrev Cd:=@List.any_eq_false
abbrev Ce:=@List.getElem?_set
abbrev Cf:=@Option.map_none
abbrev Cg:=@ByteArray.size_append
abbrev Dm:=@Classical.byContradiction
abbrev E4:=@List.getElem?_replicate
abbrev E5:=@Nat.mod_eq_of_lt
abbrev E6:=@List.elem_eq_mem
abbrev E7:=@UInt8.lt_iff_toNat_lt
abbrev EJ:=@Array.mem_of_getElem?
abbrev EK:=@List.drop_eq_nil_of_le
abbrev EL:=@List.replicate_succ
abbrev EM:=@Bool.eq_iff_iff
abbrev El:=@List.size_toArray
abbrev Em:=@Nat.sub_mul
abbrev En:=@List.filter_congr
abbrev Eo:=@List.map_drop
abbrev GA:=@List.take_succ_eq_append_getElem
abbrev GB:=@List.range_zero
abbrev HI:=@List.getElem?_eq_none
abbrev HJ:=@Bool.not_eq_true
abbrev HK:=@Option.isSome_none
abbrev HL:=@Nat.min_eq_left
abbrev HM:=@List.takeWhile_cons
abbrev Ha:=@List.range'_succ
abbrev Hb:=@List.range_eq_range'
abbrev Hc:=@Option.ext
abbrev Hd:=@List.drop_length
abbrev JE:=@getElem!_pos
abbrev JF:=@Array.size_append
abbrev JG:=@Array.mem_append
abbrev JH:=@List.mem_toArray
abbrev JI:=@Array.getElem?_append_right
abbrev JJ:=@Array.getElem?_map
abbrev JK:=@eq_iff_iff
abbrev JL:=@beq_eq_false_iff_ne
abbrev JM:=@List.mem_append_right
abbrev JN:=@Nat.mul_add_mod
abbrev JO:=@List.getElem?_ofFn
abbrev JP:=@List.getElem?_set_self
abbrev JQ:=@not_false_eq_true
abbrev JR:=@List.getElem_cons_zero
abbrev KB:=@List.getElem_set
abbrev Kv:=@List.Pairwise.sublist
abbrev Ky:=@Array.getElem?_replicate
abbrev Kz:=@List.ext_getElem
abbrev LC:=@List.mem_or_eq_of_mem_set
abbrev LD:=@Option.bind_eq_some_iff
abbrev LF:=@List.any_cons
abbrev LG:=@List.getElem_map
abbrev LH:=@List.getElem_append_left
abbrev O5:=@Array.getElem?_range
abbrev O6:=@Nat.lt_trichotomy
abbrev O7:=@Array.getElem?_setIfInBounds_ne
abbrev O8:=@List.mapM_cons
abbrev O9:=@Bool.and_eq_false_imp
abbrev P4:=@List.getD_cons_succ
abbrev P5:=@Int.lt_or_eq_of_le
abbrev Pa:=@Array.getElem?_setIfInBounds
abbrev Pb:=@Array.getElem?_modify
abbrev Pc:=@Nat.mul_add_div
abbrev Pd:=@Nat.div_eq_of_lt
abbrev Pe:=@List.getElem_set_ne
abbrev Pf:=@List.elem_iff
abbrev Rh:=@Bool.false_or
abbrev Ri:=@List.length_range
abbrev Rj:=@List.foldl_cons
abbrev Rk:=@Array.ext_getElem?
abbrev Rl:=@false_and
abbrev Rm:=@List.mem_cons
abbrev Rn:=@List.flatten_append
abbrev Ro:=@Bool.eq_false_iff
abbrev Rp:=@Int.toNat_of_nonneg
abbrev XA:=@Array.all_eq_true
abbrev XB:=@Array.mapM_eq_mapM_toList
abbrev XC:=@List.zipIdx_cons
abbrev XD:=@Bool.or_eq_false_iff
abbrev XE:=@Int.not_lt
abbrev XF:=@Int.not_le
abbrev XG:=@List.take_append_of_le_length
abbrev XH:=@Option.isSome_map
abbrev XI:=@List.getElem_cons_drop
abbrev XJ:=@List.Pairwise.filterMap
abbrev XK:=@List.pairwise_lt_range
abbrev XL:=@List.all_eq_false
abbrev XM:=@Classical.choose_spec
abbrev XN:=@Nat.ne_of_lt
abbrev XO:=@Nat.one_ne_zero
abbrev XP:=@Nat.div_lt_of_lt_mul
abbrev XQ:=@Nat.div_add_mod
abbrev XR:=@List.any_nil
abbrev XS:=@List.find?_cons
abbrev XT:=@List.getElem_cons_succ
abbrev XU:=@Int.ofNat.inj
abbrev XV:=@Int.tmod_lt_of_pos
abbrev XW:=@List.pairwise_singleton
abbrev XX:=@Nat.le_succ_of_le
abbrev Xx:=@Nat.add_sub_cancel_left
abbrev Xy:=@List.getElem?_zipIdx
abbrev Xz:=@Array.toList_append
abbrev Y0:=@List.mem_of_find?_eq_some
abbrev Y1:=@UInt8.toNat_ofNat'
abbrev Y3:=@List.Sublist.refl
abbrev YS:=@List.filter_sublist
abbrev YT:=@List.pairwise_map
abbrev YU:=@List.set_eq_of_length_le
abbrev YV:=@List.find?_eq_some_iff_getElem
abbrev YW:=@List.map_replicate
abbrev YX:=@List.mem_singleton
abbrev YY:=@List.drop_left'
abbrev YZ:=@List.getElem_of_mem
abbrev aI:=@List.map_nil
abbrev aJ:=@List.map_cons
abbrev aW:=@List.cons_append
abbrev aZ:=@List.nil_append
abbrev av:=@Option.getD_none
abbrev bA:=@List.length_append
abbrev bG:=@Int.toNat_natCast
abbrev bI:=@List.length_nil
abbrev bM:=@List.append_nil
abbrev bP:=@List.length_cons
abbrev bg:=@Nat.zero_le
abbrev bl:=@List.getElem_mem
abbrev br:=@Nat.le_refl
abbrev bw:=@List.length_map
abbrev c8:=@List.getElem?_cons_zero
abbrev c9:=@List.take_zero
abbrev cN:=@Nat.zero_add
abbrev cV:=@Nat.lt_or_ge
abbrev dA:=@List.drop_zero
abbrev dJ:=@Option.bind_some
abbrev dL:=@List.filter_cons
abbrev dO:=@List.filter_nil
abbrev dV:=@List.take_succ_cons
abbrev de:=@Bool.false_eq_true
abbrev dn:=@List.map_append
abbrev dr:=@List.getElem?_cons_succ
abbrev du:=@List.take_of_length_le
abbrev dv:=@Option.map_some
abbrev dw:=@List.take_length
abbrev eE:=@Option.getD_some
abbrev eJ:=@Nat.add_zero
abbrev eo:=@List.drop_succ_cons
abbrev fB:=@Bool.not_false
abbrev fN:=@Bool.false_and
abbrev fO:=@decide_true
abbrev fi:=@Bool.not_true
abbrev gB:=@List.getElem?_toArray
abbrev gL:=@decide_false
abbrev gQ:=@Nat.le_of_ble_eq_true
abbrev gU:=@Option.isSome_some
abbrev iA:=@beq_self_eq_true
abbrev iK:=@Bool.not_not
abbrev iL:=@Bool.and_false
abbrev ig:=@List.getElem?_eq_getElem
abbrev ij:=@Bool.and_true
abbrev il:=@Bool.true_and
abbrev im:=@List.all_cons
abbrev iq:=@List.all_nil
abbrev iy:=@Int.natCast_add
abbrev pA:=@List.take_nil
abbrev pD:=@List.elem_nil
abbrev pE:=@bne_self_eq_false
abbrev pF:=@Int.toNat_zero
abbrev pG:=@ge_iff_le
abbrev pH:=@gt_iff_lt
abbrev pO:=@Int.natCast_one
abbrev pU:=@Nat.le_trans
abbrev pq:=@List.elem_cons
abbrev pu:=@beq_false
abbrev pv:=@List.headD_cons
abbrev pw:=@List.tail_cons
abbrev pz:=@List.drop_nil
abbrev qa:=@Bool.and_eq_true
abbrev qg:=@List.getElem?_take
abbrev ql:=@List.getElem?_map
abbrev rI:=@Option.map_eq_some_iff
abbrev rJ:=@List.getElem?_drop
abbrev rK:=@Nat.add_mul
abbrev rM:=@List.getD_eq_getElem?_getD
abbrev rV:=@List.length_take
abbrev rX:=@List.mem_of_getElem?
abbrev s9:=@Int.natCast_zero
abbrev sB:=@decide_eq_true
abbrev sV:=@List.append_assoc
abbrev tP:=@List.set_cons_zero
abbrev tZ:=@List.filter_append
abbrev tj:=@Nat.mul_le_mul_right
abbrev tv:=@List.mem_of_mem_take
abbrev tw:=@List.length_set
abbrev u6:=@List.map_congr_left
abbrev uP:=@beq_iff_eq
abbrev uV:=@List.drop_eq_getElem_cons
abbrev uW:=@List.mem_cons_of_mem
abbrev uX:=@Nat.add_assoc
abbrev ul:=@List.getElem?_append_right
abbrev um:=@Array.length_toList
abbrev uv:=@decide_eq_true_eq
abbrev vI:=@Array.ext'
abbrev vJ:=@List.map_set
abbrev vP:=@List.set_set
abbrev ve:=@List.take_left'
abbrev vi:=@Nat.eq_zero_or_pos
abbrev vk:=@List.getElem?_append_left
abbrev vl:=@List.length_filter_le
abbrev vt:=@Array.getD_eq_getD_getElem?
abbrev vu:=@Decidable.byContradiction
abbrev wN:=@Nat.lt_of_lt_of_le
abbrev wO:=@Bool.or_eq_true
abbrev wP:=@List.map_map
abbrev wY:=@Bool.not_eq_true'
abbrev wZ:=@List.set_cons_succ
abbrev wb:=@List.map_toArray
abbrev wc:=@Nat.sub_zero
abbrev wu:=@List.length_drop
abbrev x5:=@Array.getElem?_append_left
abbrev x6:=@List.mem_cons_self
abbrev xB:=@Nat.sub_self
abbrev xR:=@Array.getElem?_eq_none
abbrev xy:=@List.drop_of_length_le
abbrev y7:=@Array.getElem?_eq_getElem
abbrev y8:=@Nat.mul_comm
abbrev yF:=@List.map_take
abbrev yG:=@decide_eq_false
abbrev yK:=@List.take_append_drop
abbrev yg:=@List.mem_append
abbrev yh:=@List.length_replicate
abbrev z7:=@List.length_singleton
abbrev z8:=@List.set_append_right
abbrev zA:=@Nat.zero_mul
abbrev zB:=@List.mem_of_mem_drop
abbrev zC:=@List.all_eq_true
abbrev zn:=@List.getD_cons_zero
open Go.RowKit
inductive L where
 | int (k:IntKind) (n:Int)
 | bool (b:Bool)
 | str (s:ByteArray)
 | sl (sz:Nat) (xs:List (List L))
 | nil (sz:Nat)
 | own (sz:Nat) (xs:List (List L))
 | bD (f:FuncId) (caps:List L)
 | fz (ls:List L)
 | ptr (id o:Nat)
 | dj (id i o:Nat)
 | ref (id lo n:Nat)
 | any
 | sN
 | rT (t:TypeId) (l:List UInt8)
 | raw (v:Value)
 deriving Inhabited
abbrev Mem:=Addr→Option Value
def cellOf (xs:List (List L)) (i j:Nat):Option L:=(xs[i]?).bind (·[j]?)
inductive aM (m:Mem):Value→L→Prop
 | int (k:IntKind) (n:Int):aM m (.int k n) (.int k n)
 | bool (b:Bool):aM m (.bool b) (.bool b)
 | str (s:ByteArray):aM m (.string s) (.str s)
 | nil (sz:Nat):aM m (.slice none 0 0) (.nil sz)
 | vK (sz:Nat):aM m (.slice none 0 0) (.sl sz [])
 | sl (ad:Addr) (len cap sz:Nat) (xs:List (List L)) (vals:Nat→Nat→Value) (hlen:len=xs.length) (hc:len≤cap)
   (hsz:∀x∈xs,x.length=sz)
   (hm:∀i j u,cellOf xs i j=some u→m (ad.add (i * sz+j))=some (vals i j))
   (hr:∀i j u,cellOf xs i j=some u→aM m (vals i j) u):aM m (.slice (some ad) len cap) (.sl sz xs)
 | bD (f:FuncId) (caps:List L) (vs:List Value) (vals:Nat→Value) (hl:vs.length=caps.length)
   (hm:∀i u,caps[i]?=some u→vs[i]?=some (vals i))
   (hr:∀i u,caps[i]?=some u→aM m (vals i) u) :
   aM m (.func (.func f) #[] vs.toArray) (.bD f caps)
 | fz (ad:Addr) (ls:List L) (vals:Nat→Value) (hm:∀j u,ls[j]?=some u→m (ad.add j)=some (vals j)) (hr:∀j u,ls[j]?=some u→aM m (vals j) u) :
   aM m (.pointer (some ad)) (.fz ls)
 | any (v:Value) (h:v.oneCell'=true):aM m v .any
 | sN:aM m (.pointer none) .sN
 | raw (v:Value) (h:v.oneCell'=true):aM m v (.raw v)
def Mem.le (m m':Mem):Prop:=∀a v,m a=some v→m' a=some v
theorem Mem.le_refl (m:Mem):Mem.le m m:=fun _ _ h=>h
theorem Mem.le_trans {a b c:Mem} (h:Mem.le a b) (k:Mem.le b c):Mem.le a c:=fun x v hx=>k x v (h x v hx)
theorem aM.mono {m m':Mem} (hm:Mem.le m m') {v:Value} {l:L} (h:aM m v l):aM m' v l:=by
 induction h with
 | int k n=>exact .int k n
 | bool b=>exact .bool b
 | str s=>exact .str s
 | nil sz=>exact .nil sz
 | vK sz=>exact .vK sz
 | sl ad len cap sz xs vals hlen hc hsz h1 _ ih=>exact .sl ad len cap sz xs vals hlen hc hsz (fun i j u hu=>hm _ _ (h1 i j u hu)) ih
 | bD f caps vs vals hl h1 _ ih=>exact .bD f caps vs vals hl h1 ih
 | fz ad ls vals h1 _ ih=>exact .fz ad ls vals (fun j u hu=>hm _ _ (h1 j u hu)) ih
 | any v h=>exact .any v h
 | sN=>exact .sN
 | raw v h=>exact .raw v h
theorem aM.pN {m:Mem} {v:Value} {l:L} (h:aM m v l):v.oneCell'=true:=by
 cases h<;>first|rfl|assumption
def vv (m:Mem) (ad:Addr) (ls:List L):Prop:=∀(j:Nat) (u:L),ls[j]?=some u→∃v,m (ad.add j)=some v∧aM m v u
theorem vv.mono {m m':Mem} (hm:Mem.le m m') {ad:Addr} {ls:List L} (h:vv m ad ls):vv m' ad ls :=
 fun j u hu=>let ⟨v,h1,h2⟩:=h j u hu;⟨v,hm _ _ h1,h2.mono hm⟩
theorem vv.yi {m:Mem} {ad:Addr} {ls:List L} (h:vv m ad ls):aM m (.pointer (some ad)) (.fz ls):=by
 refine .fz ad ls (fun j=>(m (ad.add j)).getD default) (fun j u hu=>?_) (fun j u hu=>?_)
 ·obtain ⟨v,h1,_⟩:=h j u hu
  rw [h1];rfl
 ·obtain ⟨v,h1,h2⟩:=h j u hu
  rw [h1];exact h2
theorem aM.E8 {m:Mem} {v:Value} {ls:List L} (h:aM m v (.fz ls)):∃ad,v=.pointer (some ad)∧vv m ad ls:=by
 cases h with
 | fz ad _ vals h1 h2=>exact ⟨ad,rfl,fun j u hu=>⟨_,h1 j u hu,h2 j u hu⟩⟩
inductive eS (m:Mem) (w:World):(Nat→Prop)→Value→L→Prop
 | fr {F:Nat→Prop} {v:Value} {l:L} (h:aM m v l):eS m w F v l
 | yj {F:Nat→Prop} (sz:Nat):eS m w F (.slice none 0 0) (.own sz [])
 | own {F:Nat→Prop} (b n cap sz:Nat) (xs:List (List L)) (cs:Array Value) (e:TypeId) (vals:Nat→Nat→Value) (G:Nat→Nat→Nat→Prop)
   (hb:F b) (hh:w.heap[b]?=some (.cells cs e (0,0))) (hn:n=xs.length) (hcap:n≤cap) (hcm:cap≤maxLen) (hcs:cs.size=cap * sz) (hsz:∀x∈xs,x.length=sz)
   (hG:∀i j k,G i j k→F k∧k≠b) (hD:∀i j i' j' k,G i j k→G i' j' k→i=i'∧j=j')
   (hv:∀i j u,cellOf xs i j=some u→cs[i * sz+j]?=some (vals i j)) (hc:∀i j u,cellOf xs i j=some u→eS m w (G i j) (vals i j) u)
   (hone:∀(q:Nat) (v:Value),cs[q]?=some v→v.oneCell'=true) :
   eS m w F (.slice (some ⟨b,0,none⟩) n cap) (.own sz xs)
theorem eS.keep {m m':Mem} {w w':World} (hm:Mem.le m m') {F:Nat→Prop} {v:Value} {l:L} (h:eS m w F v l) (hw:∀k,F k→w'.heap[k]?=w.heap[k]?):eS m' w' F v l:=by
 induction h with
 | fr h=>exact .fr (h.mono hm)
 | yj sz=>exact .yj sz
 | own b n cap sz xs cs e vals G hb hh hn hcap hcm hcs hsz hG hD hv _ hone ih =>
  exact .own b n cap sz xs cs e vals G hb ((hw b hb).trans hh) hn hcap hcm hcs hsz hG hD hv (fun i j u hu=>ih i j u hu fun k hk=>hw k (hG i j k hk).1) hone
theorem eS.sub {m:Mem} {w:World} {F F':Nat→Prop} {v:Value} {l:L} (h:eS m w F v l) (hF:∀k,F k→F' k):eS m w F' v l:=by
 cases h with
 | fr h=>exact .fr h
 | yj sz=>exact .yj sz
 | own b n cap sz xs cs e vals G hb hh hn hcap hcm hcs hsz hG hD hv hc hone=>exact .own b n cap sz xs cs e vals G (hF b hb) hh hn hcap hcm hcs hsz (fun i j k h=>⟨hF k (hG i j k h).1,(hG i j k h).2⟩) hD hv hc hone
theorem eS.pN {m:Mem} {w:World} {F:Nat→Prop} {v:Value} {l:L} (h:eS m w F v l):v.oneCell'=true:=by
 cases h with
 | fr h=>exact h.pN
 | yj sz=>rfl
 | own=>rfl
def L.fD:Nat→L→L
 | 0,.own _ _=>.any
 | n+1,.own sz xs=>.sl sz (xs.map fun x=>x.map (L.fD n))
 | _,.ptr _ _=>.any
 | _,.dj _ _ _=>.any
 | _,.ref _ _ _=>.any
 | _,.rT _ _=>.any
 | _,l=>l
noncomputable def wU (m:Mem) (w:World) (F:Nat→Prop):Mem:=by
 classical exact fun x=>if F x.block then w.cell? x else m x
theorem C6 {m:Mem} {w:World} {F:Nat→Prop} {x:Addr} (h:F x.block):wU m w F x=w.cell? x:=by
 unfold wU;rw [if_pos h]
theorem AZ {m:Mem} {w:World} {F:Nat→Prop} {x:Addr} (h:¬ F x.block):wU m w F x=m x:=by
 unfold wU;rw [if_neg h]
theorem EO {m:Mem} {w:World} {F:Nat→Prop} (hF:∀x v,m x=some v→¬ F x.block):Mem.le m (wU m w F):=fun x v h=>by
 rw [AZ (hF x v h)];exact h
theorem EP {m:Mem} {w:World} {F:Nat→Prop} (hok:∀x v,m x=some v→w.cell? x=some v):∀x v,wU m w F x=some v→w.cell? x=some v:=fun x v h=>by
 by_cases hx:F x.block
 ·rwa [C6 hx] at h
 ·rw [AZ hx] at h;exact hok x v h
theorem Ci (xs:List (List L)) (f:L→L) (i j:Nat) (u:L) (h:cellOf (xs.map fun x=>x.map f) i j=some u):∃u',cellOf xs i j=some u'∧u=f u':=by
 unfold cellOf at h ⊢
 rw [ql] at h
 cases hx:xs[i]? with
 | none=>rw [hx] at h;simp at h
 | some x =>
  rw [hx] at h
  simp only [dv,dJ,ql,rI] at h
  obtain ⟨u',h1,h2⟩:=h
  exact ⟨u',by simpa using h1,h2.symm⟩
theorem aM.rN {m:Mem} {v:Value} {l:L} (h:aM m v l) (n:Nat):aM m v (l.fD n):=by
 cases l with
 | own=>cases h
 | ptr=>cases h
 | dj=>cases h
 | ref=>cases h
 | rT=>cases h
 | _=>cases n<;>exact h
theorem Dn {w:World} {b:Nat} {cs:Array Value} {e:TypeId} {fr:Nat×Nat} (h:w.heap[b]?=some (.cells cs e fr)) (k:Nat):w.cell? ((⟨b,0,none⟩:Addr).add k)=cs[k]?:=by
 rw [Addr.add_lit]
 simp [World.cell?,h]
theorem block_add (x:Addr) (n:Nat):(x.add n).block=x.block:=by unfold Addr.add;split<;>rfl
theorem eS.rN {m m':Mem} {w:World} {F:Nat→Prop} {v:Value} {l:L} (h:eS m w F v l) (hm:Mem.le m m') (hF:∀x:Addr,F x.block→m' x=w.cell? x):∀n,aM m' v (l.fD n):=by
 induction h with
 | fr h=>exact (h.mono hm).rN
 | yj sz =>
  intro n
  cases n with
  | zero=>exact .any _ rfl
  | succ n=>exact .vK sz
 | own b n cap sz xs cs e vals G hb hh hn hcap hcm hcs hsz hG hD hv _ hone ih =>
  intro d
  cases d with
  | zero=>exact .any _ rfl
  | succ d =>
   refine .sl ⟨b,0,none⟩ n cap sz _ vals (by simpa using hn) hcap (fun x hx=>?_) (fun i j u hu=>?_) (fun i j u hu=>?_)
   ·obtain ⟨y,hy,rfl⟩:=List.mem_map.1 hx
    simpa using hsz y hy
   ·obtain ⟨u',hu',_⟩:=Ci xs (L.fD d) i j u hu
    rw [hF _ (by rw [block_add];exact hb),Dn hh]
    exact hv i j u' hu'
   ·obtain ⟨u',hu',rfl⟩:=Ci xs (L.fD d) i j u hu
    exact ih i j u' hu' (fun x hx=>hF x (hG i j _ hx).1) d
structure zD where
 sT:Option Nat
 cap:Nat
 sz:Nat
structure Wh where
 box:Nat→Nat
 row:Nat→zD
 f:Bool→Nat→Nat→Prop
def tT (ω:Wh) (v:Value):L→Prop
 | .ptr id o=>v=.pointer (some ⟨ω.box id,o,none⟩)
 | .dj id i o=>∃b,(ω.row id).sT=some b∧v=.pointer (some ⟨b,i * (ω.row id).sz+o,none⟩)
 | _=>False
def rk (r:zD) (lo n:Nat) (v:Value):Prop :=
 (r.sT=none∧lo=0∧n=0∧v=.slice none 0 0)∨∃b ad,r.sT=some b∧lo+n≤r.cap∧v=.slice (some ad) n (r.cap - lo)∧(lo<r.cap∨lo=0→ad=⟨b,lo * r.sz,none⟩)
def bi (m:Mem) (ω:Wh) (v:Value):L→Prop
 | .ptr id o=>tT ω v (.ptr id o)
 | .dj id i o=>tT ω v (.dj id i o)
 | .ref id lo n=>rk (ω.row id) lo n v
 | .bD f caps=>∃vs:List Value,v=.func (.func f) #[] vs.toArray∧vs.length=caps.length∧∀(i:Nat) (u:L),caps[i]?=some u→∃x,vs[i]?=some x∧(aM m x u∨tT ω x u)
 | l=>aM m v l
inductive V where
 | one (l:L)
 | agg (ls:List L)
 deriving Inhabited
inductive A where
 | v (x:V)
 | cR (xs:List V)
 deriving Inhabited
def sJ (m:Mem) (ω:Wh) (v:Value):V→Prop
 | .one l=>bi m ω v l
 | .agg ls=>∃cs:Array Value,v=.agg cs∧cs.size=ls.length∧∀(j:Nat) (l:L),ls[j]?=some l→∃u,cs[j]?=some u∧bi m ω u l
def sO (m:Mem) (ω:Wh) (v:Value):A→Prop
 | .v x=>sJ m ω v x
 | .cR xs=>∃vs:Array Value,v=.tuple vs∧vs.size=xs.length∧∀(j:Nat) (x:V),xs[j]?=some x→∃u,vs[j]?=some u∧sJ m ω u x
def wv (w:World) (G:Nat→Prop) (v:Value) (t:TypeId) (l:List UInt8):Prop :=
 (l=[]∧v=.slice none 0 0)∨∃g cap cur,G g∧v=.slice (some ⟨g,0,none⟩) l.length cap∧w.heap[g]?=some (.cells cur t (0,0))∧l.length≤cap∧cap≤maxLen∧cur.size=cap∧cur.toList.take l.length=l.map fun b=>Value.int .u8 b.toNat
theorem wv.keep {w w':World} {G:Nat→Prop} {v:Value} {t:TypeId} {l:List UInt8} (h:wv w G v t l) (hw:∀k,G k→w'.heap[k]?=w.heap[k]?):wv w' G v t l :=
 h.imp (fun h=>h) fun ⟨g,cap,cur,h1,h2,h3,h4⟩=>⟨g,cap,cur,h1,h2,(hw g h1).trans h3,h4⟩
theorem wv.pN {w:World} {G:Nat→Prop} {v:Value} {t:TypeId} {l:List UInt8} (h:wv w G v t l):v.oneCell'=true:=by
 rcases h with ⟨_,rfl⟩|⟨g,cap,cur,_,rfl,_⟩<;>rfl
def sP (m:Mem) (w:World) (ω:Wh) (G:Nat→Prop) (v:Value):L→Prop
 | .own sz xs=>eS m w G v (.own sz xs)
 | .rT t l=>wv w G v t l
 | l=>bi m ω v l
theorem tT.pN {ω:Wh} {v:Value} {l:L} (h:tT ω v l):v.oneCell'=true:=by
 cases l<;>simp only [tT] at h
 ·rw [h];rfl
 ·obtain ⟨b,_,h⟩:=h;rw [h];rfl
theorem bi.pN {m:Mem} {ω:Wh} {v:Value} {l:L} (h:bi m ω v l):v.oneCell'=true:=by
 cases l with
 | ptr id o=>exact tT.pN (l:=.ptr id o) h
 | dj id i o=>exact tT.pN (l:=.dj id i o) h
 | ref id lo n =>
  rcases h with ⟨_,_,_,h⟩|⟨b,ad,_,_,h,_⟩<;>rw [h]<;>rfl
 | bD f caps=>obtain ⟨vs,h,_⟩:=h;rw [h];rfl
 | _=>exact aM.pN (m:=m) h
theorem sP.cases {m:Mem} {w:World} {ω:Wh} {G:Nat→Prop} {v:Value} {l:L} (h:sP m w ω G v l):(∃sz xs,l=.own sz xs∧eS m w G v l)∨((∀sz xs,l≠.own sz xs)∧bi m ω v l)∨∃t q,l=.rT t q∧wv w G v t q:=by
 cases l with
 | own sz xs=>exact .inl ⟨sz,xs,rfl,h⟩
 | rT t q=>exact .inr (.inr ⟨t,q,rfl,h⟩)
 | _=>exact .inr (.inl ⟨fun _ _ e=>(by cases e),h⟩)
theorem sP.pN {m:Mem} {w:World} {ω:Wh} {G:Nat→Prop} {v:Value} {l:L} (h:sP m w ω G v l):v.oneCell'=true:=by
 rcases h.cases with ⟨_,_,_,h⟩|⟨_,h⟩|⟨_,_,_,h⟩
 ·exact h.pN
 ·exact h.pN
 ·exact h.pN
theorem aM.ua {m:Mem} {ω:Wh} {v:Value} {l:L} (h:aM m v l):bi m ω v l:=by
 cases l with
 | ptr=>cases h
 | dj=>cases h
 | ref=>cases h
 | bD f caps =>
  cases h with
  | bD _ _ vs vals hl hm hr=>exact ⟨vs,rfl,hl,fun i u hu=>⟨_,hm i u hu,.inl (hr i u hu)⟩⟩
 | _=>exact h
theorem bi.Cj {m:Mem} {w:World} {ω:Wh} {G:Nat→Prop} {v:Value} {l:L} (h:bi m ω v l):sP m w ω G v l:=by
 cases l with
 | own=>cases h
 | rT=>cases h
 | _=>exact h
def L.dQ:L→L
 | .own _ _=>.any
 | .rT _ _=>.any
 | l=>l
theorem sP.dQ {m:Mem} {w:World} {ω:Wh} {G:Nat→Prop} {v:Value} {l:L} (h:sP m w ω G v l):bi m ω v l.dQ:=by
 cases l with
 | own sz xs=>exact aM.any v (eS.pN (l:=.own sz xs) h)
 | rT t q=>exact aM.any v (wv.pN (t:=t) (l:=q) h)
 | _=>exact h
theorem bi.mono {m m':Mem} {ω:Wh} (hm:Mem.le m m') {v:Value} {l:L} (h:bi m ω v l):bi m' ω v l:=by
 cases l with
 | ptr=>exact h
 | dj=>exact h
 | ref=>exact h
 | bD f caps =>
  obtain ⟨vs,h1,h2,h3⟩:=h
  exact ⟨vs,h1,h2,fun i u hu=>let ⟨x,h4,h5⟩:=h3 i u hu;⟨x,h4,h5.imp (·.mono hm) id⟩⟩
 | _=>exact aM.mono (m:=m) hm h
theorem sJ.mono {m m':Mem} {ω:Wh} {v:Value} {x:V} (hm:Mem.le m m') (h:sJ m ω v x):sJ m' ω v x:=by
 cases x with
 | one l=>exact bi.mono hm h
 | agg ls=>obtain ⟨cs,h1,h2,h3⟩:=h;exact ⟨cs,h1,h2,fun j l hl=>let ⟨u,h4,h5⟩:=h3 j l hl;⟨u,h4,h5.mono hm⟩⟩
theorem sO.mono {m m':Mem} {ω:Wh} {v:Value} {x:A} (hm:Mem.le m m') (h:sO m ω v x):sO m' ω v x:=by
 cases x with
 | v x=>exact sJ.mono hm h
 | cR xs=>obtain ⟨vs,h1,h2,h3⟩:=h;exact ⟨vs,h1,h2,fun j x hx=>let ⟨u,h4,h5⟩:=h3 j x hx;⟨u,h4,h5.mono hm⟩⟩
theorem sP.keep {m m':Mem} {w w':World} {ω:Wh} {G:Nat→Prop} (hm:Mem.le m m') {v:Value} {l:L} (h:sP m w ω G v l) (hw:∀k,G k→w'.heap[k]?=w.heap[k]?):sP m' w' ω G v l:=by
 cases l with
 | own sz xs=>exact eS.keep (l:=.own sz xs) hm h hw
 | rT t q=>exact wv.keep (t:=t) (l:=q) h hw
 | int k n=>exact bi.mono (ω:=ω) (l:=.int k n) hm h
 | bool b=>exact bi.mono (ω:=ω) (l:=.bool b) hm h
 | str b=>exact bi.mono (ω:=ω) (l:=.str b) hm h
 | sl sz xs=>exact bi.mono (ω:=ω) (l:=.sl sz xs) hm h
 | nil sz=>exact bi.mono (ω:=ω) (l:=.nil sz) hm h
 | bD f c=>exact bi.mono (ω:=ω) (l:=.bD f c) hm h
 | fz ls=>exact bi.mono (ω:=ω) (l:=.fz ls) hm h
 | ptr id o=>exact bi.mono (ω:=ω) (l:=.ptr id o) hm h
 | dj id i o=>exact bi.mono (ω:=ω) (l:=.dj id i o) hm h
 | ref id lo n=>exact bi.mono (ω:=ω) (l:=.ref id lo n) hm h
 | any=>exact bi.mono (ω:=ω) (l:=.any) hm h
 | sN=>exact bi.mono (ω:=ω) (l:=.sN) hm h
 | raw v=>exact bi.mono (ω:=ω) (l:=.raw v) hm h
def V.map (g:L→L):V→V
 | .one l=>.one (g l)
 | .agg ls=>.agg (ls.map g)
def A.map (g:L→L):A→A
 | .v x=>.v (x.map g)
 | .cR xs=>.cR (xs.map (V.map g))
theorem sJ.map {m m':Mem} {ω ω':Wh} {g:L→L} (hg:∀v l,bi m ω v l→bi m' ω' v (g l)) {v:Value} {x:V} (h:sJ m ω v x):sJ m' ω' v (x.map g):=by
 cases x with
 | one l=>exact hg _ _ h
 | agg ls =>
  obtain ⟨cs,h1,h2,h3⟩:=h
  refine ⟨cs,h1,by simpa using h2,fun j l hl=>?_⟩
  simp only [ql,rI] at hl
  obtain ⟨l0,h4,rfl⟩:=hl
  obtain ⟨u,h5,h6⟩:=h3 j l0 h4
  exact ⟨u,h5,hg _ _ h6⟩
theorem sO.map {m m':Mem} {ω ω':Wh} {g:L→L} (hg:∀v l,bi m ω v l→bi m' ω' v (g l)) {v:Value} {x:A} (h:sO m ω v x):sO m' ω' v (x.map g):=by
 cases x with
 | v x=>exact sJ.map hg h
 | cR xs =>
  obtain ⟨vs,h1,h2,h3⟩:=h
  refine ⟨vs,h1,by simpa using h2,fun j x hx=>?_⟩
  simp only [ql,rI] at hx
  obtain ⟨x0,h4,rfl⟩:=hx
  obtain ⟨u,h5,h6⟩:=h3 j x0 h4
  exact ⟨u,h5,h6.map hg⟩
def pY {α:Type} (f:Nat→α) (i:Nat) (x:α):Nat→α:=fun j=>if j=i then x else f j
def look {α:Type}:List (Nat×α)→Nat→Option α
 | [],_=>none
 | (t,x)::e,i=>if t=i then some x else look e i
theorem yH {α β:Type} (f:α→β):∀(e:List (Nat×α)) (i:Nat),look (e.map fun p=>(p.1,f p.2)) i=(look e i).map f
 | [],_=>rfl
 | (t,x)::e,i=>by
  simp only [aJ,look]
  split
  ·rfl
  ·exact yH f e i
def del {α:Type} (i:Nat):List (Nat×α)→List (Nat×α)
 | []=>[]
 | (t,x)::e=>if t=i then del i e else (t,x)::del i e
theorem re {α:Type} (i:Nat):∀(e:List (Nat×α)) (j:Nat),look (del i e) j=if j=i then none else look e j
 | [],j=>by simp [del,look]
 | (t,x)::e,j=>by
  simp only [del]
  by_cases ht:t=i
  ·rw [if_pos ht,re i e j]
   by_cases hj:j=i
   ·simp [hj]
   ·rw [if_neg hj,if_neg hj,look,if_neg (by omega)]
  ·rw [if_neg ht,look,re i e j,look]
   by_cases hj:j=i
   ·rw [if_pos hj,if_pos hj,if_neg (by omega)]
   ·rw [if_neg hj,if_neg hj]
def bz {α:Type} (i:Nat) (x:α) (e:List (Nat×α)):List (Nat×α):=(i,x)::del i e
theorem yk {α:Type} (i:Nat) (x:α) (e:List (Nat×α)) (j:Nat):look (bz i x e) j=if j=i then some x else look e j:=by
 simp only [bz,look]
 by_cases h:i=j
 ·rw [if_pos h,if_pos h.symm]
 ·rw [if_neg h,if_neg (fun e=>h e.symm),re,if_neg (fun e=>h e.symm)]
structure aN where
 sz:Nat
 xs:List (List L)
 ov:List (Nat×Nat×L)
def aP:List (Nat×Nat×L)→Nat→Nat→Option L
 | [],_,_=>none
 | (a,b,l)::r,i,j=>if a=i∧b=j then some l else aP r i j
theorem E9 (g:L→L):∀(o:List (Nat×Nat×L)) (i j:Nat),aP (o.map fun p=>(p.1,p.2.1,g p.2.2)) i j=(aP o i j).map g
 | [],_,_=>rfl
 | (a,b,l)::r,i,j=>by
  simp only [aJ,aP]
  split
  ·rfl
  ·exact E9 g r i j
structure St where
 n:Nat
 env:List (Nat×A)
 box:List (Nat×List L)
 row:List (Nat×aN)
def St.put (s:St) (d:Nat) (x:A):St:={s with env:=(d,x)::s.env}
def St.del (s:St) (d:Nat):St:=s.put d (.cR [])
def aN.map (g:L→L) (r:aN):aN:={r with ov:=r.ov.map fun p=>(p.1,p.2.1,g p.2.2)}
def St.map (g:L→L) (s:St):St :=
 {s with env:=s.env.map fun p=>(p.1,p.2.map g),box:=s.box.map fun p=>(p.1,p.2.map g),row:=s.row.map fun p=>(p.1,p.2.map g)}
def St.live (s:St):Bool→Nat→Prop
 | false,id=>(look s.box id).isSome
 | true,id=>(look s.row id).isSome
def zE (m:Mem) (w:World) (ω:Wh) (id:Nat) (ls:List L):Prop :=
 ∃cs e,w.heap[ω.box id]?=some (.cells cs e (0,0))∧cs.size=ls.length∧ω.f false id (ω.box id)∧∃G:Nat→Nat→Prop,(∀j k,G j k→ω.f false id k∧k≠ω.box id)∧(∀j j' k,G j k→G j' k→j=j') ∧
  ∀(j:Nat) (l:L),ls[j]?=some l→∃v,cs[j]?=some v∧sP m w ω (G j) v l
def sQ (m:Mem) (w:World) (ω:Wh) (G:Nat→Prop) (v:Value) (u:L):Option L→Prop
 | some l=>bi m ω v l
 | none=>eS m w G v u
def BZ (cap:Nat) (cs:Array Value) (r:aN):Prop :=
 cap≤maxLen∧(∀l,aP r.ov r.xs.length 0=some l→cap=r.xs.length)∧∀(q:Nat) (v:Value),cs[q]?=some v→v.oneCell'=true
def uo (m:Mem) (w:World) (ω:Wh) (ri:zD) (F:Nat→Prop) (r:aN):Prop :=
 ri.sz=r.sz∧(∀x∈r.xs,x.length=r.sz)∧match ri.sT with
  | none=>r.xs=[]∧ri.cap=0
  | some b=>∃cs e,w.heap[b]?=some (.cells cs e (0,0))∧cs.size=ri.cap * r.sz∧r.xs.length≤ri.cap∧BZ ri.cap cs r∧F b ∧
   ∃G:Nat→Nat→Nat→Prop,(∀i j k,G i j k→F k∧k≠b)∧(∀i j i' j' k,G i j k→G i' j' k→i=i'∧j=j') ∧
    ∀i j u,cellOf r.xs i j=some u→∃v,cs[i * r.sz+j]?=some v∧sQ m w ω (G i j) v u (aP r.ov i j)
def vL (m:Mem) (w:World) (ω:Wh) (id:Nat) (r:aN):Prop:=uo m w ω (ω.row id) (ω.f true id) r
structure uG (F:Nat→Prop) (w w':World):Prop where
 os:w'.os=w.os
 tape:w'.tape=w.tape
 output:w'.output=w.output
 size:w.heap.size≤w'.heap.size
 block:∀k,k<w.heap.size→¬ F k→w'.heap[k]?=w.heap[k]?
structure Home where
 own:Nat→Prop
 box:Nat→Option Nat
 row:Nat→Option zD
instance:CoeFun Home (fun _=>Nat→Prop):=⟨Home.own⟩
structure Rq (F0:Home) (s:St) (ω:Wh):Prop where
 tz:∀id,(F0.box id).isSome∨(F0.row id).isSome→s.n≤id∧1000≤id∧id<2000
 box:∀id b,F0.box id=some b→(look s.box id).isSome→ω.box id=b
 row:∀id b,F0.row id=some b→(look s.row id).isSome→ω.row id=b
structure E' (P:Program) (w:World):Prop where
 pow:(P.globalNamed "internal/strconv.uint64pow10").isSome→w.var? P "internal/strconv.uint64pow10"=some ((List.range 20).map fun i=>Value.int .u64 ((10 ^ i:Nat):Int)).toArray
 Pg:(P.globalNamed "strconv.ErrSyntax").isSome→∃tp p,w.var? P "strconv.ErrSyntax"=some #[.iface tp p]
 yA:(P.globalNamed "strconv.ErrRange").isSome→∃tp p,w.var? P "strconv.ErrRange"=some #[.iface tp p]
def Ep (P:Program) (w:World) (F:Nat→Prop):Prop:=∀w',uG F w w'→E' P w'
structure CI (P:Program) (w0:World) (m0:Mem) (F0:Home) (s:St) (a:Act) (w:World) (m:Mem) (ω:Wh):Prop where
 size:a.tmps.size=s.n
 defers:a.defers=[]
 keeps:uG F0.own w0 w
 qb:Mem.le m0 m
 qc:∀x:Addr,x.block<w0.heap.size→¬ F0 x.block→m x=m0 x
 ok:∀x v,m x=some v→w.cell? x=some v
 env:∀t x,look s.env t=some x→sO m ω (a.tmps.getD t undef) x
 box:∀id ls,look s.box id=some ls→zE m w ω id ls
 row:∀id r,look s.row id=some r→vL m w ω id r
 fresh:∀κ id,s.live κ id→∀k,ω.f κ id k→k<w.heap.size∧(w0.heap.size≤k∨F0 k)∧∀x v,m x=some v→x.block≠k
 apart:∀κ id κ' id',s.live κ id→s.live κ' id'→∀k,ω.f κ id k→ω.f κ' id' k→κ=κ'∧id=id'
 home:Rq F0 s ω
 pL:Ep P w0 F0.own
def ry (P:Program) (w0:World) (m0:Mem) (F0:Home) (s:St) (a:Act) (w:World):Prop:=∃m ω,CI P w0 m0 F0 s a w m ω
end Go.Bw
namespace Go.Bw
open Go.RowKit
section
variable {P:Program} {w0:World} {m0:Mem} {F0:Home} {s s':St} {a:Act} {w w':World} {m m':Mem} {ω ω':Wh}
theorem uG.refl (F:Nat→Prop) (w:World):uG F w w:=⟨rfl,rfl,rfl,br _,fun _ _ _=>rfl⟩
theorem uG.below {F:Nat→Prop} (h:uG F w0 w) (hb:Below w.heap.size w w'):uG F w0 w' :=
 ⟨hb.os.trans h.os,hb.tape.trans h.tape,hb.output.trans h.output,pU h.size hb.size,fun k hk hF=>(hb.block k (wN hk h.size)).trans (h.block k hk hF)⟩
theorem uG.grown {F:Nat→Prop} (h:uG F w0 w) {b:Nat} (hg:w.grownBy w' (some b)) (hb:w0.heap.size≤b∨F b):uG F w0 w' :=
 ⟨hg.os.trans h.os,hg.tape.trans h.tape,hg.output.trans h.output,pU h.size hg.size,fun k hk hF=>(hg.block k (wN hk h.size) (fun e=>by
  injection e with e
  subst e
  rcases hb with hb|hb
  ·omega
  ·exact hF hb)).trans (h.block k hk hF)⟩
theorem Me (hok:∀x v,m x=some v→w.cell? x=some v) {x:Addr} (h:w.heap.size≤x.block):m x=none:=by
 cases hm:m x with
 | none=>rfl
 | some v=>exact absurd (World.block_lt_of_cell? w x (hok x v hm)) (by omega)
theorem zE.keep {id:Nat} {ls:List L} (h:zE m w ω id ls) (hm:Mem.le m m') (hw:∀k,ω.f false id k→w'.heap[k]?=w.heap[k]?):zE m' w' ω id ls:=by
 obtain ⟨cs,e,h1,h2,h3,G,h4,h5,h6⟩:=h
 exact ⟨cs,e,(hw _ h3).trans h1,h2,h3,G,h4,h5,fun j l hj=>let ⟨v,h7,h8⟩:=h6 j l hj;⟨v,h7,h8.keep hm fun k hk=>hw k (h4 j k hk).1⟩⟩
theorem sQ.keep {G:Nat→Prop} {v:Value} {u:L} {o:Option L} (h:sQ m w ω G v u o) (hm:Mem.le m m') (hw:∀k,G k→w'.heap[k]?=w.heap[k]?):sQ m' w' ω G v u o:=by
 cases o with
 | none=>exact eS.keep hm h hw
 | some l=>exact bi.mono hm h
theorem vL.keep {id:Nat} {r:aN} (h:vL m w ω id r) (hm:Mem.le m m') (hw:∀k,ω.f true id k→w'.heap[k]?=w.heap[k]?):vL m' w' ω id r:=by
 obtain ⟨h1,h2,h3⟩:=h
 refine ⟨h1,h2,?_⟩
 split at h3
 ·exact h3
 ·obtain ⟨cs,e,g1,g2,g3,g4,g5,G,g6,g7,g8⟩:=h3
  exact ⟨cs,e,(hw _ g5).trans g1,g2,g3,g4,g5,G,g6,g7,fun i j u hu=>let ⟨v,g9,g10⟩:=g8 i j u hu;⟨v,g9,g10.keep hm fun k hk=>hw k (g6 i j k hk).1⟩⟩
theorem CI.grow (h:CI P w0 m0 F0 s a w m ω) (hb:Below w.heap.size w w') (hm:Mem.le m m')
  (hmo:∀x:Addr,x.block<w.heap.size→m' x=m x) (hok:∀x v,m' x=some v→w'.cell? x=some v):CI P w0 m0 F0 s a w' m' ω where
 size:=h.size
 defers:=h.defers
 keeps:=h.keeps.below hb
 qb:=Mem.le_trans h.qb hm
 qc:=fun x hx hF=>(hmo x (wN hx h.keeps.size)).trans (h.qc x hx hF)
 ok:=hok
 env:=fun t x hx=>(h.env t x hx).mono hm
 box:=fun id ls hl=>(h.box id ls hl).keep hm fun k hk=>hb.block k (h.fresh false id (by show (look s.box id).isSome;rw [hl];rfl) k hk).1
 row:=fun id r hl=>(h.row id r hl).keep hm fun k hk=>hb.block k (h.fresh true id (by show (look s.row id).isSome;rw [hl];rfl) k hk).1
 fresh:=fun κ id hl k hk=>by
  obtain ⟨h1,h2,h3⟩:=h.fresh κ id hl k hk
  refine ⟨wN h1 hb.size,h2,fun x v hx he=>h3 x v ?_ he⟩
  rw [←hmo x (by omega)]
  exact hx
 apart:=h.apart
 home:=h.home
 pL:=h.pL
theorem CI.draw (h:CI P w0 m0 F0 s a w m ω):CI P w0 m0 F0 s a w.drew m ω :=
 h.grow ⟨rfl,rfl,rfl,br _,fun _ _=>rfl⟩ (Mem.le_refl m) (fun _ _=>rfl) (fun x v hx=>h.ok x v hx)
theorem SY (a:Array Value) (d:Nat) (v:Value) (hd:d<a.size) (t:Nat):(a.setIfInBounds d v).getD t undef=if t=d then v else a.getD t undef:=by
 by_cases h:t=d
 ·subst h
  simp [Array.getD,hd]
 ·rw [if_neg h]
  simp only [vt]
  rw [O7 (fun e=>h e.symm)]
theorem CI.put (h:CI P w0 m0 F0 s a w m ω) {d:Nat} {v:Value} {x:A} (hd:d<s.n) (hx:sO m ω v x):CI P w0 m0 F0 (s.put d x) (a.put (some d) v) w m ω where
 size:=by simpa [Act.put,St.put] using h.size
 defers:=h.defers
 keeps:=h.keeps
 qb:=h.qb
 qc:=h.qc
 ok:=h.ok
 env:=fun t y hy=>by
  simp only [Act.put]
  rw [SY _ _ _ (by rw [h.size];exact hd)]
  simp only [St.put,look] at hy
  by_cases ht:d=t
  ·rw [if_pos ht] at hy
   injection hy with hy
   subst hy
   rw [if_pos ht.symm]
   exact hx
  ·rw [if_neg ht] at hy
   rw [if_neg (fun e=>ht e.symm)]
   exact h.env t y hy
 box:=h.box
 row:=h.row
 fresh:=fun κ id hl=>h.fresh κ id (by cases κ<;>exact hl)
 apart:=fun κ id κ' id' hl hl'=>h.apart κ id κ' id' (by cases κ<;>exact hl) (by cases κ'<;>exact hl')
 home:=⟨h.home.tz,h.home.box,h.home.row⟩
 pL:=h.pL
theorem w7 {m:Mem} {ω:Wh}:sO m ω undef (.cR []):=⟨#[],rfl,rfl,fun j x hx=>by simp at hx⟩
structure Au (m m':Mem) (ω ω':Wh) (g:L→L):Prop where
 le:Mem.le m m'
 e:∀v l,bi m ω v l→bi m' ω' v (g l)
 own:∀sz xs,g (.own sz xs)=.own sz xs
 rT:∀t q,g (.rT t q)=.rT t q
theorem sP.sX {g:L→L} (R:Au m m' ω ω' g) {G:Nat→Prop} {v:Value} {l:L} (h:sP m w ω G v l):sP m' w ω' G v (g l):=by
 rcases h.cases with ⟨sz,xs,rfl,h⟩|⟨_,h⟩|⟨t,q,rfl,h⟩
 ·rw [R.own]
  exact eS.keep R.le h fun _ _=>rfl
 ·exact (R.e _ _ h).Cj
 ·rw [R.rT]
  exact h
theorem zE.sX {g:L→L} (R:Au m m' ω ω' g) {id id':Nat} {ls:List L} (h:zE m w ω id ls) (hb:ω'.box id'=ω.box id) (hf:ω'.f false id'=ω.f false id):zE m' w ω' id' (ls.map g):=by
 obtain ⟨cs,e,h1,h2,h3,G,h4,h5,h6⟩:=h
 refine ⟨cs,e,by rw [hb];exact h1,by simpa using h2,by rw [hb,hf];exact h3,G,fun j k hk=>by rw [hb,hf];exact h4 j k hk,h5,fun j l hj=>?_⟩
 simp only [ql,rI] at hj
 obtain ⟨l0,hj,rfl⟩:=hj
 obtain ⟨v,h7,h8⟩:=h6 j l0 hj
 exact ⟨v,h7,h8.sX R⟩
theorem BZ.map {cap:Nat} {cs:Array Value} {r:aN} (g:L→L) (h:BZ cap cs r):BZ cap cs (r.map g):=by
 refine ⟨h.1,fun l hl=>?_,h.2.2⟩
 simp only [aN.map] at hl ⊢
 rw [E9,rI] at hl
 obtain ⟨l0,hl,_⟩:=hl
 exact h.2.1 l0 hl
theorem uo.sX {g:L→L} (R:Au m m' ω ω' g) {ri:zD} {F:Nat→Prop} {r:aN} (h:uo m w ω ri F r):uo m' w ω' ri F (r.map g):=by
 obtain ⟨h1,h2,h3⟩:=h
 refine ⟨h1,h2,?_⟩
 split
 ·rename_i hq
  rw [hq] at h3
  exact h3
 ·rename_i b hq
  rw [hq] at h3
  obtain ⟨cs,e,g1,g2,g3,g4,g5,G,g6,g7,g8⟩:=h3
  refine ⟨cs,e,g1,g2,g3,g4.map g,g5,G,g6,g7,fun i j u hu=>?_⟩
  obtain ⟨v,g9,g10⟩:=g8 i j u hu
  refine ⟨v,g9,?_⟩
  simp only [aN.map]
  rw [E9]
  cases hov:aP r.ov i j with
  | none=>rw [hov] at g10;exact eS.keep R.le g10 fun _ _=>rfl
  | some l=>rw [hov] at g10;exact R.e _ _ g10
theorem vL.sX {g:L→L} (R:Au m m' ω ω' g) {id id':Nat} {r:aN} (h:vL m w ω id r) (hb:ω'.row id'=ω.row id) (hf:ω'.f true id'=ω.f true id):vL m' w ω' id' (r.map g):=by
 unfold vL
 rw [hb,hf]
 exact uo.sX R h
theorem CI.sX (h:CI P w0 m0 F0 s a w m ω) {g:L→L} (R:Au m m' ω ω' g) (hn:s'.n=s.n)
  (henv:∀t x,look s'.env t=some x→∃y,look s.env t=some y∧x=y.map g)
  (hbox:∀id ls,look s'.box id=some ls→∃ls0,look s.box id=some ls0∧ls=ls0.map g∧ω'.box id=ω.box id∧ω'.f false id=ω.f false id)
  (hrow:∀id r,look s'.row id=some r→∃r0,look s.row id=some r0∧r=r0.map g∧ω'.row id=ω.row id∧ω'.f true id=ω.f true id)
  (hok:∀x v,m' x=some v→w.cell? x=some v)
  (hm:∀x,m' x=m x∨((w0.heap.size≤x.block∨F0 x.block)∧∀κ id,s'.live κ id→¬ ω'.f κ id x.block)):CI P w0 m0 F0 s' a w m' ω':=by
 have hlive:∀κ id,s'.live κ id→s.live κ id∧ω'.f κ id=ω.f κ id:=by
  intro κ id hl
  cases κ with
  | false =>
   obtain ⟨ls,hls⟩:=Option.isSome_iff_exists.1 hl
   obtain ⟨ls0,h1,_,_,h2⟩:=hbox id ls hls
   exact ⟨by show (look s.box _).isSome;rw [h1];rfl,h2⟩
  | true =>
   obtain ⟨ls,hls⟩:=Option.isSome_iff_exists.1 hl
   obtain ⟨ls0,h1,_,_,h2⟩:=hrow id ls hls
   exact ⟨by show (look s.row _).isSome;rw [h1];rfl,h2⟩
 refine {size:=hn▸h.size,defers:=h.defers,keeps:=h.keeps,qb:=Mem.le_trans h.qb R.le,qc:=?_,ok:=hok,env:=?_,box:=?_,row:=?_,fresh:=?_,apart:=?_,home:=?_,pL:=h.pL}
 ·intro x hx hF
  rcases hm x with he|⟨he,_⟩
  ·rw [he];exact h.qc x hx hF
  ·rcases he with he|he
   ·omega
   ·exact absurd he hF
 ·intro t x hx
  obtain ⟨y,hy,rfl⟩:=henv t x hx
  exact (h.env t y hy).map R.e
 ·intro id ls hls
  obtain ⟨ls0,h1,rfl,h2,h3⟩:=hbox id ls hls
  exact (h.box _ _ h1).sX R h2 h3
 ·intro id r hr
  obtain ⟨r0,h1,rfl,h2,h3⟩:=hrow id r hr
  exact (h.row _ _ h1).sX R h2 h3
 ·intro κ id hl k hk
  obtain ⟨h1,h2⟩:=hlive κ id hl
  have hk':=hk
  rw [h2] at hk'
  obtain ⟨h3,h4,h5⟩:=h.fresh κ _ h1 k hk'
  refine ⟨h3,h4,fun x v hx he=>?_⟩
  rcases hm x with hmx|⟨_,hmx⟩
  ·exact h5 x v (by rw [←hmx];exact hx) he
  ·exact hmx κ id hl (by rw [he];exact hk)
 ·intro κ id κ' id' hl hl' k hk hk'
  obtain ⟨h1,h2⟩:=hlive κ id hl
  obtain ⟨h1',h2'⟩:=hlive κ' id' hl'
  rw [h2] at hk
  rw [h2'] at hk'
  exact h.apart _ _ _ _ h1 h1' k hk hk'
 ·refine ⟨fun id hid=>hn▸h.home.tz id hid,fun id b hb hl=>?_,fun id b hb hl=>?_⟩
  ·obtain ⟨ls,hls⟩:=Option.isSome_iff_exists.1 hl
   obtain ⟨ls0,h1,_,h2,_⟩:=hbox id ls hls
   rw [h2]
   exact h.home.box id b hb (by rw [h1];rfl)
  ·obtain ⟨ls,hls⟩:=Option.isSome_iff_exists.1 hl
   obtain ⟨ls0,h1,_,h2,_⟩:=hrow id ls hls
   rw [h2]
   exact h.home.row id b hb (by rw [h1];rfl)
theorem CI.weaken (h : CI P w0 m0 F0 s a w m ω) (hn : s'.n = s.n) (he : ∀ t x, look s'.env t = some x → look s.env t = some x)
    (hb : ∀ i ls, look s'.box i = some ls → look s.box i = some ls) (hr : ∀ i r, look s'.row i = some r → look s.row i = some r) : CI P w0 m0 F0 s' a w m ω := by
  have hl : ∀ κ id, s'.live κ id → s.live κ id := by
    intro κ id hl
    cases κ with
    | false => obtain ⟨x, hx⟩ := Option.isSome_iff_exists.1 hl; show (look s.box id).isSome; rw [hb _ _ hx]; rfl
    | true => obtain ⟨x, hx⟩ := Option.isSome_iff_exists.1 hl; show (look s.row id).isSome; rw [hr _ _ hx]; rfl
  exact { size := hn ▸ h.size, defers := h.defers, keeps := h.keeps, qb := h.qb, qc := h.qc, ok := h.ok, env := fun t x hx => h.env t x (he t x hx), box := fun i ls hi => h.box i ls (hb i ls hi), row := fun i r hi => h.row i r (hr i r hi),
          fresh := fun κ id hx => h.fresh κ id (hl κ id hx), apart := fun κ id κ' id' hx hx' => h.apart κ id κ' id' (hl κ id hx) (hl κ' id' hx'),
          home := ⟨fun id hid => hn ▸ h.home.tz id hid, fun id b hb hi => h.home.box id b hb (hl false id hi), fun id b hb hi => h.home.row id b hb (hl true id hi)⟩, pL := h.pL }
theorem CI.H9 (h:CI P w0 m0 F0 s a w m ω) (f:Bool→Nat→Nat→Prop) (hf:∀κ id,s.live κ id→f κ id=ω.f κ id):CI P w0 m0 F0 s a w m {ω with f:=f}:=by
 have hE:∀v l,bi m ω v l→bi m {ω with f:=f} v l:=by
  intro v l hl
  cases l with
  | bD f' caps=>obtain ⟨vs,h1,h2,h3⟩:=hl;exact ⟨vs,h1,h2,fun i u hu=>let ⟨x,h4,h5⟩:=h3 i u hu;⟨x,h4,h5.imp id (fun hp=>by cases u<;>exact hp)⟩⟩
  | _=>exact hl
 have hid:∀x:A,x=x.map id:=by
  intro x
  cases x with
  | v x=>cases x<;>simp [A.map,V.map]
  | cR xs =>
   simp only [A.map]
   congr 1
   have:V.map id=id:=by funext x;cases x<;>simp [V.map]
   rw [this];simp
 refine h.sX (g:=id) ⟨Mem.le_refl m,hE,fun _ _=>rfl,fun _ _=>rfl⟩ rfl (fun t x hx=>⟨x,hx,hid x⟩) (fun i ls hi=>⟨ls,hi,by simp,rfl,hf false i (by show (look s.box i).isSome;rw [hi];rfl)⟩)
  (fun i r hi=>⟨r,hi,by cases r;simp [aN.map],rfl,hf true i (by show (look s.row i).isSome;rw [hi];rfl)⟩) h.ok (fun x=>.inl rfl)
theorem CI.DC (h:CI P w0 m0 F0 s a w m ω) {b:Nat} (hg:w.grownBy w' (some b)) (hb:w0.heap.size≤b∨F0 b) (hno:∀κ id,s.live κ id→¬ ω.f κ id b) (hm:∀x v,m x=some v→x.block≠b):CI P w0 m0 F0 s a w' m ω where
 size:=h.size
 defers:=h.defers
 keeps:=h.keeps.grown hg hb
 qb:=h.qb
 qc:=h.qc
 ok:=fun x v hx=>hg.cell (h.ok x v hx) (fun e=>hm x v hx (by injection e))
 env:=h.env
 box:=fun id ls hl=>by
  have hlive:s.live false id:=by show (look s.box id).isSome;rw [hl];rfl
  exact (h.box id ls hl).keep (Mem.le_refl m) fun k hk=>hg.block k (h.fresh false id hlive k hk).1 (fun e=>by injection e with e;subst e;exact hno _ _ hlive hk)
 row:=fun id ls hl=>by
  have hlive:s.live true id:=by show (look s.row id).isSome;rw [hl];rfl
  exact (h.row id ls hl).keep (Mem.le_refl m) fun k hk=>hg.block k (h.fresh true id hlive k hk).1 (fun e=>by injection e with e;subst e;exact hno _ _ hlive hk)
 fresh:=fun κ id hl k hk=>by
  obtain ⟨h1,h2,h3⟩:=h.fresh κ id hl k hk
  exact ⟨wN h1 hg.size,h2,h3⟩
 apart:=h.apart
 home:=h.home
 pL:=h.pL
theorem CI.wk (h:CI P w0 m0 F0 s a w m ω) (id:Nat) (ls:List L) (hid:look s.box id=none) (hH:∀b,F0.box id=some b→ω.box id=b) (hB:zE m w ω id ls)
  (hf:∀k,ω.f false id k→k<w.heap.size∧(w0.heap.size≤k∨F0 k)∧∀x v,m x=some v→x.block≠k) (hd:∀κ id',s.live κ id'→∀k,ω.f κ id' k→¬ ω.f false id k) :
  CI P w0 m0 F0 {s with box:=(id,ls)::s.box} a w m ω:=by
 have hlive:∀κ i,({s with box:=(id,ls)::s.box}:St).live κ i→(κ=false∧i=id)∨s.live κ i:=by
  intro κ i hl
  cases κ with
  | true=>exact .inr hl
  | false =>
   simp only [St.live,look] at hl
   by_cases hi:id=i
   ·exact .inl ⟨rfl,hi.symm⟩
   ·rw [if_neg hi] at hl;exact .inr hl
 refine {size:=h.size,defers:=h.defers,keeps:=h.keeps,qb:=h.qb,qc:=h.qc,ok:=h.ok,env:=h.env,box:=?_,row:=h.row,fresh:=?_,apart:=?_,home:=⟨h.home.tz,fun i b hb hi=>?_,h.home.row⟩,pL:=h.pL}
 ·intro i ls' hl
  simp only [look] at hl
  by_cases hi:id=i
  ·rw [if_pos hi] at hl;injection hl with hl;subst hl;subst hi;exact hB
  ·rw [if_neg hi] at hl;exact h.box i ls' hl
 ·intro κ i hl k hk
  rcases hlive κ i hl with ⟨rfl,rfl⟩|hl
  ·exact hf k hk
  ·exact h.fresh κ i hl k hk
 ·intro κ i κ' i' hl hl' k hk hk'
  have g1:=hlive κ i hl
  have g2:=hlive κ' i' hl'
  clear hl hl'
  rcases g1 with ⟨rfl,rfl⟩|g1<;>rcases g2 with ⟨rfl,rfl⟩|g2
  ·exact ⟨rfl,rfl⟩
  ·exact absurd hk (hd _ _ g2 k hk')
  ·exact absurd hk' (hd _ _ g1 k hk)
  ·exact h.apart _ _ _ _ g1 g2 k hk hk'
 ·simp only [look] at hi
  by_cases hid':id=i
  ·subst hid';exact hH b hb
  ·rw [if_neg hid'] at hi;exact h.home.box i b hb hi
theorem CI.Av (h:CI P w0 m0 F0 s a w m ω) (id:Nat) (r:aN) (hid:look s.row id=none) (hH:∀b,F0.row id=some b→ω.row id=b) (hB:vL m w ω id r)
  (hf:∀k,ω.f true id k→k<w.heap.size∧(w0.heap.size≤k∨F0 k)∧∀x v,m x=some v→x.block≠k) (hd:∀κ id',s.live κ id'→∀k,ω.f κ id' k→¬ ω.f true id k) :
  CI P w0 m0 F0 {s with row:=(id,r)::s.row} a w m ω:=by
 have hlive:∀κ i,({s with row:=(id,r)::s.row}:St).live κ i→(κ=true∧i=id)∨s.live κ i:=by
  intro κ i hl
  cases κ with
  | false=>exact .inr hl
  | true =>
   simp only [St.live,look] at hl
   by_cases hi:id=i
   ·exact .inl ⟨rfl,hi.symm⟩
   ·rw [if_neg hi] at hl;exact .inr hl
 refine {size:=h.size,defers:=h.defers,keeps:=h.keeps,qb:=h.qb,qc:=h.qc,ok:=h.ok,env:=h.env,box:=h.box,row:=?_,fresh:=?_,apart:=?_,home:=⟨h.home.tz,h.home.box,fun i b hb hi=>?_⟩,pL:=h.pL}
 ·intro i ls' hl
  simp only [look] at hl
  by_cases hi:id=i
  ·rw [if_pos hi] at hl;injection hl with hl;subst hl;subst hi;exact hB
  ·rw [if_neg hi] at hl;exact h.row i ls' hl
 ·intro κ i hl k hk
  rcases hlive κ i hl with ⟨rfl,rfl⟩|hl
  ·exact hf k hk
  ·exact h.fresh κ i hl k hk
 ·intro κ i κ' i' hl hl' k hk hk'
  have g1:=hlive κ i hl
  have g2:=hlive κ' i' hl'
  clear hl hl'
  rcases g1 with ⟨rfl,rfl⟩|g1<;>rcases g2 with ⟨rfl,rfl⟩|g2
  ·exact ⟨rfl,rfl⟩
  ·exact absurd hk (hd _ _ g2 k hk')
  ·exact absurd hk' (hd _ _ g1 k hk)
  ·exact h.apart _ _ _ _ g1 g2 k hk hk'
 ·simp only [look] at hi
  by_cases hid':id=i
  ·subst hid';exact hH b hb
  ·rw [if_neg hid'] at hi;exact h.home.row i b hb hi
def L.fp (id:Nat):L→L
 | .ptr i o=>if i=id then .any else .ptr i o
 | l=>l
def L.dx (id:Nat):L→L
 | .bD f caps=>.bD f (caps.map (L.fp id))
 | l=>l.fp id
def L.fo (id:Nat):L→L
 | .dj i k o=>if i=id then .any else .dj i k o
 | .ref i lo n=>if i=id then .any else .ref i lo n
 | l=>l
def L.aV (id:Nat):L→L
 | .bD f caps=>.bD f (caps.map (L.fo id))
 | l=>l.fo id
theorem Mf {id:Nat} (hb:∀i,i≠id→ω'.box i=ω.box i) (hr:ω'.row=ω.row) {v:Value} {l:L} (h:bi m ω v l):bi m ω' v (l.dx id):=by
 have hP:∀x u,tT ω x u→aM m x (u.fp id)∨tT ω' x (u.fp id):=by
  intro x u hu
  cases u with
  | ptr i o =>
   simp only [L.fp]
   split
   ·exact .inl (.any _ hu.pN)
   ·rename_i hi
    refine .inr ?_
    show x=_
    rw [hb i hi]
    exact hu
  | dj i k o=>exact .inr (by show ∃b,_;rw [hr];exact hu)
  | _=>cases hu
 have hR:∀x u,aM m x u→aM m x (u.fp id):=by
  intro x u hu
  cases u with
  | ptr=>cases hu
  | _=>exact hu
 cases l with
 | ptr i o =>
  rcases hP v (.ptr i o) h with h|h
  ·exact h.ua
  ·simp only [L.dx,L.fp] at h ⊢
   by_cases hi:i=id
   ·rw [if_pos hi] at h;cases h
   ·rw [if_neg hi] at h ⊢;exact h
 | dj i k o=>show ∃b,_;rw [hr];exact h
 | ref i lo n=>show rk (ω'.row i) lo n v;rw [hr];exact h
 | bD f caps =>
  obtain ⟨vs,h1,h2,h3⟩:=h
  refine ⟨vs,h1,by simpa using h2,fun i u hu=>?_⟩
  simp only [ql,rI] at hu
  obtain ⟨u0,hu,rfl⟩:=hu
  obtain ⟨x,h4,h5⟩:=h3 i u0 hu
  refine ⟨x,h4,?_⟩
  rcases h5 with h5|h5
  ·exact .inl (hR _ _ h5)
  ·exact hP _ _ h5
 | _=>exact h
theorem Aw {id:Nat} (hb:∀i,i≠id→ω'.row i=ω.row i) (hr:ω'.box=ω.box) {v:Value} {l:L} (h:bi m ω v l):bi m ω' v (l.aV id):=by
 have hP:∀x u,tT ω x u→aM m x (u.fo id)∨tT ω' x (u.fo id):=by
  intro x u hu
  cases u with
  | dj i k o =>
   simp only [L.fo]
   split
   ·exact .inl (.any _ hu.pN)
   ·rename_i hi
    refine .inr ?_
    show ∃b,_
    rw [hb i hi]
    exact hu
  | ptr i o=>exact .inr (by show x=_;rw [hr];exact hu)
  | _=>cases hu
 have hR:∀x u,aM m x u→aM m x (u.fo id):=by
  intro x u hu
  cases u with
  | dj=>cases hu
  | ref=>cases hu
  | _=>exact hu
 cases l with
 | dj i k o =>
  rcases hP v (.dj i k o) h with h|h
  ·exact h.ua
  ·simp only [L.aV,L.fo] at h ⊢
   by_cases hi:i=id
   ·rw [if_pos hi] at h;cases h
   ·rw [if_neg hi] at h ⊢;exact h
 | ptr i o=>show v=_;rw [hr];exact h
 | ref i lo n =>
  simp only [L.aV,L.fo]
  split
  ·exact aM.any v (bi.pN (ω:=ω) (m:=m) (l:=.ref i lo n) h)
  ·rename_i hi
   show rk (ω'.row i) lo n v
   rw [hb i hi]
   exact h
 | bD f caps =>
  obtain ⟨vs,h1,h2,h3⟩:=h
  refine ⟨vs,h1,by simpa using h2,fun i u hu=>?_⟩
  simp only [ql,rI] at hu
  obtain ⟨u0,hu,rfl⟩:=hu
  obtain ⟨x,h4,h5⟩:=h3 i u0 hu
  refine ⟨x,h4,?_⟩
  rcases h5 with h5|h5
  ·exact .inl (hR _ _ h5)
  ·exact hP _ _ h5
 | _=>exact h
def St.vm (s:St) (id:Nat):St:={s.map (L.dx id) with box:=(Bw.del id s.box).map fun p=>(p.1,p.2.map (L.dx id))}
def St.aV (s:St) (id:Nat):St:={s.map (L.aV id) with row:=(Bw.del id s.row).map fun p=>(p.1,p.2.map (L.aV id))}
theorem rR {α β:Type} {f:α→β} {e:List (Nat×α)} {t:Nat} {x:β} (h:look (e.map fun p=>(p.1,f p.2)) t=some x):∃y,look e t=some y∧x=f y:=by
 rw [yH f] at h
 obtain ⟨y,h1,h2⟩:=Option.map_eq_some_iff.1 h
 exact ⟨y,h1,h2.symm⟩
theorem CI.vm (h:CI P w0 m0 F0 s a w m ω) (id:Nat) (b:Nat) (f:Nat→Prop):CI P w0 m0 F0 (s.vm id) a w m {box:=pY ω.box id b,row:=ω.row,f:=fun κ i=>if κ=false∧i=id then f else ω.f κ i}:=by
 have hdel:∀i ls,look ((Bw.del id s.box).map fun p=>(p.1,p.2.map (L.dx id))) i=some ls→i≠id∧∃ls0,look s.box i=some ls0∧ls=ls0.map (L.dx id):=by
  intro i ls hi
  obtain ⟨y,h1,h2⟩:=rR hi
  rw [re] at h1
  split at h1
  ·cases h1
  ·rename_i hne;exact ⟨hne,y,h1,h2⟩
 refine h.sX (g:=L.dx id) ⟨Mem.le_refl m,fun v l hl=>(by refine Mf (ω:=ω) (fun i hi=>?_) ?_ hl;simp [pY,hi];rfl),fun _ _=>rfl,fun _ _=>rfl⟩ rfl (fun t x hx=>rR hx)
  (fun i ls hi=>?_) (fun i r hi=>?_) h.ok (fun x=>.inl rfl)
 ·obtain ⟨hne,ls0,h1,h2⟩:=hdel i ls hi
  exact ⟨ls0,h1,h2,by simp [pY,hne],by simp [hne]⟩
 ·obtain ⟨r0,h1,h2⟩:=rR hi
  exact ⟨r0,h1,h2,rfl,by simp⟩
theorem CI.aV (h:CI P w0 m0 F0 s a w m ω) (id:Nat) (b:zD) (f:Nat→Prop):CI P w0 m0 F0 (s.aV id) a w m {box:=ω.box,row:=pY ω.row id b,f:=fun κ i=>if κ=true∧i=id then f else ω.f κ i}:=by
 have hdel:∀i ls,look ((Bw.del id s.row).map fun p=>(p.1,p.2.map (L.aV id))) i=some ls→i≠id∧∃ls0,look s.row i=some ls0∧ls=ls0.map (L.aV id):=by
  intro i ls hi
  obtain ⟨y,h1,h2⟩:=rR hi
  rw [re] at h1
  split at h1
  ·cases h1
  ·rename_i hne;exact ⟨hne,y,h1,h2⟩
 refine h.sX (g:=L.aV id) ⟨Mem.le_refl m,fun v l hl=>(by refine Aw (ω:=ω) (fun i hi=>?_) ?_ hl;simp [pY,hi];rfl),fun _ _=>rfl,fun _ _=>rfl⟩ rfl (fun t x hx=>rR hx)
  (fun i ls hi=>?_) (fun i r hi=>?_) h.ok (fun x=>.inl rfl)
 ·obtain ⟨r0,h1,h2⟩:=rR hi
  exact ⟨r0,h1,h2,rfl,by simp⟩
 ·obtain ⟨hne,ls0,h1,h2⟩:=hdel i r hi
  exact ⟨ls0,h1,h2,by simp [pY,hne],by simp [hne]⟩
theorem Mg (s:St) (id:Nat):look (s.vm id).box id=none:=by
 simp only [St.vm]
 rw [yH (List.map (L.dx id)),re,if_pos rfl]
 rfl
theorem Fs (s:St) (id:Nat):look (s.aV id).row id=none:=by
 simp only [St.aV]
 rw [yH (aN.map (L.aV id)),re,if_pos rfl]
 rfl
def St.KJ (s:St) (id:Nat) (ls:List L):St:={s.vm id with box:=(id,ls.map (L.dx id))::(s.vm id).box}
theorem CI.xS (h:CI P w0 m0 F0 s a w m ω) (id:Nat) (hid:id<s.n) (cs:Array Value) (e:TypeId) (ls:List L) (hs:cs.size=ls.length)
  (hr:∀(j:Nat) (l:L),ls[j]?=some l→∃v,cs[j]?=some v∧bi m ω v l) :
  ∃ω',CI P w0 m0 F0 (s.KJ id ls) a (w.alloc (.cells cs e (0,0))) m ω'∧ω'.box id=w.heap.size:=by
 have hb:Below w.heap.size w (w.alloc (.cells cs e (0,0))):=(Below.refl _ w).alloc (br _) _
 have hok:∀x v,m x=some v→(w.alloc (.cells cs e (0,0))).cell? x=some v:=fun x v hx=>by
  rw [World.cell?_alloc_lt w _ x (World.block_lt_of_cell? w x (h.ok x v hx))]
  exact h.ok x v hx
 have h1:=h.grow hb (Mem.le_refl m) (fun _ _=>rfl) hok
 have h2:=h1.vm id w.heap.size (fun k=>k=w.heap.size)
 refine ⟨_,h2.wk id (ls.map (L.dx id)) (Mg s id) (fun b hb=>by have:=(h.home.tz id (.inl (by rw [hb];rfl))).1;omega) ?_ ?_ ?_,by simp [pY]⟩
 ·refine ⟨cs,e,?_,by simpa using hs,by simp [pY],fun _ _=>False,fun j k hk=>hk.elim,fun j j' k hk=>hk.elim,fun j l hj=>?_⟩
  ·simp only [pY,if_true];exact heap_alloc_new w _
  ·have hj':=hj
   simp only [ql,rI] at hj'
   obtain ⟨l0,hj',rfl⟩:=hj'
   obtain ⟨v,h3,h4⟩:=hr j l0 hj'
   refine ⟨v,h3,bi.Cj ?_⟩
   refine Mf (ω:=ω) (fun i hi=>?_) ?_ h4
   ·simp [pY,hi]
   ·rfl
 ·intro k hk
  simp only [true_and,if_true] at hk
  subst hk
  refine ⟨by show _<(w.heap.push _).size;simp,.inl h.keeps.size,fun x v hx he=>?_⟩
  rw [Me h.ok (by omega)] at hx
  cases hx
 ·intro κ id' hl k hk hk'
  simp only [true_and,if_true] at hk'
  subst hk'
  have hne:¬ (κ=false∧id'=id):=by
   rintro ⟨rfl,rfl⟩
   simp only [St.live] at hl
   rw [Mg] at hl
   cases hl
  simp only [if_neg hne] at hk
  have hl':s.live κ id':=by
   cases κ with
   | false =>
    simp only [St.live] at hl ⊢
    obtain ⟨x,hx⟩:=Option.isSome_iff_exists.1 hl
    obtain ⟨y,hy,_⟩:=rR hx
    rw [re] at hy
    split at hy
    ·cases hy
    ·rw [hy];rfl
   | true =>
    simp only [St.live] at hl ⊢
    obtain ⟨x,hx⟩:=Option.isSome_iff_exists.1 hl
    obtain ⟨y,hy,_⟩:=rR hx
    rw [hy];rfl
  have:=(h.fresh κ id' hl' _ hk).1
  omega
end
end Go.Bw
namespace Go.Bw
open Go.RowKit
structure TI where
 size:Nat
 bytes:Nat
 agg:Bool
 elem:Option TypeId
 fields:Option (List (Nat×TypeId))
 bB:Bool
 zero:Option (List L)
def L.Ii:Value→L→Bool
 | .int k n,.int k' n'=>k==k'&&n==n'
 | .bool b,.bool b'=>b==b'
 | .string s,.str s'=>s.data.toList==s'.data.toList
 | .slice none 0 0,.nil _=>true
 | .pointer none,.sN=>true
 | _,_=>false
def Ay:List Value→List L→Bool
 | [],[]=>true
 | v::vs,l::ls=>L.Ii v l&&Ay vs ls
 | _,_=>false
theorem S' {m:Mem} {v:Value} {l:L} (h:L.Ii v l=true):aM m v l:=by
 unfold L.Ii at h
 split at h
 ·simp only [qa,uP] at h
  obtain ⟨rfl,rfl⟩:=h
  exact .int _ _
 ·simp only [uP] at h;subst h;exact .bool _
 ·rename_i s s'
  have:s=s':=by
   obtain ⟨d⟩:=s;obtain ⟨d'⟩:=s'
   have:d.toList=d'.toList:=by simpa using h
   rw [Array.toList_inj.1 this]
  subst this;exact .str _
 ·exact .nil _
 ·exact .sN
 ·cases h
theorem yl {m:Mem}:∀(vs:List Value) (ls:List L),Ay vs ls=true→vs.length=ls.length∧∀(j:Nat) (l:L),ls[j]?=some l→∃v,vs[j]?=some v∧aM m v l
 | [],[],_=>⟨rfl,fun j l h=>by simp at h⟩
 | [],_::_,h=>by simp [Ay] at h
 | _::_,[],h=>by simp [Ay] at h
 | v::vs,l::ls,h=>by
  simp only [Ay,qa] at h
  obtain ⟨h1,h2⟩:=yl (m:=m) vs ls h.2
  refine ⟨by simp [h1],fun j l' hj=>?_⟩
  cases j with
  | zero=>simp only [c8,Option.some.injEq] at hj;subst hj;exact ⟨v,rfl,S' h.1⟩
  | succ j=>exact h2 j l' (by simpa using hj)
def AA:TypeDesc→Bool
 | .struct _|.array _ _=>true
 | _=>false
def Mt:Value→Bool
 | .agg _=>true
 | _=>false
def gM (P:Program) (t:TypeId) (i:TI):Bool :=
 match P.info? t,P.underlying t with
 | some inf,some d =>
  inf.size==i.size&&inf.bytes==i.bytes &&
  AA d==i.agg &&
  (match d with|.string=>true|_=>false)==i.bB &&
  (match i.elem,d with|some e,.slice e'=>e==e'|some _,_=>false|none,.slice _=>false|none,_=>true) &&
  (match i.fields,d with|some l,.struct fs=>fs.toList.map (fun f=>(f.offset,f.type))==l&&fs.toList.all (fun f=>(P.info? f.type).any (·.size != 0))|some _,_=>false|none,.struct _=>false|none,_=>true) &&
  (match i.zero with|none=>true|some ls=>match inf.zero with|some z=>Ay z.cells.toList ls&&Mt z==i.agg|none=>false)
 | _,_=>false
def pR (P:Program) (T:TypeId→Option TI):Prop:=∀t i,T t=some i→gM P t i=true
structure Ta (P:Program) (t:TypeId) (i:TI):Prop where
 info:∃inf,P.info? t=some inf∧inf.size=i.size∧inf.bytes=i.bytes
 agg:∃d,P.underlying t=some d∧AA d=i.agg
 elem:∀e,i.elem=some e→P.underlying t=some (.slice e)
 str:i.bB=true→P.underlying t=some .string
 fields:∀l,i.fields=some l→∃fs:Array Field,P.underlying t=some (.struct fs)∧fs.toList.map (fun f=>(f.offset,f.type))=l∧∀f∈fs.toList,∃inf,P.info? f.type=some inf∧inf.size≠0
 zero:∀ls,i.zero=some ls→∃inf z,P.info? t=some inf∧inf.zero=some z∧Ay z.cells.toList ls=true∧Mt z=i.agg
theorem iM {P:Program} {t:TypeId} {i:TI} (h:gM P t i=true):Ta P t i:=by
 unfold gM at h
 split at h
 ·rename_i inf d hinf hd
  simp only [qa,uP] at h
  obtain ⟨⟨⟨⟨⟨⟨h1,h2⟩,h3⟩,h4⟩,h5⟩,h6⟩,h7⟩:=h
  refine ⟨⟨inf,hinf,h1,h2⟩,⟨d,hd,h3⟩,?_,?_,?_,?_⟩
  ·intro e he
   rw [he] at h5
   split at h5
   ·simp_all
   ·cases h5
   ·cases h5
   ·simp_all
  ·intro hs
   rw [hs] at h4
   split at h4
   ·exact hd
   ·cases h4
  ·intro l hl
   rw [hl] at h6
   split at h6
   ·rename_i l' fs heq1
    simp only [Option.some.injEq] at heq1
    subst heq1
    simp only [qa,uP,zC] at h6
    refine ⟨fs,hd,h6.1,fun f hf=>?_⟩
    have:=h6.2 f hf
    cases hq:P.info? f.type with
    | none=>rw [hq] at this;simp at this
    | some q=>rw [hq] at this;exact ⟨q,rfl,by simpa using this⟩
   ·cases h6
   all_goals simp_all
  ·intro ls hls
   rw [hls] at h7
   simp only at h7
   split at h7
   ·rename_i z hz
    simp only [qa,uP] at h7
    exact ⟨inf,z,hinf,hz,h7.1,h7.2⟩
   ·cases h7
 ·cases h
section
variable {P:Program} {w0:World} {m0:Mem} {s:St} {a:Act} {w:World} {m:Mem} {ω:Wh} {F0:Home} {T:TypeId→Option TI}
def iD (T:TypeId→Option TI) (t:TypeId):Nat:=match T t with|some i=>(match i.elem with|some e=>(match T e with|some j=>j.size|none=>0)|none=>0)|none=>0
def gP (T:TypeId→Option TI) (ty:TypeId):Value→Option A
 | .int k n=>some (.v (.one (.int k n)))
 | .bool b=>some (.v (.one (.bool b)))
 | .string s=>some (.v (.one (.str s)))
 | .slice none 0 0=>some (.v (.one (.nil (iD T ty))))
 | .pointer none=>some (.v (.one .sN))
 | _=>none
def aE (T:TypeId→Option TI) (s:St) (ty:TypeId):Operand→Option A
 | .tmp t=>look s.env t
 | .const c=>gP T ty c
 | .func f=>some (.v (.one (.bD f [])))
 | .global _=>none
theorem iS (h:CI P w0 m0 F0 s a w m ω) {ty:TypeId} {x:Operand} {y:A} (hy:aE T s ty x=some y):sO m ω (a.eval x) y:=by
 cases x with
 | tmp t=>exact h.env t y hy
 | const c =>
  simp only [aE] at hy
  unfold gP at hy
  split at hy<;>first|cases hy|skip
  ·exact aM.int _ _
  ·exact aM.bool _
  ·exact aM.str _
  ·exact aM.nil _
  ·exact aM.sN
 | global g=>cases hy
 | func f =>
  simp only [aE,Option.some.injEq] at hy
  subst hy
  exact ⟨[],rfl,rfl,fun i u hu=>by simp at hu⟩
theorem add_add (x:Addr) (i j:Nat):(x.add i).add j=x.add (i+j):=by
 unfold Addr.add
 by_cases hi:i=0<;>by_cases hj:j=0<;>simp [hi,hj,uX]
theorem vv.drop {ad:Addr} {ls:List L} (h:vv m ad ls) (n:Nat):vv m (ad.add n) (ls.drop n):=fun j u hu=>by
 rw [add_add]
 exact h (n+j) u (by simpa [rJ] using hu)
theorem vv.take {ad:Addr} {ls:List L} (h:vv m ad ls) (n:Nat):vv m ad (ls.take n):=fun j u hu=>h j u (by
 rw [qg] at hu
 split at hu
 ·exact hu
 ·cases hu)
theorem L5 (hok:∀x v,m x=some v→w.cell? x=some v) {ad:Addr} {ls:List L} (h:vv m ad ls) :
  ∃cs:List Value,cs.length=ls.length∧(∀(j:Nat) (v:Value),cs[j]?=some v→w.cell? (ad.add j)=some v)∧∀(j:Nat) (l:L),ls[j]?=some l→∃v,cs[j]?=some v∧aM m v l:=by
 have hex:∀j:Fin ls.length,∃v,m (ad.add j)=some v∧aM m v ls[j]:=fun j=>h j ls[j] (ig j.2)
 refine ⟨List.ofFn fun j=>Classical.choose (hex j),by simp,fun j v hv=>?_,fun j l hl=>?_⟩
 ·rw [JO] at hv
  split at hv
  ·rename_i hj
   injection hv with hv
   subst hv
   exact hok _ _ (XM (hex ⟨j,hj⟩)).1
  ·cases hv
 ·obtain ⟨hj,rfl⟩:=List.getElem?_eq_some_iff.1 hl
  refine ⟨Classical.choose (hex ⟨j,hj⟩),?_,(XM (hex ⟨j,hj⟩)).2⟩
  rw [JO,dif_pos hj]
theorem DM {t:TypeId} {d:TypeDesc} (hd:P.underlying t=some d) (w:World):(isAgg t).run P w=.ok (AA d) w:=by
 unfold isAgg
 simp only [Sem.run_bind,run_underlying hd,Result.andThen_ok]
 cases d<;>rfl
theorem run_sizeOf {t:TypeId} {inf:TypeInfo} (hi:P.info? t=some inf) (w:World):(sizeOf t).run P w=.ok inf.size w:=by
 simp [sizeOf,typeInfo,hi]
def eN (agg:Bool) (ls:List L):Option V:=if agg then some (.agg ls) else match ls with|[l]=>some (.one l)|_=>none
theorem L4 {t:TypeId} {i:TI} (hT:gM P t i=true) {ad:Addr} {cs:List Value} {ls:List L} (hl:cs.length=ls.length) (hs:ls.length=i.size)
  (hc:∀(j:Nat) (v:Value),cs[j]?=some v→w.cell? (ad.add j)=some v) (hr:∀(j:Nat) (l:L),ls[j]?=some l→∃v,cs[j]?=some v∧bi m ω v l) {x:V} (hx:eN i.agg ls=some x) :
  ∃v,(Instr.loadAt t (.pointer (some ad))).run P w=.ok v w∧sJ m ω v x:=by
 have F:=iM hT
 obtain ⟨inf,hinf,hsz,_⟩:=F.info
 obtain ⟨d,hd,hag⟩:=F.agg
 by_cases hg:i.agg=true
 ·rw [hg] at hx hag
  simp only [eN,if_true,Option.some.injEq] at hx
  subst hx
  refine ⟨.agg cs.toArray,?_,⟨cs.toArray,rfl,by simp [hl],fun j l hj=>?_⟩⟩
  ·have hl':=run_loadCells_list (P:=P) w ad cs hc
   rw [hl,hs,←hsz] at hl'
   simp only [Instr.loadAt,Instr.sureAddr,loadVar,Sem.run_bind,Sem.run_pure,Result.andThen_ok,DM hd,hag,if_true,run_sizeOf hinf,hl']
  ·obtain ⟨v,h1,h2⟩:=hr j l hj
   exact ⟨v,by simpa using h1,h2⟩
 ·have hg':i.agg=false:=by simpa using hg
  rw [hg'] at hx hag
  simp only [eN,de,if_false] at hx
  match ls,hx with
  | [l],hx =>
   simp only [Option.some.injEq] at hx
   subst hx
   obtain ⟨v,h1,h2⟩:=hr 0 l rfl
   refine ⟨v,?_,h2⟩
   have h0:=hc 0 v h1
   simp only [Addr.add_zero'] at h0
   simp only [Instr.loadAt,Instr.sureAddr,loadVar,Sem.run_bind,Sem.run_pure,Result.andThen_ok,DM hd,hag,de,if_false,load,Sem.run,h0]
end
end Go.Bw
namespace Go.Bw
open Go.RowKit
section
variable {P:Program} {w0:World} {m0:Mem} {s:St} {a:Act} {w:World} {m:Mem} {ω:Wh} {F0:Home} {T:TypeId→Option TI}
def ym (P:Program) (o:Oper) (a:Act) (w:World) (R:Value→World→Prop):Prop :=
 ∀next Q,(∀v w',R v w'→next (a.put o.dst v) w')→o.wp P a w next Q
theorem sj {o:Oper} {v:Value} {w':World} {R:Value→World→Prop} (h:(execOp a.eval o).run P w=.ok (.value v) w') (hR:R v w'):ym P o a w R:=by
 intro next Q hn
 unfold Oper.wp
 rw [h,Oper.upon_value]
 exact hn v w' hR
theorem My {o:Oper} {w':World} {R:Value→World→Prop} (h:(execOp a.eval o).run P w=.ok .skip w') (hR:R undef w'):ym P o a w R:=by
 intro next Q hn
 unfold Oper.wp
 rw [h,Oper.upon_skip]
 exact hn undef w' hR
theorem ym.mono {o:Oper} {R R':Value→World→Prop} (h:ym P o a w R) (hR:∀v w',R v w'→R' v w'):ym P o a w R' :=
 fun next Q hn=>h next Q fun v w' hv=>hn v w' (hR v w' hv)
def wi (o:Oper):Bool:=match o.op with
 | .move _=>true
 | .assign _=>true
 | .load ..=>true
 | .fieldAddr ..=>true
 | .indexAddr ..=>true
 | .binOp ..=>true
 | .extract ..=>true
 | .build ..=>true
 | .pick ..=>true
 | .unOp ..=>true
 | .slice ..=>true
 | .field ..=>true
 | .index ..=>true
 | .makeFunc ..=>true
 | .nilCheck _=>true
 | .call c=>(match c.callee with
  | .builtin .len=>true
  | _=>false)
 | _=>false
def qh (P:Program) (w0:World) (m0:Mem) (F0:Home) (s:St) (o:Oper) (x:A) (a:Act) (w:World) (ω:Wh):Prop :=
 (ym P o a w fun v w'=>∃m',CI P w0 m0 F0 s a w' m' ω∧sO m' ω v x) ∧
 (wi o=true→∃v m',(execOp a.eval o).run P w=.ok (.value v) w∧CI P w0 m0 F0 s a w m' ω∧sO m' ω v x)
theorem sy {o:Oper} {v:Value} {x:A} (h:CI P w0 m0 F0 s a w m ω) (hrun:(execOp a.eval o).run P w=.ok (.value v) w) (hx:sO m ω v x):qh P w0 m0 F0 s o x a w ω :=
 ⟨sj hrun ⟨m,h,hx⟩,fun _=>⟨v,m,hrun,h,hx⟩⟩
theorem ER {o:Oper} {x:A} (hp:wi o=false) (h:ym P o a w fun v w'=>∃m',CI P w0 m0 F0 s a w' m' ω∧sO m' ω v x):qh P w0 m0 F0 s o x a w ω :=
 ⟨h,fun h'=>by rw [hp] at h';cases h'⟩
def gH (op:BinOp) (k:IntKind) (x y:Int):Option L :=
 match op with
 | .add=>some (.int k (k.wrap (x+y)))
 | .sub=>some (.int k (k.wrap (x - y)))
 | .mul=>some (.int k (k.wrap (x * y)))
 | .eql=>some (.bool (x==y))
 | .neq=>some (.bool (x != y))
 | .lss=>some (.bool (x<y))
 | .leq=>some (.bool (x≤y))
 | .gtr=>some (.bool (x > y))
 | .geq=>some (.bool (x ≥ y))
 | _=>none
def fg (op:BinOp) (x y:ByteArray):Option L :=
 match op with
 | .eql=>some (.bool (x.toList==y.toList))
 | .neq=>some (.bool !(x.toList==y.toList))
 | .lss=>some (.bool (Op.bytesLess x.toList y.toList))
 | .leq=>some (.bool (Op.bytesLess x.toList y.toList||x.toList==y.toList))
 | .gtr=>some (.bool !(Op.bytesLess x.toList y.toList||x.toList==y.toList))
 | .geq=>some (.bool !Op.bytesLess x.toList y.toList)
 | _=>none
def gI (op:BinOp) (x y:ByteArray):Option (Prop×L) :=
 match op with
 | .add=>some (x.size+y.size≤9223372036854775807,.str (x++y))
 | .eql=>(fg .eql x y).map fun l=>(True,l)
 | .neq=>(fg .neq x y).map fun l=>(True,l)
 | .lss=>(fg .lss x y).map fun l=>(True,l)
 | .leq=>(fg .leq x y).map fun l=>(True,l)
 | .gtr=>(fg .gtr x y).map fun l=>(True,l)
 | .geq=>(fg .geq x y).map fun l=>(True,l)
 | _=>none
theorem Tw {op:BinOp} {x y:ByteArray} {p:Prop×L} (h:gI op x y=some p) (hn:op≠.add):(fg op x y).map (fun l=>(True,l))=some p:=by
 cases op<;>first|exact absurd rfl hn|exact h|cases h
def ia (op:BinOp) (k:IntKind) (x y:Int):Option (Prop×L) :=
 match op with
 | .rem=>some (y≠0,.int k (x.tmod y))
 | .quo=>some (y≠0,.int k (k.wrap (x.tdiv y)))
 | _=>none
def gJ (op:BinOp) (x y:Bool):Option Bool :=
 match op with
 | .eql=>some (x==y)
 | .neq=>some !(x==y)
 | _=>none
def gu (op:BinOp) (k:IntKind) (x y:Int):Option (Prop×L) :=
 match op with
 | .shr=>some (0≤y∧y≤k.bits,.int k (x / 2 ^ y.toNat))
 | _=>none
def FF (P:Program) (t:TypeId):Bool:=match P.underlying t with|some .bool=>true|_=>false
def FG (P:Program) (t:TypeId):Bool:=match P.underlying t with|some (.pointer _)=>true|_=>false
def gw (P:Program) (t:TypeId) (op:BinOp) (b:Bool):Option (Prop×L) :=
 match op with
 | .eql=>some (FG P t=true,.bool b)
 | .neq=>some (FG P t=true,.bool !b)
 | _=>none
theorem Mz {t:TypeId} (h:FG P t=true):P.underlying t=some (.pointer (P.pointee t)):=by
 unfold FG at h
 unfold Program.pointee
 split at h
 ·rename_i e he
  rw [he]
 ·cases h
theorem MA {t:TypeId} {op:BinOp} {p:Option Addr} {q:Prop} {l:L} (h:gw P t op p.isNone=some (q,l)) (hq:q):∃v,(binOp op t (.pointer p) (.pointer none)).run P w=.ok v w∧aM m v l:=by
 cases op<;>simp only [gw,Option.some.injEq,Prod.mk.injEq,reduceCtorEq] at h
 ·obtain ⟨rfl,rfl⟩:=h
  exact ⟨_,run_eql_pointer_nil w t p (Mz hq),.bool _⟩
 ·obtain ⟨rfl,rfl⟩:=h
  exact ⟨_,run_neq_pointer_nil w t p (Mz hq),.bool _⟩
def fV (P:Program) (t:TypeId) (op:BinOp):L→L→Option (Prop×L)
 | .int k x,.int k' y=>if k=k' then (match gH op k x y with|some l=>some (True,l)|none=>(match ia op k x y with|some l=>some l|none=>gu op k x y)) else gu op k x y
 | .str x,.str y=>gI op x y
 | .bool x,.bool y=>(gJ op x y).map fun b=>(FF P t=true,.bool b)
 | .fz _,.sN=>gw P t op false
 | .sN,.sN=>gw P t op true
 | _,_=>none
theorem Tx (op:BinOp) (t:TypeId) (k:IntKind) (x y:Int) (l:L) (h:gH op k x y=some l):∃v,(binOp op t (.int k x) (.int k y))=pure v∧aM m v l:=by
 cases op<;>simp only [gH,Option.some.injEq,reduceCtorEq] at h<;>subst h<;>simp only [binOp_add,binOp_sub,binOp_mul,binOp_eql,binOp_neq,binOp_lss,binOp_leq,binOp_gtr,binOp_geq,Op.intArith] <;>
  exact ⟨_,rfl,by first|exact .int _ _|exact .bool _⟩
theorem Ty (op:BinOp) (t:TypeId) (x y:ByteArray) (l:L) (h:fg op x y=some l):∃v,(binOp op t (.string x) (.string y))=pure v∧aM m v l:=by
 cases op<;>simp only [fg,Option.some.injEq,reduceCtorEq] at h<;>subst h<;>simp only [binOp,Op.stringOp]<;>exact ⟨_,rfl,.bool _⟩
theorem Tz {t:TypeId} (h:FF P t=true):P.underlying t=some .bool:=by
 unfold FF at h
 split at h
 ·assumption
 ·cases h
theorem MB {op:BinOp} {t:TypeId} {k k':IntKind} {x y:Int} {p:Prop} {l:L} (h:gu op k x y=some (p,l)) (hp:p):∃v,(binOp op t (.int k x) (.int k' y)).run P w=.ok v w∧aM m v l:=by
 cases op<;>simp only [gu,Option.some.injEq,Prod.mk.injEq,reduceCtorEq] at h
 obtain ⟨rfl,rfl⟩:=h
 refine ⟨.int k (x / 2 ^ y.toNat),?_,.int _ _⟩
 rw [binOp_shr,shift_shr _ _ _ _ hp.1 hp.2]
 rfl
theorem RU {o:Oper} {op:BinOp} {t t':TypeId} {x y:Operand} {l1 l2 l:L} {p:Prop} (ho:o.op=.binOp op t x y t') (h:CI P w0 m0 F0 s a w m ω)
  (hx:aE T s t x=some (.v (.one l1))) (hy:aE T s t y=some (.v (.one l2))) (hb:fV P t op l1 l2=some (p,l)) (hp:p):qh P w0 m0 F0 s o (.v (.one l)) a w ω:=by
 have h1:=iS h hx
 have h2:=iS h hy
 have key:∀u1 u2,bi m ω u1 l1→bi m ω u2 l2→eqGuard op t x y u1 u2=pure ()∧∃v,(binOp op t u1 u2).run P w=.ok v w∧aM m v l:=by
  clear h1 h2
  unfold fV at hb
  split at hb
  ·rename_i k q k' r
   intro u1 u2 h1 h2
   have h1:aM m u1 (.int k q):=h1
   have h2:aM m u2 (.int k' r):=h2
   cases h1;cases h2
   refine ⟨eqGuard_at_int ..,?_⟩
   split at hb
   ·rename_i hk
    subst hk
    split at hb
    ·rename_i l' hl
     simp only [Option.some.injEq,Prod.mk.injEq] at hb
     obtain ⟨_,rfl⟩:=hb
     obtain ⟨v,h3,h4⟩:=Tx (m:=m) op t k q r l' hl
     exact ⟨v,by rw [h3];rfl,h4⟩
    ·split at hb
     ·rename_i l' hl
      simp only [Option.some.injEq] at hb
      subst hb
      cases op<;>simp only [ia,Option.some.injEq,Prod.mk.injEq,reduceCtorEq] at hl
      ·obtain ⟨rfl,rfl⟩:=hl
       refine ⟨.int k (k.wrap (q.tdiv r)),?_,.int _ _⟩
       simp only [binOp_quo,Op.intDiv]
       simp [hp]
      ·obtain ⟨rfl,rfl⟩:=hl
       refine ⟨.int k (q.tmod r),?_,.int _ _⟩
       simp only [binOp_rem,Op.intDiv]
       simp [hp]
     ·exact MB hb hp
   ·exact MB hb hp
  ·rename_i q r
   intro u1 u2 h1 h2
   have h1:aM m u1 (.str q):=h1
   have h2:aM m u2 (.str r):=h2
   cases h1;cases h2
   refine ⟨eqGuard_at_string ..,?_⟩
   by_cases hadd:op=.add
   ·subst hadd
    simp only [gI,Option.some.injEq,Prod.mk.injEq] at hb
    obtain ⟨rfl,rfl⟩:=hb
    refine ⟨.string (q++r),?_,.str _⟩
    have hm:¬ (((q.size+r.size:Nat):Int) > IntKind.i64.max):=by
     have:IntKind.i64.max=9223372036854775807:=by decide
     rw [this]
     omega
    show (Op.stringOp .add q r).run P w=_
    unfold Op.stringOp
    simp only
    rw [if_neg hm]
    rfl
   replace hb:=Tw hb hadd
   cases hs:fg op q r with
   | none=>rw [hs] at hb;simp at hb
   | some l' =>
    rw [hs] at hb
    simp only [dv,Option.some.injEq,Prod.mk.injEq] at hb
    obtain ⟨_,rfl⟩:=hb
    obtain ⟨v,h3,h4⟩:=Ty (m:=m) op t q r l' hs
    exact ⟨v,by rw [h3];rfl,h4⟩
  ·rename_i q r
   intro u1 u2 h1 h2
   have h1:aM m u1 (.bool q):=h1
   have h2:aM m u2 (.bool r):=h2
   cases h1;cases h2
   refine ⟨eqGuard_at_bool ..,?_⟩
   cases hs:gJ op q r with
   | none=>rw [hs] at hb;simp at hb
   | some l' =>
    rw [hs] at hb
    simp only [dv,Option.some.injEq,Prod.mk.injEq] at hb
    obtain ⟨rfl,rfl⟩:=hb
    have hu:=Tz hp
    have he:=run_equal_bool (P:=P) w t q r hu
    cases op<;>simp only [gJ,Option.some.injEq,reduceCtorEq] at hs
    ·subst hs
     exact ⟨.bool (q==r),run_eql_bool (P:=P) w t q r hu,.bool _⟩
    ·subst hs
     refine ⟨.bool !(q==r),?_,.bool _⟩
     show (do pure (Value.bool (!(←Op.equal t (.bool q) (.bool r)))):Sem Value).run P w=_
     simp only [Sem.run_bind,he,Result.andThen_ok,Sem.run_pure]
  ·intro u1 u2 h1 h2
   have h1:aM m u1 (.fz _):=h1
   have h2:aM m u2 .sN:=h2
   cases h1;cases h2
   exact ⟨eqGuard_at_pointer ..,MA (p:=some _) hb hp⟩
  ·intro u1 u2 h1 h2
   have h1:aM m u1 .sN:=h1
   have h2:aM m u2 .sN:=h2
   cases h1;cases h2
   exact ⟨eqGuard_at_pointer ..,MA (p:=none) hb hp⟩
  ·cases hb
 obtain ⟨h0,v,h3,h4⟩:=key _ _ h1 h2
 refine sy h (v:=v) ?_ h4.ua
 unfold execOp
 simp only [ho,h0,Sem.run_bind,Sem.run_pure,Result.andThen_ok,h3]
end
end Go.Bw
namespace Go.Bw
open Go.RowKit
section
variable {P:Program} {w0:World} {m0:Mem} {s:St} {a:Act} {w:World} {m:Mem} {ω:Wh} {F0:Home} {T:TypeId→Option TI}
def dR (i:TI) (ls:List L):Option V:=if i.size≤ls.length then eN i.agg (ls.take i.size) else none
theorem L3 {i:TI} {ls:List L} {x:V} (h:dR i ls=some x):i.size≤ls.length∧eN i.agg (ls.take i.size)=some x:=by
 unfold dR at h
 split at h
 ·exact ⟨by assumption,h⟩
 ·cases h
def dS (ov:List (Nat×Nat×L)) (i:Nat):Nat→List L→List L
 | _,[]=>[]
 | k,l::r=>((aP ov i k).getD l.dQ)::dS ov i (k+1) r
theorem MC (ov:List (Nat×Nat×L)) (i:Nat):∀(k:Nat) (x:List L),(dS ov i k x).length=x.length
 | _,[]=>rfl
 | k,l::r=>by simp [dS,MC ov i (k+1) r]
theorem MD (ov:List (Nat×Nat×L)) (i:Nat):∀(k:Nat) (x:List L) (j:Nat),(dS ov i k x)[j]?=(x[j]?).map fun l=>(aP ov i (k+j)).getD l.dQ
 | _,[],j=>by simp [dS]
 | k,l::r,0=>by simp [dS]
 | k,l::r,j+1=>by
  simp only [dS,dr]
  rw [MD ov i (k+1) r j,show k+1+j=k+(j+1) by omega]
theorem Il {o:Oper} {t:TypeId} {i:TI} {x:Operand} {ad:Addr} {y:V} (ho:o.op=.load t x) (hT:gM P t i=true) (h:CI P w0 m0 F0 s a w m ω) (had:a.eval x=.pointer (some ad)) {cs:List Value} {ls:List L} (hl:cs.length=ls.length)
  (hc:∀(j:Nat) (v:Value),cs[j]?=some v→w.cell? (ad.add j)=some v) (hr:∀(j:Nat) (l:L),ls[j]?=some l→∃v,cs[j]?=some v∧bi m ω v l) (hy:dR i ls=some y):qh P w0 m0 F0 s o (.v y) a w ω:=by
 obtain ⟨hsz,hv⟩:=L3 hy
 obtain ⟨v,h4,h5⟩:=L4 (P:=P) (w:=w) (m:=m) (ω:=ω) hT (ad:=ad) (cs:=cs.take i.size) (ls:=ls.take i.size) (by simp [hl]) (by rw [rV];omega)
  (fun j v hv=>hc j v (by rw [qg] at hv;split at hv;exact hv;cases hv))
  (fun j l hl=>by
   rw [qg] at hl
   split at hl
   ·rename_i hj
    obtain ⟨v,h6,h7⟩:=hr j l hl
    exact ⟨v,by rw [qg,if_pos hj];exact h6,h7⟩
   ·cases hl) hv
 refine sy h (v:=v) ?_ h5
 unfold execOp
 simp only [ho,had,Sem.run_bind,Sem.run_pure,Result.andThen_ok,h4]
theorem RK {o:Oper} {t:TypeId} {i:TI} {x:Operand} {ty:TypeId} {ls:List L} {y:V} (ho:o.op=.load t x) (hT:gM P t i=true) (h:CI P w0 m0 F0 s a w m ω)
  (hx:aE T s ty x=some (.v (.one (.fz ls)))) (hy:dR i ls=some y):qh P w0 m0 F0 s o (.v y) a w ω:=by
 obtain ⟨ad,had,hf⟩:=aM.E8 (iS h hx)
 obtain ⟨cs,h1,h2,h3⟩:=L5 h.ok hf
 exact Il ho hT h had h1 h2 (fun j l hj=>let ⟨v,h4,h5⟩:=h3 j l hj;⟨v,h4,h5.ua⟩) hy
theorem L6 (h:CI P w0 m0 F0 s a w m ω) {id:Nat} {ls:List L} (hb:look s.box id=some ls) (off:Nat) :
  ∃cs:List Value,cs.length=((ls.drop off).map L.dQ).length∧(∀(j:Nat) (v:Value),cs[j]?=some v→w.cell? ((⟨ω.box id,off,none⟩:Addr).add j)=some v) ∧
   ∀(j:Nat) (l:L),((ls.drop off).map L.dQ)[j]?=some l→∃v,cs[j]?=some v∧bi m ω v l:=by
 obtain ⟨cs,e,h1,h2,h3,G,h4,h5,h6⟩:=h.box id ls hb
 refine ⟨cs.toList.drop off,by simp [h2],fun j v hv=>?_,fun j l hl=>?_⟩
 ·rw [Addr.add_lit,cell_of_row w _ _ cs e (0,0) h1]
  simpa [rJ] using hv
 ·rw [ql,rJ,rI] at hl
  obtain ⟨l0,hl,rfl⟩:=hl
  obtain ⟨v,h7,h8⟩:=h6 _ l0 hl
  exact ⟨v,by simpa [rJ] using h7,h8.dQ⟩
theorem RL {o:Oper} {t:TypeId} {i:TI} {x:Operand} {ty:TypeId} {id off:Nat} {ls:List L} {y:V} (ho:o.op=.load t x) (hT:gM P t i=true) (h:CI P w0 m0 F0 s a w m ω)
  (hx:aE T s ty x=some (.v (.one (.ptr id off)))) (hb:look s.box id=some ls) (hy:dR i ((ls.drop off).map L.dQ)=some y):qh P w0 m0 F0 s o (.v y) a w ω:=by
 have had:a.eval x=_:=iS h hx
 obtain ⟨cs,h1,h2,h3⟩:=L6 h hb off
 exact Il ho hT h had h1 h2 h3 hy
theorem LK {xs:List (List L)} {i:Nat} (hi:i<xs.length) (j:Nat):cellOf xs i j=(xs.getD i [])[j]?:=by
 simp [cellOf,List.getD,hi]
theorem L7 (h:CI P w0 m0 F0 s a w m ω) {id:Nat} {r:aN} (hb:look s.row id=some r) {i:Nat} (hi:i<r.xs.length) (off:Nat) :
  ∃b,(ω.row id).sT=some b∧(ω.row id).sz=r.sz∧∃cs:List Value,cs.length=((dS r.ov i 0 (r.xs.getD i [])).drop off).length∧(∀(j:Nat) (v:Value),cs[j]?=some v→w.cell? ((⟨b,i * r.sz+off,none⟩:Addr).add j)=some v) ∧
   ∀(j:Nat) (l:L),((dS r.ov i 0 (r.xs.getD i [])).drop off)[j]?=some l→∃v,cs[j]?=some v∧bi m ω v l:=by
 obtain ⟨h1,h2,h3⟩:=h.row id r hb
 split at h3
 ·rw [h3.1] at hi;simp at hi
 ·rename_i b hblk
  obtain ⟨cs,e,g1,g2,g3,g4,g5,G,g6,g7,g8⟩:=h3
  have hlen:(r.xs.getD i []).length=r.sz:=by
   rw [show r.xs.getD i []=r.xs[i] by simp [List.getD,hi]]
   exact h2 _ (bl hi)
  have hfit:i * r.sz+r.sz≤cs.size:=by
   have:(i+1) * r.sz≤(ω.row id).cap * r.sz:=tj _ (by omega)
   rw [rK] at this
   omega
  refine ⟨b,hblk,h1,(cs.toList.drop (i * r.sz+off)).take (r.sz - off),?_,fun j v hv=>?_,fun j l hl=>?_⟩
  ·simp only [rV,wu,um,MC,hlen]
   omega
  ·rw [qg] at hv
   split at hv
   ·rw [Addr.add_lit,cell_of_row w _ _ cs e (0,0) g1]
    simpa [rJ] using hv
   ·cases hv
  ·rw [rJ,MD,rI] at hl
   obtain ⟨u,hu,rfl⟩:=hl
   have hj:off+j<r.sz:=by rw [←hlen];exact (List.getElem?_eq_some_iff.1 hu).1
   obtain ⟨v,g9,g10⟩:=g8 i (off+j) u (by rw [LK hi];exact hu)
   refine ⟨v,?_,?_⟩
   ·rw [qg,if_pos (by omega),rJ,show i * r.sz+off+j=i * r.sz+(off+j) by omega]
    simpa using g9
   ·simp only [cN]
    cases hov:aP r.ov i (off+j) with
    | some q=>rw [hov] at g10;exact g10
    | none =>
     rw [hov] at g10
     simp only [av]
     have g10:eS m w (G i (off+j)) v u:=g10
     cases g10 with
     | fr hq =>
      cases u with
      | own=>cases hq
      | rT=>cases hq
      | _=>exact hq.ua
     | yj=>exact aM.any _ rfl
     | own=>exact aM.any _ rfl
theorem RM {o:Oper} {t:TypeId} {i:TI} {x:Operand} {ty:TypeId} {id k off:Nat} {r:aN} {y:V} (ho:o.op=.load t x) (hT:gM P t i=true) (h:CI P w0 m0 F0 s a w m ω)
  (hx:aE T s ty x=some (.v (.one (.dj id k off)))) (hb:look s.row id=some r) (hk:k<r.xs.length) (hy:dR i ((dS r.ov k 0 (r.xs.getD k [])).drop off)=some y):qh P w0 m0 F0 s o (.v y) a w ω:=by
 obtain ⟨b,hblk,had⟩:=iS h hx
 obtain ⟨b',hblk',hsz,cs,h1,h2,h3⟩:=L7 h hb hk off
 rw [hblk] at hblk'
 injection hblk' with hbb
 subst hbb
 rw [hsz] at had
 exact Il ho hT h had h1 h2 h3 hy
theorem TC {t:TypeId} {i:TI} {l:List (Nat×TypeId)} {f off:Nat} {ft:TypeId} (hT:gM P t i=true) (hl:i.fields=some l) (hf:l[f]?=some (off,ft)) (ad:Addr) :
  (Instr.fieldAt t (.pointer (some ad)) f).run P w=.ok (.pointer (some (ad.add off))) w:=by
 obtain ⟨fs,h1,h2,h3⟩:=(iM hT).fields l hl
 rw [←h2,ql,rI] at hf
 obtain ⟨fd,hf,he⟩:=hf
 simp only [Prod.mk.injEq] at he
 obtain ⟨rfl,rfl⟩:=he
 obtain ⟨inf,h4,h5⟩:=h3 fd (rX hf)
 have hf':fs[f]?=some fd:=by simpa using hf
 simp only [Instr.fieldAt,Sem.run_bind,run_underlying h1,Result.andThen_ok,hf',Instr.sureAddr,Sem.run_pure,fieldPlace,run_sizeOf h4,if_neg h5]
def fX (i:TI) (f:Nat):Option Nat:=match i.fields with|some l=>(match l[f]? with|some (off,_)=>some off|none=>none)|none=>none
def fQ (n:Nat):L→Option L
 | .fz ls=>some (.fz (ls.drop n))
 | .ptr id o=>some (.ptr id (o+n))
 | .dj id i o=>some (.dj id i (o+n))
 | _=>none
theorem TD {n:Nat} {v:Value} {l l':L} (h:fQ n l=some l') (hv:bi m ω v l):∃ad,v=.pointer (some ad)∧bi m ω (.pointer (some (ad.add n))) l':=by
 cases l<;>simp only [fQ,Option.some.injEq,reduceCtorEq] at h<;>subst h
 ·obtain ⟨ad,h1,h2⟩:=aM.E8 hv
  exact ⟨ad,h1,(h2.drop n).yi⟩
 ·exact ⟨_,hv,by rw [Addr.add_lit];rfl⟩
 ·obtain ⟨b,h1,h2⟩:=hv
  exact ⟨_,h2,b,h1,by rw [Addr.add_lit];simp only [uX]⟩
theorem RN {o:Oper} {t:TypeId} {i:TI} {x:Operand} {ty:TypeId} {f off:Nat} {y z:L} (ho:o.op=.fieldAddr t x f) (hT:gM P t i=true) (h:CI P w0 m0 F0 s a w m ω)
  (hx:aE T s ty x=some (.v (.one y))) (hf:fX i f=some off) (hz:fQ off y=some z):qh P w0 m0 F0 s o (.v (.one z)) a w ω:=by
 obtain ⟨ad,had,hv⟩:=TD hz (iS h hx)
 unfold fX at hf
 split at hf
 ·rename_i l hl
  split at hf
  ·rename_i off' ft hf'
   simp only [Option.some.injEq] at hf
   subst hf
   refine sy h (v:=.pointer (some (ad.add off'))) ?_ hv
   unfold execOp
   simp only [ho,had,Sem.run_bind,Sem.run_pure,Result.andThen_ok,TC hT hl hf']
  ·cases hf
 ·cases hf
theorem RP {o:Oper} {t e:TypeId} {i j:TI} {x y:Operand} {ty ty':TypeId} {sz:Nat} {xs:List (List L)} {k:IntKind} {n:Int} (ho:o.op=.indexAddr t x y) (hT:gM P t i=true)
  (he:i.elem=some e) (hE:gM P e j=true) (hsz:j.size=sz) (h:CI P w0 m0 F0 s a w m ω) (hx:aE T s ty x=some (.v (.one (.sl sz xs)))) (hy:aE T s ty' y=some (.v (.one (.int k n))))
  (h0:0≤n) (h1:n<xs.length):qh P w0 m0 F0 s o (.v (.one (.fz (xs.getD n.toNat [])))) a w ω:=by
 have hu:=(iM hT).elem e he
 obtain ⟨inf,hinf,hs,_⟩:=(iM hE).info
 have hvx:aM m (a.eval x) (.sl sz xs):=iS h hx
 have hvy:aM m (a.eval y) (.int k n):=iS h hy
 generalize hax:a.eval x=u at hvx
 generalize hay:a.eval y=u' at hvy
 cases hvy with
 | int =>
 cases hvx with
 | vK=>simp at h1;omega
 | sl ad len cap _ _ vals hlen hc hz hm hr =>
  have hlt:n.toNat<xs.length:=by omega
  refine sy h (v:=.pointer (some (ad.add (n.toNat * sz)))) ?_ (aM.ua (ω:=ω) (vv.yi fun jj u hu'=>?_))
  ·unfold execOp
   have:n<(len:Int):=by omega
   simp only [ho,hax,hay,Sem.run_bind,Sem.run_pure,Result.andThen_ok,Instr.indexAt,asIntOf,run_underlying hu,run_sizeOf hinf,hs,hsz,h0,this,and_self,if_true]
  ·have hget:xs.getD n.toNat []=xs[n.toNat]:=by simp [List.getD,hlt]
   rw [hget] at hu'
   have hc':cellOf xs n.toNat jj=some u:=by simp [cellOf,ig hlt,hu']
   rw [add_add]
   exact ⟨_,hm _ _ _ hc',hr _ _ _ hc'⟩
theorem RQ {o:Oper} {t e:TypeId} {i j:TI} {x y:Operand} {ty ty':TypeId} {id lo q:Nat} {r:aN} {k:IntKind} {n:Int} (ho:o.op=.indexAddr t x y) (hT:gM P t i=true)
  (he:i.elem=some e) (hE:gM P e j=true) (h:CI P w0 m0 F0 s a w m ω) (hx:aE T s ty x=some (.v (.one (.ref id lo q)))) (hb:look s.row id=some r) (hsz:j.size=r.sz) (hy:aE T s ty' y=some (.v (.one (.int k n))))
  (h0:0≤n) (h1:n<q):qh P w0 m0 F0 s o (.v (.one (.dj id (lo+n.toNat) 0))) a w ω:=by
 have hu:=(iM hT).elem e he
 obtain ⟨inf,hinf,hs,_⟩:=(iM hE).info
 have hvx:rk (ω.row id) lo q (a.eval x):=iS h hx
 have hvy:aM m (a.eval y) (.int k n):=iS h hy
 generalize hax:a.eval x=u at hvx
 generalize hay:a.eval y=u' at hvy
 cases hvy with
 | int =>
 have hrs:=(h.row id r hb).1
 rcases hvx with ⟨_,_,rfl,_⟩|⟨b,ad,g1,g2,rfl,g4⟩
 ·simp at h1;omega
 ·have had:=g4 (.inl (by omega))
  subst had
  refine sy h (v:=.pointer (some ((⟨b,lo * (ω.row id).sz,none⟩:Addr).add (n.toNat * r.sz)))) ?_ ?_
  ·unfold execOp
   simp only [ho,hax,hay,Sem.run_bind,Sem.run_pure,Result.andThen_ok,Instr.indexAt,asIntOf,run_underlying hu,run_sizeOf hinf,hs,hsz,h0,h1,and_self,if_true]
  ·refine ⟨b,g1,?_⟩
   rw [Addr.add_lit,hrs,rK,eJ]
def cY (T:TypeId→Option TI) (s:St) (ty:TypeId) (dflt:Nat):Option Operand→Option Int
 | none=>some dflt
 | some x=>match aE T s ty x with|some (.v (.one (.int _ n)))=>some n|_=>none
def DO (a:Act) (dflt:Nat) (q:Int):Option Operand→Prop
 | none=>q=dflt
 | some z=>∃k,a.eval z=.int k q
theorem xd (h:CI P w0 m0 F0 s a w m ω) {ty:TypeId} {d:Nat} {x:Option Operand} {q:Int} (hq:cY T s ty d x=some q):DO a d q x:=by
 cases x with
 | none=>simp only [cY,Option.some.injEq] at hq;exact hq.symm
 | some z =>
  simp only [cY] at hq
  split at hq
  ·rename_i k n hz
   simp only [Option.some.injEq] at hq
   subst hq
   have hv:aM m (a.eval z) (.int k n):=iS h hz
   refine ⟨k,?_⟩
   generalize a.eval z=u at hv
   cases hv
   rfl
  ·cases hq
theorem run_sliceBound {k:IntKind} {n:Int} {y:Nat} {code:BoundsCode} (h0:0≤n) (h1:n≤y):(Instr.sliceBound (.int k n) y code).run P w=.ok n.toNat w:=by
 simp [Instr.sliceBound,asIntOf,h0,h1]
theorem ME {lo hi:Option Operand} {len cap:Nat} {isS:Bool} {l h:Int} (hl:DO a 0 l lo) (hh:DO a len h hi) (h0:0≤l) (h1:l≤h) (h2:h≤cap) :
  (Instr.sliceBounds isS len cap (lo.map a.eval) (hi.map a.eval) none).run P w=.ok (l.toNat,h.toNat,cap) w:=by
 unfold Instr.sliceBounds
 cases hi with
 | none =>
  have hh:h=len:=hh
  cases lo with
  | none =>
   have hl:l=(0:Nat):=hl
   simp only [Cf,Sem.run_bind,Sem.run_pure,Result.andThen_ok,hh,hl,bG]
  | some z =>
   obtain ⟨k,hz⟩:=hl
   simp only [Cf,dv,hz,HK,de,if_false,Sem.run_bind,Sem.run_pure,Result.andThen_ok]
   rw [run_sliceBound h0 (by omega)]
   simp only [Result.andThen_ok,hh,bG]
 | some z2 =>
  obtain ⟨k2,hz2⟩:=hh
  cases lo with
  | none =>
   have hl:l=(0:Nat):=hl
   simp only [Cf,dv,hz2,Sem.run_bind,Sem.run_pure,Result.andThen_ok]
   rw [run_sliceBound (by omega) h2]
   simp only [Result.andThen_ok,hl,bG]
  | some z =>
   obtain ⟨k,hz⟩:=hl
   simp only [Cf,dv,hz,hz2,HK,de,if_false,Sem.run_bind,Sem.run_pure,Result.andThen_ok]
   rw [run_sliceBound (by omega) h2]
   simp only [Result.andThen_ok]
   rw [run_sliceBound h0 (by omega)]
   simp only [Result.andThen_ok]
theorem FH {o:Oper} {t e:TypeId} {inf:TypeInfo} {x:Operand} {lo hi:Option Operand} {A:Option Addr} {len cap:Nat} {l h:Int} (ho:o.op=.slice t x lo hi none) (hu:P.underlying t=some (.slice e)) (hinf:P.info? e=some inf) (hax:a.eval x=.slice A len cap)
  (hl:DO a 0 l lo) (hh:DO a len h hi) (h0:0≤l) (h1:l≤h) (h2:h≤cap) :
  (execOp a.eval o).run P w=.ok (.value (.slice (if cap=l.toNat then A else A.map (·.add (l.toNat * inf.size))) (h.toNat - l.toNat) (cap - l.toNat))) w:=by
 unfold execOp
 simp only [ho,hax,Cf,Sem.run_bind,Instr.sliceAt,run_underlying hu,Result.andThen_ok,Instr.slice]
 rw [ME (P:=P) (w:=w) hl hh h0 h1 h2]
 simp only [Result.andThen_ok,Sem.run_bind,run_sizeOf hinf,Sem.run_pure]
theorem TE {v:Value} {sz:Nat} {xs:List (List L)} (hv:aM m v (.sl sz xs)) (l h':Nat) (hl:l≤h') (hh:h'≤xs.length) :
  ∃A n c,v=.slice A n c∧n=xs.length∧n≤c∧aM m (.slice (if c=l then A else A.map (·.add (l * sz))) (h' - l) (c - l)) (.sl sz ((xs.take h').drop l)):=by
 cases hv with
 | vK =>
  refine ⟨none,0,0,rfl,rfl,br _,?_⟩
  simp at hh
  have:l=0:=by omega
  subst this
  subst hh
  simp
  exact .vK _
 | sl ad len cap _ _ vals hlen hc hz hm hr =>
  refine ⟨some ad,len,cap,rfl,hlen,hc,?_⟩
  have hlen':((xs.take h').drop l).length=h' - l:=by simp;omega
  by_cases hcl:cap=l
  ·rw [if_pos hcl]
   have h0:h' - l=0:=by omega
   have hnil:(xs.take h').drop l=[]:=Al (by omega)
   rw [hnil,h0]
   exact .sl ad 0 _ sz [] vals rfl (bg _) (fun x hx=>by cases hx) (fun i j u hu=>by simp [cellOf] at hu) (fun i j u hu=>by simp [cellOf] at hu)
  ·rw [if_neg hcl]
   have hcell:∀i j u,cellOf ((xs.take h').drop l) i j=some u→cellOf xs (l+i) j=some u:=by
    intro i j u hu
    unfold cellOf at hu ⊢
    rw [rJ,qg] at hu
    split at hu
    ·exact hu
    ·simp at hu
   refine .sl (ad.add (l * sz)) (h' - l) (cap - l) sz _ (fun i j=>vals (l+i) j) hlen'.symm (by omega) (fun x hx=>hz x (tv (zB hx))) (fun i j u hu=>?_) (fun i j u hu=>hr _ _ _ (hcell i j u hu))
   have:=hm _ _ _ (hcell i j u hu)
   rw [add_add,show l * sz+(i * sz+j)=(l+i) * sz+j from by rw [rK];omega]
   exact this
theorem RF {o:Oper} {t e:TypeId} {i j:TI} {x:Operand} {lo hi:Option Operand} {sz:Nat} {xs:List (List L)} {l hh:Int} (ho:o.op=.slice t x lo hi none) (hT:gM P t i=true)
  (he:i.elem=some e) (hE:gM P e j=true) (hsz:j.size=sz) (h:CI P w0 m0 F0 s a w m ω) (hx:aE T s t x=some (.v (.one (.sl sz xs))))
  (hl:cY T s t 0 lo=some l) (hhi:cY T s t xs.length hi=some hh) (h0:0≤l) (h1:l≤hh) (h2:hh≤xs.length) :
  qh P w0 m0 F0 s o (.v (.one (.sl sz ((xs.take hh.toNat).drop l.toNat)))) a w ω:=by
 have hu:=(iM hT).elem e he
 obtain ⟨inf,hinf,hs,_⟩:=(iM hE).info
 obtain ⟨A,n,c,hax,hn,hnc,hrep⟩:=TE (m:=m) (iS h hx) l.toNat hh.toNat (by omega) (by omega)
 rw [←hn] at hhi
 refine sy h (FH ho hu hinf hax (xd h hl) (xd h hhi) h0 h1 (by omega)) ?_
 rw [hs,hsz]
 exact hrep
theorem RH {o:Oper} {t e:TypeId} {i j:TI} {x:Operand} {lo hi:Option Operand} {id b0 q:Nat} {r:aN} {l hh:Int} (ho:o.op=.slice t x lo hi none) (hT:gM P t i=true)
  (he:i.elem=some e) (hE:gM P e j=true) (h:CI P w0 m0 F0 s a w m ω) (hx:aE T s t x=some (.v (.one (.ref id b0 q)))) (hb:look s.row id=some r) (hsz:j.size=r.sz)
  (hl:cY T s t 0 lo=some l) (hhi:cY T s t q hi=some hh) (h0:0≤l) (h1:l≤hh) (h2:hh≤q∨(hh≤r.xs.length - b0∧b0≤r.xs.length)) :
  qh P w0 m0 F0 s o (.v (.one (.ref id (b0+l.toNat) (hh.toNat - l.toNat)))) a w ω:=by
 have hu:=(iM hT).elem e he
 obtain ⟨inf,hinf,hs,_⟩:=(iM hE).info
 have hvx:rk (ω.row id) b0 q (a.eval x):=iS h hx
 obtain ⟨hrs,_,hrow⟩:=h.row id r hb
 generalize hax:a.eval x=u at hvx
 rcases hvx with ⟨g0,rfl,rfl,rfl⟩|⟨b,ad,g1,g2,rfl,g4⟩
 ·rw [g0] at hrow
  have hx0:r.xs.length=0:=by rw [hrow.1];rfl
  have hh0:hh=0:=by omega
  have hl0:l=0:=by omega
  subst hh0 hl0
  refine sy h (FH ho hu hinf hax (xd h hl) (xd h hhi) (AL 0) (AL 0) (AL 0)) ?_
  exact .inl ⟨g0,rfl,rfl,rfl⟩
 ·rw [g1] at hrow
  obtain ⟨cs,e',k1,k2,k3,k4,_⟩:=hrow
  have hcap:hh.toNat≤(ω.row id).cap - b0:=by omega
  refine sy h (FH ho hu hinf hax (xd h hl) (xd h hhi) h0 h1 (by omega)) ?_
  refine .inr ⟨b,if (ω.row id).cap - b0=l.toNat then ad else ad.add (l.toNat * inf.size),g1,by omega,?_,fun hlt=>?_⟩
  ·rw [Nat.sub_sub]
   congr 1
   split<;>simp
  ·by_cases hc:(ω.row id).cap - b0=l.toNat
   ·rw [if_pos hc]
    have:b0+l.toNat=0:=by omega
    have hb0:b0=0:=by omega
    have hl0:l.toNat=0:=by omega
    rw [hl0,eJ]
    exact g4 (.inr hb0)
   ·rw [if_neg hc,g4 (.inl (by omega)),Addr.add_lit,hs,hsz,hrs,rK]
theorem RG {o:Oper} {t e:TypeId} {i j:TI} {x:Operand} {lo hi:Option Operand} {sz:Nat} {l hh:Int} (ho:o.op=.slice t x lo hi none) (hT:gM P t i=true)
  (he:i.elem=some e) (hE:gM P e j=true) (h:CI P w0 m0 F0 s a w m ω) (hx:aE T s t x=some (.v (.one (.nil sz))))
  (hl:cY T s t 0 lo=some l) (hhi:cY T s t 0 hi=some hh) (h0:0≤l) (h1:l≤hh) (h2:hh≤0) :
  qh P w0 m0 F0 s o (.v (.one (.nil sz))) a w ω:=by
 have hu:=(iM hT).elem e he
 obtain ⟨inf,hinf,hs,_⟩:=(iM hE).info
 have hv:aM m (a.eval x) (.nil sz):=iS h hx
 generalize hax:a.eval x=u at hv
 cases hv
 have hh0:hh=0:=by omega
 have hl0:l=0:=by omega
 subst hh0 hl0
 refine sy h (FH ho hu hinf hax (xd h hl) (xd h hhi) (AL 0) (AL 0) (AL 0)) ?_
 exact aM.nil sz
def nL:L→Option Nat
 | .sl _ xs=>some xs.length
 | .ref _ _ q=>some q
 | .nil _=>some 0
 | _=>none
theorem RZ {o:Oper} {t e:TypeId} {i j:TI} {x:Operand} {lo hi:Option Operand} {z:Operand} {v1:L} {n:Nat} {l hh mx:Int} (ho:o.op=.slice t x lo hi (some z)) (hT:gM P t i=true)
  (he:i.elem=some e) (hE:gM P e j=true) (h:CI P w0 m0 F0 s a w m ω) (hx:aE T s t x=some (.v (.one v1))) (hn:nL v1=some n)
  (hl:cY T s t 0 lo=some l) (hhi:cY T s t n hi=some hh) (hhs:hi.isSome=true) (hmx:cY T s t 0 (some z)=some mx) (h0:0≤l) (h1:l≤hh) (h2:hh≤mx) (h3:mx≤n) :
  qh P w0 m0 F0 s o (.v (.one .any)) a w ω:=by
 have hu:=(iM hT).elem e he
 obtain ⟨inf,hinf,hs,_⟩:=(iM hE).info
 have hv:=iS h hx
 have hsl:∃A c,a.eval x=.slice A n c∧n≤c:=by
  generalize a.eval x=u at hv
  cases v1<;>simp only [nL,Option.some.injEq,reduceCtorEq] at hn
  ·subst hn
   have hv:aM m u (.sl _ _):=hv
   cases hv with
   | vK=>exact ⟨none,0,rfl,br _⟩
   | sl ad len cap _ _ vals hlen hc=>subst hlen;exact ⟨some ad,cap,rfl,hc⟩
  ·subst hn
   have hv:aM m u (.nil _):=hv
   cases hv
   exact ⟨none,0,rfl,br _⟩
  ·subst hn
   rcases hv with ⟨_,_,rfl,rfl⟩|⟨b,ad,_,g2,rfl,_⟩
   ·exact ⟨none,0,rfl,br _⟩
   ·exact ⟨some ad,_,rfl,by omega⟩
 obtain ⟨A,c,hax,hnc⟩:=hsl
 obtain ⟨kz,hz⟩:=xd h hmx
 have hbl:=xd h hl
 have hbh:=xd h hhi
 obtain ⟨zh,rfl⟩:=Option.isSome_iff_exists.1 hhs
 obtain ⟨kh,hzh⟩:=hbh
 refine sy h (v:=.slice (if mx.toNat=l.toNat then A else A.map (·.add (l.toNat * inf.size))) (hh.toNat - l.toNat) (mx.toNat - l.toNat)) ?_ (aM.any _ rfl)
 have hb:(Instr.sliceBounds true n c (lo.map a.eval) (some (.int kh hh)) (some (.int kz mx))).run P w=.ok (l.toNat,hh.toNat,mx.toNat) w:=by
  unfold Instr.sliceBounds
  simp only [Sem.run_bind,if_true,gU]
  rw [run_sliceBound (by omega) (by omega)]
  simp only [Result.andThen_ok]
  rw [run_sliceBound (by omega) (by omega)]
  simp only [Result.andThen_ok]
  cases lo with
  | none =>
   have hbl:l=(0:Nat):=hbl
   simp only [Cf,Sem.run_bind,Sem.run_pure,Result.andThen_ok,hbl,bG]
  | some zl =>
   obtain ⟨kl,hzl⟩:=hbl
   simp only [dv,hzl,Sem.run_bind]
   rw [run_sliceBound h0 (by omega)]
   simp only [Result.andThen_ok,Sem.run_pure]
 unfold execOp
 simp only [ho,hax,dv,hzh,hz,Sem.run_bind,Instr.sliceAt,run_underlying hu,Result.andThen_ok,Instr.slice]
 rw [hb]
 simp only [Result.andThen_ok,Sem.run_bind,run_sizeOf hinf,Sem.run_pure]
theorem RE {o:Oper} {t:TypeId} {i:TI} {x:Operand} {lo hi:Option Operand} {q:ByteArray} {l hh:Int} (ho:o.op=.slice t x lo hi none) (hT:gM P t i=true)
  (hs:i.bB=true) (h:CI P w0 m0 F0 s a w m ω) (hx:aE T s t x=some (.v (.one (.str q))))
  (hl:cY T s t 0 lo=some l) (hhi:cY T s t q.size hi=some hh) (h0:0≤l) (h1:l≤hh) (h2:hh≤q.size) :
  qh P w0 m0 F0 s o (.v (.one (.str (q.extract l.toNat hh.toNat)))) a w ω:=by
 have hu:=(iM hT).str hs
 have hv:aM m (a.eval x) (.str q):=iS h hx
 generalize hax:a.eval x=u at hv
 cases hv
 refine sy h (v:=.string (q.extract l.toNat hh.toNat)) ?_ (aM.str _)
 unfold execOp
 simp only [ho,hax,Cf,Sem.run_bind,Instr.sliceAt,run_underlying hu,Result.andThen_ok,Instr.slice,HK,de,if_false,Sem.run_pure]
 rw [ME (P:=P) (w:=w) (xd h hl) (xd h hhi) h0 h1 h2]
 simp only [Result.andThen_ok]
end
end Go.Bw
namespace Go.Bw
open Go.RowKit
section
variable {P:Program} {w0:World} {m0:Mem} {s:St} {a:Act} {w:World} {m:Mem} {ω:Wh} {F0:Home} {T:TypeId→Option TI}
theorem LQ {o:Oper} {x:Operand} {y:A} (ho:o.op=.move x) (h:CI P w0 m0 F0 s a w m ω) (hx:aE T s o.type x=some y):qh P w0 m0 F0 s o y a w ω :=
 sy h (v:=a.eval x) (by unfold execOp;simp only [ho,Sem.run_pure]) (iS h hx)
theorem LR {o:Oper} {x:Operand} {y:A} (ho:o.op=.assign x) (h:CI P w0 m0 F0 s a w m ω) (hx:aE T s o.type x=some y):qh P w0 m0 F0 s o y a w ω :=
 sy h (v:=a.eval x) (by unfold execOp;simp only [ho,Sem.run_pure]) (iS h hx)
theorem Fm {x:Operand} {b:Bool} {ty:TypeId} (h:CI P w0 m0 F0 s a w m ω) (hx:aE T s ty x=some (.v (.one (.bool b)))):a.eval x=.bool b:=by
 have h1:aM m (a.eval x) (.bool b):=iS h hx
 generalize a.eval x=u at h1
 cases h1
 rfl
theorem BE {x:Operand} {k:IntKind} {n:Int} {ty:TypeId} (h:CI P w0 m0 F0 s a w m ω) (hx:aE T s ty x=some (.v (.one (.int k n)))):a.eval x=.int k n:=by
 have h1:aM m (a.eval x) (.int k n):=iS h hx
 generalize a.eval x=u at h1
 cases h1
 rfl
theorem MF {x:Operand} {q:ByteArray} {ty:TypeId} (h:CI P w0 m0 F0 s a w m ω) (hx:aE T s ty x=some (.v (.one (.str q)))):a.eval x=.string q:=by
 have h1:aM m (a.eval x) (.str q):=iS h hx
 generalize a.eval x=u at h1
 cases h1
 rfl
theorem RI {o:Oper} {c x y:Operand} {ty:TypeId} {b:Bool} {z:A} (ho:o.op=.pick c x y) (h:CI P w0 m0 F0 s a w m ω) (hc:aE T s ty c=some (.v (.one (.bool b))))
  (hz:aE T s o.type (if b then x else y)=some z):qh P w0 m0 F0 s o z a w ω:=by
 have hac:=Fm h hc
 refine sy h (v:=a.eval (if b then x else y)) ?_ (iS h hz)
 unfold execOp
 simp only [ho,hac,Sem.run_bind,asBool,Sem.run_pure,Result.andThen_ok]
 cases b<;>rfl
theorem RJ {o:Oper} {t:TypeId} {x:Operand} {ty:TypeId} {b:Bool} (ho:o.op=.unOp .not t x) (h:CI P w0 m0 F0 s a w m ω) (hx:aE T s ty x=some (.v (.one (.bool b)))) :
  qh P w0 m0 F0 s o (.v (.one (.bool !b))) a w ω:=by
 have hac:=Fm h hx
 refine sy h (v:=.bool !b) ?_ (aM.bool _)
 unfold execOp
 simp only [ho,hac,Op.unary,Sem.run_bind,Sem.run_pure,Result.andThen_ok]
theorem Se {o:Oper} {t:TypeId} {x:Operand} {ty:TypeId} {k:IntKind} {n:Int} (ho:o.op=.unOp .neg t x) (h:CI P w0 m0 F0 s a w m ω) (hx:aE T s ty x=some (.v (.one (.int k n)))) :
  qh P w0 m0 F0 s o (.v (.one (.int k (k.wrap (0 - n))))) a w ω:=by
 have hac:=BE h hx
 refine sy h (v:=.int k (k.wrap (0 - n))) ?_ (aM.int _ _)
 unfold execOp
 simp only [ho,hac,Op.unary,Op.intArith,Sem.run_bind,Sem.run_pure,Result.andThen_ok]
def fZ:L→Option Int
 | .sl _ xs=>some xs.length
 | .nil _=>some 0
 | .str s=>some s.size
 | .ref _ _ n=>some n
 | _=>none
def gd (i:TI):L→Bool|.str _=>i.bB|_=>i.elem.isSome
theorem w3 {o:Oper} {b:Builtin} {args:Array Operand} {tys:Array TypeId} (ho:o.op=.call {callee:=.builtin b,args:=args,argTypes:=tys}) :
  ∃cs,(execOp a.eval o).run P w=(builtin b tys o.type cs (args.map a.eval)).run P w:=by
 unfold execOp
 simp only [ho,resolve,invoke,Sem.run_bind,Sem.run_pure,Result.andThen_ok]
 exact ⟨_,rfl⟩
theorem LS {o:Oper} {t:TypeId} {i:TI} {x:Operand} {l:L} {n:Int} (ho:o.op=.call {callee:=.builtin .len,args:=#[x],argTypes:=#[t]}) (hT:gM P t i=true) (h:CI P w0 m0 F0 s a w m ω)
  (hx:aE T s t x=some (.v (.one l))) (hn:fZ l=some n) (hk:gd i l=true):qh P w0 m0 F0 s o (.v (.one (.int .i64 n))) a w ω:=by
 have h1:=iS h hx
 generalize hac:a.eval x=u at h1
 refine sy h (v:=.int .i64 n) ?_ (aM.int _ _)
 obtain ⟨q,hq⟩:=w3 (P:=P) (a:=a) (w:=w) ho
 rw [hq]
 simp only [wb,aJ,aI,hac,builtin]
 have sl:∀A c (k:Nat),i.elem.isSome=true→u=.slice A k c→n=k→(do
    let r ←Builtin.len_ #[t] o.type #[u]
    pure (Next.value r):Sem Next).run P w=.ok (.value (.int .i64 n)) w:=by
  intro A c k hk hu hn
  obtain ⟨e,he⟩:=Option.isSome_iff_exists.1 hk
  have hue:=(iM hT).elem e he
  subst hu hn
  simp [Builtin.len_,run_underlying hue,goInt]
 cases l<;>simp only [fZ,Option.some.injEq,reduceCtorEq] at hn
 ·have h1:aM m u (.str _):=h1
  cases h1
  have hu:=(iM hT).str (by simpa [gd] using hk)
  simp [Builtin.len_,run_underlying hu,goInt,hn]
 ·have h1:aM m u (.sl _ _):=h1
  cases h1 with
  | vK=>exact sl none 0 0 hk rfl (by simpa using hn.symm)
  | sl ad len cap _ _ vals hlen=>exact sl _ _ _ hk rfl (by omega)
 ·have h1:aM m u (.nil _):=h1
  cases h1
  exact sl none 0 0 hk rfl (by simpa using hn.symm)
 ·rcases h1 with ⟨_,_,rfl,rfl⟩|⟨b,ad,_,_,rfl,_⟩
  ·exact sl none 0 0 hk rfl (by simpa using hn.symm)
  ·exact sl _ _ _ hk rfl hn.symm
theorem RS {o:Oper} {x:Operand} {k:Nat} {ty:TypeId} {xs:List V} {y:V} (ho:o.op=.extract x k) (h:CI P w0 m0 F0 s a w m ω) (hx:aE T s ty x=some (.cR xs)) (hy:xs[k]?=some y) :
  qh P w0 m0 F0 s o (.v y) a w ω:=by
 obtain ⟨vs,h1,h2,h3⟩:=iS h hx
 obtain ⟨u,h4,h5⟩:=h3 k y hy
 refine sy h (v:=u) ?_ h5
 unfold execOp
 simp only [ho,h1,Instr.extract,h4,Sem.run_bind,Sem.run_pure,Result.andThen_ok]
def fY:L→Bool
 | .fz _=>true
 | .ptr _ _=>true
 | .dj _ _ _=>true
 | .bD _ _=>true
 | _=>false
theorem R0 {o:Oper} {x:Operand} {ty:TypeId} {y:L} (ho:o.op=.nilCheck x) (h:CI P w0 m0 F0 s a w m ω) (hx:aE T s ty x=some (.v (.one y))) (hy:fY y=true) :
  qh P w0 m0 F0 s o (.v (.one y)) a w ω:=by
 have h1:=iS h hx
 refine sy h (v:=a.eval x) ?_ h1
 unfold execOp
 cases y<;>simp only [fY,de] at hy
 ·obtain ⟨vs,h2,_⟩:=h1
  simp only [ho,h2,Sem.run_pure]
 ·obtain ⟨ad,had,_⟩:=aM.E8 h1
  simp only [ho,had,Sem.run_pure]
 ·have had:a.eval x=_:=h1
  simp only [ho,had,Sem.run_pure]
 ·obtain ⟨b,_,had⟩:=h1
  simp only [ho,had,Sem.run_pure]
theorem TF {t:TypeId} {i:TI} (hT:gM P t i=true) {cs:Array Value} {ls:List L} (hl:cs.size=ls.length) (hr:∀(j:Nat) (l:L),ls[j]?=some l→∃v,cs[j]?=some v∧bi m ω v l) {off:Nat} (hfit:off+i.size≤ls.length) {x:V}
  (hx:eN i.agg ((ls.drop off).take i.size)=some x):∃v,(part t cs off).run P w=.ok v w∧sJ m ω v x:=by
 have F:=iM hT
 obtain ⟨inf,hinf,hsz,_⟩:=F.info
 obtain ⟨d,hd,hag⟩:=F.agg
 by_cases hg:i.agg=true
 ·rw [hg] at hx hag
  simp only [eN,if_true,Option.some.injEq] at hx
  subst hx
  refine ⟨.agg (cs.extract off (off+inf.size)),?_,⟨_,rfl,by simp [hsz];omega,fun j l hj=>?_⟩⟩
  ·simp only [part,Sem.run_bind,Sem.run_pure,Result.andThen_ok,DM hd,hag,if_true,run_sizeOf hinf]
  ·rw [qg] at hj
   split at hj
   ·rename_i hlt
    rw [rJ] at hj
    obtain ⟨v,h1,h2⟩:=hr _ _ hj
    refine ⟨v,?_,h2⟩
    rw [Array.getElem?_extract,if_pos (by omega)]
    exact h1
   ·cases hj
 ·have hg':i.agg=false:=by simpa using hg
  rw [hg'] at hx hag
  simp only [eN,de,if_false] at hx
  have hone:∃l,(ls.drop off).take i.size=[l]:=by
   match hq:(ls.drop off).take i.size,hx with
   | [l],_=>exact ⟨l,rfl⟩
  obtain ⟨l,hone⟩:=hone
  rw [hone] at hx
  simp only [Option.some.injEq] at hx
  subst hx
  have hl0:ls[off]?=some l:=by
   have:((ls.drop off).take i.size)[0]?=some l:=by rw [hone];rfl
   rw [qg] at this
   split at this
   ·simpa [rJ] using this
   ·cases this
  obtain ⟨v,h1,h2⟩:=hr off l hl0
  refine ⟨v,?_,h2⟩
  simp only [part,Sem.run_bind,Sem.run_pure,Result.andThen_ok,DM hd,hag,de,if_false,h1]
theorem RO {o:Oper} {t ft:TypeId} {i j:TI} {x:Operand} {ty:TypeId} {f off:Nat} {l:List (Nat×TypeId)} {ls:List L} {y:V} (ho:o.op=.field t x f) (hT:gM P t i=true) (hfl:i.fields=some l) (hf:l[f]?=some (off,ft))
  (hJ:gM P ft j=true) (h:CI P w0 m0 F0 s a w m ω) (hx:aE T s ty x=some (.v (.agg ls))) (hfit:off+j.size≤ls.length) (hy:eN j.agg ((ls.drop off).take j.size)=some y):qh P w0 m0 F0 s o (.v y) a w ω:=by
 obtain ⟨cs,h1,h2,h3⟩:=iS h hx
 obtain ⟨fs,g1,g2,g3⟩:=(iM hT).fields l hfl
 rw [←g2,ql,rI] at hf
 obtain ⟨fd,hf,he⟩:=hf
 simp only [Prod.mk.injEq] at he
 obtain ⟨rfl,rfl⟩:=he
 have hf':fs[f]?=some fd:=by simpa using hf
 obtain ⟨v,h4,h5⟩:=TF (w:=w) (ω:=ω) hJ h2 h3 hfit hy
 refine sy h (v:=v) ?_ h5
 unfold execOp
 simp only [ho,h1,Instr.field,Sem.run_bind,run_underlying g1,Result.andThen_ok,hf',asAgg,Sem.run_pure,h4]
def dp:Nat→List L→List L→List L
 | 0,[],ls=>ls
 | 0,v::vs,_::ls=>v::dp 0 vs ls
 | n+1,vs,l::ls=>l::dp n vs ls
 | _,_,[]=>[]
theorem zJ:∀(n:Nat) (vs ls:List L),(dp n vs ls).length=ls.length
 | 0,[],ls=>by simp [dp]
 | 0,v::vs,[]=>by simp [dp]
 | 0,v::vs,_::ls=>by simp [dp,zJ 0 vs ls]
 | n+1,vs,[]=>by simp [dp]
 | n+1,vs,l::ls=>by simp [dp,zJ n vs ls]
theorem Cw:∀(n:Nat) (vs ls:List L) (k:Nat),k<ls.length→(dp n vs ls)[k]?=if n≤k∧k<n+vs.length then vs[k - n]? else ls[k]?
 | 0,[],ls,k,hk=>by
  rw [if_neg (by simp)]
  cases ls<;>simp [dp]
 | 0,v::vs,[],k,hk=>by simp at hk
 | 0,v::vs,_::ls,0,hk=>by simp [dp]
 | 0,v::vs,_::ls,k+1,hk=>by
  simp only [dp,dr]
  rw [Cw 0 vs ls k (by simpa using hk)]
  simp
 | n+1,vs,[],k,hk=>by simp at hk
 | n+1,vs,l::ls,0,hk=>by simp [dp]
 | n+1,vs,l::ls,k+1,hk=>by
  simp only [dp,dr]
  rw [Cw n vs ls k (by simpa using hk)]
  by_cases hc:n≤k∧k<n+vs.length
  ·rw [if_pos hc,if_pos (by omega)]
   congr 1
   omega
  ·rw [if_neg hc,if_neg (by omega)]
theorem MG:∀(l:List (Value×Nat)) (off:Nat) (cs:Array Value) (k:Nat) (st:Nat),(∀(j:Nat) (p:Value×Nat),l[j]?=some p→p.2=st+j) →
  (l.foldl (fun cs (p:Value×Nat)=>cs.setIfInBounds (off+p.2) p.1) cs).size=cs.size ∧
  (k<cs.size→(l.foldl (fun cs (p:Value×Nat)=>cs.setIfInBounds (off+p.2) p.1) cs)[k]?=if off+st≤k∧k<off+st+l.length then (l[k - off - st]?).map (·.1) else cs[k]?)
 | [],off,cs,k,st,_=>⟨rfl,fun hk=>by rw [if_neg (by simp)];rfl⟩
 | p::l,off,cs,k,st,hp=>by
  have hst:p.2=st:=by simpa using hp 0 p rfl
  obtain ⟨h1,h2⟩:=MG l off (cs.setIfInBounds (off+p.2) p.1) k (st+1) (fun j q hq=>by have:=hp (j+1) q (by simpa using hq);omega)
  refine ⟨by simpa using h1,fun hk=>?_⟩
  rw [Rj,h2 (by simpa using hk)]
  by_cases hc:off+(st+1)≤k∧k<off+(st+1)+l.length
  ·rw [if_pos hc,if_pos (by simp;omega)]
   have:k - off - st=(k - off - (st+1))+1:=by omega
   rw [this,dr]
  ·rw [if_neg hc,hst]
   by_cases hk2:k=off+st
   ·subst hk2
    rw [if_pos (by simp)]
    simp [hk]
   ·rw [if_neg (by simp;omega),O7 (by omega)]
def dT (T:TypeId→Option TI) (s:St) (ty:TypeId) (x:Operand):Option (List L) :=
 match aE T s ty x with
 | some (.v (.one l))=>some [l]
 | some (.v (.agg ls))=>some ls
 | _=>none
def dB (T:TypeId→Option TI) (s:St) (ty:TypeId) (place:Nat→Option (Nat×Nat)) (ls:List L):List (Nat×Operand)→Option (List L)
 | []=>some ls
 | (i,x)::rest =>
  match place i,dT T s ty x with
  | some (off,size),some vs=>if vs.length=size∧off+size≤ls.length then dB T s ty place (dp off vs ls) rest else none
  | _,_=>none
theorem TG {v:Value} {l:L} (h:bi m ω v l):v.cells=#[v]:=by
 have:=h.pN
 cases v<;>first|rfl|cases this
theorem FI (h:CI P w0 m0 F0 s a w m ω) {ty:TypeId} {x:Operand} {vs:List L} (hx:dT T s ty x=some vs) :
  (a.eval x).cells.size=vs.length∧∀(j:Nat) (l:L),vs[j]?=some l→∃v,(a.eval x).cells[j]?=some v∧bi m ω v l:=by
 unfold dT at hx
 split at hx
 ·rename_i l hl
  simp only [Option.some.injEq] at hx
  subst hx
  have h1:bi m ω (a.eval x) l:=iS h hl
  rw [TG h1]
  refine ⟨rfl,fun j l' hj=>?_⟩
  cases j with
  | zero=>simp only [c8,Option.some.injEq] at hj;subst hj;exact ⟨_,rfl,h1⟩
  | succ j=>simp at hj
 ·rename_i ls hl
  simp only [Option.some.injEq] at hx
  subst hx
  obtain ⟨cs,h1,h2,h3⟩:=iS h hl
  rw [h1]
  exact ⟨h2,h3⟩
 ·cases hx
theorem Ff (h:CI P w0 m0 F0 s a w m ω) {ty:TypeId} {place:Nat→Option (Nat×Nat)}:∀(parts:List (Nat×Operand)) (cs:Array Value) (ls ls':List L),cs.size=ls.length →
  (∀(j:Nat) (l:L),ls[j]?=some l→∃v,cs[j]?=some v∧bi m ω v l)→dB T s ty place ls parts=some ls' →
  ∃cs',Instr.fill place cs (parts.map fun p=>(p.1,a.eval p.2))=some cs'∧cs'.size=ls'.length∧ls'.length=ls.length∧∀(j:Nat) (l:L),ls'[j]?=some l→∃v,cs'[j]?=some v∧bi m ω v l
 | [],cs,ls,ls',hs,hr,hf=>by
  simp only [dB,Option.some.injEq] at hf
  subst hf
  exact ⟨cs,rfl,hs,rfl,hr⟩
 | (i,x)::rest,cs,ls,ls',hs,hr,hf=>by
  simp only [dB] at hf
  split at hf
  ·rename_i off size vs hp hv
   split at hf
   ·rename_i hc
    obtain ⟨h1,h2⟩:=FI h hv
    have hz:=fun k=>MG ((a.eval x).cells.zipIdx.toList) off cs k 0 (by
     intro j p hj
     simp at hj
     obtain ⟨q,_,rfl⟩:=hj
     simp)
    have hlen:((a.eval x).cells.zipIdx.toList).length=vs.length:=by simp [h1]
    have hfe:(a.eval x).cells.zipIdx.foldl (fun cs (p:Value×Nat)=>cs.setIfInBounds (off+p.2) p.1) cs=((a.eval x).cells.zipIdx.toList).foldl (fun cs (p:Value×Nat)=>cs.setIfInBounds (off+p.2) p.1) cs:=by
     rw [←Array.foldl_toList]
    obtain ⟨cs',h3,h4,h5,h6⟩:=Ff h rest ((a.eval x).cells.zipIdx.foldl (fun cs (p:Value×Nat)=>cs.setIfInBounds (off+p.2) p.1) cs) (dp off vs ls) ls'
     (by rw [hfe,(hz 0).1,zJ];exact hs)
     (by
      intro j l hj
      have hjl:j<ls.length:=by
       have:=(List.getElem?_eq_some_iff.1 hj).1
       rwa [zJ] at this
      rw [Cw off vs ls j hjl] at hj
      rw [hfe,(hz j).2 (by omega)]
      split at hj
      ·rename_i hjc
       rw [if_pos (by omega)]
       obtain ⟨v,h7,h8⟩:=h2 _ _ hj
       refine ⟨v,?_,h8⟩
       simp only [wc]
       simp [h7]
      ·rename_i hjc
       rw [if_neg (by omega)]
       exact hr j l hj) hf
    refine ⟨cs',?_,h4,by rw [h5,zJ],h6⟩
    simp only [aJ,Instr.fill,hp]
    rw [if_neg (by simp;omega)]
    exact h3
   ·cases hf
  ·cases hf
def placesOf (T:TypeId→Option TI):List (Nat×TypeId)→Option (List (Nat×Nat))
 | []=>some []
 | (off,t)::l=>match T t,placesOf T l with|some i,some r=>some ((off,i.size)::r)|_,_=>none
theorem MH (hT:pR P T):∀(fs:List Field) (pl:List (Nat×Nat)),placesOf T (fs.map fun f=>(f.offset,f.type))=some pl →
  fs.mapM (fun f=>(P.info? f.type).map fun i=>(f.offset,i.size))=some pl
 | [],pl,h=>by simpa [placesOf] using h
 | f::fs,pl,h=>by
  simp only [aJ,placesOf] at h
  split at h
  ·rename_i i r hi hr
   simp only [Option.some.injEq] at h
   obtain ⟨inf,h1,h2,_⟩:=(iM (hT _ _ hi)).info
   simp [O8,h1,h2,MH hT fs r hr,h]
  ·cases h
theorem RW {o:Oper} {t:TypeId} {i:TI} {parts:Array (Nat×Operand)} {l:List (Nat×TypeId)} {pl:List (Nat×Nat)} {z ls:List L} {ty:TypeId} (ho:o.op=.build t parts) (hTab:pR P T) (hi:T t=some i)
  (hl:i.fields=some l) (hz:i.zero=some z) (hp:placesOf T l=some pl) (h:CI P w0 m0 F0 s a w m ω) (hf:dB T s ty (fun k=>pl[k]?) z parts.toList=some ls):qh P w0 m0 F0 s o (.v (.agg ls)) a w ω:=by
 have F:=iM (hTab _ _ hi)
 obtain ⟨fs,g1,g2,_⟩:=F.fields l hl
 obtain ⟨inf,zv,g3,g4,g5,g6⟩:=F.zero z hz
 have hrun:=run_places (P:=P) w fs.toList pl (MH hTab fs.toList pl (by rw [g2];exact hp))
 obtain ⟨g7,g8⟩:=yl (m:=m) zv.cells.toList z g5
 obtain ⟨cs,h1,h2,_,h4⟩:=Ff h parts.toList zv.cells z ls (by simpa using g7) (fun j l hj=>let ⟨v,h5,h6⟩:=g8 j l hj;⟨v,by simpa using h5,h6.ua⟩) hf
 refine sy h (v:=.agg cs) ?_ ⟨cs,rfl,h2,h4⟩
 have hmap:(parts.map fun x=>(x.1,a.eval x.2)).toList=parts.toList.map fun p=>(p.1,a.eval p.2):=by simp
 unfold execOp
 simp only [ho,Instr.build,Sem.run_bind,run_underlying g1,Result.andThen_ok,typeInfo,zeroValue,XB,hmap]
 simp [g3,g4,hrun,h1]
end
end Go.Bw
namespace Go.Bw
open Go.RowKit
section
variable {P:Program} {w0:World} {m0:Mem} {s:St} {a:Act} {w:World} {m:Mem} {ω:Wh} {F0:Home} {T:TypeId→Option TI}
def L.dH:L→Bool
 | .ptr _ _=>false
 | .dj _ _ _=>false
 | .ref _ _ _=>false
 | .bD _ caps=>caps.all fun l=>match l with|.ptr _ _=>false|.dj _ _ _=>false|_=>true
 | _=>true
def L.cP:L→L
 | .nil sz=>.sl sz []
 | l=>if l.dH then l else .any
theorem aM.cP {v:Value} {l:L} (h:aM m v l) (hl:l.dH=true):aM m v l.cP:=by
 cases l with
 | nil sz =>
  cases h
  exact .vK sz
 | _=>simp only [L.cP];rw [if_pos hl];exact h
theorem bi.yi {v:Value} {l:L} (h:bi m ω v l) (hl:l.dH=true):aM m v l:=by
 cases l with
 | ptr=>cases hl
 | dj=>cases hl
 | ref=>cases hl
 | bD f caps =>
  obtain ⟨vs,rfl,h2,h3⟩:=h
  simp only [L.dH,zC] at hl
  refine .bD f caps vs (fun i=>(vs[i]?).getD default) h2 (fun i u hu=>?_) (fun i u hu=>?_)
  ·obtain ⟨x,h4,_⟩:=h3 i u hu
   rw [h4];rfl
  ·obtain ⟨x,h4,h5⟩:=h3 i u hu
   rw [h4]
   rcases h5 with h5|h5
   ·exact h5
   ·have:=hl u (rX hu)
    cases u with
    | ptr=>cases this
    | dj=>cases this
    | _=>cases h5
 | _=>exact h
def yq (m:Mem) (b:Nat) (cs:Array Value):Mem:=fun x=>if x.block=b then (if x.spot=none then cs[x.off]? else none) else m x
theorem CI.newRow (h:CI P w0 m0 F0 s a w m ω) {w':World} (cs:Array Value) (e:TypeId) (fr:Nat×Nat) (hw:Below w.heap.size w w') (hh:w'.heap[w.heap.size]?=some (.cells cs e fr)) :
  CI P w0 m0 F0 s a w' (yq m w.heap.size cs) ω∧Mem.le m (yq m w.heap.size cs):=by
 have hle:Mem.le m (yq m w.heap.size cs):=fun x v hx=>by
  have:=World.block_lt_of_cell? w x (h.ok x v hx)
  simp only [yq,if_neg (XN this)]
  exact hx
 refine ⟨h.grow hw hle (fun x hx=>by simp only [yq,if_neg (XN hx)]) (fun x v hx=>?_),hle⟩
 simp only [yq] at hx
 by_cases hb:x.block=w.heap.size
 ·rw [if_pos hb] at hx
  split at hx
  ·rename_i hsp
   have:x=⟨w.heap.size,x.off,none⟩:=by cases x;simp_all
   rw [this,cell_of_row w' _ _ cs e fr hh]
   exact hx
  ·cases hx
 ·rw [if_neg hb] at hx
  rw [hw.cell (World.block_lt_of_cell? w x (h.ok x v hx))]
  exact h.ok x v hx
theorem TH (m:Mem) (b:Nat) (cs:Array Value) (j:Nat):yq m b cs ((⟨b,0,none⟩:Addr).add j)=cs[j]?:=by
 rw [Addr.add_lit]
 simp [yq]
def chunks (sz:Nat):Nat→List L→List (List L)
 | 0,_=>[]
 | n+1,ls=>ls.take sz::chunks sz n (ls.drop sz)
theorem HR (sz:Nat):∀(n:Nat) (ls:List L),(chunks sz n ls).length=n
 | 0,_=>rfl
 | n+1,ls=>by simp [chunks,HR sz n]
theorem HQ (sz:Nat):∀(n:Nat) (ls:List L),ls.length=n * sz→∀x∈chunks sz n ls,x.length=sz
 | 0,_,_,x,hx=>by simp [chunks] at hx
 | n+1,ls,h,x,hx=>by
  rw [rK] at h
  simp only [chunks,Rm] at hx
  rcases hx with rfl|hx
  ·simp;omega
  ·exact HQ sz n (ls.drop sz) (by simp;omega) x hx
theorem Fg (sz:Nat):∀(n:Nat) (ls:List L) (i j:Nat) (u:L),cellOf (chunks sz n ls) i j=some u→ls[i * sz+j]?=some u∧j<sz
 | 0,_,i,j,u,h=>by simp [chunks,cellOf] at h
 | n+1,ls,0,j,u,h=>by
  simp only [chunks,cellOf,c8,dJ] at h
  rw [qg] at h
  split at h
  ·exact ⟨by simpa using h,by assumption⟩
  ·cases h
 | n+1,ls,i+1,j,u,h=>by
  have h':cellOf (chunks sz n (ls.drop sz)) i j=some u:=by simpa [chunks,cellOf] using h
  obtain ⟨h1,h2⟩:=Fg sz n (ls.drop sz) i j u h'
  rw [rJ] at h1
  refine ⟨?_,h2⟩
  rw [rK]
  rw [←h1]
  congr 1
  omega
theorem MI {m:Mem} {b:Nat} {cs:Array Value} {sz n cap:Nat} {ls:List L} (hl:ls.length=n * sz) (hcap:n≤cap) (hr:∀(j:Nat) (l:L),ls[j]?=some l→∃v,cs[j]?=some v∧aM m v l) (hle:Mem.le m (yq m b cs)) :
  aM (yq m b cs) (.slice (some ⟨b,0,none⟩) n cap) (.sl sz (chunks sz n ls)):=by
 refine .sl ⟨b,0,none⟩ n cap sz _ (fun i j=>(cs[i * sz+j]?).getD default) (HR sz n ls).symm hcap (HQ sz n ls hl) (fun i j u hu=>?_) (fun i j u hu=>?_)
 ·obtain ⟨h1,_⟩:=Fg sz n ls i j u hu
  obtain ⟨v,h2,_⟩:=hr _ _ h1
  rw [TH,h2]
  rfl
 ·obtain ⟨h1,_⟩:=Fg sz n ls i j u hu
  obtain ⟨v,h2,h3⟩:=hr _ _ h1
  rw [h2]
  exact h3.mono hle
def dP (z:List L):Nat→List L
 | 0=>[]
 | n+1=>z++dP z n
theorem Bp (z:List L):∀n,(dP z n).length=n * z.length
 | 0=>by simp [dP]
 | n+1=>by simp [dP,Bp z n,rK];omega
theorem HP (z:List L):∀(n j:Nat),j<n * z.length→(dP z n)[j]?=z[j % z.length]?
 | 0,j,h=>by simp at h
 | n+1,j,h=>by
  rw [rK] at h
  simp only [dP]
  by_cases hj:j<z.length
  ·rw [vk hj,E5 hj]
  ·rw [ul (by omega),HP z n _ (by omega)]
   congr 1
   exact (Nat.mod_eq_sub_mod (by omega)).symm
theorem RX {o:Oper} {t e:TypeId} {i j:TI} {len:Nat} {parts:Array (Nat×Operand)} {z ls:List L} {ty:TypeId} (ho:o.op=.buildSlice t len parts) (hTab:pR P T) (hi:T t=some i) (he:i.elem=some e) (hj:T e=some j)
  (hz:j.zero=some z) (hzl:z.length=j.size) (hsz:0<j.size) (hbig:len * j.size≤16777216) (h:CI P w0 m0 F0 s a w m ω)
  (hf:dB T s ty (fun k=>some (k * j.size,j.size)) (dP z len) parts.toList=some ls) (hfz:ls.all L.dH=true):qh P w0 m0 F0 s o (.v (.one (.sl j.size (chunks j.size len (ls.map L.cP))))) a w ω:=by
 have F:=iM (hTab _ _ hj)
 have hu:=(iM (hTab _ _ hi)).elem e he
 obtain ⟨inf,g1,g2,_⟩:=F.info
 obtain ⟨inf',zv,g3,g4,g5,_⟩:=F.zero z hz
 rw [g1] at g3
 injection g3 with g3
 subst g3
 obtain ⟨g7,g8⟩:=yl (m:=m) zv.cells.toList z g5
 have hzs:zv.cells.size=j.size:=by simpa [hzl] using g7
 let init:Array Value:=(Array.range (len * j.size)).map (zv.cells[· % zv.cells.size]!)
 have hinit:init.size=(dP z len).length:=by simp [init,Bp,hzl]
 have hir:∀(k:Nat) (l:L),(dP z len)[k]?=some l→∃v,init[k]?=some v∧bi m ω v l:=by
  intro k l hk
  have hlt:k<len * j.size:=by
   have:=(List.getElem?_eq_some_iff.1 hk).1
   rwa [Bp,hzl] at this
  rw [HP z len k (by rw [hzl];exact hlt)] at hk
  obtain ⟨v,h1,h2⟩:=g8 _ l hk
  refine ⟨v,?_,h2.ua⟩
  simp only [init,JJ,O5,if_pos hlt,dv]
  rw [hzs,←hzl]
  have:k % z.length<zv.cells.size:=by rw [hzs,←hzl];exact CL _ (by omega)
  rw [JE zv.cells (k % z.length) this]
  have h1':zv.cells[k % z.length]?=some v:=by simpa using h1
  rw [y7 this] at h1'
  exact h1'
 obtain ⟨cs,h1,h2,h3,h4⟩:=Ff h parts.toList init (dP z len) ls hinit hir hf
 obtain ⟨hci,hle⟩:=h.newRow (w':=w.alloc (.cells cs e (0,0))) cs e (0,0) (Below.alloc (Below.refl _ _) (br _) _) (heap_alloc_new w _)
 refine ER (by simp [wi,ho]) ?_
 refine sj (v:=.slice (some ⟨w.heap.size,0,none⟩) len len) (w':=w.alloc (.cells cs e (0,0))) ?_ ⟨yq m w.heap.size cs,hci,?_⟩
 ·have hmap:(parts.map fun x=>(x.1,a.eval x.2)).toList=parts.toList.map fun p=>(p.1,a.eval p.2):=by simp
  have h1':Instr.fill (fun i=>some (i * inf.size,inf.size)) ((Array.range (len * inf.size)).map (zv.cells[· % zv.cells.size]!)) (parts.toList.map fun p=>(p.1,a.eval p.2))=some cs:=by rw [g2];exact h1
  unfold execOp
  by_cases h0:len * inf.size=0
  ·have hr0:Array.range (len * inf.size)=#[]:=by rw [h0];rfl
   rw [hr0] at h1'
   simp only [wb,aI] at h1'
   have hr1:∀f:Nat→Value,(Array.range 0).map f=#[]:=fun f=>by simp
   simp only [ho,Instr.buildSlice,Sem.run_bind,run_underlying hu,Result.andThen_ok,run_sizeOf g1,hmap]
   rw [if_neg (by omega),if_pos h0]
   simp only [Sem.run_pure,Sem.run_bind,Result.andThen_ok,h0,hr1,h1',newRow,newObj]
   rfl
  ·simp only [ho,Instr.buildSlice,Sem.run_bind,run_underlying hu,Result.andThen_ok,run_sizeOf g1,hmap]
   rw [if_neg (by rw [g2];omega),if_neg h0]
   simp only [zeroValue,typeInfo,Sem.run_bind,Sem.run,g1,g4,Result.andThen_ok,Sem.run_pure,h1',newRow,newObj,program]
   rfl
 ·refine MI (by rw [bw,h3,Bp,hzl]) (br _) (fun j l hj=>?_) hle
  rw [ql,rI] at hj
  obtain ⟨l0,hj,rfl⟩:=hj
  obtain ⟨v,h5,h6⟩:=h4 j l0 hj
  have hz:=List.all_eq_true.1 hfz l0 (rX hj)
  exact ⟨v,h5,(h6.yi hz).cP hz⟩
def iE:L→Bool
 | .fz _=>true
 | .ptr _ _=>true
 | .dj _ _ _=>true
 | _=>false
def ff (s:St) (T:TypeId→Option TI) (ty:TypeId):List Operand→Option (List L)
 | []=>some []
 | x::r=>match aE T s ty x,ff s T ty r with|some (.v (.one l)),some q=>if iE l then some (l::q) else none|_,_=>none
theorem MJ (h:CI P w0 m0 F0 s a w m ω) {ty:TypeId}:∀(l:List Operand) (caps:List L),ff s T ty l=some caps →
  l.length=caps.length∧∀(i:Nat) (u:L),caps[i]?=some u→∃x,(l.map a.eval)[i]?=some x∧(aM m x u∨tT ω x u)
 | [],caps,hc=>by simp only [ff,Option.some.injEq] at hc;subst hc;exact ⟨rfl,fun i u h=>by simp at h⟩
 | x::r,caps,hc=>by
  simp only [ff] at hc
  split at hc
  ·rename_i l q hx hq
   split at hc
   ·rename_i hl
    simp only [Option.some.injEq] at hc
    subst hc
    obtain ⟨h1,h2⟩:=MJ h r q hq
    refine ⟨by simp [h1],fun i u hu=>?_⟩
    cases i with
    | zero =>
     simp only [c8,Option.some.injEq] at hu
     subst hu
     have hv:bi m ω (a.eval x) l:=iS h hx
     refine ⟨a.eval x,rfl,?_⟩
     cases l with
     | fz=>exact .inl hv
     | ptr=>exact .inr hv
     | dj=>exact .inr hv
     | _=>cases hl
    | succ i=>exact h2 i u (by simpa using hu)
   ·cases hc
  ·cases hc
theorem RY {o:Oper} {f:FuncId} {caps:Array Operand} {cs:List L} {ty:TypeId} (ho:o.op=.makeFunc (.func f) #[] caps) (h:CI P w0 m0 F0 s a w m ω) (hc:ff s T ty caps.toList=some cs) :
  qh P w0 m0 F0 s o (.v (.one (.bD f cs))) a w ω:=by
 obtain ⟨h1,h2⟩:=MJ h caps.toList cs hc
 refine sy h (v:=.func (.func f) #[] (caps.toList.map a.eval).toArray) ?_ ⟨caps.toList.map a.eval,rfl,by simpa using h1,h2⟩
 have:caps.map a.eval=(caps.toList.map a.eval).toArray:=by
  apply vI
  simp
 unfold execOp
 simp only [ho,Instr.makeFunc,this,Array.map_empty,Sem.run_bind,Sem.run_pure,Result.andThen_ok]
theorem RR {o:Oper} {t:TypeId} {i:TI} {x y:Operand} {ty ty':TypeId} {q:ByteArray} {k:IntKind} {n:Int} (ho:o.op=.index t x y) (hT:gM P t i=true) (hs:i.bB=true) (h:CI P w0 m0 F0 s a w m ω)
  (hx:aE T s ty x=some (.v (.one (.str q)))) (hy:aE T s ty' y=some (.v (.one (.int k n)))) (h0:0≤n) (h1:n<q.size):qh P w0 m0 F0 s o (.v (.one (.int .u8 ((q.data.toList.getD n.toNat 0).toNat:Nat)))) a w ω:=by
 have hu:=(iM hT).str hs
 have hax:=MF h hx
 have hay:=BE h hy
 have hlt:n.toNat<q.size:=by omega
 refine sy h (v:=.int .u8 ((q.data.toList.getD n.toNat 0).toNat:Nat)) ?_ (aM.int _ _)
 have hq:q[n.toNat]?=some (q.data.toList.getD n.toNat 0):=by
  have h3:q[n.toNat]?=some q[n.toNat]:=getElem?_pos q n.toNat hlt
  rw [h3]
  congr 1
  have hd:n.toNat<q.data.toList.length:=by simpa using hlt
  simp [List.getD,ig hd]
  rfl
 unfold execOp
 simp only [ho,hax,hay,Instr.index,asIntOf,Sem.run_bind,Sem.run_pure,Result.andThen_ok,run_underlying hu,h0,if_true,hq]
theorem Sa {o:Oper} {t t':TypeId} {x:Operand} {ty:TypeId} {k k':IntKind} {n:Int} (ho:o.op=.convert t t' x) (hs:(P.underlying t).isSome=true) (hd:P.underlying t'=some (.int k')) (h:CI P w0 m0 F0 s a w m ω)
  (hx:aE T s ty x=some (.v (.one (.int k n)))):qh P w0 m0 F0 s o (.v (.one (.int k' (k'.wrap n)))) a w ω:=by
 have hax:=BE h hx
 refine sy h (v:=.int k' (k'.wrap n)) ?_ (aM.int _ _)
 obtain ⟨d,hd0⟩:=Option.isSome_iff_exists.1 hs
 unfold execOp
 simp only [ho,hax,convert,Sem.run_bind,run_underlying hd0,run_underlying hd,Result.andThen_ok,Conv.intToInt,Sem.run_pure]
theorem Sb {o:Oper} {t t' e:TypeId} {i i':TI} {x:Operand} {ty:TypeId} {q:ByteArray} (ho:o.op=.convert t t' x) (hT:gM P t i=true) (hs:i.bB=true) (hT':gM P t' i'=true) (he:i'.elem=some e) (hE:P.underlying e=some (.int .u8))
  (h:CI P w0 m0 F0 s a w m ω) (hx:aE T s ty x=some (.v (.one (.str q)))):qh P w0 m0 F0 s o (.v (.one (.sl 1 (chunks 1 q.size (q.data.toList.map fun b=>L.int .u8 b.toNat))))) a w ω:=by
 have hu:=(iM hT).str hs
 have hu':=(iM hT').elem e he
 have hax:=MF h hx
 let cap:=grownCap w q.size 0 e
 let cs:Array Value:=q.data.map (fun b=>Value.int .u8 b.toNat)++Array.replicate (cap - q.size) (.int .u8 0)
 let w1:=w.drew.alloc (.cells cs e (0,0))
 let w':=w1.freeze ⟨w.heap.size,cs.size,none⟩ 1
 have hh1:w1.heap[w.heap.size]?=some (.cells cs e (0,0)):=heap_alloc_new w.drew _
 have hb:Below w.heap.size w w':=by
  refine ⟨rfl,rfl,rfl,?_,fun k hk=>?_⟩
  ·show _≤(World.freeze w1 _ 1).heap.size
   simp [World.freeze,w1,World.alloc]
  ·show (World.freeze w1 _ 1).heap[k]?=_
   simp only [World.freeze,XO,if_false,Pb]
   rw [if_neg (by omega)]
   exact Below.heap_alloc w.drew _ k hk
 have hfr:∃fr,w'.heap[w.heap.size]?=some (.cells cs e fr):=by
  refine ⟨(cs.size,cs.size+1),?_⟩
  show (World.freeze w1 _ 1).heap[w.heap.size]?=_
  simp only [World.freeze,XO,if_false,Pb,if_true,hh1,dv]
  rfl
 obtain ⟨fr,hfr⟩:=hfr
 obtain ⟨hci,hle⟩:=h.newRow cs e fr hb hfr
 have hr:∀(j:Nat) (l:L),(q.data.toList.map fun b=>L.int .u8 (b.toNat:Int))[j]?=some l→∃v,cs[j]?=some v∧aM m v l:=by
  intro j l hj
  simp only [ql,rI] at hj
  obtain ⟨b,hb,rfl⟩:=hj
  refine ⟨.int .u8 b.toNat,?_,.int _ _⟩
  have hlt:j<q.data.size:=by simpa using (List.getElem?_eq_some_iff.1 hb).1
  simp only [cs]
  rw [x5 (by simpa using hlt)]
  simp only [JJ]
  have:q.data[j]?=some b:=by simpa using hb
  rw [this];rfl
 have hcap:q.size≤cap:=grownCap_ge w q.size 0 e
 refine ER (by simp [wi,ho]) ?_
 refine sj (v:=.slice (some ⟨w.heap.size,0,none⟩) q.size cap) (w':=w') ?_ ⟨_,hci,MI (by simp) hcap hr hle⟩
 have hsh:w1.shape? w.heap.size=some (e,cs.size):=by simp [World.shape?,hh1]
 unfold execOp
 simp only [ho,hax,convert,Sem.run_bind,run_underlying hu,run_underlying hu',run_underlying hE,Result.andThen_ok,Conv.stringToBytes,choose,Sem.run,Question.forced,de,if_false,newRow,newObj,Sem.run_pure,markStringish,shape,freeze]
 have e2:(Question.appendCap q.size 0 e).cut (w.tape w.drawn (Question.appendCap q.size 0 e))=cap:=rfl
 simp only [e2]
 have hsh2:World.shape? {heap:=w.heap.push (.cells (q.data.map (fun b=>Value.int .u8 b.toNat)++Array.replicate (cap - q.size) (.int .u8 0)) e),tape:=w.tape,drawn:=w.drawn+1,os:=w.os,output:=w.output} w.heap.size=some (e,cs.size):=hsh
 simp only [hsh2,Sem.run,Result.andThen_ok]
 rfl
def ug (P:Program) (t:TypeId):Option IntKind:=match P.underlying t with|some (.int k)=>some k|_=>none
def gf:L→L→Option L|.int k x,.int _ y=>some (.int k (if y > x then y else x))|_,_=>none
def gg:L→L→Option L|.int k x,.int _ y=>some (.int k (if y<x then y else x))|_,_=>none
theorem Sc {o:Oper} {tys:Array TypeId} {x y:Operand} {l1 l2 l:L} (ho:o.op=.call {callee:=.builtin .max,args:=#[x,y],argTypes:=tys}) (h:CI P w0 m0 F0 s a w m ω)
  (hx:aE T s 0 x=some (.v (.one l1))) (hy:aE T s 0 y=some (.v (.one l2))) (hl:gf l1 l2=some l):qh P w0 m0 F0 s o (.v (.one l)) a w ω:=by
 obtain ⟨k,q,k',r,rfl,rfl,hl2⟩:∃k q k' r,l1=.int k q∧l2=.int k' r∧some (.int k (if r > q then r else q))=some l:=by
  unfold gf at hl
  split at hl
  ·exact ⟨_,_,_,_,rfl,rfl,hl⟩
  ·cases hl
 have hac:=BE h hx
 have had:=BE h hy
 simp only [Option.some.injEq] at hl2
 subst hl2
 refine sy h (v:=.int k (if r > q then r else q)) ?_ (aM.int _ _)
 obtain ⟨q',hq⟩:=w3 (P:=P) (a:=a) (w:=w) ho
 rw [hq]
 simp only [wb,aJ,aI,hac,had,builtin]
 simp [Builtin.max_,Builtin.max2]
theorem Sd {o:Oper} {tys:Array TypeId} {x y:Operand} {l1 l2 l:L} (ho:o.op=.call {callee:=.builtin .min,args:=#[x,y],argTypes:=tys}) (h:CI P w0 m0 F0 s a w m ω)
  (hx:aE T s 0 x=some (.v (.one l1))) (hy:aE T s 0 y=some (.v (.one l2))) (hl:gg l1 l2=some l):qh P w0 m0 F0 s o (.v (.one l)) a w ω:=by
 obtain ⟨k,q,k',r,rfl,rfl,hl2⟩:∃k q k' r,l1=.int k q∧l2=.int k' r∧some (.int k (if r<q then r else q))=some l:=by
  unfold gg at hl
  split at hl
  ·exact ⟨_,_,_,_,rfl,rfl,hl⟩
  ·cases hl
 have hac:=BE h hx
 have had:=BE h hy
 simp only [Option.some.injEq] at hl2
 subst hl2
 refine sy h (v:=.int k (if r<q then r else q)) ?_ (aM.int _ _)
 obtain ⟨q',hq⟩:=w3 (P:=P) (a:=a) (w:=w) ho
 rw [hq]
 simp only [wb,aJ,aI,hac,had,builtin]
 simp [Builtin.min_,Builtin.min2]
def isSlice:L→Bool|.sl _ _=>true|.nil _=>true|.ref _ _ _=>true|_=>false
theorem Su {o:Oper} {t t' e:TypeId} {i:TI} {x:Operand} {l:L} (ho:o.op=.binOp .eql t x (.const (.slice none 0 0)) t') (hT:gM P t i=true) (he:i.elem=some e) (h:CI P w0 m0 F0 s a w m ω)
  (hx:aE T s t x=some (.v (.one l))) (hl:isSlice l=true):∃b,(∀n,nL l=some n→0<n→b=false)∧qh P w0 m0 F0 s o (.v (.one (.bool b))) a w ω:=by
 have hu:=(iM hT).elem e he
 have h1:=iS h hx
 have hs:∃A n c,a.eval x=.slice A n c∧(∀k,nL l=some k→0<k→A.isNone=false):=by
  generalize a.eval x=u at h1
  cases l<;>simp only [isSlice,de] at hl
  ·have h1:aM m u (.sl _ _):=h1
   cases h1 with
   | vK=>exact ⟨_,_,_,rfl,fun k hk h0=>by simp [nL] at hk;omega⟩
   | sl=>exact ⟨_,_,_,rfl,fun _ _ _=>rfl⟩
  ·have h1:aM m u (.nil _):=h1
   cases h1
   exact ⟨_,_,_,rfl,fun k hk h0=>by simp [nL] at hk;omega⟩
  ·rcases h1 with ⟨_,_,rfl,rfl⟩|⟨b,ad,_,_,rfl,_⟩
   ·exact ⟨_,_,_,rfl,fun k hk h0=>by simp [nL] at hk;omega⟩
   ·exact ⟨_,_,_,rfl,fun _ _ _=>rfl⟩
 obtain ⟨A,n,c,hs,hn⟩:=hs
 refine ⟨A.isNone,hn,sy h (v:=.bool A.isNone) ?_ (aM.bool _)⟩
 have hr:=Lib.run_eql_slice_nil (P:=P) w t e A n c 0 0 hu
 unfold execOp
 simp only [ho,hs,eqGuard_at_slice,Sem.run_bind,Sem.run_pure,Result.andThen_ok]
 show ((binOp .eql t (.slice A n c) (.slice none 0 0)).run P w).andThen _=_
 rw [hr]
 rfl
def fA:L→L→Option Bool
 | .int k x,.int k' y=>if k=k' then some (x==y) else none
 | .bool x,.bool y=>some (x==y)
 | .str x,.str y=>some (x.toList==y.toList)
 | _,_=>none
def dE:List L→List L→Option Bool
 | [],[]=>some true
 | x::xs,y::ys=>(fA x y).bind fun b=>(dE xs ys).map fun c=>b&&c
 | _,_=>none
theorem MK:∀(xs ys xs' ys':List L) (b:Bool),xs.length=ys.length→dE (xs++xs') (ys++ys')=some b→∃c d,dE xs ys=some c∧dE xs' ys'=some d∧b=(c&&d)
 | [],[],xs',ys',b,_,h=>⟨true,b,rfl,h,by simp⟩
 | x::xs,y::ys,xs',ys',b,hl,h=>by
  simp only [aW,dE,LD,rI] at h
  obtain ⟨e,h1,f,h2,rfl⟩:=h
  obtain ⟨c,d,h3,h4,rfl⟩:=MK xs ys xs' ys' f (by simpa using hl) h2
  exact ⟨e&&c,d,by simp [dE,h1,h3],h4,by simp [Bool.and_assoc]⟩
 | [],_::_,_,_,_,hl,_=>by simp at hl
 | _::_,[],_,_,_,hl,_=>by simp at hl
def L.kd:L→Nat
 | .int _ _=>0
 | .bool _=>1
 | .str _=>2
 | _=>3
def DP (P:Program) (rec_:TypeId→Option (List Nat)):List Field→Nat→Option (List Nat)
 | [],_=>some []
 | f::fs,n=>if f.name="_"∨f.offset≠n then none else
  match rec_ f.type,P.info? f.type with
  | some k,some i=>if i.size=k.length∧0<k.length then (DP P rec_ fs (n+k.length)).map (k++·) else none
  | _,_=>none
def DQ (P:Program):Nat→TypeId→Option (List Nat)
 | 0,_=>none
 | d+1,t=>match P.underlying t with
  | some .bool=>some [1]
  | some (.int _)=>some [0]
  | some .string=>some [2]
  | some (.struct fs)=>if P.stoodInHeld t then none else DP P (DQ P d) fs.toList 0
  | _=>none
def Ar (P:Program) (t:TypeId):Option (List Nat):=match P.underlying t with
 | some (.struct _)=>if P.eqGuardType P.depth t then none else DQ P 5 t
 | _=>none
def zK (m:Mem) (cs:List Value) (xs:List L):Prop:=cs.length=xs.length∧∀(j:Nat) (l:L),xs[j]?=some l→∃v,cs[j]?=some v∧aM m v l
theorem zK.sub {cs:List Value} {xs:List L} (h:zK m cs xs) (n k:Nat):zK m ((cs.drop n).take k) ((xs.drop n).take k):=by
 refine ⟨by simp [h.1],fun j l hj=>?_⟩
 rw [qg] at hj
 split at hj
 ·rename_i hlt
  rw [rJ] at hj
  obtain ⟨v,h1,h2⟩:=h.2 _ l hj
  exact ⟨v,by rw [qg,if_pos hlt,rJ];exact h1,h2⟩
 ·cases hj
def tG (P:Program) (t:TypeId) (cs:List Value):Value:=match P.underlying t with
 | some (.struct _)|some (.array _ _)=>.agg cs.toArray
 | _=>cs.headD undef
theorem ML {t:TypeId} {i:TypeInfo} {d:TypeDesc} (hi:P.info? t=some i) (hd:P.underlying t=some d) (cs:List Value) (off:Nat) (hfit:off+i.size≤cs.length) (h1:AA d=true∨i.size=1):(part t cs.toArray off).run P w=.ok (tG P t ((cs.drop off).take i.size)) w:=by
 unfold part tG
 simp only [Sem.run_bind,DM hd,Result.andThen_ok,hd]
 by_cases hag:AA d=true
 ·rw [hag]
  simp only [if_true,Sem.run_bind,run_sizeOf hi,Result.andThen_ok,Sem.run_pure]
  have:(cs.toArray.extract off (off+i.size))=((cs.drop off).take i.size).toArray:=by
   apply vI
   simp [List.take_drop,Nat.add_comm]
  rw [this]
  cases d<;>first|rfl|cases hag
 ·have hs:i.size=1:=h1.resolve_left hag
  have hlt:off<cs.length:=by omega
  have e1:(cs.drop off).take i.size=[cs[off]]:=by
   rw [hs,uV hlt]
   rfl
  have e2:cs.toArray[off]?=some cs[off]:=by simp [ig hlt]
  rw [e1]
  simp only [hag,de,if_false,e2,Sem.run_pure]
  cases d<;>first|rfl|(exact absurd rfl hag)
theorem MM {e:Nat} {rec_:TypeId→Option (List Nat)} (ih:∀t ks,rec_ t=some ks→∀(cs cs':List Value) (xs ys:List L) (b:Bool),zK m cs xs→zK m cs' ys→xs.map L.kd=ks→ys.map L.kd=ks→dE xs ys=some b →
   (Op.equalIn e t (tG P t cs) (tG P t cs')).run P w=.ok b w∧(∃d,P.underlying t=some d∧(AA d=true∨ks.length=1))) (cs cs':List Value) (xs ys:List L) (h1:zK m cs xs) (h2:zK m cs' ys) :
  ∀(fs:List Field) (n:Nat) (ks:List Nat) (b:Bool),DP P rec_ fs n=some ks→(xs.drop n).map L.kd=ks→(ys.drop n).map L.kd=ks→dE (xs.drop n) (ys.drop n)=some b→(Op.eqFields e cs.toArray cs'.toArray fs).run P w=.ok b w
 | [],n,ks,b,hf,hx,hy,hb=>by
  simp only [DP,Option.some.injEq] at hf
  subst hf
  have e1:xs.drop n=[]:=List.map_eq_nil_iff.1 hx
  have e2:ys.drop n=[]:=List.map_eq_nil_iff.1 hy
  rw [e1,e2] at hb
  simp only [dE,Option.some.injEq] at hb
  subst hb
  simp [Op.eqFields]
 | f::fs,n,ks,b,hf,hx,hy,hb=>by
  simp only [DP] at hf
  split at hf
  ·cases hf
  ·rename_i hc
   have hname:f.name≠"_":=fun h=>hc (.inl h)
   have hoff:f.offset=n:=Dm fun h=>hc (.inr h)
   split at hf
   ·rename_i k i hk hi
    split at hf
    ·rename_i hsz
     obtain ⟨hsz,hpos⟩:=hsz
     obtain ⟨ks',hr,rfl⟩:=Option.map_eq_some_iff.1 hf
     have hlx:(xs.drop n).length=k.length+ks'.length:=by have:=congrArg List.length hx;simpa using this
     have hly:(ys.drop n).length=k.length+ks'.length:=by have:=congrArg List.length hy;simpa using this
     have hx1:((xs.drop n).take k.length).map L.kd=k:=by rw [yF,hx];simp
     have hy1:((ys.drop n).take k.length).map L.kd=k:=by rw [yF,hy];simp
     have hx2:(xs.drop (n+k.length)).map L.kd=ks':=by rw [←Af,Eo,hx];simp
     have hy2:(ys.drop (n+k.length)).map L.kd=ks':=by rw [←Af,Eo,hy];simp
     have hb':dE ((xs.drop n).take k.length++xs.drop (n+k.length)) ((ys.drop n).take k.length++ys.drop (n+k.length))=some b:=by
      rw [←Af,←Af,yK,yK]
      exact hb
     obtain ⟨c,d,h3,h4,rfl⟩:=MK _ _ _ _ b (by simp;simp at hlx hly;omega) hb'
     obtain ⟨h5,dd,h6,h7⟩:=ih _ _ hk _ _ _ _ c (h1.sub n k.length) (h2.sub n k.length) hx1 hy1 h3
     have hfit:n+i.size≤cs.length:=by rw [h1.1,hsz];simp at hlx;omega
     have hfit':n+i.size≤cs'.length:=by rw [h2.1,hsz];simp at hly;omega
     have h7':AA dd=true∨i.size=1:=by rw [hsz];exact h7
     simp only [Op.eqFields,hoff]
     rw [if_pos hname]
     simp only [Sem.run_bind,ML (w:=w) hi h6 cs n hfit h7',ML (w:=w) hi h6 cs' n hfit' h7',Result.andThen_ok]
     rw [←hsz] at h5
     rw [h5]
     simp only [Result.andThen_ok]
     cases c with
     | false=>simp
     | true =>
      simp only [fi,de,if_false,il]
      exact MM ih cs cs' xs ys h1 h2 fs _ _ d hr hx2 hy2 h4
    ·cases hf
   ·cases hf
theorem MN:∀(d:Nat) (t:TypeId) (ks:List Nat),DQ P d t=some ks→∀(e:Nat) (cs cs':List Value) (xs ys:List L) (b:Bool),zK m cs xs→zK m cs' ys→xs.map L.kd=ks→ys.map L.kd=ks→dE xs ys=some b →
  (Op.equalIn (e+d) t (tG P t cs) (tG P t cs')).run P w=.ok b w∧∃dd,P.underlying t=some dd∧(AA dd=true∨ks.length=1)
 | 0,t,ks,h=>by simp [DQ] at h
 | d+1,t,ks,h=>by
  intro e cs cs' xs ys b h1 h2 hx hy hb
  have one:∀(k:Nat),ks=[k]→∃x y u v,xs=[x]∧ys=[y]∧cs=[u]∧cs'=[v]∧L.kd x=k∧L.kd y=k∧aM m u x∧aM m v y∧fA x y=some b:=by
   intro k hk
   subst hk
   have hlx:xs.length=1:=by have:=congrArg List.length hx;simpa using this
   have hly:ys.length=1:=by have:=congrArg List.length hy;simpa using this
   obtain ⟨x,rfl⟩:=List.length_eq_one_iff.1 hlx
   obtain ⟨y,rfl⟩:=List.length_eq_one_iff.1 hly
   obtain ⟨u0,rfl⟩:=List.length_eq_one_iff.1 (h1.1.trans hlx)
   obtain ⟨v0,rfl⟩:=List.length_eq_one_iff.1 (h2.1.trans hly)
   obtain ⟨u,hu,hu'⟩:=h1.2 0 x rfl
   obtain ⟨v,hv,hv'⟩:=h2.2 0 y rfl
   simp only [c8,Option.some.injEq] at hu hv
   subst hu hv
   refine ⟨x,y,_,_,rfl,rfl,rfl,rfl,by simpa using hx,by simpa using hy,hu',hv',?_⟩
   simp only [dE,LD,dv,Option.some.injEq,ij] at hb
   obtain ⟨q,h3,rfl⟩:=hb
   exact h3
  simp only [DQ] at h
  split at h
  ·rename_i hd
   simp only [Option.some.injEq] at h
   obtain ⟨x,y,u,v,rfl,rfl,rfl,rfl,kx,ky,hu,hv,hb⟩:=one 1 h.symm
   refine ⟨?_,_,hd,.inr (by rw [←h];rfl)⟩
   have e1:tG P t [u]=u:=by unfold tG;rw [hd];rfl
   have e2:tG P t [v]=v:=by unfold tG;rw [hd];rfl
   rw [e1,e2]
   cases x<;>simp [L.kd] at kx
   cases y<;>simp [L.kd] at ky
   cases hu;cases hv
   simp only [fA,Option.some.injEq] at hb
   subst hb
   exact run_equalIn_bool' w (e+d) t _ _ hd
  ·rename_i q hd
   simp only [Option.some.injEq] at h
   obtain ⟨x,y,u,v,rfl,rfl,rfl,rfl,kx,ky,hu,hv,hb2⟩:=one 0 h.symm
   refine ⟨?_,_,hd,.inr (by rw [←h];rfl)⟩
   have e1:tG P t [u]=u:=by unfold tG;rw [hd];rfl
   have e2:tG P t [v]=v:=by unfold tG;rw [hd];rfl
   rw [e1,e2]
   cases x<;>simp [L.kd] at kx
   cases y<;>simp [L.kd] at ky
   cases hu;cases hv
   rename_i k1 n1 k2 n2
   by_cases hkk:k1=k2
   ·subst hkk
    simp only [fA,if_true,Option.some.injEq] at hb2
    subst hb2
    exact run_equalIn_int w (e+d) t _ _ _ _ hd
   ·simp [fA,hkk] at hb2
  ·rename_i hd
   simp only [Option.some.injEq] at h
   obtain ⟨x,y,u,v,rfl,rfl,rfl,rfl,kx,ky,hu,hv,hb⟩:=one 2 h.symm
   refine ⟨?_,_,hd,.inr (by rw [←h];rfl)⟩
   have e1:tG P t [u]=u:=by unfold tG;rw [hd];rfl
   have e2:tG P t [v]=v:=by unfold tG;rw [hd];rfl
   rw [e1,e2]
   cases x<;>simp [L.kd] at kx
   cases y<;>simp [L.kd] at ky
   cases hu;cases hv
   simp only [fA,Option.some.injEq] at hb
   subst hb
   exact run_equalIn_string w (e+d) t _ _ hd
  ·rename_i fs hd
   split at h
   ·cases h
   ·rename_i hst
    refine ⟨?_,_,hd,.inl rfl⟩
    have e1:∀c,tG P t c=.agg c.toArray:=fun c=>by unfold tG;rw [hd]
    have hfo:P.fieldsOf t=fs:=by unfold Program.fieldsOf;rw [hd]
    have:=run_equalIn_struct (P:=P) w (e+d) t cs.toArray cs'.toArray (by rw [hfo];exact hd) (by simpa using hst)
    rw [e1,e1]
    show (Op.equalIn (e+d+1) t _ _).run P w=_
    rw [this,hfo]
    exact MM (fun t ks hk cs cs' xs ys b a1 a2 a3 a4 a5=>MN d t ks hk e cs cs' xs ys b a1 a2 a3 a4 a5) cs cs' xs ys h1 h2 fs.toList 0 ks b h (by simpa using hx) (by simpa using hy) (by simpa using hb)
  ·cases h
def fW (op:BinOp) (b:Bool):Option Bool:=match op with|.eql=>some b|.neq=>some !b|_=>none
theorem TJ {x y:L} {b:Bool} (h:fA x y=some b):x.dH=true∧y.dH=true:=by
 unfold fA at h
 split at h
 ·exact ⟨rfl,rfl⟩
 ·exact ⟨rfl,rfl⟩
 ·exact ⟨rfl,rfl⟩
 ·cases h
theorem Io:∀(xs ys:List L) (b:Bool),dE xs ys=some b→(∀x∈xs,x.dH=true)∧∀y∈ys,y.dH=true
 | [],[],_,_=>⟨fun x hx=>(by cases hx),fun x hx=>(by cases hx)⟩
 | x::xs,y::ys,b,h=>by
  simp only [dE,LD,rI] at h
  obtain ⟨e,h1,c,h2,_⟩:=h
  obtain ⟨h3,h4⟩:=Io xs ys c h2
  obtain ⟨h5,h6⟩:=TJ h1
  exact ⟨fun z hz=>(List.mem_cons.1 hz).elim (fun e=>e▸h5) (h3 z),fun z hz=>(List.mem_cons.1 hz).elim (fun e=>e▸h6) (h4 z)⟩
 | [],_::_,_,h=>by simp [dE] at h
 | _::_,[],_,h=>by simp [dE] at h
theorem RV {o:Oper} {op:BinOp} {t t':TypeId} {x y:Operand} {xs ys:List L} {ks:List Nat} {b b':Bool} (ho:o.op=.binOp op t x y t') (hk:Ar P t=some ks) (h:CI P w0 m0 F0 s a w m ω)
  (hx:aE T s t x=some (.v (.agg xs))) (hy:aE T s t y=some (.v (.agg ys))) (hkx:xs.map L.kd=ks) (hky:ys.map L.kd=ks) (hb:dE xs ys=some b) (zo:fW op b=some b'):qh P w0 m0 F0 s o (.v (.one (.bool b'))) a w ω:=by
 unfold Ar at hk
 split at hk
 ·rename_i fs hd
  split at hk
  ·cases hk
  ·rename_i hg
   obtain ⟨cs,h1,h2,h3⟩:=iS h hx
   obtain ⟨cs',h1',h2',h3'⟩:=iS h hy
   obtain ⟨h4,_⟩:=MN (w:=w) 5 t ks hk 9995 cs.toList cs'.toList xs ys b ⟨by simpa using h2,fun j l hj=>let ⟨v,h5,h6⟩:=h3 j l hj;⟨v,by simpa using h5,h6.yi ((Io xs ys b hb).1 l (rX hj))⟩⟩ ⟨by simpa using h2',fun j l hj=>let ⟨v,h5,h6⟩:=h3' j l hj;⟨v,by simpa using h5,h6.yi ((Io xs ys b hb).2 l (rX hj))⟩⟩ hkx hky hb
   have e1:∀c:Array Value,tG P t c.toList=.agg c:=fun c=>by unfold tG;rw [hd]
   rw [e1,e1] at h4
   refine sy h (v:=.bool b') ?_ (aM.bool _)
   have hgr:=run_eqGuard_agg (P:=P) w op t x y cs cs' (by simpa using hg)
   unfold execOp
   simp only [ho,h1,h1',Sem.run_bind,hgr,Result.andThen_ok]
   cases op<;>simp only [fW,Option.some.injEq,reduceCtorEq] at zo
   ·subst zo
    rw [run_eql_struct,h4]
    rfl
   ·subst zo
    rw [run_neq_struct,h4]
    rfl
 ·cases hk
end
end Go.Bw
namespace Go.Bw
open Go.RowKit
section
variable {P:Program} {w0:World} {m0:Mem} {s s':St} {a:Act} {w w':World} {m:Mem} {ω:Wh} {F0:Home} {T:TypeId→Option TI}
def rY (P:Program) (w0:World) (m0:Mem) (F0:Home) (o:Oper) (a:Act) (w:World) (s':St):Prop:=ym P o a w fun v w'=>ry P w0 m0 F0 s' (a.put o.dst v) w'
def St.fw (s:St) (d:Option Tmp) (x:A):St:=match d with|some d=>s.put d x|none=>s
def St.rO (s:St) (d:Option Tmp):Prop:=match d with|some d=>d<s.n|none=>True
theorem CI.fw (h:CI P w0 m0 F0 s a w m ω) {d:Option Tmp} {v:Value} {x:A} (hd:s.rO d) (hx:sO m ω v x):CI P w0 m0 F0 (s.fw d x) (a.put d v) w m ω:=by
 cases d with
 | none=>exact h
 | some d=>exact h.put hd hx
theorem qh.HZ {o:Oper} {x:A} (h:qh P w0 m0 F0 s o x a w ω) (hd:s.rO o.dst):rY P w0 m0 F0 o a w (s.fw o.dst x) :=
 ym.mono h.1 fun _ _ ⟨m',hc,hx⟩=>⟨m',ω,hc.fw hd hx⟩
def St.xS (s:St) (d:Nat) (ls:List L):St:=(s.KJ d ls).put d (.v (.one (.ptr d 0)))
theorem Sk {o:Oper} {e:TypeId} {x:Operand} {ty:TypeId} {d:Nat} {ls:List L} (ho:o.op=.box e x) (hd:o.dst=some d) (hn:d<s.n) (h:CI P w0 m0 F0 s a w m ω) (hx:dT T s ty x=some ls):rY P w0 m0 F0 o a w (s.xS d ls):=by
 obtain ⟨h1,h2⟩:=FI h hx
 obtain ⟨ω',hb,hbb⟩:=h.xS d hn (a.eval x).cells e ls h1 h2
 refine sj (v:=.pointer (some ⟨w.heap.size,0,none⟩)) (w':=w.alloc (.cells (a.eval x).cells e (0,0))) ?_ ⟨m,ω',?_⟩
 ·unfold execOp
  simp only [ho,Instr.box,newVar,newRow,newObj,Sem.run_bind,Sem.run,Result.andThen_ok,Sem.run_pure]
  rfl
 ·rw [hd]
  exact hb.put hn (by show _=_;rw [hbb])
theorem P6 {o:Oper} {e:TypeId} {i:TI} {d:Nat} {ls:List L} (ho:o.op=.alloc e) (hd:o.dst=some d) (hn:d<s.n) (hT:gM P e i=true) (hz:i.zero=some ls) (h:CI P w0 m0 F0 s a w m ω) :
  rY P w0 m0 F0 o a w (s.xS d ls):=by
 obtain ⟨inf,z,g1,g2,g3,_⟩:=(iM hT).zero ls hz
 obtain ⟨h1,h2⟩:=yl (m:=m) z.cells.toList ls g3
 obtain ⟨ω',hb,hbb⟩:=h.xS d hn z.cells e ls (by simpa using h1) (fun j l hj=>let ⟨v,h5,h6⟩:=h2 j l hj;⟨v,by simpa using h5,h6.ua⟩)
 refine sj (v:=.pointer (some ⟨w.heap.size,0,none⟩)) (w':=w.alloc (.cells z.cells e (0,0))) ?_ ⟨m,ω',?_⟩
 ·unfold execOp
  simp only [ho,Instr.alloc,zeroValue,typeInfo,program,newVar,newRow,newObj,Sem.run_bind,Sem.run,Result.andThen_ok,Sem.run_pure,g1,g2]
  rfl
 ·rw [hd]
  exact hb.put hn (by show _=_;rw [hbb])
theorem sP.grown {G:Nat→Prop} {v:Value} {l:L} {b:Nat} (h:sP m w ω G v l) (hg:w.grownBy w' (some b)) (hG:∀k,G k→k<w.heap.size∧k≠b):sP m w' ω G v l :=
 h.keep (Mem.le_refl m) fun k hk=>hg.block k (hG k hk).1 fun e=>(hG k hk).2 (by injection e)
theorem sQ.grown {G:Nat→Prop} {v:Value} {u:L} {o:Option L} {b:Nat} (h:sQ m w ω G v u o) (hg:w.grownBy w' (some b)) (hG:∀k,G k→k<w.heap.size∧k≠b):sQ m w' ω G v u o :=
 h.keep (Mem.le_refl m) fun k hk=>hg.block k (hG k hk).1 fun e=>(hG k hk).2 (by injection e)
theorem CI.TK (h:CI P w0 m0 F0 s a w m ω) {id:Nat} {ls0 ls:List L} (hb:look s.box id=some ls0) (hg:w.grownBy w' (some (ω.box id))) {cs:Array Value} {e:TypeId}
  (hh:w'.heap[ω.box id]?=some (.cells cs e (0,0))) (hs:cs.size=ls.length) (G:Nat→Nat→Prop) (hG:∀j k,G j k→ω.f false id k∧k≠ω.box id) (hD:∀j j' k,G j k→G j' k→j=j')
  (hc:∀(j:Nat) (l:L),ls[j]?=some l→∃v,cs[j]?=some v∧sP m w' ω (G j) v l):CI P w0 m0 F0 {s with box:=bz id ls s.box} a w' m ω:=by
 obtain ⟨cs0,e0,g1,g2,g3,_⟩:=h.box id ls0 hb
 have hlive:s.live false id:=by show (look s.box id).isSome;rw [hb];rfl
 have hf:=h.fresh false id hlive
 have hdel:∀κ i,({s with box:=Bw.del id s.box}:St).live κ i→s.live κ i∧¬ (κ=false∧i=id):=by
  intro κ i hl
  cases κ with
  | true=>exact ⟨hl,fun e=>by cases e.1⟩
  | false =>
   simp only [St.live] at hl
   rw [re] at hl
   split at hl
   ·cases hl
   ·rename_i hne;exact ⟨hl,fun e=>hne e.2⟩
 have h1:CI P w0 m0 F0 {s with box:=Bw.del id s.box} a w m ω:=h.weaken rfl (fun _ _ h=>h) (fun i l hi=>by
  rw [re] at hi
  split at hi
  ·cases hi
  ·exact hi) (fun _ _ h=>h)
 have h2:=h1.DC hg (hf _ g3).2.1 (fun κ i hl hk=>by
  obtain ⟨h3,h4⟩:=hdel κ i hl
  exact h4 (h.apart κ i false id h3 hlive _ hk g3)) (hf _ g3).2.2
 refine h2.wk id ls (by show look (Bw.del id s.box) id=none;rw [re,if_pos rfl]) (fun b hb'=>h.home.box id b hb' (by rw [hb];rfl)) ⟨cs,e,hh,hs,g3,G,hG,hD,hc⟩ (fun k hk=>?_) (fun κ i hl k hk hk'=>?_)
 ·obtain ⟨h3,h4,h5⟩:=hf k hk
  exact ⟨wN h3 hg.size,h4,h5⟩
 ·obtain ⟨h3,h4⟩:=hdel κ i hl
  exact h4 (h.apart κ i false id h3 hlive _ hk hk')
theorem CI.Hi (h:CI P w0 m0 F0 s a w m ω) {id:Nat} {r r':aN} (hb:look s.row id=some r) {b:Nat} (hblk:(ω.row id).sT=some b) (hg:w.grownBy w' (some b)) {cs:Array Value} {e:TypeId}
  (hh:w'.heap[b]?=some (.cells cs e (0,0))) (hs:cs.size=(ω.row id).cap * r'.sz) (hsz:(ω.row id).sz=r'.sz) (hx:∀x∈r'.xs,x.length=r'.sz) (hl:r'.xs.length≤(ω.row id).cap) (hC:BZ (ω.row id).cap cs r')
  (G:Nat→Nat→Nat→Prop) (hG:∀i j k,G i j k→ω.f true id k∧k≠b) (hD:∀i j i' j' k,G i j k→G i' j' k→i=i'∧j=j')
  (hc:∀i j u,cellOf r'.xs i j=some u→∃v,cs[i * r'.sz+j]?=some v∧sQ m w' ω (G i j) v u (aP r'.ov i j)):CI P w0 m0 F0 {s with row:=bz id r' s.row} a w' m ω:=by
 obtain ⟨g1,g2,g3⟩:=h.row id r hb
 rw [hblk] at g3
 obtain ⟨cs0,e0,k1,k2,k3,k4,k5,_⟩:=g3
 have hlive:s.live true id:=by show (look s.row id).isSome;rw [hb];rfl
 have hf:=h.fresh true id hlive
 have hdel:∀κ i,({s with row:=Bw.del id s.row}:St).live κ i→s.live κ i∧¬ (κ=true∧i=id):=by
  intro κ i hl
  cases κ with
  | false=>exact ⟨hl,fun e=>by cases e.1⟩
  | true =>
   simp only [St.live] at hl
   rw [re] at hl
   split at hl
   ·cases hl
   ·rename_i hne;exact ⟨hl,fun e=>hne e.2⟩
 have h1:CI P w0 m0 F0 {s with row:=Bw.del id s.row} a w m ω:=h.weaken rfl (fun _ _ h=>h) (fun _ _ h=>h) (fun i l hi=>by
  rw [re] at hi
  split at hi
  ·cases hi
  ·exact hi)
 have h2:=h1.DC hg (hf _ k5).2.1 (fun κ i hl hk=>by
  obtain ⟨h3,h4⟩:=hdel κ i hl
  exact h4 (h.apart κ i true id h3 hlive _ hk k5)) (hf _ k5).2.2
 refine h2.Av id r' (by show look (Bw.del id s.row) id=none;rw [re,if_pos rfl]) (fun b hb'=>h.home.row id b hb' (by rw [hb];rfl)) ⟨hsz,hx,?_⟩ (fun k hk=>?_) (fun κ i hl k hk hk'=>?_)
 ·rw [hblk]
  exact ⟨cs,e,hh,hs,hl,hC,k5,G,hG,hD,hc⟩
 ·obtain ⟨h3,h4,h5⟩:=hf k hk
  exact ⟨wN h3 hg.size,h4,h5⟩
 ·obtain ⟨h3,h4⟩:=hdel κ i hl
  exact h4 (h.apart κ i true id h3 hlive _ hk hk')
theorem Ds {cur:Array Value} {off:Nat} {vs:List Value} (hfit:off+vs.length≤cur.size) (k:Nat) :
  ((cur.toList.take off++vs++cur.toList.drop (off+vs.length)).toArray)[k]?=if off≤k∧k<off+vs.length then vs[k - off]? else cur[k]?:=by
 have hto:(cur.toList.take off).length=off:=by simp;omega
 simp only [gB]
 by_cases c1:k<off
 ·rw [if_neg (by omega),sV,vk (by omega),qg,if_pos c1]
  simp
 ·by_cases c2:k<off+vs.length
  ·rw [if_pos ⟨by omega,c2⟩,sV,ul (by omega),hto,vk (by omega)]
  ·rw [if_neg (by omega),ul (by simp only [bA,hto];omega),rJ]
   simp only [bA,hto,BY]
   congr 1
   omega
theorem Dr {cur:Array Value} {off:Nat} {vs:List Value} (hfit:off+vs.length≤cur.size):(cur.toList.take off++vs++cur.toList.drop (off+vs.length)).toArray.size=cur.size:=by
 simp;omega
theorem Dq (w:World) (b:Nat) (cs:Array Value):w.grownBy (w.setRow b cs) (some b) :=
 ⟨rfl,rfl,rfl,by simp,fun k _ hk=>setRow_other w _ k _ (fun e=>hk (by rw [e]))⟩
theorem TL (h:CI P w0 m0 F0 s a w m ω) {id off:Nat} {ls vs:List L} {cs:Array Value} (hb:look s.box id=some ls) (hfit:off+vs.length≤ls.length) (hl:cs.size=vs.length)
  (hr:∀(j:Nat) (l:L),vs[j]?=some l→∃v,cs[j]?=some v∧bi m ω v l) :
  ∃w',(storeCells ⟨ω.box id,off,none⟩ cs.toList).run P w=.ok () w'∧CI P w0 m0 F0 {s with box:=bz id (dp off vs ls) s.box} a w' m ω:=by
 obtain ⟨cur,e,h1,h2,h3,G,h4,h5,h6⟩:=h.box id ls hb
 have hlive:s.live false id:=by show (look s.box id).isSome;rw [hb];rfl
 have hone:∀v∈cs.toList,v.oneCell'=true:=by
  intro v hv
  obtain ⟨j,hj,rfl⟩:=List.mem_iff_getElem.1 hv
  have hj':j<vs.length:=by simp at hj;omega
  obtain ⟨u,h6,h7⟩:=hr j vs[j] (ig hj')
  have:cs.toList[j]=u:=by
   have h8:cs.toList[j]?=some u:=by simpa using h6
   rw [ig hj] at h8
   injection h8
  rw [this]
  exact h7.pN
 have hst:=run_storeCells_at P (ω.box id) off e cs.toList 0 cur w h1 (by simp;omega) hone
 simp only [eJ] at hst
 refine ⟨_,hst,?_⟩
 clear hst
 have hfit':off+cs.toList.length≤cur.size:=by simp;omega
 have hget:=fun k=>Ds hfit' k
 have hsize:=Dr hfit'
 generalize (cur.toList.take off++cs.toList++cur.toList.drop (off+cs.toList.length)).toArray=cs' at hget hsize
 have hg:=Dq w (ω.box id) cs'
 refine h.TK hb hg (setRow_heap w _ cur _ e _ h1) ?_ G h4 h5 (fun j l hj=>?_)
 ·rw [hsize,zJ];exact h2
 ·have hjl:j<ls.length:=by
   have:=(List.getElem?_eq_some_iff.1 hj).1
   rwa [zJ] at this
  rw [Cw off vs ls j hjl] at hj
  rw [hget]
  simp only [um,hl]
  split at hj
  ·rename_i hc
   rw [if_pos hc]
   obtain ⟨v,h7,h8⟩:=hr _ l hj
   exact ⟨v,by simpa using h7,h8.Cj⟩
  ·rename_i hc
   rw [if_neg hc]
   obtain ⟨v,h7,h8⟩:=h6 j l hj
   exact ⟨v,h7,h8.grown hg fun k hk=>⟨(h.fresh false id hlive k (h4 j k hk).1).1,(h4 j k hk).2⟩⟩
theorem P7 {o:Oper} {t:TypeId} {i:TI} {x y:Operand} {ty ty':TypeId} {id off:Nat} {ls vs:List L} (ho:o.op=.store t x y) (hd:o.dst=none) (hT:gM P t i=true) (h:CI P w0 m0 F0 s a w m ω)
  (hx:aE T s ty x=some (.v (.one (.ptr id off)))) (hb:look s.box id=some ls) (hy:dT T s ty' y=some vs) (hsz:vs.length=i.size) (hfit:off+vs.length≤ls.length) :
  rY P w0 m0 F0 o a w {s with box:=bz id (dp off vs ls) s.box}:=by
 have had:a.eval x=_:=iS h hx
 obtain ⟨h1,h2⟩:=FI h hy
 obtain ⟨inf,g1,g2,_⟩:=(iM hT).info
 obtain ⟨w',h3,h4⟩:=TL h hb hfit h1 h2
 refine My (w':=w') ?_ ⟨m,ω,?_⟩
 ·unfold execOp
  simp only [ho,had,Instr.storeAt,Instr.sureAddr,storeVar,Sem.run_bind,Sem.run_pure,Result.andThen_ok,run_sizeOf g1]
  rw [if_neg (by omega)]
  simp only [h3,Result.andThen_ok]
 ·rw [hd]
  exact h4
def fF (i o n:Nat):List (Nat×Nat×L)→List (Nat×Nat×L)
 | []=>[]
 | p::r=>if p.1=i∧o≤p.2.1∧p.2.1<o+n then fF i o n r else p::fF i o n r
def fq (i:Nat):Nat→List L→List (Nat×Nat×L)→List (Nat×Nat×L)
 | _,[],r=>r
 | o,l::ls,r=>if l.dH then fq i (o+1) ls r else (i,o,l)::fq i (o+1) ls r
theorem FJ (i o n:Nat):∀(ov:List (Nat×Nat×L)) (i' j':Nat),aP (fF i o n ov) i' j'=if i'=i∧o≤j'∧j'<o+n then none else aP ov i' j'
 | [],i',j'=>by simp [fF,aP]
 | (p,q,l)::r,i',j'=>by
  simp only [fF]
  split
  ·rename_i hc
   rw [FJ i o n r]
   simp only [aP]
   by_cases h1:i'=i∧o≤j'∧j'<o+n
   ·rw [if_pos h1,if_pos h1]
   ·rw [if_neg h1,if_neg h1,if_neg]
    rintro ⟨rfl,rfl⟩
    exact h1 hc
  ·rename_i hc
   simp only [aP]
   by_cases h1:p=i'∧q=j'
   ·rw [if_pos h1,if_neg]
    ·simp [h1]
    ·rintro h2
     obtain ⟨rfl,rfl⟩:=h1
     exact hc h2
   ·rw [if_neg h1,FJ i o n r,if_neg h1]
theorem Fe (i:Nat) (ov:List (Nat×Nat×L)):∀(ls:List L) (o i' j':Nat),aP (fq i o ls ov) i' j'=if i'=i∧o≤j'∧j'<o+ls.length then (match ls[j' - o]? with|some l=>if l.dH then aP ov i' j' else some l|none=>aP ov i' j') else aP ov i' j'
 | [],o,i',j'=>by
  rw [if_neg (by simp only [bI];omega)]
  rfl
 | l::ls,o,i',j'=>by
  have ih:=Fe i ov ls (o+1) i' j'
  by_cases hz:l.dH=true
  ·simp only [fq,hz,if_true]
   rw [ih]
   by_cases h0:i'=i∧j'=o
   ·obtain ⟨rfl,rfl⟩:=h0
    rw [if_neg (by omega),if_pos (by simp)]
    simp [hz]
   ·by_cases h1:i'=i∧o+1≤j'∧j'<o+1+ls.length
    ·rw [if_pos h1,if_pos (by simp;omega)]
     have:j' - o=(j' - (o+1))+1:=by omega
     rw [this,dr]
    ·rw [if_neg h1,if_neg (by simp;omega)]
  ·have hz:l.dH=false:=by simpa using hz
   simp only [fq,hz,de,if_false,aP]
   by_cases h0:i=i'∧o=j'
   ·obtain ⟨rfl,rfl⟩:=h0
    rw [if_pos ⟨rfl,rfl⟩,if_pos (by simp)]
    simp [hz]
   ·rw [if_neg h0,ih]
    by_cases h1:i'=i∧o+1≤j'∧j'<o+1+ls.length
    ·rw [if_pos h1,if_pos (by simp;omega)]
     have:j' - o=(j' - (o+1))+1:=by omega
     rw [this,dr]
    ·rw [if_neg h1,if_neg (by simp;omega)]
def aN.store (r:aN) (i o:Nat) (vs:List L):aN :=
 {sz:=r.sz,xs:=r.xs.set i (dp o (vs.map L.cP) (r.xs.getD i [])),ov:=fq i o vs (fF i o vs.length r.ov)}
theorem TM {n i j i' j':Nat} (hj:j<n) (hj':j'<n) (h:i * n+j=i' * n+j'):i=i'∧j=j':=by
 have h1:(i * n+j) / n=i:=by rw [y8,Pc (by omega),Pd hj];simp
 have h2:(i' * n+j') / n=i':=by rw [y8,Pc (by omega),Pd hj'];simp
 have h3:(i * n+j) % n=j:=by rw [y8,JN,E5 hj]
 have h4:(i' * n+j') % n=j':=by rw [y8,JN,E5 hj']
 exact ⟨by rw [←h1,h,h2],by rw [←h3,h,h4]⟩
theorem TN (h:CI P w0 m0 F0 s a w m ω) {id i off:Nat} {r:aN} {vs:List L} {cs:Array Value} (hb:look s.row id=some r) (hi:i<r.xs.length) (hfit:off+vs.length≤r.sz) (hl:cs.size=vs.length)
  (hr:∀(j:Nat) (l:L),vs[j]?=some l→∃v,cs[j]?=some v∧bi m ω v l) :
  ∃b w',(ω.row id).sT=some b∧(ω.row id).sz=r.sz∧(storeCells ⟨b,i * r.sz+off,none⟩ cs.toList).run P w=.ok () w'∧CI P w0 m0 F0 {s with row:=bz id (r.store i off vs) s.row} a w' m ω:=by
 obtain ⟨g1,g2,g3⟩:=h.row id r hb
 have hlive:s.live true id:=by show (look s.row id).isSome;rw [hb];rfl
 split at g3
 ·rw [g3.1] at hi;simp at hi
 rename_i b hblk
 obtain ⟨cur,e,k1,k2,k3,k4,k5,G,k6,k7,k8⟩:=g3
 have hone:∀v∈cs.toList,v.oneCell'=true:=by
  intro v hv
  obtain ⟨j,hj,rfl⟩:=List.mem_iff_getElem.1 hv
  have hj':j<vs.length:=by simp at hj;omega
  obtain ⟨u,h6,h7⟩:=hr j vs[j] (ig hj')
  have:cs.toList[j]=u:=by
   have h8:cs.toList[j]?=some u:=by simpa using h6
   rw [ig hj] at h8
   injection h8
  rw [this]
  exact h7.pN
 have hsz:i * r.sz+r.sz≤cur.size:=by
  have:(i+1) * r.sz≤(ω.row id).cap * r.sz:=tj _ (by omega)
  rw [rK] at this
  omega
 have hst:=run_storeCells_at P b (i * r.sz+off) e cs.toList 0 cur w k1 (by simp;omega) hone
 simp only [eJ] at hst
 refine ⟨b,_,hblk,g1,hst,?_⟩
 clear hst
 have hfit':i * r.sz+off+cs.toList.length≤cur.size:=by simp;omega
 have hget:=fun k=>Ds hfit' k
 have hsize:=Dr hfit'
 generalize (cur.toList.take (i * r.sz+off)++cs.toList++cur.toList.drop (i * r.sz+off+cs.toList.length)).toArray=cs' at hget hsize
 have hg:=Dq w b cs'
 have hxi:(r.xs.getD i []).length=r.sz:=by
  rw [show r.xs.getD i []=r.xs[i] by simp [List.getD,hi]]
  exact g2 _ (bl hi)
 refine h.Hi hb hblk hg (setRow_heap w _ cur _ e _ k1) ?_ g1 ?_ ?_ ?_ G k6 k7 (fun i' j u hu=>?_)
 ·rw [hsize];exact k2
 ·intro x hx
  rcases LC hx with hx|hx
  ·exact g2 x hx
  ·rw [hx,zJ];exact hxi
 ·simpa [aN.store] using k3
 ·refine ⟨k4.1,fun l hl'=>?_,fun q v hq=>?_⟩
  ·simp only [aN.store,tw] at hl' ⊢
   rw [Fe,FJ,if_neg (by omega),if_neg (by omega)] at hl'
   exact k4.2.1 l hl'
  ·rw [hget] at hq
   split at hq
   ·exact hone v (rX hq)
   ·exact k4.2.2 q v hq
 ·rw [hget]
  simp only [aN.store,um,hl]
  have hj:j<r.sz:=by
   unfold cellOf at hu
   simp only [aN.store] at hu
   rw [Ce] at hu
   split at hu
   ·rename_i he
    subst he
    simp only [hi,if_true,dJ] at hu
    have:=(List.getElem?_eq_some_iff.1 hu).1
    rwa [zJ,hxi] at this
   ·cases hq:r.xs[i']? with
    | none=>rw [hq] at hu;simp at hu
    | some x =>
     rw [hq] at hu
     simp only [dJ] at hu
     have:=g2 x (rX hq)
     rw [←this]
     exact (List.getElem?_eq_some_iff.1 hu).1
  rw [Fe,FJ]
  by_cases hc:i'=i∧off≤j∧j<off+vs.length
  ·obtain ⟨rfl,hc1,hc2⟩:=hc
   rw [if_pos (by omega),if_pos ⟨rfl,hc1,hc2⟩]
   have hlt:j - off<vs.length:=by omega
   obtain ⟨v,h7,h8⟩:=hr (j - off) vs[j - off] (ig hlt)
   refine ⟨v,by rw [show i' * r.sz+j - (i' * r.sz+off)=j - off by omega];simpa using h7,?_⟩
   rw [ig hlt]
   simp only
   have hu':u=(vs[j - off]).cP:=by
    unfold cellOf at hu
    simp only [aN.store] at hu
    rw [JP (by simpa using hi)] at hu
    simp only [dJ] at hu
    rw [Cw _ _ _ _ (by rw [hxi];exact hj),if_pos (by simp;omega)] at hu
    simpa [ig hlt] using hu.symm
   by_cases hz:(vs[j - off]).dH=true
   ·rw [if_pos hz]
    simp only [hc1,hc2,and_self,if_true]
    rw [hu']
    exact .fr ((h8.yi hz).cP hz)
   ·rw [if_neg hz]
    exact h8
  ·have hne:¬ (i * r.sz+off≤i' * r.sz+j∧i' * r.sz+j<i * r.sz+off+vs.length):=by
    rintro ⟨h1,h2⟩
    have hoff:i' * r.sz+j - i * r.sz<r.sz:=by omega
    obtain ⟨he1,he2⟩:=TM hj hoff (show i' * r.sz+j=i * r.sz+(i' * r.sz+j - i * r.sz) by omega)
    subst he1
    exact hc ⟨rfl,by omega,by omega⟩
   rw [if_neg hne,if_neg hc,if_neg hc]
   have hu':cellOf r.xs i' j=some u:=by
    unfold cellOf at hu ⊢
    simp only [aN.store] at hu
    rw [Ce] at hu
    split at hu
    ·rename_i he
     subst he
     simp only [hi,if_true,dJ] at hu
     rw [Cw _ _ _ _ (by rw [hxi];exact hj),if_neg (by simp;omega)] at hu
     rw [ig hi]
     simpa [List.getD,hi] using hu
    ·exact hu
   obtain ⟨v,h7,h8⟩:=k8 i' j u hu'
   exact ⟨v,h7,h8.grown hg fun k hk=>⟨(h.fresh true id hlive k (k6 _ _ _ hk).1).1,(k6 _ _ _ hk).2⟩⟩
theorem Sl {o:Oper} {t:TypeId} {ti:TI} {x y:Operand} {ty ty':TypeId} {id i off:Nat} {r:aN} {vs:List L} (ho:o.op=.store t x y) (hd:o.dst=none) (hT:gM P t ti=true) (h:CI P w0 m0 F0 s a w m ω)
  (hx:aE T s ty x=some (.v (.one (.dj id i off)))) (hb:look s.row id=some r) (hy:dT T s ty' y=some vs) (hsz:vs.length=ti.size) (hi:i<r.xs.length) (hfit:off+vs.length≤r.sz) :
  rY P w0 m0 F0 o a w {s with row:=bz id (r.store i off vs) s.row}:=by
 obtain ⟨b,hblk,had⟩:=iS h hx
 obtain ⟨h1,h2⟩:=FI h hy
 obtain ⟨inf,g1,g2,_⟩:=(iM hT).info
 obtain ⟨b',w',h3,h4,h5,h6⟩:=TN h hb hi hfit h1 h2
 rw [hblk] at h3
 injection h3 with hbb
 subst hbb
 rw [h4] at had
 refine My (w':=w') ?_ ⟨m,ω,?_⟩
 ·unfold execOp
  simp only [ho,had,Instr.storeAt,Instr.sureAddr,storeVar,Sem.run_bind,Sem.run_pure,Result.andThen_ok,run_sizeOf g1]
  rw [if_neg (by omega)]
  simp only [h5,Result.andThen_ok]
 ·rw [hd]
  exact h6
end
end Go.Bw
namespace Go.Bw
open Go.RowKit
section
variable {P:Program} {w0:World} {m0:Mem} {s s':St} {a:Act} {w w':World} {m:Mem} {ω:Wh} {F0:Home} {T:TypeId→Option TI}
theorem MO {id:Nat} {κ:Bool} {i:Nat} (h:(s.aV id).live κ i):s.live κ i∧¬ (κ=true∧i=id):=by
 cases κ with
 | false =>
  simp only [St.live] at h ⊢
  obtain ⟨x,hx⟩:=Option.isSome_iff_exists.1 h
  obtain ⟨y,hy,_⟩:=rR hx
  exact ⟨by rw [hy];rfl,fun e=>by cases e.1⟩
 | true =>
  simp only [St.live] at h ⊢
  obtain ⟨x,hx⟩:=Option.isSome_iff_exists.1 h
  obtain ⟨y,hy,_⟩:=rR hx
  rw [re] at hy
  split at hy
  ·cases hy
  ·rename_i hne;exact ⟨by rw [hy];rfl,fun e=>hne e.2⟩
def St.fx (s:St):Option Nat→St
 | none=>s
 | some id=>s.aV id
def L.kill:Option Nat→L→L
 | none,l=>l
 | some id,l=>l.aV id
def aN.kill:Option Nat→aN→aN
 | none,r=>r
 | some id,r=>r.map (L.aV id)
def St.xC (s:St) (src:Option Nat) (d:Nat) (r:aN):St :=
 {(s.fx src).aV d with row:=(d,(r.kill src).map (L.aV d))::((s.fx src).aV d).row}
theorem CI.Ap (h:CI P w0 m0 F0 s a w m ω) (src:Option Nat) (d:Nat) (hd:d<s.n) (ri:zD) (Fd:Nat→Prop) {r:aN}
  (hw:Below w.heap.size w w'∨∃b id,src=some id∧s.live true id∧ω.f true id b∧w.grownBy w' (some b))
  (hF:∀k,Fd k→(∃id,src=some id∧s.live true id∧ω.f true id k)∨(w.heap.size≤k∧k<w'.heap.size))
  (hR:uo m w' ω ri Fd r) :
  ∃ω',CI P w0 m0 F0 (s.xC src d r) a w' m ω'∧ω'.row d=ri∧∀v l,bi m ω v l→bi m ω' v ((l.kill src).aV d):=by
 have hwle:w.heap.size≤w'.heap.size:=by
  rcases hw with hw|⟨b,id,_,_,_,hw⟩
  ·exact hw.size
  ·exact hw.size
 have k1:∃ω1,CI P w0 m0 F0 (s.fx src) a w m ω1∧(∀v l,bi m ω v l→bi m ω1 v (l.kill src))∧(∀κ i,(s.fx src).live κ i→s.live κ i∧ω1.f κ i=ω.f κ i∧∀id,src=some id→¬ (κ=true∧i=id))∧uo m w' ω1 ri Fd (r.kill src):=by
  cases src with
  | none=>exact ⟨ω,h,fun _ _ h=>h,fun κ i hl=>⟨hl,rfl,fun id e=>by cases e⟩,hR⟩
  | some id =>
   refine ⟨_,h.aV id (ω.row id) (ω.f true id),fun v l hl=>?_,fun κ i hl=>?_,?_⟩
   ·refine Aw (ω:=ω) (fun i hi=>?_) ?_ hl
    ·simp [pY,hi]
    ·rfl
   ·obtain ⟨h1,h2⟩:=MO hl
    exact ⟨h1,by simp only [if_neg h2],fun id' e=>by injection e with e;subst e;exact h2⟩
   ·refine uo.sX (ω:=ω) ⟨Mem.le_refl m,fun v l hl=>?_,fun _ _=>rfl,fun _ _=>rfl⟩ hR
    refine Aw (ω:=ω) (fun i hi=>?_) ?_ hl
    ·simp [pY,hi]
    ·rfl
 obtain ⟨ω1,h1,e1,l1,r1⟩:=k1
 have h2:=h1.aV d ri Fd
 have hlive:∀κ i,((s.fx src).aV d).live κ i→s.live κ i∧(∀id,src=some id→¬ (κ=true∧i=id))∧(if κ=true∧i=d then Fd else ω1.f κ i)=ω.f κ i:=by
  intro κ i hl
  obtain ⟨g1,g2⟩:=MO hl
  obtain ⟨g3,g4,g5⟩:=l1 κ i g1
  exact ⟨g3,g5,by rw [if_neg g2];exact g4⟩
 have h3:CI P w0 m0 F0 ((s.fx src).aV d) a w' m {box:=ω1.box,row:=pY ω1.row d ri,f:=fun κ i=>if κ=true∧i=d then Fd else ω1.f κ i}:=by
  rcases hw with hw|⟨b,id,hs,hl,hb,hw⟩
  ·refine h2.grow hw (Mem.le_refl m) (fun _ _=>rfl) (fun x v hx=>?_)
   rw [hw.cell (World.block_lt_of_cell? w x (h.ok x v hx))]
   exact h.ok x v hx
  ·have hf:=h.fresh true id hl b hb
   refine h2.DC hw hf.2.1 (fun κ i hl' hk=>?_) hf.2.2
   obtain ⟨g1,g2,g3⟩:=hlive κ i hl'
   have hk':ω.f κ i b:=by rw [←g3];exact hk
   exact g2 id hs (h.apart κ i true id g1 hl b hk' hb)
 refine ⟨_,h3.Av d ((r.kill src).map (L.aV d)) (Fs _ d) (fun b hb=>by have:=(h.home.tz d (.inr (by rw [hb];rfl))).1;omega) ?_ ?_ ?_,by simp [pY],fun v l hl=>?_⟩
 ·have hRR:uo m w' {box:=ω1.box,row:=pY ω1.row d ri,f:=fun κ i=>if κ=true∧i=d then Fd else ω1.f κ i} ri Fd ((r.kill src).map (L.aV d)):=by
   refine uo.sX (ω:=ω1) ⟨Mem.le_refl m,fun v l hl=>?_,fun _ _=>rfl,fun _ _=>rfl⟩ r1
   refine Aw (ω:=ω1) (fun i hi=>?_) ?_ hl
   ·simp [pY,hi]
   ·rfl
  have e2:(pY ω1.row d ri) d=ri:=by simp [pY]
  have e3:(fun (κ:Bool) (i:Nat)=>if κ=true∧i=d then Fd else ω1.f κ i) true d=Fd:=by simp
  unfold vL
  simp only [e2,e3]
  exact hRR
 ·intro k hk
  simp only [true_and,if_true] at hk
  rcases hF k hk with ⟨id,hs,hl,hk⟩|⟨g1,g2⟩
  ·obtain ⟨g1,g2,g3⟩:=h.fresh true id hl k hk
   exact ⟨wN g1 hwle,g2,g3⟩
  ·refine ⟨g2,.inl (pU h.keeps.size g1),fun x v hx he=>?_⟩
   rw [Me h.ok (by omega)] at hx
   cases hx
 ·intro κ i hl k hk hk'
  obtain ⟨g1,g2,g3⟩:=hlive κ i hl
  have hk:ω.f κ i k:=by rw [←g3];exact hk
  simp only [true_and,if_true] at hk'
  rcases hF k hk' with ⟨id,hs,hl',hk''⟩|⟨g4,_⟩
  ·exact g2 id hs (h.apart κ i true id g1 hl' k hk hk'')
  ·have:=(h.fresh κ i g1 k hk).1
   omega
 ·refine Aw (ω:=ω1) (fun i hi=>?_) ?_ (e1 v l hl)
  ·simp [pY,hi]
  ·rfl
def eB (n:Nat):List (Nat×Nat×L)→List (Nat×Nat×L)
 | []=>[]
 | p::r=>(n+p.1,p.2.1,p.2.2)::eB n r
theorem Bn (n:Nat):∀(ov:List (Nat×Nat×L)) (i j:Nat),aP (eB n ov) i j=if n≤i then aP ov (i - n) j else none
 | [],i,j=>by simp [eB,aP]
 | (p,q,l)::r,i,j=>by
  simp only [eB,aP]
  rw [Bn n r]
  by_cases hi:n≤i
  ·rw [if_pos hi]
   by_cases h1:n+p=i∧q=j
   ·rw [if_pos h1,if_pos hi,if_pos ⟨by omega,h1.2⟩]
   ·rw [if_neg h1,if_pos hi,if_neg (fun e=>h1 ⟨by omega,e.2⟩)]
  ·rw [if_neg hi,if_neg (fun e=>hi (by omega)),if_neg hi]
def yL (m:Mem) (w:World) (ω:Wh) (v:Value) (sz:Nat) (ys:List (List L)) (ov:List (Nat×Nat×L)):Prop :=
 ∃A c,v=.slice A ys.length c∧ys.length≤c∧(∀y∈ys,y.length=sz)∧(A=none→ys=[])∧∀ad,A=some ad→∃news:List Value,news.length=ys.length * sz∧(∀(j:Nat) (u:Value),news[j]?=some u→w.cell? (ad.add j)=some u) ∧
  (∀u∈news,u.oneCell'=true)∧∀i j u,cellOf ys i j=some u→∃v,news[i * sz+j]?=some v∧sQ m w ω (fun _=>False) v u (aP ov i j)
theorem TO (hok:∀x v,m x=some v→w.cell? x=some v) {ad:Addr} {n c sz:Nat} {ys:List (List L)} (h:aM m (.slice (some ad) n c) (.sl sz ys)) :
  n=ys.length∧∃news:List Value,news.length=n * sz∧(∀(j:Nat) (u:Value),news[j]?=some u→w.cell? (ad.add j)=some u)∧(∀u∈news,u.oneCell'=true) ∧
   ∀i j u,cellOf ys i j=some u→∃v,news[i * sz+j]?=some v∧aM m v u:=by
 cases h with
 | sl _ _ _ _ _ vals hlen hc hz hm hr =>
  refine ⟨hlen,?_⟩
  have hcell:∀q,q<n * sz→∃u,cellOf ys (q / sz) (q % sz)=some u:=by
   intro q hq
   have hsz:0<sz:=by
    rcases vi sz with h0|h0
    ·rw [h0] at hq;simp at hq
    ·exact h0
   have h1:q / sz<ys.length:=by rw [←hlen];exact XP (by rw [y8];exact hq)
   have h2:(ys[q / sz]).length=sz:=hz _ (bl h1)
   have h3:q % sz<(ys[q / sz]).length:=by rw [h2];exact CL _ hsz
   exact ⟨ys[q / sz][q % sz],by simp [cellOf,h1,h3]⟩
  refine ⟨List.ofFn fun q:Fin (n * sz)=>vals (q / sz) (q % sz),by simp,fun j u hj=>?_,fun u hu=>?_,fun i j u hu=>?_⟩
  ·rw [JO] at hj
   split at hj
   ·rename_i hlt
    injection hj with hj
    subst hj
    obtain ⟨l,hl⟩:=hcell j hlt
    have:=hok _ _ (hm _ _ _ hl)
    rwa [show j / sz * sz+j % sz=j from by rw [y8];exact XQ j sz] at this
   ·cases hj
  ·obtain ⟨q,rfl⟩:=List.mem_ofFn.1 hu
   obtain ⟨l,hl⟩:=hcell q q.2
   exact (hr _ _ _ hl).pN
  ·have hi:i<n:=by
    unfold cellOf at hu
    cases h1:ys[i]? with
    | none=>rw [h1] at hu;simp at hu
    | some x=>rw [hlen];exact (List.getElem?_eq_some_iff.1 h1).1
   have hj:j<sz:=by
    unfold cellOf at hu
    cases h1:ys[i]? with
    | none=>rw [h1] at hu;simp at hu
    | some x =>
     rw [h1] at hu
     have:=hz x (rX h1)
     rw [←this]
     exact (List.getElem?_eq_some_iff.1 hu).1
   have hlt:i * sz+j<n * sz:=by
    have:(i+1) * sz≤n * sz:=tj sz hi
    rw [rK] at this
    omega
   refine ⟨vals i j,?_,hr _ _ _ hu⟩
   rw [JO,dif_pos hlt]
   have hsz:0<sz:=by omega
   have e1:(i * sz+j) / sz=i:=by
    rw [y8,Pc hsz,Pd hj];simp
   have e2:(i * sz+j) % sz=j:=by
    rw [y8,JN,E5 hj]
   simp only [e1,e2]
theorem LV (hok:∀x v,m x=some v→w.cell? x=some v) {v:Value} {sz:Nat} {ys:List (List L)} (h:aM m v (.sl sz ys)):yL m w ω v sz ys []:=by
 cases h with
 | vK=>exact ⟨none,0,rfl,br _,(fun y hy=>by cases hy),fun _=>rfl,fun ad h=>by cases h⟩
 | sl ad len cap _ _ vals hlen hc hz hm hr =>
  obtain ⟨_,news,h1,h2,h3,h4⟩:=TO hok (aM.sl (m:=m) ad len cap sz ys vals hlen hc hz hm hr)
  subst hlen
  refine ⟨some ad,cap,rfl,hc,hz,(fun h=>by cases h),fun ad' e=>?_⟩
  injection e with e
  subst e
  exact ⟨news,h1,h2,h3,fun i j u hu=>let ⟨v,h5,h6⟩:=h4 i j u hu;⟨v,h5,eS.fr h6⟩⟩
theorem LW {v:Value} {z:Nat} (h:aM m v (.nil z)) (sz:Nat):yL m w ω v sz [] []:=by
 cases h
 exact ⟨none,0,rfl,br _,(fun y hy=>by cases hy),fun _=>rfl,fun ad h=>by cases h⟩
def L.fS:L→Bool|.own _ _=>true|_=>false
def pT (xs:List (List L)):Prop:=∀x∈xs,∀l∈x,l.fS=false
theorem Ia {xs:List (List L)} {i j:Nat} {u:L} (h:cellOf xs i j=some u):∃x∈xs,u∈x:=by
 unfold cellOf at h
 cases hx:xs[i]? with
 | none=>rw [hx] at h;simp at h
 | some x=>rw [hx] at h;exact ⟨x,rX hx,rX h⟩
theorem sQ.pT {G:Nat→Prop} {v:Value} {u:L} {o:Option L} (h:sQ m w ω G v u o) (hu:u.fS=false) (G':Nat→Prop):sQ m w ω G' v u o:=by
 cases o with
 | some l=>exact h
 | none =>
  have h:eS m w G v u:=h
  cases h with
  | fr h=>exact eS.fr h
  | yj=>cases hu
  | own=>cases hu
theorem sQ.LI {v:Value} {u:L} {o:Option L} (h:sQ m w ω (fun _=>False) v u o) (_ G':Nat→Prop):sQ m w ω G' v u o:=by
 cases o with
 | some l=>exact h
 | none=>exact eS.sub h fun k hk=>hk.elim
theorem sQ.pN {G:Nat→Prop} {v:Value} {u:L} {o:Option L} (h:sQ m w ω G v u o):v.oneCell'=true:=by
 cases o with
 | some l=>exact bi.pN h
 | none=>exact eS.pN h
theorem Dp (h:CI P w0 m0 F0 s a w m ω) {id:Nat} {r:aN} (hb:look s.row id=some r) {b:Nat} (hblk:(ω.row id).sT=some b) {lo n:Nat} (hn:lo+n≤r.xs.length) :
  ∃(cs:Array Value) (e:TypeId) (G:Nat→Nat→Nat→Prop),w.heap[b]?=some (.cells cs e (0,0))∧cs.size=(ω.row id).cap * r.sz∧(∀i j k,G i j k→ω.f true id k∧k≠b)∧(∀i j i' j' k,G i j k→G i' j' k→i=i'∧j=j')∧ω.f true id b ∧
   ∃news:List Value,news.length=n * r.sz∧news=(cs.toList.drop (lo * r.sz)).take (n * r.sz)∧(∀u∈news,u.oneCell'=true)∧(∀i j u,cellOf ((r.xs.drop lo).take n) i j=some u→∃v,news[i * r.sz+j]?=some v∧sQ m w ω (G (lo+i) j) v u (aP r.ov (lo+i) j)):=by
 obtain ⟨g1,g2,g3⟩:=h.row id r hb
 rw [hblk] at g3
 obtain ⟨cs,e,k1,k2,k3,k4,k5,G,k6,k7,k8⟩:=g3
 have hfit:lo * r.sz+n * r.sz≤cs.size:=by
  rw [k2,←rK]
  exact tj _ (by omega)
 have hcell:∀i j u,cellOf ((r.xs.drop lo).take n) i j=some u→i<n∧j<r.sz∧cellOf r.xs (lo+i) j=some u:=by
  intro i j u hu
  unfold cellOf at hu ⊢
  rw [qg] at hu
  split at hu
  ·rename_i hi
   rw [rJ] at hu
   refine ⟨hi,?_,hu⟩
   cases hx:r.xs[lo+i]? with
   | none=>rw [hx] at hu;simp at hu
   | some x =>
    rw [hx] at hu
    rw [←g2 x (rX hx)]
    exact (List.getElem?_eq_some_iff.1 hu).1
  ·simp at hu
 have hget:∀k,((cs.toList.drop (lo * r.sz)).take (n * r.sz))[k]?=if k<n * r.sz then cs[lo * r.sz+k]? else none:=by
  intro k
  rw [qg]
  split
  ·rw [rJ];simp
  ·rfl
 refine ⟨cs,e,G,k1,k2,k6,k7,k5,_,?_,rfl,fun u hu=>?_,fun i j u hu=>?_⟩
 ·simp only [rV,wu,um]
  omega
 ·obtain ⟨q,hq,rfl⟩:=List.mem_iff_getElem.1 hu
  have hq':q<n * r.sz:=by simp at hq;omega
  have hsz:0<r.sz:=by
   rcases vi r.sz with h0|h0
   ·rw [h0] at hq';simp at hq'
   ·exact h0
  have h1:q / r.sz<n:=XP (by rw [y8];exact hq')
  have hlt:lo+q / r.sz<r.xs.length:=by omega
  have h2:(r.xs[lo+q / r.sz]).length=r.sz:=g2 _ (bl hlt)
  have h3:q % r.sz<(r.xs[lo+q / r.sz]).length:=by rw [h2];exact CL _ hsz
  obtain ⟨v,h4,h5⟩:=k8 (lo+q / r.sz) (q % r.sz) (r.xs[lo+q / r.sz][q % r.sz]) (by simp [cellOf,hlt,h3])
  have h6:(lo+q / r.sz) * r.sz+q % r.sz=lo * r.sz+q:=by
   rw [rK,uX,y8 (q / r.sz),XQ]
  rw [h6] at h4
  have h7:=hget q
  rw [if_pos hq',h4,ig hq] at h7
  injection h7 with h7
  rw [h7]
  exact h5.pN
 ·obtain ⟨hi,hj,hu'⟩:=hcell i j u hu
  obtain ⟨v,h4,h5⟩:=k8 _ j u hu'
  refine ⟨v,?_,h5⟩
  have hlt:i * r.sz+j<n * r.sz:=by
   have:(i+1) * r.sz≤n * r.sz:=tj r.sz hi
   rw [rK] at this
   omega
  rw [hget,if_pos hlt,←h4]
  congr 1
  rw [rK]
  omega
theorem Du (h:CI P w0 m0 F0 s a w m ω) {v:Value} {id lo n:Nat} {r:aN} (hv:rk (ω.row id) lo n v) (hb:look s.row id=some r) (hn:lo+n≤r.xs.length) (ho:pT r.xs) {ov:List (Nat×Nat×L)} (hov:∀i j,i<n→aP ov i j=aP r.ov (lo+i) j) :
  yL m w ω v r.sz ((r.xs.drop lo).take n) ov:=by
 obtain ⟨g1,g2,g3⟩:=h.row id r hb
 have hlen:((r.xs.drop lo).take n).length=n:=by simp;omega
 rcases hv with ⟨g0,rfl,rfl,rfl⟩|⟨b,ad,k1,k2,rfl,k4⟩
 ·exact ⟨none,0,rfl,by simp,by simp,fun _=>by simp,fun ad h=>by cases h⟩
 ·obtain ⟨cs,e,G,q1,q2,q3,q4,q5,news,q6,q7,q8,q9⟩:=Dp h hb k1 hn
  refine ⟨some ad,_,by rw [hlen],by rw [hlen];omega,(fun y hy=>g2 y (zB (tv hy))),(fun h=>by cases h),fun ad' e=>?_⟩
  injection e with e
  subst e
  refine ⟨news,by rw [hlen];exact q6,fun j u hu=>?_,q8,fun i j u hu=>?_⟩
  ·have hj:j<n * r.sz:=by rw [←q6];exact (List.getElem?_eq_some_iff.1 hu).1
   have hlt:lo<(ω.row id).cap:=by
    rcases vi n with h0|h0
    ·rw [h0] at hj;simp at hj
    ·omega
   rw [k4 (.inl hlt),Addr.add_lit,cell_of_row w _ _ cs e (0,0) q1,g1]
   rw [q7,qg,if_pos hj,rJ] at hu
   simpa using hu
  ·obtain ⟨v,h5,h6⟩:=q9 i j u hu
   have hi:i<n:=by
    unfold cellOf at hu
    rw [qg] at hu
    split at hu
    ·assumption
    ·simp at hu
   refine ⟨v,h5,?_⟩
   rw [hov i j hi]
   have hu2:u.fS=false:=by
    obtain ⟨x,hx,hux⟩:=Ia hu
    exact ho x (zB (tv hx)) u hux
   exact h6.pT hu2 _
end
end Go.Bw
namespace Go.Bw
open Go.RowKit
section
variable {P:Program} {w0:World} {m0:Mem} {s s':St} {a:Act} {w w':World} {m:Mem} {ω:Wh} {F0:Home} {T:TypeId→Option TI}
theorem HN (t ty e e':TypeId) (i:TypeInfo) (ht:P.underlying t=some (.slice e)) (hi:P.info? e=some i)
  (g sLen sCap:Nat) (cur:Array Value) (hg:w.heap[g]?=some (.cells cur e' (0,0)))
  (ad:Addr) (k c:Nat) (news:List Value) (hl:news.length=k * i.size) (hnews:∀j u,news[j]?=some u→w.cell? (ad.add j)=some u) (h1:∀u∈news,u.oneCell'=true)
  (hroom:sLen+k≤sCap) (hfit:sLen * i.size+news.length≤cur.size) :
  (Builtin.append_ #[t,t] ty #[.slice (some ⟨g,0,none⟩) sLen sCap,.slice (some ad) k c]).run P w =
   .ok (.slice (some ⟨g,0,none⟩) (sLen+k) sCap) (w.setRow g (cur.toList.take (sLen * i.size)++news++cur.toList.drop (sLen * i.size+news.length)).toArray):=by
 have hf:=run_firstCells_some (P:=P) w i.size k ad k c news hl hnews
 have hst:=run_storeCells_at P g (sLen * i.size) e' news 0 cur w hg (by simpa using hfit) h1
 simp only [eJ] at hst
 simp [Builtin.append_,run_underlying ht,sizeOf,typeInfo,hi,Builtin.lenOf,hroom,hf,Addr.add_lit,hst]
theorem zF {xs ys:List (List L)} {i j:Nat} {u:L} (h:cellOf (xs++ys) i j=some u):(i<xs.length∧cellOf xs i j=some u)∨(xs.length≤i∧cellOf ys (i - xs.length) j=some u):=by
 unfold cellOf at h ⊢
 by_cases hi:i<xs.length
 ·rw [vk hi] at h
  exact .inl ⟨hi,h⟩
 ·rw [ul (by omega)] at h
  exact .inr ⟨by omega,h⟩
inductive Fa (s:St):L→Nat→List (List L)→Option Nat→Prop
 | nil (z sz:Nat):Fa s (.nil z) sz [] none
 | ref (id n:Nat) (r:aN) (hb:look s.row id=some r) (hov:r.ov=[]) (hn:n≤r.xs.length):Fa s (.ref id 0 n) r.sz (r.xs.take n) (some id)
def St.appended (s:St) (src:Option Nat) (d sz:Nat) (xs:List (List L)) (ov:List (Nat×Nat×L)):St :=
 (s.xC src d ⟨sz,xs,ov⟩).put d (.v (.one (.ref d 0 xs.length)))
theorem Ao (src:Option Nat) (d:Nat) (r:aN):(s.xC src d r).n=s.n:=by cases src<;>rfl
theorem Rr {o:Oper} {t e:TypeId} {i j:TI} {x y:Operand} {ty:TypeId} {d sz:Nat} {l1:L} {xs ys:List (List L)} {src:Option Nat} {z:List L} {ov:List (Nat×Nat×L)} (ho:o.op=.call {callee:=.builtin .append,args:=#[x,y],argTypes:=#[t,t]})
  (hd:o.dst=some d) (hn:d<s.n) (hT:gM P t i=true) (he:i.elem=some e) (hE:gM P e j=true) (hz:j.zero=some z) (hsz:j.size=sz) (hzl:z.length=sz) (h:CI P w0 m0 F0 s a w m ω)
  (hx:aE T s ty x=some (.v (.one l1))) (hs:Fa s l1 sz xs src) (hy:yL m w ω (a.eval y) sz ys ov) (hov0:aP ov ys.length 0=none)
  (hb:(xs.length+ys.length) * j.bytes≤140737488355328) (hm:xs.length+ys.length≤9223372036854775807):rY P w0 m0 F0 o a w (s.appended src d sz (xs++ys) (eB xs.length ov)):=by
 have hu:=(iM hT).elem e he
 obtain ⟨inf,zv,g1,g2,g3,_⟩:=(iM hE).zero z hz
 obtain ⟨inf',g4,g5,g6⟩:=(iM hE).info
 rw [g1] at g4
 injection g4 with g4
 subst g4
 rw [hsz] at g5
 have hzs:zv.cells.size=sz:=by
  have:=(yl (m:=m) zv.cells.toList z g3).1
  simpa [hzl] using this
 have hz1:∀(v:Value),v∈zv.cells→v.oneCell'=true:=by
  intro v hv
  obtain ⟨k,hk,rfl⟩:=Array.mem_iff_getElem.1 hv
  obtain ⟨k1,k2⟩:=yl (m:=m) zv.cells.toList z g3
  have hk':k<z.length:=by simp at k1;omega
  obtain ⟨v',k3,k4⟩:=k2 k z[k] (ig hk')
  have:v'=zv.cells[k]:=by
   rw [ig (by simpa using hk)] at k3
   injection k3 with k3
   rw [←k3];simp
  rw [←this]
  exact k4.pN
 have hz0:∀(k:Nat) (v:Value),v∈Builtin.zeroCells zv.cells k→v.oneCell'=true:=by
  intro k v hv
  unfold Builtin.zeroCells at hv
  obtain ⟨q,hq,rfl⟩:=Array.mem_map.1 hv
  have hq:q<k * zv.cells.size:=by simpa using hq
  have hpos:0<zv.cells.size:=by
   rcases vi zv.cells.size with h0|h0
   ·rw [h0] at hq;simp at hq
   ·exact h0
  rw [JE zv.cells (q % zv.cells.size) (CL _ hpos)]
  exact hz1 _ (Array.getElem_mem _)
 obtain ⟨q,hq⟩:=w3 (P:=P) (a:=a) (w:=w) ho
 have hv1:bi m ω (a.eval x) l1:=iS h hx
 generalize hax:a.eval x=v1 at *
 generalize hay:a.eval y=v2 at *
 have hrun:(execOp a.eval o).run P w=((Builtin.append_ #[t,t] o.type #[v1,v2]).run P w).andThen fun v w'=>.ok (.value v) w':=by
  rw [hq]
  simp only [wb,aJ,aI,hax,hay,builtin,Sem.run_bind,Sem.run_pure]
 have hmaxw:maxLen=9223372036854775807:=rfl
 obtain ⟨A2,c2,rfl,hc2,hys,hnone,hnews⟩:=hy
 have fin:∀(v':Value) (w':World) (ri:zD) (Fd:Nat→Prop),(Builtin.append_ #[t,t] o.type #[v1,.slice A2 ys.length c2]).run P w=.ok v' w' →
   (Below w.heap.size w w'∨∃b id,src=some id∧s.live true id∧ω.f true id b∧w.grownBy w' (some b)) →
   (∀k,Fd k→(∃id,src=some id∧s.live true id∧ω.f true id k)∨(w.heap.size≤k∧k<w'.heap.size)) →
   uo m w' ω ri Fd ⟨sz,xs++ys,eB xs.length ov⟩→rk ri 0 (xs++ys).length v'→rY P w0 m0 F0 o a w (s.appended src d sz (xs++ys) (eB xs.length ov)):=by
  intro v' w' ri Fd hr hw hF hR hv'
  refine sj (v:=v') (w':=w') (by rw [hrun,hr];rfl) ?_
  obtain ⟨ω',hC,hri,_⟩:=h.Ap src d hn ri Fd hw hF hR
  rw [hd]
  exact ⟨m,ω',hC.put (by rw [Ao];exact hn) (by show rk (ω'.row d) 0 _ v';rw [hri];exact hv')⟩
 have grown:∀(olds news:List Value) (old:Nat) (Fd:Nat→Prop) (G:Nat→Nat→Nat→Prop),olds.length=xs.length * sz→news.length=ys.length * sz→(∀x∈xs,x.length=sz) →
   (∀k,Fd k→∃id,src=some id∧s.live true id∧ω.f true id k)→(∀i j k,G i j k→Fd k)→(∀i j i' j' k,G i j k→G i' j' k→i=i'∧j=j') →
   (∀i j u,cellOf xs i j=some u→∃v,olds[i * sz+j]?=some v∧eS m w (G i j) v u) →
   (∀i j u,cellOf ys i j=some u→∃v,news[i * sz+j]?=some v∧sQ m w ω (fun _=>False) v u (aP ov i j))→old<xs.length+ys.length→(∀v∈olds,v.oneCell'=true)→(∀v∈news,v.oneCell'=true) →
   (Builtin.append_ #[t,t] o.type #[v1,.slice A2 ys.length c2]).run P w=.ok (.slice (some ⟨w.heap.size,0,none⟩) (xs.length+ys.length) (grownCap w (xs.length+ys.length) old e))
    (w.drew.alloc (.cells (olds.toArray++news.toArray++Builtin.zeroCells zv.cells (grownCap w (xs.length+ys.length) old e - (xs.length+ys.length))) e)) →
   rY P w0 m0 F0 o a w (s.appended src d sz (xs++ys) (eB xs.length ov)):=by
  intro olds news old Fd G ho' hnw hxs hFd hG hGD h1 h2 hlt hon hnn hr
  have hge:=grownCap_ge w (xs.length+ys.length) old e
  have hcm:grownCap w (xs.length+ys.length) old e≤maxLen:=grownCap_le_maxLen w _ old e (by rw [hmaxw];exact hm)
  have hbl:Below w.heap.size w (w.drew.alloc (.cells (olds.toArray++news.toArray++Builtin.zeroCells zv.cells (grownCap w (xs.length+ys.length) old e - (xs.length+ys.length))) e)) :=
   ((Below.refl _ w).drew).alloc (br _) _
  have hh:(w.drew.alloc (.cells (olds.toArray++news.toArray++Builtin.zeroCells zv.cells (grownCap w (xs.length+ys.length) old e - (xs.length+ys.length))) e)).heap[w.heap.size]?=_:=heap_alloc_new w.drew _
  have hsize:w.heap.size<(w.drew.alloc (.cells (olds.toArray++news.toArray++Builtin.zeroCells zv.cells (grownCap w (xs.length+ys.length) old e - (xs.length+ys.length))) e)).heap.size:=(Array.getElem?_eq_some_iff.1 hh).1
  have hold:∀k,Fd k→k<w.heap.size:=fun k hk=>by
   obtain ⟨id,_,hl,hk⟩:=hFd k hk
   exact (h.fresh true id hl k hk).1
  refine fin _ _ ⟨some w.heap.size,grownCap w (xs.length+ys.length) old e,sz⟩ (fun k=>Fd k∨k=w.heap.size) hr (.inl hbl) (fun k hk=>?_) ⟨rfl,fun x hx=>?_,?_⟩ (.inr ⟨w.heap.size,⟨w.heap.size,0,none⟩,rfl,by simp;omega,by simp,fun _=>by simp⟩)
  ·rcases hk with hk|rfl
   ·exact .inl (hFd k hk)
   ·exact .inr ⟨br _,hsize⟩
  ·rcases List.mem_append.1 hx with hx|hx
   ·exact hxs x hx
   ·exact hys x hx
  ·refine ⟨_,e,hh,?_,by simpa using hge,⟨hcm,fun l hl=>?_,fun q v hq=>?_⟩,.inr rfl,G,(fun i j k hk=>⟨.inl (hG i j k hk),fun e=>?_⟩),hGD,fun i j u hu=>?_⟩
   ·simp only [JF,El,size_zeroCells,hzs,ho',hnw,←rK]
    congr 1
    omega
   ·simp only [bA] at hl
    rw [Bn,if_pos (by omega),Xx,hov0] at hl
    cases hl
   ·have hm':=EJ hq
    simp only [JG,JH] at hm'
    rcases hm' with (hm'|hm')|hm'
    ·exact hon v hm'
    ·exact hnn v hm'
    ·exact hz0 _ v hm'
   ·have:=hold k (hG i j k hk)
    omega
   ·simp only at hu
    have hszr:(⟨sz,xs++ys,eB xs.length ov⟩:aN).sz=sz:=rfl
    rw [hszr]
    rcases zF hu with ⟨hi,hu⟩|⟨hi,hu⟩
    ·obtain ⟨v,h3,h4⟩:=h1 i j u hu
     refine ⟨v,?_,?_⟩
     ·have hlt':i * sz+j<olds.length:=(List.getElem?_eq_some_iff.1 h3).1
      rw [x5 (by simp;omega),x5 (by simpa using hlt')]
      simpa using h3
     ·rw [Bn,if_neg (by omega)]
      exact eS.keep (Mem.le_refl m) h4 fun k hk=>hbl.block k (hold k (hG i j k hk))
    ·obtain ⟨v,h3,h4⟩:=h2 _ j u hu
     refine ⟨v,?_,?_⟩
     ·have hlt':=(List.getElem?_eq_some_iff.1 h3).1
      have he1:i * sz+j - olds.length=(i - xs.length) * sz+j:=by
       rw [ho',Em]
       have:xs.length * sz≤i * sz:=tj _ hi
       omega
      have hge':olds.length≤i * sz+j:=by
       rw [ho']
       have:xs.length * sz≤i * sz:=tj _ hi
       omega
      rw [x5 (by simp;omega),JI (by simpa using hge')]
      simp only [El,he1]
      simpa using h3
     ·rw [Bn,if_pos hi]
      exact (h4.LI (fun _=>False) (G i j)).keep (Mem.le_refl m) fun k hk=>hbl.block k (hold k (hG i j k hk))
 have onnil:∀(_:v1=.slice none 0 0) (_:xs=[]),rY P w0 m0 F0 o a w (s.appended src d sz (xs++ys) (eB xs.length ov)):=by
  intro e1 e2
  subst e1 e2
  rcases vi ys.length with h0|h0
  ·have hy0:ys=[]:=Al h0
   subst hy0
   have hrun0:(Builtin.append_ #[t,t] o.type #[.slice none 0 0,.slice A2 0 c2]).run P w=.ok (.slice none 0 0) w:=by
    cases A2 with
    | none=>simp [Builtin.append_,run_underlying hu,sizeOf,typeInfo,g1,Builtin.lenOf,Builtin.firstCells]
    | some ad2=>simp [Builtin.append_,run_underlying hu,sizeOf,typeInfo,g1,Builtin.lenOf,Builtin.firstCells,loadCells,loadCellsFrom]
   exact fin _ w ⟨none,0,sz⟩ (fun _=>False) hrun0 (.inl (Below.refl _ _)) (fun k hk=>hk.elim) ⟨rfl,fun x hx=>by simp at hx,rfl,rfl⟩ (.inl ⟨rfl,rfl,rfl,rfl⟩)
  ·cases A2 with
   | none=>rw [hnone rfl] at h0;simp at h0
   | some ad2 =>
    obtain ⟨news,hnl,hnc,hn1,hnr⟩:=hnews ad2 rfl
    have hr:=run_append_nil (P:=P) w t o.type e inf zv hu g1 g2 ad2 ys.length c2 news (by rw [g5];exact hnl) hnc h0 (by simp only [bI,cN] at hm;omega) (by simp only [bI,cN] at hb;rw [g6];omega)
    refine grown [] news 0 (fun _=>False) (fun _ _ _=>False) (by simp) hnl (fun x hx=>by cases hx) (fun k hk=>hk.elim) (fun i j k hk=>hk) (fun i j i' j' k hk=>hk.elim) (fun i j u hu'=>by simp [cellOf] at hu') hnr (by simp;omega) (by simp) hn1 ?_
    simp only [bI,cN]
    rw [hr]
    simp
 cases hs with
 | nil z sz =>
  have hv1:aM m v1 (.nil z):=hv1
  cases hv1
  exact onnil rfl rfl
 | ref id n r hrow hov hnr' =>
  rcases hv1 with ⟨_,_,rfl,rfl⟩|⟨b,ad,k1,k2,rfl,k4⟩
  ·exact onnil rfl (by simp)
  ·have had:=k4 (.inr rfl)
   have hlive:s.live true id:=by show (look s.row id).isSome;rw [hrow];rfl
   obtain ⟨q1,q2,q3⟩:=h.row id r hrow
   simp only [zA] at had
   subst had
   have hlx:(r.xs.take n).length=n:=by simp;omega
   obtain ⟨cur,e',G,p1,p2,p3,p4,p5,olds,p6,p7,p8,p9⟩:=Dp h hrow k1 (lo:=0) (n:=n) (by omega)
   simp only [dA,zA,cN] at p7 p9
   have hxs:∀x∈r.xs.take n,x.length=r.sz:=fun x hx=>q2 x (tv hx)
   have hcapo:BZ (ω.row id).cap cur r:=by
    rw [k1] at q3
    obtain ⟨cs0,e0,q5,_,_,q4,_⟩:=q3
    rw [p1] at q5
    injection (Ae q5) with q6
    rw [q6]
    exact q4
   have hcap:(ω.row id).cap≤maxLen:=hcapo.1
   have holds:∀i j u,cellOf (r.xs.take n) i j=some u→∃v,olds[i * r.sz+j]?=some v∧eS m w (G i j) v u:=by
    intro i j u hu
    obtain ⟨v,h3,h4⟩:=p9 i j u hu
    rw [hov] at h4
    exact ⟨v,h3,h4⟩
   rw [hlx] at hb hm ⊢
   simp only [wc] at *
   have inplace:∀(news:List Value) (w':World) (cs':Array Value),news.length=ys.length * r.sz→(∀v∈news,v.oneCell'=true)→n+ys.length≤(ω.row id).cap→w'.heap[b]?=some (.cells cs' e' (0,0))→w.grownBy w' (some b)→cs'.size=cur.size →
     (∀k,cs'[k]?=if n * r.sz≤k∧k<n * r.sz+news.length then news[k - n * r.sz]? else cur[k]?) →
     (∀i j u,cellOf ys i j=some u→∃v,news[i * r.sz+j]?=some v∧sQ m w ω (fun _=>False) v u (aP ov i j)) →
     (Builtin.append_ #[t,t] o.type #[.slice (some ⟨b,0,none⟩) n (ω.row id).cap,.slice A2 ys.length c2]).run P w=.ok (.slice (some ⟨b,0,none⟩) (n+ys.length) (ω.row id).cap) w' →
     rY P w0 m0 F0 o a w (s.appended (some id) d r.sz (r.xs.take n++ys) (eB n ov)):=by
    intro news w' cs' hnl hn1' hroom hhw hg hcs hget hnr hr
    have:=fin _ w' (ω.row id) (ω.f true id) hr (.inr ⟨b,id,rfl,hlive,p5,hg⟩) (fun k hk=>.inl ⟨id,rfl,hlive,hk⟩) ⟨q1,fun x hx=>?_,?_⟩ (.inr ⟨b,⟨b,0,none⟩,k1,by simp;omega,by simp [hlx],fun _=>by simp⟩)
    ·rw [hlx] at this
     exact this
    ·rcases List.mem_append.1 hx with hx|hx
     ·exact hxs x hx
     ·exact hys x hx
    ·rw [k1]
     refine ⟨cs',e',hhw,by rw [hcs];exact p2,by simp;omega,⟨hcap,fun l hl=>?_,fun q v hq=>?_⟩,p5,(fun i j k=>i<n∧G i j k),(fun i j k hk=>p3 i j k hk.2),(fun i j i' j' k hk hk'=>p4 i j i' j' k hk.2 hk'.2),fun i j u hu=>?_⟩
     ·simp only [bA,hlx] at hl
      rw [Bn,if_pos (by omega),Xx,hov0] at hl
      cases hl
     ·rw [hget] at hq
      split at hq
      ·exact hn1' v (rX hq)
      ·exact hcapo.2.2 q v hq
     simp only at hu
     have hszr:(⟨r.sz,r.xs.take n++ys,eB (r.xs.take n).length ov⟩:aN).sz=r.sz:=rfl
     rw [hszr,hlx]
     rw [hget]
     rcases zF hu with ⟨hi,hu⟩|⟨hi,hu⟩
     ·rw [hlx] at hi
      obtain ⟨v,h3,h4⟩:=holds i j u hu
      have hlt:i * r.sz+j<n * r.sz:=by rw [←p6];exact (List.getElem?_eq_some_iff.1 h3).1
      rw [if_neg (by omega)]
      refine ⟨v,?_,?_⟩
      ·rw [p7,qg,if_pos hlt] at h3
       simpa using h3
      ·rw [Bn,if_neg (by omega)]
       refine eS.keep (Mem.le_refl m) (h4.sub (F':=fun k=>i<n∧G i j k) fun k hk=>⟨hi,hk⟩) fun k hk=>hg.block k (h.fresh true id hlive k (p3 i j k hk.2).1).1 fun e=>?_
       injection e with e
       exact (p3 i j k hk.2).2 e
     ·rw [hlx] at hi hu
      obtain ⟨v,h3,h4⟩:=hnr _ j u hu
      have hlt:=(List.getElem?_eq_some_iff.1 h3).1
      have hle:n * r.sz≤i * r.sz:=tj _ hi
      rw [Em] at hlt h3
      rw [if_pos ⟨by omega,by omega⟩]
      refine ⟨v,by rw [←h3];congr 1;omega,?_⟩
      rw [Bn,if_pos hi]
      refine (h4.LI (fun _=>False) (fun k=>i<n∧G i j k)).keep (Mem.le_refl m) fun k hk=>?_
      exact absurd hk.1 (by omega)
   cases A2 with
   | none =>
    have hy0:=hnone rfl
    subst hy0
    have hrun0:(Builtin.append_ #[t,t] o.type #[.slice (some ⟨b,0,none⟩) n (ω.row id).cap,.slice none 0 c2]).run P w=.ok (.slice (some ⟨b,0,none⟩) n (ω.row id).cap) w:=by
     have:n≤(ω.row id).cap:=by omega
     simp [Builtin.append_,run_underlying hu,sizeOf,typeInfo,g1,Builtin.lenOf,Builtin.firstCells,this,storeCells]
    exact inplace [] w cur (by simp) (by simp) (by simp;omega) p1 ⟨rfl,rfl,rfl,br _,fun _ _ _=>rfl⟩ rfl (fun k=>by rw [if_neg (by simp)]) (fun i j u hu=>by simp [cellOf] at hu) hrun0
   | some ad2 =>
    obtain ⟨news,hnl,hnc,hn1,hnr⟩:=hnews ad2 rfl
    by_cases hroom:n+ys.length≤(ω.row id).cap
    ·have hfit:n * r.sz+news.length≤cur.size:=by rw [hnl,p2,←rK];exact tj _ hroom
     have hr:=HN (P:=P) (w:=w) t o.type e e' inf hu g1 b n (ω.row id).cap cur p1 ad2 ys.length c2 news (by rw [g5];exact hnl) hnc hn1 hroom (by rw [g5];exact hfit)
     rw [g5] at hr
     exact inplace news _ _ hnl hn1 hroom (setRow_heap w b cur _ e' _ p1) (Dq w b _) (Dr hfit) (fun k=>Ds hfit k) hnr hr
    ·have hr:=run_append_grow (P:=P) w t o.type e inf zv hu g1 g2 ⟨b,0,none⟩ n (ω.row id).cap olds (by rw [g5];exact p6) (fun j u hj=>by
      rw [Dn p1]
      have hlt:j<n * r.sz:=by rw [←p6];exact (List.getElem?_eq_some_iff.1 hj).1
      rw [p7,qg,if_pos hlt] at hj
      simpa using hj) ad2 ys.length c2 news (by rw [g5];exact hnl) hnc (by omega) (by omega) (growslice_fits (by omega) (by rw [g6];exact hb))
     have:=grown olds news (ω.row id).cap (fun k=>ω.f true id k∧k≠b) (fun i j k=>i<n∧G i j k) (by rw [hlx];exact p6) hnl hxs (fun k hk=>⟨id,rfl,hlive,hk.1⟩) (fun i j k hk=>p3 i j k hk.2) (fun i j i' j' k hk hk'=>p4 i j i' j' k hk.2 hk'.2) (fun i j u hu=>by
      obtain ⟨v,h3,h4⟩:=holds i j u hu
      refine ⟨v,h3,h4.sub fun k hk=>⟨?_,hk⟩⟩
      unfold cellOf at hu
      rw [qg] at hu
      split at hu
      ·assumption
      ·simp at hu) hnr (by rw [hlx];omega) (fun v hv=>by
      rw [p7] at hv
      obtain ⟨q,hq⟩:=List.mem_iff_getElem?.1 (tv hv)
      exact hcapo.2.2 q v (by simpa using hq)) hn1 (by rw [hlx];exact hr)
     rw [hlx] at this
     exact this
end
end Go.Bw
namespace Go.Bw
open Go.RowKit
section
variable {P:Program} {w0:World} {m0:Mem} {s s':St} {a:Act} {w w':World} {m m':Mem} {ω ω':Wh} {F0:Home} {T:TypeId→Option TI}
def uf (fr:L→L) (r:aN):List (List L):=match r.ov with
 | []=>r.xs.map fun x=>x.map (L.fD 4)
 | ov=>r.xs.zipIdx.map fun p=>p.1.zipIdx.map fun q=>match aP ov p.2 q.2 with|some l=>fr l|none=>q.1.fD 4
def gN:Nat→St→L→L
 | n+1,s,.ref id lo k=>match look s.row id with
  | some r=>if lo+k≤r.xs.length then .sl r.sz (((uf (gN n s) r).drop lo).take k) else .any
  | none=>.any
 | n+1,s,.dj id i o=>match look s.row id with
  | some r=>if i<r.xs.length then .fz (((uf (gN n s) r).getD i []).drop o) else .any
  | none=>.any
 | n+1,s,.ptr id o=>match look s.box id with
  | some ls=>.fz ((ls.map (gN n s)).drop o)
  | none=>.any
 | n+1,s,.bD f caps=>.bD f (caps.map (gN n s))
 | 0,_,.ref _ _ _=>.any
 | 0,_,.dj _ _ _=>.any
 | 0,_,.ptr _ _=>.any
 | 0,_,.bD _ _=>.any
 | _,_,l=>l.fD 4
theorem LJ (fr:L→L) (r:aN):(uf fr r).length=r.xs.length:=by
 unfold uf;split<;>simp
theorem Rs (fr:L→L) (r:aN) {i j:Nat} {u:L} (h:cellOf (uf fr r) i j=some u):∃u0,cellOf r.xs i j=some u0∧u=(match aP r.ov i j with|some l=>fr l|none=>u0.fD 4):=by
 unfold uf at h
 split at h
 ·rename_i hov
  obtain ⟨u0,h1,h2⟩:=Ci r.xs (L.fD 4) i j u h
  exact ⟨u0,h1,by rw [hov];exact h2⟩
 ·unfold cellOf at h ⊢
  rw [ql,Xy] at h
  cases hx:r.xs[i]? with
  | none=>rw [hx] at h;simp at h
  | some x =>
   rw [hx] at h
   simp only [dv,dJ,ql,Xy,rI,cN] at h
   obtain ⟨q,⟨u0,h1,rfl⟩,h2⟩:=h
   exact ⟨u0,by simpa using h1,h2.symm⟩
theorem Rt (fr:L→L) (r:aN) {sz:Nat} (h:∀x∈r.xs,x.length=sz):∀x∈uf fr r,x.length=sz:=by
 intro x hx
 unfold uf at hx
 split at hx
 ·obtain ⟨y,hy,rfl⟩:=List.mem_map.1 hx
  simpa using h y hy
 ·obtain ⟨y,hy,rfl⟩:=List.mem_map.1 hx
  simp only [bw,List.length_zipIdx]
  exact h _ (by
   obtain ⟨q,i⟩:=y
   have:=List.mem_zipIdx_iff_getElem?.1 hy
   exact rX this)
theorem He (h:CI P w0 m0 F0 s a w m ω) (hm:Mem.le m m') (hF:∀κ id,s.live κ id→∀x:Addr,ω.f κ id x.block→m' x=w.cell? x):∀(n:Nat) (v:Value) (l:L),bi m ω v l→aM m' v (gN n s l):=by
 intro n
 induction n with
 | zero =>
  intro v l hl
  cases l with
  | ref=>exact .any v (bi.pN (m:=m) (ω:=ω) hl)
  | dj=>exact .any v (bi.pN (m:=m) (ω:=ω) hl)
  | ptr=>exact .any v (bi.pN (m:=m) (ω:=ω) hl)
  | bD=>exact .any v (bi.pN (m:=m) (ω:=ω) hl)
  | own=>cases hl
  | rT=>cases hl
  | _=>exact (aM.mono hm hl)
 | succ n ih =>
  intro v l hl
  have hrow:∀id r,look s.row id=some r→∀b,(ω.row id).sT=some b→∃cs e,w.heap[b]?=some (.cells cs e (0,0))∧ω.f true id b∧(∀i j u,cellOf (uf (gN n s) r) i j=some u→∃v,m' ((⟨b,0,none⟩:Addr).add (i * r.sz+j))=some v∧aM m' v u):=by
   intro id r hr b hblk
   have hlive:s.live true id:=by show (look s.row id).isSome;rw [hr];rfl
   obtain ⟨g1,g2,g3⟩:=h.row id r hr
   rw [hblk] at g3
   obtain ⟨cs,e,k1,k2,k3,k4,k5,G,k6,k7,k8⟩:=g3
   refine ⟨cs,e,k1,k5,fun i j u hu=>?_⟩
   obtain ⟨u0,hu0,rfl⟩:=Rs _ r hu
   obtain ⟨v,h3,h4⟩:=k8 i j u0 hu0
   refine ⟨v,?_,?_⟩
   ·rw [hF true id hlive _ (by rw [block_add];exact k5),Dn k1]
    exact h3
   ·cases hov:aP r.ov i j with
    | some l=>rw [hov] at h4;exact ih v l h4
    | none =>
     rw [hov] at h4
     exact eS.rN h4 hm (fun x hx=>hF true id hlive x (k6 i j _ hx).1) 4
  cases l with
  | ref id lo k =>
   simp only [gN]
   cases hr:look s.row id with
   | none=>exact .any v (bi.pN (m:=m) (ω:=ω) hl)
   | some r =>
    simp only
    split
    ·rename_i hlen
     have hl':rk (ω.row id) lo k v:=hl
     rcases hl' with ⟨_,rfl,rfl,rfl⟩|⟨b,ad,k1,k2,rfl,k4⟩
     ·simp only [dA,c9]
      exact .vK _
     ·obtain ⟨cs,e,q1,q2,q3⟩:=hrow id r hr b k1
      obtain ⟨g1,g2,_⟩:=h.row id r hr
      have hcell:∀i j u,cellOf (((uf (gN n s) r).drop lo).take k) i j=some u→i<k∧cellOf (uf (gN n s) r) (lo+i) j=some u:=by
       intro i j u hu
       unfold cellOf at hu ⊢
       rw [qg] at hu
       split at hu
       ·rename_i hi
        rw [rJ] at hu
        exact ⟨hi,hu⟩
       ·simp at hu
      refine .sl ad k _ r.sz _ (fun i j=>(m' (ad.add (i * r.sz+j))).getD default) (by simp [LJ];omega) (by omega) (fun x hx=>Rt _ r g2 x (zB (tv hx))) (fun i j u hu=>?_) (fun i j u hu=>?_)
      ·obtain ⟨hi,hu⟩:=hcell i j u hu
       obtain ⟨v,h3,_⟩:=q3 _ j u hu
       rw [k4 (.inl (by omega)),g1,Addr.add_lit,show lo * r.sz+(i * r.sz+j)=(lo+i) * r.sz+j by rw [rK];omega]
       rw [Addr.add_lit,cN] at h3
       rw [h3];rfl
      ·obtain ⟨hi,hu⟩:=hcell i j u hu
       obtain ⟨v,h3,h4⟩:=q3 _ j u hu
       rw [k4 (.inl (by omega)),g1,Addr.add_lit,show lo * r.sz+(i * r.sz+j)=(lo+i) * r.sz+j by rw [rK];omega]
       rw [Addr.add_lit,cN] at h3
       rw [h3];exact h4
    ·exact .any v (bi.pN (m:=m) (ω:=ω) hl)
  | dj id i o =>
   simp only [gN]
   cases hr:look s.row id with
   | none=>exact .any v (bi.pN (m:=m) (ω:=ω) hl)
   | some r =>
    simp only
    split
    ·rename_i hlen
     obtain ⟨b,k1,rfl⟩:=hl
     obtain ⟨cs,e,q1,q2,q3⟩:=hrow id r hr b k1
     obtain ⟨g1,g2,_⟩:=h.row id r hr
     refine vv.yi fun j u hu=>?_
     rw [rJ] at hu
     have hlt:i<(uf (gN n s) r).length:=by rw [LJ];exact hlen
     have hu':cellOf (uf (gN n s) r) i (o+j)=some u:=by
      rw [LK hlt];exact hu
     obtain ⟨v,h3,h4⟩:=q3 _ _ u hu'
     refine ⟨v,?_,h4⟩
     rw [Addr.add_lit] at h3 ⊢
     rw [←h3,g1]
     congr 2
     omega
    ·exact .any v (bi.pN (m:=m) (ω:=ω) hl)
  | ptr id o =>
   simp only [gN]
   cases hr:look s.box id with
   | none=>exact .any v (bi.pN (m:=m) (ω:=ω) hl)
   | some ls =>
    simp only
    have hlive:s.live false id:=by show (look s.box id).isSome;rw [hr];rfl
    obtain ⟨cs,e,k1,k2,k3,G,k4,k5,k6⟩:=h.box id ls hr
    have hl:v=_:=hl
    subst hl
    refine vv.yi fun j u hu=>?_
    rw [rJ,ql,rI] at hu
    obtain ⟨l0,hl0,rfl⟩:=hu
    obtain ⟨v,h3,h4⟩:=k6 _ l0 hl0
    refine ⟨v,?_,?_⟩
    ·rw [Addr.add_lit,hF false id hlive _ k3]
     simp only [World.cell?,k1]
     exact h3
    ·rcases h4.cases with ⟨sz,xs,rfl,h4⟩|⟨_,h4⟩|⟨t,q,rfl,h4⟩
     ·have:gN n s (.own sz xs)=(L.own sz xs).fD 4:=by cases n<;>rfl
      rw [this]
      exact eS.rN h4 hm (fun x hx=>hF false id hlive x (k4 _ _ hx).1) 4
     ·exact ih v l0 h4
     ·have:gN n s (.rT t q)=.any:=by cases n<;>rfl
      rw [this]
      exact aM.any _ h4.pN
  | bD f caps =>
   obtain ⟨vs,rfl,h2,h3⟩:=hl
   simp only [gN]
   refine .bD f _ vs (fun i=>(vs[i]?).getD default) (by simpa using h2) (fun i u hu=>?_) (fun i u hu=>?_)
   ·simp only [ql,rI] at hu
    obtain ⟨u0,hu,rfl⟩:=hu
    obtain ⟨x,h4,_⟩:=h3 i u0 hu
    rw [h4];rfl
   ·simp only [ql,rI] at hu
    obtain ⟨u0,hu,rfl⟩:=hu
    obtain ⟨x,h4,h5⟩:=h3 i u0 hu
    rw [h4]
    refine ih _ _ ?_
    rcases h5 with h5|h5
    ·exact h5.ua
    ·cases u0 with
     | ptr=>exact h5
     | dj=>exact h5
     | _=>cases h5
  | own=>cases hl
  | rT=>cases hl
  | _=>exact (aM.mono hm hl)
def uw {α:Type} (k:List Nat) (e:List (Nat×α)):List (Nat×α):=e.filter fun p=>k.elem p.1
def rW {α:Type} (k:List Nat) (e:List (Nat×α)):List (Nat×α):=e.filter fun p=>!k.elem p.1
theorem Ck {α:Type} (k:List Nat):∀(e:List (Nat×α)) (i:Nat),look (uw k e) i=if k.elem i then look e i else none
 | [],i=>by simp [uw,look]
 | (t,x)::e,i=>by
  have ih:=Ck k e i
  simp only [uw,dL] at ih ⊢
  cases ht:k.elem t with
  | true =>
   simp only [if_true,look]
   by_cases h:t=i
   ·subst h;rw [if_pos rfl,if_pos rfl,ht];rfl
   ·rw [if_neg h,if_neg h];exact ih
  | false =>
   simp only [de,if_false,look]
   rw [ih]
   by_cases h:t=i
   ·subst h;rw [ht];rfl
   ·rw [if_neg h]
theorem Aq {α:Type} (k:List Nat):∀(e:List (Nat×α)) (i:Nat),look (rW k e) i=if k.elem i then none else look e i
 | [],i=>by simp [rW,look]
 | (t,x)::e,i=>by
  have ih:=Aq k e i
  simp only [rW,dL] at ih ⊢
  cases ht:k.elem t with
  | true =>
   simp only [fi,de,if_false,look]
   rw [ih]
   by_cases h:t=i
   ·subst h;rw [ht];rfl
   ·rw [if_neg h]
  | false =>
   simp only [fB,if_true,look]
   by_cases h:t=i
   ·subst h;rw [if_pos rfl,if_pos rfl,ht];rfl
   ·rw [if_neg h,if_neg h];exact ih
def St.rest (s:St) (kb kr:List Nat):St:={s with box:=rW kb s.box,row:=rW kr s.row}
def pV (kb kr:List Nat) (s1:St):L→L
 | .ref id lo k=>if kr.elem id then .ref id lo k else gN 4 s1 (.ref id lo k)
 | .dj id i o=>if kr.elem id then .dj id i o else gN 4 s1 (.dj id i o)
 | .ptr id o=>if kb.elem id then .ptr id o else gN 4 s1 (.ptr id o)
 | .own sz xs=>.own sz xs
 | .bD f caps=>.bD f (caps.map fun l=>match l with
  | .ptr id o=>if kb.elem id then .ptr id o else gN 4 s1 (.ptr id o)
  | .dj id i o=>if kr.elem id then .dj id i o else gN 4 s1 (.dj id i o)
  | l=>l)
 | l=>l
def St.freeze (s:St) (kb kr:List Nat):St :=
 {n:=s.n,env:=s.env.map fun p=>(p.1,p.2.map (pV kb kr (s.rest kb kr))),box:=(uw kb s.box).map fun p=>(p.1,p.2.map (pV kb kr (s.rest kb kr))),row:=(uw kr s.row).map fun p=>(p.1,p.2.map (pV kb kr (s.rest kb kr)))}
theorem CI.freeze (h:CI P w0 m0 F0 s a w m ω) (kb kr:List Nat):∃m',CI P w0 m0 F0 (s.freeze kb kr) a w m' ω∧Mem.le m m'∧∀v l,bi m ω v l→bi m' ω v (pV kb kr (s.rest kb kr) l):=by
 have h1:CI P w0 m0 F0 (s.rest kb kr) a w m ω:=h.weaken rfl (fun _ _ h=>h) (fun i ls hi=>by
  simp only [St.rest] at hi
  rw [Aq] at hi
  split at hi
  ·cases hi
  ·exact hi) (fun i ls hi=>by
  simp only [St.rest] at hi
  rw [Aq] at hi
  split at hi
  ·cases hi
  ·exact hi)
 let F:Nat→Prop:=fun k=>∃κ id,(s.rest kb kr).live κ id∧ω.f κ id k
 have hF:∀x v,m x=some v→¬ F x.block:=by
  rintro x v hx ⟨κ,id,hl,hk⟩
  exact (h1.fresh κ id hl _ hk).2.2 x v hx rfl
 have hle:=EO (w:=w) hF
 have hS:=fun n v l hl=>He h1 hle (fun κ id hl x hx=>C6 (m:=m) ⟨κ,id,hl,hx⟩) n v l hl
 have hg:∀v l,bi m ω v l→bi (wU m w F) ω v (pV kb kr (s.rest kb kr) l):=by
  have hcap:∀x u,(aM m x u∨tT ω x u)→aM (wU m w F) x (match u with
    | .ptr id o=>if kb.elem id then .ptr id o else gN 4 (s.rest kb kr) (.ptr id o)
    | .dj id i o=>if kr.elem id then .dj id i o else gN 4 (s.rest kb kr) (.dj id i o)
    | l=>l)∨tT ω x (match u with
    | .ptr id o=>if kb.elem id then .ptr id o else gN 4 (s.rest kb kr) (.ptr id o)
    | .dj id i o=>if kr.elem id then .dj id i o else gN 4 (s.rest kb kr) (.dj id i o)
    | l=>l):=by
   intro x u hu
   cases u with
   | ptr id o =>
    rcases hu with hu|hu
    ·cases hu
    ·simp only
     split
     ·exact .inr hu
     ·exact .inl (hS 4 x _ hu)
   | dj id i o =>
    rcases hu with hu|hu
    ·cases hu
    ·simp only
     split
     ·exact .inr hu
     ·exact .inl (hS 4 x _ hu)
   | _ =>
    rcases hu with hu|hu
    ·exact .inl (hu.mono hle)
    ·cases hu
  intro v l hl
  cases l with
  | ref id lo k =>
   simp only [pV]
   split
   ·exact hl
   ·exact (hS 4 v _ hl).ua
  | dj id i o =>
   simp only [pV]
   split
   ·exact hl
   ·exact (hS 4 v _ hl).ua
  | ptr id o =>
   simp only [pV]
   split
   ·exact hl
   ·exact (hS 4 v _ hl).ua
  | own=>cases hl
  | rT=>cases hl
  | bD f caps =>
   obtain ⟨vs,rfl,h2,h3⟩:=hl
   refine ⟨vs,rfl,by simpa using h2,fun i u hu=>?_⟩
   simp only [ql,rI] at hu
   obtain ⟨u0,hu,rfl⟩:=hu
   obtain ⟨x,h4,h5⟩:=h3 i u0 hu
   exact ⟨x,h4,hcap x u0 h5⟩
  | _=>exact aM.mono hle hl
 refine ⟨_,h.sX (g:=pV kb kr (s.rest kb kr)) ⟨hle,hg,fun _ _=>rfl,fun _ _=>rfl⟩ rfl (fun t x hx=>rR hx) (fun i ls hi=>?_) (fun i r hi=>?_) (EP h.ok) (fun x=>?_),hle,hg⟩
 ·obtain ⟨y,hy,rfl⟩:=rR hi
  rw [Ck] at hy
  split at hy
  ·exact ⟨y,hy,rfl,rfl,rfl⟩
  ·cases hy
 ·obtain ⟨y,hy,rfl⟩:=rR hi
  rw [Ck] at hy
  split at hy
  ·exact ⟨y,hy,rfl,rfl,rfl⟩
  ·cases hy
 ·by_cases hx:F x.block
  ·refine .inr ?_
   obtain ⟨κ,id,hl,hk⟩:=hx
   refine ⟨(h1.fresh κ id hl _ hk).2.1,fun κ' id' hl' hk'=>?_⟩
   have hk1:s.live κ' id'∧(if κ' then kr.elem id' else kb.elem id')=true:=by
    cases κ' with
    | false =>
     simp only [St.live,St.freeze] at hl'
     obtain ⟨z,hz⟩:=Option.isSome_iff_exists.1 hl'
     obtain ⟨y,hy,_⟩:=rR hz
     rw [Ck] at hy
     split at hy
     ·rename_i hq;exact ⟨by show (look s.box id').isSome;rw [hy];rfl,hq⟩
     ·cases hy
    | true =>
     simp only [St.live,St.freeze] at hl'
     obtain ⟨z,hz⟩:=Option.isSome_iff_exists.1 hl'
     obtain ⟨y,hy,_⟩:=rR hz
     rw [Ck] at hy
     split at hy
     ·rename_i hq;exact ⟨by show (look s.row id').isSome;rw [hy];rfl,hq⟩
     ·cases hy
   have hk2:s.live κ id∧(if κ then kr.elem id else kb.elem id)=false:=by
    cases κ with
    | false =>
     simp only [St.live,St.rest] at hl
     rw [Aq] at hl
     split at hl
     ·cases hl
     ·rename_i hq;exact ⟨hl,by simpa using hq⟩
    | true =>
     simp only [St.live,St.rest] at hl
     rw [Aq] at hl
     split at hl
     ·cases hl
     ·rename_i hq;exact ⟨hl,by simpa using hq⟩
   obtain ⟨rfl,rfl⟩:=h.apart _ _ _ _ hk1.1 hk2.1 _ hk' hk
   rw [hk1.2] at hk2
   cases hk2.2
  ·exact .inl (AZ hx)
def St.Fb (s:St) (id d lo n:Nat) (r:aN):St:=(s.xC (some id) d r).put d (.v (.one (.ref d lo n)))
theorem Ru {o:Oper} {x:Operand} {d id lo n:Nat} {r:aN} (ho:o.op=.assign x) (hd:o.dst=some d) (hn:d<s.n) (h:CI P w0 m0 F0 s a w m ω)
  (hx:aE T s o.type x=some (.v (.one (.ref id lo n)))) (hb:look s.row id=some r):rY P w0 m0 F0 o a w (s.Fb id d lo n r):=by
 have hlive:s.live true id:=by show (look s.row id).isSome;rw [hb];rfl
 obtain ⟨ω',hC,hri,_⟩:=h.Ap (some id) d hn (ω.row id) (ω.f true id) (.inl (Below.refl _ _)) (fun k hk=>.inl ⟨id,rfl,hlive,hk⟩) (h.row id r hb)
 refine sj (v:=a.eval x) (w':=w) (by unfold execOp;simp only [ho,Sem.run_pure]) ?_
 rw [hd]
 refine ⟨m,ω',hC.put (by rw [Ao];exact hn) ?_⟩
 show rk (ω'.row d) lo n _
 rw [hri]
 exact iS h hx
def St.Fc (s:St) (d z:Nat):St:=(s.xC none d ⟨z,[],[]⟩).put d (.v (.one (.ref d 0 0)))
theorem Rv {o:Oper} {x:Operand} {d z:Nat} (ho:o.op=.assign x) (hd:o.dst=some d) (hn:d<s.n) (h:CI P w0 m0 F0 s a w m ω)
  (hx:aE T s o.type x=some (.v (.one (.nil z)))):rY P w0 m0 F0 o a w (s.Fc d z):=by
 obtain ⟨ω',hC,hri,_⟩:=h.Ap (r:=⟨z,[],[]⟩) none d hn ⟨none,0,z⟩ (fun _=>False) (.inl (Below.refl _ _)) (fun k hk=>hk.elim) ⟨rfl,(fun x hx=>by cases hx),rfl,rfl⟩
 refine sj (v:=a.eval x) (w':=w) (by unfold execOp;simp only [ho,Sem.run_pure]) ?_
 rw [hd]
 refine ⟨m,ω',hC.put (by rw [Ao];exact hn) ?_⟩
 show rk (ω'.row d) 0 0 _
 rw [hri]
 have hv:aM m (a.eval x) (.nil z):=iS h hx
 generalize a.eval x=u at hv
 cases hv
 exact .inl ⟨rfl,rfl,rfl,rfl⟩
def fP:Nat→List (List L)→List (Nat×Nat×L)
 | _,[]=>[]
 | i,x::r=>fq i 0 x (fP (i+1) r)
theorem HO:∀(X:List (List L)) (i0 i j:Nat),aP (fP i0 X) i j=if i0≤i then (match cellOf X (i - i0) j with|some l=>if l.dH then none else some l|none=>none) else none
 | [],i0,i,j=>by simp [fP,aP,cellOf]
 | x::r,i0,i,j=>by
  simp only [fP]
  rw [Fe,HO r]
  by_cases h1:i=i0
  ·subst h1
   simp only [br,if_true,xB,Nat.not_succ_le_self,if_false,true_and,bg,cN,wc,cellOf,c8,dJ]
   by_cases hj:j<x.length
   ·rw [if_pos hj]
    all_goals (cases x[j]?<;>rfl)
   ·rw [if_neg hj,HI (by omega)]
  ·rw [if_neg (fun e=>h1 e.1)]
   by_cases h2:i0≤i
   ·rw [if_pos (by omega),if_pos h2]
    have:i - i0=(i - (i0+1))+1:=by omega
    simp only [cellOf,this,dr]
   ·rw [if_neg (by omega),if_neg h2]
def rowOf (sz len:Nat) (ls:List L):aN:=⟨sz,(chunks sz len ls).map fun x=>x.map L.cP,fP 0 (chunks sz len ls)⟩
theorem Rw {o:Oper} {t e:TypeId} {i j:TI} {len d:Nat} {parts:Array (Nat×Operand)} {z ls:List L} {ty:TypeId} (ho:o.op=.buildSlice t len parts) (hd:o.dst=some d) (hn:d<s.n) (hTab:pR P T) (hi:T t=some i) (he:i.elem=some e) (hj:T e=some j)
  (hz:j.zero=some z) (hzl:z.length=j.size) (hsz:0<j.size) (hbig:len * j.size≤16777216) (h:CI P w0 m0 F0 s a w m ω)
  (hf:dB T s ty (fun k=>some (k * j.size,j.size)) (dP z len) parts.toList=some ls):rY P w0 m0 F0 o a w ((s.xC none d (rowOf j.size len ls)).put d (.v (.one (.ref d 0 len)))):=by
 have F:=iM (hTab _ _ hj)
 have hu:=(iM (hTab _ _ hi)).elem e he
 obtain ⟨inf,g1,g2,_⟩:=F.info
 obtain ⟨inf',zv,g3,g4,g5,_⟩:=F.zero z hz
 rw [g1] at g3
 injection g3 with g3
 subst g3
 obtain ⟨g7,g8⟩:=yl (m:=m) zv.cells.toList z g5
 have hzs:zv.cells.size=j.size:=by simpa [hzl] using g7
 let init:Array Value:=(Array.range (len * j.size)).map (zv.cells[· % zv.cells.size]!)
 have hinit:init.size=(dP z len).length:=by simp [init,Bp,hzl]
 have hir:∀(k:Nat) (l:L),(dP z len)[k]?=some l→∃v,init[k]?=some v∧bi m ω v l:=by
  intro k l hk
  have hlt:k<len * j.size:=by
   have:=(List.getElem?_eq_some_iff.1 hk).1
   rwa [Bp,hzl] at this
  rw [HP z len k (by rw [hzl];exact hlt)] at hk
  obtain ⟨v,h1,h2⟩:=g8 _ l hk
  refine ⟨v,?_,h2.ua⟩
  simp only [init,JJ,O5,if_pos hlt,dv]
  rw [hzs,←hzl]
  have:k % z.length<zv.cells.size:=by rw [hzs,←hzl];exact CL _ (by omega)
  rw [JE zv.cells (k % z.length) this]
  have h1':zv.cells[k % z.length]?=some v:=by simpa using h1
  rw [y7 this] at h1'
  exact h1'
 obtain ⟨cs,h1,h2,h3,h4⟩:=Ff h parts.toList init (dP z len) ls hinit hir hf
 have hll:ls.length=len * j.size:=by rw [h3,Bp,hzl]
 have hh:(w.alloc (.cells cs e (0,0))).heap[w.heap.size]?=some (.cells cs e (0,0)):=heap_alloc_new w _
 have hlt:=(Array.getElem?_eq_some_iff.1 hh).1
 obtain ⟨ω',hC,hri,_⟩:=h.Ap (w':=w.alloc (.cells cs e (0,0))) (r:=rowOf j.size len ls) none d hn ⟨some w.heap.size,len,j.size⟩ (fun k=>k=w.heap.size) (.inl (Below.alloc (Below.refl _ _) (br _) _)) (fun k hk=>.inr ⟨by omega,by omega⟩) (by
  refine ⟨rfl,fun x hx=>?_,?_⟩
  ·obtain ⟨y,hy,rfl⟩:=List.mem_map.1 hx
   simpa [rowOf] using HQ j.size len ls hll y hy
  ·have hlen:len≤maxLen:=by
    have:len * 1≤len * j.size:=Nat.mul_le_mul_left _ hsz
    unfold maxLen
    omega
   refine ⟨cs,e,hh,by rw [h2,hll];rfl,by simp [rowOf,HR],⟨hlen,fun l hl=>?_,fun q v hq=>?_⟩,rfl,fun _ _ _=>False,fun i j k hk=>hk.elim,fun i j i' j' k hk=>hk.elim,fun p q u hu=>?_⟩
   ·simp only [rowOf,bw] at hl
    rw [HO,if_pos (bg _),wc] at hl
    have hn:cellOf (chunks j.size len ls) (chunks j.size len ls).length 0=none:=by simp [cellOf]
    rw [hn] at hl
    cases hl
   ·have hq':q<ls.length:=by have:=(Array.getElem?_eq_some_iff.1 hq).1;omega
    obtain ⟨v',h5,h6⟩:=h4 q ls[q] (ig hq')
    rw [hq] at h5
    injection h5 with h5
    rw [h5]
    exact h6.pN
   obtain ⟨u0,hu0,rfl⟩:=Ci _ _ _ _ _ hu
   obtain ⟨k1,k2⟩:=Fg j.size len ls p q u0 hu0
   obtain ⟨v,h5,h6⟩:=h4 _ u0 k1
   refine ⟨v,h5,?_⟩
   simp only [rowOf]
   rw [HO,if_pos (bg _),wc,hu0]
   simp only
   by_cases hz:u0.dH=true
   ·rw [if_pos hz]
    show eS m _ _ v u0.cP
    exact .fr ((h6.yi hz).cP hz)
   ·rw [if_neg hz]
    exact h6)
 refine sj (v:=.slice (some ⟨w.heap.size,0,none⟩) len len) (w':=w.alloc (.cells cs e (0,0))) ?_ ⟨m,ω',?_⟩
 ·have hmap:(parts.map fun x=>(x.1,a.eval x.2)).toList=parts.toList.map fun p=>(p.1,a.eval p.2):=by simp
  have h1':Instr.fill (fun i=>some (i * inf.size,inf.size)) ((Array.range (len * inf.size)).map (zv.cells[· % zv.cells.size]!)) (parts.toList.map fun p=>(p.1,a.eval p.2))=some cs:=by rw [g2];exact h1
  unfold execOp
  by_cases h0:len * inf.size=0
  ·have hr0:Array.range (len * inf.size)=#[]:=by rw [h0];rfl
   rw [hr0] at h1'
   simp only [wb,aI] at h1'
   have hr1:∀f:Nat→Value,(Array.range 0).map f=#[]:=fun f=>by simp
   simp only [ho,Instr.buildSlice,Sem.run_bind,run_underlying hu,Result.andThen_ok,run_sizeOf g1,hmap]
   rw [if_neg (by omega),if_pos h0]
   simp only [Sem.run_pure,Sem.run_bind,Result.andThen_ok,h0,hr1,h1',newRow,newObj]
   rfl
  ·simp only [ho,Instr.buildSlice,Sem.run_bind,run_underlying hu,Result.andThen_ok,run_sizeOf g1,hmap]
   rw [if_neg (by rw [g2];omega),if_neg h0]
   simp only [zeroValue,typeInfo,Sem.run_bind,Sem.run,g1,g4,Result.andThen_ok,Sem.run_pure,h1',newRow,newObj,program]
   rfl
 ·rw [hd]
  refine hC.put (by rw [Ao];exact hn) ?_
  show rk (ω'.row d) 0 len _
  rw [hri]
  exact .inr ⟨w.heap.size,⟨w.heap.size,0,none⟩,rfl,by simp,by simp,fun _=>by simp⟩
end
end Go.Bw
namespace Go.Bw
open Go.RowKit
section
variable {P:Program} {w0:World} {m0:Mem} {s s':St} {a:Act} {w w':World} {m m':Mem} {ω ω':Wh} {F0:Home} {T:TypeId→Option TI}
theorem Ax {xs:List (List L)} {sz i j:Nat} {u:L} (h:∀x∈xs,x.length=sz) (hu:cellOf xs i j=some u):i<xs.length∧j<sz:=by
 unfold cellOf at hu
 cases hx:xs[i]? with
 | none=>rw [hx] at hu;simp at hu
 | some x =>
  rw [hx] at hu
  simp only [dJ] at hu
  refine ⟨(List.getElem?_eq_some_iff.1 hx).1,?_⟩
  rw [←h x (rX hx)]
  exact (List.getElem?_eq_some_iff.1 hu).1
theorem CI.H' (h:CI P w0 m0 F0 s a w m ω) {id:Nat} {r:aN} (hb:look s.row id=some r) (hcl:∀i j,i<r.xs.length→aP r.ov i j=none) {b:Nat} (hblk:(ω.row id).sT=some b)
  {cur:Array Value} {e:TypeId} (hcur:w.heap[b]?=some (.cells cur e (0,0))) {p:Nat} {ys:List (List L)} {news:List Value} (hfit:p+ys.length≤r.xs.length) (hysz:∀y∈ys,y.length=r.sz)
  (hnl:news.length=ys.length * r.sz) (hn1:∀u∈news,u.oneCell'=true) (hnr:∀i j u,cellOf ys i j=some u→∃v,news[i * r.sz+j]?=some v∧eS m w (fun _=>False) v u) :
  p * r.sz+news.length≤cur.size∧CI P w0 m0 F0 {s with row:=bz id ⟨r.sz,r.xs.take p++ys++r.xs.drop (p+ys.length),r.ov⟩ s.row} a (w.setRow b (cur.toList.take (p * r.sz)++news++cur.toList.drop (p * r.sz+news.length)).toArray) m ω:=by
 obtain ⟨g1,g2,g3⟩:=h.row id r hb
 rw [hblk] at g3
 obtain ⟨cs,e',k1,k2,k3,k4,k5,G,k6,k7,k8⟩:=g3
 have hlive:s.live true id:=by show (look s.row id).isSome;rw [hb];rfl
 rw [hcur] at k1
 injection (Ae k1) with q1 q2
 subst q1
 have hfit':p * r.sz+news.length≤cur.size:=by rw [hnl,k2,←rK];exact tj _ (by omega)
 refine ⟨hfit',?_⟩
 have hget:=fun k=>Ds hfit' k
 have hsize:=Dr hfit'
 generalize (cur.toList.take (p * r.sz)++news++cur.toList.drop (p * r.sz+news.length)).toArray=cs' at hget hsize ⊢
 have hg:=Dq w b cs'
 have hlen:(r.xs.take p++ys++r.xs.drop (p+ys.length)).length=r.xs.length:=by simp;omega
 have hxs:∀x∈r.xs.take p++ys++r.xs.drop (p+ys.length),x.length=r.sz:=by
  intro x hx
  simp only [yg] at hx
  rcases hx with (hx|hx)|hx
  ·exact g2 x (tv hx)
  ·exact hysz x hx
  ·exact g2 x (zB hx)
 refine h.Hi hb hblk hg (setRow_heap w b cur _ e _ hcur) (by rw [hsize];exact k2) g1 hxs (by simp only [hlen];exact k3) ⟨k4.1,fun l hl=>?_,fun q v hq=>?_⟩ (fun i j k=>(i<p∨p+ys.length≤i)∧G i j k) (fun i j k hk=>k6 i j k hk.2) (fun i j i' j' k hk hk'=>k7 i j i' j' k hk.2 hk'.2) fun i j u hu=>?_
 ·simp only [hlen] at hl ⊢
  exact k4.2.1 l hl
 ·rw [hget] at hq
  split at hq
  ·exact hn1 v (rX hq)
  ·exact k4.2.2 q v hq
 ·simp only at hu ⊢
  obtain ⟨hi,hj⟩:=Ax hxs hu
  rw [hlen] at hi
  rw [hget,hcl i j hi]
  have old:(i<p∨p+ys.length≤i)→cellOf r.xs i j=some u→∃v,(if p * r.sz≤i * r.sz+j∧i * r.sz+j<p * r.sz+news.length then news[i * r.sz+j - p * r.sz]? else cur[i * r.sz+j]?)=some v∧sQ m (w.setRow b cs') ω (fun k=>(i<p∨p+ys.length≤i)∧G i j k) v u none:=by
   intro hio hu
   obtain ⟨v,h1,h2⟩:=k8 i j u hu
   rw [hcl i j hi] at h2
   have hne:¬ (p * r.sz≤i * r.sz+j∧i * r.sz+j<p * r.sz+news.length):=by
    rw [hnl,←rK]
    rintro ⟨h3,h4⟩
    rcases hio with hio|hio
    ·have:(i+1) * r.sz≤p * r.sz:=tj _ hio
     rw [rK] at this
     omega
    ·have:(p+ys.length) * r.sz≤i * r.sz:=tj _ hio
     omega
   rw [if_neg hne]
   refine ⟨v,h1,eS.keep (Mem.le_refl m) (eS.sub (F':=fun k=>(i<p∨p+ys.length≤i)∧G i j k) h2 fun k hk=>⟨hio,hk⟩) fun k hk=>?_⟩
   have hk':=k6 i j k hk.2
   exact hg.block k (h.fresh true id hlive k hk'.1).1 fun e=>by injection e with e;exact hk'.2 e
  rcases zF hu with ⟨h1,h2⟩|⟨h1,h2⟩
  ·rcases zF h2 with ⟨h3,h4⟩|⟨h3,h4⟩
   ·have h3:i<p:=by simp at h3;omega
    refine old (.inl h3) ?_
    unfold cellOf at h4 ⊢
    rwa [qg,if_pos h3] at h4
   ·have hpl:(r.xs.take p).length=p:=by simp;omega
    rw [hpl] at h3 h4
    obtain ⟨v,h5,h6⟩:=hnr _ j u h4
    have hlt:=(List.getElem?_eq_some_iff.1 h5).1
    have hle:p * r.sz≤i * r.sz:=tj _ h3
    rw [Em] at hlt h5
    rw [if_pos ⟨by omega,by omega⟩]
    refine ⟨v,by rw [←h5];congr 1;omega,?_⟩
    exact eS.sub (eS.keep (Mem.le_refl m) h6 fun k hk=>hk.elim) fun k hk=>hk.elim
  ·have hpl:(r.xs.take p++ys).length=p+ys.length:=by simp;omega
   rw [hpl] at h1 h2
   refine old (.inr h1) ?_
   unfold cellOf at h2 ⊢
   rw [rJ,show p+ys.length+(i - (p+ys.length))=i by omega] at h2
   exact h2
theorem CI.Ft (h:CI P w0 m0 F0 s a w m ω) {id:Nat} {r:aN} (hb:look s.row id=some r):CI P w0 m0 F0 {s with row:=bz id r s.row} a w m ω :=
 h.weaken rfl (fun _ _ h=>h) (fun _ _ h=>h) fun i r' hi=>by
  simp only [yk] at hi
  split at hi
  ·rename_i he
   injection hi with hi
   subst he;subst hi
   exact hb
  ·exact hi
theorem LY {o:Oper} {t e:TypeId} {i j:TI} {x y:Operand} {ty:TypeId} {d id n:Nat} {r:aN} {ys:List (List L)} (ho:o.op=.call {callee:=.builtin .append,args:=#[x,y],argTypes:=#[t,t]})
  (hd:o.dst=some d) (hn:d<s.n) (hT:gM P t i=true) (he:i.elem=some e) (hE:gM P e j=true) (hsz:j.size=r.sz) (h:CI P w0 m0 F0 s a w m ω)
  (hx:aE T s ty x=some (.v (.one (.ref id 0 n)))) (hb:look s.row id=some r) (hov:r.ov=[]) (hy:yL m w ω (a.eval y) r.sz ys []) (hfit:n+ys.length≤r.xs.length) :
  rY P w0 m0 F0 o a w (St.put {s with row:=bz id ⟨r.sz,r.xs.take n++ys++r.xs.drop (n+ys.length),[]⟩ s.row} d (.v (.one (.ref id 0 (n+ys.length))))):=by
 have hu:=(iM hT).elem e he
 obtain ⟨inf,g1,g5,g6⟩:=(iM hE).info
 rw [hsz] at g5
 obtain ⟨q,hq⟩:=w3 (P:=P) (a:=a) (w:=w) ho
 have hv1:rk (ω.row id) 0 n (a.eval x):=iS h hx
 generalize hax:a.eval x=v1 at *
 generalize hay:a.eval y=v2 at *
 have hrun:(execOp a.eval o).run P w=((Builtin.append_ #[t,t] o.type #[v1,v2]).run P w).andThen fun v w'=>.ok (.value v) w':=by
  rw [hq]
  simp only [wb,aJ,aI,hax,hay,builtin,Sem.run_bind,Sem.run_pure]
 obtain ⟨A2,c2,rfl,hc2,hys,hnone,hnews⟩:=hy
 have same:ys=[]→(⟨r.sz,r.xs.take n++ys++r.xs.drop (n+ys.length),[]⟩:aN)=r:=by
  intro h0
  subst h0
  cases r
  simp only at hov
  subst hov
  simp
 have quiet:ys=[]→(Builtin.append_ #[t,t] o.type #[v1,.slice A2 ys.length c2]).run P w=.ok v1 w→rY P w0 m0 F0 o a w (St.put {s with row:=bz id ⟨r.sz,r.xs.take n++ys++r.xs.drop (n+ys.length),[]⟩ s.row} d (.v (.one (.ref id 0 (n+ys.length))))):=by
  intro h0 hr
  refine sj (v:=v1) (w':=w) (by rw [hrun,hr];rfl) ?_
  rw [hd,same h0]
  subst h0
  exact ⟨m,ω,(h.Ft hb).put hn hv1⟩
 rcases hv1 with ⟨k0,_,hn0,hvv⟩|⟨b,ad,k1,k2,hvv,k4⟩
 ·obtain ⟨_,_,q3⟩:=h.row id r hb
  rw [k0] at q3
  have hy0:ys=[]:=Al (by rw [q3.1] at hfit;simp only [bI] at hfit;omega)
  refine quiet hy0 ?_
  rw [hvv]
  subst hy0
  cases A2 with
  | none=>simp [Builtin.append_,run_underlying hu,sizeOf,typeInfo,g1,Builtin.lenOf,Builtin.firstCells]
  | some ad2=>simp [Builtin.append_,run_underlying hu,sizeOf,typeInfo,g1,Builtin.lenOf,Builtin.firstCells,loadCells,loadCellsFrom]
 ·have had:=k4 (.inr rfl)
  simp only [zA] at had
  subst had
  subst hvv
  obtain ⟨q1,q2,q3⟩:=h.row id r hb
  rw [k1] at q3
  obtain ⟨cur,e',p1,p2,p3,p4,p5,_⟩:=q3
  cases A2 with
  | none =>
   have hy0:=hnone rfl
   refine quiet hy0 ?_
   subst hy0
   have:n≤(ω.row id).cap:=by omega
   simp [Builtin.append_,run_underlying hu,sizeOf,typeInfo,g1,Builtin.lenOf,Builtin.firstCells,this,storeCells]
  | some ad2 =>
   obtain ⟨news,hnl,hnc,hn1,hnr⟩:=hnews ad2 rfl
   obtain ⟨hf,hC⟩:=h.H' hb (fun i j _=>by rw [hov];rfl) k1 p1 (p:=n) hfit hys hnl hn1 hnr
   have hr:=HN (P:=P) (w:=w) t o.type e e' inf hu g1 b n ((ω.row id).cap - 0) cur p1 ad2 ys.length c2 news (by rw [g5];exact hnl) hnc hn1 (by omega) (by rw [g5];exact hf)
   rw [g5] at hr
   refine sj (w':=_) (by rw [hrun,hr];rfl) ?_
   rw [hd]
   rw [hov] at hC
   exact ⟨m,ω,hC.put hn (.inr ⟨b,_,k1,by omega,rfl,fun _=>by simp⟩)⟩
theorem So {o:Oper} {t e:TypeId} {t':TypeId} {i j:TI} {x y:Operand} {ty:TypeId} {id lo n:Nat} {r:aN} {ys:List (List L)} {ov:List (Nat×Nat×L)} (ho:o.op=.call {callee:=.builtin .copy,args:=#[x,y],argTypes:=#[t,t']})
  (hd:s.rO o.dst) (hT:gM P t i=true) (he:i.elem=some e) (hE:gM P e j=true) (hsz:j.size=r.sz) (h:CI P w0 m0 F0 s a w m ω)
  (hx:aE T s ty x=some (.v (.one (.ref id lo n)))) (hb:look s.row id=some r) (hcl:∀i j,i<r.xs.length→aP r.ov i j=none) (hfit:lo+n≤r.xs.length) (hy:yL m w ω (a.eval y) r.sz ys ov) (hov:ov=[]) :
  rY P w0 m0 F0 o a w (St.fw {s with row:=bz id ⟨r.sz,r.xs.take lo++ys.take (min ys.length n)++r.xs.drop (lo+min ys.length n),r.ov⟩ s.row} o.dst (.v (.one (.int .i64 ((min ys.length n:Nat):Int))))):=by
 subst hov
 have hu:=(iM hT).elem e he
 obtain ⟨inf,g1,g5,g6⟩:=(iM hE).info
 rw [hsz] at g5
 obtain ⟨q,hq⟩:=w3 (P:=P) (a:=a) (w:=w) ho
 have hv1:rk (ω.row id) lo n (a.eval x):=iS h hx
 generalize hax:a.eval x=v1 at *
 generalize hay:a.eval y=v2 at *
 have hrun:(execOp a.eval o).run P w=((Builtin.copy_ #[t,t'] o.type #[v1,v2]).run P w).andThen fun v w'=>.ok (.value v) w':=by
  rw [hq]
  simp only [wb,aJ,aI,hax,hay,builtin,Sem.run_bind,Sem.run_pure]
 obtain ⟨A2,c2,rfl,hc2,hys,hnone,hnews⟩:=hy
 have hmin:Nat.min ys.length n=min ys.length n:=rfl
 generalize hc:min ys.length n=c at *
 have hcn:c≤n∧c≤ys.length:=by omega
 have quiet:c=0→(Builtin.copy_ #[t,t'] o.type #[v1,.slice A2 ys.length c2]).run P w=.ok (goInt 0) w→rY P w0 m0 F0 o a w (St.fw {s with row:=bz id ⟨r.sz,r.xs.take lo++ys.take c++r.xs.drop (lo+c),r.ov⟩ s.row} o.dst (.v (.one (.int .i64 ((c:Nat):Int))))):=by
  intro h0 hr
  subst h0
  refine sj (v:=goInt 0) (w':=w) (by rw [hrun,hr];rfl) ?_
  have e1:(⟨r.sz,r.xs.take lo++ys.take 0++r.xs.drop (lo+0),r.ov⟩:aN)=r:=by simp
  rw [e1]
  exact ⟨m,ω,(h.Ft hb).fw hd (aM.int .i64 0)⟩
 rcases vi c with h0|h0
 ·refine quiet h0 ?_
  rw [h0] at hmin
  rcases hv1 with ⟨_,_,_,hvv⟩|⟨b,ad,_,_,hvv,_⟩
  ·subst hvv
   have hmin':Nat.min ys.length 0=0:=Nat.min_zero _
   cases A2<;>simp [Builtin.copy_,run_underlying hu,Builtin.lenOf,Builtin.firstCells,sizeOf,typeInfo,g1,hmin',loadCells,loadCellsFrom]
  ·subst hvv
   cases A2<;>simp [Builtin.copy_,run_underlying hu,Builtin.lenOf,Builtin.firstCells,sizeOf,typeInfo,g1,hmin,loadCells,loadCellsFrom,storeCells]
 ·rcases hv1 with ⟨_,_,hn0,_⟩|⟨b,ad,k1,k2,hvv,k4⟩
  ·omega
  ·obtain ⟨q1,q2,q3⟩:=h.row id r hb
   rw [k1] at q3
   obtain ⟨cur,e',p1,p2,p3,p4,p5,_⟩:=q3
   have had:=k4 (.inl (by omega))
   rw [q1] at had
   subst had
   subst hvv
   cases A2 with
   | none =>
    have hy0:=hnone rfl
    rw [hy0] at hcn
    simp at hcn
    omega
   | some ad2 =>
    obtain ⟨news,hnl,hnc,hn1,hnr⟩:=hnews ad2 rfl
    have hle:c * r.sz≤news.length:=by rw [hnl];exact tj _ hcn.2
    have hyl:(ys.take c).length=c:=by simp;omega
    obtain ⟨hf,hC⟩:=h.H' hb hcl k1 p1 (p:=lo) (ys:=ys.take c) (news:=news.take (c * r.sz)) (by rw [hyl];omega) (fun y hy=>hys y (tv hy)) (by rw [hyl,rV];omega) (fun u hu=>hn1 u (tv hu)) (fun p q u hu=>by
     have hpc:p<c:=by
      unfold cellOf at hu
      rw [qg] at hu
      split at hu
      ·assumption
      ·simp at hu
     have hu':cellOf ys p q=some u:=by
      unfold cellOf at hu ⊢
      rwa [qg,if_pos hpc] at hu
     obtain ⟨v,h1,h2⟩:=hnr p q u hu'
     refine ⟨v,?_,h2⟩
     have hq:=(Ax hys hu').2
     have:(p+1) * r.sz≤c * r.sz:=tj _ hpc
     rw [rK] at this
     rw [qg,if_pos (by omega)]
     exact h1)
    rw [hyl] at hC
    have hfc:=run_firstCells_some (P:=P) w inf.size c ad2 ys.length c2 (news.take (c * r.sz)) (by rw [g5,rV];omega) (fun q u hq=>by
     rw [qg] at hq
     split at hq
     ·exact hnc q u hq
     ·cases hq)
    have hst:=run_storeCells_at P b (lo * r.sz) e' (news.take (c * r.sz)) 0 cur w p1 (by simpa using hf) (fun u hu=>hn1 u (tv hu))
    simp only [eJ] at hst
    have hr:(Builtin.copy_ #[t,t'] o.type #[.slice (some ⟨b,lo * r.sz,none⟩) n ((ω.row id).cap - lo),.slice (some ad2) ys.length c2]).run P w=.ok (goInt c) (w.setRow b (cur.toList.take (lo * r.sz)++news.take (c * r.sz)++cur.toList.drop (lo * r.sz+(news.take (c * r.sz)).length)).toArray):=by
     simp [Builtin.copy_,run_underlying hu,Builtin.lenOf,sizeOf,typeInfo,g1,hmin,hfc,hst]
    refine sj (w':=_) (by rw [hrun,hr];rfl) ?_
    exact ⟨m,ω,hC.fw hd (aM.int .i64 _)⟩
theorem Mh {zc:Array Value} {n q:Nat} (hq:q<n * zc.size):∃h:q % zc.size<zc.size,(Builtin.zeroCells zc n)[q]?=some zc[q % zc.size]:=by
 have hpos:0<zc.size:=by
  rcases vi zc.size with h0|h0
  ·rw [h0] at hq;simp at hq
  ·exact h0
 refine ⟨CL _ hpos,?_⟩
 unfold Builtin.zeroCells
 rw [JJ,O5,if_pos hq]
 simp only [dv]
 rw [JE zc (q % zc.size) (CL _ hpos)]
theorem SZ {v:Value} {l:L} (h:aM m v l):aM m v l.cP:=by
 refine h.cP ?_
 cases h<;>first
  | rfl
  | skip
 rename_i f caps vs vals hl hm hr
 simp only [L.dH,zC]
 intro u hu
 obtain ⟨q,hq,rfl⟩:=List.mem_iff_getElem.1 hu
 have:=hr q _ (ig hq)
 generalize vals q=vq at this
 cases hc:caps[q]<;>rw [hc] at this<;>first
  | rfl
  | cases this
theorem By {zc:Array Value} {z:List L} (hm:Ay zc.toList z=true) (n:Nat):(Builtin.zeroCells zc n).toList.length=n * z.length∧(∀v∈(Builtin.zeroCells zc n).toList,v.oneCell'=true) ∧
  ∀i j u,cellOf (List.replicate n (z.map L.cP)) i j=some u→∃v,(Builtin.zeroCells zc n).toList[i * z.length+j]?=some v∧aM m v u:=by
 obtain ⟨k1,k2⟩:=yl (m:=m) zc.toList z hm
 have hzs:zc.size=z.length:=by simpa using k1
 refine ⟨by rw [um,size_zeroCells,hzs],fun v hv=>?_,fun i j u hu=>?_⟩
 ·obtain ⟨q,hq⟩:=List.mem_iff_getElem?.1 hv
  have hlt:q<n * zc.size:=by
   have:=(List.getElem?_eq_some_iff.1 hq).1
   rwa [um,size_zeroCells] at this
  obtain ⟨h1,h2⟩:=Mh hlt
  have hq:(Builtin.zeroCells zc n)[q]?=some v:=by simpa using hq
  rw [h2] at hq
  injection hq with hq
  subst hq
  obtain ⟨v',h3,h4⟩:=k2 (q % zc.size) z[q % zc.size] (ig (by omega))
  have:v'=zc[q % zc.size]:=by
   rw [ig (by simpa using h1)] at h3
   injection h3 with h3
   rw [←h3];simp
  rw [←this]
  exact h4.pN
 ·unfold cellOf at hu
  rw [E4] at hu
  split at hu
  ·rename_i hi
   simp only [dJ,ql,rI] at hu
   obtain ⟨l,hl,rfl⟩:=hu
   have hj:=(List.getElem?_eq_some_iff.1 hl).1
   have hlt:i * z.length+j<n * zc.size:=by
    rw [hzs]
    have:(i+1) * z.length≤n * z.length:=tj _ hi
    rw [rK] at this
    omega
   obtain ⟨h1,h2⟩:=Mh hlt
   have e:(i * z.length+j) % zc.size=j:=by rw [hzs,y8,JN,E5 hj]
   obtain ⟨v',h3,h4⟩:=k2 j l hl
   have hv:v'=zc[j]'(by omega):=by
    rw [ig (by simp;omega)] at h3
    injection h3 with h3
    rw [←h3];simp
   refine ⟨v',?_,SZ h4⟩
   rw [BY,h2,hv]
   simp only [e]
  ·simp at hu
theorem Sq {o:Oper} {t e:TypeId} {i j:TI} {x:Operand} {ty:TypeId} {z:List L} {id lo n:Nat} {r:aN} (ho:o.op=.call {callee:=.builtin .clear,args:=#[x],argTypes:=#[t]})
  (hd:s.rO o.dst) (hT:gM P t i=true) (he:i.elem=some e) (hE:gM P e j=true) (hz:j.zero=some z) (hsz:j.size=r.sz) (hzl:z.length=r.sz) (h:CI P w0 m0 F0 s a w m ω)
  (hx:aE T s ty x=some (.v (.one (.ref id lo n)))) (hb:look s.row id=some r) (hcl:∀i j,i<r.xs.length→aP r.ov i j=none) (hfit:lo+n≤r.xs.length) :
  rY P w0 m0 F0 o a w (St.fw {s with row:=bz id ⟨r.sz,r.xs.take lo++List.replicate n (z.map L.cP)++r.xs.drop (lo+n),r.ov⟩ s.row} o.dst (.cR [])):=by
 have hu:=(iM hT).elem e he
 obtain ⟨inf,zv,g1,g2,g3,_⟩:=(iM hE).zero z hz
 obtain ⟨q,hq⟩:=w3 (P:=P) (a:=a) (w:=w) ho
 have hv1:rk (ω.row id) lo n (a.eval x):=iS h hx
 generalize hax:a.eval x=v1 at *
 have hrun:(execOp a.eval o).run P w=((Builtin.clear_ #[t] o.type #[v1]).run P w).andThen fun v w'=>.ok (.value v) w':=by
  rw [hq]
  simp only [wb,aJ,aI,hax,builtin,Sem.run_bind,Sem.run_pure]
 have quiet:n=0→(Builtin.clear_ #[t] o.type #[v1]).run P w=.ok (.tuple #[]) w→rY P w0 m0 F0 o a w (St.fw {s with row:=bz id ⟨r.sz,r.xs.take lo++List.replicate n (z.map L.cP)++r.xs.drop (lo+n),r.ov⟩ s.row} o.dst (.cR [])):=by
  intro h0 hr
  subst h0
  refine sj (v:=.tuple #[]) (w':=w) (by rw [hrun,hr];rfl) ?_
  have e1:(⟨r.sz,r.xs.take lo++List.replicate 0 (z.map L.cP)++r.xs.drop (lo+0),r.ov⟩:aN)=r:=by simp
  rw [e1]
  exact ⟨m,ω,(h.Ft hb).fw hd w7⟩
 rcases hv1 with ⟨_,_,h0,hvv⟩|⟨b,ad,k1,k2,hvv,k4⟩
 ·refine quiet h0 ?_
  subst hvv
  simp [Builtin.clear_,run_underlying hu]
 ·rcases vi n with h0|h0
  ·refine quiet h0 ?_
   subst hvv
   subst h0
   simp [Builtin.clear_,run_underlying hu]
  ·obtain ⟨q1,q2,q3⟩:=h.row id r hb
   rw [k1] at q3
   obtain ⟨cur,e',p1,p2,p3,p4,p5,_⟩:=q3
   have had:=k4 (.inl (by omega))
   rw [q1] at had
   subst had
   subst hvv
   obtain ⟨z1,z2,z3⟩:=By (m:=m) g3 n
   rw [hzl] at z1 z3
   obtain ⟨hf,hC⟩:=h.H' hb hcl k1 p1 (p:=lo) (ys:=List.replicate n (z.map L.cP)) (news:=(Builtin.zeroCells zv.cells n).toList) (by simpa using hfit) (fun y hy=>by
    rw [AY hy];simpa using hzl) (by simpa using z1) z2 (fun p q u hu=>by
    obtain ⟨v,h1,h2⟩:=z3 p q u hu
    exact ⟨v,h1,.fr h2⟩)
   rw [yh] at hC
   have hst:=run_storeCells_at P b (lo * r.sz) e' (Builtin.zeroCells zv.cells n).toList 0 cur w p1 (by simpa using hf) z2
   simp only [eJ] at hst
   have hr:(Builtin.clear_ #[t] o.type #[.slice (some ⟨b,lo * r.sz,none⟩) n ((ω.row id).cap - lo)]).run P w=.ok (.tuple #[]) (w.setRow b (cur.toList.take (lo * r.sz)++(Builtin.zeroCells zv.cells n).toList++cur.toList.drop (lo * r.sz+(Builtin.zeroCells zv.cells n).toList.length)).toArray):=by
    cases n with
    | zero=>omega
    | succ n=>simp [Builtin.clear_,run_underlying hu,zeroValue,typeInfo,g1,g2,hst]
   refine sj (w':=_) (by rw [hrun,hr];rfl) ?_
   exact ⟨m,ω,hC.fw hd w7⟩
theorem CI.Fu (h : CI P w0 m0 F0 s a w m ω) {id : Nat} {r r' : aN} (hb : look s.row id = some r) (hR : vL m w ω id r') : CI P w0 m0 F0 { s with row := bz id r' s.row } a w m ω := by
  have hl : ∀ κ i, ({ s with row := bz id r' s.row } : St).live κ i → s.live κ i := by
    intro κ i hl
    cases κ with
    | false => exact hl
    | true =>
      simp only [St.live, yk] at hl ⊢
      split at hl
      · rename_i he; rw [he, hb]; rfl
      · exact hl
  refine { size := h.size, defers := h.defers, keeps := h.keeps, qb := h.qb, qc := h.qc, ok := h.ok, env := h.env, box := h.box, row := fun i q hi => ?_, fresh := fun κ i hi => h.fresh κ i (hl κ i hi), apart := fun κ i κ' i' hi hi' => h.apart κ i κ' i' (hl κ i hi) (hl κ' i' hi'),
           home := ⟨h.home.tz, h.home.box, fun i b hb' hi => h.home.row i b hb' (hl true i hi)⟩, pL := h.pL }
  simp only [yk] at hi
  split at hi
  · rename_i he
    injection hi with hi
    subst hi
    rw [he]
    exact hR
  · exact h.row i q hi
def qz (r:aN) (p:Nat):aN:=⟨r.sz,r.xs++List.replicate p (List.replicate r.sz .any),[(r.xs.length+p,0,.any)]⟩
theorem CI.Mi (h:CI P w0 m0 F0 s a w m ω) {id:Nat} {r:aN} (hb:look s.row id=some r) (hov:r.ov=[]):∃p,(ω.row id).cap=r.xs.length+p∧r.xs.length+p≤maxLen∧CI P w0 m0 F0 {s with row:=bz id (qz r p) s.row} a w m ω:=by
 have hR:uo m w ω (ω.row id) (ω.f true id) r:=h.row id r hb
 obtain ⟨g1,g2,g3⟩:=hR
 have hpl:∀(p:Nat) (x:List L),x∈(qz r p).xs→x.length=r.sz:=by
  intro p x hx
  rcases List.mem_append.1 hx with hx|hx
  ·exact g2 x hx
  ·rw [AY hx];simp
 cases hblk:(ω.row id).sT with
 | none =>
  rw [hblk] at g3
  refine ⟨0,by rw [g3.1,g3.2];rfl,by rw [g3.1];simp,h.Fu hb ⟨g1,hpl 0,?_⟩⟩
  rw [hblk]
  exact ⟨by simp [qz,g3.1],g3.2⟩
 | some b =>
  rw [hblk] at g3
  obtain ⟨cs,e,k1,k2,k3,k4,k5,G,k6,k7,k8⟩:=g3
  have hc:r.xs.length+((ω.row id).cap - r.xs.length)=(ω.row id).cap:=by omega
  refine ⟨(ω.row id).cap - r.xs.length,hc.symm,by rw [hc];exact k4.1,h.Fu hb ⟨g1,hpl _,?_⟩⟩
  rw [hblk]
  have hl:(qz r ((ω.row id).cap - r.xs.length)).xs.length=(ω.row id).cap:=by simp [qz];omega
  refine ⟨cs,e,k1,k2,by rw [hl];exact br _,⟨k4.1,fun l _=>hl.symm,k4.2.2⟩,k5,(fun i j k=>i<r.xs.length∧G i j k),(fun i j k hk=>k6 i j k hk.2),(fun i j i' j' k hk hk'=>k7 i j i' j' k hk.2 hk'.2),fun i j u hu=>?_⟩
  obtain ⟨hi,hj⟩:=Ax (hpl _) hu
  rw [hl] at hi
  have hno:aP (qz r ((ω.row id).cap - r.xs.length)).ov i j=none:=by
   simp only [qz,aP,hc]
   rw [if_neg (fun e=>by omega)]
  rw [hno]
  show ∃v,cs[i * r.sz+j]?=some v∧eS m w _ v u
  rcases zF hu with ⟨h1,h2⟩|⟨h1,h2⟩
  ·obtain ⟨v,h3,h4⟩:=k8 i j u h2
   rw [hov] at h4
   exact ⟨v,h3,eS.sub (F:=G i j) h4 fun k hk=>⟨h1,hk⟩⟩
  ·have hu':u=.any:=by
    unfold cellOf at h2
    rw [E4] at h2
    split at h2
    ·simp only [dJ,E4] at h2
     rw [if_pos hj] at h2
     injection h2 with h2
     exact h2.symm
    ·simp at h2
   subst hu'
   have hq:i * r.sz+j<cs.size:=by
    rw [k2]
    have:(i+1) * r.sz≤(ω.row id).cap * r.sz:=tj _ hi
    rw [rK] at this
    omega
   exact ⟨cs[i * r.sz+j],y7 hq,.fr (.any _ (k4.2.2 _ _ (y7 hq)))⟩
theorem CI.DE (h:CI P w0 m0 F0 s a w m ω) {id k:Nat} {r:aN} (hb:look s.row id=some r) (hcl:∀i j,i<r.xs.length→aP r.ov i j=none) (hk:k≤r.xs.length):CI P w0 m0 F0 {s with row:=bz id ⟨r.sz,r.xs.take k,[]⟩ s.row} a w m ω:=by
 have hR:uo m w ω (ω.row id) (ω.f true id) r:=h.row id r hb
 obtain ⟨g1,g2,g3⟩:=hR
 refine h.Fu hb ⟨g1,fun x hx=>g2 x (tv hx),?_⟩
 cases hblk:(ω.row id).sT with
 | none =>
  rw [hblk] at g3
  exact ⟨by rw [g3.1];simp,g3.2⟩
 | some b =>
  rw [hblk] at g3
  obtain ⟨cs,e,k1,k2,k3,k4,k5,G,k6,k7,k8⟩:=g3
  refine ⟨cs,e,k1,k2,by simp;omega,⟨k4.1,fun l hl=>(by cases hl),k4.2.2⟩,k5,G,k6,k7,fun i j u hu=>?_⟩
  have hu':i<k∧cellOf r.xs i j=some u:=by
   unfold cellOf at hu ⊢
   rw [qg] at hu
   split at hu
   ·exact ⟨by assumption,hu⟩
   ·simp at hu
  obtain ⟨v,h3,h4⟩:=k8 i j u hu'.2
  rw [hcl i j (by omega)] at h4
  exact ⟨v,h3,h4⟩
theorem Sr {o:Oper} {t e:TypeId} {i:TI} {x:Operand} {ty:TypeId} {id n d:Nat} {r:aN} (ho:o.op=.call {callee:=.builtin .cap,args:=#[x],argTypes:=#[t]})
  (hd:o.dst=some d) (hn:d<s.n) (hT:gM P t i=true) (he:i.elem=some e) (h:CI P w0 m0 F0 s a w m ω)
  (hx:aE T s ty x=some (.v (.one (.ref id 0 n)))) (hb:look s.row id=some r) (hov:r.ov=[]) :
  ∃p,r.xs.length+p≤maxLen∧rY P w0 m0 F0 o a w (St.put {s with row:=bz id (qz r p) s.row} d (.v (.one (.int .i64 ((r.xs.length+p:Nat):Int))))):=by
 obtain ⟨p,hp,hm,hC⟩:=h.Mi hb hov
 refine ⟨p,hm,?_⟩
 have hu:=(iM hT).elem e he
 obtain ⟨q,hq⟩:=w3 (P:=P) (a:=a) (w:=w) ho
 have hv1:rk (ω.row id) 0 n (a.eval x):=iS h hx
 have hc:(Builtin.cap_ #[t] o.type #[a.eval x]).run P w=.ok (goInt (r.xs.length+p:Nat)) w:=by
  rw [←hp]
  rcases hv1 with ⟨k0,_,_,hvv⟩|⟨b,ad,k1,k2,hvv,k4⟩
  ·have hR:uo m w ω (ω.row id) (ω.f true id) r:=h.row id r hb
   obtain ⟨_,_,g3⟩:=hR
   rw [k0] at g3
   rw [hvv,g3.2]
   simp [Builtin.cap_,run_underlying hu]
  ·rw [hvv]
   simp [Builtin.cap_,run_underlying hu]
 refine sj (v:=goInt (r.xs.length+p:Nat)) (w':=w) ?_ ?_
 ·rw [hq]
  simp only [wb,aJ,aI,builtin,Sem.run_bind,Sem.run_pure,hc]
  rfl
 ·rw [hd]
  exact ⟨m,ω,hC.put hn (aM.int .i64 _)⟩
theorem Sm {o:Oper} {t t' e:TypeId} {i j:TI} {x y:Operand} {ty ty':TypeId} {d id n k:Nat} {kn kq:IntKind} {r:aN} {z:List L} (ho:o.op=.call {callee:=.builtin .append,args:=#[x,y],argTypes:=#[t,t']})
  (hd:o.dst=some d) (hn:d<s.n) (hT:gM P t i=true) (he:i.elem=some e) (hE:gM P e j=true) (hz:j.zero=some z) (hsz:j.size=r.sz) (hzl:z.length=r.sz) (hs0:0<r.sz) (ht':P.underlying t'=some (.int kn)) (h:CI P w0 m0 F0 s a w m ω)
  (hx:aE T s ty x=some (.v (.one (.ref id 0 n)))) (hy:aE T s ty' y=some (.v (.one (.int kq (k:Int))))) (hb:look s.row id=some r) (hcl:∀i j,i<r.xs.length→aP r.ov i j=none)
  (hmk:aP r.ov r.xs.length 0≠none) (hnx:n≤r.xs.length) (hno:pT (r.xs.take n)) (h0:0<k) (hgr:r.xs.length<n+k) (hbs:(n+k) * j.bytes≤140737488355328) (hm:n+k≤9223372036854775807) :
  rY P w0 m0 F0 o a w (s.appended none d r.sz (r.xs.take n++List.replicate k (z.map L.cP)) []):=by
 have hu:=(iM hT).elem e he
 obtain ⟨inf,zv,g1,g2,g3,_⟩:=(iM hE).zero z hz
 obtain ⟨inf',g4,g5,g6⟩:=(iM hE).info
 rw [g1] at g4
 injection g4 with g4
 subst g4
 rw [hsz] at g5
 have hzs:zv.cells.size=r.sz:=by
  have:=(yl (m:=m) zv.cells.toList z g3).1
  simpa [hzl] using this
 obtain ⟨q,hq⟩:=w3 (P:=P) (a:=a) (w:=w) ho
 have hv1:rk (ω.row id) 0 n (a.eval x):=iS h hx
 have hv2:a.eval y=.int kq k:=by
  have hv2:aM m (a.eval y) (.int kq k):=iS h hy
  generalize a.eval y=u at hv2 ⊢
  cases hv2
  rfl
 generalize hax:a.eval x=v1 at *
 have hrun:(execOp a.eval o).run P w=((Builtin.append_ #[t,t'] o.type #[v1,.int kq k]).run P w).andThen fun v w'=>.ok (.value v) w':=by
  rw [hq]
  simp only [wb,aJ,aI,hax,hv2,builtin,Sem.run_bind,Sem.run_pure]
 have hmaxw:maxLen=9223372036854775807:=rfl
 obtain ⟨q1,q2,q3⟩:=h.row id r hb
 have hlx:(r.xs.take n).length=n:=by simp;omega
 have key:∃(base:Option Addr) (sCap:Nat) (olds:List Value),v1=.slice base n sCap∧sCap<n+k∧olds.length=n * r.sz∧(Builtin.firstCells inf.size n (.slice base n sCap)).run P w.drew=.ok olds.toArray w.drew∧(∀v∈olds,v.oneCell'=true) ∧
   ∀i j u,cellOf (r.xs.take n) i j=some u→∃v,olds[i * r.sz+j]?=some v∧eS m w (fun _=>False) v u:=by
  rcases hv1 with ⟨k0,_,hn0,hvv⟩|⟨b,ad,k1,k2,hvv,k4⟩
  ·subst hn0
   refine ⟨none,0,[],hvv,by omega,by simp,by simp [Builtin.firstCells],by simp,fun i j u hu=>by simp [cellOf] at hu⟩
  ·obtain ⟨cs,e',G,p1,p2,p3,p4,p5,olds,p6,p7,p8,p9⟩:=Dp h hb k1 (lo:=0) (n:=n) (by omega)
   simp only [dA,zA,cN] at p7 p9
   have had:=k4 (.inr rfl)
   simp only [zA] at had
   subst had
   rw [k1] at q3
   obtain ⟨_,_,_,_,_,q4,_⟩:=q3
   have hcap:(ω.row id).cap=r.xs.length:=by
    cases hov:aP r.ov r.xs.length 0 with
    | none=>exact absurd hov hmk
    | some l=>exact q4.2.1 l hov
   refine ⟨some ⟨b,0,none⟩,(ω.row id).cap - 0,olds,hvv,by omega,p6,?_,p8,fun i j u hu=>?_⟩
   ·refine run_firstCells_some (P:=P) w.drew inf.size n ⟨b,0,none⟩ n _ olds (by rw [g5];exact p6) fun q u hq=>?_
    have hlt:q<n * r.sz:=by rw [←p6];exact (List.getElem?_eq_some_iff.1 hq).1
    show w.cell? _=some u
    rw [Dn p1]
    rw [p7,qg,if_pos hlt] at hq
    simpa using hq
   ·obtain ⟨v,h1,h2⟩:=p9 i j u hu
    obtain ⟨x,hx',hux⟩:=Ia hu
    have hi:=(Ax (fun x hx=>q2 x (tv hx)) hu).1
    rw [hcl i j (by simp at hi;omega)] at h2
    exact ⟨v,h1,sQ.pT (o:=none) h2 (hno x hx' u hux) _⟩
 obtain ⟨base,sCap,olds,hvv,hgc,hol,hfc,hon,hor⟩:=key
 have hr:=Lib.run_append_grow_zeros (P:=P) w t t' o.type e inf zv kq kn hu ht' g1 g2 base n sCap olds hfc k h0 (by rw [g5];exact hs0) hgc (by omega) (by rw [g6];have:k * j.bytes≤(n+k) * j.bytes:=tj _ (by omega);omega) (growslice_fits (by omega) (by rw [g6];exact hbs))
 rw [←hvv] at hr
 have hge:=grownCap_ge w (n+k) sCap e
 have hcm:grownCap w (n+k) sCap e≤maxLen:=grownCap_le_maxLen w _ sCap e (by rw [hmaxw];exact hm)
 generalize grownCap w (n+k) sCap e=C at hr hge hcm
 obtain ⟨z1,z2,z3⟩:=By (m:=m) g3 k
 obtain ⟨y1,y2,_⟩:=By (m:=m) g3 (C - (n+k))
 rw [hzl] at z1 z3 y1
 have hbl:Below w.heap.size w (w.drew.alloc (.cells (olds.toArray++Builtin.zeroCells zv.cells k++Builtin.zeroCells zv.cells (C - (n+k))) e)):=((Below.refl _ w).drew).alloc (br _) _
 have hh:(w.drew.alloc (.cells (olds.toArray++Builtin.zeroCells zv.cells k++Builtin.zeroCells zv.cells (C - (n+k))) e)).heap[w.heap.size]?=_:=heap_alloc_new w.drew _
 have hsize:=(Array.getElem?_eq_some_iff.1 hh).1
 have hzsz:(Builtin.zeroCells zv.cells k).size=k * r.sz:=by rw [←um];exact z1
 have hysz:(Builtin.zeroCells zv.cells (C - (n+k))).size=(C - (n+k)) * r.sz:=by rw [←um];exact y1
 obtain ⟨ω',hC,hri,_⟩:=h.Ap (r:=⟨r.sz,r.xs.take n++List.replicate k (z.map L.cP),[]⟩) none d hn ⟨some w.heap.size,C,r.sz⟩ (fun q=>q=w.heap.size) (.inl hbl) (fun q hq=>.inr ⟨by omega,by rw [hq];exact hsize⟩) (by
  refine ⟨rfl,fun x hx=>?_,?_⟩
  ·rcases List.mem_append.1 hx with hx|hx
   ·exact q2 x (tv hx)
   ·rw [AY hx];simpa using hzl
  ·refine ⟨_,e,hh,?_,by simp;omega,⟨hcm,fun l hl=>(by cases hl),fun q v hq=>?_⟩,rfl,fun _ _ _=>False,(fun i j k hk=>hk.elim),(fun i j i' j' k hk=>hk.elim),fun i j u hu=>?_⟩
   ·simp only [JF,El,hzsz,hysz,hol,←rK]
    congr 1
    omega
   ·have hm':=EJ hq
    simp only [JG,JH] at hm'
    rcases hm' with (hm'|hm')|hm'
    ·exact hon v hm'
    ·exact z2 v (by simpa using hm')
    ·exact y2 v (by simpa using hm')
   ·show ∃v,_∧eS m _ _ v u
    rcases zF hu with ⟨hi,hu⟩|⟨hi,hu⟩
    ·obtain ⟨v,h1,h2⟩:=hor i j u hu
     have hlt:=(List.getElem?_eq_some_iff.1 h1).1
     refine ⟨v,?_,eS.keep (Mem.le_refl m) h2 fun k hk=>hk.elim⟩
     rw [x5 (by simp;omega),x5 (by simpa using hlt)]
     simpa using h1
    ·rw [hlx] at hi hu
     obtain ⟨v,h1,h2⟩:=z3 _ j u hu
     have hlt:=(List.getElem?_eq_some_iff.1 h1).1
     have hle:n * r.sz≤i * r.sz:=tj _ hi
     rw [Em] at hlt h1
     simp only [um] at hlt
     refine ⟨v,?_,.fr h2⟩
     rw [x5 (by simp;omega),JI (by simp;omega)]
     rw [←h1,BY]
     congr 1
     simp
     omega)
 refine sj (w':=_) (by rw [hrun,hr];rfl) ?_
 rw [hd]
 refine ⟨m,ω',hC.put (by rw [Ao];exact hn) ?_⟩
 show rk (ω'.row d) 0 _ _
 rw [hri]
 have hl2:(r.xs.take n++List.replicate k (z.map L.cP)).length=n+k:=by simp;omega
 rw [hl2]
 exact .inr ⟨w.heap.size,⟨w.heap.size,0,none⟩,rfl,by simp;omega,by simp,fun _=>by simp⟩
theorem Mj {x:Operand} {ty:TypeId} {sz:Nat} (h:CI P w0 m0 F0 s a w m ω) (hx:aE T s ty x=some (.v (.one (.nil sz)))):a.eval x=.slice none 0 0:=by
 have hv:aM m (a.eval x) (.nil sz):=iS h hx
 generalize a.eval x=u at hv ⊢
 cases hv
 rfl
theorem Ss {o:Oper} {t e:TypeId} {i:TI} {x:Operand} {ty:TypeId} {n sz:Nat} (ho:o.op=.call {callee:=.builtin .cap,args:=#[x],argTypes:=#[t]}) (hd:o.dst=some n) (hn:n<s.n) (hT:gM P t i=true) (he:i.elem=some e) (h:CI P w0 m0 F0 s a w m ω)
  (hx:aE T s ty x=some (.v (.one (.nil sz)))):rY P w0 m0 F0 o a w (s.put n (.v (.one (.int .i64 0)))):=by
 have hu:=(iM hT).elem e he
 obtain ⟨q,hq⟩:=w3 (P:=P) (a:=a) (w:=w) ho
 have hc:(Builtin.cap_ #[t] o.type #[a.eval x]).run P w=.ok (goInt (0:Nat)) w:=by
  rw [Mj h hx]
  simp [Builtin.cap_,run_underlying hu]
 refine sj (v:=goInt (0:Nat)) (w':=w) ?_ ?_
 ·rw [hq]
  simp only [wb,aJ,aI,builtin,Sem.run_bind,Sem.run_pure,hc]
  rfl
 ·rw [hd]
  exact ⟨m,ω,h.put hn (aM.int .i64 _)⟩
theorem Sn {o:Oper} {t t' e:TypeId} {i j:TI} {x y:Operand} {ty ty':TypeId} {n k sz:Nat} {kn kq:IntKind} {z:List L} (ho:o.op=.call {callee:=.builtin .append,args:=#[x,y],argTypes:=#[t,t']})
  (hd:o.dst=some n) (hn:n<s.n) (hT:gM P t i=true) (he:i.elem=some e) (hE:gM P e j=true) (hz:j.zero=some z) (hzl:z.length=j.size) (hs0:0<j.size) (ht':P.underlying t'=some (.int kn)) (h:CI P w0 m0 F0 s a w m ω)
  (hx:aE T s ty x=some (.v (.one (.nil sz)))) (hy:aE T s ty' y=some (.v (.one (.int kq (k:Int))))) (h0:0<k) (hbs:k * j.bytes≤140737488355328) (hm:k≤9223372036854775807) :
  rY P w0 m0 F0 o a w (s.appended Option.none n j.size (List.replicate k (z.map L.cP)) []):=by
 have hu:=(iM hT).elem e he
 obtain ⟨inf,zv,g1,g2,g3,_⟩:=(iM hE).zero z hz
 obtain ⟨inf',g4,g5,g6⟩:=(iM hE).info
 rw [g1] at g4
 injection g4 with g4
 subst g4
 obtain ⟨q,hq⟩:=w3 (P:=P) (a:=a) (w:=w) ho
 have hv2:a.eval y=.int kq k:=by
  have hv2:aM m (a.eval y) (.int kq k):=iS h hy
  generalize a.eval y=u at hv2 ⊢
  cases hv2
  rfl
 have hrun:(execOp a.eval o).run P w=((Builtin.append_ #[t,t'] o.type #[.slice none 0 0,.int kq k]).run P w).andThen fun v w'=>.ok (.value v) w':=by
  rw [hq]
  simp only [wb,aJ,aI,Mj h hx,hv2,builtin,Sem.run_bind,Sem.run_pure]
 have hmaxw:maxLen=9223372036854775807:=rfl
 have hr:=Lib.run_append_grow_zeros (P:=P) w t t' o.type e inf zv kq kn hu ht' g1 g2 none 0 0 [] (by simp [Builtin.firstCells]) k h0 (by rw [g5];exact hs0) (by omega) (by omega) (by rw [g6];omega) (growslice_fits (by omega) (by rw [g6,cN];exact hbs))
 simp only [cN] at hr
 have hge:=grownCap_ge w k 0 e
 have hcm:grownCap w k 0 e≤maxLen:=grownCap_le_maxLen w _ 0 e (by rw [hmaxw];exact hm)
 generalize grownCap w k 0 e=C at hr hge hcm
 obtain ⟨z1,z2,z3⟩:=By (m:=m) g3 k
 obtain ⟨y1,y2,_⟩:=By (m:=m) g3 (C - k)
 rw [hzl] at z1 z3 y1
 have hbl:Below w.heap.size w (w.drew.alloc (.cells (([]:List Value).toArray++Builtin.zeroCells zv.cells k++Builtin.zeroCells zv.cells (C - k)) e)):=((Below.refl _ w).drew).alloc (br _) _
 have hh:(w.drew.alloc (.cells (([]:List Value).toArray++Builtin.zeroCells zv.cells k++Builtin.zeroCells zv.cells (C - k)) e)).heap[w.heap.size]?=_:=heap_alloc_new w.drew _
 have hsize:=(Array.getElem?_eq_some_iff.1 hh).1
 have hzsz:(Builtin.zeroCells zv.cells k).size=k * j.size:=by rw [←um];exact z1
 have hysz:(Builtin.zeroCells zv.cells (C - k)).size=(C - k) * j.size:=by rw [←um];exact y1
 obtain ⟨ω',hC,hri,_⟩:=h.Ap (r:=⟨j.size,List.replicate k (z.map L.cP),[]⟩) Option.none n hn ⟨some w.heap.size,C,j.size⟩ (fun q=>q=w.heap.size) (.inl hbl) (fun q hq=>.inr ⟨by omega,by rw [hq];exact hsize⟩) (by
  refine ⟨rfl,fun x hx=>?_,?_⟩
  ·rw [AY hx];simpa using hzl
  ·refine ⟨_,e,hh,?_,by simp;omega,⟨hcm,fun l hl=>(by cases hl),fun q v hq=>?_⟩,rfl,fun _ _ _=>False,(fun i j k hk=>hk.elim),(fun i j i' j' k hk=>hk.elim),fun i' j' u hu=>?_⟩
   ·simp only [JF,El,bI,hzsz,hysz,cN,←rK]
    congr 1
    omega
   ·have hm':=EJ hq
    simp only [JG,JH,List.not_mem_nil,false_or] at hm'
    rcases hm' with hm'|hm'
    ·exact z2 v (by simpa using hm')
    ·exact y2 v (by simpa using hm')
   ·show ∃v,_∧eS m _ _ v u
    obtain ⟨v,h1,h2⟩:=z3 _ j' u hu
    have hlt:=(List.getElem?_eq_some_iff.1 h1).1
    simp only [um] at hlt
    refine ⟨v,?_,.fr h2⟩
    rw [x5 (by simp;omega),JI (by simp)]
    rw [←h1,BY]
    congr 1)
 refine sj (w':=_) (by rw [hrun,hr];rfl) ?_
 rw [hd]
 refine ⟨m,ω',hC.put (by rw [Ao];exact hn) ?_⟩
 show rk (ω'.row n) 0 _ _
 rw [hri]
 rw [yh]
 exact .inr ⟨w.heap.size,⟨w.heap.size,0,none⟩,rfl,by simp;omega,by simp,fun _=>by simp⟩
end
end Go.Bw
namespace Go.Bw
open Go.RowKit
section
variable {P:Program} {w0:World} {m0:Mem} {s s':St} {a:Act} {w w':World} {m m':Mem} {ω ω':Wh} {F0:Home} {F:Nat→Prop} {T:TypeId→Option TI}
abbrev qJ:=List (Nat×List L)
abbrev Rows:=List (Nat×aN)
abbrev ik:=List (Nat×Nat)
def vQ (m:Mem) (ω:Wh) (vs:List Value) (xs:List V):Prop:=vs.length=xs.length∧∀(i:Nat) (x:V),xs[i]?=some x→∃v,vs[i]?=some v∧sJ m ω v x
def A' (P:Program) (f:FuncId) (args:Array Value) (w:World) (R:Value→World→Prop):Prop :=
 (∃v w',(callFunc f args).run P w=.ok (.value v) w'∧R v w')∨((callFunc f args).run P w=.ok (.enter f args) w∧Calls P f args w fun e w'=>∃v,e=.returned v∧R v w')
def roots (bx:qJ) (rw:Rows):St:={n:=0,env:=[],box:=bx,row:=rw}
def a0:Act:={tmps:=#[],defers:=[]}
def Hf (s:St) (ω:Wh) (k:Nat):Prop:=∃κ id,s.live κ id∧ω.f κ id k
noncomputable def handed (bx:qJ) (rw:Rows) (ω:Wh):Home where
 own:=Hf (roots bx rw) ω
 box:=fun id=>if (look bx id).isSome then some (ω.box id) else none
 row:=fun id=>if (look rw id).isSome then some (ω.row id) else none
def HS (P:Program) (w:World) (m:Mem) (ω:Wh) (bx:qJ) (rw:Rows) (r:A) (bx':qJ) (rw':Rows) (v:Value) (w':World):Prop :=
 ∃m' ω',CI P w m (handed bx rw ω) (roots bx' rw') a0 w' m' ω'∧sO m' ω' v r
structure db (P:Program) (f:FuncId) (xs:List V) (bx:qJ) (rw:Rows) (r:A) (bx':qJ) (rw':Rows):Prop where
 call:∀(m:Mem) (w:World) (vs:List Value) (ω:Wh),CI P w m (handed bx rw ω) (roots bx rw) a0 w m ω→vQ m ω vs xs→A' P f vs.toArray w (HS P w m ω bx rw r bx' rw')
def Sat (P:Program) (f:FuncId) (xs:List V) (r:A):Prop:=db P f xs [] [] r [] []
theorem Cl {o:Oper} {f:FuncId} {args:Array Value} {R:Value→World→Prop} (hrun:(execOp a.eval o).run P w=(callFunc f args).run P w) (h:A' P f args w R):ym P o a w R:=by
 rcases h with ⟨v,w',h1,h2⟩|⟨h1,h2⟩
 ·exact sj (by rw [hrun,h1]) h2
 ·intro next Q hn
  unfold Oper.wp
  rw [hrun,h1,Oper.upon_enter]
  refine h2.mono fun e w' he=>?_
  obtain ⟨v,rfl,hR⟩:=he
  exact hn v w' hR
def L.norm:L→L
 | .nil sz=>.sl sz []
 | l=>l
theorem KC {v:Value} {l:L} (h:bi m ω v l):bi m ω v l.norm:=by
 cases l with
 | nil sz =>
  have h:aM m v (.nil sz):=h
  cases h
  exact aM.vK sz
 | _=>exact h
def fv (T:TypeId→Option TI) (s:St):List Operand→List TypeId→Option (List V)
 | [],_=>some []
 | x::xs,tys=>match aE T s (tys.headD 0) x,fv T s xs tys.tail with
  | some (.v y),some r=>some (y.map L.norm::r)
  | _,_=>none
theorem LL (h:CI P w0 m0 F0 s a w m ω):∀(l:List Operand) (tys:List TypeId) (xs:List V),fv T s l tys=some xs→vQ m ω (l.map a.eval) xs
 | [],tys,xs,hx=>by simp only [fv,Option.some.injEq] at hx;subst hx;exact ⟨rfl,fun i x h=>by simp at h⟩
 | x::l,tys,xs,hx=>by
  simp only [fv] at hx
  split at hx
  ·rename_i y r hy hr
   simp only [Option.some.injEq] at hx
   subst hx
   obtain ⟨h1,h2⟩:=LL h l tys.tail r hr
   refine ⟨by simpa using h1,fun i x' hi=>?_⟩
   cases i with
   | zero =>
    simp only [c8,Option.some.injEq] at hi
    subst hi
    have hv:sJ m ω (a.eval x) y:=iS h hy
    exact ⟨_,rfl,hv.map fun v l hl=>KC hl⟩
   | succ i=>simpa using h2 i x' (by simpa using hi)
  ·cases hx
def ez (T:TypeId→Option TI) (s:St) (c:Call):Option (FuncId×List V) :=
 match c.callee with
 | .value g =>
  (match aE T s 0 g with
  | some (.v (.one (.bD f caps)))=>(match fv T s c.args.toList c.argTypes.toList with|some xs=>some (f,xs++caps.map V.one)|none=>none)
  | _=>none)
 | _=>none
theorem KD {o:Oper} {c:Call} {f:FuncId} {xs:List V} (ho:o.op=.call c) (hc:ez T s c=some (f,xs)):wi o=false:=by
 unfold ez at hc
 split at hc
 ·rename_i g hg
  simp [wi,ho,hg]
 ·cases hc
theorem EQ {o:Oper} {c:Call} {f:FuncId} {xs:List V} (ho:o.op=.call c) (h:CI P w0 m0 F0 s a w m ω) (hc:ez T s c=some (f,xs)):∃vs:List Value,(execOp a.eval o).run P w=(callFunc f vs.toArray).run P w∧vQ m ω vs xs:=by
 unfold ez at hc
 split at hc
 ·rename_i g hg
  split at hc
  ·rename_i f' caps hf
   split at hc
   ·rename_i ys hys
    simp only [Option.some.injEq,Prod.mk.injEq] at hc
    obtain ⟨rfl,rfl⟩:=hc
    obtain ⟨cs,h1,h2,h3⟩:=iS h hf
    have hA:=LL h _ _ _ hys
    refine ⟨(c.args.toList.map a.eval)++cs,?_,by simp [hA.1,h2],fun i x hi=>?_⟩
    ·unfold execOp
     simp only [ho,resolve,hg,h1,Deferred.ofValue,Sem.run_bind,Sem.run_pure,Result.andThen_ok,invoke]
     congr 2
     apply vI
     simp
    ·by_cases hlt:i<ys.length
     ·rw [vk hlt] at hi
      obtain ⟨v,h4,h5⟩:=hA.2 i x hi
      refine ⟨v,?_,h5⟩
      rw [vk (by rw [hA.1];exact hlt)]
      exact h4
     ·rw [ul (by omega),ql,rI] at hi
      obtain ⟨u,hu,rfl⟩:=hi
      obtain ⟨v,h4,h5⟩:=h3 _ u hu
      refine ⟨v,?_,?_⟩
      ·rw [ul (by rw [hA.1];omega),hA.1]
       exact h4
      ·rcases h5 with h5|h5
       ·exact h5.ua
       ·cases u with
        | ptr=>exact h5
        | dj=>exact h5
        | _=>cases h5
   ·cases hc
  ·cases hc
 ·cases hc
theorem uG.chain {F F':Nat→Prop} {w w' w'':World} (h:uG F w w') (h':uG F' w' w'') (hF:∀k,F' k→w.heap.size≤k∨F k):uG F w w'' :=
 ⟨h'.os.trans h.os,h'.tape.trans h.tape,h'.output.trans h.output,pU h.size h'.size,fun k hk hn=>(h'.block k (wN hk h.size) fun hf=>(hF k hf).elim (by omega) hn).trans (h.block k hk hn)⟩
theorem CI.HT (h:CI P w0 m0 F0 s a w m ω) {F:Nat→Prop} (hF:∀k,F k→w0.heap.size≤k∨F0 k):Ep P w F:=fun w' hk=>h.pL w' (h.keeps.chain hk hF)
theorem CI.none (hg:Ep P w (handed [] [] ω).own) (hok:∀x v,m x=some v→w.cell? x=some v):CI P w m (handed [] [] ω) (roots [] []) a0 w m ω where
 size:=rfl
 defers:=rfl
 keeps:=uG.refl _ _
 qb:=Mem.le_refl m
 qc:=fun _ _ _=>rfl
 ok:=hok
 env:=fun t x hx=>by cases hx
 box:=fun t x hx=>by cases hx
 row:=fun t x hx=>by cases hx
 fresh:=fun κ id hl=>by cases κ<;>cases hl
 apart:=fun κ id _ _ hl=>by cases κ<;>cases hl
 home:=⟨(fun id hid=>by rcases hid with hid|hid<;>cases hid),(fun id b hb=>by cases hb),(fun id b hb=>by cases hb)⟩
 pL:=hg
theorem L.HU {v:Value} {l:L} (h:bi m ω v l):bi m ω' v l.cP:=by
 by_cases hz:l.dH=true
 ·exact ((h.yi hz).cP hz).ua
 ·have e:l.cP=.any:=by
   cases l<;>first
    | rfl
    | exact absurd rfl hz
    | (simp only [L.cP];rw [if_neg hz])
  rw [e]
  exact aM.any v h.pN
theorem wV {k:Nat}:¬ (handed [] [] ω) k:=by
 rintro ⟨κ,id,hl,_⟩
 cases κ<;>cases hl
theorem CI.C7 (h:CI P w0 m0 F0 s a w m ω) {ω':Wh}:Ep P w (handed [] [] ω').own:=h.HT fun k hk=>absurd hk wV
theorem Rx {o:Oper} {c:Call} {f:FuncId} {xs:List V} {r:A} (ho:o.op=.call c) (h:CI P w0 m0 F0 s a w m ω) (hc:ez T s c=some (f,xs)) (hS:Sat P f xs r):qh P w0 m0 F0 s o (r.map L.cP) a w ω:=by
 obtain ⟨vs,h1,h2⟩:=EQ ho h hc
 refine ER (KD ho hc) ?_
 refine (Cl h1 (hS.call m w vs ω (CI.none h.C7 h.ok) h2)).mono fun v w' hp=>?_
 obtain ⟨m',ω',hC,hv⟩:=hp
 refine ⟨m',h.grow ⟨hC.keeps.os,hC.keeps.tape,hC.keeps.output,hC.keeps.size,fun k hk=>hC.keeps.block k hk wV⟩ hC.qb (fun x hx=>hC.qc x hx wV) hC.ok,?_⟩
 exact hv.map fun v l hl=>L.HU hl
def L.flat:L→L
 | .int k n=>.int k n
 | .bool b=>.bool b
 | .str s=>.str s
 | _=>.any
theorem L.KE {v:Value} {l:L} (h:bi m ω v l):bi m' ω' v l.flat:=by
 cases l with
 | int k n=>have h:aM m v (.int k n):=h;cases h;exact aM.int k n
 | bool b=>have h:aM m v (.bool b):=h;cases h;exact aM.bool b
 | str q=>have h:aM m v (.str q):=h;cases h;exact aM.str q
 | _=>exact aM.any v (bi.pN (m:=m) (ω:=ω) h)
noncomputable def B1 (m:Mem) (F:Nat→Prop):Mem:=by
 classical exact fun x=>if F x.block then Option.none else m x
theorem Bq {F:Nat→Prop} {x:Addr} (h:¬ F x.block):B1 m F x=m x:=by unfold B1;rw [if_neg h]
theorem Er {F:Nat→Prop} {x:Addr} (h:F x.block):B1 m F x=Option.none:=by unfold B1;rw [if_pos h]
theorem LM (n n':Nat) (e e':List (Nat×A)) (b:qJ) (r:Rows):∀k,gN k ⟨n,e,b,r⟩=gN k ⟨n',e',b,r⟩
 | 0=>by funext l;cases l<;>rfl
 | k+1=>by
  have ih:=LM n n' e e' b r k
  funext l
  cases l<;>simp only [gN,ih]
theorem Ry {o:Oper} {c:Call} {f:FuncId} {xs:List V} {r:A} (ho:o.op=.call c) (h:CI P w0 m0 F0 s a w m ω) (hc:ez T s c=some (f,xs)) (hS:Sat P f (xs.map fun x=>x.map (gN 4 ⟨0,[],[],s.row⟩)) r):qh P w0 m0 F0 s o (r.map L.flat) a w ω:=by
 rw [LM 0 s.n [] [] [] s.row] at hS
 obtain ⟨vs,h1,h2⟩:=EQ ho h hc
 let F:Nat→Prop:=Hf s ω
 have hF:∀x v,m x=some v→¬ F x.block:=by
  rintro x v hx ⟨κ,id,hl,hk⟩
  exact (h.fresh κ id hl _ hk).2.2 x v hx rfl
 have hle:=EO (w:=w) hF
 have hlv:∀κ id,(St.mk s.n [] [] s.row).live κ id→s.live κ id:=fun κ id hl=>by
  cases κ with
  | false=>cases hl
  | true=>exact hl
 have hw:CI P w0 m0 F0 ⟨s.n,[],[],s.row⟩ a w m ω:=h.weaken rfl (fun t x hx=>by cases hx) (fun t x hx=>by cases hx) (fun t x hx=>hx)
 have hA:vQ (wU m w F) ω vs (xs.map fun x=>x.map (gN 4 ⟨s.n,[],[],s.row⟩)):=by
  refine ⟨by simpa using h2.1,fun i x hi=>?_⟩
  rw [ql,rI] at hi
  obtain ⟨x0,hi,rfl⟩:=hi
  obtain ⟨v,h3,h4⟩:=h2.2 i x0 hi
  exact ⟨v,h3,h4.map fun v l hl=>(He hw hle (fun κ id hl x hx=>C6 (m:=m) ⟨κ,id,hlv κ id hl,hx⟩) 4 v l hl).ua⟩
 refine ER (KD ho hc) ?_
 refine (Cl h1 (hS.call _ w vs ω (CI.none h.C7 (EP h.ok)) hA)).mono fun v w' hp=>?_
 obtain ⟨m',ω',hC,hv⟩:=hp
 have hlt:∀k,F k→k<w.heap.size:=fun k ⟨κ,id,hl,hk⟩=>(h.fresh κ id hl k hk).1
 refine ⟨B1 m' F,h.grow ⟨hC.keeps.os,hC.keeps.tape,hC.keeps.output,hC.keeps.size,fun k hk=>hC.keeps.block k hk wV⟩ (fun x v hx=>?_) (fun x hx=>?_) (fun x v hx=>?_),hv.map fun v l hl=>L.KE hl⟩
 ·rw [Bq (hF x v hx)]
  exact hC.qb x v (hle x v hx)
 ·by_cases hb:F x.block
  ·rw [Er hb]
   cases hm:m x with
   | none=>rfl
   | some v=>exact absurd hb (hF x v hm)
  ·rw [Bq hb,hC.qc x hx wV,AZ hb]
 ·by_cases hb:F x.block
  ·rw [Er hb] at hx;cases hx
  ·rw [Bq hb] at hx
   exact hC.ok x v hx
def L.dK (σb σr:ik):L→L
 | .ptr id o=>match look σb id with|some j=>.ptr j o|none=>.any
 | .dj id i o=>match look σr id with|some j=>.dj j i o|none=>.any
 | .ref id lo n=>match look σr id with|some j=>.ref j lo n|none=>.any
 | l=>l
def L.ids (σb σr:ik):L→L
 | .bD f caps=>.bD f (caps.map (L.dK σb σr))
 | l=>l.dK σb σr
def L.eX (kb kr:List Nat):L→L
 | .ptr id o=>if kb.elem id then .any else .ptr id o
 | .dj id i o=>if kr.elem id then .any else .dj id i o
 | .ref id lo n=>if kr.elem id then .any else .ref id lo n
 | l=>l
def L.kl (kb kr:List Nat):L→L
 | .bD f caps=>.bD f (caps.map (L.eX kb kr))
 | l=>l.eX kb kr
theorem Rz {kb kr:List Nat} (hb:∀i,kb.elem i=false→ω'.box i=ω.box i) (hr:∀i,kr.elem i=false→ω'.row i=ω.row i) {v:Value} {l:L} (h:bi m ω v l):bi m ω' v (l.kl kb kr):=by
 have hP:∀x u,tT ω x u→aM m x (u.eX kb kr)∨tT ω' x (u.eX kb kr):=by
  intro x u hu
  cases u with
  | ptr i o =>
   simp only [L.eX]
   cases hk:kb.elem i with
   | true=>exact .inl (.any _ hu.pN)
   | false=>refine .inr ?_;show x=_;rw [hb i hk];exact hu
  | dj i k o =>
   simp only [L.eX]
   cases hk:kr.elem i with
   | true=>exact .inl (.any _ hu.pN)
   | false=>refine .inr ?_;show ∃b,_;rw [hr i hk];exact hu
  | _=>cases hu
 have hR:∀x u,aM m x u→aM m x (u.eX kb kr):=by
  intro x u hu
  cases u with
  | ptr=>cases hu
  | dj=>cases hu
  | ref=>cases hu
  | _=>exact hu
 cases l with
 | ptr i o =>
  simp only [L.kl,L.eX]
  cases hk:kb.elem i with
  | true=>exact aM.any v (bi.pN (ω:=ω) (m:=m) (l:=.ptr i o) h)
  | false=>show v=_;rw [hb i hk];exact h
 | dj i k o =>
  simp only [L.kl,L.eX]
  cases hk:kr.elem i with
  | true=>exact aM.any v (bi.pN (ω:=ω) (m:=m) (l:=.dj i k o) h)
  | false=>show ∃b,_;rw [hr i hk];exact h
 | ref i lo n =>
  simp only [L.kl,L.eX]
  cases hk:kr.elem i with
  | true=>exact aM.any v (bi.pN (ω:=ω) (m:=m) (l:=.ref i lo n) h)
  | false=>show rk (ω'.row i) lo n v;rw [hr i hk];exact h
 | bD f caps =>
  obtain ⟨vs,h1,h2,h3⟩:=h
  refine ⟨vs,h1,by simpa using h2,fun i u hu=>?_⟩
  simp only [ql,rI] at hu
  obtain ⟨u0,hu,rfl⟩:=hu
  obtain ⟨x,h4,h5⟩:=h3 i u0 hu
  refine ⟨x,h4,?_⟩
  rcases h5 with h5|h5
  ·exact .inl (hR _ _ h5)
  ·exact hP _ _ h5
 | _=>exact h
def LO (σb σr:ik):L→Bool
 | .ptr i _=>(look σb i).isSome
 | .dj i _ _=>(look σr i).isSome
 | .ref i _ _=>(look σr i).isSome
 | _=>true
def vR (σb σr:ik):L→Bool
 | .bD _ caps=>caps.all (LO σb σr)
 | l=>LO σb σr l
theorem HV {σb σr:ik} (hb:∀i j,look σb i=some j→ω'.box i=ω.box j) (hr:∀i j,look σr i=some j→ω'.row i=ω.row j) {v:Value} {l:L} (hid:vR σb σr l=true)
  (h:bi m ω v (l.ids σb σr)):bi m ω' v l:=by
 cases l with
 | ptr i o =>
  obtain ⟨j,hj⟩:=Option.isSome_iff_exists.1 hid
  simp only [L.ids,L.dK,hj] at h
  show v=_
  rw [hb i j hj]
  exact h
 | dj i k o =>
  obtain ⟨j,hj⟩:=Option.isSome_iff_exists.1 hid
  simp only [L.ids,L.dK,hj] at h
  show ∃b,_
  rw [hr i j hj]
  exact h
 | ref i lo n =>
  obtain ⟨j,hj⟩:=Option.isSome_iff_exists.1 hid
  simp only [L.ids,L.dK,hj] at h
  show rk _ lo n v
  rw [hr i j hj]
  exact h
 | bD f caps =>
  obtain ⟨vs,h1,h2,h3⟩:=h
  refine ⟨vs,h1,by simpa using h2,fun i u hu=>?_⟩
  obtain ⟨x,h4,h5⟩:=h3 i (u.dK σb σr) (by simp [hu])
  refine ⟨x,h4,?_⟩
  have hui:=List.all_eq_true.1 hid u (rX hu)
  cases u with
  | ptr i o =>
   obtain ⟨j,hj⟩:=Option.isSome_iff_exists.1 hui
   simp only [L.dK,hj] at h5
   rcases h5 with h5|h5
   ·cases h5
   ·refine .inr ?_
    show x=_
    rw [hb i j hj]
    exact h5
  | dj i k o =>
   obtain ⟨j,hj⟩:=Option.isSome_iff_exists.1 hui
   simp only [L.dK,hj] at h5
   rcases h5 with h5|h5
   ·cases h5
   ·refine .inr ?_
    show ∃b,_
    rw [hr i j hj]
    exact h5
  | ref i lo n =>
   obtain ⟨j,hj⟩:=Option.isSome_iff_exists.1 hui
   simp only [L.dK,hj] at h5
   rcases h5 with h5|h5<;>cases h5
  | _ =>
   rcases h5 with h5|h5
   ·exact .inl h5
   ·cases h5
 | _=>exact h
theorem RA {σb σr:ik} (hb:∀i j,look σb i=some j→ω'.box j=ω.box i) (hr:∀i j,look σr i=some j→ω'.row j=ω.row i) {v:Value} {l:L} (h:bi m ω v l):bi m ω' v (l.ids σb σr):=by
 have hP:∀x u,tT ω x u→aM m x (u.dK σb σr)∨tT ω' x (u.dK σb σr):=by
  intro x u hu
  cases u with
  | ptr i o =>
   simp only [L.dK]
   cases hk:look σb i with
   | none=>exact .inl (.any _ hu.pN)
   | some j=>refine .inr ?_;show x=_;rw [hb i j hk];exact hu
  | dj i k o =>
   simp only [L.dK]
   cases hk:look σr i with
   | none=>exact .inl (.any _ hu.pN)
   | some j=>refine .inr ?_;show ∃b,_;rw [hr i j hk];exact hu
  | _=>cases hu
 have hR:∀x u,aM m x u→aM m x (u.dK σb σr):=by
  intro x u hu
  cases u with
  | ptr=>cases hu
  | dj=>cases hu
  | ref=>cases hu
  | _=>exact hu
 cases l with
 | ptr i o =>
  simp only [L.ids,L.dK]
  cases hk:look σb i with
  | none=>exact aM.any v (bi.pN (ω:=ω) (m:=m) (l:=.ptr i o) h)
  | some j=>show v=_;rw [hb i j hk];exact h
 | dj i k o =>
  simp only [L.ids,L.dK]
  cases hk:look σr i with
  | none=>exact aM.any v (bi.pN (ω:=ω) (m:=m) (l:=.dj i k o) h)
  | some j=>show ∃b,_;rw [hr i j hk];exact h
 | ref i lo n =>
  simp only [L.ids,L.dK]
  cases hk:look σr i with
  | none=>exact aM.any v (bi.pN (ω:=ω) (m:=m) (l:=.ref i lo n) h)
  | some j=>show rk (ω'.row j) lo n v;rw [hr i j hk];exact h
 | bD f caps =>
  obtain ⟨vs,h1,h2,h3⟩:=h
  refine ⟨vs,h1,by simpa using h2,fun i u hu=>?_⟩
  simp only [ql,rI] at hu
  obtain ⟨u0,hu,rfl⟩:=hu
  obtain ⟨x,h4,h5⟩:=h3 i u0 hu
  refine ⟨x,h4,?_⟩
  rcases h5 with h5|h5
  ·exact .inl (hR _ _ h5)
  ·exact hP _ _ h5
 | _=>exact h
end
end Go.Bw
