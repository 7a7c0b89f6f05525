/- Proved: contracts of functions of this translation, for every state, and what they rest on; bounds stand ahead. -/
import Derived.Test.YtmnpdfeocknafaaGreatDoorVd
import Derived.Test.YtmnpdfeocknafaaGreatDoorVe
set_option maxRecDepth 100000
set_option maxHeartbeats 64000000
set_option linter.unusedSimpArgs false
set_option linter.unusedVariables false
namespace Go.Bw
open Go.Proofs
theorem Hs (a b:Int):Sat Tryz.prog 157 [oI a,oI b] (.v (oI (uH a b))):=by
 refine ZE Tryz.func157 Tryz.ntmps157 fun w0 m0 F0=>?_
 refine pK Z0 Z0 ?_;repeat' (first|apply Zb|apply Zn|(apply Zm;intro h))
 all_goals simp -dsimp (disch:=first|exact D|fail) only [aR,Tryz.results157,aQ,aS,aO,St.rest,St.freeze,RT,go_sem,↓reduceIte,seval]
 all_goals simp [uH, *]
 all_goals omega
def CF (a:fM) (op:ByteArray) (b:fM):Bool :=
 if !Ai op then false else if a.kind==0||b.kind==0 then true else
 tY a b==0&&!aw op Gc||decide (tY a b<0)&&!aw op Gb
theorem D6 (a b:fM):Sat Tryz.prog 156 [.agg (bd a),.agg (bd b)] (.v (oI (tY a b))):=by
 refine ZE Tryz.func156 Tryz.ntmps156 fun w0 m0 F0=>?_
 refine pK Z0 (Z2 @Hs @Hr) ?_;repeat' (first|apply Zb|apply Zn|(apply Zm;intro h))
 all_goals simp -dsimp (disch:=first|exact D|fail) only [aR,Tryz.results156,aQ,aS,aO,St.rest,St.freeze,RT,go_sem,↓reduceIte,seval]
 all_goals simp_all [tY]
theorem PU (l : List gK) (f : Nat) (cs : List L) (p : gK → Bool) (hlen : l.length ≤ 140737488355328) (hp : ∀ t ∈ l, Sat Tryz.prog f (.agg (aT t) :: cs.map .one) (.v (oB (p t)))) :
    Sat Tryz.prog 183 [.one (cS l), .one (.bD f cs)] (.v (oI (idx p l 0))) := by
  refine ZE Tryz.func183 Tryz.ntmps183 fun w0 m0 F0 => ?_
  refine ZW Z0 Z0 ?_
  refine ab.loop (ι := {k : Nat // k ≤ l.length ∧ idx p (l.drop k) k = idx p l 0}) (fun k => ⟨19, [(0, .v (.one (cS l))), (1, .v (.one (.bD f cs))), (7, .v (oI l.length)), (8, .v (oI k.1))], [], []⟩) (fun k => l.length - k.1) ⟨0, bg _, rfl⟩ ?_ fun ⟨k, hkl, hi⟩ => ?_
  · exact ZL Z0
  repeat' (first | ((first | with_reducible refine qV ah fun K hK => ?_ | ((with_reducible refine ai.is ?_); (refine ai.pure (hp _ (bl (by omega))) ?_))) <;> simp -dsimp (disch := first | exact D | fail) only [go_sem, ↓reduceIte, seval]) | ((with_reducible refine hK _ ?_); clear hK K) | refine Q1 ?_ | ((with_reducible refine qW (T := TT) (b := ?_) ?_ ?_); rotate_left; exact rfl) | ((with_reducible refine yS ?_ ?_) <;> (intro h; try simp only [NM] at h)) | fail)
  all_goals first 
    | (have hk : ¬ k < l.length := by omega
       refine ZR (Z1 Tryz.results183) ?_
       rw [← hi, Bf hk]
       done)
    | (
       refine ZR (Z1 Tryz.results183) ?_
       rw [← hi, Bg _ ‹_›])
    | (refine ⟨⟨k + 1, by omega, by rw [Bh _ ‹_›, hi]⟩, by simp only; omega, ?_⟩
       exact ZL Z0
       )
theorem CV (l : List FK) (f : Nat) (cs : List L) (p : FK → Bool) (hlen : l.length ≤ 140737488355328) (hp : ∀ t ∈ l, Sat Tryz.prog f (.agg (aL t) :: cs.map .one) (.v (oB (p t)))) :
    Sat Tryz.prog 125 [.one (dI l), .one (.bD f cs)] (.v (oI (idx p l 0))) := by
  refine ZE Tryz.func125 Tryz.ntmps125 fun w0 m0 F0 => ?_
  refine ZW Z0 Z0 ?_
  refine ab.loop (ι := {k : Nat // k ≤ l.length ∧ idx p (l.drop k) k = idx p l 0}) (fun k => ⟨19, [(0, .v (.one (dI l))), (1, .v (.one (.bD f cs))), (7, .v (oI l.length)), (8, .v (oI k.1))], [], []⟩) (fun k => l.length - k.1) ⟨0, bg _, rfl⟩ ?_ fun ⟨k, hkl, hi⟩ => ?_
  · exact ZL Z0
  repeat' (first | ((first | with_reducible refine qV ah fun K hK => ?_ | ((with_reducible refine ai.is ?_); (refine ai.pure (hp _ (bl (by omega))) ?_))) <;> simp -dsimp (disch := first | exact D | fail) only [go_sem, ↓reduceIte, seval]) | ((with_reducible refine hK _ ?_); clear hK K) | refine Q1 ?_ | ((with_reducible refine qW (T := TT) (b := ?_) ?_ ?_); rotate_left; exact rfl) | ((with_reducible refine yS ?_ ?_) <;> (intro h; try simp only [NM] at h)) | fail)
  all_goals first 
    | (have hk : ¬ k < l.length := by omega
       refine ZR (Z1 Tryz.results125) ?_
       rw [← hi, Bf hk]
       done)
    | (
       refine ZR (Z1 Tryz.results125) ?_
       rw [← hi, Bg _ ‹_›])
    | (refine ⟨⟨k + 1, by omega, by rw [Bh _ ‹_›, hi]⟩, by simp only; omega, ?_⟩
       exact ZL Z0
       )
theorem PW (t:gK) (name:ByteArray):Sat Tryz.prog 184 [.agg (aT t),.one (.fz [.str name])] (.v (oB (aw t.name name))):=by
 refine ZE Tryz.func184 Tryz.ntmps184 fun w0 m0 F0=>?_
 refine ZW Z0 Z0 ?_
 refine ZR (Z1 Tryz.results184) ?_
 rfl
theorem zb (s:au) (name:ByteArray) (hlen:s.ae.length≤140737488355328):Sat Tryz.prog 124 [.agg (ap s),oS name] (.cR [oI (sI (pP s.ae name)),oB (decide (0≤pP s.ae name))]):=by
 refine ZE Tryz.func124 Tryz.ntmps124 fun w0 m0 F0=>?_
 repeat' (first|((first|with_reducible refine qV ah fun K hK=>?_|((with_reducible refine ai.is ?_);(((apply ai.cO);(focus (simp -dsimp (disch:=first|exact D|fail) only [go_sem,↓reduceIte,seval];rfl));(focus (first|exact (PU s.ae _ [.fz [.str name]] _ hlen fun t _=>PW t name)))))))<;>simp -dsimp (disch:=first|exact D|fail) only [go_sem,↓reduceIte,seval])|((with_reducible refine hK _ ?_);clear hK K)|refine Q1 ?_|fail)
 refine ZR (Z1 Tryz.results124) ?_
 rfl
theorem UE {α:Type} {a b:List α} {k:Nat} (h1:k<a.length) (h2:k<b.length) (h:a.take k=b.take k) (he:a[k]=b[k]):a.take (k+1)=b.take (k+1):=by
 rw [qd a k h1,qd b k h2,h,he]
theorem Be (a b:List Int) (hl:a.length≤140737488355328):Sat Tryz.prog 98 [.one (bj a),.one (bj b)] (.v (oB (decide (a=b)))):=by
 refine ZE Tryz.func98 Tryz.ntmps98 fun w0 m0 F0=>?_
 refine pK Z0 Z0 ?_;repeat' (first|apply Zb|apply Zn|(apply Zm;intro h))
 rotate_left
 ·refine ZR (Z1 Tryz.results98) ?_
  simp [UH ‹_›]
 refine ab.loop (ι:={k:Nat // k≤a.length∧a.take k=b.take k}) (fun k=>⟨26,[(0,.v (.one (bj a))),(1,.v (.one (bj b))),(12,.v (oI a.length)),(13,.v (oI k.1))],[],[]⟩) (fun k=>a.length - k.1) ⟨0,bg _,rfl⟩ ?_ fun ⟨k,hkl,hi⟩=>?_
 ·exact ZL Z0
 refine rj Z0 Z0 ?_;repeat' (first|apply Zb|apply Zn|(apply Zm;intro h))
 ·have ha:k<a.length:=by omega
  have hb:k<b.length:=by omega
  rename_i h1 h2 h
  refine ⟨⟨k+1,by omega,UE ha hb hi h⟩,by simp only;omega,?_⟩
  exact ZL Z0
 ·have ha:k<a.length:=by omega
  have hb:k<b.length:=by omega
  refine ZR (Z1 Tryz.results98) ?_
  rename_i h1 h
  simp [UG ha hb h]
 ·have ha:a.length≤k:=by omega
  have hb:b.length≤k:=by omega
  refine ZR (Z1 Tryz.results98) ?_
  simp [UF ha hb hi]
theorem FU (a b:FK) (hl:a.ae.length≤140737488355328):Sat Tryz.prog 54 [.agg (aL a),.agg (aL b)] (.v (oB (sK a b))):=by
 refine ZE Tryz.func54 Tryz.ntmps54 fun w0 m0 F0=>?_
 repeat' (first|((first|with_reducible refine qV ah fun K hK=>?_|refine Q2 ?_|((with_reducible refine qS ?_ ?_)<;>(intro h;try simp only [NM] at h))|((with_reducible refine ai.is ?_);(refine ai.pure (Be _ _ hl) ?_)))<;>simp -dsimp (disch:=first|exact D|fail) only [go_sem,↓reduceIte,seval])|((with_reducible refine hK _ ?_);clear hK K)|refine Q1 ?_|fail)
 all_goals simp -dsimp (disch:=first|exact D|fail) only [aR,Tryz.results54,aQ,aS,aO,St.rest,St.freeze,RT,go_sem,↓reduceIte,seval]
 all_goals simp_all [sK,aw]
theorem F4 (l:List FK) (f:Nat) (cs:List L) (p:FK→Bool) (hlen:l.length≤140737488355328) (hp:∀t∈l,Sat Tryz.prog f (.agg (aL t)::cs.map .one) (.v (oB (p t)))) :
  Sat Tryz.prog 76 [.one (dI l),.one (.bD f cs)] (.v (oB (decide (0≤idx p l 0)))):=by
 refine ZE Tryz.func76 Tryz.ntmps76 fun w0 m0 F0=>?_
 repeat' (first|((first|with_reducible refine qV ah fun K hK=>?_|((with_reducible refine ai.is ?_);(refine ai.pure (CV l _ _ _ hlen hp) ?_)))<;>simp -dsimp (disch:=first|exact D|fail) only [go_sem,↓reduceIte,seval])|((with_reducible refine hK _ ?_);clear hK K)|refine Q1 ?_|fail)
 exact ZQ (Z1 Tryz.results76)
theorem Bi (a b:fM) (op:ByteArray):Sat Tryz.prog 126 [.agg (bd a),oS op,.agg (bd b)] (.cR [oB (CF a op b),oI (xX op)]):=by
 refine sS ah Tryz.func126 fun w0 m0 F0=>?_
 simp only [Tryz.ntmps126,bK,Nat.reduceAdd]
 repeat' (first|((first|with_reducible refine qV ah fun K hK=>?_|refine Q2 ?_|((with_reducible refine qS ?_ ?_)<;>(intro h;try simp only [NM] at h))|((with_reducible refine ai.is ?_);(refine ai.pure (D6 _ _) ?_)))<;>simp -dsimp (disch:=first|exact D|fail) only [go_sem,↓reduceIte,seval])|((with_reducible refine hK _ ?_);clear hK K)|refine Q1 ?_|((with_reducible refine qW (T:=TT) (b:=?_) ?_ ?_);rotate_left;exact rfl)|((with_reducible refine yS ?_ ?_)<;>(intro h;try simp only [NM] at h))|fail)
 all_goals try simp -dsimp (disch:=first|exact D|fail) only [aR,Tryz.results126,aQ,aS,aO,St.rest,St.freeze,RT,go_sem,↓reduceIte,seval]
 all_goals try simp_all [CF,xX,aw,Ai,Gb,Gc,N3]
theorem u7 (v:fM):Sat Tryz.prog 127 [.agg (bd v)] (.v (oI (tK v))):=by
 refine sS ah Tryz.func127 fun w0 m0 F0=>?_
 simp only [Tryz.ntmps127,bK,Nat.reduceAdd]
 repeat' (first|((first|with_reducible refine qV ah fun K hK=>?_|refine Q2 ?_|((with_reducible refine qS ?_ ?_)<;>(intro h;try simp only [NM] at h)))<;>simp -dsimp (disch:=first|exact D|fail) only [go_sem,↓reduceIte,seval])|((with_reducible refine hK _ ?_);clear hK K)|refine Q1 ?_|((with_reducible refine qW (T:=TT) (b:=?_) ?_ ?_);rotate_left;exact rfl)|((with_reducible refine yS ?_ ?_)<;>(intro h;try simp only [NM] at h))|fail)
 all_goals simp -dsimp (disch:=first|exact D|fail) only [aR,Tryz.results127,aQ,aS,aO,St.rest,St.freeze,RT,go_sem,↓reduceIte,seval]
 all_goals simp_all [tK,aw]
 all_goals omega
theorem GV {a b:fM}:a=b↔a.kind=b.kind∧a.int=b.int∧a.text.toList=b.text.toList:=by
 constructor
 ·rintro rfl;exact ⟨rfl,rfl,rfl⟩
 ·rintro ⟨h1,h2,h3⟩
  cases a;cases b
  simp only at h1 h2 h3
  rw [h1,h2,toList_inj h3]
theorem Cx {α:Type} {a b:List α} {k:Nat} (ha:k<a.length) (hb:k<b.length) (h:a.take k=b.take k) (e:a[k]=b[k]):a.take (k+1)=b.take (k+1):=by
 rw [qd a k ha,qd b k hb,h,e]
theorem I' {a b:dN}:a=b↔a.table.toList=b.table.toList∧a.left=b.left∧a.op.toList=b.op.toList∧a.right=b.right∧a.value.kind=b.value.kind∧a.value.int=b.value.int∧a.value.text.toList=b.value.text.toList:=by
 constructor
 ·rintro rfl;exact ⟨rfl,rfl,rfl,rfl,rfl,rfl,rfl⟩
 ·rintro ⟨h1,h2,h3,h4,h5,h6,h7⟩
  cases a;cases b
  simp only at h1 h2 h3 h4 h5 h6 h7
  rw [toList_inj h1,h2,toList_inj h3,h4,GV.2 ⟨h5,h6,h7⟩]
theorem V' (a b:FK):sK a b=decide (a=b):=by
 rw [EM]
 simp only [sK,qa,qo,uv]
 constructor
 ·rintro ⟨⟨h1,h2⟩,h3⟩;cases a;cases b;simp_all
 ·rintro rfl;exact ⟨⟨rfl,rfl⟩,rfl⟩
theorem JZ (a b:List dN) (h1:a.length≤140737488355328) (h2:b.length≤140737488355328):Sat Tryz.prog 55 [.one (dy a),.one (dy b)] (.v (oB (decide (a=b)))):=by
 refine ZE Tryz.func55 Tryz.ntmps55 fun w0 m0 F0=>?_
 refine pK Z0 Z0 ?_;repeat' (first|apply Zb|apply Zn|(apply Zm;intro h))
 rotate_left
 ·refine ZR (Z1 Tryz.results55) ?_
  have hn:¬ a=b:=fun e=>by rw [e] at h;exact h rfl
  simp [hn]
 have hl:a.length=b.length:=by omega
 refine ab.loop (ι:={k:Nat // k≤a.length∧a.take k=b.take k}) (fun k=>⟨26,[(0,.v (.one (dy a))),(1,.v (.one (dy b))),(12,.v (oI a.length)),(13,.v (oI k.1))],[],[]⟩) (fun k=>a.length - k.1) ⟨0,bg _,rfl⟩ ?_ fun ⟨k,hkl,hi⟩=>?_
 ·exact ZL Z0
 rcases cV k a.length with hc|hc
 ·have hb:k<b.length:=by omega
  refine rj Z0 Z0 ?_;repeat' (first|apply Zb|apply Zn|(apply Zm;intro h))
  ·refine ⟨⟨k+1,by omega,Cx hc hb hi (I'.2 h)⟩,by simp only;omega,?_⟩
   exact ZL Z0
  ·refine ZR (Z1 Tryz.results55) ?_
   have hn:¬ a=b:=fun e=>by
    obtain ⟨e1,e2,e3,e4,e5,e6,e7⟩:=I'.1 (get_of_eq hc hb e)
    simp_all
   simp [hn]
 ·have hk:a=b:=by
   rw [du (by omega),du (by omega)] at hi
   exact hi
  refine ZW Z0 Z0 ?_
  refine ZR (Z1 Tryz.results55) ?_
  simp [hk]
theorem Kc (a b:FK) (hl:a.ae.length≤140737488355328):Sat Tryz.prog 54 [.agg (aL a),.agg (aL b)] (.v (oB (decide (a=b)))):=by
 rw [←V']
 exact FU a b hl
theorem JY (a b : List FK) (h1 : a.length ≤ 140737488355328) (h2 : b.length ≤ 140737488355328) (h3 : ∀ t ∈ a, t.ae.length ≤ 140737488355328) :
    Sat Tryz.prog 53 [.one (dI a), .one (dI b), .one (.bD 54 [])] (.v (oB (decide (a = b)))) := by
  refine ZE Tryz.func53 Tryz.ntmps53 fun w0 m0 F0 => ?_
  refine pK Z0 Z0 ?_; repeat' (first | apply Zb | apply Zn | (apply Zm; intro h))
  rotate_left
  · refine ZR (Z1 Tryz.results53) ?_
    have hn : ¬ a = b := fun e => by rw [e] at h; exact h rfl
    simp [hn]
  have hl : a.length = b.length := by omega
  refine ab.loop (ι := {k : Nat // k ≤ a.length ∧ a.take k = b.take k}) (fun k => ⟨32, [(1, .v (.one (dI b))), (2, .v (.one (.bD 54 []))), (15, .v (.one (dI a))), (16, .v (oI a.length)), (17, .v (oI k.1))], [], []⟩) (fun k => a.length - k.1) ⟨0, bg _, rfl⟩ ?_ fun ⟨k, hkl, hi⟩ => ?_
  · exact ZL Z0
  rcases cV k a.length with hc | hc
  · have hb : k < b.length := by omega
    repeat' (first | ((first | with_reducible refine qV ah fun K hK => ?_ | ((with_reducible refine ai.is ?_); (refine ai.pure (Kc a[k] b[k] (h3 _ (bl hc))) ?_))) <;> simp -dsimp (disch := first | exact D | fail) only [go_sem, ↓reduceIte, seval]) | ((with_reducible refine hK _ ?_); clear hK K) | refine Q1 ?_ | ((with_reducible refine qW (T := TT) (b := ?_) ?_ ?_); rotate_left; exact rfl) | ((with_reducible refine yS ?_ ?_) <;> (intro h; try simp only [NM] at h)) | fail)
    all_goals first
      | (refine ⟨⟨k + 1, by omega, Cx hc hb hi ‹_›⟩, by simp only; omega, ?_⟩
         exact ZL Z0
         done)
      | (have hn : ¬ a = b := fun e => ‹¬ _› (get_of_eq hc hb e)
         refine ZR (Z1 Tryz.results53) ?_
         simp [hn])
  · have hk : a = b := by
      rw [du (by omega), du (by omega)] at hi
      exact hi
    refine ZW Z0 Z0 ?_
    refine ZR (Z1 Tryz.results53) ?_
    simp [hk]
theorem Jf {α:Type} (p:α→Bool):∀(l:List α) (k:Nat),decide (0≤idx p l k)=l.any p
 | [],k=>by simp [idx]
 | x::l,k=>by
  rw [idx,LF]
  cases hx:p x with
  | true=>simp
  | false=>simpa using Jf p l (k+1)
theorem DY (l:List FK) (f:Nat) (cs:List L) (p:FK→Bool) (hlen:l.length≤140737488355328) (hp:∀t∈l,Sat Tryz.prog f (.agg (aL t)::cs.map .one) (.v (oB (p t)))) :
  Sat Tryz.prog 76 [.one (dI l),.one (.bD f cs)] (.v (oB (l.any p))):=by
 rw [←Jf p l 0]
 exact F4 l f cs p hlen hp
theorem IK (n:Nat) (h:n≤1048576):Sat Tryz.prog 139 [oI n] (.v (.one (bj (ew n)))) :=
 (Wu n h).rN (by
  have sl:=De n
  simp -dsimp (disch:=first|exact D|fail) only [go_sem,↓reduceIte,seval,x8,St.rest,roots,bh,bj,sl]
  )
theorem UY (c:dN):Sat Tryz.prog 138 [.agg (aK c)] (.v (.one (bj (yd c)))):=by
 refine ZE Tryz.func138 Tryz.ntmps138 fun w0 m0 F0=>?_
 refine pK Z0 Z0 ?_;repeat' (first|apply Zb|apply Zn|(apply Zm;intro h))
 all_goals simp -dsimp (disch:=first|exact D|fail) only [aR,Tryz.results138,aQ,aS,aO,St.rest,St.freeze,RT,go_sem,↓reduceIte,seval]
 all_goals first
  | (rw [yd,if_pos (by omega)];rfl)
  | (rw [yd,if_neg (by omega)];rfl)
theorem DT {l:List au} {k:Nat} (t:au) (h:k<l.length) (c:List gK):setCell (qk l k t) k 1 (.own 3 (c.map aT))=qk l k ⟨t.name,c,t.pk⟩:=by
 unfold setCell
 rw [BF t h]
 exact DV l k t ⟨t.name,c,t.pk⟩
def dh:sY→qJ
 | .error _=>[]
 | .ok s=>qw s
def di:sY→Rows
 | .error _=>[]
 | .ok s=>qx s
theorem sU (l:List au):(l.map eh).map (fun x=>x.map (L.fD 4))=l.map ap:=by
 rw [wP]
 refine u6 fun t _=>?_
 show [L.str t.name,L.sl 3 ((t.ae.map aT).map fun x=>x.map (L.fD 3)),L.sl 1 ((t.pk.map aX).map fun x=>x.map (L.fD 3))]=ap t
 rw [DX (e:=aT) fun _=>rfl,DX (e:=aX) fun _=>rfl]
 rfl
theorem pW (l:List FK):(l.map pS).map (fun x=>x.map (L.fD 4))=l.map aL:=by
 rw [wP]
 refine u6 fun t _=>?_
 show [L.str t.table,L.sl 1 ((t.ae.map aX).map fun x=>x.map (L.fD 3)),L.str t.ref]=aL t
 rw [DX (e:=aX) fun _=>rfl]
 rfl
theorem eW (l:List au):tF (l.map eh)=l.map ap:=sU l
theorem fH (l:List FK):tF (l.map pS)=l.map aL:=pW l
theorem FW (ts:List au) (F C:List (List L)) (nf nc:Nat) (t:au) (hl:ts.length<19) :
  db Tryz.prog 132 [.one (.ptr 1000 0),.agg (ap t)] [(1000,[.ref 1000 0 ts.length,.ref 1001 0 nf,.ref 1002 0 nc])] [(1000,⟨3,ts.map ap,[]⟩),(1001,⟨3,F,[]⟩),(1002,⟨7,C,[]⟩)]
   (.cR []) [(1000,[.ref 11 0 (ts.length+1),.ref 1001 0 nf,.ref 1002 0 nc])] [(11,⟨3,(vA qp 0 (ts.length+1) (ts++[t])).map ap,[]⟩),(1001,⟨3,F,[]⟩),(1002,⟨7,C,[]⟩)]:=by
 have st:=WB (ts++[t]) (by simp;omega)
 rw [bA,z7] at st
 unfold y5 at st
 refine ZM [1000] [11,1001,1002] Tryz.func132 Tryz.ntmps132 fun w0 m0 F0=>?_
 refine ZV (Z4 (@List.map_append.{0,0}) @bh @bt @bu) Z0 (Z1 (Zd 1 [(0,6)] [(6,[],[(0,5)]),(7,[(8,2)],[(0,1)]),(10,[],[])] [6,7,10] 8)) (Z1 (Zi [] [(1000,11)] [] [(1000,11)] [] [] [] [11,11] (st))) ?_
 exact ZQ (Z1 Tryz.results132)
theorem Ow:∀a b:List UInt8,Lib.compareBytes a b<0↔Op.bytesLess a b=true
 | [],[]=>by simp [Lib.compareBytes,Op.bytesLess]
 | [],_::_=>by simp [Lib.compareBytes,Op.bytesLess]
 | _::_,[]=>by simp [Lib.compareBytes,Op.bytesLess]
 | a::x,b::y=>by
  have ih:=Ow x y
  simp only [Lib.compareBytes,Op.bytesLess]
  by_cases h1:a<b
  ·simp [h1]
  ·by_cases h2:b<a
   ·have:¬ a=b:=fun e=>by subst e;exact h1 h2
    simp [h1,h2,this]
   ·have:a=b:=by
     rw [E7] at h1 h2
     exact UInt8.toNat_inj.1 (by omega)
    simp [this,ih]
theorem W3 {a b:ByteArray}:wg a b<0↔Op.bytesLess a.toList b.toList=true:=by
 unfold wg
 rw [Ow,ByteArray.toList_eq,ByteArray.toList_eq]
def qj (a b:au):Prop:=wg a.name b.name<0
instance (a b:au):Decidable (qj a b):=Int.decLt _ _
theorem qj.trans {a b c:au} (h:qj a b) (k:qj b c):qj a c:=Gk.trans _ _ _ h k
theorem qj.ne {a b:au} (h:qj a b):a.name≠b.name:=fun e=>by
 unfold qj at h
 rw [e,(Gk.tH _ _).2 rfl] at h
 omega
theorem Kr {α:Type} {R:α→α→Prop} (tr:∀a b c,R a b→R b c→R a c):∀{l:List α},(∀j,∀h:j+1<l.length,R l[j] l[j+1])→l.Pairwise R
 | [],_=>List.Pairwise.nil
 | [x],_=>XW _ _
 | x::y::r,h=>by
  have h2:(y::r).Pairwise R:=Kr tr fun j hj=>by
   have:=h (j+1) (by simpa using hj)
   simpa using this
  refine List.pairwise_cons.2 ⟨fun z hz=>?_,h2⟩
  have hxy:R x y:=by have:=h 0 (by simp);simpa using this
  rcases List.mem_cons.1 hz with rfl|hz
  ·exact hxy
  ·exact tr _ _ _ hxy ((List.pairwise_cons.1 h2).1 z hz)
theorem wX {s:aq} (h:dC s=0):s.tables.Pairwise qj:=by
 have h1:=((zj s).1 h).2.1
 refine Kr (R:=qj) (fun _ _ _ h k=>qj.trans h k) fun j hj=>?_
 have:=h1 (j+1) hj
 unfold uN at this
 split at this
 ·cases this
 split at this
 ·cases this
 ·rename_i h2
  have e:((((j+1:Nat):Int)) - 1).toNat=j:=by omega
  rw [e,bE _ (by omega)] at h2
  have h3:¬ (Op.bytesLess s.tables[j+1].name.toList s.tables[j].name.toList=true∨s.tables[j+1].name.toList=s.tables[j].name.toList):=fun q=>h2 ⟨by omega,q⟩
  unfold qj
  rw [W3]
  refine I7 ?_ fun e=>h3 (.inr e)
  cases hb:Op.bytesLess s.tables[j+1].name.toList s.tables[j].name.toList with
  | false=>rfl
  | true=>exact absurd (.inl hb) h3
theorem Ad {ts:List au} {n:ByteArray}:¬ 0≤aY ts n↔∀t∈ts,t.name≠n:=by
 unfold aY
 rw [Gp]
 constructor
 ·intro h t ht e
  have:=h t ht
  rw [qo.2 e] at this
  cases this
 ·intro h t ht
  cases hb:aw t.name n with
  | false=>rfl
  | true=>exact absurd (qo.1 hb) (h t ht)
theorem vd {ts:List au} {n:ByteArray} (h:¬ aY ts n<0):∃i,∃hi:i<ts.length,aY ts n=(i:Int)∧ts[i].name=n:=by
 rcases qn (fun t=>aw t.name n) ts 0 with ⟨e1,_⟩|⟨i,hi,e1,e2,_⟩
 ·have e1:aY ts n=-1:=e1
  omega
 ·exact ⟨i,hi,by unfold aY;simpa using e1,qo.1 e2⟩
theorem xt {ts:List au} (hs:ts.Pairwise qj) {i:Nat} (hi:i<ts.length):aY ts ts[i].name=(i:Int):=by
 by_cases hn:aY ts ts[i].name<0
 ·exact absurd rfl (Ad.1 (by omega) _ (bl hi))
 ·obtain ⟨j,hj,e,hnm⟩:=vd hn
  rw [e]
  rcases O6 i j with h|h|h
  ·exact absurd hnm.symm (List.pairwise_iff_getElem.1 hs i j hi hj h).ne
  ·rw [h]
  ·exact absurd hnm (List.pairwise_iff_getElem.1 hs j i hj hi h).ne
theorem Ox {ds:List au} {i j:Nat} (hi:i<ds.length) (hj:j<ds.length):zZ qp ds i j=decide (qj ds[i] ds[j]):=by
 simp only [zZ,ig hi,ig hj]
 rfl
theorem Oy {ds:List au} {j:Nat} (hj:j<ds.length) (h:∀q:0<j,¬ qj ds[j] (ds[j - 1]'(by omega))):wa qp 0 j ds=ds:=by
 refine Jg qp 0 j ds ?_
 rcases vi j with h0|h0
 ·exact .inl (by omega)
 ·refine .inr ?_
  rw [Ox hj (by omega)]
  exact yG (h h0)
theorem W4 (A:List au) (t:au):∀(B C:List au),(∀x∈B,qj t x)→(∀q:0<A.length,¬ qj t (A[A.length - 1]'(by omega)))→wa qp 0 (A.length+B.length) (A++B++t::C)=A++t::(B++C):=by
 intro B
 induction h:B.length generalizing B with
 | zero =>
  intro C hB hA
  have:B=[]:=Al h
  subst this
  simp only [bM,aZ]
  refine Oy (by simp) fun q=>?_
  have e1:(A++t::C)[A.length+0]'(by simp)=t:=by simp
  have e2:(A++t::C)[A.length+0 - 1]'(by simp;omega)=A[A.length - 1]'(by omega):=by
   rw [LH (by omega)]
   rfl
  rw [e1,e2]
  exact hA (by omega)
 | succ n ih =>
  intro C hB hA
  obtain ⟨B',x,rfl⟩:∃B' x,B=B'++[x]:=by
   rcases List.eq_nil_or_concat B with e|⟨B',x,e⟩
   ·subst e;simp at h
   ·exact ⟨B',x,by simpa using e⟩
  have hn:B'.length=n:=by simpa using h
  have hlen:A.length+(n+1)=(A++B').length+1:=by simp;omega
  have e0:A++(B'++[x])++t::C=(A++B')++x::t::C:=by simp
  rw [hlen,e0,wa]
  have g1:((A++B')++x::t::C)[(A++B').length+1]'(by simp;omega)=t:=by
   rw [CN (by omega)]
   simp
  have g2:((A++B')++x::t::C)[(A++B').length]'(by simp)=x:=by
   rw [CN (br _)]
   simp
  rw [if_pos ⟨by omega,by
   rw [Ox (by simp;omega) (by simp),g1,g2]
   exact sB (hB x (by simp))⟩]
  have sw:zY ((A++B')++x::t::C) ((A++B').length+1) (A++B').length=(A++B')++t::x::C:=by
   rw [Oe (by simp;omega) (by simp),g1,g2]
   rw [z8 _ _ (by omega),z8 _ _ (br _)]
   simp
  rw [sw]
  have:=ih B' hn (x::C) (fun y hy=>hB y (by simp [hy])) hA
  rw [bA,hn,this]
  simp
theorem Oz {ts:List au} (hs:ts.Pairwise qj) (t:au):∀n i,n+i≤ts.length→wM qp 0 n i (ts++[t])=ts++[t]
 | 0,_,_=>rfl
 | n+1,i,h=>by
  rw [wM,Oy (by simp;omega) (fun q=>by
   rw [LH (by omega),LH (by omega)]
   intro hl
   have:=List.pairwise_iff_getElem.1 hs (i - 1) i (by omega) (by omega) (by omega)
   exact (qj.trans this hl).ne rfl)]
  exact Oz hs t n (i+1) (by omega)
theorem OA (t:au):∀n i (l:List au),wM qp 0 (n+1) i l=wa qp 0 (i+n) (wM qp 0 n i l)
 | 0,i,l=>by rw [wM,wM,wM];rfl
 | n+1,i,l=>by
  rw [wM,OA t n (i+1),wM]
  congr 1
  omega
theorem W5 {A B:List au} {t:au} (h:(A++t::B).Pairwise qj):vA qp 0 ((A++B).length+1) ((A++B)++[t])=A++t::B:=by
 have hp:=List.pairwise_append.1 h
 have hB:=List.pairwise_cons.1 hp.2.1
 have hAB:(A++B).Pairwise qj:=List.pairwise_append.2 ⟨hp.1,hB.2,fun a ha b hb=>hp.2.2 a ha b (uW _ hb)⟩
 unfold vA
 rcases vi (A++B).length with h0|h0
 ·have:A++B=[]:=Al h0
  obtain ⟨rfl,rfl⟩:=List.append_eq_nil_iff.1 this
  rfl
 ·obtain ⟨n,hn⟩:∃n,(A++B).length=n+1:=⟨(A++B).length - 1,by omega⟩
  rw [show (A++B).length+1 - (0+1)=n+1 by omega,OA t n 1,Oz hAB t n 1 (by omega)]
  have hl:1+n=A.length+B.length:=by rw [bA] at hn;omega
  rw [hl,W4 A t B [] hB.1 fun q hq=>?_,bM]
  exact (qj.trans (hp.2.2 _ (bl (by omega)) t (x6 ..)) hq).ne rfl
theorem place {ts:List au} (hs:ts.Pairwise qj) (t:au) (hn:∀x∈ts,x.name≠t.name):∃A B,ts=A++B∧(A++t::B).Pairwise qj:=by
 induction ts with
 | nil=>exact ⟨[],[],rfl,by simp⟩
 | cons x r ih =>
  have hx:=List.pairwise_cons.1 hs
  rcases Gk.total x.name t.name with h|h|h
  ·obtain ⟨A,B,e,hp⟩:=ih hx.2 fun y hy=>hn y (uW _ hy)
   refine ⟨x::A,B,by rw [e];rfl,List.pairwise_cons.2 ⟨fun y hy=>?_,hp⟩⟩
   rcases List.mem_append.1 hy with hy|hy
   ·exact hx.1 y (by rw [e];simp [hy])
   ·rcases List.mem_cons.1 hy with rfl|hy
    ·exact h
    ·exact hx.1 y (by rw [e];simp [hy])
  ·exact absurd h (hn x (x6 ..))
  ·refine ⟨[],x::r,rfl,List.pairwise_cons.2 ⟨fun y hy=>?_,hs⟩⟩
   rcases List.mem_cons.1 hy with rfl|hy
   ·exact h
   ·exact qj.trans (b:=x) h (hx.1 y hy)
theorem Ec {s:aq} {A B:List au} {t:au} (hs:s.tables=A++B) (h:(A++t::B).Pairwise qj):tq s t={s with tables:=A++t::B}:=by
 unfold tq
 rw [hs,W5 h]
theorem Ix {α:Type} {p:α→Prop} {l:List α} {k:Nat} (hk:k<l.length) (h:∀x∈l.take k,p x) (hx:p l[k]):∀x∈l.take (k+1),p x:=by
 rw [qd l k hk]
 intro x h'
 rcases List.mem_append.1 h' with q|q
 ·exact h x q
 ·rw [List.mem_singleton.1 q];exact hx
theorem UP (l:List Int) (h1:l.length≤1048576):db Tryz.prog 61 [.one (.ref 1000 0 l.length)] [] [(1000,⟨1,l.map aX,[]⟩)] (.v (.one (.ref 2 0 l.length))) [] [(1000,⟨1,l.map aX,[]⟩),(2,⟨1,l.map aX,[]⟩)]:=by
 refine ZM [] [1000,2] Tryz.func61 Tryz.ntmps61 fun w0 m0 F0=>?_
 refine ZW Z0 Z0 ?_;repeat' (first|apply Zb|apply Zn|(apply Zk;intro K hK))
 intro b hb
 refine hK _ ?_
 try clear hK K
 refine pK Z0 Z0 ?_;repeat' (first|apply Zb|apply Zn|(apply Zm;intro h)|(apply Zk;intro K hK))
 all_goals simp -dsimp (disch:=first|exact D|fail) only [aR,Tryz.results61,aQ,aS,aO,St.rest,St.freeze,RT,go_sem,↓reduceIte,seval]
 have h2:l=[]:=by
  cases l with
  | nil=>rfl
  | cons x r=>exact absurd ((hb _ rfl (by simp)).symm.trans ‹b=true›) (by decide)
 subst h2
 exact ⟨rfl,rfl⟩
theorem IC (st:aG) (n:Nat) (c:Int) (hn:n≤1048576) (hl:st.ae.length≤1048576):wF Tryz.prog 135 ([[.int .i64 (n:Int)],aj st].map L.fz) (uL n st.ae) c:=by
 have ix:=J1 st.ae c (by omega)
 have hb:-1≤idx (fun x=>x==c) st.ae 0∧idx (fun x=>x==c) st.ae 0<st.ae.length+1:=by
  rcases qn (fun x=>x==c) st.ae 0 with ⟨e1,_⟩|⟨j,hj,e1,_,_⟩
  ·omega
  ·omega
 unfold wF uL
 generalize idx (fun x=>x==c) st.ae 0=q at ix hb ⊢
 simp only [aJ,aI]
 refine ZE Tryz.func135 Tryz.ntmps135 fun w0 m0 F0=>?_
 refine ZV (Z1 @aj.eq_1) (Z1 (ix)) (Z1 (Zd 1 [(0,4)] [(4,[(5,2)],[(0,1)])] [4] 8)) Z0 ?_
 exact ZQ (Z1 Tryz.results135)
theorem FY {α:Type} (p:α→Bool) (l:List α) (k:Nat) (h:k<l.length):(l.take (k+1)).filter p=(l.take k).filter p++(if p l[k] then [l[k]] else []):=by
 rw [qd l k h,tZ]
 cases hp:p l[k]<;>simp [hp]
theorem FZ {α:Type} (p:α→Bool) (l:List α) (k:Nat):((l.take k).filter p).length≤l.length:=pU (vl _ _) (by simp;omega)
theorem C' (X:List (List L)) (s:aq) (table other:ByteArray) (h2:s.ak.length≤1048576) (h3:∀f∈s.ak,f.ae.length≤1048576) (h4:s.cons.length≤1048576) :
  Sat Tryz.prog 145 [.agg [.sl 3 X,dI s.ak,dy s.cons],oS table,oS other] (.v (oI (CU s table other))):=by
 have spec0:CU s table other=if s.ak.any fun f=>aw f.ref table||aw f.ref other then 10
   else if (s.ak.filter fun f=>aw f.table table)≠((s.ak.filter fun f=>!aw f.table table&&aw f.table other).map (CR table)) then 10
   else if (s.cons.filter fun c=>aw c.table table)≠((s.cons.filter fun c=>!aw c.table table&&aw c.table other).map (CS table)) then 11
   else 0:=rfl
 rw [spec0]
 clear spec0
 refine ZE Tryz.func145 Tryz.ntmps145 fun w0 m0 F0=>?_
 refine ZW Z0 Z0 ?_
 refine ab.loop (ι:={k:Nat // k≤s.ak.length∧∀f∈s.ak.take k,(aw f.ref table||aw f.ref other)=false}) (fun k=>⟨85,[(1,.v (oS table)),(2,.v (oS other)),(3,.v (.one (.ptr 3 0))),(7,.v (.one (.ref 7 0 ((s.ak.take k.1).filter fun f=>aw f.table table).length))),(8,.v (.one (.ref 8 0 ((s.ak.take k.1).filter fun f=>!aw f.table table&&aw f.table other).length))),(16,.v (.one (dI s.ak))),(17,.v (oI s.ak.length)),(18,.v (oI k.1))],[(3,[.sl 3 X,dI s.ak,dy s.cons])],[(7,⟨3,((s.ak.take k.1).filter fun f=>aw f.table table).map aL,[]⟩),(8,⟨3,(((s.ak.take k.1).filter fun f=>!aw f.table table&&aw f.table other).map (CR table)).map aL,[]⟩)]⟩) (fun k=>s.ak.length - k.1) ⟨0,bg _,by simp⟩ ?_ fun ⟨k,hkl,hr⟩=>?_
 ·refine St.bN ?_ ?_ ?_<;>simp only [LE,EN,Nat.reduceEqDiff,reduceIte,Nat.reduceSub,c9,dO,aI,bI]
 simp only at hkl hr ⊢
 rcases cV k s.ak.length with hk|hk
 ·have f1:=FY (fun f=>aw f.table table) s.ak k hk
  have f2:=FY (fun f=>!aw f.table table&&aw f.table other) s.ak k hk
  have l1:=FZ (fun f=>aw f.table table) s.ak k
  have l2:=FZ (fun f=>!aw f.table table&&aw f.table other) s.ak k
  cases hq:aw s.ak[k].ref table||aw s.ak[k].ref other with
  | true =>
   have hany:(s.ak.any fun f=>aw f.ref table||aw f.ref other)=true:=List.any_eq_true.2 ⟨_,bl hk,hq⟩
   rw [if_pos hany]
   rcases wO _ _▸hq with hq|hq
   ·have hq':s.ak[k].ref.toList=table.toList:=by simpa [aw] using hq
    refine ZW (Z1 @hq') Z0 ?_
    exact ZQ (Z1 Tryz.results145)
   ·have hq':s.ak[k].ref.toList=other.toList:=by simpa [aw] using hq
    refine pK (Z1 @hq') Z0 ?_;repeat' (first|apply Zb|apply Zn|(apply Zm;intro h))
    all_goals simp -dsimp (disch:=first|exact D|fail) only [aR,Tryz.results145,aQ,aS,aO,St.rest,St.freeze,RT,go_sem,↓reduceIte,seval]
  | false =>
   obtain ⟨q1,q2⟩:=Bool.or_eq_false_iff.1 hq
   have q1':¬ s.ak[k].ref.toList=table.toList:=by simpa [aw] using q1
   have q2':¬ s.ak[k].ref.toList=other.toList:=by simpa [aw] using q2
   have hr':=Ix hk hr hq
   cases hT:aw s.ak[k].table table with
   | true =>
    have hT':s.ak[k].table.toList=table.toList:=by simpa [aw] using hT
    simp only [hT,if_true,fi,fN,de,if_false,bM] at f1 f2
    refine ZW (Z3 @q1' @q2' @hT') Z0 ?_
    refine ⟨⟨k+1,by omega,hr'⟩,by simp only;omega,?_⟩
    exact ZN (Z3 @f1 @f2 @aL.eq_1)
   | false =>
    have hT':¬ s.ak[k].table.toList=table.toList:=by simpa [aw] using hT
    cases hO:aw s.ak[k].table other with
    | true =>
     have hO':s.ak[k].table.toList=other.toList:=by simpa [aw] using hO
     have hot:¬ other.toList=table.toList:=fun q=>hT' (hO'.trans q)
     simp only [hT,hO,if_true,fB,Am,de,if_false,bM] at f1 f2
     refine ZW (Z5 @q1' @q2' @hT' @hO' @hot) Z0 ?_
     refine ⟨⟨k+1,by omega,hr'⟩,by simp only;omega,?_⟩
     exact ZN (Z4 @f1 @f2 @aL.eq_1 @CR.eq_1)
    | false =>
     have hO':¬ s.ak[k].table.toList=other.toList:=by simpa [aw] using hO
     simp only [hT,hO,fB,iL,de,if_false,bM] at f1 f2
     refine ZW (Z4 @q1' @q2' @hT' @hO') Z0 ?_
     refine ⟨⟨k+1,by omega,hr'⟩,by simp only;omega,?_⟩
     exact ZL (Z2 @f1 @f2)
 rw [du hk] at hr ⊢
 have hany:(s.ak.any fun f=>aw f.ref table||aw f.ref other)=false:=by
  rw [Cd]
  intro f hf
  simp [hr f hf]
 rw [hany]
 simp only [de,if_false]
 have lA:(s.ak.filter fun f=>aw f.table table).length≤s.ak.length:=vl _ _
 have lB:(s.ak.filter fun f=>!aw f.table table&&aw f.table other).length≤s.ak.length:=vl _ _
 have mA:∀f∈s.ak.filter (fun f=>aw f.table table),f.ae.length≤140737488355328:=fun f hf=>by have:=h3 f (List.mem_filter.1 hf).1;omega
 have eqf:=JY (s.ak.filter fun f=>aw f.table table) ((s.ak.filter fun f=>!aw f.table table&&aw f.table other).map (CR table)) (by omega) (by rw [bw];omega) mA
 obtain ⟨A,hA⟩:∃A,(s.ak.filter fun f=>aw f.table table)=A:=⟨_,rfl⟩
 obtain ⟨B,hB⟩:∃B,((s.ak.filter fun f=>!aw f.table table&&aw f.table other).map (CR table))=B:=⟨_,rfl⟩
 have hBl:(s.ak.filter fun f=>!aw f.table table&&aw f.table other).length=B.length:=by rw [←hB,bw]
 rw [hBl] at lB ⊢
 rw [hA] at eqf lA ⊢
 rw [hB] at eqf ⊢
 by_cases hAB:A=B
 case neg =>
  simp only [hAB,gL] at eqf
  rw [if_pos hAB]
  refine ZW Z0 (Z1 (eqf)) ?_
  exact ZQ (Z1 Tryz.results145)
 rw [if_neg (by simpa using hAB)]
 simp only [hAB,fO] at eqf
 rw [hAB]
 refine ZW Z0 (Z1 (eqf)) ?_
 refine ab.loop (ι:={k:Nat // k≤s.cons.length}) (fun k=>⟨85,[(1,.v (oS table)),(2,.v (oS other)),(11,.v (.one (.ref 11 0 ((s.cons.take k.1).filter fun f=>aw f.table table).length))),(12,.v (.one (.ref 12 0 ((s.cons.take k.1).filter fun f=>!aw f.table table&&aw f.table other).length))),(56,.v (.one (dy s.cons))),(57,.v (oI s.cons.length)),(58,.v (oI k.1))],[],[(11,⟨7,((s.cons.take k.1).filter fun f=>aw f.table table).map aK,[]⟩),(12,⟨7,(((s.cons.take k.1).filter fun f=>!aw f.table table&&aw f.table other).map (CS table)).map aK,[]⟩)]⟩) (fun k=>s.cons.length - k.1) ⟨0,bg _⟩ ?_ fun ⟨k,hkl⟩=>?_
 ·refine St.bN ?_ ?_ ?_<;>simp only [LE,EN,Nat.reduceEqDiff,reduceIte,Nat.reduceSub,c9,dO,aI,bI]
 simp only at hkl ⊢
 rcases cV k s.cons.length with hk|hk
 ·have f1:=FY (fun f=>aw f.table table) s.cons k hk
  have f2:=FY (fun f=>!aw f.table table&&aw f.table other) s.cons k hk
  have l1:=FZ (fun f=>aw f.table table) s.cons k
  have l2:=FZ (fun f=>!aw f.table table&&aw f.table other) s.cons k
  cases hT:aw s.cons[k].table table with
  | true =>
   have hT':s.cons[k].table.toList=table.toList:=by simpa [aw] using hT
   simp only [hT,if_true,fi,fN,de,if_false,bM] at f1 f2
   refine ZW (Z1 @hT') Z0 ?_
   refine ⟨⟨k+1,by omega⟩,by simp only;omega,?_⟩
   exact ZN (Z3 @f1 @f2 @aK.eq_1)
  | false =>
   have hT':¬ s.cons[k].table.toList=table.toList:=by simpa [aw] using hT
   cases hO:aw s.cons[k].table other with
   | true =>
    have hO':s.cons[k].table.toList=other.toList:=by simpa [aw] using hO
    have hot:¬ other.toList=table.toList:=fun q=>hT' (hO'.trans q)
    simp only [hT,hO,if_true,fB,Am,de,if_false,bM] at f1 f2
    refine ZW (Z3 @hT' @hO' @hot) Z0 ?_
    refine ⟨⟨k+1,by omega⟩,by simp only;omega,?_⟩
    exact ZN (Z4 @f1 @f2 @aK.eq_1 @CS.eq_1)
   | false =>
    have hO':¬ s.cons[k].table.toList=other.toList:=by simpa [aw] using hO
    simp only [hT,hO,fB,iL,de,if_false,bM] at f1 f2
    refine ZW (Z2 @hT' @hO') Z0 ?_
    refine ⟨⟨k+1,by omega⟩,by simp only;omega,?_⟩
    exact ZL (Z2 @f1 @f2)
 rw [du hk]
 have lA2:(s.cons.filter fun f=>aw f.table table).length≤s.cons.length:=vl _ _
 have lB2:(s.cons.filter fun f=>!aw f.table table&&aw f.table other).length≤s.cons.length:=vl _ _
 have eqc:=JZ (s.cons.filter fun f=>aw f.table table) ((s.cons.filter fun f=>!aw f.table table&&aw f.table other).map (CS table)) (by omega) (by rw [bw];omega)
 obtain ⟨A2,hA2⟩:∃A,(s.cons.filter fun f=>aw f.table table)=A:=⟨_,rfl⟩
 obtain ⟨B2,hB2⟩:∃B,((s.cons.filter fun f=>!aw f.table table&&aw f.table other).map (CS table))=B:=⟨_,rfl⟩
 have hBl2:(s.cons.filter fun f=>!aw f.table table&&aw f.table other).length=B2.length:=by rw [←hB2,bw]
 rw [hBl2] at lB2 ⊢
 rw [hA2] at eqc lA2 ⊢
 rw [hB2] at eqc ⊢
 by_cases hAB2:A2=B2
 ·rw [if_neg (by simpa using hAB2)]
  simp only [hAB2,fO] at eqc
  rw [hAB2]
  refine ZW Z0 (Z1 (eqc)) ?_
  exact ZQ (Z1 Tryz.results145)
 ·simp only [hAB2,gL] at eqc
  rw [if_pos hAB2]
  refine ZW Z0 (Z1 (eqc)) ?_
  exact ZQ (Z1 Tryz.results145)
theorem UX {s:aq} {t:au} {st:aG} (h:xg s t st=0):st.ae.length≤t.ae.length∧∀c∈st.ae,0≤c∧c<(t.ae.length:Int):=by
 unfold xg at h
 generalize hp:(fun (k:Nat) (c:Int)=>if c<0∨(t.ae.length:Int)≤c∨(0<(k:Int)∧c≤st.ae.getD ((k:Int) - 1).toNat 0) then some (3:Int) else none)=p at h
 have hn:scan p st.ae 0=none:=by
  cases hs:scan p st.ae 0 with
  | none=>rfl
  | some e =>
   rw [hs] at h
   simp only at h
   exfalso
   have h3:∀(l:List Int) (i:Nat) (e:Int),scan p l i=some e→e≠0:=fun l i e=>Dl fun k x e hx=>by
    rw [←hp] at hx
    simp only at hx
    split at hx
    ·simp only [Option.some.injEq] at hx;omega
    ·cases hx
   exact h3 _ _ _ hs h
 have key:∀k (hk:k<st.ae.length),0≤st.ae[k]∧st.ae[k]<(t.ae.length:Int)∧(0<k→st.ae.getD (k - 1) 0<st.ae[k]):=by
  intro k hk
  have h1:=BH hn k hk
  rw [cN,←hp] at h1
  simp only at h1
  split at h1
  ·cases h1
  ·rename_i h2
   refine ⟨by omega,by omega,fun h3=>?_⟩
   have:¬ (st.ae[k]≤st.ae.getD ((k:Int) - 1).toNat 0):=fun h4=>h2 (.inr (.inr ⟨by omega,h4⟩))
   rw [show ((k:Int) - 1).toNat=k - 1 by omega] at this
   omega
 have grow:∀k (hk:k<st.ae.length),(k:Int)≤st.ae[k]:=by
  intro k
  induction k with
  | zero=>intro hk;have:=(key 0 hk).1;omega
  | succ k ih =>
   intro hk
   have h1:=ih (by omega)
   have h2:=(key (k+1) hk).2.2 (by omega)
   rw [C5,rM,ig (by omega),eE] at h2
   omega
 refine ⟨?_,fun c hc=>?_⟩
 ·rcases vi st.ae.length with h0|h0
  ·omega
  ·have h1:=grow (st.ae.length - 1) (by omega)
   have h2:=(key (st.ae.length - 1) (by omega)).2.1
   omega
 ·obtain ⟨k,hk,rfl⟩:=YZ hc
  exact ⟨(key k hk).1,(key k hk).2.1⟩
theorem IF (n:Nat) (ae:List Int) (c:Int):(n:Int) - 1≤uL n ae c∧uL n ae c≤n+ae.length:=by
 unfold uL
 rcases qn (fun x=>x==c) ae 0 with ⟨e1,_⟩|⟨j,hj,e1,_,_⟩
 ·omega
 ·omega
theorem Nb {fr:L→L} {i:Nat} {a b:L} {t:au} (ha:fr a=.sl 1 (t.pk.map aX)) (hb:fr b=.sl 3 (t.ae.map aT)):∀(l:List au) (k:Nat),(∀(_:k≤i) (h:i - k<l.length),l[i - k]=t)→yN fr [(i,2,a),(i,1,b)] k (l.map eh)=l.map ap
 | [],_,_=>rfl
 | x::r,k,h=>by
  rw [aJ,hY,Nb ha hb r (k+1) fun h1 h2=>by
   have h3:=h (by omega) (by rw [bP];omega)
   rw [←h3]
   have h4:i - k=(i - (k+1))+1:=by omega
   simp only [h4,XT]]
  congr 1
  by_cases hk:k=i
  ·subst hk
   have h3:=h (br _) (by rw [bP];omega)
   simp only [xB,JR] at h3
   subst h3
   simp [ap,eh,cS,bj,gV,gZ,BR,aP,ha,hb,L.fD]
  ·have hk':¬ i=k:=fun e=>hk e.symm
   simp [ap,eh,cS,bj,gV,gZ,BR,aP,hk,hk',L.fD]
   exact ⟨fun _ _=>rfl,fun _ _=>rfl⟩
theorem Qp {fr:L→L} {i:Nat} {a b:L} {t:au} (l:List au) (hi:i<l.length) (ht:l[i]=t) (ha:fr a=.sl 1 (t.pk.map aX)) (hb:fr b=.sl 3 (t.ae.map aT)):List.take l.length (yN fr [(i,2,a),(i,1,b)] 0 (l.map eh))=l.map ap:=by
 rw [Nb ha hb l 0 (fun _ h=>by simpa using ht)]
 exact du (by simp)
theorem Nc (a b:List Int):ub a b=0∨ub a b=1∨ub a b=2:=by
 unfold ub
 simp only
 split
 ·exact .inl rfl
 ·split
  ·exact .inr (.inr rfl)
  ·exact .inr (.inl rfl)
theorem Ng {t:au} {st:aG} {f:FK} (h:∀c∈f.ae,0≤c∧c≤6) (ht:t.pk.length≤6) (hst:st.ae.length≤6):(qy t st f).ae.length=f.ae.length∧∀c∈(qy t st f).ae,-1048576≤c∧c≤1048576:=by
 unfold qy
 split
 ·refine ⟨by simp,fun c hc=>?_⟩
  simp only [BP] at hc
  obtain ⟨x,_,rfl⟩:=hc
  have:=IF t.pk.length st.ae x
  omega
 ·exact ⟨rfl,fun c hc=>by have:=h c hc;omega⟩
theorem UR {t:au} {st:aG} {c:dN} (h:0≤c.left∧c.left≤6∧-1≤c.right∧c.right≤6) (ht:t.pk.length≤6) (hst:st.ae.length≤6):(-1048576≤(sk t st c).left∧(sk t st c).left≤1048576)∧(sk t st c).right≤1048576:=by
 unfold sk
 split
 ·have h1:=IF t.pk.length st.ae c.left
  have h2:=IF t.pk.length st.ae c.right
  refine ⟨⟨by simp only;omega,by simp only;omega⟩,?_⟩
  simp only
  split<;>omega
 ·omega
theorem US (s:aq) (i:Nat) (t:au) (st:aG) (u:aq) (h:rL ⟨s.tables,s.ak.map (qy t st),s.cons.map (sk t st)⟩ i st.ae=u):u.tables.length=s.tables.length∧u.ak.length=s.ak.length∧u.cons.length=s.cons.length:=by
 rw [←h]
 simp [rL,vM,fh]
theorem Va (f:FK) (t:au):Sat Tryz.prog 144 [.agg (aL f),.one (.fz (ap t))] (.v (oB (aw f.ref t.name))):=by
 refine ZE Tryz.func144 Tryz.ntmps144 fun w0 m0 F0=>?_
 refine ZW Z0 Z0 ?_
 all_goals simp -dsimp (disch:=first|exact D|fail) only [aR,Tryz.results144,aQ,aS,aO,St.rest,St.freeze,RT,go_sem,↓reduceIte,seval]
 all_goals rfl
def s7 (t:au) (st:aG) (l:List FK):List FK:=(l.filter fun f=>aw f.table t.name).map fun f=>{f with table:=st.other}
def uS (t:au) (st:aG) (l:List dN):List dN:=(l.filter fun c=>aw c.table t.name).map fun c=>{c with table:=st.other}
theorem Nr (t:au) (st:aG) (l:List FK) (k:Nat) (h:k<l.length):s7 t st (l.take (k+1))=s7 t st (l.take k)++(if aw l[k].table t.name then [{l[k] with table:=st.other}] else []):=by
 rw [GA h]
 unfold s7
 rw [tZ,dn]
 congr 1
 cases hx:aw l[k].table t.name<;>simp [hx]
theorem Ns (t:au) (st:aG) (l:List dN) (k:Nat) (h:k<l.length):uS t st (l.take (k+1))=uS t st (l.take k)++(if aw l[k].table t.name then [{l[k] with table:=st.other}] else []):=by
 rw [GA h]
 unfold uS
 rw [tZ,dn]
 congr 1
 cases hx:aw l[k].table t.name<;>simp [hx]
theorem Vb (t:au) (st:aG) (l:List FK):(s7 t st l).length≤l.length:=by
 unfold s7
 rw [bw]
 exact vl _ _
theorem Vc (t:au) (st:aG) (l:List dN):(uS t st l).length≤l.length:=by
 unfold uS
 rw [bw]
 exact vl _ _
end Go.Bw
