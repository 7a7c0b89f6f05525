/- Proved: contracts of functions of this translation, for every state, and what they rest on; bounds stand ahead. -/
import Derived.Test.YtmnpdfeocknafaaGreatDoorVd
import Derived.Test.YtmnpdfeocknafaaGreatDoorVe
set_option maxHeartbeats 64000000
set_option linter.unusedSimpArgs false
set_option linter.unusedVariables false
namespace Go.Bw
open Go.Proofs
theorem HA (s : ByteArray) : Sat Tryz.prog 123 [oS s] (.v (oB (CC s))) := by
  obtain ⟨⟨bs⟩⟩ := s
  have hsz : (ByteArray.mk (Array.mk bs)).size = bs.length := rfl
  have hdt : (ByteArray.mk (Array.mk bs)).data.toList = bs := rfl
  have e1 : chunks 1 bs.length (bs.map fun b => L.int .u8 (b.toNat : Int)) = bs.map fun b => [L.int .u8 (b.toNat : Int)] := N' _ bs
  unfold CC
  rw [hsz, hdt]
  refine ZE Tryz.func123 Tryz.ntmps123 fun w0 m0 F0 => ?_
  refine pK (Z3 @hsz @hdt @e1) Z0 ?_; repeat' (first | apply Zb | apply Zn | (apply Zm; intro h))
  all_goals first
    | (
       refine ZR (Z1 Tryz.results123) ?_
       simp only [digit]
       first
         | (have : bs.length < 1 := by omega
            simp [this]
            done)
         | (have : 12 < bs.length := by omega
            simp [this]
            done)
         | (have h1 : (48 : Int) ≤ ((bs.getD 0 0).toNat : Int) := by omega
            have h2 : ((bs.getD 0 0).toNat : Int) ≤ 57 := by omega
            simp only [h1, h2, fO, ij, Bool.or_true, fi, fN]
            done))
    | (have hd : digit (bs.getD 0 0) = false := by
         simp only [digit, O9, uv, AK]
         omega
       have hb : ¬ bs.length < 1 := by omega
       have h12 : ¬ 12 < bs.length := by omega
       refine ab.loop (ι := {k : Nat // k ≤ bs.length ∧ (bs.drop k).all y4 = bs.all y4}) (fun k => ⟨45, [(24, .v (.one (.sl 1 (bs.map fun b => [L.int .u8 (b.toNat : Int)])))), (25, .v (oI bs.length)), (26, .v (oI k.1))], [], []⟩) (fun k => bs.length - k.1) ⟨0, bg _, rfl⟩ ?_ fun ⟨k, hkl, hi⟩ => ?_
       · exact ZL Z0
       refine pK Z0 Z0 ?_; repeat' (first | apply Zb | apply Zn | (apply Zm; intro h))
       all_goals first
         | (have hk : ¬ k < bs.length := by omega
            refine ZR (Z1 Tryz.results123) ?_
            rw [← hi, xy (by omega), hd]
            simp [hb, h12]
            done)
         | (have hk : k < bs.length := by omega
            have hstep : (bs.drop k).all y4 = (y4 bs[k] && (bs.drop (k + 1)).all y4) := by rw [uV hk, im]
            first
              | (have hok : y4 bs[k] = true := by
                   simp only [y4, wY, O9, wO, XD, uv, AK]
                   omega
                 refine ⟨⟨k + 1, by omega, by rw [← hi, hstep, hok]; rfl⟩, by simp only; omega, ?_⟩
                 exact ZL Z0
                 done)
              | (have hok : y4 bs[k] = false := by
                   simp only [y4, Bool.not_eq_false', qa, wO, uv]
                   omega
                 refine ZR (Z1 Tryz.results123) ?_
                 rw [← hi, hstep, hok]
                 simp)))
theorem J2 (l : List dN) (c : dN) (hlen : l.length ≤ 140737488355328) :
    Sat Tryz.prog 128 [.one (dy l), .agg (aK c)] (.v (oI (idx (vg c) l 0))) := by
  refine ZE Tryz.func128 Tryz.ntmps128 fun w0 m0 F0 => ?_
  refine ZW Z0 Z0 ?_
  refine ab.loop (ι := {k : Nat // k ≤ l.length ∧ idx (vg c) (l.drop k) k = idx (vg c) l 0}) (fun k => ⟨19, [(0, .v (.one (dy l))), (3, .v (.one (.ptr 3 0))), (7, .v (oI l.length)), (8, .v (oI k.1))], [(3, aK c)], []⟩) (fun k => l.length - k.1) ⟨0, bg _, rfl⟩ ?_ fun ⟨k, hkl, hi⟩ => ?_
  · exact ZL Z0
  refine rj Z0 Z0 ?_; repeat' (first | apply Zb | apply Zn | (apply Zm; intro h))
  all_goals first
    | (have hk : ¬ k < l.length := by omega
       refine ZR (Z1 Tryz.results128) ?_
       rw [← hi, Bf hk]
       done)
    | (have hk : k < l.length := by omega
       have he : vg c l[k] = true := by simp_all [vg, aw]
       refine ZR (Z1 Tryz.results128) ?_
       rw [← hi, Bg hk he]
       done)
    | (have hk : k < l.length := by omega
       have he : vg c l[k] = false := by simp_all [vg, aw]
       refine ⟨⟨k + 1, by omega, by rw [Bh hk he, hi]⟩, by simp only; omega, ?_⟩
       exact ZL Z0
       )
theorem N4 {a b:gK}:a=b↔a.name.toList=b.name.toList∧a.kind=b.kind∧a.qt=b.qt:=by
 constructor
 ·rintro rfl;exact ⟨rfl,rfl,rfl⟩
 ·rintro ⟨h1,h2,h3⟩
  cases a;cases b
  simp only at h1 h2 h3
  rw [toList_inj h1,h2,h3]
structure aG.Fits (s:aG):Prop where
 ae:s.ae.length * 8≤140737488355328
 BT:s.pZ.ae.length * 32≤140737488355328
 CQ:s.pZ.pk.length * 8≤140737488355328
 fk:s.fk.ae.length * 8≤140737488355328
theorem Kq (l : List dN) (f : Nat) (cs : List L) (p : dN → Bool) (hlen : l.length ≤ 140737488355328) (hp : ∀ t ∈ l, Sat Tryz.prog f (.agg (aK t) :: cs.map .one) (.v (oB (p t)))) :
    Sat Tryz.prog 219 [.one (dy l), .one (.bD f cs)] (.v (oI (idx p l 0))) := by
  refine ZE Tryz.func219 Tryz.ntmps219 fun w0 m0 F0 => ?_
  refine ZW Z0 Z0 ?_
  refine ab.loop (ι := {k : Nat // k ≤ l.length ∧ idx p (l.drop k) k = idx p l 0}) (fun k => ⟨19, [(0, .v (.one (dy l))), (1, .v (.one (.bD f cs))), (7, .v (oI l.length)), (8, .v (oI k.1))], [], []⟩) (fun k => l.length - k.1) ⟨0, bg _, rfl⟩ ?_ fun ⟨k, hkl, hi⟩ => ?_
  · exact ZL Z0
  repeat' (first | ((first | with_reducible refine qV ah fun K hK => ?_ | ((with_reducible refine ai.is ?_); (refine ai.pure (hp _ (bl (by omega))) ?_))) <;> simp -dsimp (disch := first | exact D | fail) only [go_sem, ↓reduceIte, seval]) | ((with_reducible refine hK _ ?_); clear hK K) | refine Q1 ?_ | ((with_reducible refine qW (T := TT) (b := ?_) ?_ ?_); rotate_left; exact rfl) | ((with_reducible refine yS ?_ ?_) <;> (intro h; try simp only [NM] at h)) | fail)
  all_goals first
    | (have hk : ¬ k < l.length := by omega
       refine ZR (Z1 Tryz.results219) ?_
       rw [← hi, Bf hk]
       done)
    | (
       refine ZR (Z1 Tryz.results219) ?_
       rw [← hi, Bg _ ‹_›])
    | (refine ⟨⟨k + 1, by omega, by rw [Bh _ ‹_›, hi]⟩, by simp only; omega, ?_⟩
       exact ZL Z0
       )
theorem Ws (f:FK) (t:au) (c:Int) (hl:f.ae.length≤140737488355328):Sat Tryz.prog 195 [.agg (aL f),.one (.fz (ap t)),.one (.fz [.int .i64 c])] (.v (oB (aw f.table t.name&&f.ae.elem c))):=by
 refine ZE Tryz.func195 Tryz.ntmps195 fun w0 m0 F0=>?_
 refine pK Z0 (Z1 (D5 f.ae c hl)) ?_;repeat' (first|apply Zb|apply Zn|(apply Zm;intro h))
 all_goals simp -dsimp (disch:=first|exact D|fail) only [aR,Tryz.results195,aQ,aS,aO,St.rest,St.freeze,RT,go_sem,↓reduceIte,seval]
 all_goals simp_all [aw]
theorem Wt (k:dN) (t:au) (c:Int):Sat Tryz.prog 197 [.agg (aK k),.one (.fz (ap t)),.one (.fz [.int .i64 c])] (.v (oB (aw k.table t.name&&(k.left==c||k.right==c)))):=by
 refine ZE Tryz.func197 Tryz.ntmps197 fun w0 m0 F0=>?_
 refine pK Z0 Z0 ?_;repeat' (first|apply Zb|apply Zn|(apply Zm;intro h))
 all_goals simp -dsimp (disch:=first|exact D|fail) only [aR,Tryz.results197,aQ,aS,aO,St.rest,St.freeze,RT,go_sem,↓reduceIte,seval]
 all_goals simp_all [aw]
theorem M7 (xs:List (List L)) (k:Nat) (hk:k<xs.length) (h1:xs.length≤1099511627776) (hno:pT xs):db Tryz.prog 133 [.one (.ref 1000 0 xs.length),oI k,oI ((k:Int)+1)] [] [(1000,⟨3,xs,[]⟩)] (.v (.one (.ref 6 0 (xs.length - 1)))) [] [(6,⟨3,xs.take k++xs.drop (k+1)++[[.str ByteArray.empty,.sl 3 [],.sl 1 []]],[]⟩)]:=by
 have w1:((k:Int)+1).toNat=k+1:=by omega
 refine ZM [] [6] Tryz.func133 Tryz.ntmps133 fun w0 m0 F0=>?_
 refine ZW (Z1 @w1) Z0 ?_;repeat' (first|apply Zb|apply Zn|(apply Zk;intro K hK))
 refine ab.Bc ah mixed 6 8 (by kernel_rfl) rfl rfl fun K hK=>?_
 refine ZU (Z1 @w1) ?_
 refine ZW Z0 Z0 ?_;repeat' (first|apply Zb|apply Zn|(apply Zk;intro K hK))
 intro K hK
 refine ZU (Z1 @w1) ?_
 refine ZW (Z1 @w1) Z0 ?_;repeat' (first|apply Zb|apply Zn|(apply Zk;intro K hK))
 have e1:k - 0+(xs.length - (k+1))=xs.length - 1:=by omega
 have e2:xs.length - (xs.length - 1)=1:=by omega
 have e3:(xs.take (k - 0)++xs.drop (k+1)++xs.drop (xs.length - 1)).take (xs.length - 1)=xs.take k++xs.drop (k+1):=ve (by simp;omega)
 have e4:(xs.take (k - 0)++xs.drop (k+1)++xs.drop (xs.length - 1)).drop (xs.length - 1+1)=[]:=xy (by simp;omega)
 simp only [e1,e2,e3,e4,EL,AM,bM]
 exact ZQ (Z1 Tryz.results133)
theorem BL {α:Type} (p:α→Bool) (l:List α) (j:Nat) (h:j≤l.length):((l.take j).filter fun x=>!p x).length≤j:=pU (vl _ _) (by simp;omega)
theorem Ge {α:Type} (e:α→List L) (p:α→Bool) (l:List α) (j:Nat) (h:j≤l.length):(sF e p l j).length=l.length:=by
 have:=BL p l j h
 simp only [sF,bw,bA,wu]
 omega
theorem Jh {α:Type} (e:α→List L) (p:α→Bool) (l:List α) (j:Nat) (h:j<l.length):(sF e p l j).getD j []=e l[j]:=by
 have:=BL p l j (by omega)
 rw [sF,rM,ql,ul (by omega),rJ]
 rw [show ((l.take j).filter fun x=>!p x).length+(j - ((l.take j).filter fun x=>!p x).length)=j by omega,ig h]
 rfl
theorem Ji {α:Type} (e:α→List L) (p:α→Bool) (l:List α) (j:Nat) (h:j<l.length) (hp:p l[j]=true):sF e p l (j+1)=sF e p l j:=by
 unfold sF
 rw [qd l j h,tZ]
 simp [hp]
theorem Jj {α:Type} (e:α→List L) (p:α→Bool) (l:List α) (j:Nat) (h:j<l.length) (hp:p l[j]=false):(sF e p l j).set ((l.take j).filter fun x=>!p x).length (e l[j])=sF e p l (j+1):=by
 have hle:=BL p l j (by omega)
 have hk:((l.take (j+1)).filter fun x=>!p x)=((l.take j).filter fun x=>!p x)++[l[j]]:=by
  rw [qd l j h,tZ]
  simp [hp]
 unfold sF
 rw [hk,←vJ,z8 _ _ (br _),xB,uV (show ((l.take j).filter fun x=>!p x).length<l.length by omega),tP,bA]
 simp
theorem Jk {α:Type} (p:α→Bool) (l:List α) (j:Nat) (h:j<l.length) (hp:p l[j]=false):((l.take (j+1)).filter fun x=>!p x).length=((l.take j).filter fun x=>!p x).length+1:=by
 rw [qd l j h,tZ]
 simp [hp]
theorem Jl {α:Type} (p:α→Bool) (l:List α) (j:Nat) (h:j<l.length) (hp:p l[j]=true):((l.take (j+1)).filter fun x=>!p x).length=((l.take j).filter fun x=>!p x).length:=by
 rw [qd l j h,tZ]
 simp [hp]
theorem Jm {α:Type} (e:α→List L) (sz:Nat) (he:∀x,(e x).length=sz) (p:α→Bool) (l:List α) (j:Nat) (h:j<l.length) (x:α):dp 0 (e x) ((sF e p l j).getD ((l.take j).filter fun x=>!p x).length [])=e x:=by
 refine Og _ _ ?_
 have hle:=BL p l j (by omega)
 have hl:=Ge e p l j (by omega)
 rw [he,rM,ig (by omega),eE]
 unfold sF
 rw [LG,he]
theorem Jn {α:Type} (p:α→Bool) (l:List α) {j:Nat} (hj:j<l.length) (h1:p l[j]=true) (h2:∀i,∀hi:i<j,p (l[i]'(by omega))=false):((l.take (j+1)).filter fun x=>!p x)=l.take j:=by
 rw [qd l j hj,tZ]
 simp only [dL,h1,fi,de,if_false,dO,bM]
 refine List.filter_eq_self.2 fun x hx=>?_
 obtain ⟨i,hi,rfl⟩:=List.mem_take_iff_getElem.1 hx
 simp [h2 i (by omega)]
theorem WD (l:List au) (f:FuncId) (q:L) (p:au→Bool) (hp:∀x∈l,Sat Tryz.prog f [.agg (ap x),.one (.fz [q])] (.v (oB (p x)))) (hl:l.length≤1048576) :
  db Tryz.prog 189 [.one (.ref 1000 0 l.length),.one (.bD f [.fz [q]])] [] [(1000,⟨3,l.map ap,[]⟩)] (.v (.one (.ref 4 0 (l.filter fun x=>!p x).length))) [] [(4,⟨3,(l.filter fun x=>!p x).map ap++List.replicate (l.length - (l.filter fun x=>!p x).length) WC,[]⟩)]:=by
 have ci:=Kh l f [.fz [q]] p (by omega) hp
 rcases qn p l 0 with ⟨e1,e2⟩|⟨j0,hj0,e1,e2,e3⟩
 ·rw [e1] at ci
  have ef:(l.filter fun x=>!p x)=l:=List.filter_eq_self.2 fun x hx=>by simp [e2 x hx]
  rw [ef,xB,AM,bM]
  refine ZM [] [4] Tryz.func189 Tryz.ntmps189 fun w0 m0 F0=>?_
  refine ZW Z0 (Z1 (ci)) ?_
  all_goals simp -dsimp (disch:=first|exact D|fail) only [aR,Tryz.results189,aQ,aS,aO,St.rest,St.freeze,RT,go_sem,↓reduceIte,seval]
 have e1:idx p l 0=(j0:Int):=by simpa using e1
 rw [e1] at ci
 have k0:=Jn p l hj0 e2 e3
 have l0:((l.take (j0+1)).filter fun x=>!p x).length=j0:=by rw [k0];simp;omega
 have r0:sF ap p l (j0+1)=l.map ap:=by
  unfold sF
  rw [k0,rV,HL (by omega),yK]
 have hne:¬ (j0:Int)=-1:=by omega
 refine ZM [] [4] Tryz.func189 Tryz.ntmps189 fun w0 m0 F0=>?_
 refine ZW (Z1 @hne) (Z1 (ci)) ?_
 refine ab.loop (ι:={j:Nat // j0+1≤j∧j≤l.length}) (fun j=>⟨42,[(0,.v (.one (.ref 1000 0 l.length))),(1,.v (.one (.bD f [.fz [q]]))),(5,.v (oI ((l.take j.1).filter fun x=>!p x).length)),(6,.v (oI j.1))],[],[(1000,⟨3,sF ap p l j.1,[]⟩)]⟩) (fun j=>l.length - j.1) ⟨j0+1,br _,hj0⟩ ?_ fun ⟨j,hj1,hj2⟩=>?_
 ·exact ZL (Z4 @r0 @l0 @iy @pO)
 simp only at hj1 hj2 ⊢
 have kl:=BL p l j hj2
 have kn:=Ge ap p l j hj2
 rcases cV j l.length with hc|hc
 ·have kg:=Jh ap p l j hc
  have cc:=hp l[j] (bl hc)
  cases hx:p l[j] with
  | true =>
   rw [hx] at cc
   have q1:=Ji ap p l j hc hx
   have q2:=Jl p l j hc hx
   refine ZW (Z2 @kn @kg) (Z1 (cc)) ?_
   refine ⟨⟨j+1,by omega,by omega⟩,by simp only;omega,?_⟩
   exact ZL (Z4 @q1 @q2 @iy @pO)
  | false =>
   rw [hx] at cc
   have q1:=Jj ap p l j hc hx
   have q2:=Jk p l j hc hx
   have q3:=Jm ap 3 (fun _=>rfl) p l j hc l[j]
   simp only [ap,cS,bj] at q1 q3
   refine ZW (Z3 @kn @kg @q3) (Z1 (cc)) ?_
   refine ⟨⟨j+1,by omega,by omega⟩,by simp only;omega,?_⟩
   exact ZL (Z4 @q1 @q2 @iy @pO)
 ·have hj:j=l.length:=by omega
  subst hj
  have kf:sF ap p l l.length=(l.filter fun x=>!p x).map ap++(l.drop (l.filter fun x=>!p x).length).map ap:=by
   unfold sF
   rw [dw,dn]
  rw [dw] at kl ⊢
  have t1:List.take (l.filter fun x=>!p x).length ((l.filter fun x=>!p x).map ap++(l.drop (l.filter fun x=>!p x).length).map ap)=(l.filter fun x=>!p x).map ap:=ve (by simp)
  have t2:List.drop ((l.filter fun x=>!p x).length+(l.length - (l.filter fun x=>!p x).length)) ((l.filter fun x=>!p x).map ap++(l.drop (l.filter fun x=>!p x).length).map ap)=[]:=xy (by simp)
  refine ZW (Z1 @kn) Z0 ?_
  all_goals simp -dsimp (disch:=first|exact D|fail) only [aR,Tryz.results189,aQ,aS,aO,St.rest,St.freeze,RT,go_sem,↓reduceIte,seval]
  rw [kf]
  simp only [wc,t1,t2,bM]
  exact ⟨trivial,rfl⟩
theorem WI (l:List dN) (f:FuncId) (q:L) (p:dN→Bool) (hp:∀x∈l,Sat Tryz.prog f [.agg (aK x),.one (.fz [q])] (.v (oB (p x)))) (hl:l.length≤1048576) :
  db Tryz.prog 193 [.one (.ref 1000 0 l.length),.one (.bD f [.fz [q]])] [] [(1000,⟨7,l.map aK,[]⟩)] (.v (.one (.ref 4 0 (l.filter fun x=>!p x).length))) [] [(4,⟨7,(l.filter fun x=>!p x).map aK++List.replicate (l.length - (l.filter fun x=>!p x).length) WH,[]⟩)]:=by
 have ci:=Kq l f [.fz [q]] p (by omega) hp
 rcases qn p l 0 with ⟨e1,e2⟩|⟨j0,hj0,e1,e2,e3⟩
 ·rw [e1] at ci
  have ef:(l.filter fun x=>!p x)=l:=List.filter_eq_self.2 fun x hx=>by simp [e2 x hx]
  rw [ef,xB,AM,bM]
  refine ZM [] [4] Tryz.func193 Tryz.ntmps193 fun w0 m0 F0=>?_
  refine ZW Z0 (Z1 (ci)) ?_
  all_goals simp -dsimp (disch:=first|exact D|fail) only [aR,Tryz.results193,aQ,aS,aO,St.rest,St.freeze,RT,go_sem,↓reduceIte,seval]
 have e1:idx p l 0=(j0:Int):=by simpa using e1
 rw [e1] at ci
 have k0:=Jn p l hj0 e2 e3
 have l0:((l.take (j0+1)).filter fun x=>!p x).length=j0:=by rw [k0];simp;omega
 have r0:sF aK p l (j0+1)=l.map aK:=by
  unfold sF
  rw [k0,rV,HL (by omega),yK]
 have hne:¬ (j0:Int)=-1:=by omega
 refine ZM [] [4] Tryz.func193 Tryz.ntmps193 fun w0 m0 F0=>?_
 refine ZW (Z1 @hne) (Z1 (ci)) ?_
 refine ab.loop (ι:={j:Nat // j0+1≤j∧j≤l.length}) (fun j=>⟨42,[(0,.v (.one (.ref 1000 0 l.length))),(1,.v (.one (.bD f [.fz [q]]))),(5,.v (oI ((l.take j.1).filter fun x=>!p x).length)),(6,.v (oI j.1))],[],[(1000,⟨7,sF aK p l j.1,[]⟩)]⟩) (fun j=>l.length - j.1) ⟨j0+1,br _,hj0⟩ ?_ fun ⟨j,hj1,hj2⟩=>?_
 ·exact ZL (Z4 @r0 @l0 @iy @pO)
 simp only at hj1 hj2 ⊢
 have kl:=BL p l j hj2
 have kn:=Ge aK p l j hj2
 rcases cV j l.length with hc|hc
 ·have kg:=Jh aK p l j hc
  have cc:=hp l[j] (bl hc)
  cases hx:p l[j] with
  | true =>
   rw [hx] at cc
   have q1:=Ji aK p l j hc hx
   have q2:=Jl p l j hc hx
   refine ZW (Z2 @kn @kg) (Z1 (cc)) ?_
   refine ⟨⟨j+1,by omega,by omega⟩,by simp only;omega,?_⟩
   exact ZL (Z4 @q1 @q2 @iy @pO)
  | false =>
   rw [hx] at cc
   have q1:=Jj aK p l j hc hx
   have q2:=Jk p l j hc hx
   have q3:=Jm aK 7 (fun _=>rfl) p l j hc l[j]
   simp only [aK,cS,bj] at q1 q3
   refine ZW (Z3 @kn @kg @q3) (Z1 (cc)) ?_
   refine ⟨⟨j+1,by omega,by omega⟩,by simp only;omega,?_⟩
   exact ZL (Z4 @q1 @q2 @iy @pO)
 ·have hj:j=l.length:=by omega
  subst hj
  have kf:sF aK p l l.length=(l.filter fun x=>!p x).map aK++(l.drop (l.filter fun x=>!p x).length).map aK:=by
   unfold sF
   rw [dw,dn]
  rw [dw] at kl ⊢
  have t1:List.take (l.filter fun x=>!p x).length ((l.filter fun x=>!p x).map aK++(l.drop (l.filter fun x=>!p x).length).map aK)=(l.filter fun x=>!p x).map aK:=ve (by simp)
  have t2:List.drop ((l.filter fun x=>!p x).length+(l.length - (l.filter fun x=>!p x).length)) ((l.filter fun x=>!p x).map aK++(l.drop (l.filter fun x=>!p x).length).map aK)=[]:=xy (by simp)
  refine ZW (Z1 @kn) Z0 ?_
  all_goals simp -dsimp (disch:=first|exact D|fail) only [aR,Tryz.results193,aQ,aS,aO,St.rest,St.freeze,RT,go_sem,↓reduceIte,seval]
  rw [kf]
  simp only [wc,t1,t2,bM]
  exact ⟨trivial,rfl⟩
theorem WJ (t:au) (name:ByteArray):Sat Tryz.prog 190 [.agg (ap t),.one (.fz [.str name])] (.v (oB (aw t.name name))):=by
 refine ZE Tryz.func190 Tryz.ntmps190 fun w0 m0 F0=>?_
 refine ZW Z0 Z0 ?_
 refine ZR (Z1 Tryz.results190) ?_
 rfl
theorem WK (t:FK) (name:ByteArray):Sat Tryz.prog 192 [.agg (aL t),.one (.fz [.str name])] (.v (oB (aw t.table name))):=by
 refine ZE Tryz.func192 Tryz.ntmps192 fun w0 m0 F0=>?_
 refine ZW Z0 Z0 ?_
 refine ZR (Z1 Tryz.results192) ?_
 rfl
theorem WL (t:dN) (name:ByteArray):Sat Tryz.prog 194 [.agg (aK t),.one (.fz [.str name])] (.v (oB (aw t.table name))):=by
 refine ZE Tryz.func194 Tryz.ntmps194 fun w0 m0 F0=>?_
 refine ZW Z0 Z0 ?_
 refine ZR (Z1 Tryz.results194) ?_
 rfl
theorem WM (t:FK) (name:ByteArray):Sat Tryz.prog 147 [.agg (aL t),.one (.fz [.str name])] (.v (oB (aw t.ref name&&!aw t.table name))):=by
 refine ZE Tryz.func147 Tryz.ntmps147 fun w0 m0 F0=>?_
 refine pK Z0 Z0 ?_;repeat' (first|apply Zb|apply Zn|(apply Zm;intro h))
 all_goals simp -dsimp (disch:=first|exact D|fail) only [aR,Tryz.results147,aQ,aS,aO,St.rest,St.freeze,RT,go_sem,↓reduceIte,seval]
 all_goals simp_all [aw]
def xf (t:au) (c:Int):gK:=t.ae.getD c.toNat dF
def xK (s:aq) (i:Nat) (st:aG):sY :=
 let t:=bq s i
 if st.ae.length≠2 then .error 3
 else if st.ae.getD 0 0<0∨st.ae.getD 1 0≤st.ae.getD 0 0∨(t.ae.length:Int)≤st.ae.getD 1 0 then .error 3
 else if st.ae.any fun c=>!((xf t c).kind==3) then .error 7
 else match st.ae.find? fun c=>!(s6 s t c==0) with
  | some c=>.error (s6 s t c)
  | none=>.ok (fh (rL s i st.ae) i {bq (rL s i st.ae) i with ae:=(bq (rL s i st.ae) i).ae++[⟨st.dm,3,st.ae.all fun c=>(xf t c).qt⟩]})
theorem UJ (s:aq) (i:Nat) (st:aG):vG s i st=xK s i st:=by
 unfold vG xK
 obtain ⟨ae,hcols⟩:∃ae,st.ae=ae:=⟨_,rfl⟩
 rw [hcols]
 match ae with
 | []=>simp
 | [a]=>simp
 | a::b::c::r=>simp
 | [a,b] =>
  simp only [bP,bI,Nat.reduceAdd,ne_eq,An,if_false,zn,P4,LF,XR,Bool.or_false,im,iq,ij,XS,List.find?_nil,xf]
  split
  ·rfl
  ·generalize (bq s i).ae.getD a.toNat dF=x
   generalize (bq s i).ae.getD b.toNat dF=y
   generalize bq s i=t
   cases u1:s6 s t a==0 with
   | false =>
    have v1:¬ s6 s t a=0:=by simpa using u1
    by_cases h1:x.kind=3<;>by_cases h2:y.kind=3<;>simp [h1,h2,v1]
   | true =>
    have v1:s6 s t a=0:=by simpa using u1
    cases u2:s6 s t b==0 with
    | false =>
     have v2:¬ s6 s t b=0:=by simpa using u2
     by_cases h1:x.kind=3<;>by_cases h2:y.kind=3<;>simp [h1,h2,v1,v2]
    | true =>
     have v2:s6 s t b=0:=by simpa using u2
     by_cases h1:x.kind=3<;>by_cases h2:y.kind=3<;>simp [h1,h2,v1,v2]
theorem UL {α:Type} (p:α→Bool) (l:List α) (k:Nat) (h:k<l.length):(l.take (k+1)).all p=((l.take k).all p&&p l[k]):=by
 rw [qd l k h,List.all_append]
 simp
def vX (old name:ByteArray) (f:FK):FK:={f with table:=c7 old name f.table,ref:=c7 old name f.ref}
def zM (old name:ByteArray) (c:dN):dN:={c with table:=c7 old name c.table}
theorem U0 (xs:List (List L)) (k:Nat) (hk:k<xs.length) (h1:xs.length≤1099511627776):db Tryz.prog 131 [.one (.ref 1000 0 xs.length),oI k,oI ((k:Int)+1)] [] [(1000,⟨3,xs,[]⟩)] (.v (.one (.ref 6 0 (xs.length - 1)))) [] [(6,⟨3,xs.take k++xs.drop (k+1)++[[.str ByteArray.empty,.sl 1 [],.str ByteArray.empty]],[]⟩)]:=by
 have w1:((k:Int)+1).toNat=k+1:=by omega
 refine ZM [] [6] Tryz.func131 Tryz.ntmps131 fun w0 m0 F0=>?_
 refine YQ (Z3 @w1 @Qq @Qc) Z0 (Z1 (Zd 5 [(0,6)] [(6,[],[]),(7,[],[])] [6,7] 8)) Z0 ?_;repeat' (first|apply Zb|apply Zn)
 have e1:k - 0+(xs.length - (k+1))=xs.length - 1:=by omega
 have e2:xs.length - (xs.length - 1)=1:=by omega
 have e3:(xs.take (k - 0)++xs.drop (k+1)++xH (xs.drop (xs.length - 1))).take (xs.length - 1)=xs.take k++xs.drop (k+1):=ve (by simp;omega)
 have e4:(xs.take (k - 0)++xs.drop (k+1)++xH (xs.drop (xs.length - 1))).drop (xs.length - 1+1)=[]:=xy (by simp [xH];omega)
 simp only [e1,e2,e3,e4,EL,AM,bM]
 exact ZQ (Z1 Tryz.results131)
theorem Nk (t:FK) (name:ByteArray):Sat Tryz.prog 141 [.agg (aL t),.one (.fz [.str name])] (.v (oB (aw t.ref name))):=by
 refine ZE Tryz.func141 Tryz.ntmps141 fun w0 m0 F0=>?_
 refine ZW Z0 Z0 ?_
 all_goals simp -dsimp (disch:=first|exact D|fail) only [aR,Tryz.results141,aQ,aS,aO,St.rest,St.freeze,RT,go_sem,↓reduceIte,seval]
 all_goals rfl
theorem IL (t:au) (x:L) (c:Int) (h0:0≤c) (h1:c≤1048576) (h2:t.ae.length≤1048576) (h3:t.pk.length≤1048576):wF Tryz.prog 143 ([[.int .i64 (t.pk.length:Int)],[.str t.name,x,.sl 1 (t.pk.map aX)],[.int .i64 (t.ae.length:Int)]].map L.fz) (wm t) c:=by
 unfold wF
 simp only [aJ,aI]
 rcases Int.lt_or_le c (t.pk.length:Int) with hc|hc
 ·obtain ⟨q,rfl⟩:∃q:Nat,c=(q:Int):=⟨c.toNat,by omega⟩
  have hq:q<t.pk.length:=by omega
  have gp:(t.pk.map aX).getD q []=[.int .i64 (t.pk.getD q 0)]:=by rw [bJ _ _ _ hq,bE _ hq];rfl
  have spec:wm t (q:Int)=t.pk.getD q 0:=by unfold wm;rw [if_pos hc,bG]
  rw [spec]
  refine ZE Tryz.func143 Tryz.ntmps143 fun w0 m0 F0=>?_
  refine ZW (Z1 @gp) Z0 ?_
  exact ZQ (Z1 Tryz.results143)
 ·have spec:wm t c=(t.ae.length:Int)+c - t.pk.length:=by unfold wm;rw [if_neg (by omega)]
  rw [spec]
  refine ZE Tryz.func143 Tryz.ntmps143 fun w0 m0 F0=>?_
  refine ZW Z0 Z0 ?_
  exact ZQ (Z1 Tryz.results143)
def yW (t o:au) (k:Nat) (c:Int):Option Int:=if (t.ae.getD c.toNat dF).kind≠(o.ae.getD k dF).kind then some 9 else none
def Nm (s1:aq) (i j:Nat) (t o:au) (name:ByteArray):aq :=
 let s2:=vM s1 name (wm t)
 ⟨let ts:=s2.tables.set i {t with ae:=t.ae++o.ae.drop t.pk.length};ts.take j++ts.drop (j+1),
  s2.ak.map fun f=>{f with table:=c7 name t.name f.table},s2.cons.map fun c=>{c with table:=c7 name t.name c.table}⟩
def F3 (s:aq) (i j:Nat) (t o:au) (name:ByteArray):sY :=
 match scan (yW t o) t.pk 0 with
 | some e=>.error e
 | none=>match se s ⟨name,ew t.pk.length,t.name⟩ with
  | .error _=>.error 10
  | .ok s1=>if s1.ak.any fun f=>aw f.ref name then .error 10 else .ok (Nm s1 i j t o name)
theorem U3 {s s1:aq} {f:FK} (h:se s f=.ok s1):s1.ak.length≤s.ak.length:=by
 unfold se at h
 simp only at h
 split at h
 ·cases h
 ·injection h with h
  subst h
  simp
  omega
theorem No {o:au} {n:Nat} (h:xW o) (he:o.pk=ew n):n≤o.ae.length:=by
 rcases vi n with h0|h0
 ·omega
 ·have:=(h ((n - 1:Nat):Int) (by rw [he];unfold ew;exact List.mem_map.2 ⟨n - 1,List.mem_range.2 (by omega),rfl⟩)).2
  omega
def xM (name tn:ByteArray) (f:FK):FK:={f with table:=c7 name tn f.table}
def yX (name tn:ByteArray) (c:dN):dN:={c with table:=c7 name tn c.table}
end Go.Bw
