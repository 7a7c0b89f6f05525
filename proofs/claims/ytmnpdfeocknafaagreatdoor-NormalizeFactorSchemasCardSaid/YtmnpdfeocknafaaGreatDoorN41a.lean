/- Proved: contracts of functions of this translation, for every state, and what they rest on; bounds stand ahead. -/
import Derived.Test.YtmnpdfeocknafaaGreatDoorVzh
set_option maxHeartbeats 64000000
set_option linter.unusedSimpArgs false
set_option linter.unusedVariables false
namespace Go.Bw
theorem Lq:∀(a b:List aG) (s:aq),sL s (a++b)=match sL s a with
  | .error e=>.error e
  | .ok u=>sL u b
 | [],b,s=>rfl
 | st::r,b,s=>by
  rw [aW,sL,sL]
  cases dU s st with
  | error e=>rfl
  | ok t=>exact Lq r b t
theorem Ku:∀{l:List aG} {s u:aq},dC s=0→sL s l=.ok u→dC u=0
 | [],s,u,h,e=>by rw [sL] at e;injection e with e;rw [←e];exact h
 | st::r,s,u,h,e=>by
  rw [sL] at e
  cases hv:dU s st with
  | error q=>rw [hv] at e;cases e
  | ok t=>rw [hv] at e;exact Ku (BU hv) e
end Go.Bw
namespace Go.Bw
open Go.Proofs
def yV (e:vf):List L:=[.int .i64 e.parent,qv e.steps]
def Ir (l:List vf):L:=.sl 2 (l.map yV)
def GK (g:Gr):List L:=[dW g.base.tables,dI g.base.ak,dy g.base.cons,Ir g.rh]
def ur:List aq→List vf→Db
 | acc,[]=>.ok acc
 | acc,e::r=>if e.parent<0∨(acc.length:Int) - 1<e.parent then .error 1 else match sC (acc.getD e.parent.toNat sA) e.steps with
  | .error e=>.error e
  | .ok t=>ur (acc++[t]) r
def wQ (g:Gr):Db:=if 8≤g.rh.length then .error 2 else if dC g.base≠0 then .error (dC g.base) else ur [g.base] g.rh
theorem adv:∀{l:List vf} {acc O:List aq},(∀x∈acc,dC x=0)→ur acc l=.ok O→(∀x∈O,dC x=0)∧O.length=acc.length+l.length
 | [],acc,O,ha,h=>by injection h with h;subst h;exact ⟨ha,by simp⟩
 | e::r,acc,O,ha,h=>by
  rw [ur] at h
  split at h
  ·cases h
  split at h
  ·cases h
  ·rename_i t q
   obtain ⟨h1,h2⟩:=adv (fun x hx=>by
    rcases List.mem_append.1 hx with hx|hx
    ·exact ha x hx
    ·rw [List.mem_singleton.1 hx];exact Py q) h
   exact ⟨h1,by rw [h2];simp;omega⟩
theorem X' {g:Gr} {O:List aq} (h:wQ g=.ok O):g.rh.length<8∧dC g.base=0∧(∀x∈O,dC x=0)∧O.length=1+g.rh.length:=by
 unfold wQ at h
 split at h
 ·cases h
 split at h
 ·cases h
 rename_i q0 q
 have q:dC g.base=0:=vu q
 have:=adv (fun x hx=>by rw [List.mem_singleton.1 hx];exact q) h
 exact ⟨by omega,q,this.1,this.2⟩
theorem adk (g:Gr) (hg:g.Fits):Sat Tryz.prog 27 [.agg (GK g)] (.cR [.one (v7 (xN (wQ g))),oI (rE (wQ g))]):=by
 have c1:=GO g.base hg.base
 have hl:=hg.len
 by_cases h0:8≤g.rh.length
 ·have spec:wQ g=.error 2:=by unfold wQ;rw [if_pos h0]
  rw [spec]
  unfold xN rE v7 GK Ir
  refine ZE Tryz.func27 Tryz.ntmps27 fun w0 m0 F0=>?_
  refine pK Z0 Z0 ?_;repeat' (first|apply Zb|apply Zn|(apply Zm;intro h)|(apply Zk;intro K hK))
  exact ZQ (Z1 Tryz.results27)
 by_cases h1:dC g.base=0
 case neg =>
  have spec:wQ g=.error (dC g.base):=by unfold wQ;rw [if_neg h0,if_pos h1]
  rw [spec]
  unfold xN rE v7 GK Ir
  refine ZE Tryz.func27 Tryz.ntmps27 fun w0 m0 F0=>?_
  refine pK (Z1 @h1) (Z1 (c1)) ?_;repeat' (first|apply Zb|apply Zn|(apply Zm;intro h)|(apply Zk;intro K hK))
  exact ZQ (Z1 Tryz.results27)
 rw [h1] at c1
 have c2:=EV g.base (yY h1)
 obtain ⟨R,hR⟩:∃R,ur [g.base] g.rh=R:=⟨_,rfl⟩
 have spec:wQ g=R:=by unfold wQ;rw [if_neg h0,if_neg (by rw [h1];simp),hR]
 rw [spec]
 unfold GK Ir
 refine ZE Tryz.func27 Tryz.ntmps27 fun w0 m0 F0=>?_
 refine pK Z0 (Z2 (c1) (c2)) ?_;repeat' (first|apply Zb|apply Zn|(apply Zm;intro h)|(apply Zk;intro K hK))
 refine ab.loop (ι:={p:Nat×List aq // p.1≤g.rh.length∧p.2.length=p.1+1∧(∀x∈p.2,dC x=0)∧ur p.2 (g.rh.drop p.1)=R}) (fun p=>⟨61,[(3,.v (oI 0)),(5,.v (.one (.ref 5 0 p.1.2.length))),(25,.v (.one (.sl 2 (g.rh.map yV)))),(26,.v (oI g.rh.length)),(27,.v (oI p.1.1))],[],[(5,⟨3,p.1.2.map aC,[]⟩)]⟩) (fun p=>g.rh.length - p.1.1) ⟨(0,[g.base]),bg _,rfl,fun x hx=>by rw [List.mem_singleton.1 hx];exact h1,hR⟩ ?_ fun ⟨⟨k,acc⟩,hkl,hka,hkz,hkR⟩=>?_
 ·exact ZN (Z1 @aC.eq_1)
 simp only at hkl hka hkz hkR ⊢
 rcases cV k g.rh.length with hk|hk
 ·obtain ⟨ed,hed⟩:∃ed,g.rh[k]=ed:=⟨_,rfl⟩
  have gs:(g.rh.map yV).getD k []=yV ed:=by rw [bJ _ _ _ hk,hed]
  have fe:=hg.BG g.rh[k] (bl hk)
  rw [uV hk,ur,hka] at hkR
  rw [hed] at hkR fe
  by_cases hp:ed.parent<0∨((k+1:Nat):Int) - 1<ed.parent
  ·rw [if_pos hp] at hkR
   subst hkR
   unfold xN rE v7
   simp only
   by_cases hp1:ed.parent<0
   ·refine rj (Z2 @gs @yV.eq_1) Z0 ?_;repeat' (first|apply Zb|apply Zn|(apply Zm;intro h)|(apply Zk;intro K hK))
    exact ZQ (Z1 Tryz.results27)
   ·have hp2:(k:Int)<ed.parent:=by omega
    refine rj (Z2 @gs @yV.eq_1) Z0 ?_;repeat' (first|apply Zb|apply Zn|(apply Zm;intro h)|(apply Zk;intro K hK))
    exact ZQ (Z1 Tryz.results27)
  rw [if_neg hp] at hkR
  obtain ⟨q,hq⟩:∃q:Nat,ed.parent=(q:Int):=⟨ed.parent.toNat,by omega⟩
  rw [hq,bG] at hkR
  obtain ⟨c,hc⟩:∃c,acc.getD q sA=c:=⟨_,rfl⟩
  have hk2:q<acc.length:=by omega
  have ga:(acc.map aC).getD q []=aC c:=by rw [bJ _ _ _ hk2,←hc,bE _ hk2]
  have zc:dC c=0:=by rw [←hc,bE _ hk2];exact hkz _ (bl hk2)
  have ev:=J3 c ed.steps (yY zc).fits (by have:=fe.len;omega) fe.step
  unfold qv at ev
  rw [hc] at hkR
  have q1:¬ (q:Int)<0:=by omega
  have q2:¬ (k:Int)<(q:Int):=by omega
  obtain ⟨r0,hv⟩:∃r0,sC c ed.steps=r0:=⟨_,rfl⟩
  rw [hv] at hkR ev
  refine pK (Z6 @gs @yV.eq_1 @qv.eq_1 @hq @q1 @q2) Z0 ?_;repeat' (first|apply Zb|apply Zn|(apply Zm;intro h)|(apply Zk;intro K hK))
  refine ab.we ⟨61,[(3,.v (oI 0)),(5,.v (.one (.ref 5 0 acc.length))),(25,.v (.one (.sl 2 (g.rh.map yV)))),(26,.v (oI g.rh.length)),(27,.v (oI k)),(8,.v (.one (.ptr 8 0))),(9,.v (oI (rE r0)))],[(8,aC (sZ r0))],[(5,⟨3,acc.map aC,[]⟩)]⟩ ?_ ?_
  ·refine dY ah mixed [(0,7)] (.cons 7 [(8,3)] [] (.cons 11 [] [(8,3)] (.cons 12 [(13,1)] [(10,1)] .leaf .none) .none) (.cons 11 [] [(0,7)] (.cons 7 [(8,3)] [] (.cons 12 [(13,1)] [(10,1)] .leaf .none) .none) .none)) [7,11,12] 8 fun K hK=>?_
   simp only [vT,vU,vV,bb,eo,dA,dV,c9,c8,dr,aW,aZ,bM] at hK ⊢
   refine ZU (Z6 @ga @yV.eq_1 @qv.eq_1 @hq @q1 @q2) ?_
   refine rC (Z6 @ga @yV.eq_1 @qv.eq_1 @hq @q1 @q2) (Z1 (ev)) (Z1 (Zs 13)) Z0 ?_;repeat' (first|apply Zb|apply Zn|(apply Zm;intro h)|(apply Zk;intro K hK))
   all_goals refine Gq.done ⟨rfl,?_⟩
   all_goals refine St.bN ?_ ?_ ?_<;>simp only [LE,EN,Nat.reduceEqDiff,reduceIte,Nat.reduceSub,aC]
  cases r0 with
  | error e =>
   simp only at hkR
   subst hkR
   have he:=Ht hv
   unfold xN rE v7 sZ
   simp only
   refine pK (Z1 @he) Z0 ?_;repeat' (first|apply Zb|apply Zn|(apply Zm;intro h)|(apply Zk;intro K hK))
   exact ZQ (Z1 Tryz.results27)
  | ok u =>
   simp only at hkR
   unfold sZ rE
   simp only
   refine pK Z0 Z0 ?_;repeat' (first|apply Zb|apply Zn|(apply Zm;intro h)|(apply Zk;intro K hK))
   refine ⟨⟨(k+1,acc++[u]),by simp only;omega,by simp;omega,fun x hx=>by
    rcases List.mem_append.1 hx with hx|hx
    ·exact hkz x hx
    ·rw [List.mem_singleton.1 hx];exact Py hv,hkR⟩,by simp only;omega,?_⟩
   exact ZN (Z1 @aC.eq_1)
 ·have hk:k=g.rh.length:=by omega
  subst hk
  rw [Hd,ur] at hkR
  subst hkR
  unfold xN rE v7
  simp only
  refine pK Z0 Z0 ?_;repeat' (first|apply Zb|apply Zn|(apply Zm;intro h)|(apply Zk;intro K hK))
  refine ZR (Z1 Tryz.results27) ?_
  rw [Px]
def zGr:Gr:=⟨⟨[],[],[]⟩,[]⟩
theorem akp (l:List vf):(l.map yV).map (fun x=>x.map (L.fD 4))=l.map yV:=vF (fun _=>rfl) l
def akU (c:List aG):List L:=[qv c]
def uE:List aG→List aG→Nat
 | a::r,b::q=>if a=b then uE r q+1 else 0
 | _,_=>0
theorem QD:∀(a b:List aG),uE a b≤a.length∧uE a b≤b.length
 | [],b=>by simp [uE]
 | a::r,[]=>by simp [uE]
 | a::r,b::q=>by
  have:=QD r q
  rw [uE]
  split<;>simp<;>omega
theorem QC:∀(a b:List aG),a.take (uE a b)=b.take (uE a b)
 | [],b=>by simp [uE]
 | a::r,[]=>by simp [uE]
 | a::r,b::q=>by
  rw [uE]
  split
  ·rename_i h
   rw [dV,dV,QC r q,h]
  ·rfl
def C4 (p:Int) (l:List aG):List vf:=if l=[] then [] else [⟨p,l⟩]
def LA (a b:List aG):List vf:=if uE a b=0 then C4 0 a++C4 0 b else ⟨0,a.take (uE a b)⟩::(C4 1 (a.drop (uE a b))++C4 1 (b.drop (uE a b)))
theorem P2:∀(l1 l2:List vf) (acc:List aq),ur acc (l1++l2)=match ur acc l1 with
  | .error e=>.error e
  | .ok O=>ur O l2
 | [],l2,acc=>rfl
 | e::r,l2,acc=>by
  rw [aW,ur,ur]
  split
  ·rfl
  ·split
   ·rfl
   ·exact P2 r l2 _
theorem Xs {s u:aq} {l:List aG} (h1:l.length≤6) (h2:dC s=0) (h:sL s l=.ok u):sC s l=.ok u:=by
 rw [Gy,if_neg (by omega),if_neg (by rw [h2];simp),h]
theorem LB {acc:List aq} {p:Nat} {s u:aq} {l:List aG} (hp:p<acc.length) (hs:acc.getD p sA=s) (h1:l.length≤6) (h2:dC s=0) (h:sL s l=.ok u):∃O,ur acc (C4 (p:Int) l)=.ok O∧acc.length≤O.length∧O.length≤acc.length+1∧(∀x∈acc,x∈O)∧u∈O∧∀k,k<acc.length→O.getD k sA=acc.getD k sA:=by
 unfold C4
 by_cases e:l=[]
 ·subst e
  rw [if_pos rfl]
  rw [sL] at h
  injection h with h
  refine ⟨acc,rfl,br _,by omega,fun x hx=>hx,?_,fun _ _=>rfl⟩
  rw [←h,←hs,bE _ hp]
  exact bl hp
 ·rw [if_neg e,ur]
  simp only [bG]
  rw [if_neg (by omega),hs,Xs h1 h2 h]
  simp only
  rw [ur]
  refine ⟨acc++[u],rfl,by simp,by simp,fun x hx=>AJ _ hx,by simp,fun k hk=>?_⟩
  rw [rM,vk hk,←rM]
theorem adl {s x y:aq} {a b:List aG} (ha:sC s a=.ok x) (hb:sC s b=.ok y):∃O,wQ ⟨s,LA a b⟩=.ok O∧O.length≤4∧x∈O∧y∈O:=by
 rw [Gy] at ha hb
 split at ha
 ·cases ha
 rename_i l1
 split at ha
 ·cases ha
 rename_i zs
 rw [if_neg zs] at hb
 split at hb
 ·cases hb
 rename_i l2
 have zs:dC s=0:=vu zs
 obtain ⟨n1,n2⟩:=QD a b
 have lE:(LA a b).length≤3:=by
  unfold LA C4
  split<;>split<;>split<;>simp
 unfold wQ
 simp only
 rw [if_neg (by omega),if_neg (by rw [zs];simp)]
 unfold LA
 by_cases h0:uE a b=0
 ·rw [if_pos h0,P2]
  obtain ⟨O,g1,g2,g3,g4,g5,g6⟩:=LB (acc:=[s]) (p:=0) (by simp) rfl (by omega) zs ha
  have g1:ur [s] (C4 0 a)=.ok O:=g1
  rw [g1]
  simp only
  obtain ⟨O2,k1,k2,k3,k4,k5,k6⟩:=LB (acc:=O) (p:=0) (by simp at g2;omega) (by rw [g6 0 (by simp)];rfl) (by omega) zs hb
  exact ⟨O2,k1,by simp at g3;omega,k4 _ g5,k5⟩
 ·rw [if_neg h0,ur]
  have ea:a=a.take (uE a b)++a.drop (uE a b):=(yK _ _).symm
  have eb:b=a.take (uE a b)++b.drop (uE a b):=by rw [QC a b];exact (yK _ _).symm
  rw [ea,Lq] at ha
  rw [eb,Lq] at hb
  cases hp:sL s (a.take (uE a b)) with
  | error e=>rw [hp] at ha;cases ha
  | ok p =>
   rw [hp] at ha hb
   simp only at ha hb
   have zp:=Ku zs hp
   rw [if_neg (by simp),show ([s]:List aq).getD (0:Int).toNat sA=s from rfl,Xs (by rw [rV];omega) zs hp]
   simp only
   rw [P2]
   obtain ⟨O,g1,g2,g3,g4,g5,g6⟩:=LB (acc:=[s]++[p]) (p:=1) (by simp) rfl (by rw [wu];omega) zp ha
   have g1:ur ([s]++[p]) (C4 1 (a.drop (uE a b)))=.ok O:=g1
   rw [g1]
   simp only
   obtain ⟨O2,k1,k2,k3,k4,k5,k6⟩:=LB (acc:=O) (p:=1) (by simp at g2;omega) (by rw [g6 1 (by simp)];rfl) (by rw [wu];omega) zp hb
   exact ⟨O2,k1,by simp at g3;omega,k4 _ g5,k5⟩
theorem adW:∀{a b:List aG} {k:Nat} (ha:k<a.length) (hb:k<b.length),a.take k=b.take k→k≤uE a b→a[k]=b[k]→k+1≤uE a b
 | [],_,_,ha,_,_,_,_=>by simp at ha
 | _::_,[],_,_,hb,_,_,_=>by simp at hb
 | x::r,y::q,0,_,_,_,_,e=>by
  have e:x=y:=e
  rw [uE,if_pos e]
  omega
 | x::r,y::q,k+1,ha,hb,ht,hk,e=>by
  simp only [dV,List.cons.injEq] at ht
  rw [uE,if_pos ht.1] at hk ⊢
  have:=adW (a:=r) (b:=q) (k:=k) (by simpa using ha) (by simpa using hb) ht.2 (by omega) (by simpa using e)
  omega
theorem Yn:∀{a b:List aG} {k:Nat},k≤uE a b→(∀(ha:k<a.length) (hb:k<b.length),a[k]≠b[k])→uE a b=k
 | [],_,k,hk,_=>by simp [uE] at hk ⊢;omega
 | _::_,[],k,hk,_=>by simp [uE] at hk ⊢;omega
 | x::r,y::q,0,hk,h=>by
  have this:x≠y:=h (by simp) (by simp)
  rw [uE,if_neg this]
 | x::r,y::q,k+1,hk,h=>by
  rw [uE] at hk ⊢
  split at hk
  ·rename_i e
   rw [if_pos e,Yn (a:=r) (b:=q) (k:=k) (by omega) fun ha hb=>h (by simpa using ha) (by simpa using hb)]
  ·omega
theorem ag1 {a b:List aG} {k:Nat} (hk:k≤uE a b):a.take k=b.take k:=by
 have:=congrArg (List.take k) (QC a b)
 rwa [List.take_take,List.take_take,HL hk] at this
theorem akY (a b:List aG) (h1:a.length≤140737488355328) (h2:b.length≤140737488355328) (h3:∀s∈a,s.Fits) (h4:∀s∈b,s.Fits) :
  Sat Tryz.prog 58 [.one (qv a),.one (qv b)] (.v (oI (uE a b))):=by
 unfold qv
 refine ZE Tryz.func58 Tryz.ntmps58 fun w0 m0 F0=>?_
 refine pK Z0 Z0 ?_;repeat' (first|apply Zb|apply Zn|(apply Zm;intro h))
 refine ab.loop (ι:={k:Nat // k≤uE a b}) (fun k=>⟨30,[(0,.v (.one (.sl 24 (a.map aj)))),(1,.v (.one (.sl 24 (b.map aj)))),(5,.v (oI k.1))],[],[]⟩) (fun k=>uE a b - k.1) ⟨0,bg _⟩ ?_ fun ⟨k,hk⟩=>?_
 ·exact ZL (Z1 @s9)
 simp only at hk ⊢
 have pl:=QD a b
 have l1:(a.map aj).length=a.length:=bw ..
 have l2:(b.map aj).length=b.length:=bw ..
 rcases cV k a.length with ha|ha
 ·rcases cV k b.length with hb|hb
  ·obtain ⟨x,hx⟩:∃x,a[k]=x:=⟨_,rfl⟩
   obtain ⟨y,hy⟩:∃y,b[k]=y:=⟨_,rfl⟩
   have g1:(a.map aj).getD k []=aj a[k]:=bJ _ _ _ ha
   have g2:(b.map aj).getD k []=aj b[k]:=bJ _ _ _ hb
   have c:=KT a[k] b[k] (h3 _ (bl ha)) (h4 _ (bl hb))
   rw [hx] at g1
   rw [hy] at g2
   rw [hx,hy] at c
   by_cases he:x=y
   ·have nx:=adW ha hb (ag1 hk) hk (by rw [hx,hy];exact he)
    rw [sB he] at c
    refine ZV (Z5 @aj.eq_1 @g1 @g2 @l1 @l2) (Z1 (c)) (Z1 (Zd 2 [(0,19)] [(19,[(20,1)],[])] [19] 8)) Z0 ?_
    refine ⟨⟨k+1,nx⟩,by simp only;omega,?_⟩
    exact ZL (Z2 @iy @pO)
   ·have e:=Yn hk fun _ _=>by rw [hx,hy];exact he
    rw [yG he] at c
    refine ZV (Z5 @aj.eq_1 @g1 @g2 @l1 @l2) (Z1 (c)) (Z1 (Zd 2 [(0,19)] [(19,[(20,1)],[])] [19] 8)) Z0 ?_
    refine ZR (Z1 Tryz.results58) ?_
    rw [e]
  ·have e:=Yn hk fun _ hb'=>absurd hb' (by omega)
   refine ZV (Z2 @l1 @l2) Z0 (Z1 (Zd 2 [(0,19)] [(19,[(20,1)],[])] [19] 8)) Z0 ?_
   refine ZR (Z1 Tryz.results58) ?_
   rw [e]
 ·have e:=Yn hk fun ha'=>absurd ha' (by omega)
  refine ZV (Z2 @l1 @l2) Z0 (Z1 (Zd 2 [(0,19)] [(19,[(20,1)],[])] [19] 8)) Z0 ?_
  refine ZR (Z1 Tryz.results58) ?_
  rw [e]
def zE0 (a b:List aG):List vf:=if uE a b=0 then [] else [⟨0,a.take (uE a b)⟩]
def parP (a b:List aG):Int:=if uE a b=0 then 0 else 1
def restsL (a b:List aG):List (List aG):=[a.drop (uE a b),b.drop (uE a b)]
def facK (a b:List aG) (k:Nat):List vf:=zE0 a b++(((restsL a b).take k).map (C4 (parP a b))).flatten
theorem facK_all (a b:List aG):facK a b 2=LA a b:=by
 unfold facK LA zE0 parP restsL
 by_cases h:uE a b=0
 ·rw [if_pos h,if_pos h,if_pos h,h]
  simp
 ·rw [if_neg h,if_neg h,if_neg h]
  simp
theorem facK_succ {a b:List aG} {k:Nat} (h:k<(restsL a b).length):facK a b (k+1)=facK a b k++C4 (parP a b) (restsL a b)[k]:=by
 unfold facK
 rw [qd _ _ h,dn,Rn,sV]
 simp
theorem facK_len (a b:List aG) (k:Nat):(facK a b k).length≤3:=by
 have h1:(zE0 a b).length≤1:=by unfold zE0;split<;>simp
 have h2:∀l:List aG,(C4 (parP a b) l).length≤1:=fun l=>by unfold C4;split<;>simp
 have h3:=h2 (a.drop (uE a b))
 have h4:=h2 (b.drop (uE a b))
 unfold facK restsL
 match k with
 | 0=>simp;omega
 | 1=>simp;omega
 | k+2=>simp;omega
theorem rests_fits {a b:List aG} {k:Nat} (h3:∀st∈a,st.Fits) (h4:∀st∈b,st.Fits) (hk:k<(restsL a b).length):∀st∈(restsL a b)[k],st.Fits:=by
 match k,hk with
 | 0,_=>exact fun st h=>h3 st (zB h)
 | 1,_=>exact fun st h=>h4 st (zB h)
theorem rests_len {a b:List aG} {k:Nat} (hk:k<(restsL a b).length) (h1:a.length≤6) (h2:b.length≤6):((restsL a b)[k]).length≤6:=by
 match k,hk with
 | 0,_=>exact by show (a.drop _).length≤6;rw [wu];omega
 | 1,_=>exact by show (b.drop _).length≤6;rw [wu];omega
def facG (s:aq) (a b:List aG):Except Int Gr:=match sC s a with
 | .error e=>.error e
 | .ok _=>match sC s b with
  | .error e=>.error e
  | .ok _=>.ok ⟨s,LA a b⟩
def grO:Except Int Gr→Gr
 | .error _=>zGr
 | .ok g=>g
theorem factor_sat (s:aq) (a b:List aG) (hs:s.Fits) (h1:a.length≤140737488355328) (h2:b.length≤140737488355328) (h3:∀st∈a,st.Fits) (h4:∀st∈b,st.Fits) :
  Sat Tryz.prog 26 [.agg (aC s),.one (qv a),.one (qv b)] (.cR [.agg (GK (grO (facG s a b))),oI (rE (facG s a b))]):=by
 have s1:=J3 s a hs h1 h3
 have s2:=J3 s b hs h2 h4
 cases ha:sC s a with
 | error e =>
  have he:=Ht ha
  have spec:facG s a b=.error e:=by unfold facG;rw [ha]
  rw [ha] at s1
  rw [spec]
  unfold sZ rE at s1
  unfold grO rE
  simp only at s1 ⊢
  unfold qv at s1 s2 ⊢
  refine ZE Tryz.func26 Tryz.ntmps26 fun w0 m0 F0=>?_
  refine pK Z0 Z0 ?_;repeat' (first|apply Zb|apply Zn|(apply Zm;intro h)|(apply Zk;intro K hK))
  refine ab.loop (ι:=Unit) (fun _=>⟨80,[(3,.v (.one (.ptr 3 0))),(6,.v (.one (.ptr 6 0))),(7,.v (oI 0)),(19,.v (.one (.ref 19 0 2))),(20,.v (oI 2)),(21,.v (oI 0))],[(3,aC s),(6,[.nil 3,.nil 3,.nil 7,.nil 2])],[(19,⟨1,[[.sl 24 (a.map aj)],[.sl 24 (b.map aj)]],[]⟩)]⟩) (fun _=>0) () ?_ fun _=>?_
  ·exact ZL (Z1 @aC.eq_1)
  refine pK (Z2 @he (@List.getD_cons_zero.{0})) (Z1 (s1)) ?_;repeat' (first|apply Zb|apply Zn|(apply Zm;intro h)|(apply Zk;intro K hK))
  refine ZR (Z1 Tryz.results26) ?_
  rfl
 | ok x =>
  rw [ha] at s1
  unfold sZ rE at s1
  simp only at s1
  cases hb:sC s b with
  | error e =>
   have he:=Ht hb
   have spec:facG s a b=.error e:=by unfold facG;rw [ha,hb]
   rw [hb] at s2
   rw [spec]
   unfold sZ rE at s2
   unfold grO rE
   simp only at s2 ⊢
   unfold qv at s1 s2 ⊢
   refine ZE Tryz.func26 Tryz.ntmps26 fun w0 m0 F0=>?_
   refine pK Z0 Z0 ?_;repeat' (first|apply Zb|apply Zn|(apply Zm;intro h)|(apply Zk;intro K hK))
   refine ab.loop (ι:={k:Nat // k≤1}) (fun k=>⟨80,[(3,.v (.one (.ptr 3 0))),(6,.v (.one (.ptr 6 0))),(7,.v (oI 0)),(19,.v (.one (.ref 19 0 2))),(20,.v (oI 2)),(21,.v (oI k.1))],[(3,aC s),(6,[.nil 3,.nil 3,.nil 7,.nil 2])],[(19,⟨1,[[.sl 24 (a.map aj)],[.sl 24 (b.map aj)]],[]⟩)]⟩) (fun k=>1 - k.1) ⟨0,by omega⟩ ?_ fun ⟨k,hk⟩=>?_
   ·exact ZL (Z2 @aC.eq_1 @s9)
   simp only
   match k,hk with
   | 0,_ =>
    refine pK (Z2 (@List.getD_cons_zero.{0}) @s9) (Z1 (s1)) ?_;repeat' (first|apply Zb|apply Zn|(apply Zm;intro h)|(apply Zk;intro K hK))
    refine ⟨⟨1,by omega⟩,by simp,?_⟩
    exact ZL (Z2 @aC.eq_1 @pO)
   | 1,_ =>
    refine pK (Z4 @he (@List.getD_cons_zero.{0}) (@List.getD_cons_succ.{0}) @pO) (Z1 (s2)) ?_;repeat' (first|apply Zb|apply Zn|(apply Zm;intro h)|(apply Zk;intro K hK))
    refine ZR (Z1 Tryz.results26) ?_
    rfl
  | ok y =>
   have spec:facG s a b=.ok ⟨s,LA a b⟩:=by unfold facG;rw [ha,hb]
   rw [hb] at s2
   rw [spec]
   unfold sZ rE at s2
   unfold grO rE
   simp only at s2 ⊢
   have l6:=aa0 ha
   have l7:=aa0 hb
   have zs:dC s=0:=by
    unfold sC at ha
    split at ha
    ·cases ha
    ·rename_i O hO
     unfold uC at hO
     split at hO
     ·cases hO
     split at hO
     ·cases hO
     ·rename_i q
      exact vu q
   have k2:((2:Nat):Int)=2:=rfl
   have cs:=EV s (yY zs)
   have cp:=akY a b h1 h2 h3 h4
   obtain ⟨n1,n2⟩:=QD a b
   rw [←facK_all]
   have e0:facK a b 0=zE0 a b:=by unfold facK;simp
   have lE0:(zE0 a b).length≤1:=by unfold zE0;split<;>simp
   obtain ⟨n,hn⟩:∃n,uE a b=n:=⟨_,rfl⟩
   have r0:(restsL a b).map akU=[[.sl 24 ((a.drop n).map aj)],[.sl 24 ((b.drop n).map aj)]]:=by unfold restsL;rw [hn];rfl
   have c0:=Pu (a.take n) (by rw [rV];omega) (fun st h=>h3 st (tv h))
   have et:(a.map aj).take n=(a.take n).map aj:=List.map_take.symm
   have ea:(a.map aj).drop n=(a.drop n).map aj:=List.map_drop.symm
   have eb:(b.map aj).drop n=(b.drop n).map aj:=List.map_drop.symm
   have la:(a.map aj).length=a.length:=bw ..
   have lb:(b.map aj).length=b.length:=bw ..
   rw [hn] at cp n1 n2
   unfold qv at s1 s2 cp c0 ⊢
   refine ZE Tryz.func26 Tryz.ntmps26 fun w0 m0 F0=>?_
   refine pK Z0 Z0 ?_;repeat' (first|apply Zb|apply Zn|(apply Zm;intro h)|(apply Zk;intro K hK))
   refine ab.BC ⟨80,[(1,.v (.one (.sl 24 (a.map aj)))),(2,.v (.one (.sl 24 (b.map aj)))),(3,.v (.one (.ptr 3 0))),(6,.v (.one (.ptr 6 0))),(7,.v (oI 0))],[(3,aC s),(6,[.nil 3,.nil 3,.nil 7,.nil 2])],[]⟩ ?_ ?_
   ·refine ab.loop (ι:={k:Nat // k≤2}) (fun k=>⟨80,[(1,.v (.one (.sl 24 (a.map aj)))),(2,.v (.one (.sl 24 (b.map aj)))),(3,.v (.one (.ptr 3 0))),(6,.v (.one (.ptr 6 0))),(7,.v (oI 0)),(19,.v (.one (.ref 19 0 2))),(20,.v (oI 2)),(21,.v (oI k.1))],[(3,aC s),(6,[.nil 3,.nil 3,.nil 7,.nil 2])],[(19,⟨1,[[.sl 24 (a.map aj)],[.sl 24 (b.map aj)]],[]⟩)]⟩) (fun k=>2 - k.1) ⟨0,by omega⟩ ?_ fun ⟨k,hk⟩=>?_
    ·exact ZL (Z2 @aC.eq_1 @s9)
    simp only
    match k,hk with
    | 0,_ =>
     refine pK (Z2 (@List.getD_cons_zero.{0}) @s9) (Z1 (s1)) ?_;repeat' (first|apply Zb|apply Zn|(apply Zm;intro h)|(apply Zk;intro K hK))
     refine ⟨⟨1,by omega⟩,by simp,?_⟩
     exact ZL (Z2 @aC.eq_1 @pO)
    | 1,_ =>
     refine pK (Z3 (@List.getD_cons_zero.{0}) (@List.getD_cons_succ.{0}) @pO) (Z1 (s2)) ?_;repeat' (first|apply Zb|apply Zn|(apply Zm;intro h)|(apply Zk;intro K hK))
     refine ⟨⟨2,by omega⟩,by simp,?_⟩
     exact ZL (Z2 @aC.eq_1 @k2)
    | 2,_ =>
     refine pK Z0 Z0 ?_;repeat' (first|apply Zb|apply Zn|(apply Zm;intro h)|(apply Zk;intro K hK))
     refine Gq.done ⟨rfl,?_⟩
     exact ZN (Z1 @aC.eq_1)
   refine rC Z0 (Z2 (cs) (cp)) (Z1 (Zs 11)) Z0 ?_;repeat' (first|apply Zb|apply Zn|(apply Zm;intro h)|(apply Zk;intro K hK))
   refine ab.BB 13 3 76 rfl rfl (.inl (by show 76<80;decide)) ?_
   refine ZU (Z3 @DL (@List.set_cons_zero.{0}) (@List.set_cons_succ.{0})) ?_
   refine qV ah fun K hK=>?_
   refine ZU Z0 ?_
   refine hK _ (qB ?_)
   try clear hK K
   refine ab.we ⟨80,[(1,.v (.one (.sl 24 (a.map aj)))),(2,.v (.one (.sl 24 (b.map aj)))),(6,.v (.one (.ptr 6 0))),(7,.v (oI 0)),(12,.v (oI n)),(13,.v (.one (.ptr 13 0))),(14,.v (oI (parP a b)))],[(6,[.nil 3,.nil 3,.nil 7,.nil 2]),(13,[dW s.tables,dI s.ak,dy s.cons,.ref 76 0 (zE0 a b).length])],[(76,⟨2,(zE0 a b).map yV,[]⟩)]⟩ ?_ ?_
   ·by_cases h0:n=0
    ·have eE:zE0 a b=[]:=by unfold zE0;rw [if_pos (hn.trans h0)]
     have eP:parP a b=0:=by unfold parP;rw [if_pos (hn.trans h0)]
     rw [eE,eP]
     refine pK Z0 Z0 ?_;repeat' (first|apply Zb|apply Zn|(apply Zm;intro h)|(apply Zk;intro K hK))
     refine Gq.done ⟨rfl,?_⟩
     exact ZN (Z1 @aC.eq_1)
    ·have eE:zE0 a b=[⟨0,a.take n⟩]:=by unfold zE0;rw [if_neg (by omega),hn]
     have eP:parP a b=1:=by unfold parP;rw [if_neg (by omega)]
     rw [eE,eP]
     refine rC (Z4 @et @la (@List.set_cons_zero.{0}) (@List.set_cons_succ.{0})) (Z1 (c0)) (Z1 (Zd 12 [(0,5)] [(5,[(6,1)],[(0,2)]),(7,[],[(0,2)]),(8,[(9,1)],[]),(10,[],[])] [5,7,8,10] 8)) Z0 ?_;repeat' (first|apply Zb|apply Zn|(apply Zm;intro h)|(apply Zk;intro K hK))
     refine Gq.iN 52 76 rfl rfl (by decide) (.inl (gQ rfl)) ?_
     refine ZT Z0 ?_
     refine Gq.done ⟨rfl,?_⟩
     exact ZN (Z3 @aC.eq_1 @yV.eq_1 @qv.eq_1)
   obtain ⟨p,hp⟩:∃p,parP a b=p:=⟨_,rfl⟩
   have lr:(restsL a b).length=2:=rfl
   rw [hp,←e0]
   refine rC (Z4 @ea @eb @la @lb) Z0 (Z1 (Zd 14 [(0,6),(8,1)] [(6,[(7,1)],[(8,1)])] [6] 8)) Z0 ?_;repeat' (first|apply Zb|apply Zn|(apply Zm;intro h)|(apply Zk;intro K hK))
   refine ab.BC ⟨80,[(6,.v (.one (.ptr 6 0))),(7,.v (oI 0)),(13,.v (.one (.ptr 13 0)))],[(6,[.nil 3,.nil 3,.nil 7,.nil 2]),(13,[dW s.tables,dI s.ak,dy s.cons,.ref 76 0 (facK a b 2).length])],[(76,⟨2,(facK a b 2).map yV,[]⟩)]⟩ ?_ ?_
   ·refine ab.loop (ι:={k:Nat // k≤2}) (fun k=>⟨80,[(6,.v (.one (.ptr 6 0))),(7,.v (oI 0)),(13,.v (.one (.ptr 13 0))),(14,.v (oI p)),(60,.v (.one (.ref 60 0 2))),(61,.v (oI 2)),(62,.v (oI k.1))],[(6,[.nil 3,.nil 3,.nil 7,.nil 2]),(13,[dW s.tables,dI s.ak,dy s.cons,.ref 76 0 (facK a b k.1).length])],[(76,⟨2,(facK a b k.1).map yV,[]⟩),(60,⟨1,(restsL a b).map akU,[]⟩)]⟩) (fun k=>2 - k.1) ⟨0,by omega⟩ ?_ fun ⟨k,hk⟩=>?_
    ·exact ZL (Z2 @r0 @s9)
    simp only at hk ⊢
    have bk:=facK_len a b k
    rcases cV k 2 with hc|hc
    ·have hc:k<(restsL a b).length:=hc
     have es:=facK_succ (a:=a) (b:=b) (k:=k) hc
     rw [hp] at es
     have fl:=rests_fits (k:=k) h3 h4 hc
     have ll:((restsL a b)[k]'hc).length≤6:=rests_len hc l6 l7
     have gs:((restsL a b).map akU).getD k []=akU ((restsL a b)[k]'hc):=bJ _ _ _ hc
     obtain ⟨l2,hl2⟩:∃l2,(restsL a b)[k]'hc=l2:=⟨_,rfl⟩
     rw [hl2] at es fl ll gs
     have c3:=Pu l2 (by omega) fl
     unfold C4 at es
     unfold akU qv at gs
     unfold qv at c3
     by_cases h0:l2=[]
     ·rw [if_pos h0,bM] at es
      subst h0
      refine pK (Z5 @gs @lr @hl2 @akU.eq_1 @qv.eq_1) Z0 ?_;repeat' (first|apply Zb|apply Zn|(apply Zm;intro h)|(apply Zk;intro K hK))
      refine ⟨⟨k+1,by omega⟩,by simp only;omega,?_⟩
      exact ZL (Z3 @es @iy @pO)
     ·rw [if_neg h0] at es
      have l0:0<l2.length:=List.length_pos_iff.2 h0
      refine rC (Z7 @gs @lr @hl2 @akU.eq_1 @qv.eq_1 (@List.set_cons_zero.{0}) (@List.set_cons_succ.{0})) (Z1 (c3)) (Z1 (Zd 18 [(0,4)] [(4,[(5,1)],[(0,3)]),(6,[],[(0,2)]),(7,[(8,1)],[]),(9,[],[])] [4,6,7,9] 8)) Z0 ?_;repeat' (first|apply Zb|apply Zn|(apply Zm;intro h)|(apply Zk;intro K hK))
      refine ⟨⟨k+1,by omega⟩,by simp only;omega,?_⟩
      exact ZN (Z5 @es @yV.eq_1 @qv.eq_1 @iy @pO)
    ·have hk2:k=2:=by omega
     subst hk2
     refine pK (Z1 @k2) Z0 ?_;repeat' (first|apply Zb|apply Zn|(apply Zm;intro h)|(apply Zk;intro K hK))
     refine Gq.done ⟨rfl,?_⟩
     exact ZL Z0
   refine pK Z0 Z0 ?_;repeat' (first|apply Zb|apply Zn|(apply Zm;intro h)|(apply Zk;intro K hK))
   refine ZR (Z1 Tryz.results26) ?_
   rw [akp]
   rfl
theorem indexFuncSch_sat (l:List aq) (f:Nat) (cs:List L) (p:aq→Bool) (hlen:l.length≤140737488355328) (hp:∀t∈l,Sat Tryz.prog f (.agg (aC t)::cs.map .one) (.v (oB (p t)))) :
  Sat Tryz.prog 59 [.one (v7 l),.one (.bD f cs)] (.v (oI (idx p l 0))):=by
 unfold v7
 refine ZE Tryz.func59 Tryz.ntmps59 fun w0 m0 F0=>?_
 refine rj Z0 Z0 ?_;repeat' (first|apply Zb|apply Zn|(apply Zm;intro h))
 refine ab.loop (ι:={k:Nat // k≤l.length∧idx p (l.drop k) k=idx p l 0}) (fun k=>⟨19,[(0,.v (.one (.sl 3 (l.map aC)))),(1,.v (.one (.bD f cs))),(7,.v (oI l.length)),(8,.v (oI k.1))],[],[]⟩) (fun k=>l.length - k.1) ⟨0,bg _,rfl⟩ ?_ fun ⟨k,hkl,hi⟩=>?_
 ·exact ZL Z0
 simp only at hkl hi ⊢
 rcases cV k l.length with hc|hc
 ·have gs:(l.map aC).getD k []=aC l[k]:=bJ _ _ _ hc
  have c:=hp _ (bl hc)
  cases hb:p l[k] with
  | true =>
   rw [hb] at c
   refine rj (Z1 @gs) (Z1 (c)) ?_;repeat' (first|apply Zb|apply Zn|(apply Zm;intro h))
   refine ZR (Z1 Tryz.results59) ?_
   rw [←hi,Bg hc hb]
  | false =>
   rw [hb] at c
   refine rj (Z1 @gs) (Z1 (c)) ?_;repeat' (first|apply Zb|apply Zn|(apply Zm;intro h))
   refine ⟨⟨k+1,by omega,by rw [Bh hc hb,hi]⟩,by simp only;omega,?_⟩
   exact ZL Z0
 ·refine rj Z0 Z0 ?_;repeat' (first|apply Zb|apply Zn|(apply Zm;intro h))
  refine ZR (Z1 Tryz.results59) ?_
  rw [←hi,Bf (by omega)]
theorem containsFSch_sat (l:List aq) (f:Nat) (cs:List L) (p:aq→Bool) (hlen:l.length≤140737488355328) (hp:∀t∈l,Sat Tryz.prog f (.agg (aC t)::cs.map .one) (.v (oB (p t)))) :
  Sat Tryz.prog 29 [.one (v7 l),.one (.bD f cs)] (.v (oB (l.any p))):=by
 rw [←Jf p l 0]
 have ix:=indexFuncSch_sat l f cs p hlen hp
 refine ZE Tryz.func29 Tryz.ntmps29 fun w0 m0 F0=>?_
 refine rj Z0 (Z1 (ix)) ?_;repeat' (first|apply Zb|apply Zn|(apply Zm;intro h))
 exact ZQ (Z1 Tryz.results29)
theorem hasIn_sat (t w:aq) (h1:t.Fits) (h2:w.Fits):Sat Tryz.prog 30 [.agg (aC t),.one (.fz (aC w))] (.v (oB (decide (t=w)))):=by
 have c:=Ql t w h1 h2
 refine ZE Tryz.func30 Tryz.ntmps30 fun w0 m0 F0=>?_
 refine pK Z0 (Z1 (c)) ?_;repeat' (first|apply Zb|apply Zn|(apply Zm;intro h))
 exact ZQ (Z1 Tryz.results30)
theorem has_sat (O:List aq) (w:aq) (hl:O.length≤140737488355328) (h1:∀t∈O,t.Fits) (h2:w.Fits) (hw:w∈O):Sat Tryz.prog 28 [.agg (aC w),.one (.fz [v7 O])] (.v (oB true)):=by
 have c:=containsFSch_sat O 30 [.fz (aC w)] (fun t=>decide (t=w)) hl (fun t ht=>hasIn_sat t w (h1 t ht) h2)
 rw [List.any_eq_true.2 ⟨w,hw,sB rfl⟩] at c
 refine ZE Tryz.func28 Tryz.ntmps28 fun w0 m0 F0=>?_
 refine rC Z0 Z0 (Z1 (Zs 1)) Z0 ?_;repeat' (first|apply Zb|apply Zn|(apply Zm;intro h))
 refine ab.rN [2] [] ?_
 refine ZS Z0 ?_
 refine pK Z0 (Z1 (c)) ?_;repeat' (first|apply Zb|apply Zn|(apply Zm;intro h))
 exact ZQ (Z1 Tryz.results28)
theorem facE_fits {s:aq} {a b:List aG} (hs:s.Fits) (h1:a.length≤140737488355328) (h2:b.length≤140737488355328) (h3:∀st∈a,st.Fits) (h4:∀st∈b,st.Fits):Gr.Fits ⟨s,LA a b⟩:=by
 have hr:∀(p:Int) (l:List aG),l.length≤140737488355328→(∀st∈l,st.Fits)→∀e∈C4 p l,e.Fits:=fun p l q1 q2 e he=>by
  unfold C4 at he
  split at he
  ·cases he
  ·rw [List.mem_singleton.1 he]
   exact ⟨q1,q2⟩
 have ha:=fun p=>hr p (a.drop (uE a b)) (by rw [wu];omega) (fun st h=>h3 st (zB h))
 have hb:=fun p=>hr p (b.drop (uE a b)) (by rw [wu];omega) (fun st h=>h4 st (zB h))
 refine ⟨hs,?_,fun e he=>?_⟩
 ·show (LA a b).length≤_
  rw [←facK_all]
  have:=facK_len a b 2
  omega
 ·rw [←facK_all] at he
  unfold facK zE0 restsL at he
  rcases List.mem_append.1 he with he|he
  ·split at he
   ·cases he
   ·rw [List.mem_singleton.1 he]
    exact ⟨by show (a.take _).length≤_;rw [rV];omega,fun st h=>h3 st (tv h)⟩
  ·simp only [dV,c9,aJ,aI,List.flatten_cons,List.flatten_nil,bM] at he
   rcases List.mem_append.1 he with he|he
   ·exact ha _ e he
   ·exact hb _ e he
theorem normalizeFactor_sat (s:aq) (a b:List aG) (hs:s.Fits) (h1:a.length≤140737488355328) (h2:b.length≤140737488355328) (h3:∀st∈a,st.Fits) (h4:∀st∈b,st.Fits) :
  Sat Tryz.prog 8 [.agg (aC s),.one (qv a),.one (qv b)] (.v (oB true)):=by
 have c0:=Us
 have c1:=factor_sat s a b hs h1 h2 h3 h4
 have s1:=J3 s a hs h1 h3
 have s2:=J3 s b hs h2 h4
 have bad:∀e,e≠0→facG s a b=.error e→Sat Tryz.prog 8 [.agg (aC s),.one (qv a),.one (qv b)] (.v (oB true)):=fun e he hg=>by
  rw [hg] at c1
  unfold grO rE at c1
  simp only at c1
  unfold qv at c1 ⊢
  refine ZE Tryz.func8 Tryz.ntmps8 fun w0 m0 F0=>?_
  refine ZW (Z4 @GK.eq_1 @Ir.eq_1 @zGr.eq_1 @he) (Z2 (c0) (c1)) ?_
  exact ZQ (Z1 Tryz.results8)
 cases ha:sC s a with
 | error e=>exact bad e (Ht ha) (by unfold facG;rw [ha])
 | ok x =>
  cases hb:sC s b with
  | error e=>exact bad e (Ht hb) (by unfold facG;rw [ha,hb])
  | ok y =>
   obtain ⟨O,hO,l4,mx,my⟩:=adl ha hb
   have sp:facG s a b=.ok ⟨s,LA a b⟩:=by unfold facG;rw [ha,hb]
   rw [sp] at c1
   rw [ha] at s1
   rw [hb] at s2
   have c2:=adk ⟨s,LA a b⟩ (facE_fits hs h1 h2 h3 h4)
   rw [hO] at c2
   obtain ⟨_,_,zO,_⟩:=X' hO
   have c3:=has_sat O x (by omega) (fun t ht=>(yY (zO t ht)).fits) (yY (zO x mx)).fits mx
   have c4:=has_sat O y (by omega) (fun t ht=>(yY (zO t ht)).fits) (yY (zO y my)).fits my
   have l4':(O.length:Int)≤4:=by omega
   unfold grO rE at c1
   unfold xN rE at c2
   unfold sZ rE at s1 s2
   simp only at c1 c2 s1 s2
   unfold qv at c1 s1 s2 ⊢
   unfold v7 at c2 c3 c4
   refine ZE Tryz.func8 Tryz.ntmps8 fun w0 m0 F0=>?_
   refine ZV (Z1 @GK.eq_1) (Z5 (c0) (c1) (c2) (s1) (s2)) (Z1 (Zs 9)) Z0 ?_
   refine ab.rN [9,11,13] [] ?_
   refine ZS Z0 ?_
   refine ZW (Z1 @l4') (Z2 (c3) (c4)) ?_
   exact ZQ (Z1 Tryz.results8)
end Go.Bw
