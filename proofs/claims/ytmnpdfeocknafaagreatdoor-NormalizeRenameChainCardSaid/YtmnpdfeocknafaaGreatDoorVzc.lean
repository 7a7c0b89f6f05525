/- Proved: contracts of functions of this translation, for every state, and what they rest on; bounds stand ahead. -/
import Derived.Test.YtmnpdfeocknafaaGreatDoorVx
import Derived.Test.YtmnpdfeocknafaaGreatDoorVza
set_option maxHeartbeats 64000000
set_option linter.unusedSimpArgs false
set_option linter.unusedVariables false
namespace Go.Bw
theorem Xk {s u:aq} {b:aG} (h:dU s b=.ok u):b=uz b:=by
 obtain ⟨_,h2,_,_⟩:=uj h
 unfold s5 at h2
 split at h2
 ·cases h2
 ·rename_i q
  exact vu fun e=>q (.inr (.inr e))
def B8 (a b:aG):Bool :=
 if a.kind=1 then b.kind==2&&aw a.table b.table&&aw a.dm b.dm&&decide (a.value=b.value)
 else if a.kind=10 then b.kind==11&&aw a.pZ.name b.table
 else if a.kind=3 then b.kind==3&&aw a.table b.table&&aw a.dm b.cW&&aw a.cW b.dm
 else if a.kind=4 then b.kind==4&&aw a.table b.cW&&aw a.cW b.table
 else false
def E0 (a b:aG):aG:={rQ with kind:=a.kind,table:=a.table,dm:=a.dm,cW:=b.cW}
def GY (a b:aG):aG:={rQ with kind:=a.kind,table:=a.table,cW:=b.cW}
def combine (a b:aG):Option aG :=
 if a.kind≠b.kind then none
 else if a.kind=3∧a.table=b.table∧a.cW=b.dm∧a.dm≠b.cW then some (E0 a b)
 else if a.kind=4∧a.cW=b.table∧a.table≠b.cW then some (GY a b)
 else none
theorem Gz {x y:aq} (h:(Except.ok x:sY)=.ok y):x=y:=by injection h
theorem Xl {s t u:aq} {a b:aG} (h:B8 a b=true) (ha:dU s a=.ok t) (hb:dU t b=.ok u):u=s:=by
 have nb:=Xk hb
 unfold B8 at h
 split at h
 ·rename_i k
  simp only [qa,uP,uv] at h
  obtain ⟨⟨⟨k2,e1⟩,e2⟩,e3⟩:=h
  have e:b=Ee a:=by
   rw [nb]
   unfold uz Ee
   rw [if_neg (by omega),if_pos k2,k2,qo.1 e1,qo.1 e2,e3]
  rw [e] at hb
  exact Gz (hb.symm.trans (W8 ha k))
 split at h
 ·rename_i k
  simp only [qa,uP] at h
  obtain ⟨k2,e1⟩:=h
  have e:b=Ed a:=by
   rw [nb]
   unfold uz Ed
   rw [if_neg (by omega),if_neg (by omega),if_neg (by omega),if_neg (by omega),if_neg (by omega),if_neg (by omega),if_neg (by omega),if_neg (by omega),if_neg (by omega),if_neg (by omega),if_neg (by omega),if_neg (by omega),if_neg (by omega),k2,qo.1 e1]
  rw [e] at hb
  exact Gz (hb.symm.trans (W6 ha k))
 split at h
 ·rename_i k
  simp only [qa,uP] at h
  obtain ⟨⟨⟨k2,e1⟩,e2⟩,e3⟩:=h
  have e:b=Eg a:=by
   rw [nb]
   unfold uz Eg
   rw [if_neg (by omega),if_neg (by omega),if_pos k2,k2,k,qo.1 e1,qo.1 e2,qo.1 e3]
  rw [e] at hb
  exact Gz (hb.symm.trans (W9 ha k))
 split at h
 ·rename_i k
  simp only [qa,uP] at h
  obtain ⟨⟨k2,e1⟩,e2⟩:=h
  have e:b=Eh a:=by
   rw [nb]
   unfold uz Eh
   rw [if_neg (by omega),if_neg (by omega),if_neg (by omega),if_pos k2,k2,k,qo.1 e1,qo.1 e2]
  rw [e] at hb
  exact Gz (hb.symm.trans (Xa ha k))
 ·cases h
theorem ON {s t:aq} {st:aG} (h:dU s st=.ok t) (hk:st.kind=3) :
  ∃i k,∃hi:i<s.tables.length,∃hkl:k<s.tables[i].ae.length,aY s.tables st.table=(i:Int)∧pP s.tables[i].ae st.dm=(k:Int)∧s.tables[i].ae[k].name=st.dm∧(∀x∈s.tables[i].ae,x.name≠st.cW) ∧
   t=fh s i (qi s.tables[i] k {s.tables[i].ae[k] with name:=st.cW}):=by
 obtain ⟨h1,_,h3,h4⟩:=uj h
 unfold dD at h3
 rw [if_neg (by omega),if_neg (by omega),if_neg (by omega),if_neg (by omega),if_neg (by omega)] at h3
 simp only at h3
 split at h3
 ·cases h3
 rename_i hk0
 rw [if_neg (by omega),if_neg (by omega),if_neg (by omega),if_neg (by omega),if_neg (by omega),if_neg (by omega),if_neg (by omega),if_neg (by omega)] at h3
 obtain ⟨i,hi,ei,ni⟩:=vd hk0
 rw [ei,bG] at h3
 unfold rF at h3
 simp only at h3
 rw [yz hi] at h3
 split at h3
 ·cases h3
 rename_i hc0
 try rw [if_pos hk] at h3
 split at h3
 ·cases h3
 rename_i hn0
 injection h3 with h3
 obtain ⟨k,hkl,ek,nk⟩:=OE hc0
 rw [ek,bG,bE _ hkl] at h3
 exact ⟨i,k,hi,hkl,ei,ek,nk,Gt.1 hn0,h3.symm⟩
theorem Xm {s t:aq} {tb x y:ByteArray} {i k:Nat} (hs:dC s=0) (ht:dC t=0) (hi:i<s.tables.length) (hkl:k<s.tables[i].ae.length) (ei:aY s.tables tb=(i:Int)) (ek:pP s.tables[i].ae x=(k:Int)) (hn:∀c∈s.tables[i].ae,c.name≠y)
  (e:t=fh s i (qi s.tables[i] k {s.tables[i].ae[k] with name:=y})):dU s {rQ with kind:=3,table:=tb,dm:=x,cW:=y}=.ok t:=by
 refine BO hs (by simp [s5,uz]) ?_ ht
 have h0:¬ 0≤pP s.tables[i].ae y:=Gt.2 hn
 unfold dD rF
 simp only [ei,bG,yz hi,ek,bE _ hkl]
 simp
 rw [if_neg (by omega),if_neg (by omega),if_neg (by omega),e]
theorem Xn {s t u:aq} {a b:aG} (ha:dU s a=.ok t) (hb:dU t b=.ok u) (k1:a.kind=3) (k2:b.kind=3) (e1:a.table=b.table) (e2:a.cW=b.dm) (ne:a.dm≠b.cW):dU s (E0 a b)=.ok u:=by
 obtain ⟨h1,_,_,h4⟩:=uj ha
 obtain ⟨i,k,hi,hkl,ei,ek,nk,hn,et⟩:=ON ha k1
 obtain ⟨i',k',hi',hkl',ei',ek',nk',hn',eu⟩:=ON hb k2
 have hi2:i<t.tables.length:=by rw [et];unfold fh;simpa using hi
 have tt:t.tables=s.tables.set i (qi s.tables[i] k {s.tables[i].ae[k] with name:=a.cW}):=by rw [et];rfl
 have ti:t.tables[i]=qi s.tables[i] k {s.tables[i].ae[k] with name:=a.cW}:=by simp [tt]
 have eii:i'=i:=by
  have:aY t.tables a.table=(i:Int):=by
   rw [et]
   exact (HF (t:=qi s.tables[i] k {s.tables[i].ae[k] with name:=a.cW}) hi rfl _).trans ei
  rw [←e1,this] at ei'
  omega
 subst eii
 have hl2:k<t.tables[i'].ae.length:=by rw [ti];unfold qi;simpa using hkl
 have ok2:=(wJ h4).vc _ (bl hi2)
 have g1:t.tables[i'].ae[k].name=b.dm:=by
  have:t.tables[i'].ae[k]={s.tables[i'].ae[k] with name:=a.cW}:=by
   simp only [ti]
   unfold qi
   simp
  rw [this,←e2]
 have ekk:k'=k:=by
  have:=Ef ok2 hl2
  rw [g1,ek'] at this
  omega
 subst ekk
 have gc:t.tables[i'].ae[k']={s.tables[i'].ae[k'] with name:=a.cW}:=by
  simp only [ti]
  unfold qi
  simp
 have hfin:u=fh s i' (qi s.tables[i'] k' {s.tables[i'].ae[k'] with name:=b.cW}):=by
  rw [eu,gc,ti,et,Ju]
  unfold qi
  simp only [vP]
 unfold E0
 rw [k1]
 refine Xm h1 (BU hb) hi hkl ei ek (fun c hc=>?_) hfin
 obtain ⟨j,hj,rfl⟩:=List.mem_iff_getElem.1 hc
 by_cases hjk:k'=j
 ·subst hjk
  rw [nk]
  exact ne
 ·have hj2:j<t.tables[i'].ae.length:=by rw [ti];unfold qi;simpa using hj
  have:t.tables[i'].ae[j]=s.tables[i'].ae[j]:=by
   simp only [ti]
   unfold qi
   simp only
   rw [Pe hjk]
  rw [←this]
  exact hn' _ (bl hj2)
theorem OO {s t:aq} {st:aG} (h:dU s st=.ok t) (hk:st.kind=4):∃i,∃hi:i<s.tables.length,aY s.tables st.table=(i:Int)∧s.tables[i].name=st.table∧(∀x∈s.tables,x.name≠st.cW) ∧
  t=⟨(tq {s with tables:=s.tables.take i++s.tables.drop (i+1)} {s.tables[i] with name:=st.cW}).tables,s.ak.map fun f=>{f with table:=c7 st.table st.cW f.table,ref:=c7 st.table st.cW f.ref},s.cons.map fun c=>{c with table:=c7 st.table st.cW c.table}⟩:=by
 obtain ⟨h1,_,h3,h4⟩:=uj h
 unfold dD at h3
 rw [if_neg (by omega),if_neg (by omega),if_neg (by omega),if_neg (by omega),if_neg (by omega)] at h3
 simp only at h3
 split at h3
 ·cases h3
 rename_i hk0
 try rw [if_pos hk] at h3
 obtain ⟨i,hi,ei,ni⟩:=vd hk0
 rw [ei,bG] at h3
 unfold tV at h3
 split at h3
 ·cases h3
 rename_i hn
 simp only at h3
 injection h3 with h3
 rw [yz hi,ni] at h3
 exact ⟨i,hi,ei,ni,Ad.1 hn,h3.symm⟩
theorem Xo {s t:aq} {x y:ByteArray} {i:Nat} (hs:dC s=0) (ht:dC t=0) (hi:i<s.tables.length) (ei:aY s.tables x=(i:Int)) (ni:s.tables[i].name=x) (hn:∀c∈s.tables,c.name≠y)
  (e:t=⟨(tq {s with tables:=s.tables.take i++s.tables.drop (i+1)} {s.tables[i] with name:=y}).tables,s.ak.map fun f=>{f with table:=c7 x y f.table,ref:=c7 x y f.ref},s.cons.map fun c=>{c with table:=c7 x y c.table}⟩):dU s {rQ with kind:=4,table:=x,cW:=y}=.ok t:=by
 refine BO hs (by simp [s5,uz]) ?_ ht
 have h0:¬ 0≤aY s.tables y:=Ad.2 hn
 unfold dD tV
 simp only [ei,bG,yz hi,ni]
 simp
 rw [if_neg (by omega),if_neg (by omega),e]
theorem JB {x y z n:ByteArray} (h:n≠y):c7 y z (c7 x y n)=c7 x z n:=by
 unfold c7
 by_cases e:n=x
 ·subst e
  rw [if_pos (xA _),if_pos (xA _),if_pos (xA _)]
 ·simp [uO e,uO h]
theorem Xp {s t u:aq} {a b:aG} (ha:dU s a=.ok t) (hb:dU t b=.ok u) (k1:a.kind=4) (k2:b.kind=4) (e1:a.cW=b.table) (ne:a.table≠b.cW):dU s (GY a b)=.ok u:=by
 obtain ⟨h1,_,_,h4⟩:=uj ha
 obtain ⟨i,hi,ei,ni,hn,et⟩:=OO ha k1
 obtain ⟨i',hi',ei',ni',hn',eu⟩:=OO hb k2
 have so:=wX h1
 have st4:=wX h4
 obtain ⟨T,hT⟩:∃T,s.tables[i]=T:=⟨_,rfl⟩
 rw [hT] at ni et
 have hsp:=Gv hi
 rw [hT] at hsp
 have hso:(s.tables.take i++T::s.tables.drop (i+1)).Pairwise qj:=hsp▸so
 have hbase:(s.tables.take i++s.tables.drop (i+1)).Pairwise qj:=by
  have hp:=List.pairwise_append.1 hso
  exact List.pairwise_append.2 ⟨hp.1,(List.pairwise_cons.1 hp.2.1).2,fun p hp1 q hq=>hp.2.2 p hp1 q (uW _ hq)⟩
 have hbm:∀x∈s.tables.take i++s.tables.drop (i+1),x∈s.tables:=fun x hx=>by
  obtain ⟨j,hj,hji,rfl⟩:=Gu hx
  exact bl hj
 obtain ⟨A,B,hAB,hp⟩:=place hbase {T with name:=a.cW} fun x hx=>hn x (hbm x hx)
 rw [Ec (s:={s with tables:=s.tables.take i++s.tables.drop (i+1)}) hAB hp] at et
 have tt:t.tables=A++{T with name:=a.cW}::B:=by rw [et]
 have tf:t.ak=s.ak.map fun f=>{f with table:=c7 a.table a.cW f.table,ref:=c7 a.table a.cW f.ref}:=by rw [et]
 have tc:t.cons=s.cons.map fun c=>{c with table:=c7 a.table a.cW c.table}:=by rw [et]
 have hl:A.length<t.tables.length:=by rw [tt];simp
 have gA:t.tables[A.length]={T with name:=a.cW}:=by simp [tt]
 have eii:i'=A.length:=by
  have:=xt st4 hl
  rw [gA] at this
  simp only at this
  rw [e1,ei'] at this
  omega
 subst eii
 have hcut:t.tables.take A.length++t.tables.drop (A.length+1)=s.tables.take i++s.tables.drop (i+1):=by
  rw [hAB,tt]
  simp
 have f1:t.ak.map (fun f:FK=>{f with table:=c7 b.table b.cW f.table,ref:=c7 b.table b.cW f.ref})=s.ak.map fun f=>{f with table:=c7 a.table b.cW f.table,ref:=c7 a.table b.cW f.ref}:=by
  rw [tf,wP]
  refine u6 fun f hf=>?_
  obtain ⟨⟨t1,m1,q1⟩,t2,m2,q2⟩:=HC h1 hf
  simp only [Function.comp,←e1,JB (q1▸hn t1 m1),JB (q2▸hn t2 m2)]
 have f2:t.cons.map (fun c:dN=>{c with table:=c7 b.table b.cW c.table})=s.cons.map fun c=>{c with table:=c7 a.table b.cW c.table}:=by
  rw [tc,wP]
  refine u6 fun c hc=>?_
  obtain ⟨t1,m1,q1⟩:=HD h1 hc
  simp only [Function.comp,←e1,JB (q1▸hn t1 m1)]
 unfold GY
 rw [k1]
 refine Xo h1 (BU hb) hi ei (by rw [hT];exact ni) (fun c hc=>?_) ?_
 ·obtain ⟨j,hj,rfl⟩:=List.mem_iff_getElem.1 hc
  by_cases hji:j=i
  ·subst hji
   rw [hT,ni]
   exact ne
  ·have hm:s.tables[j]∈s.tables.take i++s.tables.drop (i+1):=by
    rcases cV j i with q|q
    ·exact AJ _ (List.mem_take_iff_getElem.2 ⟨j,by omega,rfl⟩)
    ·refine JM _ (List.mem_drop_iff_getElem.2 ⟨j - (i+1),by omega,?_⟩)
     congr 1
     omega
   rw [hAB] at hm
   refine hn' _ ?_
   rw [tt]
   rcases List.mem_append.1 hm with q|q
   ·exact AJ _ q
   ·exact JM _ (uW _ q)
 ·rw [eu,gA,f1,f2,hT]
  have e9:tq {t with tables:=t.tables.take A.length++t.tables.drop (A.length+1)} {T with name:=b.cW}={tq {s with tables:=s.tables.take i++s.tables.drop (i+1)} {T with name:=b.cW} with ak:=t.ak,cons:=t.cons}:=by
   rw [hcut]
   rfl
  rw [show ({({T with name:=a.cW}:au) with name:=b.cW}:au)={T with name:=b.cW} from rfl,e9]
theorem Xq {s t u:aq} {a b c:aG} (h:combine a b=some c) (ha:dU s a=.ok t) (hb:dU t b=.ok u):dU s c=.ok u:=by
 unfold combine at h
 split at h
 ·cases h
 rename_i k
 have k:a.kind=b.kind:=vu k
 split at h
 ·rename_i q
  injection h with h
  rw [←h]
  exact Xn ha hb q.1 (k▸q.1) q.2.1 q.2.2.1 q.2.2.2
 split at h
 ·rename_i q
  injection h with h
  rw [←h]
  exact Xp ha hb q.1 (k▸q.1) q.2.1 q.2.2
 ·cases h
def s4:List aG→Option (List aG)
 | a::b::r=>if B8 a b then some r else match combine a b with
  | some c=>some (c::r)
  | none=>(s4 (b::r)).map (a::·)
 | _=>none
theorem OP:∀{l l':List aG} {s u:aq},s4 l=some l'→sL s l=.ok u→sL s l'=.ok u∧l'.length<l.length
 | [],_,_,_,h,_=>by cases h
 | [_],_,_,_,h,_=>by cases h
 | a::b::r,l',s,u,h,hg=>by
  rw [sL] at hg
  cases ha:dU s a with
  | error e=>rw [ha] at hg;cases hg
  | ok t =>
   rw [ha] at hg
   have hg0:=hg
   simp only at hg
   rw [sL] at hg
   cases hb:dU t b with
   | error e=>rw [hb] at hg;cases hg
   | ok v =>
    rw [hb] at hg
    simp only at hg
    rw [s4] at h
    split at h
    ·rename_i q
     injection h with h
     subst h
     rw [Xl q ha hb] at hg
     exact ⟨hg,by simp;omega⟩
    split at h
    ·rename_i c hc
     injection h with h
     subst h
     refine ⟨?_,by simp⟩
     rw [sL,Xq hc ha hb]
     exact hg
    ·cases hr:s4 (b::r) with
     | none=>rw [hr] at h;cases h
     | some m =>
      rw [hr] at h
      simp only [dv,Option.some.injEq] at h
      subst h
      obtain ⟨q1,q2⟩:=OP hr hg0
      refine ⟨?_,by simp at q2 ⊢;omega⟩
      rw [sL,ha]
      exact q1
def uU:Nat→List aG→List aG
 | 0,l=>l
 | n+1,l=>match s4 l with
  | some m=>uU n m
  | none=>l
theorem OQ:∀{n:Nat} {l:List aG} {s u:aq},sL s l=.ok u→l.length≤n→sL s (uU n l)=.ok u∧(uU n l).length≤l.length∧s4 (uU n l)=none
 | 0,l,s,u,h,hn=>by
  have:l=[]:=Al (by omega)
  subst this
  exact ⟨h,br _,rfl⟩
 | n+1,l,s,u,h,hn=>by
  rw [uU]
  cases hr:s4 l with
  | none=>exact ⟨h,br _,hr⟩
  | some m =>
   obtain ⟨q1,q2⟩:=OP hr h
   obtain ⟨r1,r2,r3⟩:=OQ (n:=n) q1 (by omega)
   exact ⟨r1,by simp only;omega,r3⟩
theorem V5 {n:Nat} {l:List aG} (h:s4 l=none):uU n l=l:=by
 cases n with
 | zero=>rfl
 | succ n=>rw [uU,h]
theorem Uu {s u:aq} {l:List aG} (h:sC s l=.ok u):sC s (uU l.length l)=.ok u∧(uU l.length l).length≤l.length∧s4 (uU l.length l)=none:=by
 rw [Gy] at h ⊢
 split at h
 ·cases h
 rename_i h1
 split at h
 ·cases h
 rename_i h2
 obtain ⟨q1,q2,q3⟩:=OQ h (br _)
 rw [if_neg (by omega),if_neg h2]
 exact ⟨q1,q2,q3⟩
end Go.Bw
namespace Go.Bw
open Go.Proofs
theorem combine_sat (a b:aG):Sat Tryz.prog 96 [.agg (aj a),.agg (aj b)] (.cR [.agg (aj (Ld (combine a b))),oB (combine a b).isSome]):=by
 refine ZE Tryz.func96 Tryz.ntmps96 fun w0 m0 F0=>?_
 refine pK (Z1 @aj.eq_1) Z0 ?_;repeat' (first|apply Zb|apply Zn|(apply Zm;intro h))
 all_goals simp -dsimp (disch:=first|exact D|fail) only [aR,Tryz.results96,aQ,aS,aO,St.rest,St.freeze,RT,go_sem,↓reduceIte,seval]
 all_goals
  unfold combine
  simp only [abm,ne_eq]
  repeat' split
  all_goals first
   | (exfalso;omega)
   | (exfalso;simp_all;done)
   | (exfalso;simp_all;omega)
   | (simp_all [Ld,E0,GY,rQ,J',Ka,aj,bj,cS];done)
theorem KR (st:aG) (fwd:Bool) (a b:aq) (T0:au) (aU:cZ) (tn:ByteArray) (crows:List Row) (o nw:cZ) (err:Int) (j jb q:Nat) (hj:j<a.tables.length) (ej:aY a.tables st.table=(j:Int)) (hji:j<aU.length) (h1:a.tables.length≤1048576) (h2:a.tables[j].ae.length≤1048576∧a.tables[j].pk.length≤1048576)
  (h3:aU[j].rows.length≤1048576) (h4:∀x∈aU[j].rows,x.length=q) (hq:q≤1048576) (hjb:jb<b.tables.length) (ejb:aY b.tables st.table=(jb:Int)) (hb:b.tables.length≤1048576) (hbc:b.tables[jb].ae.length≤1048576) (eq:sI (pP b.tables[jb].ae st.dm)=(q:Int))
  (hp:T0.pk.length≤1048576) (hcr:crows.length≤1048576) (hw:∀r∈crows,T0.pk.length<r.length∧r.length≤1048576) (ho:o.length≤1048576) (hn:nw.length≤1048576) :
  db Tryz.prog 108 [.one (.ptr 1000 0)] [(1000,mB st fwd a b ⟨[T0],[],[]⟩ aU [⟨tn,crows⟩] o.length nw.length err)] [(1001,⟨2,o.map aH,[]⟩),(1002,⟨2,nw.map aH,[]⟩)]
   (.cR []) [(1000,mB st fwd a b ⟨[T0],[],[]⟩ aU [⟨tn,crows⟩] o.length nw.length err)] [(1001,⟨2,(qu o st.table (vN T0 crows a.tables[j] st.value aU[j].rows)).map aH,[]⟩),(1002,⟨2,(qu nw st.table (tQ T0 crows a.tables[j] st.value aU[j].rows)).map aH,[]⟩)]:=by
 have ip:=GU st fwd a b ⟨[T0],[],[]⟩ aU [⟨tn,crows⟩] (o.map aH) (nw.map aH) err st.table j hj ej hji h1 h2 ⟨h3,fun x hx=>by rw [h4 x hx];exact hq⟩
 have op:=VF st fwd a b ⟨[T0],[],[]⟩ aU [⟨tn,crows⟩] (o.map aH) (nw.map aH) err st.table jb hjb ejb hb
 rw [bw,bw] at ip op
 obtain ⟨t,ht⟩:∃t,a.tables[j]=t:=⟨_,rfl⟩
 obtain ⟨tb,htb⟩:∃tb,b.tables[jb]=tb:=⟨_,rfl⟩
 obtain ⟨rl,hr⟩:∃rl,aU[j]=rl:=⟨_,rfl⟩
 rw [ht] at h2 ip ⊢
 rw [htb] at op eq hbc
 rw [hr] at h3 h4 ip ⊢
 have fc:=zb tb st.dm (by omega)
 rw [eq] at fc
 obtain ⟨fb,hfb⟩:∃fb,decide (0≤pP tb.ae st.dm)=fb:=⟨_,rfl⟩
 rw [hfb] at fc
 obtain ⟨rows,hrows⟩:∃rows,rl.rows=rows:=⟨_,rfl⟩
 rw [hrows] at h3 h4 ip ⊢
 have s1:=EY st fwd a b ⟨[T0],[],[]⟩ aU [⟨tn,crows⟩] o nw err st.table (vN T0 crows t st.value rows) ho
 have s2:=GS st fwd a b ⟨[T0],[],[]⟩ aU [⟨tn,crows⟩] (qu o st.table (vN T0 crows t st.value rows)) nw err st.table (tQ T0 crows t st.value rows) hn
 have lsr:(qu o st.table (vN T0 crows t st.value rows)).length=o.length:=bw ..
 rw [lsr] at s2
 rw [pJ,cM,cM,cM] at ip op s1 s2 ⊢
 unfold aj at ip op s1 s2 ⊢
 simp only [aW,aZ,dq,aJ,aI,aH,bm] at ip op s1 s2 fc ⊢
 refine sM ah [1000] [1001,1002] Tryz.func108 fun w0 m0 F0=>?_
 simp only [Tryz.ntmps108,bK,Nat.reduceAdd]
 repeat' (first|((first|((fail_if_success (refine ab.bC 2 ?_));(with_reducible refine qV ah fun K hK=>?_))|(refine ab.bC 0 ?_;refine dX ah mixed [(0,10)] [(10,[(11,1)],[(0,10)]),(12,[],[])] [10,12] 8 fun K hK=>?_;simp only [SG,bb] at hK ⊢)|((with_reducible refine ai.is ?_);refine ai.io [(1000,1000)] [(1001,1001),(1002,1002)] [(1000,1000)] [(1001,1001),(1002,1002),(5,29)] [] [29] [1000,1000] [1001,1002,1001,1002,29] (ip) rfl ⟨rfl,rfl,rfl,rfl⟩ ?_ ?_ ?_)|(with_reducible first|refine an.some fun K hK=>?_|refine an.step fun K hK=>?_))<;>simp -dsimp (disch:=first|exact D|fail) only [go_sem,↓reduceIte,seval,dz,si,av,bh,bt,bu])|((with_reducible refine hK _ ?_);clear hK K)|(with_reducible refine an.intro fun K0 hK0=>?_)|((with_reducible refine an.fin ?_);(refine hK0 _ ?_);clear hK0 K0)|(with_reducible first|refine an.quiet ?_|refine an.none ?_)|((with_reducible refine an.keep ?_ ?_);focus ((simp -dsimp (disch:=first|exact D|fail) only [go_sem,↓reduceIte,seval,gE,gD,gF,gG,dz,si,av,bh,bt,bu]);first|done|exact E|fail))|refine Q1 ?_|fail)
 repeat' (first|((first|((fail_if_success (refine ab.bC 5 ?_));(with_reducible refine qV ah fun K hK=>?_))|(refine ab.bC 2 ?_;refine dX ah mixed [(0,2),(3,5)] [(2,[],[(3,5)]),(8,[(9,5)],[])] [2,8] 8 fun K hK=>?_;simp only [SG,bb] at hK ⊢)|((with_reducible refine ai.is ?_);refine ai.io [(1000,1000)] [(1001,1001),(1002,1002)] [(1000,1000)] [(1001,1001),(1002,1002)] [] [] [1000,1000] [1001,1002,1001,1002] (op) rfl ⟨rfl,rfl,rfl,rfl⟩ ?_ ?_ ?_)|((with_reducible refine ai.is ?_);(refine ai.pure (fc) ?_))|(with_reducible first|refine an.some fun K hK=>?_|refine an.step fun K hK=>?_))<;>simp -dsimp (disch:=first|exact D|fail) only [go_sem,↓reduceIte,seval,dz,si,av,bh,bt,bu])|((with_reducible refine hK _ ?_);clear hK K)|(with_reducible refine an.intro fun K0 hK0=>?_)|((with_reducible refine an.fin ?_);(refine hK0 _ ?_);clear hK0 K0)|(with_reducible first|refine an.quiet ?_|refine an.none ?_)|((with_reducible refine an.keep ?_ ?_);focus ((simp -dsimp (disch:=first|exact D|fail) only [go_sem,↓reduceIte,seval,gE,gD,gF,gG,dz,si,av,bh,bt,bu]);first|done|exact E|fail))|refine Q1 ?_|fail)
 have lX0:(uY rows 0)=rows.map xm:=by unfold uY;simp
 refine ab.loop (ι:={k:Nat // k≤rows.length}) (fun k=>⟨91,[(0,.v (.one (.ptr 1000 0))),(2,.v (oS st.table)),(3,.v (.one (.ptr 3 0))),(4,.v (.one (.ptr 4 0))),(6,.v (oI q)),(8,.v (.one (.ref 8 0 (vN T0 crows t st.value (rows.take k.1)).length))),(9,.v (.one (.ref 9 0 (tQ T0 crows t st.value (rows.take k.1)).length))),(44,.v (.one (.ref 5 0 rows.length))),(45,.v (oI rows.length)),(46,.v (oI k.1))],[(1000,mB st fwd a b ⟨[T0],[],[]⟩ aU [⟨tn,crows⟩] o.length nw.length err),(3,bd st.value),(4,ap t)],[(1001,⟨2,o.map aH,[]⟩),(1002,⟨2,nw.map aH,[]⟩),(5,⟨1,uY rows k.1,[]⟩),(8,⟨1,(vN T0 crows t st.value (rows.take k.1)).map cU,[]⟩),(9,⟨1,(tQ T0 crows t st.value (rows.take k.1)).map cU,[]⟩)]⟩) (fun k=>rows.length - k.1) ⟨0,bg _⟩ ?_ fun ⟨k,hk⟩=>?_
 ·refine St.bN ?_ ?_ ?_<;>simp only [LE,EN,Nat.reduceEqDiff,reduceIte,Nat.reduceSub,pJ,cM,dq,aj,aH,bm,aJ,aI,aW,aZ,vN,tQ,c9,aI,dO,bI,lX0,s9]
 simp only at hk ⊢
 have lX:=PB rows k hk
 rcases cV k rows.length with hc|hc
 ·have q2:=h4 _ (bl hc)
  have cX:=PC rows k hc
  have nX:=PD rows k hc
  obtain ⟨x,hx⟩:∃x,rows[k]=x:=⟨_,rfl⟩
  have gX:=PE rows k hc
  rw [hx] at q2 cX gX
  refine ab.rD 5 k 0 2000 rfl cX rfl (by decide) (by decide) ?_
  simp -dsimp (disch:=first|exact D|fail) only [go_sem,↓reduceIte,seval,rP,pJ,cM,dq,aj,aH,bm,aJ,aI,aW,aZ]
  repeat' (first|((((fail_if_success (refine ab.bC 7 ?_));(with_reducible refine qV ah fun K hK=>?_)))<;>simp -dsimp (disch:=first|exact D|fail) only [go_sem,↓reduceIte,seval,lX,gX,av])|((with_reducible refine hK _ ?_);clear hK K)|refine Q1 ?_|((with_reducible refine qW (T:=TT) (b:=?_) ?_ ?_);rotate_left;exact rfl)|fail)
  refine ab.GG 5 k 0 rfl (by rw [lX];exact hc) ?_
  simp -dsimp (disch:=first|exact D|fail) only [go_sem,↓reduceIte,seval,rv,ru,nX]
  have lk:(rows.take k).length=k:=by simp;omega
  have lO:=IW T0 crows t st.value (rows.take k)
  have lC:=VJ T0 crows t st.value (rows.take k)
  have nO:=VG T0 crows t st.value rows k hc
  rw [hx] at nO
  obtain ⟨y,hy⟩:∃y,zR T0 crows t st.value x=y:=⟨_,rfl⟩
  rw [hy] at nO
  have hv2:=hy
  have eb:=Hq y st.value
  have iv:=QA x y (by omega)
  rw [q2,show bd y=[.int .i64 y.kind,.int .i64 y.int,.str y.text] from rfl] at iv
  have lxy:(x++[y]).length=q+1:=by simp [q2]
  have ky:=NG t x (by omega) (by omega)
  rw [dq] at ky
  have lK:=vD t.pk x
  obtain ⟨key,hkey⟩:∃key,keyOf t.pk x=key:=⟨_,rfl⟩
  have lu:=J7 st fwd a b T0 aU tn crows (o.map aH) (nw.map aH) err key (by rw [←hkey,lK];omega) hp hcr (fun r hr=>by have:=hw r hr;omega)
  rw [bw,bw] at lu
  rw [pJ,cM,cM,cM] at lu
  unfold aj at lu
  simp only [aW,aZ,dq,aJ,aI,aH,bm] at lu
  unfold zR at hy
  rw [hkey] at hy lK ky
  rw [←lK] at ky
  refine ab.we ⟨91,[(0,.v (.one (.ptr 1000 0))),(2,.v (oS st.table)),(3,.v (.one (.ptr 3 0))),(4,.v (.one (.ptr 4 0))),(6,.v (oI q)),(8,.v (.one (.ref 8 0 k))),(9,.v (.one (.ref 9 0 (tQ T0 crows t st.value (rows.take k)).length))),(11,.v (.one (.ref 11 0 x.length))),(12,.v (.one (.ref 52 0 key.length))),(13,.v (.one (.ptr 13 0))),(44,.v (.one (.ref 5 0 rows.length))),(45,.v (oI rows.length)),(46,.v (oI k))],[(1000,mB st fwd a b ⟨[T0],[],[]⟩ aU [⟨tn,crows⟩] o.length nw.length err),(3,bd st.value),(13,bd st.value),(4,ap t)],[(1001,⟨2,o.map aH,[]⟩),(1002,⟨2,nw.map aH,[]⟩),(5,⟨1,uY rows (k+1),[]⟩),(11,⟨3,x.map bd,[]⟩),(52,⟨3,key.map bd,[]⟩),(8,⟨1,(vN T0 crows t st.value (rows.take k)).map cU,[]⟩),(9,⟨1,(tQ T0 crows t st.value (rows.take k)).map cU,[]⟩)]⟩ ?_ ?_
  ·refine dY ah mixed [(0,2),(3,1)] (.cons 2 [] [(3,1)] (.cons 4 [(5,1)] [(3,1)] (.cons 6 [] [] .leaf .none) .none) (.cons 4 [] [(0,2),(3,1)] (.cons 2 [(5,1)] [(3,1)] (.cons 6 [] [] .leaf .none) .none) .none)) [2,4,6] 8 fun K hK=>?_
   simp only [vT,vU,vV,bb,eo,dA,dV,c9,c8,dr,aW,aZ,bM] at hK ⊢
   simp -dsimp (disch:=first|exact D|fail) only [go_sem,↓reduceIte,seval,av]
   repeat' (first|((first|((with_reducible refine ai.is ?_);refine ai.io [] [(1000,11)] [] [(1000,11),(4,52)] [] [52] [] [11,11,52] (ky) rfl ⟨rfl,rfl,rfl,rfl⟩ ?_ ?_ ?_)|(with_reducible first|refine c6.some fun K hK=>?_|refine c6.step fun K hK=>?_))<;>simp -dsimp (disch:=first|exact D|fail) only [go_sem,↓reduceIte,seval,lO,lk,av,bh,bt,bu])|((with_reducible refine hK _ ?_);clear hK K)|(with_reducible refine c6.intro fun K0 hK0=>?_)|((with_reducible refine c6.fin ?_);(refine hK0 _ ?_);clear hK0 K0)|(with_reducible first|refine an.quiet ?_|refine c6.none ?_)|((with_reducible refine an.keep ?_ ?_);focus ((simp -dsimp (disch:=first|exact D|fail) only [go_sem,↓reduceIte,seval,gE,gD,gF,gG,lO,lk,av,bh,bt,bu]);first|done|exact E|fail))|((with_reducible refine c6.fork (fun K hK=>?_) ?_);(focus (simp -dsimp (disch:=first|exact D|fail) only [go_sem,↓reduceIte,seval,lO,lk,av,bh,bt,bu])))|fail)
   all_goals refine Gq.done ⟨rfl,?_⟩
   all_goals refine St.bN ?_ ?_ ?_<;>simp only [LE,EN,Nat.reduceEqDiff,reduceIte,Nat.reduceSub,pJ,cM,dq,aj,aH,bm,aJ,aI,aW,aZ,lO,lk]
  simp -dsimp (disch:=first|exact D|fail) only [go_sem,↓reduceIte,seval,pJ,cM,dq,aj,aH,bm,aJ,aI,aW,aZ]
  refine qA ?_
  refine ab.we ⟨91,[(0,.v (.one (.ptr 1000 0))),(2,.v (oS st.table)),(3,.v (.one (.ptr 3 0))),(4,.v (.one (.ptr 4 0))),(6,.v (oI q)),(8,.v (.one (.ref 8 0 k))),(9,.v (.one (.ref 9 0 (tQ T0 crows t st.value (rows.take k)).length))),(11,.v (.one (.ref 11 0 x.length))),(12,.v (.one (.ref 52 0 key.length))),(13,.v (.one (.ptr 13 0))),(44,.v (.one (.ref 5 0 rows.length))),(45,.v (oI rows.length)),(46,.v (oI k))],[(1000,mB st fwd a b ⟨[T0],[],[]⟩ aU [⟨tn,crows⟩] o.length nw.length err),(3,bd st.value),(13,bd y),(4,ap t)],[(1001,⟨2,o.map aH,[]⟩),(1002,⟨2,nw.map aH,[]⟩),(5,⟨1,uY rows (k+1),[]⟩),(11,⟨3,x.map bd,[]⟩),(52,⟨3,key.map bd,[]⟩),(8,⟨1,(vN T0 crows t st.value (rows.take k)).map cU,[]⟩),(9,⟨1,(tQ T0 crows t st.value (rows.take k)).map cU,[]⟩)]⟩ ?_ ?_
  ·cases hf:te T0 crows key with
   | false =>
    have lr:wK T0 crows key=[]:=by unfold wK;rw [hf];rfl
    rw [hf,if_neg (by simp)] at hy
    subst hy
    rw [hf,lr] at lu
    unfold cT at lu
    simp only [aI] at lu
    repeat' (first|((first|with_reducible refine qV ah fun K hK=>?_|((with_reducible refine ai.is ?_);refine ai.io [(1000,1000)] [(1001,1001),(1002,1002),(1003,52)] [(1000,1000)] [(1001,1001),(1002,1002),(1003,52)] [] [] [1000,1000] [1001,1002,52,1001,1002,52] (lu) rfl ⟨rfl,rfl,rfl,rfl⟩ ?_ ?_ ?_))<;>simp -dsimp (disch:=first|exact D|fail) only [go_sem,↓reduceIte,seval,dz,si,av,bh,bt,bu])|((with_reducible refine hK _ ?_);clear hK K)|refine Q1 ?_|((with_reducible refine qW (T:=TT) (b:=?_) ?_ ?_);rotate_left;exact rfl)|fail)
    refine Gq.done ⟨rfl,?_⟩
    refine St.bN ?_ ?_ ?_<;>simp only [LE,EN,Nat.reduceEqDiff,reduceIte,Nat.reduceSub,pJ,cM,dq,aj,aH,bm,aJ,aI,aW,aZ]
   | true =>
    obtain ⟨y2,l2,e2⟩:=PG (key:=key) (fun r hr=>(hw r hr).1) hf
    rw [if_pos hf,e2] at hy
    have hy:y2=y:=hy
    subst hy
    rw [hf,e2] at lu
    unfold cT at lu
    simp only [aJ] at lu
    repeat' (first|((first|with_reducible refine qV ah fun K hK=>?_|((with_reducible refine ai.is ?_);refine ai.io [(1000,1000)] [(1001,1001),(1002,1002),(1003,52)] [(1000,1000)] [(1001,1001),(1002,1002),(1003,52)] [] [] [1000,1000] [1001,1002,52,1001,1002,52] (lu) rfl ⟨rfl,rfl,rfl,rfl⟩ ?_ ?_ ?_))<;>simp -dsimp (disch:=first|exact D|fail) only [go_sem,↓reduceIte,seval,dz,si,zn,av,bh,bt,bu])|((with_reducible refine hK _ ?_);clear hK K)|refine Q1 ?_|((with_reducible refine qW (T:=TT) (b:=?_) ?_ ?_);rotate_left;exact rfl)|fail)
    refine Gq.done ⟨rfl,?_⟩
    refine St.bN ?_ ?_ ?_<;>simp only [LE,EN,Nat.reduceEqDiff,reduceIte,Nat.reduceSub,pJ,cM,dq,aj,aH,bm,aJ,aI,aW,aZ]
  simp -dsimp (disch:=first|exact D|fail) only [go_sem,↓reduceIte,seval,pJ,cM,dq,aj,aH,bm,aJ,aI,aW,aZ]
  by_cases hv:y=st.value
  ·rw [sB hv] at eb
   have nC:=VI T0 crows t st.value rows k hc (by rw [hx,hv2];exact hv)
   repeat' (first|((((fail_if_success (refine ab.bC 14 ?_));(with_reducible refine qV ah fun K hK=>?_)))<;>simp -dsimp (disch:=first|exact D|fail) only [go_sem,↓reduceIte,seval,eb,lO,lk,q2,av])|((with_reducible refine hK _ ?_);clear hK K)|refine Q1 ?_|((with_reducible refine qW (T:=TT) (b:=?_) ?_ ?_);rotate_left;exact rfl)|fail)
   refine ai.io [] [(1000,11),(1001,78)] [] [(6,79)] [] [11,78,79] [] [11,78,79] iv rfl ⟨rfl,rfl,rfl,rfl⟩ ?_ (And.intro trivial (And.intro (And.intro rfl rfl) (And.intro (And.intro rfl rfl) trivial))) ?_
   ·simp -dsimp (disch:=first|exact D|fail) only [go_sem,↓reduceIte,seval]
   simp -dsimp (disch:=first|exact D|fail) only [go_sem,↓reduceIte,seval,lO,lk,q2,av,bh,bt,bu]
   refine ⟨⟨by omega,by omega⟩,hK _ ?_⟩
   clear hK K
   repeat' (first|refine Q1 ?_|fail)
   refine ab.close 8 k 0 79 rfl rfl (by decide) (by simp [aP];omega) (by simp;omega) (by show 0<1;decide) rfl ?_
   simp -dsimp (disch:=first|exact D|fail) only [go_sem,↓reduceIte,seval,rG,rv,ru]
   rw [ze cU _ k (by omega)]
   refine ab.eM 8 rfl ?_
   simp -dsimp (disch:=first|exact D|fail) only [go_sem,↓reduceIte,seval,fG,eW,fH,tP,CX]
   rw [←nO]
   repeat' (first|((with_reducible refine qV ah fun K hK=>?_)<;>simp -dsimp (disch:=first|exact D|fail) only [go_sem,↓reduceIte,seval])|((with_reducible refine hK _ ?_);clear hK K)|refine Q1 ?_|fail)
   refine ⟨⟨k+1,by omega⟩,by simp only;omega,?_⟩
   have lO2:=IW T0 crows t st.value (rows.take (k+1))
   have lk2:(rows.take (k+1)).length=k+1:=by simp;omega
   refine St.bN ?_ ?_ ?_<;>simp only [LE,EN,Nat.reduceEqDiff,reduceIte,Nat.reduceSub,pJ,cM,dq,aj,aH,bm,aJ,aI,aW,aZ,nC,lO2,lk2,iy,pO]
  ·rw [yG hv] at eb
   have nC:=VH T0 crows t st.value rows k hc (by rw [hx,hv2];exact hv)
   simp only [hx,hkey,hv2] at nC
   have e9:key.map bd++[[L.int .i64 y.kind,L.int .i64 y.int,L.str y.text]]=(key++[y]).map bd:=by rw [dn];rfl
   obtain ⟨C0,hC0⟩:∃C0,tQ T0 crows t st.value (rows.take k)=C0:=⟨_,rfl⟩
   rw [hC0] at nC lC ⊢
   repeat' (first|((((fail_if_success (refine ab.bC 13 ?_));(with_reducible refine qV ah fun K hK=>?_)))<;>simp -dsimp (disch:=first|exact D|fail) only [go_sem,↓reduceIte,seval,eb,lO,lk,lK,av])|((with_reducible refine hK _ ?_);clear hK K)|refine Q1 ?_|((with_reducible refine qW (T:=TT) (b:=?_) ?_ ?_);rotate_left;exact rfl)|fail)
   refine ab.close 9 C0.length 0 71 rfl rfl (by decide) (by simp [aP];omega) (by simp) (by show 0<1;decide) rfl ?_
   simp -dsimp (disch:=first|exact D|fail) only [go_sem,↓reduceIte,seval,rG,rv,ru]
   rw [ze cU _ _ rfl]
   simp only [e9]
   refine ab.eM 9 rfl ?_
   simp -dsimp (disch:=first|exact D|fail) only [go_sem,↓reduceIte,seval,fG,eW,fH,tP,CX]
   rw [←nC]
   repeat' (first|((((fail_if_success (refine ab.bC 14 ?_));(with_reducible refine qV ah fun K hK=>?_)))<;>simp -dsimp (disch:=first|exact D|fail) only [go_sem,↓reduceIte,seval,eb,lO,lk,q2,av])|fail)
   refine ai.io [] [(1000,11),(1001,78)] [] [(6,79)] [] [11,78,79] [] [11,78,79] iv rfl ⟨rfl,rfl,rfl,rfl⟩ ?_ (And.intro trivial (And.intro (And.intro rfl rfl) (And.intro (And.intro rfl rfl) trivial))) ?_
   ·simp -dsimp (disch:=first|exact D|fail) only [go_sem,↓reduceIte,seval]
   simp -dsimp (disch:=first|exact D|fail) only [go_sem,↓reduceIte,seval,lO,lk,q2,av,bh,bt,bu]
   refine ⟨⟨by omega,by omega⟩,hK _ ?_⟩
   clear hK K
   repeat' (first|refine Q1 ?_|fail)
   refine ab.close 8 k 0 79 rfl rfl (by decide) (by simp [aP];omega) (by simp;omega) (by show 0<1;decide) rfl ?_
   simp -dsimp (disch:=first|exact D|fail) only [go_sem,↓reduceIte,seval,rG,rv,ru]
   rw [ze cU _ k (by omega)]
   refine ab.eM 8 rfl ?_
   simp -dsimp (disch:=first|exact D|fail) only [go_sem,↓reduceIte,seval,fG,eW,fH,tP,CX]
   rw [←nO]
   repeat' (first|((with_reducible refine qV ah fun K hK=>?_)<;>simp -dsimp (disch:=first|exact D|fail) only [go_sem,↓reduceIte,seval])|((with_reducible refine hK _ ?_);clear hK K)|refine Q1 ?_|fail)
   refine ⟨⟨k+1,by omega⟩,by simp only;omega,?_⟩
   have lO2:=IW T0 crows t st.value (rows.take (k+1))
   have lk2:(rows.take (k+1)).length=k+1:=by simp;omega
   have lC2:(tQ T0 crows t st.value (rows.take (k+1))).length=C0.length+1:=by rw [nC];simp
   refine St.bN ?_ ?_ ?_<;>simp only [LE,EN,Nat.reduceEqDiff,reduceIte,Nat.reduceSub,pJ,cM,dq,aj,aH,bm,aJ,aI,aW,aZ,lO2,lk2,lC2,iy,pO]
 ·have hk2:k=rows.length:=by omega
  subst hk2
  rw [dw]
  simp -dsimp (disch:=first|exact D|fail) only [go_sem,↓reduceIte,seval,pJ,cM,dq,aj,aH,bm,aJ,aI,aW,aZ]
  repeat' (first|((((fail_if_success (refine ab.bC 15 ?_));(with_reducible refine qV ah fun K hK=>?_)))<;>simp -dsimp (disch:=first|exact D|fail) only [go_sem,↓reduceIte,seval])|((with_reducible refine hK _ ?_);clear hK K)|refine Q1 ?_|((with_reducible refine qW (T:=TT) (b:=?_) ?_ ?_);rotate_left;exact rfl)|fail)
  refine ab.rN [1000] [1001,1002] ?_
  simp -dsimp (disch:=first|exact D|fail) only [go_sem,↓reduceIte,seval,RT,St.rest,St.freeze]
  repeat' (first|((first|((fail_if_success (refine ab.bC 16 ?_));(with_reducible refine qV ah fun K hK=>?_))|((with_reducible refine ai.is ?_);refine ai.io [(1000,1000)] [(1001,1001),(1002,1002)] [(1000,1000)] [(1001,1001),(1002,1002)] [] [] [1000,1000] [1001,1002,1001,1002] (s1) rfl ⟨rfl,rfl,rfl,rfl⟩ ?_ ?_ ?_))<;>simp -dsimp (disch:=first|exact D|fail) only [go_sem,↓reduceIte,seval,dz,si,av,bh,bt,bu])|((with_reducible refine hK _ ?_);clear hK K)|refine Q1 ?_|fail)
  repeat' (first|((first|with_reducible refine qV ah fun K hK=>?_|((with_reducible refine ai.is ?_);refine ai.io [(1000,1000)] [(1001,1001),(1002,1002)] [(1000,1000)] [(1001,1001),(1002,1002)] [] [] [1000,1000] [1001,1002,1001,1002] (s2) rfl ⟨rfl,rfl,rfl,rfl⟩ ?_ ?_ ?_))<;>simp -dsimp (disch:=first|exact D|fail) only [go_sem,↓reduceIte,seval,dz,si,av,bh,bt,bu])|((with_reducible refine hK _ ?_);clear hK K)|fail)
  simp -dsimp (disch:=first|exact D|fail) only [aR,Tryz.results108,aQ,aS,aO,St.rest,St.freeze,RT,go_sem,↓reduceIte,seval]
end Go.Bw
