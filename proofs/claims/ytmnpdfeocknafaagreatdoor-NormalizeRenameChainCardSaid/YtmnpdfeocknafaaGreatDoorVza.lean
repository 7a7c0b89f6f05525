/- Proved: contracts of functions of this translation, for every state, and what they rest on; bounds stand ahead. -/
import Derived.Test.YtmnpdfeocknafaaGreatDoorS1
import Derived.Lib.AppendIntMem
import Derived.Lib.ItoaLen
import Derived.Test.YtmnpdfeocknafaaGreatDoorS6
import Derived.Test.YtmnpdfeocknafaaGreatDoorVv
import Derived.Test.YtmnpdfeocknafaaGreatDoorVw
set_option maxHeartbeats 64000000
set_option linter.unusedSimpArgs false
set_option linter.unusedVariables false
namespace Go.Bw
open Go.Proofs
theorem Vg (st:aG) (h:st.Fits):Sat Tryz.prog 43 [.agg (aj st)] (.v (oI (s5 st))):=by
 have c1:=Vh st
 have c2:=KT st (uz st) h (Vf h)
 by_cases k1:st.kind<1
 ·have spec:s5 st=3:=by unfold s5;rw [if_pos (.inl k1)]
  rw [spec]
  obtain ⟨bx,hbx⟩:∃bx,aj st=.int .i64 st.kind::bx:=⟨_,rfl⟩
  rw [hbx]
  refine ZE Tryz.func43 Tryz.ntmps43 fun w0 m0 F0=>?_
  refine rj Z0 (Z2 (c1) (c2)) ?_;repeat' (first|apply Zb|apply Zn|(apply Zm;intro h))
  exact ZQ (Z1 Tryz.results43)
 by_cases k2:16<st.kind
 ·have spec:s5 st=3:=by unfold s5;rw [if_pos (.inr (.inl k2))]
  rw [spec]
  obtain ⟨bx,hbx⟩:∃bx,aj st=.int .i64 st.kind::bx:=⟨_,rfl⟩
  rw [hbx]
  refine ZE Tryz.func43 Tryz.ntmps43 fun w0 m0 F0=>?_
  refine rj Z0 (Z2 (c1) (c2)) ?_;repeat' (first|apply Zb|apply Zn|(apply Zm;intro h))
  exact ZQ (Z1 Tryz.results43)
 by_cases k3:st=uz st
 ·have spec:s5 st=0:=by unfold s5;rw [if_neg (by rintro (q|q|q);exact k1 q;exact k2 q;exact q k3)]
  rw [spec]
  rw [sB k3] at c2
  refine ZE Tryz.func43 Tryz.ntmps43 fun w0 m0 F0=>?_
  refine rj (Z1 @aj.eq_1) (Z2 (c1) (c2)) ?_;repeat' (first|apply Zb|apply Zn|(apply Zm;intro h))
  exact ZQ (Z1 Tryz.results43)
 ·have spec:s5 st=3:=by unfold s5;rw [if_pos (.inr (.inr k3))]
  rw [spec]
  rw [yG k3] at c2
  refine ZE Tryz.func43 Tryz.ntmps43 fun w0 m0 F0=>?_
  refine rj (Z1 @aj.eq_1) (Z2 (c1) (c2)) ?_;repeat' (first|apply Zb|apply Zn|(apply Zm;intro h))
  exact ZQ (Z1 Tryz.results43)
theorem EX {s:aq} {st:aG} {e:Int} (h:dU s st=.error e):e≠0:=by
 unfold dU at h
 split at h
 ·rename_i q;injection h with h;rw [←h];exact q
 split at h
 ·rename_i q;injection h with h;rw [←h];exact q
 split at h
 ·rename_i q;injection h with h;rw [←h];exact Nu q
 split at h
 ·rename_i q;injection h with h;rw [←h];exact q
 ·cases h
theorem Small.fits {s:aq} (h:Small s):s.Fits :=
 ⟨by have:=h.tables;omega,fun t ht=>by have:=h.table t ht;omega,by have:=h.ak;omega,fun f hf=>by have:=h.fk f hf;omega,by have:=h.cons;omega⟩
section
open Go.Proofs Go.RowKit
theorem MX {P:Program} {f:FuncId} {fn:Func} {c:Code} {xs:List V} {args:List Value} {v:Value} {r:A} (hf:P.funcs[f]?=some fn) (hb:fn.body=some c) (hn:(fn.name=="runtime.NumGoroutine")=false)
  (ha:∀m ω vs,vQ m ω vs xs→vs=args) (hr:∀m ω,sO m ω v r)
  (h:∀w,E' P w→Calls P f args.toArray w fun e w'=>e=.returned v∧Below w.heap.size w w'):Sat P f xs r:=by
 refine ⟨fun m w vs ω hC hA=>?_⟩
 have e:=ha _ _ _ hA
 subst e
 refine .inr ⟨?_,(h w (hC.pL w (uG.refl _ _))).mono fun e w' ⟨he,hw⟩=>⟨v,he,m,ω,hC.grow hw (Mem.le_refl m) (fun _ _=>rfl) (fun x u hx=>(hw.cell (World.block_lt_of_cell? w x (hC.ok x u hx))).trans (hC.ok x u hx)),hr m ω⟩⟩
 simp only [callFunc,Sem.run_bind,program,Sem.run,Result.andThen_ok,hf]
 rw [hn,hb]
 simp
theorem Is {m:Mem} {ω:Wh} {vs:List Value} {l:L} {u:Value} (hA:vQ m ω vs [.one l]) (h:∀v,bi m ω v l→v=u):vs=[u]:=by
 obtain ⟨h1,h2⟩:=hA
 obtain ⟨v,h3,h4⟩:=h2 0 (.one l) rfl
 match vs,h1,h3 with
 | [x],_,h3 =>
  simp only [c8,Option.some.injEq] at h3
  subst h3
  rw [h x h4]
theorem Qo {m:Mem} {ω:Wh} {v:Value} {k:IntKind} {n:Int} (h:bi m ω v (.int k n)):v=.int k n:=by
 have h:aM m v (.int k n):=h
 cases h;rfl
def qe (n:Int):ByteArray:=⟨(Lib.itoa n).toArray⟩
theorem B6 (n:Int) (h0:-9223372036854775808≤n) (h1:n≤9223372036854775807):Sat Tryz.prog 37 [.one (.int .i64 n)] (.v (.one (.str (qe n)))) :=
 MX (args:=[.int .i64 n]) (v:=.string (qe n)) Tryz.func37 rfl (by kernel_rfl) (fun m ω vs hA=>Is hA fun v h=>Qo h) (fun m ω=>aM.str _) fun w hw =>
  (Tryz.strconv_Itoa n h0 h1 w (hw.pow (by kernel_rfl))).mono fun e w' ⟨he,k,os,hk⟩=>⟨he,hk▸Lib.below_grow _ w (br _) k os⟩
end
theorem Qy (n:Int) (h0:-9223372036854775808≤n) (h1:n≤9223372036854775807):(qe n).size≤21:=by
 have e:(qe n).size=(Lib.itoa n).length:=by
  show (qe n).data.size=_
  rw [←um]
  simp [qe]
 rw [e]
 exact Lib.itoa_length_le n h0 h1
def Ga (p:UInt8) (i:Nat):ByteArray:=(⟨#[p]⟩:ByteArray)++qe i
def kC (t:au) (n:Nat):List gK:=(List.range n).map fun i=>{t.ae.getD (t.pk.getD i 0).toNat dF with name:=Ga 107 i}
def wR (t:au) (ae:List gK):au:=⟨t.name,kC t t.pk.length++ae,ew t.pk.length⟩
def EC (l:List gK) (n:Nat):List gK:=(List.range n).map fun i=>{l.getD i dF with name:=Ga 98 i}
def F5 (l:List gK):List gK:=EC l l.length
theorem VA (t:au) (n:Nat):kC t (n+1)=kC t n++[{t.ae.getD (t.pk.getD n 0).toNat dF with name:=Ga 107 n}]:=by
 unfold kC
 rw [Cb,dn]
 rfl
theorem Qx (t:au) (n:Nat):(kC t n).length=n:=by unfold kC;simp
def uM (c:gK) (n:ByteArray):gK:={c with name:=n}
def xZ:ByteArray:=⟨#[111,108,100]⟩
def K7:ByteArray:=⟨#[111,108,100,48]⟩
def K8:ByteArray:=⟨#[111,108,100,49]⟩
def F6:ByteArray:=⟨#[110,101,119]⟩
def NR:ByteArray:=⟨#[111,116,104,101,114]⟩
def zS {α:Type} (l:List Int):List α→Nat→List α
 | [],_=>[]
 | x::r,k=>if l.elem (k:Int) then x::zS l r (k+1) else zS l r (k+1)
def vH (s u:aq) (st:aG):au :=
 if st.kind=10 then st.pZ else
 let t:=bq s (sI (aY s.tables st.table)).toNat
 if st.kind=11 then t else
 let cs:=(bq u (sI (aY u.tables st.table)).toNat).ae
 let last:=cs.getD (cs.length - 1) dF
 let c:=(sI (pP t.ae st.dm)).toNat
 if st.kind=1 then wR t [uM last xZ]
 else if st.kind=2 then wR t [uM (t.ae.getD c dF) xZ]
 else if st.kind=5 then wR t [uM (t.ae.getD c dF) xZ,uM (cs.getD c dF) F6]
 else if st.kind=12 then wR t [uM (t.ae.getD (st.ae.getD 0 0).toNat dF) K7,uM (t.ae.getD (st.ae.getD 1 0).toNat dF) K8,uM last F6]
 else if st.kind=8 then wR t [⟨NR,2,false⟩]
 else if st.kind=7 then wR t (F5 (cs.drop t.ae.length))
 else wR t (F5 (zS st.ae t.ae 0))
def ud (s:aq) (st:aG):sY:=match dU s st with
 | .error e=>.error e
 | .ok u=>if st.kind=13∨st.kind=14∨st.kind=15∨st.kind=16 then .ok ⟨s.tables,[],[]⟩
  else if st.kind=3∨st.kind=4∨st.kind=9 then .ok ⟨[],[],[]⟩
  else .ok ⟨[vH s u st],[],[]⟩
theorem K5 (c:gK) (n:ByteArray):Sat Tryz.prog 153 [.agg (aT c),oS n] (.v (.agg (aT (uM c n)))):=by
 refine ZE Tryz.func153 Tryz.ntmps153 fun w0 m0 F0=>?_
 refine ZW Z0 Z0 ?_
 refine ZR (Z1 Tryz.results153) ?_
 rfl
theorem Qw (i:Nat) (h:i≤1048576):Sat Tryz.prog 37 [oI i] (.v (.one (.str (qe i)))):=B6 i (by omega) (by omega)
theorem GR (t:au) (ae:List gK) (h1:t.pk.length≤1048576) (h2:t.ae.length≤1048576) (h3:ae.length≤1048576) (hpk:∀c∈t.pk,0≤c∧c<(t.ae.length:Int)) :
  Sat Tryz.prog 152 [.agg (ap t),.one (cS ae)] (.v (.agg (ap (wR t ae)))):=by
 unfold cS
 refine ZE Tryz.func152 Tryz.ntmps152 fun w0 m0 F0=>?_
 refine ZV Z0 Z0 (Z1 (Zs 2)) Z0 ?_
 refine ab.BB 5 1 33 rfl rfl (.inl (by show 33<48;decide)) ?_
 refine ZU (Z3 @DL (@List.set_cons_zero.{0}) (@List.set_cons_succ.{0})) ?_
 refine ab.BB 5 2 39 rfl rfl (.inl (by show 39<48;decide)) ?_
 refine ZU (Z3 @DL (@List.set_cons_zero.{0}) (@List.set_cons_succ.{0})) ?_
 refine ZW Z0 Z0 ?_
 refine ab.loop (ι:={k:Nat // k≤t.pk.length}) (fun k=>⟨48,[(1,.v (.one (.sl 3 (ae.map aT)))),(2,.v (.one (.ptr 2 0))),(4,.v (.one (.ptr 4 0))),(5,.v (.one (.ptr 5 0))),(13,.v (.one (.sl 1 (t.pk.map aX)))),(14,.v (oI t.pk.length)),(15,.v (oI k.1))],[(2,ap t),(4,[.str ByteArray.empty,.nil 3,.nil 1]),(5,[.str t.name,.ref 33 0 k.1,.ref 39 0 k.1])],[(33,⟨3,(kC t k.1).map aT,[]⟩),(39,⟨1,(ew k.1).map aX,[]⟩)]⟩) (fun k=>t.pk.length - k.1) ⟨0,bg _⟩ ?_ fun ⟨k,hk⟩=>?_
 ·exact ZN (Z4 @ap.eq_1 @kC.eq_1 @ew.eq_1 @s9)
 simp only at hk ⊢
 have lk:=Qx t k
 have ls:=De k
 rcases cV k t.pk.length with hc|hc
 ·obtain ⟨c,hcx⟩:∃c,t.pk[k]=c:=⟨_,rfl⟩
  obtain ⟨p1,p2⟩:=hpk _ (bl hc)
  rw [hcx] at p1 p2
  have gp:(t.pk.map aX).getD k []=[.int .i64 c]:=by rw [bJ _ _ _ hc,hcx];rfl
  have hcl:c.toNat<t.ae.length:=by omega
  obtain ⟨x,hx⟩:∃x,t.ae[c.toNat]=x:=⟨_,rfl⟩
  have gc:(t.ae.map aT).getD c.toNat []=[.str x.name,.int .i64 x.kind,.bool x.qt]:=by rw [bJ _ _ _ hcl,hx];rfl
  have it:=Qw k (by omega)
  have iz:=Qy (k:Int) (by omega) (by omega)
  have sx:(#[(107:UInt8)]).size+(qe (k:Int)).size≤9223372036854775807:=by
   have:(#[(107:UInt8)]).size=1:=rfl
   omega
  have ns:kC t (k+1)=kC t k++[⟨(⟨#[107]⟩:ByteArray)++qe (k:Int),x.kind,x.qt⟩]:=by
   rw [VA,bE _ hc,hcx,bE _ hcl,hx]
   rfl
  refine ZW (Z4 @gp @gc @lk @ls) (Z1 (it)) ?_
  refine ⟨⟨k+1,by omega⟩,by simp only;omega,?_⟩
  exact ZN (Z7 @ap.eq_1 @ns @EB @aT.eq_1 @aX.eq_1 @iy @pO)
 ·have hk2:k=t.pk.length:=by omega
  subst hk2
  refine ZW (Z2 @lk @ls) Z0 ?_
  refine ZR (Z1 Tryz.results152) ?_
  have e2:∀l:List gK,List.map ((fun x=>List.map (L.fD 4) x)∘aT) l=l.map aT:=fun l=>u6 fun _ _=>rfl
  simp [wR,ap,cS,bj,Vz,iH,lk,ls,e2]
theorem K6 (c:gK):Sat Tryz.prog 153 [.agg [.str c.name,.int .i64 c.kind,.bool c.qt],.one (.str ⟨#[111,108,100]⟩)] (.v (.agg [.str xZ,.int .i64 c.kind,.bool c.qt])):=K5 c xZ
theorem Qz (s u:aq) (st:aG) (zs:dC s=0) (zu:dC u=0) (hk:st.kind=1∨st.kind=2) {i k:Nat} (hi:i<s.tables.length) (ei:aY s.tables st.table=(i:Int)) (hk2:k<u.tables.length) (ek:aY u.tables st.table=(k:Int)) :
  Sat Tryz.prog 100 [.agg (aC s),.agg (aC u),.agg (aj st)] (.v (.agg (ap (vH s u st)))):=by
 have okS:=wJ zs
 have okU:=wJ zu
 have ft:=qP s st.table (by have:=okS.n6;omega)
 rw [ei,rZ,sB (show (0:Int)≤(i:Int) by omega)] at ft
 have fu:=qP u st.table (by have:=okU.n6;omega)
 rw [ek,rZ,sB (show (0:Int)≤(k:Int) by omega)] at fu
 obtain ⟨t,ht⟩:∃t,s.tables[i]=t:=⟨_,rfl⟩
 obtain ⟨v,hv⟩:∃v,u.tables[k]=v:=⟨_,rfl⟩
 have htA:bq s (sI (aY s.tables st.table)).toNat=t:=by rw [NF ei];unfold bq;rw [bE _ hi,ht]
 have hvA:bq u (sI (aY u.tables st.table)).toNat=v:=by rw [NF ek];unfold bq;rw [bE _ hk2,hv]
 have okt:uD t:=ht▸okS.vc _ (bl hi)
 have okv:uD v:=hv▸okU.vc _ (bl hk2)
 have pk:xW t:=Bj zs t (ht▸bl hi)
 have t6:=okt.zP
 have v6:=okv.zP
 have v0:=okv.BV
 have p6:=okt.D2
 have gt:(s.tables.map ap).getD i []=[.str t.name,.sl 3 (t.ae.map aT),.sl 1 (t.pk.map aX)]:=by rw [bJ _ _ _ hi,ht];rfl
 have gv:(u.tables.map ap).getD k []=[.str v.name,.sl 3 (v.ae.map aT),.sl 1 (v.pk.map aX)]:=by rw [bJ _ _ _ hk2,hv];rfl
 obtain ⟨c,hc,ec⟩:=J4 t.ae st.dm (by have:=okt.BV;omega)
 have fc:=zb t st.dm (by omega)
 rw [ec] at fc
 obtain ⟨b,hb⟩:∃b,decide (0≤pP t.ae st.dm)=b:=⟨_,rfl⟩
 rw [hb] at fc
 obtain ⟨last,hl⟩:∃last,v.ae[v.ae.length - 1]'(by omega)=last:=⟨_,rfl⟩
 obtain ⟨old,ho⟩:∃old,t.ae[c]=old:=⟨_,rfl⟩
 have gl:(v.ae.map aT).getD (v.ae.length - 1) []=[.str last.name,.int .i64 last.kind,.bool last.qt]:=by rw [bJ _ _ _ (by omega),hl];rfl
 have go:(t.ae.map aT).getD c []=[.str old.name,.int .i64 old.kind,.bool old.qt]:=by rw [bJ _ _ _ hc,ho];rfl
 have w1:((v.ae.length:Int) - 1).toNat=v.ae.length - 1:=by omega
 have lc:(sI (pP t.ae st.dm)).toNat=c:=by rw [ec];omega
 rcases hk with h1|h1
 ·have sp:vH s u st=wR t [uM last xZ]:=by
   unfold vH
   rw [if_neg (by omega)]
   simp only [htA,hvA]
   rw [if_neg (by omega),if_pos h1,bE _ (by omega),hl]
  rw [sp]
  have ky:=GR t [uM last xZ] (by omega) (by omega) (by simp) pk
  have rn:=K6 last
  simp only [dq,cS,aJ,aI,aT,uM] at ky
  refine ZE Tryz.func100 Tryz.ntmps100 fun w0 m0 F0=>?_
  refine ZV (Z7 @aj.eq_1 @dq @h1 @gt @gv @gl @w1) (Z3 (ft) (fu) (fc)) (Z1 (Zs 13)) Z0 ?_;repeat' (first|apply Zb|apply Zn|(apply Zk;intro K hK))
  refine dX ah mixed [(0,2)] [(2,[],[(0,1)]),(3,[],[(0,1)]),(4,[],[]),(5,[],[])] [2,3,4,5] 8 fun K hK=>?_
  simp only [SG,bb] at hK ⊢
  refine ZU Z0 ?_
  repeat' (first|((first|((with_reducible refine ai.is ?_);(first|refine ai.pure (rn) ?_|((apply ai.Es [6] []);(focus (simp -dsimp (disch:=first|exact D|fail) only [go_sem,↓reduceIte,seval,av,RT,St.rest,St.freeze];rfl));(focus (first|exact (rn)|exact (ky))))))|(with_reducible refine an.step fun K hK=>?_))<;>simp -dsimp (disch:=first|exact D|fail) only [go_sem,↓reduceIte,seval,av,RT,St.rest,St.freeze])|((with_reducible refine hK _ ?_);clear hK K)|(with_reducible refine an.intro fun K0 hK0=>?_)|((with_reducible refine an.fin ?_);(refine hK0 _ ?_);clear hK0 K0)|(with_reducible first|refine an.quiet ?_|refine an.none ?_)|((with_reducible refine an.keep ?_ ?_);focus ((simp -dsimp (disch:=first|exact D|fail) only [go_sem,↓reduceIte,seval,gE,gD,gF,gG,av,RT,St.rest,St.freeze]);first|done|exact E|fail))|refine Q1 ?_|fail)
  refine ZR (Z1 Tryz.results100) ?_
  rfl
 ·have sp:vH s u st=wR t [uM old xZ]:=by
   unfold vH
   rw [if_neg (by omega)]
   simp only [htA,hvA]
   rw [if_neg (by omega),if_neg (by omega),if_pos h1,lc,bE _ hc,ho]
  rw [sp]
  have ky:=GR t [uM old xZ] (by omega) (by omega) (by simp) pk
  have rn:=K6 old
  simp only [dq,cS,aJ,aI,aT,uM] at ky
  refine ZE Tryz.func100 Tryz.ntmps100 fun w0 m0 F0=>?_
  refine ZV (Z7 @aj.eq_1 @dq @h1 @gt @gv @gl @w1) (Z3 (ft) (fu) (fc)) (Z1 (Zs 15)) Z0 ?_;repeat' (first|apply Zb|apply Zn|(apply Zk;intro K hK))
  refine dX ah mixed [(0,6)] [(6,[],[(0,1)]),(7,[],[(0,1)]),(8,[],[]),(9,[],[])] [6,7,8,9] 8 fun K hK=>?_
  simp only [SG,bb] at hK ⊢
  refine ZU (Z1 @go) ?_
  repeat' (first|((first|((with_reducible refine ai.is ?_);(first|refine ai.pure (rn) ?_|((apply ai.Es [6] []);(focus (simp -dsimp (disch:=first|exact D|fail) only [go_sem,↓reduceIte,seval,go,av,RT,St.rest,St.freeze];rfl));(focus (first|exact (rn)|exact (ky))))))|(with_reducible refine an.step fun K hK=>?_))<;>simp -dsimp (disch:=first|exact D|fail) only [go_sem,↓reduceIte,seval,go,av,RT,St.rest,St.freeze])|((with_reducible refine hK _ ?_);clear hK K)|(with_reducible refine an.intro fun K0 hK0=>?_)|((with_reducible refine an.fin ?_);(refine hK0 _ ?_);clear hK0 K0)|(with_reducible first|refine an.quiet ?_|refine an.none ?_)|((with_reducible refine an.keep ?_ ?_);focus ((simp -dsimp (disch:=first|exact D|fail) only [go_sem,↓reduceIte,seval,gE,gD,gF,gG,go,av,RT,St.rest,St.freeze]);first|done|exact E|fail))|refine Q1 ?_|fail)
  refine ZR (Z1 Tryz.results100) ?_
  rfl
def kp (R:List Int) (c:Int):Bool:=!R.elem c
theorem Ln {R:List Int} {c:Int}:kp R c=true↔c ∉ R:=by
 unfold kp
 rw [wY,←HJ,Pf]
theorem HH {m:Nat} {c:Int}:c∈ew m↔0≤c∧c<(m:Int):=by
 unfold ew
 rw [BP]
 constructor
 ·rintro ⟨n,hn,rfl⟩
  have:=List.mem_range.1 hn
  omega
 ·rintro ⟨h0,h1⟩
  exact ⟨c.toNat,List.mem_range.2 (by omega),by omega⟩
theorem Lo (m:Nat):(ew m).Nodup:=by
 unfold ew
 refine List.pairwise_map.2 (List.nodup_range.imp fun {a b} h e=>h ?_)
 exact XU e
theorem OI {c m:Nat} (h:c<m):∃r,ew m=ew c++(c:Int)::r:=by
 obtain ⟨d,rfl⟩:∃d,m=c+1+d:=⟨m - c - 1,by omega⟩
 induction d with
 | zero=>exact ⟨[],by rw [eJ,EB]⟩
 | succ d ih =>
  obtain ⟨r,hr⟩:=ih (by omega)
  exact ⟨r++[((c+1+d:Nat):Int)],by rw [←uX,EB,hr];simp⟩
theorem Jx {α:Type} (f:α→Bool):∀l:List α,l.length=(l.filter f).length+(l.filter fun x=>!f x).length
 | []=>rfl
 | x::r=>by
  have:=Jx f r
  rw [dL,dL]
  cases f x<;>simp<;>omega
theorem OJ (m:Nat):(ew m).length=m:=by simp [ew]
theorem OK {α:Type} [DecidableEq α] {a b:List α} (ha:a.Nodup) (hb:b.Nodup) (h:∀x,x∈a↔x∈b):a.length=b.length:=((List.perm_ext_iff_of_nodup ha hb).2 h).length_eq
theorem Lp {R:List Int} (h:R.Pairwise (·<·)):R.Nodup:=h.imp fun h=>by omega
theorem Jy {R:List Int} (hR:R.Pairwise (·<·)) (h0:∀r∈R,0≤r) (c:Nat):rz R c=(((ew c).filter (kp R)).length:Int):=by
 have h1:=Jx (kp R) (ew c)
 rw [OJ] at h1
 have h2:((ew c).filter (fun x=>!kp R x)).length=(R.filter fun r=>decide (r<(c:Int))).length:=by
  refine OK ((Lo c).filter _) ((Lp hR).filter _) fun x=>?_
  rw [Ca,Ca,HH]
  have:(!kp R x)=true↔x∈R:=by
   unfold kp
   rw [iK,Pf]
  rw [this,uv]
  constructor
  ·rintro ⟨⟨_,h⟩,hx⟩;exact ⟨hx,h⟩
  ·rintro ⟨hx,h⟩;exact ⟨⟨h0 x hx,h⟩,hx⟩
 unfold rz
 omega
def B9 (R:List Int) (m:Nat):List Int:=(ew m).filter (kp R)++R
structure MovedR (R:List Int) (m:Nat):Prop where
 lt:R.Pairwise (·<·)
 yA:∀r∈R,0≤r∧r<(m:Int)
theorem MovedR.len {R:List Int} {m:Nat} (h:MovedR R m):((ew m).filter (kp R)).length+R.length=m:=by
 have h1:=Jx (kp R) (ew m)
 rw [OJ] at h1
 have h2:((ew m).filter (fun x=>!kp R x)).length=R.length:=by
  refine OK ((Lo m).filter _) (Lp h.lt) fun x=>?_
  rw [Ca,HH]
  have:(!kp R x)=true↔x∈R:=by
   unfold kp
   rw [iK,Pf]
  rw [this]
  exact ⟨fun q=>q.2,fun q=>⟨h.yA x q,q⟩⟩
 omega
theorem MovedR.mem {R:List Int} {m:Nat} (h:MovedR R m) {c:Int} (hc:c∈B9 R m):0≤c∧c<(m:Int):=by
 rcases List.mem_append.1 hc with hc|hc
 ·exact HH.1 (List.mem_filter.1 hc).1
 ·exact h.yA c hc
def zm (R:List Int) (K:Nat) (c:Int):Int:=if R.elem c then (K:Int)+idx (fun x=>x==c) R 0 else rz R c
theorem Xc {R:List Int} {c:Int} (h:c∈R):∃j,∃hj:j<R.length,idx (fun x=>x==c) R 0=(j:Int)∧R[j]=c:=by
 rcases qn (fun x=>x==c) R 0 with ⟨_,e2⟩|⟨j,hj,e1,e2,_⟩
 ·have:=e2 c h
  simp at this
 ·exact ⟨j,hj,by simpa using e1,by simpa using e2⟩
theorem MovedR.pos {R:List Int} {m K:Nat} (h:MovedR R m) (hK:K=((ew m).filter (kp R)).length) {c:Int} (c0:0≤c) (c1:c<(m:Int)):0≤zm R K c∧zm R K c<(m:Int)∧(B9 R m)[(zm R K c).toNat]?=some c:=by
 have hl:=h.len
 unfold zm B9
 by_cases e:R.elem c=true
 ·rw [if_pos e]
  obtain ⟨j,hj,ej,ec⟩:=Xc (List.elem_iff.1 e)
  rw [ej]
  refine ⟨by omega,by omega,?_⟩
  rw [ul (by omega),show ((K:Int)+(j:Int)).toNat - ((ew m).filter (kp R)).length=j by omega,ig hj,ec]
 ·rw [if_neg e]
  obtain ⟨n,rfl⟩:∃n:Nat,c=(n:Int):=⟨c.toNat,by omega⟩
  have hn:n<m:=by omega
  have hkp:kp R (n:Int)=true:=Ln.2 fun q=>e (List.elem_iff.2 q)
  obtain ⟨r,hr⟩:=OI hn
  rw [Jy h.lt (fun r hr=>(h.yA r hr).1)]
  have hf:(ew m).filter (kp R)=(ew n).filter (kp R)++(n:Int)::r.filter (kp R):=by
   rw [hr,tZ,dL,if_pos hkp]
  have hlen:((ew m).filter (kp R)).length=((ew n).filter (kp R)).length+1+(r.filter (kp R)).length:=by rw [hf];simp;omega
  refine ⟨by omega,by omega,?_⟩
  rw [bG,vk (by omega),hf,ul (br _)]
  simp
theorem MovedR.mono {R:List Int} {m K:Nat} (h:MovedR R m) {c d:Int} (c0:0≤c) (hcd:c<d) (hc:c ∉ R) (hd:d ∉ R):zm R K c<zm R K d:=by
 unfold zm
 rw [if_neg (fun q=>hc (List.elem_iff.1 q)),if_neg (fun q=>hd (List.elem_iff.1 q))]
 obtain ⟨n,rfl⟩:∃n:Nat,c=(n:Int):=⟨c.toNat,by omega⟩
 obtain ⟨k,rfl⟩:∃n:Nat,d=(n:Int):=⟨d.toNat,by omega⟩
 rw [Jy h.lt (fun r hr=>(h.yA r hr).1),Jy h.lt (fun r hr=>(h.yA r hr).1)]
 obtain ⟨r,hr⟩:=OI (c:=n) (m:=k) (by omega)
 rw [hr,tZ,dL,if_pos (Ln.2 hc),bA,bP]
 omega
def zR (T0:au) (crows:List Row) (T:au) (d:fM) (r:Row):fM:=if te T0 crows (keyOf T.pk r)=true then (wK T0 crows (keyOf T.pk r)).getD 0 zV else d
def vN (T0:au) (crows:List Row) (T:au) (d:fM) (rows:List Row):List Row:=rows.map fun r=>r++[zR T0 crows T d r]
def tQ (T0:au) (crows:List Row) (T:au) (d:fM) (rows:List Row):List Row:=(rows.filter fun r=>decide (zR T0 crows T d r≠d)).map fun r=>keyOf T.pk r++[zR T0 crows T d r]
theorem VG (T0:au) (crows:List Row) (T:au) (d:fM) (rows:List Row) (k:Nat) (hk:k<rows.length):vN T0 crows T d (rows.take (k+1))=vN T0 crows T d (rows.take k)++[rows[k]++[zR T0 crows T d rows[k]]]:=by
 unfold vN
 rw [qd rows k hk,dn]
 rfl
theorem VH (T0:au) (crows:List Row) (T:au) (d:fM) (rows:List Row) (k:Nat) (hk:k<rows.length) (h:zR T0 crows T d rows[k]≠d):tQ T0 crows T d (rows.take (k+1))=tQ T0 crows T d (rows.take k)++[keyOf T.pk rows[k]++[zR T0 crows T d rows[k]]]:=by
 unfold tQ
 rw [qd rows k hk,tZ,dn]
 congr 1
 rw [dL,if_pos (sB h),dO,aJ,aI]
theorem VI (T0:au) (crows:List Row) (T:au) (d:fM) (rows:List Row) (k:Nat) (hk:k<rows.length) (h:zR T0 crows T d rows[k]=d):tQ T0 crows T d (rows.take (k+1))=tQ T0 crows T d (rows.take k):=by
 unfold tQ
 rw [qd rows k hk,tZ,dn,dL,if_neg (by rw [h];simp),dO,aI,bM]
theorem IW (T0:au) (crows:List Row) (T:au) (d:fM) (rows:List Row):(vN T0 crows T d rows).length=rows.length:=bw ..
theorem VJ (T0:au) (crows:List Row) (T:au) (d:fM) (rows:List Row):(tQ T0 crows T d rows).length≤rows.length:=by
 unfold tQ
 rw [bw]
 exact vl _ _
theorem PG {T0:au} {crows:List Row} {key:Row} (hw:∀r∈crows,T0.pk.length<r.length) (h:te T0 crows key=true):∃y l,wK T0 crows key=y::l:=by
 obtain ⟨k,hk,e⟩:=NL h
 unfold wK
 rw [if_pos h,e,bG,bE _ hk,uV (hw _ (bl hk))]
 exact ⟨_,_,rfl⟩
section
open Go.Proofs Go.RowKit Go.Shelf
abbrev tB:TypeId:=5
theorem Uv {w:World} {G:Nat→Prop} {v:Value} {t:TypeId} {l:List UInt8} (h:wv w G v t l):BytesAt w t v l.length (Lib.byteCells l):=by
 refine ⟨Lib.byteCells_length l,?_⟩
 rcases h with ⟨rfl,rfl⟩|⟨g,cap,cur,_,h1,h2,h3,h4,h5,h6⟩
 ·exact .inl ⟨rfl,rfl⟩
 ·exact .inr ⟨g,cap,cur,h1,h2,h3,h4,h5,h6⟩
theorem MY {w:World} {G:Nat→Prop} {v:Value} {t:TypeId} {l:List UInt8} (h:wv w G v t l) {k:Nat} (hk:v.ownBlock=some k):G k:=by
 rcases h with ⟨rfl,rfl⟩|⟨g,cap,cur,h0,rfl,_⟩
 ·cases hk
 ·simp only [Value.ownBlock,Option.some.injEq] at hk
  exact hk▸h0
theorem Uw {w:World} {v:Value} {t:TypeId} {l:List UInt8} {n:Nat} (h:BytesAt w t v n (Lib.byteCells l)):wv w (fun k=>v.ownBlock=some k) v t l:=by
 have hn:l.length=n:=(Lib.byteCells_length l).symm.trans h.1
 subst hn
 rcases h.2 with ⟨rfl,h0⟩|⟨g,cap,cur,rfl,h2,h3,h4,h5,h6⟩
 ·exact .inl ⟨Al h0,rfl⟩
 ·exact .inr ⟨g,cap,cur,rfl,rfl,h2,h3,h4,h5,h6⟩
theorem It {m:Mem} {ω:Wh} {v:Value} {s:ByteArray} (h:bi m ω v (.str s)):v=.string s:=by
 have h:aM m v (.str s):=h
 cases h;rfl
theorem Iu {P:Program} {f:FuncId} {fn:Func} {c:Code} {args:Array Value} {w:World} {R:Value→World→Prop} (hf:P.funcs[f]?=some fn) (hb:fn.body=some c) (hn:(fn.name=="runtime.NumGoroutine")=false)
  (h:Calls P f args w fun e w'=>∃v,e=.returned v∧R v w'):A' P f args w R:=by
 refine .inr ⟨?_,h⟩
 simp only [callFunc,Sem.run_bind,program,Sem.run,Result.andThen_ok,hf]
 rw [hn,hb]
 simp
theorem Ux {m:Mem} {ω:Wh} {vs:List Value} {x y:L} (hA:vQ m ω vs [.one x,.one y]):∃a b,vs=[a,b]∧bi m ω a x∧bi m ω b y:=by
 obtain ⟨h1,h2⟩:=hA
 match vs,h1 with
 | [a,b],_ =>
  obtain ⟨a',ha,ha'⟩:=h2 0 _ rfl
  obtain ⟨b',hb,hb'⟩:=h2 1 _ rfl
  simp only [c8,dr,Option.some.injEq] at ha hb
  subst ha;subst hb
  exact ⟨_,_,rfl,ha',hb'⟩
theorem MZ {m:Mem} {w:World} {ω:Wh} {id:Nat} {c:L} {t:TypeId} {l:List UInt8} (h:zE m w ω id [c,.rT t l]) :
  ∃p v e,w.heap[ω.box id]?=some (.cells #[p,v] e (0,0))∧ω.f false id (ω.box id)∧(∃G0,sP m w ω G0 p c)∧BytesAt w t v l.length (Lib.byteCells l)∧v.ownBlock≠some (ω.box id)∧∀k,v.ownBlock=some k→ω.f false id k:=by
 obtain ⟨cs,e,h1,h2,h3,G,h4,h5,h6⟩:=h
 obtain ⟨p,hp,xp⟩:=h6 0 c rfl
 obtain ⟨v,hv,xv⟩:=h6 1 (.rT t l) rfl
 have hcs:cs=#[p,v]:=by
  obtain ⟨L⟩:=cs
  match L,h2 with
  | [a,b],_ =>
   simp only [gB,c8,dr,Option.some.injEq] at hp hv
   rw [hp,hv]
 subst hcs
 have xv:wv w (G 1) v t l:=xv
 exact ⟨p,v,e,h1,h3,⟨_,xp⟩,Uv xv,fun e'=>(h4 1 _ (MY xv e')).2 rfl,fun k hk=>(h4 1 k (MY xv hk)).1⟩
theorem M0 {P:Program} {w0:World} {m0:Mem} {F0:Home} {s:St} {a:Act} {w w':World} {m:Mem} {ω:Wh} {id:Nat} {ls0:List L} {t e:TypeId} {l:List UInt8} {n:Nat} {v v':Value}
  (h:CI P w0 m0 F0 s a w m ω) (hb:look s.box id=some ls0) (hf:ω.f false id (ω.box id)) (ho:∀k,v.ownBlock=some k→ω.f false id k)
  (h1:w'.heap[ω.box id]?=some (.cells #[.pointer (some ⟨ω.box id,0,none⟩),v'] e (0,0))) (h2:BytesAt w' t v' n (Lib.byteCells l)) (h3:v'.ownBlock≠some (ω.box id)) (h4:Moved w w' v v') (h5:KeptBut (fun k=>k=ω.box id∨v.ownBlock=some k) w w') :
  ∃ω',CI P w0 m0 F0 {s with box:=bz id [.ptr id 0,.rT t l] s.box} a w' m ω'∧ω'.box=ω.box∧ω'.row=ω.row:=by
 refine h.S8 hb h5.os h5.tape h5.output h5.size (fun k hk hn=>h5.block k hk ?_) h1 rfl (fun j k=>j=1∧v'.ownBlock=some k) (fun j k hj=>⟨?_,fun e'=>h3 (e'▸hj.2)⟩) (fun j j' k hj hj'=>hj.1.trans hj'.1.symm) fun j x hx=>?_
 ·rintro (rfl|hk2)
  ·exact hn hf
  ·exact hn (ho k hk2)
 ·rcases h4 with h4|⟨k',h6,h7,h8⟩
  ·exact .inl (ho k (h4▸hj.2))
  ·rw [h6] at hj
   obtain ⟨_,hj⟩:=hj
   injection hj with hj
   subst hj
   exact .inr ⟨h7,h8⟩
 ·match j,hx with
  | 0,hx =>
   simp only [c8,Option.some.injEq] at hx
   subst hx
   exact ⟨_,rfl,rfl⟩
  | 1,hx =>
   simp only [dr,c8,Option.some.injEq] at hx
   subst hx
   refine ⟨_,rfl,?_⟩
   have q:=Uw h2
   show wv w' (fun k=>1=1∧v'.ownBlock=some k) v' t l
   refine q.imp (fun q=>q) fun ⟨g,cap,cur,q1,q2⟩=>⟨g,cap,cur,⟨rfl,q1⟩,q2⟩
  | k+2,hx=>simp at hx
theorem M1 (s:ByteArray):Lib.strCells s=Lib.byteCells s.data.toList:=rfl
theorem Uy (a b:List UInt8):Lib.byteCells a++Lib.byteCells b=Lib.byteCells (a++b):=by simp [Lib.byteCells]
theorem M2 {m:Mem} {ω:Wh} (n:Int):sO m ω (.tuple #[.int .i64 n,.nilIface]) (.cR [.one (.int .i64 n),.one .any]):=by
 refine ⟨_,rfl,rfl,fun j x hx=>?_⟩
 match j,hx with
 | 0,hx =>
  simp only [c8,Option.some.injEq] at hx
  subst hx
  exact ⟨_,rfl,aM.int _ _⟩
 | 1,hx =>
  simp only [dr,c8,Option.some.injEq] at hx
  subst hx
  exact ⟨_,rfl,aM.any _ rfl⟩
 | k+2,hx=>simp at hx
theorem Uz (l:List UInt8) (s:ByteArray) (hlen:l.length+s.size≤140737488355328) :
  db Tryz.prog 36 [.one (.ptr 1000 0),.one (.str s)] [(1000,[.ptr 1000 0,.rT tB l])] [] (.cR [.one (.int .i64 s.size),.one .any]) [(1000,[.ptr 1000 0,.rT tB (l++s.data.toList)])] []:=by
 refine ⟨fun m w vs ω hC hA=>?_⟩
 obtain ⟨a,b,rfl,ha,hb⟩:=Ux hA
 have ha:a=.pointer (some ⟨ω.box 1000,0,none⟩):=ha
 have hb:b=.string s:=It hb
 subst ha;subst hb
 obtain ⟨p,v,e,h1,h2,⟨G0,h3⟩,h4,h5,h6⟩:=MZ (hC.box 1000 _ rfl)
 have h3:p=.pointer (some ⟨ω.box 1000,0,none⟩):=h3
 subst h3
 refine Iu Tryz.func36 rfl (by kernel_rfl) ((Any.ws_used Tryz.bld166 Tryz.bldX (ω.box 1000) e v l.length (Lib.byteCells l) s w h1 h4 h5 hlen).mono fun en w' ⟨he,v',k1,k2,k3,k4,k5⟩=>⟨_,he,?_⟩)
 rw [M1,Uy] at k2
 obtain ⟨ω',q1,q2,q3⟩:=M0 hC rfl h2 h6 k1 k2 k3 k4 k5
 exact ⟨m,ω',q1,M2 _⟩
theorem UA (l:List UInt8) (h0:l≠[]):db Tryz.prog 38 [.one (.ptr 1000 0)] [(1000,[.ptr 1000 0,.rT tB l])] [] (.v (.one (.str ⟨l.toArray⟩))) [] []:=by
 refine ⟨fun m w vs ω hC hA=>?_⟩
 obtain rfl:vs=[.pointer (some ⟨ω.box 1000,0,none⟩)]:=Is hA fun v h=>h
 obtain ⟨p,v,e,h1,h2,⟨G0,h3⟩,h4,h5,h6⟩:=MZ (hC.box 1000 _ rfl)
 refine Iu Tryz.func38 rfl (by kernel_rfl) ((Any.str_all Tryz.bld169 Tryz.bldX (ω.box 1000) e p v l w h1 h4 h0).mono fun en w' ⟨he,g,k1,k2⟩=>⟨_,he,?_⟩)
 have hlive:(roots [(1000,[L.ptr 1000 0,.rT tB l])] []).live false 1000:=rfl
 obtain ⟨f1,f2,f3⟩:=hC.fresh false 1000 hlive g (h6 g k1)
 have hW:CI Tryz.prog w m (handed [(1000,[L.ptr 1000 0,.rT tB l])] [] ω) (roots [] []) a0 w m ω:=hC.weaken rfl (fun _ _ h=>h) (fun i ls h=>by cases h) (fun i ls h=>by cases h)
 exact ⟨m,ω,hW.DC k2 f2 (fun κ id hl=>by cases κ<;>cases hl) f3,aM.str _⟩
end
def y3 (v:fM):ByteArray:=(((((⟨#[124]⟩:ByteArray)++qe v.kind++⟨#[44]⟩)++qe v.int++⟨#[44]⟩)++qe (v.text.size:Int))++⟨#[44]⟩)++v.text
def wT (r:Row) (k:Nat):List UInt8:=Lib.itoa r.length++((r.take k).map fun v=>(y3 v).data.toList).flatten
def Dj (r:Row):ByteArray:=⟨(wT r r.length).toArray⟩
theorem zw (n:Int) (h0:-9223372036854775808≤n) (h1:n≤9223372036854775807):(qe n).size≤21:=by
 have e:(qe n).size=(Lib.itoa n).length:=by
  show (qe n).data.size=_
  rw [←um]
  simp [qe]
 rw [e]
 exact Lib.itoa_length_le n h0 h1
theorem N6 {v:fM} (h:C9 v):(y3 v).size≤1048643:=by
 have h1:=zw v.kind h.k0 h.k1
 have h2:=zw v.int h.i0 h.i1
 have h3:=zw (v.text.size:Int) (by omega) (by have:=h.t;omega)
 have h4:=h.t
 have b1:(⟨#[124]⟩:ByteArray).size=1:=rfl
 have b2:(⟨#[44]⟩:ByteArray).size=1:=rfl
 simp only [y3,Cg,b1,b2]
 omega
theorem Ki (r:Row):wT r 0=Lib.itoa r.length:=by simp [wT]
theorem N7 {r:Row} {k:Nat} (h:k<r.length):wT r (k+1)=wT r k++(y3 r[k]).data.toList:=by
 rw [wT,qd r k h,dn,Rn,wT]
 simp only [aJ,aI,List.flatten_cons,List.flatten_nil,bM,sV]
theorem Lh {r:Row} (h:yt r):∀k,k≤r.length→(wT r k).length≤21+k * 1048643
 | 0,_=>by
  rw [Ki]
  have:=Lib.itoa_length_le r.length (by omega) (by have:=h.n;omega)
  omega
 | k+1,hk=>by
  rw [N7 (by omega),bA]
  have h1:=Lh h k (by omega)
  have h2:=N6 (h.v r[k] (bl _))
  have h3:(y3 r[k]).data.toList.length=(y3 r[k]).size:=um
  omega
theorem We (r:Row) (k:Nat):wT r k≠[]:=by
 unfold wT
 intro h
 exact Wd _ (List.append_eq_nil_iff.1 h).1
def IY:au:=⟨yf,[⟨NP,1,false⟩,⟨xZ,3,true⟩],[0]⟩
def w0:aq:=⟨[IY],[],[]⟩
theorem VP (s:aq) (l:List aG) (O:List aq) (N:List cZ) (c1:Sat Tryz.prog 50 [.agg (aC s),.one (qv l)] (.cR [.one (v7 O),oI 0])) (hl:l.length≤1048576) (hO:O.length=l.length+1) (hN:N.length=l.length)
  (hE:∀k,∀h:k<l.length,Sat Tryz.prog 11 [.agg (aC (O.getD k sA)),.agg (aj l[k])] (.cR [.one (bp (N.getD k [])),oI 0])) :
  Sat Tryz.prog 46 [.agg (aC s),.one (qv l)] (.cR [.one (CE N),oI 0]):=by
 unfold qv v7 at c1
 unfold qv CE
 refine ZE Tryz.func46 Tryz.ntmps46 fun w0 m0 F0=>?_
 refine pK Z0 (Z1 (c1)) ?_;repeat' (first|apply Zb|apply Zn|(apply Zm;intro h)|(apply Zk;intro K hK))
 refine ab.loop (ι:={k:Nat // k≤l.length}) (fun k=>⟨47,[(6,.v (.one (.sl 3 (O.map aC)))),(8,.v (.one (.ref 8 0 k.1))),(22,.v (.one (.sl 24 (l.map aj)))),(23,.v (oI l.length)),(24,.v (oI k.1))],[],[(8,⟨1,(N.take k.1).map tX,[]⟩)]⟩) (fun k=>l.length - k.1) ⟨0,bg _⟩ ?_ fun ⟨k,hkl⟩=>?_
 ·exact ZN (Z1 @s9)
 simp only at hkl ⊢
 have lt:(N.take k).length=k:=by rw [rV];omega
 rcases cV k l.length with hk|hk
 ·have sn:=qd N k (by omega)
  have ev:=hE k hk
  obtain ⟨st,hst⟩:∃st,l[k]=st:=⟨_,rfl⟩
  rw [hst] at ev
  have gs:(l.map aj).getD k []=aj st:=by rw [bJ _ _ _ hk,hst]
  have hk2:k<O.length:=by omega
  have ga:(O.map aC).getD k []=aC (O.getD k sA):=by rw [bJ _ _ _ hk2,bE _ hk2]
  have hkN:k<N.length:=by omega
  rw [bE _ hkN] at ev
  obtain ⟨n,hn⟩:∃n,N[k]=n:=⟨_,rfl⟩
  rw [hn] at ev sn
  obtain ⟨c,hc⟩:∃c,O.getD k sA=c:=⟨_,rfl⟩
  rw [hc] at ga ev
  unfold bp at ev
  refine rC (Z2 @gs @aj.eq_1) Z0 (Z1 (Zs 8)) Z0 ?_;repeat' (first|apply Zb|apply Zn|(apply Zm;intro h)|(apply Zk;intro K hK))
  refine dX ah mixed [(0,5)] [(5,[(6,5)],[])] [5] 8 fun K hK=>?_
  simp only [SG,bb] at hK ⊢
  refine ZU (Z1 @ga) ?_
  refine rC (Z2 @ga @lt) (Z1 (ev)) Z0 Z0 ?_;repeat' (first|apply Zb|apply Zn|(apply Zm;intro h)|(apply Zk;intro K hK))
  refine ⟨⟨k+1,by omega⟩,by simp only;omega,?_⟩
  simp only [sn]
  exact ZN (Z4 @tX.eq_1 @bp.eq_1 @iy @pO)
 ·have hk2:k=l.length:=by omega
  subst hk2
  rw [←hN,dw]
  refine pK Z0 Z0 ?_;repeat' (first|apply Zb|apply Zn|(apply Zm;intro h)|(apply Zk;intro K hK))
  refine ZR (Z1 Tryz.results46) ?_
  have ef:(N.map tX).map (fun x=>x.map (L.fD 4))=N.map tX:=vF (fun _=>rfl) N
  rw [ef]
end Go.Bw
