/- Proved: contracts of functions of this translation, for every state, and what they rest on; bounds stand ahead. -/
import Derived.Test.YtmnpdfeocknafaaGreatDoorVg
set_option maxHeartbeats 64000000
set_option linter.unusedSimpArgs false
set_option linter.unusedVariables false
namespace Go.Bw
open Go.Proofs
theorem Vd (s:aq) (i:Nat) (st:aG) (hi:i<s.tables.length) (sm:sR s) :
  db Tryz.prog 87 [.one (.ptr 1000 0),oI i,.agg (aj st)] (iB s) (iR s) (.v (oI (rE (vY s i st)))) (dh (vY s i st)) (di (vY s i st)):=by
 have b1:=sm.tables
 have b2:=sm.table s.tables[i] (bl hi)
 have b3:=sm.ak
 have b4:=sm.cons
 obtain ⟨t,ht⟩:∃t,s.tables[i]=t:=⟨_,rfl⟩
 have htA:bq s i=t:=by unfold bq;rw [bE _ hi,ht]
 rw [ht] at b2
 obtain ⟨b6,b7,_⟩:=b2
 have lm:(s.tables.map ap).length=s.tables.length:=bw ..
 have gi:(s.tables.map ap).getD i []=ap t:=by rw [bJ _ _ _ hi,ht]
 have fc:=zb t st.dm (by omega)
 have sa:=Bi st.value st.value st.op
 have va:=u7 st.value
 have fs:=qP s st.other (by omega)
 have cf:=DY s.ak 144 [.fz (ap t)] _ (by omega) fun f _=>Va f t
 simp only [bd] at sa va
 obtain ⟨R,hR⟩:∃R,vY s i st=R:=⟨_,rfl⟩
 have spec:=hR
 unfold vY at spec
 simp only [htA] at spec
 rw [hR]
 unfold iB iR
 refine ZM [1000] [1,2,3] Tryz.func87 Tryz.ntmps87 fun w0 m0 F0=>?_
 refine ab.gq ?_
 refine ab.eM 1000 rfl ?_
 refine ZU (Z3 @fG @eW @fH) ?_
 refine ab.eM 1001 rfl ?_
 refine ZU (Z3 @fG @eW @fH) ?_
 rcases qn (fun u=>aw u.name st.dm) t.ae 0 with ⟨e1,_⟩|⟨z,hz,e1,_,_⟩
 ·have e1:pP t.ae st.dm=-1:=e1
  rw [e1,ux] at fc
  rw [e1,if_pos (by omega)] at spec
  subst spec
  unfold dh di rE
  simp only
  refine ZW (Z3 @aj.eq_1 @gi @lm) (Z1 (fc)) ?_
  refine Gq.done ?_
  exact ZQ (Z1 Tryz.results87)
 have e1:pP t.ae st.dm=(z:Int):=by unfold pP;simpa using e1
 rw [e1,rZ,sB (show (0:Int)≤(z:Int) by omega)] at fc
 rw [e1,if_neg (by omega),bG] at spec
 refine ZV (Z3 @aj.eq_1 @gi @lm) (Z1 (fc)) (Z1 (Zs 5)) Z0 ?_
 by_cases h1:xX st.op=0
 case neg =>
  rw [if_pos h1] at spec
  subst spec
  unfold dh di rE
  simp only
  refine ZW (Z2 @aj.eq_1 @h1) (Z1 (sa)) ?_
  refine Gq.done ?_
  exact ZQ (Z1 Tryz.results87)
 rw [if_neg (by rw [h1];simp)] at spec
 rw [h1] at sa
 by_cases h2:tK st.value=0
 case neg =>
  rw [if_pos h2] at spec
  subst spec
  unfold dh di rE
  simp only
  refine ZW (Z2 @aj.eq_1 @h2) (Z2 (sa) (va)) ?_
  refine Gq.done ?_
  exact ZQ (Z1 Tryz.results87)
 rw [if_neg (by rw [h2];simp)] at spec
 rw [h2] at va
 have gz:(t.ae.map aT).getD z []=aT (t.ae.getD z dF):=by rw [bJ _ _ _ hz,bE _ hz]
 refine ZV (Z1 @aj.eq_1) (Z2 (sa) (va)) (Z1 (Zs 11)) Z0 ?_
 by_cases h3:st.value.kind=(t.ae.getD z dF).kind
 case neg =>
  rw [if_pos h3] at spec
  subst spec
  unfold dh di rE
  simp only
  refine CK (Z3 @aj.eq_1 @gz @h3) Z0 ?_
  refine Gq.done ?_
  exact ZQ (Z1 Tryz.results87)
 rw [if_neg (by rw [h3];simp)] at spec
 have h3s:=h3.symm
 rcases qn (fun u=>aw u.name st.other) s.tables 0 with ⟨e2,_⟩|⟨j,hj,e2,_,_⟩
 case inr =>
  have e2:aY s.tables st.other=(j:Int):=by unfold aY;simpa using e2
  rw [e2,rZ,sB (show (0:Int)≤(j:Int) by omega)] at fs
  rw [e2,if_pos (by omega)] at spec
  subst spec
  unfold dh di rE
  simp only
  refine P3 (Z3 @aj.eq_1 @gz @h3s) (Z1 (fs)) (Z1 (Zd 13 [(0,5)] [(5,[(6,5)],[])] [5] 8)) Z0 ?_
  refine Gq.done ?_
  exact ZQ (Z1 Tryz.results87)
 have e2:aY s.tables st.other=-1:=e2
 rw [e2,ux] at fs
 rw [e2,if_neg (by omega)] at spec
 refine P3 (Z3 @aj.eq_1 @gz @h3s) (Z1 (fs)) (Z2 (Zs 16) (Zd 13 [(0,5)] [(5,[(6,5)],[])] [5] 8)) Z0 ?_
 cases h5:(s.ak.any fun f=>aw f.ref t.name) with
 | true =>
  rw [h5] at spec cf
  rw [if_pos rfl] at spec
  subst spec
  unfold dh di rE
  simp only
  refine ZW (Z1 @aj.eq_1) (Z1 (cf)) ?_
  refine Gq.done ?_
  exact ZQ (Z1 Tryz.results87)
 | false =>
 rw [h5] at spec cf
 rw [if_neg (by simp)] at spec
 refine ZV (Z1 @aj.eq_1) (Z1 (cf)) (Z1 (Zs 18)) Z0 ?_
 refine ab.keep [0,1,5,6,7] ?_
 refine ZS Z0 ?_
 refine ab.rN [1000] [1000,1001,1002] ?_
 refine ZS Z0 ?_
 have pf:=Vb t st
 have pc:=Vc t st
 refine ZW Z0 Z0 ?_
 refine ab.BC ⟨149,[(0,.v (.one (.ptr 1000 0))),(1,.v (oI i)),(5,.v (.one (.fz (aj st)))),(6,.v (oI 0)),(7,.v (.one (.fz (ap t))))],[(1000,[.ref 1000 0 s.tables.length,.ref 2 0 (s.ak++s7 t st s.ak).length,.ref 1002 0 s.cons.length])],[(1000,⟨3,s.tables.map ap,[]⟩),(2,⟨3,(s.ak++s7 t st s.ak).map aL,[]⟩),(1002,⟨7,s.cons.map aK,[]⟩)]⟩ ?_ ?_
 ·refine ab.loop (ι:={k:Nat // k≤s.ak.length} ⊕ {k:Nat // k≤s.ak.length}) (fun x=>match x with
   | .inl k=>⟨149,[(0,.v (.one (.ptr 1000 0))),(1,.v (oI i)),(5,.v (.one (.fz (aj st)))),(6,.v (oI 0)),(7,.v (.one (.fz (ap t)))),(84,.v (.one (.ref 1001 0 s.ak.length))),(85,.v (oI s.ak.length)),(86,.v (oI k.1))],[(1000,[.ref 1000 0 s.tables.length,.ref 1001 0 (s.ak++s7 t st (s.ak.take k.1)).length,.ref 1002 0 s.cons.length])],[(1000,⟨3,s.tables.map ap,[]⟩),(1001,⟨3,(s.ak++s7 t st (s.ak.take k.1)).map aL,[]⟩),(1002,⟨7,s.cons.map aK,[]⟩)]⟩
   | .inr k=>⟨149,[(0,.v (.one (.ptr 1000 0))),(1,.v (oI i)),(5,.v (.one (.fz (aj st)))),(6,.v (oI 0)),(7,.v (.one (.fz (ap t)))),(84,.v (.one (.ref 1001 0 s.ak.length))),(85,.v (oI s.ak.length)),(86,.v (oI k.1))],[(1000,[.ref 1000 0 s.tables.length,.ref 109 0 (s.ak++s7 t st (s.ak.take k.1)).length,.ref 1002 0 s.cons.length])],[(1000,⟨3,s.tables.map ap,[]⟩),(1001,⟨3,s.ak.map aL,[]⟩),(109,⟨3,(s.ak++s7 t st (s.ak.take k.1)).map aL,[]⟩),(1002,⟨7,s.cons.map aK,[]⟩)]⟩)
   (fun x=>match x with|.inl k=>s.ak.length - k.1|.inr k=>s.ak.length - k.1) (.inl ⟨0,bg _⟩) ?_ fun x=>?_
  ·simp only [c9,show s7 t st []=[] from rfl,bM]
   exact ZL (Z2 @aj.eq_1 @ap.eq_1)
  rcases x with ⟨k,hkl⟩|⟨k,hkl⟩
  ·simp only at hkl ⊢
   rcases cV k s.ak.length with hk|hk
   ·have sn:=Nr t st s.ak k hk
    have lk:=pf (s.ak.take k)
    rw [rV] at lk
    obtain ⟨fb,hfb⟩:∃fb,s.ak[k]=fb:=⟨_,rfl⟩
    have mg:((s.ak++s7 t st (s.ak.take k)).map aL).getD k []=aL fb:=by
     rw [dn,rM,vk (by simpa using hk),←rM,bJ _ _ _ hk,hfb]
    have bf:=(sm.fk s.ak[k] (bl hk)).1
    rw [hfb] at sn bf
    obtain ⟨N,hN⟩:∃N,s7 t st (s.ak.take k)=N:=⟨_,rfl⟩
    rw [hN] at sn mg lk ⊢
    have ci:=GN fb.ae (by omega)
    cases hT:aw fb.table t.name with
    | false =>
     have hT':¬ fb.table.toList=t.name.toList:=by simpa [aw] using hT
     rw [hT] at sn
     simp only [de,if_false,bM] at sn
     refine ZW (Z2 @mg @hT') Z0 ?_
     refine ⟨.inl ⟨k+1,by omega⟩,by simp only;omega,?_⟩
     simp only [sn]
     exact ZN (Z3 @aj.eq_1 @ap.eq_1 @aL.eq_1)
    | true =>
     have hT':fb.table.toList=t.name.toList:=by simpa [aw] using hT
     rw [hT] at sn
     simp only [if_true] at sn
     refine Rg (Z4 @aj.eq_1 @mg @hT' @Ij) (Z1 (ci)) (Z2 (Zs 23) (Zd 22 [(0,9),(10,2)] [(9,[(12,1)],[(0,7),(10,2)]),(13,[],[(0,5)]),(14,[(15,2)],[(0,1)]),(17,[],[])] [9,13,14,17] 8)) Z0 ?_;repeat' (first|apply Zb|apply Zn)
     ·refine ZW Z0 Z0 ?_
      refine ⟨.inl ⟨k+1,by omega⟩,by simp only;omega,?_⟩
      simp only [sn]
      exact ZN (Z3 @aj.eq_1 @ap.eq_1 @aL.eq_1)
     ·refine ab.wW 1001 (s.ak.length) rfl rfl (by simp) ?_
      refine ZU Z0 ?_
      have tk:List.take s.ak.length (List.map aL (s.ak++N))=s.ak.map aL:=by rw [dn];exact ve (by simp)
      rw [tk]
      refine ZW Z0 Z0 ?_
      refine ⟨.inr ⟨k+1,by omega⟩,by simp only;omega,?_⟩
      simp only [sn]
      exact ZN (Z3 @aj.eq_1 @ap.eq_1 @aL.eq_1)
   ·have hk:k=s.ak.length:=by omega
    subst hk
    rw [dw]
    refine ZW Z0 Z0 ?_
    refine Gq.iN 1001 2 rfl rfl (by decide) (.inl (gQ rfl)) ?_
    refine ZT Z0 ?_
    refine Gq.done ⟨rfl,?_⟩
    exact ZN (Z3 @aj.eq_1 @ap.eq_1 @aL.eq_1)
  ·simp only at hkl ⊢
   rcases cV k s.ak.length with hk|hk
   ·have sn:=Nr t st s.ak k hk
    have lk:=pf (s.ak.take k)
    rw [rV] at lk
    obtain ⟨fb,hfb⟩:∃fb,s.ak[k]=fb:=⟨_,rfl⟩
    have mg:(s.ak.map aL).getD k []=aL fb:=by rw [bJ _ _ _ hk,hfb]
    have bf:=(sm.fk s.ak[k] (bl hk)).1
    rw [hfb] at sn bf
    obtain ⟨N,hN⟩:∃N,s7 t st (s.ak.take k)=N:=⟨_,rfl⟩
    rw [hN] at sn lk ⊢
    have ci:=GN fb.ae (by omega)
    cases hT:aw fb.table t.name with
    | false =>
     have hT':¬ fb.table.toList=t.name.toList:=by simpa [aw] using hT
     rw [hT] at sn
     simp only [de,if_false,bM] at sn
     refine ZW (Z2 @mg @hT') Z0 ?_
     refine ⟨.inr ⟨k+1,by omega⟩,by simp only;omega,?_⟩
     simp only [sn]
     exact ZN (Z3 @aj.eq_1 @ap.eq_1 @aL.eq_1)
    | true =>
     have hT':fb.table.toList=t.name.toList:=by simpa [aw] using hT
     rw [hT] at sn
     simp only [if_true] at sn
     refine ZV (Z3 @aj.eq_1 @mg @hT') (Z1 (ci)) (Z1 (Zd 22 [(0,9),(10,2)] [(9,[(12,1)],[(0,7),(10,2)]),(13,[],[(0,5)]),(14,[(15,2)],[(0,1)]),(17,[],[])] [9,13,14,17] 8)) Z0 ?_
     refine ⟨.inr ⟨k+1,by omega⟩,by simp only;omega,?_⟩
     simp only [sn]
     exact ZN (Z3 @aj.eq_1 @ap.eq_1 @aL.eq_1)
   ·have hk:k=s.ak.length:=by omega
    subst hk
    rw [dw]
    refine ZW Z0 Z0 ?_
    refine Gq.iN 109 2 rfl rfl (by decide) (.inl (gQ rfl)) ?_
    refine ZT Z0 ?_
    refine Gq.done ⟨rfl,?_⟩
    exact ZN (Z3 @aj.eq_1 @ap.eq_1 @aL.eq_1)
 refine ZW Z0 Z0 ?_
 refine ab.BC ⟨149,[(0,.v (.one (.ptr 1000 0))),(1,.v (oI i)),(5,.v (.one (.fz (aj st)))),(6,.v (oI 0)),(7,.v (.one (.fz (ap t))))],[(1000,[.ref 1000 0 s.tables.length,.ref 2 0 (s.ak++s7 t st s.ak).length,.ref 3 0 (s.cons++uS t st s.cons).length])],[(1000,⟨3,s.tables.map ap,[]⟩),(2,⟨3,(s.ak++s7 t st s.ak).map aL,[]⟩),(3,⟨7,(s.cons++uS t st s.cons).map aK,[]⟩)]⟩ ?_ ?_
 ·refine ab.loop (ι:={k:Nat // k≤s.cons.length} ⊕ {k:Nat // k≤s.cons.length}) (fun x=>match x with
   | .inl k=>⟨149,[(0,.v (.one (.ptr 1000 0))),(1,.v (oI i)),(5,.v (.one (.fz (aj st)))),(6,.v (oI 0)),(7,.v (.one (.fz (ap t)))),(116,.v (.one (.ref 1002 0 s.cons.length))),(117,.v (oI s.cons.length)),(118,.v (oI k.1))],[(1000,[.ref 1000 0 s.tables.length,.ref 2 0 (s.ak++s7 t st s.ak).length,.ref 1002 0 (s.cons++uS t st (s.cons.take k.1)).length])],[(1000,⟨3,s.tables.map ap,[]⟩),(2,⟨3,(s.ak++s7 t st s.ak).map aL,[]⟩),(1002,⟨7,(s.cons++uS t st (s.cons.take k.1)).map aK,[]⟩)]⟩
   | .inr k=>⟨149,[(0,.v (.one (.ptr 1000 0))),(1,.v (oI i)),(5,.v (.one (.fz (aj st)))),(6,.v (oI 0)),(7,.v (.one (.fz (ap t)))),(116,.v (.one (.ref 1002 0 s.cons.length))),(117,.v (oI s.cons.length)),(118,.v (oI k.1))],[(1000,[.ref 1000 0 s.tables.length,.ref 2 0 (s.ak++s7 t st s.ak).length,.ref 137 0 (s.cons++uS t st (s.cons.take k.1)).length])],[(1000,⟨3,s.tables.map ap,[]⟩),(2,⟨3,(s.ak++s7 t st s.ak).map aL,[]⟩),(1002,⟨7,s.cons.map aK,[]⟩),(137,⟨7,(s.cons++uS t st (s.cons.take k.1)).map aK,[]⟩)]⟩)
   (fun x=>match x with|.inl k=>s.cons.length - k.1|.inr k=>s.cons.length - k.1) (.inl ⟨0,bg _⟩) ?_ fun x=>?_
  ·simp only [c9,show uS t st []=[] from rfl,bM]
   exact ZN (Z2 @aj.eq_1 @ap.eq_1)
  rcases x with ⟨k,hkl⟩|⟨k,hkl⟩
  ·simp only at hkl ⊢
   rcases cV k s.cons.length with hk|hk
   ·have sn:=Ns t st s.cons k hk
    have lk:=pc (s.cons.take k)
    rw [rV] at lk
    obtain ⟨fb,hfb⟩:∃fb,s.cons[k]=fb:=⟨_,rfl⟩
    have mg:((s.cons++uS t st (s.cons.take k)).map aK).getD k []=aK fb:=by
     rw [dn,rM,vk (by simpa using hk),←rM,bJ _ _ _ hk,hfb]
    rw [hfb] at sn
    obtain ⟨N,hN⟩:∃N,uS t st (s.cons.take k)=N:=⟨_,rfl⟩
    rw [hN] at sn mg lk ⊢
    cases hT:aw fb.table t.name with
    | false =>
     have hT':¬ fb.table.toList=t.name.toList:=by simpa [aw] using hT
     rw [hT] at sn
     simp only [de,if_false,bM] at sn
     refine ZW (Z2 @mg @hT') Z0 ?_
     refine ⟨.inl ⟨k+1,by omega⟩,by simp only;omega,?_⟩
     simp only [sn]
     exact ZN (Z3 @aj.eq_1 @ap.eq_1 @aK.eq_1)
    | true =>
     have hT':fb.table.toList=t.name.toList:=by simpa [aw] using hT
     rw [hT] at sn
     simp only [if_true] at sn
     refine Rg (Z4 @aj.eq_1 @mg @hT' @Ij) Z0 (Z2 (Zs 30) (Zd 29 [(0,6)] [(6,[],[(0,5)]),(7,[(8,2)],[(0,1)]),(10,[],[])] [6,7,10] 8)) Z0 ?_;repeat' (first|apply Zb|apply Zn)
     ·refine ZW Z0 Z0 ?_
      refine ⟨.inl ⟨k+1,by omega⟩,by simp only;omega,?_⟩
      simp only [sn]
      exact ZN (Z3 @aj.eq_1 @ap.eq_1 @aK.eq_1)
     ·refine ab.wW 1002 (s.cons.length) rfl rfl (by simp) ?_
      refine ZU Z0 ?_
      have tk:List.take s.cons.length (List.map aK (s.cons++N))=s.cons.map aK:=by rw [dn];exact ve (by simp)
      rw [tk]
      refine ZW Z0 Z0 ?_
      refine ⟨.inr ⟨k+1,by omega⟩,by simp only;omega,?_⟩
      simp only [sn]
      exact ZN (Z3 @aj.eq_1 @ap.eq_1 @aK.eq_1)
   ·have hk:k=s.cons.length:=by omega
    subst hk
    rw [dw]
    refine ZW Z0 Z0 ?_
    refine Gq.iN 1002 3 rfl rfl (by decide) (.inl (gQ rfl)) ?_
    refine ZT Z0 ?_
    refine Gq.done ⟨rfl,?_⟩
    exact ZN (Z3 @aj.eq_1 @ap.eq_1 @aK.eq_1)
  ·simp only at hkl ⊢
   rcases cV k s.cons.length with hk|hk
   ·have sn:=Ns t st s.cons k hk
    have lk:=pc (s.cons.take k)
    rw [rV] at lk
    obtain ⟨fb,hfb⟩:∃fb,s.cons[k]=fb:=⟨_,rfl⟩
    have mg:(s.cons.map aK).getD k []=aK fb:=by rw [bJ _ _ _ hk,hfb]
    rw [hfb] at sn
    obtain ⟨N,hN⟩:∃N,uS t st (s.cons.take k)=N:=⟨_,rfl⟩
    rw [hN] at sn lk ⊢
    cases hT:aw fb.table t.name with
    | false =>
     have hT':¬ fb.table.toList=t.name.toList:=by simpa [aw] using hT
     rw [hT] at sn
     simp only [de,if_false,bM] at sn
     refine ZW (Z2 @mg @hT') Z0 ?_
     refine ⟨.inr ⟨k+1,by omega⟩,by simp only;omega,?_⟩
     simp only [sn]
     exact ZN (Z3 @aj.eq_1 @ap.eq_1 @aK.eq_1)
    | true =>
     have hT':fb.table.toList=t.name.toList:=by simpa [aw] using hT
     rw [hT] at sn
     simp only [if_true] at sn
     refine ZV (Z3 @aj.eq_1 @mg @hT') Z0 (Z1 (Zd 29 [(0,6)] [(6,[],[(0,5)]),(7,[(8,2)],[(0,1)]),(10,[],[])] [6,7,10] 8)) Z0 ?_
     refine ⟨.inr ⟨k+1,by omega⟩,by simp only;omega,?_⟩
     simp only [sn]
     exact ZN (Z3 @aj.eq_1 @ap.eq_1 @aK.eq_1)
   ·have hk:k=s.cons.length:=by omega
    subst hk
    rw [dw]
    refine ZW Z0 Z0 ?_
    refine Gq.iN 137 3 rfl rfl (by decide) (.inl (gQ rfl)) ?_
    refine ZT Z0 ?_
    refine Gq.done ⟨rfl,?_⟩
    exact ZN (Z3 @aj.eq_1 @ap.eq_1 @aK.eq_1)
 have ct:=Da t (by omega) (by omega)
 have it:=FW s.tables ((s.ak++s7 t st s.ak).map aL) ((s.cons++uS t st s.cons).map aK) (s.ak++s7 t st s.ak).length (s.cons++uS t st s.cons).length {t with name:=st.other} (by omega)
 have pl:=(DW qp 0 (s.tables.length+1) (s.tables++[{t with name:=st.other}])).length_eq
 rw [bA,z7] at pl
 simp only [ap,cS,bj] at it ct
 have spec:.ok (tq ⟨s.tables,s.ak++s7 t st s.ak,s.cons++uS t st s.cons⟩ {t with name:=st.other})=R:=spec
 subst spec
 unfold dh di qw qx tq rE
 simp only [pl]
 refine ZV (Z5 @dz @aj.eq_1 @bh @bt @bu) (Z1 (ct)) Z0 (Z1 (Zi [(1000,1000)] [(1000,1000),(1001,2),(1002,3)] [(1000,1000)] [(11,11),(1001,2),(1002,3)] [] [1000,11] [1000,1000] [1000,2,3,11,2,3] (it))) ?_
 refine Gq.iN 11 1 rfl rfl (by decide) (.inl (gQ rfl)) ?_
 refine ZT Z0 ?_
 refine Gq.done ?_
 exact ZQ (Z1 Tryz.results87)
end Go.Bw
