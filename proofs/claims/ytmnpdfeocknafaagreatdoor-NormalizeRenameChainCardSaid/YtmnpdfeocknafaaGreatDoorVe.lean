/- Proved: contracts of functions of this translation, for every state, and what they rest on; bounds stand ahead. -/
import Derived.Lib.ItoaLen
import Derived.Test.YtmnpdfeocknafaaGreatDoorRows
import Derived.Test.YtmnpdfeocknafaaGreatDoorTie
import Derived.Test.YtmnpdfeocknafaaGreatDoorCards
import Derived.Lib.LaidTab
import Derived.Stop.LaidErr
import Derived.Stop.Joined
import Derived.OpenShut
import Derived.LaidMore
import Derived.SevenTiedAt
import Derived.Lay
import Derived.WalkKit
import Derived.ProofKit
import Derived.Test.YtmnpdfeocknafaaGreatDoorVc
set_option maxHeartbeats 64000000
set_option linter.unusedSimpArgs false
set_option linter.unusedVariables false
namespace Go.Bw
open Go.Proofs
theorem N' {α:Type} (f:α→L):∀(l:List α),chunks 1 l.length (l.map f)=l.map fun x=>[f x]
 | []=>rfl
 | x::l=>by
  simp only [bP,aJ,chunks]
  rw [eo,dA,N' f l]
  rfl
theorem UF {α:Type} {a b:List α} {k:Nat} (h1:a.length≤k) (h2:b.length≤k) (h:a.take k=b.take k):a=b:=by
 rwa [du h1,du h2] at h
theorem UG {α:Type} {a b:List α} {k:Nat} (h1:k<a.length) (h2:k<b.length) (h:¬ a[k]=b[k]):¬ a=b:=fun e=>h (by subst e;rfl)
theorem UH {α:Type} {a b:List α} (h:¬ (a.length:Int)=b.length):¬ a=b:=fun e=>h (by rw [e])
theorem Bd {a b:ByteArray} (h:a.toList=b.toList):a=b:=by
 rw [ByteArray.toList_eq,ByteArray.toList_eq] at h
 obtain ⟨⟨x⟩⟩:=a
 obtain ⟨⟨y⟩⟩:=b
 have h:x=y:=h
 rw [h]
def F8:ByteArray:=⟨#[105,100]⟩
def F7:ByteArray:=⟨#[110,97,109,101]⟩
def yf:ByteArray:=⟨#[112,101,111,112,108,101]⟩
def GW:au:=⟨yf,[⟨F8,1,false⟩,⟨F7,3,true⟩],[0]⟩
theorem K9:Sat Tryz.prog 10 [] (.v (.agg (ap GW))):=by
 refine ZE Tryz.func10 Tryz.ntmps10 fun w0 m0 F0=>?_
 refine rj Z0 Z0 ?_;repeat' (first|apply Zb|apply Zn|(apply Zm;intro h))
 refine ZR (Z1 Tryz.results10) ?_
 first|done|rfl
theorem BJ (n:Int):Sat Tryz.prog 13 [oI n] (.v (.agg (bd ⟨1,n,ByteArray.empty⟩))):=by
 refine ZE Tryz.func13 Tryz.ntmps13 fun w0 m0 F0=>?_
 refine rj Z0 Z0 ?_;repeat' (first|apply Zb|apply Zn|(apply Zm;intro h))
 exact ZQ (Z1 Tryz.results13)
theorem JX (r:List fM) (h1:r.length≤1099511627776):db Tryz.prog 158 [.one (cT r)] [] [] (.v (.one (.ref 2 0 r.length))) [] [(2,⟨3,r.map bd,[]⟩)]:=by
 refine ZM [] [2] Tryz.func158 Tryz.ntmps158 fun w0 m0 F0=>?_
 refine rj Z0 Z0 ?_;repeat' (first|apply Zb|apply Zn|(apply Zm;intro h)|(apply Zk;intro K hK))
 intro b hb
 refine hK _ ?_
 try clear hK K
 refine rj Z0 Z0 ?_;repeat' (first|apply Zb|apply Zn|(apply Zm;intro h)|(apply Zk;intro K hK))
 all_goals simp -dsimp (disch:=first|exact D|fail) only [aR,Tryz.results158,aQ,aS,aO,St.rest,St.freeze,RT,go_sem,↓reduceIte,seval]
 have h2:r=[]:=by
  cases r with
  | nil=>rfl
  | cons x r=>exact absurd ((hb _ rfl (by simp)).symm.trans ‹b=true›) (by decide)
 subst h2
 exact ⟨rfl,rfl⟩
theorem zq (r:List fM) (h1:r.length≤1099511627776):Sat Tryz.prog 158 [.one (cT r)] (.v (.one (cT r))) :=
 (JX r h1).rN (by
  simp -dsimp (disch:=first|exact D|fail) only [go_sem,↓reduceIte,seval,x8,St.rest,roots,bh,cT]
  )
theorem QE (r:List dN) (h1:r.length≤1099511627776):db Tryz.prog 63 [.one (dy r)] [] [] (.v (.one (.ref 2 0 r.length))) [] [(2,⟨7,r.map aK,[]⟩)]:=by
 refine ZM [] [2] Tryz.func63 Tryz.ntmps63 fun w0 m0 F0=>?_
 refine ZW Z0 Z0 ?_;repeat' (first|apply Zb|apply Zn|(apply Zk;intro K hK))
 intro b hb
 refine hK _ ?_
 try clear hK K
 refine pK Z0 Z0 ?_;repeat' (first|apply Zb|apply Zn|(apply Zm;intro h)|(apply Zk;intro K hK))
 all_goals simp -dsimp (disch:=first|exact D|fail) only [aR,Tryz.results63,aQ,aS,aO,St.rest,St.freeze,RT,go_sem,↓reduceIte,seval]
 have h2:r=[]:=by
  cases r with
  | nil=>rfl
  | cons x r=>exact absurd ((hb _ rfl (by simp)).symm.trans ‹b=true›) (by decide)
 subst h2
 exact ⟨rfl,rfl⟩
theorem N2 (r:List gK) (h1:r.length≤1099511627776):db Tryz.prog 101 [.one (cS r)] [] [] (.v (.one (.ref 2 0 r.length))) [] [(2,⟨3,r.map aT,[]⟩)]:=by
 refine ZM [] [2] Tryz.func101 Tryz.ntmps101 fun w0 m0 F0=>?_
 refine ZW Z0 Z0 ?_;repeat' (first|apply Zb|apply Zn|(apply Zk;intro K hK))
 intro b hb
 refine hK _ ?_
 try clear hK K
 refine pK Z0 Z0 ?_;repeat' (first|apply Zb|apply Zn|(apply Zm;intro h)|(apply Zk;intro K hK))
 all_goals simp -dsimp (disch:=first|exact D|fail) only [aR,Tryz.results101,aQ,aS,aO,St.rest,St.freeze,RT,go_sem,↓reduceIte,seval]
 have h2:r=[]:=by
  cases r with
  | nil=>rfl
  | cons x r=>exact absurd ((hb _ rfl (by simp)).symm.trans ‹b=true›) (by decide)
 subst h2
 exact ⟨rfl,rfl⟩
theorem PQ (r:List gK) (h1:r.length≤1099511627776):Sat Tryz.prog 101 [.one (cS r)] (.v (.one (cS r))) :=
 (N2 r h1).rN (by
  simp -dsimp (disch:=first|exact D|fail) only [go_sem,↓reduceIte,seval,x8,St.rest,roots,bh,cS]
  )
theorem I9 (r:List Int) (h1:r.length≤1099511627776):db Tryz.prog 61 [.one (bj r)] [] [] (.v (.one (.ref 2 0 r.length))) [] [(2,⟨1,r.map aX,[]⟩)]:=by
 refine ZM [] [2] Tryz.func61 Tryz.ntmps61 fun w0 m0 F0=>?_
 refine ZW Z0 Z0 ?_;repeat' (first|apply Zb|apply Zn|(apply Zk;intro K hK))
 intro b hb
 refine hK _ ?_
 try clear hK K
 refine pK Z0 Z0 ?_;repeat' (first|apply Zb|apply Zn|(apply Zm;intro h)|(apply Zk;intro K hK))
 all_goals simp -dsimp (disch:=first|exact D|fail) only [aR,Tryz.results61,aQ,aS,aO,St.rest,St.freeze,RT,go_sem,↓reduceIte,seval]
 have h2:r=[]:=by
  cases r with
  | nil=>rfl
  | cons x r=>exact absurd ((hb _ rfl (by simp)).symm.trans ‹b=true›) (by decide)
 subst h2
 exact ⟨rfl,rfl⟩
theorem GN (r:List Int) (h1:r.length≤1099511627776):Sat Tryz.prog 61 [.one (bj r)] (.v (.one (bj r))) :=
 (I9 r h1).rN (by
  simp -dsimp (disch:=first|exact D|fail) only [go_sem,↓reduceIte,seval,x8,St.rest,roots,bh,bj]
  )
theorem Da (t:au) (h1:t.ae.length≤1099511627776) (h2:t.pk.length≤1099511627776):Sat Tryz.prog 62 [.agg (ap t)] (.v (.agg (ap t))):=by
 refine ZE Tryz.func62 Tryz.ntmps62 fun w0 m0 F0=>?_
 refine ZW Z0 Z0 ?_;repeat' (first|apply Zb|apply Zn|(apply Zk;intro K hK))
 refine ab.Bc ah mixed 9 8 (by kernel_rfl) rfl rfl fun K hK=>?_
 refine ZU Z0 ?_
 refine ZW Z0 (Z2 (PQ t.ae h1) (GN t.pk h2)) ?_;repeat' (first|apply Zb|apply Zn|(apply Zk;intro K hK))
 intro K hK
 refine ZU Z0 ?_
 refine ZW Z0 Z0 ?_;repeat' (first|apply Zb|apply Zn|(apply Zk;intro K hK))
 all_goals simp -dsimp (disch:=first|exact D|fail) only [aR,Tryz.results62,aQ,aS,aO,St.rest,St.freeze,RT,go_sem,↓reduceIte,seval]
structure yI (s:aq) (i:cZ):Prop where
 tables:s.tables.length≤140737488355328
 table:∀t∈s.tables,t.ae.length≤1099511627776∧t.pk.length≤1099511627776
 fk:∀f∈s.ak,f.ae.length≤1099511627776
 ak:s.ak.length≤140737488355328
 cons:s.cons.length≤140737488355328
 rel:∀r∈i,r.rows.length≤140737488355328∧∀x∈r.rows,x.length≤140737488355328
def qI (s:aq):cZ:=s.tables.map fun t=>⟨t.name,[]⟩
theorem Na (xs:List (List L)) (k:Nat) (hk:k<xs.length) (h1:xs.length≤1099511627776) (hno:pT xs):db Tryz.prog 131 [.one (.ref 1000 0 xs.length),oI k,oI ((k:Int)+1)] [] [(1000,⟨3,xs,[]⟩)] (.v (.one (.ref 6 0 (xs.length - 1)))) [] [(6,⟨3,xs.take k++xs.drop (k+1)++[[.str ByteArray.empty,.sl 1 [],.str ByteArray.empty]],[]⟩)]:=by
 have w1:((k:Int)+1).toNat=k+1:=by omega
 refine ZM [] [6] Tryz.func131 Tryz.ntmps131 fun w0 m0 F0=>?_
 refine ZW (Z1 @w1) Z0 ?_;repeat' (first|apply Zb|apply Zn|(apply Zk;intro K hK))
 refine ab.Bc ah mixed 6 8 (by kernel_rfl) rfl rfl fun K hK=>?_
 refine ZU (Z1 @w1) ?_
 refine ZW Z0 Z0 ?_;repeat' (first|apply Zb|apply Zn|(apply Zk;intro K hK))
 intro K hK
 refine ZU (Z1 @w1) ?_
 refine ZW (Z1 @w1) Z0 ?_;repeat' (first|apply Zb|apply Zn|(apply Zk;intro K hK))
 have e1:k - 0+(xs.length - (k+1))=xs.length - 1:=by omega
 have e2:xs.length - (xs.length - 1)=1:=by omega
 have e3:(xs.take (k - 0)++xs.drop (k+1)++xs.drop (xs.length - 1)).take (xs.length - 1)=xs.take k++xs.drop (k+1):=ve (by simp;omega)
 have e4:(xs.take (k - 0)++xs.drop (k+1)++xs.drop (xs.length - 1)).drop (xs.length - 1+1)=[]:=xy (by simp;omega)
 simp only [e1,e2,e3,e4,EL,AM,bM]
 exact ZQ (Z1 Tryz.results131)
theorem V8 (xs:List (List L)) (k:Nat) (hk:k<xs.length) (h1:xs.length≤1099511627776) (hno:pT xs):db Tryz.prog 129 [.one (.ref 1000 0 xs.length),oI k,oI ((k:Int)+1)] [] [(1000,⟨7,xs,[]⟩)] (.v (.one (.ref 6 0 (xs.length - 1)))) [] [(6,⟨7,xs.take k++xs.drop (k+1)++[[.str ByteArray.empty,.int .i64 0,.str ByteArray.empty,.int .i64 0,.int .i64 0,.int .i64 0,.str ByteArray.empty]],[]⟩)]:=by
 have w1:((k:Int)+1).toNat=k+1:=by omega
 refine ZM [] [6] Tryz.func129 Tryz.ntmps129 fun w0 m0 F0=>?_
 refine ZW (Z1 @w1) Z0 ?_;repeat' (first|apply Zb|apply Zn|(apply Zk;intro K hK))
 refine ab.Bc ah mixed 6 8 (by kernel_rfl) rfl rfl fun K hK=>?_
 refine ZU (Z1 @w1) ?_
 refine ZW Z0 Z0 ?_;repeat' (first|apply Zb|apply Zn|(apply Zk;intro K hK))
 intro K hK
 refine ZU (Z1 @w1) ?_
 refine ZW (Z1 @w1) Z0 ?_;repeat' (first|apply Zb|apply Zn|(apply Zk;intro K hK))
 have e1:k - 0+(xs.length - (k+1))=xs.length - 1:=by omega
 have e2:xs.length - (xs.length - 1)=1:=by omega
 have e3:(xs.take (k - 0)++xs.drop (k+1)++xs.drop (xs.length - 1)).take (xs.length - 1)=xs.take k++xs.drop (k+1):=ve (by simp;omega)
 have e4:(xs.take (k - 0)++xs.drop (k+1)++xs.drop (xs.length - 1)).drop (xs.length - 1+1)=[]:=xy (by simp;omega)
 simp only [e1,e2,e3,e4,EL,AM,bM]
 exact ZQ (Z1 Tryz.results129)
theorem get_of_eq {α:Type} {a b:List α} {k:Nat} (ha:k<a.length) (hb:k<b.length) (h:a=b):a[k]=b[k]:=by subst h;rfl
section
theorem laid:laidOutB Tryz.prog=true:=by kernel_rfl
theorem Zp:ownKnob Tryz.prog.godebug=none:=by kernel_rfl
def Uh:TypeDesc→Bool
 | .slice _=>true
 | .string=>true
 | .bool=>true
 | .int _=>true
 | _=>false
theorem Zq {P:Program} {w:World} {base:Nat} {t:TypeId} {v:Value} {d:TypeDesc} (hu:P.underlying t=some d) (hd:Uh d=true) (h:Value.okWide P w .any base t v):v.cells.toList=[v]:=by
 have hne:∀cs,v≠.agg cs:=by
  rintro cs rfl
  cases d<;>simp [Uh] at hd<;>simp [Value.okWide,hu,Cell.okWide,Cell.ok] at h
 cases v with
 | agg cs=>exact absurd rfl (hne cs)
 | _=>rfl
variable {w:World}
end
def sF {α:Type} (e:α→List L) (p:α→Bool) (l:List α) (j:Nat):List (List L):=(((l.take j).filter fun x=>!p x)++l.drop ((l.take j).filter fun x=>!p x).length).map e
theorem Og:∀(vs ls:List L),vs.length=ls.length→dp 0 vs ls=vs
 | [],[],_=>rfl
 | v::vs,l::ls,h=>by rw [dp,Og vs ls (by simpa using h)]
 | [],_::_,h=>by simp at h
 | _::_,[],h=>by simp at h
def WC:List L:=[.str ByteArray.empty,.sl 3 [],.sl 1 []]
def WE:List L:=[.str ByteArray.empty,.sl 1 [],.str ByteArray.empty]
def WH:List L:=[.str ByteArray.empty,.int .i64 0,.str ByteArray.empty,.int .i64 0,.int .i64 0,.int .i64 0,.str ByteArray.empty]
theorem Wn (t:au) (h1:t.ae.length≤1099511627776) (h2:t.pk.length≤1099511627776):db Tryz.prog 62 [.agg (ap t)] [] [] (.v (.agg [.str t.name,.ref 7 0 t.ae.length,.ref 10 0 t.pk.length])) [] [(7,⟨3,t.ae.map aT,[]⟩),(10,⟨1,t.pk.map aX,[]⟩)]:=by
 refine ZM [] [7,10] Tryz.func62 Tryz.ntmps62 fun w0 m0 F0=>?_
 refine ZW Z0 Z0 ?_;repeat' (first|apply Zb|apply Zn|(apply Zk;intro K hK))
 refine dX ah mixed [(0,4),(5,2)] [(4,[],[(0,2),(5,2)]),(7,[(8,1)],[(0,2)]),(9,[],[])] [4,7,9] 8 fun K hK=>?_
 simp only [SG,bb] at hK ⊢
 refine ZU Z0 ?_
 refine ZV (Z3 @bh @bt @bu) Z0 Z0 (Z2 (Zi [] [] [] [(2,7)] [] [7] [] [7] (N2 t.ae h1)) (Zi [] [] [] [(2,10)] [] [10] [] [10] (I9 t.pk h2))) ?_;repeat' (first|apply Zb|apply Zn|(apply Zk;intro K hK))
 exact ZQ (Z1 Tryz.results62)
theorem ze {α:Type} (e:α→List L) (l:List α) (k:Nat) (hk:k=l.length) (x:List L) (j:Nat) (u:L):setCell (l.map e++[x]) k j u=l.map e++[x.set j u]:=by
 subst hk
 unfold setCell
 have e1:(l.map e++[x]).getD l.length []=x:=by
  rw [rM,ul (by simp)]
  simp
 rw [e1,z8 _ _ (by simp)]
 simp
def fR (s:aq):Rows:=[(1000,⟨3,s.tables.map ap,[]⟩),(1001,⟨3,s.ak.map aL,[]⟩),(1002,⟨7,s.cons.map aK,[]⟩)]
def qw (s:aq):qJ:=[(1000,[.ref 1 0 s.tables.length,.ref 2 0 s.ak.length,.ref 3 0 s.cons.length])]
def qx (s:aq):Rows:=[(1,⟨3,s.tables.map ap,[]⟩),(2,⟨3,s.ak.map aL,[]⟩),(3,⟨7,s.cons.map aK,[]⟩)]
theorem DX {α:Type} {e:α→List L} (h:∀x,(e x).map (L.fD 3)=e x) (l:List α):(l.map e).map (fun x=>x.map (L.fD 3))=l.map e:=by
 rw [wP]
 exact u6 fun x _=>h x
theorem M9 (l:List au):tF (l.map ap)=l.map ap:=iI l
theorem CA {α:Type} (e:α→List L) (l:List α) (k:Nat) (h:k<l.length) (z:List L):((l.map e).take k++(l.map e).drop (k+1)++[z]).take (l.length - 1)=(l.take k++l.drop (k+1)).map e:=by
 rw [ve (by simp;omega),dn,yF,Eo]
theorem Cz {α:Type} (l:List α) (k:Nat) (h:k<l.length):(l.take k++l.drop (k+1)).length=l.length - 1:=by simp;omega
structure sR (s:aq):Prop where
 tables:s.tables.length≤6
 table:∀t∈s.tables,t.ae.length≤6∧t.pk.length≤6∧∀c∈t.pk,0≤c∧c≤6
 ak:s.ak.length≤8
 fk:∀f∈s.ak,f.ae.length≤6∧∀c∈f.ae,0≤c∧c≤6
 cons:s.cons.length≤8
 qH:∀c∈s.cons,0≤c.left∧c.left≤6∧-1≤c.right∧c.right≤6
theorem UK {α:Type} {p:α→Bool} {l:List α} {k:Nat} (hk:k<l.length) (h:∀x∈l.take k,p x=false) (hx:p l[k]=true):l.find? p=some l[k]:=by
 rw [YV]
 refine ⟨hx,k,hk,rfl,fun j hj=>?_⟩
 have:=h l[j] (List.mem_take_iff_getElem.2 ⟨j,by omega,rfl⟩)
 simp [this]
def CR (table:ByteArray) (f:FK):FK:={f with table:=table}
def CS (table:ByteArray) (c:dN):dN:={c with table:=table}
theorem Ev {α β:Type} (e:α→β) (l:List α):List.take l.length (l.map e)=l.map e:=du (by simp)
theorem Nd {α:Type} {p:α→Bool} {l:List α} {k:Nat} (hk:k<l.length) (h:p l[k]=true):l.any p=true:=List.any_eq_true.2 ⟨_,bl hk,h⟩
theorem Nf {α:Type} {p:α→Bool} {l:List α} {k:Nat} (hk:k<l.length) (hi:(l.take k).any p=false) (h:p l[k]=false):(l.take (k+1)).any p=false:=by
 rw [GA hk,List.any_append,hi,LF,XR,h];rfl
theorem EW {α β:Type} (e:α→β) (l:List α):List.take l.length (l.map e)=l.map e:=du (by simp)
theorem Qq (xs:List (List L)):(xH xs).length=xs.length:=bw ..
theorem Iy (xs:List (List L)) (i:Nat) (x:List L):tF (xs.set i x)=(tF xs).set i (x.map (L.fD 4)):=by
 unfold tF
 rw [vJ]
theorem Iz (l:List (List L)) (i:Nat) (x:List L) (h:i<l.length):(l.set i x).getD i []=x:=by
 rw [rM,JP h,eE]
theorem IA (l:List gK):(l.map aT).map (fun x=>x.map (L.fD 3))=l.map aT:=DX (fun _=>rfl) l
theorem IB (l:List Int):(l.map aX).map (fun x=>x.map (L.fD 3))=l.map aX:=DX (fun _=>rfl) l
def xW (t:au):Prop:=∀c∈t.pk,0≤c∧c<(t.ae.length:Int)
theorem U5 {α:Type} {p:α→Bool} {l:List α} (h:¬ l.any p=true):l.any p=false:=by simpa using h
def v7 (l:List aq):L:=.sl 3 (l.map aC)
theorem Px (l:List aq):(l.map aC).map (fun x=>x.map (L.fD 4))=l.map aC:=vF (fun _=>rfl) l
def sA:aq:=⟨[],[],[]⟩
abbrev Db:=Except Int (List aq)
def xN:Db→List aq
 | .error _=>[]
 | .ok l=>l
theorem Vz (l:List gK):(l.map aT).map (fun x=>x.map (L.fD 4))=l.map aT:=vF (fun _=>rfl) l
theorem dq (t:au):ap t=[.str t.name,.sl 3 (t.ae.map aT),.sl 1 (t.pk.map aX)]:=rfl
def xm (r:Row):List L:=[.own 3 (r.map bd)]
theorem cM (s:aq):aC s=[.sl 3 (s.tables.map ap),.sl 3 (s.ak.map aL),.sl 7 (s.cons.map aK)]:=rfl
theorem si:(∀(σb σr:ik) (k:IntKind) (n:Int),vR σb σr (.int k n)=true)∧(∀(σb σr:ik) (b:Bool),vR σb σr (.bool b)=true)∧(∀(σb σr:ik) (b:ByteArray),vR σb σr (.str b)=true)∧(∀(σb σr:ik) (z:Nat) (l:List (List L)),vR σb σr (.sl z l)=true):=⟨fun _ _ _ _=>rfl,fun _ _ _=>rfl,fun _ _ _=>rfl,fun _ _ _ _=>rfl⟩
def uY (rows:List Row) (k:Nat):List (List L):=List.replicate k [.any]++(rows.drop k).map xm
theorem PB (rows:List Row) (k:Nat) (hk:k≤rows.length):(uY rows k).length=rows.length:=by unfold uY;simp;omega
theorem IV (rows:List Row) (k:Nat) (hk:k<rows.length):(uY rows k)[k]?=some (xm rows[k]):=by
 unfold uY
 rw [ul (by simp),yh,xB,ql,rJ]
 simp [hk]
theorem PC (rows:List Row) (k:Nat) (hk:k<rows.length):cellOf (uY rows k) k 0=some (.own 3 (rows[k].map bd)):=by
 unfold cellOf
 rw [IV rows k hk]
 rfl
theorem PD (rows:List Row) (k:Nat) (hk:k<rows.length):setCell (uY rows k) k 0 .any=uY rows (k+1):=by
 unfold setCell
 have e1:(uY rows k).getD k []=xm rows[k]:=by rw [rM,IV rows k hk];rfl
 rw [e1]
 unfold uY xm
 rw [uV hk,aJ,z8 _ _ (by simp),yh,xB,List.replicate_succ']
 simp
theorem PE (rows:List Row) (k:Nat) (hk:k<rows.length):(uY rows k).getD k []=[.own 3 (rows[k].map bd)]:=by rw [rM,IV rows k hk];rfl
theorem CX (l:List Row) (r:Row):tF (l.map cU++[[.own 3 (r.map bd)]])=(l++[r]).map cU:=by
 unfold tF
 have h1:(l.map cU).map (fun x=>x.map (L.fD 4))=l.map cU:=iF l
 have h2:([[L.own 3 (r.map bd)]]:List (List L)).map (fun x=>x.map (L.fD 4))=[r].map cU:=by
  show [[L.sl 3 ((r.map bd).map fun x=>x.map (L.fD 3))]]=[[L.sl 3 (r.map bd)]]
  rw [wP]
  rfl
 rw [dn,dn,h1,h2]
theorem abm {x y:ByteArray}:x=y↔x.toList=y.toList:=⟨fun h=>h▸rfl,Bd⟩
structure C9 (v:fM):Prop where
 k0:-9223372036854775808≤v.kind
 k1:v.kind≤9223372036854775807
 i0:-9223372036854775808≤v.int
 i1:v.int≤9223372036854775807
 t:v.text.size≤1048576
structure yt (r:Row):Prop where
 n:r.length≤1048576
 v:∀v∈r,C9 v
theorem Wd (n:Int):Lib.itoa n≠[]:=by
 unfold Lib.itoa
 split
 ·simp
 ·unfold Lib.decDigits
  split<;>simp
theorem Kj (σb σr:ik) (i o:Nat):vR σb σr (.ptr i o)=(look σb i).isSome:=rfl
theorem Kk (σb σr:ik) (t:TypeId) (l:List UInt8):vR σb σr (.rT t l)=true:=rfl
def G3 (n:Int):Prop:=-9223372036854775808≤n∧n≤9223372036854775807
structure Ko (c:dN):Prop where
 table:c.table.size≤1048576
 op:c.op.size≤1048576
 left:G3 c.left
 right:G3 c.right
 value:C9 c.value
theorem Ko.row {c:dN} (h:Ko c):yt [c.value]:=⟨by simp,fun v hv=>by rw [List.mem_singleton.1 hv];exact h.value⟩
theorem PH (σb σr:ik) (z:Nat):vR σb σr (.nil z)=true:=rfl
def s0:aq:=⟨[GW],[],[]⟩
def u0:aq:=⟨[⟨yf,[⟨F8,1,false⟩],[0]⟩],[],[]⟩
def NP:ByteArray:=⟨#[107,48]⟩
def pI (r:List Row):cZ:=[⟨yf,r⟩]
def tX (i:cZ):List L:=[bp i]
def CE (l:List cZ):L:=.sl 1 (l.map tX)
def xr (N:List cZ) (n k:Nat):List cZ:=N.take k++List.replicate (n - k) []
theorem VQ {N:List cZ} {n k:Nat} (h:k≤n) (hN:N.length=n):(xr N n k).length=n:=by
 unfold xr
 rw [bA,rV,yh]
 omega
theorem VS {N:List cZ} {n k:Nat} (h:k<n) (hN:N.length=n):((xr N n k).map tX).getD k []=[.sl 2 []]:=by
 have lt:(N.take k).length=k:=by rw [rV];omega
 have e:(xr N n k)[k]?=some []:=by
  unfold xr
  rw [ul (by omega),lt,xB,E4]
  rw [if_pos (by omega)]
 rw [rM,ql,e]
 rfl
def I0:ByteArray:=⟨#[97,103,101]⟩
def NS:ByteArray:=⟨#[121,101,97,114,115]⟩
def uB:aq:=⟨[⟨yf,[⟨F8,1,false⟩,⟨F7,3,true⟩,⟨NS,1,false⟩],[0]⟩],[],[]⟩
def wB:aq:=⟨[],[],[]⟩
def v8:Row:=[⟨1,1,ByteArray.empty⟩,⟨0,0,ByteArray.empty⟩]
def th:Row:=[⟨1,1,ByteArray.empty⟩,⟨0,0,ByteArray.empty⟩,⟨1,7,ByteArray.empty⟩]
theorem NZ:yI s0 (pI [v8]):=⟨by decide,by decide,by decide,by decide,by decide,by decide⟩
theorem VX:yI wB []:=⟨by decide,by decide,by decide,by decide,by decide,by decide⟩
theorem V1:yt th:=⟨by decide,fun v hv=>by
 rcases List.mem_cons.1 hv with rfl|hv
 ·exact ⟨by decide,by decide,by decide,by decide,by decide⟩
 rcases List.mem_cons.1 hv with rfl|hv
 ·exact ⟨by decide,by decide,by decide,by decide,by decide⟩
 ·rw [List.mem_singleton.1 hv]
  exact ⟨by decide,by decide,by decide,by decide,by decide⟩⟩
section
open Go.ChangeShapes Go.RowKit Go.Proofs.YtmnpdfeocknafaaGreatDoor Go.Proofs
theorem ZX:Tryz.prog.globalNamed "internal/strconv.uint64pow10"=some 0:=by kernel_rfl
theorem ZY:Tryz.prog.globalNamed "strconv.ErrSyntax"=some 4:=by kernel_rfl
theorem ZZ:Tryz.prog.globalNamed "strconv.ErrRange"=some 5:=by kernel_rfl
theorem Z':(Tryz.prog.globals[0]?).map (·.type)=some 257:=by kernel_rfl
theorem aaa:(Tryz.prog.globals[4]?).map (·.type)=some 105:=by kernel_rfl
theorem aab:(Tryz.prog.globals[5]?).map (·.type)=some 105:=by kernel_rfl
theorem Um:"*"++"errors.errorString"="*errors.errorString":=by decide
theorem Un (u:TypeId) (h:Tryz.prog.typeName? 3 u=some "*errors.errorString"):u=298 :=
 typeName_ptr_named (nm:="errors.errorString") (by rw [Um];kernel_rfl) (by kernel_rfl) (by decide) u (by rw [Um];exact h)
theorem Uo:Tryz.prog.cellsOf 300=1:=by kernel_rfl
theorem strCells:Tryz.prog.cellsOf 9=1:=by kernel_rfl
theorem aac {W:World} (h:laidMet Tryz.prog Rows.normalizeSameSchemaRow.laid W):E' Tryz.prog W where
 pow:=fun _=>Lib.tabIs_of_head (k:=.u64) (zs:=(List.range 20).map fun i=>((10 ^ i:Nat):Int)) ZX Z' Tryz.underlying257 Tryz.underlying227 (by kernel_rfl) (by kernel_rfl) h.tail.tail
 yA:=fun _=>let ⟨_,_,h,_⟩:=(laid_sentinel h.tail.tail.tail ZZ aab Tryz.underlying105 Un Tryz.underlying298 Tryz.underlying300 rfl rfl Tryz.underlying9 Uo strCells);⟨_,_,h⟩
 Pg:=fun _=>let ⟨_,_,h,_⟩:=(laid_sentinel h.tail.tail.tail.tail ZY aaa Tryz.underlying105 Un Tryz.underlying298 Tryz.underlying300 rfl rfl Tryz.underlying9 Uo strCells);⟨_,_,h⟩
end
end Go.Bw
