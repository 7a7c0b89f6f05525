/-
  WHAT IS PROVED HERE, of this translation: chunks_one, eq_of_take, ne_of_get, ne_of_len, bytes_ext, people_sat, integer_sat, cloneRow_own, cloneRow_sat, cloneCons_own, cloneCols_own, cloneCols_sat, .., gPow, gSyn, gRng, tPow, tSyn, tRng, errStar, errRow, errCells, strCells, laidW_vals.
  A theorem that ends in sat says what the function it names returns, whatever the state it is called in; the bounds on its arguments stand ahead of it.
-/
import Derived.Lib.ItoaLen
import Derived.Test.YtdnapljegcihiaaGreatDoorRows
import Derived.Test.YtdnapljegcihiaaGreatDoorTie
import Derived.Test.YtdnapljegcihiaaGreatDoorCards
import Derived.Lib.LaidTab
import Derived.Stop.LaidErr
import Derived.Stop.Joined
import Derived.OpenShut
import Derived.LaidMore
import Derived.SevenTiedAt
import Derived.Lay
import Derived.WalkKit
import Derived.ProofKit
import Derived.Test.YtdnapljegcihiaaGreatDoorVc
set_option linter.unusedSimpArgs false
set_option linter.unusedVariables false
namespace Go.Bw
open Go.Proofs
theorem chunks_one {α:Type} (f:α→L):∀(l:List α),chunks 1 l.length (l.map f)=l.map fun x=>[f x]
 | []=>rfl
 | x::l=>by
  simp only [List.length_cons,List.map_cons,chunks]
  rw [List.drop_succ_cons,List.drop_zero,chunks_one f l]
  rfl
theorem eq_of_take {α:Type} {a b:List α} {k:Nat} (h1:a.length≤k) (h2:b.length≤k) (h:a.take k=b.take k):a=b:=by
 rwa [List.take_of_length_le h1,List.take_of_length_le h2] at h
theorem ne_of_get {α:Type} {a b:List α} {k:Nat} (h1:k<a.length) (h2:k<b.length) (h:¬ a[k]=b[k]):¬ a=b:=fun e=>h (by subst e;rfl)
theorem ne_of_len {α:Type} {a b:List α} (h:¬ (a.length:Int)=b.length):¬ a=b:=fun e=>h (by rw [e])
theorem bytes_ext {a b:ByteArray} (h:a.toList=b.toList):a=b:=by
 rw [ByteArray.toList_eq,ByteArray.toList_eq] at h
 obtain ⟨⟨x⟩⟩:=a
 obtain ⟨⟨y⟩⟩:=b
 have h:x=y:=h
 rw [h]
def bId:ByteArray:=⟨#[105,100]⟩
def bName:ByteArray:=⟨#[110,97,109,101]⟩
def bPeople:ByteArray:=⟨#[112,101,111,112,108,101]⟩
def peopleT:Tbl:=⟨bPeople,[⟨bId,1,false⟩,⟨bName,3,true⟩],[0]⟩
theorem people_sat:Sat Tryz.prog 24 [] (.v (.agg (eTbl peopleT))):=by
 refine ZE Tryz.func24 Tryz.ntmps24 fun w0 m0 F0=>?_
 refine ZWpy Z0 Z0 ?_;repeat' (first|apply Zb|apply Zn|(apply Zm;intro h))
 refine ZR (Z1 Tryz.results24) ?_
 first|done|rfl
theorem integer_sat (n:Int):Sat Tryz.prog 26 [oI n] (.v (.agg (eVal ⟨1,n,ByteArray.empty⟩))):=by
 refine ZE Tryz.func26 Tryz.ntmps26 fun w0 m0 F0=>?_
 refine ZWpy Z0 Z0 ?_;repeat' (first|apply Zb|apply Zn|(apply Zm;intro h))
 exact ZQ (Z1 Tryz.results26)
set_option maxHeartbeats 8000000 in
theorem cloneRow_own (r:List Val) (h1:r.length≤1099511627776):SatM Tryz.prog 170 [.one (eRow r)] [] [] (.v (.one (.ref 2 0 r.length))) [] [(2,⟨3,r.map eVal,[]⟩)]:=by
 refine ZM [] [2] Tryz.func170 Tryz.ntmps170 fun w0 m0 F0=>?_
 refine ZWpy Z0 Z0 ?_;repeat' (first|apply Zb|apply Zn|(apply Zm;intro h)|(apply Zk;intro K hK))
 intro b hb
 refine hK _ ?_
 try clear hK K
 refine ZWpy Z0 Z0 ?_;repeat' (first|apply Zb|apply Zn|(apply Zm;intro h)|(apply Zk;intro K hK))
 all_goals simp -dsimp (disch:=first|exact D|fail) only [retQ,Tryz.results170,resVals,cellRV,resOf,St.rest,St.freeze,RT,go_sem,↓reduceIte,seval]
 have h2:r=[]:=by
  cases r with
  | nil=>rfl
  | cons x r=>exact absurd ((hb _ rfl (by simp)).symm.trans ‹b=true›) (by decide)
 subst h2
 exact ⟨rfl,rfl⟩
theorem cloneRow_sat (r:List Val) (h1:r.length≤1099511627776):Sat Tryz.prog 170 [.one (eRow r)] (.v (.one (eRow r))) :=
 (cloneRow_own r h1).frz (by
  simp -dsimp (disch:=first|exact D|fail) only [go_sem,↓reduceIte,seval,topL_ref,St.rest,roots,dropL_nil,eRow]
  )
set_option maxHeartbeats 8000000 in
theorem cloneCons_own (r:List Con) (h1:r.length≤1099511627776):SatM Tryz.prog 75 [.one (eCons r)] [] [] (.v (.one (.ref 2 0 r.length))) [] [(2,⟨7,r.map eCon,[]⟩)]:=by
 refine ZM [] [2] Tryz.func75 Tryz.ntmps75 fun w0 m0 F0=>?_
 refine ZW Z0 Z0 ?_;repeat' (first|apply Zb|apply Zn|(apply Zk;intro K hK))
 intro b hb
 refine hK _ ?_
 try clear hK K
 refine ZWp Z0 Z0 ?_;repeat' (first|apply Zb|apply Zn|(apply Zm;intro h)|(apply Zk;intro K hK))
 all_goals simp -dsimp (disch:=first|exact D|fail) only [retQ,Tryz.results75,resVals,cellRV,resOf,St.rest,St.freeze,RT,go_sem,↓reduceIte,seval]
 have h2:r=[]:=by
  cases r with
  | nil=>rfl
  | cons x r=>exact absurd ((hb _ rfl (by simp)).symm.trans ‹b=true›) (by decide)
 subst h2
 exact ⟨rfl,rfl⟩
set_option maxHeartbeats 8000000 in
theorem cloneCols_own (r:List Col) (h1:r.length≤1099511627776):SatM Tryz.prog 115 [.one (eCols r)] [] [] (.v (.one (.ref 2 0 r.length))) [] [(2,⟨3,r.map eCol,[]⟩)]:=by
 refine ZM [] [2] Tryz.func115 Tryz.ntmps115 fun w0 m0 F0=>?_
 refine ZW Z0 Z0 ?_;repeat' (first|apply Zb|apply Zn|(apply Zk;intro K hK))
 intro b hb
 refine hK _ ?_
 try clear hK K
 refine ZWp Z0 Z0 ?_;repeat' (first|apply Zb|apply Zn|(apply Zm;intro h)|(apply Zk;intro K hK))
 all_goals simp -dsimp (disch:=first|exact D|fail) only [retQ,Tryz.results115,resVals,cellRV,resOf,St.rest,St.freeze,RT,go_sem,↓reduceIte,seval]
 have h2:r=[]:=by
  cases r with
  | nil=>rfl
  | cons x r=>exact absurd ((hb _ rfl (by simp)).symm.trans ‹b=true›) (by decide)
 subst h2
 exact ⟨rfl,rfl⟩
theorem cloneCols_sat (r:List Col) (h1:r.length≤1099511627776):Sat Tryz.prog 115 [.one (eCols r)] (.v (.one (eCols r))) :=
 (cloneCols_own r h1).frz (by
  simp -dsimp (disch:=first|exact D|fail) only [go_sem,↓reduceIte,seval,topL_ref,St.rest,roots,dropL_nil,eCols]
  )
set_option maxHeartbeats 8000000 in
theorem cloneInts_own (r:List Int) (h1:r.length≤1099511627776):SatM Tryz.prog 77 [.one (eInts r)] [] [] (.v (.one (.ref 2 0 r.length))) [] [(2,⟨1,r.map eInt1,[]⟩)]:=by
 refine ZM [] [2] Tryz.func77 Tryz.ntmps77 fun w0 m0 F0=>?_
 refine ZW Z0 Z0 ?_;repeat' (first|apply Zb|apply Zn|(apply Zk;intro K hK))
 intro b hb
 refine hK _ ?_
 try clear hK K
 refine ZWp Z0 Z0 ?_;repeat' (first|apply Zb|apply Zn|(apply Zm;intro h)|(apply Zk;intro K hK))
 all_goals simp -dsimp (disch:=first|exact D|fail) only [retQ,Tryz.results77,resVals,cellRV,resOf,St.rest,St.freeze,RT,go_sem,↓reduceIte,seval]
 have h2:r=[]:=by
  cases r with
  | nil=>rfl
  | cons x r=>exact absurd ((hb _ rfl (by simp)).symm.trans ‹b=true›) (by decide)
 subst h2
 exact ⟨rfl,rfl⟩
theorem cloneInts_sat (r:List Int) (h1:r.length≤1099511627776):Sat Tryz.prog 77 [.one (eInts r)] (.v (.one (eInts r))) :=
 (cloneInts_own r h1).frz (by
  simp -dsimp (disch:=first|exact D|fail) only [go_sem,↓reduceIte,seval,topL_ref,St.rest,roots,dropL_nil,eInts]
  )
set_option maxHeartbeats 8000000 in
theorem cloneTable_sat (t:Tbl) (h1:t.cols.length≤1099511627776) (h2:t.pk.length≤1099511627776):Sat Tryz.prog 76 [.agg (eTbl t)] (.v (.agg (eTbl t))):=by
 refine ZE Tryz.func76 Tryz.ntmps76 fun w0 m0 F0=>?_
 refine ZW Z0 Z0 ?_;repeat' (first|apply Zb|apply Zn|(apply Zk;intro K hK))
 refine AWP.drawT tyOk mixed 9 8 (by kernel_rfl) rfl rfl fun K hK=>?_
 refine ZU Z0 ?_
 refine ZW Z0 (Z2 (cloneCols_sat t.cols h1) (cloneInts_sat t.pk h2)) ?_;repeat' (first|apply Zb|apply Zn|(apply Zk;intro K hK))
 intro K hK
 refine ZU Z0 ?_
 refine ZW Z0 Z0 ?_;repeat' (first|apply Zb|apply Zn|(apply Zk;intro K hK))
 all_goals simp -dsimp (disch:=first|exact D|fail) only [retQ,Tryz.results76,resVals,cellRV,resOf,St.rest,St.freeze,RT,go_sem,↓reduceIte,seval]
structure Bounds0 (s:Sch) (i:Inst):Prop where
 tables:s.tables.length≤140737488355328
 table:∀t∈s.tables,t.cols.length≤1099511627776∧t.pk.length≤1099511627776
 fk:∀f∈s.fks,f.cols.length≤1099511627776
 fks:s.fks.length≤140737488355328
 cons:s.cons.length≤140737488355328
 rel:∀r∈i,r.rows.length≤140737488355328∧∀x∈r.rows,x.length≤140737488355328
def emptyI (s:Sch):Inst:=s.tables.map fun t=>⟨t.name,[]⟩
set_option maxHeartbeats 8000000 in
theorem deleteFKs_own (xs:List (List L)) (k:Nat) (hk:k<xs.length) (h1:xs.length≤1099511627776) (hno:noOwn xs):SatM Tryz.prog 118 [.one (.ref 1000 0 xs.length),oI k,oI ((k:Int)+1)] [] [(1000,⟨3,xs,[]⟩)] (.v (.one (.ref 6 0 (xs.length - 1)))) [] [(6,⟨3,xs.take k++xs.drop (k+1)++[[.str ByteArray.empty,.sl 1 [],.str ByteArray.empty]],[]⟩)]:=by
 have w1:((k:Int)+1).toNat=k+1:=by omega
 refine ZM [] [6] Tryz.func118 Tryz.ntmps118 fun w0 m0 F0=>?_
 refine ZW (Z1 @w1) Z0 ?_;repeat' (first|apply Zb|apply Zn|(apply Zk;intro K hK))
 refine AWP.drawT tyOk mixed 6 8 (by kernel_rfl) rfl rfl fun K hK=>?_
 refine ZU (Z1 @w1) ?_
 refine ZW Z0 Z0 ?_;repeat' (first|apply Zb|apply Zn|(apply Zk;intro K hK))
 intro K hK
 refine ZU (Z1 @w1) ?_
 refine ZW (Z1 @w1) Z0 ?_;repeat' (first|apply Zb|apply Zn|(apply Zk;intro K hK))
 have e1:k - 0+(xs.length - (k+1))=xs.length - 1:=by omega
 have e2:xs.length - (xs.length - 1)=1:=by omega
 have e3:(xs.take (k - 0)++xs.drop (k+1)++xs.drop (xs.length - 1)).take (xs.length - 1)=xs.take k++xs.drop (k+1):=List.take_left' (by simp;omega)
 have e4:(xs.take (k - 0)++xs.drop (k+1)++xs.drop (xs.length - 1)).drop (xs.length - 1+1)=[]:=List.drop_of_length_le (by simp;omega)
 simp only [e1,e2,e3,e4,List.replicate_succ,List.replicate_zero,List.append_nil]
 exact ZQ (Z1 Tryz.results118)
set_option maxHeartbeats 8000000 in
theorem deleteCons_own (xs:List (List L)) (k:Nat) (hk:k<xs.length) (h1:xs.length≤1099511627776) (hno:noOwn xs):SatM Tryz.prog 116 [.one (.ref 1000 0 xs.length),oI k,oI ((k:Int)+1)] [] [(1000,⟨7,xs,[]⟩)] (.v (.one (.ref 6 0 (xs.length - 1)))) [] [(6,⟨7,xs.take k++xs.drop (k+1)++[[.str ByteArray.empty,.int .i64 0,.str ByteArray.empty,.int .i64 0,.int .i64 0,.int .i64 0,.str ByteArray.empty]],[]⟩)]:=by
 have w1:((k:Int)+1).toNat=k+1:=by omega
 refine ZM [] [6] Tryz.func116 Tryz.ntmps116 fun w0 m0 F0=>?_
 refine ZW (Z1 @w1) Z0 ?_;repeat' (first|apply Zb|apply Zn|(apply Zk;intro K hK))
 refine AWP.drawT tyOk mixed 6 8 (by kernel_rfl) rfl rfl fun K hK=>?_
 refine ZU (Z1 @w1) ?_
 refine ZW Z0 Z0 ?_;repeat' (first|apply Zb|apply Zn|(apply Zk;intro K hK))
 intro K hK
 refine ZU (Z1 @w1) ?_
 refine ZW (Z1 @w1) Z0 ?_;repeat' (first|apply Zb|apply Zn|(apply Zk;intro K hK))
 have e1:k - 0+(xs.length - (k+1))=xs.length - 1:=by omega
 have e2:xs.length - (xs.length - 1)=1:=by omega
 have e3:(xs.take (k - 0)++xs.drop (k+1)++xs.drop (xs.length - 1)).take (xs.length - 1)=xs.take k++xs.drop (k+1):=List.take_left' (by simp;omega)
 have e4:(xs.take (k - 0)++xs.drop (k+1)++xs.drop (xs.length - 1)).drop (xs.length - 1+1)=[]:=List.drop_of_length_le (by simp;omega)
 simp only [e1,e2,e3,e4,List.replicate_succ,List.replicate_zero,List.append_nil]
 exact ZQ (Z1 Tryz.results116)
theorem get_of_eq {α:Type} {a b:List α} {k:Nat} (ha:k<a.length) (hb:k<b.length) (h:a=b):a[k]=b[k]:=by subst h;rfl
section
theorem laid:laidOutB Tryz.prog=true:=by kernel_rfl
theorem ownK:ownKnob Tryz.prog.godebug=none:=by kernel_rfl
variable {w:World}
end
def keptR {α:Type} (e:α→List L) (p:α→Bool) (l:List α) (j:Nat):List (List L):=(((l.take j).filter fun x=>!p x)++l.drop ((l.take j).filter fun x=>!p x).length).map e
theorem setL_all':∀(vs ls:List L),vs.length=ls.length→setL 0 vs ls=vs
 | [],[],_=>rfl
 | v::vs,l::ls,h=>by rw [setL,setL_all' vs ls (by simpa using h)]
 | [],_::_,h=>by simp at h
 | _::_,[],h=>by simp at h
def zTbls:List L:=[.str ByteArray.empty,.sl 3 [],.sl 1 []]
def zFKs:List L:=[.str ByteArray.empty,.sl 1 [],.str ByteArray.empty]
def zCons:List L:=[.str ByteArray.empty,.int .i64 0,.str ByteArray.empty,.int .i64 0,.int .i64 0,.int .i64 0,.str ByteArray.empty]
set_option maxHeartbeats 8000000 in
theorem cloneTable_own (t:Tbl) (h1:t.cols.length≤1099511627776) (h2:t.pk.length≤1099511627776):SatM Tryz.prog 76 [.agg (eTbl t)] [] [] (.v (.agg [.str t.name,.ref 7 0 t.cols.length,.ref 10 0 t.pk.length])) [] [(7,⟨3,t.cols.map eCol,[]⟩),(10,⟨1,t.pk.map eInt1,[]⟩)]:=by
 refine ZM [] [7,10] Tryz.func76 Tryz.ntmps76 fun w0 m0 F0=>?_
 refine ZW Z0 Z0 ?_;repeat' (first|apply Zb|apply Zn|(apply Zk;intro K hK))
 refine dX tyOk mixed [(0,4),(5,2)] [(4,[],[(0,2),(5,2)]),(7,[(8,1)],[(0,2)]),(9,[],[])] [4,7,9] 8 fun K hK=>?_
 simp only [SG,segs] at hK ⊢
 refine ZU Z0 ?_
 refine ZV (Z3 @dropL_nil @dropL_nil' @dropL_cons) Z0 Z0 (Z2 (Zi [] [] [] [(2,7)] [] [7] [] [7] (cloneCols_own t.cols h1)) (Zi [] [] [] [(2,10)] [] [10] [] [10] (cloneInts_own t.pk h2))) ?_;repeat' (first|apply Zb|apply Zn|(apply Zk;intro K hK))
 exact ZQ (Z1 Tryz.results76)
theorem setCell_last {α:Type} (e:α→List L) (l:List α) (k:Nat) (hk:k=l.length) (x:List L) (j:Nat) (u:L):setCell (l.map e++[x]) k j u=l.map e++[x.set j u]:=by
 subst hk
 unfold setCell
 have e1:(l.map e++[x]).getD l.length []=x:=by
  rw [List.getD_eq_getElem?_getD,List.getElem?_append_right (by simp)]
  simp
 rw [e1,List.set_append_right _ _ (by simp)]
 simp
def fR (s:Sch):Rows:=[(1000,⟨3,s.tables.map eTbl,[]⟩),(1001,⟨3,s.fks.map eFK,[]⟩),(1002,⟨7,s.cons.map eCon,[]⟩)]
def oB1 (s:Sch):Boxes:=[(1000,[.ref 1 0 s.tables.length,.ref 2 0 s.fks.length,.ref 3 0 s.cons.length])]
def oR1 (s:Sch):Rows:=[(1,⟨3,s.tables.map eTbl,[]⟩),(2,⟨3,s.fks.map eFK,[]⟩),(3,⟨7,s.cons.map eCon,[]⟩)]
theorem frz3 {α:Type} {e:α→List L} (h:∀x,(e x).map (L.frzN 3)=e x) (l:List α):(l.map e).map (fun x=>x.map (L.frzN 3))=l.map e:=by
 rw [List.map_map]
 exact List.map_congr_left fun x _=>h x
theorem frzTbl (l:List Tbl):frzXs (l.map eTbl)=l.map eTbl:=frz_eTbl l
theorem cut_map {α:Type} (e:α→List L) (l:List α) (k:Nat) (h:k<l.length) (z:List L):((l.map e).take k++(l.map e).drop (k+1)++[z]).take (l.length - 1)=(l.take k++l.drop (k+1)).map e:=by
 rw [List.take_left' (by simp;omega),List.map_append,List.map_take,List.map_drop]
theorem cut_len {α:Type} (l:List α) (k:Nat) (h:k<l.length):(l.take k++l.drop (k+1)).length=l.length - 1:=by simp;omega
structure SmallS (s:Sch):Prop where
 tables:s.tables.length≤6
 table:∀t∈s.tables,t.cols.length≤6∧t.pk.length≤6∧∀c∈t.pk,0≤c∧c≤6
 fks:s.fks.length≤8
 fk:∀f∈s.fks,f.cols.length≤6∧∀c∈f.cols,0≤c∧c≤6
 cons:s.cons.length≤8
 con:∀c∈s.cons,0≤c.left∧c.left≤6∧-1≤c.right∧c.right≤6
theorem find_take {α:Type} {p:α→Bool} {l:List α} {k:Nat} (hk:k<l.length) (h:∀x∈l.take k,p x=false) (hx:p l[k]=true):l.find? p=some l[k]:=by
 rw [List.find?_eq_some_iff_getElem]
 refine ⟨hx,k,hk,rfl,fun j hj=>?_⟩
 have:=h l[j] (List.mem_take_iff_getElem.2 ⟨j,by omega,rfl⟩)
 simp [this]
def updT (table:ByteArray) (f:FK):FK:={f with table:=table}
def updC (table:ByteArray) (c:Con):Con:={c with table:=table}
theorem takeM {α β:Type} (e:α→β) (l:List α):List.take l.length (l.map e)=l.map e:=List.take_of_length_le (by simp)
theorem any_of_at {α:Type} {p:α→Bool} {l:List α} {k:Nat} (hk:k<l.length) (h:p l[k]=true):l.any p=true:=List.any_eq_true.2 ⟨_,List.getElem_mem hk,h⟩
theorem take_no {α:Type} {p:α→Bool} {l:List α} {k:Nat} (hk:k<l.length) (hi:(l.take k).any p=false) (h:p l[k]=false):(l.take (k+1)).any p=false:=by
 rw [List.take_succ_eq_append_getElem hk,List.any_append,hi,List.any_cons,List.any_nil,h];rfl
theorem takeM' {α β:Type} (e:α→β) (l:List α):List.take l.length (l.map e)=l.map e:=List.take_of_length_le (by simp)
theorem peekXs_len (xs:List (List L)):(peekXs xs).length=xs.length:=List.length_map ..
theorem frzXs_set (xs:List (List L)) (i:Nat) (x:List L):frzXs (xs.set i x)=(frzXs xs).set i (x.map (L.frzN 4)):=by
 unfold frzXs
 rw [List.map_set]
theorem getD_set1 (l:List (List L)) (i:Nat) (x:List L) (h:i<l.length):(l.set i x).getD i []=x:=by
 rw [List.getD_eq_getElem?_getD,List.getElem?_set_self h,Option.getD_some]
theorem frz3c (l:List Col):(l.map eCol).map (fun x=>x.map (L.frzN 3))=l.map eCol:=frz3 (fun _=>rfl) l
theorem frz3i (l:List Int):(l.map eInt1).map (fun x=>x.map (L.frzN 3))=l.map eInt1:=frz3 (fun _=>rfl) l
def PkOk (t:Tbl):Prop:=∀c∈t.pk,0≤c∧c<(t.cols.length:Int)
theorem any_false_of {α:Type} {p:α→Bool} {l:List α} (h:¬ l.any p=true):l.any p=false:=by simpa using h
theorem frz_eColX (l:List Col):(l.map eCol).map (fun x=>x.map (L.frzN 4))=l.map eCol:=frz_map (fun _=>rfl) l
theorem eTblX (t:Tbl):eTbl t=[.str t.name,.sl 3 (t.cols.map eCol),.sl 1 (t.pk.map eInt1)]:=rfl
def eRowO (r:Row):List L:=[.own 3 (r.map eVal)]
theorem eSchX (s:Sch):eSch s=[.sl 3 (s.tables.map eTbl),.sl 3 (s.fks.map eFK),.sl 7 (s.cons.map eCon)]:=rfl
theorem okIds_fr:(∀(σb σr:Ids) (k:IntKind) (n:Int),okIds σb σr (.int k n)=true)∧(∀(σb σr:Ids) (b:Bool),okIds σb σr (.bool b)=true)∧(∀(σb σr:Ids) (b:ByteArray),okIds σb σr (.str b)=true)∧(∀(σb σr:Ids) (z:Nat) (l:List (List L)),okIds σb σr (.sl z l)=true):=⟨fun _ _ _ _=>rfl,fun _ _ _=>rfl,fun _ _ _=>rfl,fun _ _ _ _=>rfl⟩
def remO (q:Nat) (rows:List Row):List Row:=rows.map fun r=>r.take q++r.drop (q+1)
def remX (rows:List Row) (k:Nat):List (List L):=List.replicate k [.any]++(rows.drop k).map eRowO
theorem remX_len (rows:List Row) (k:Nat) (hk:k≤rows.length):(remX rows k).length=rows.length:=by unfold remX;simp;omega
theorem remX_at (rows:List Row) (k:Nat) (hk:k<rows.length):(remX rows k)[k]?=some (eRowO rows[k]):=by
 unfold remX
 rw [List.getElem?_append_right (by simp),List.length_replicate,Nat.sub_self,List.getElem?_map,List.getElem?_drop]
 simp [hk]
theorem remX_cell (rows:List Row) (k:Nat) (hk:k<rows.length):cellOf (remX rows k) k 0=some (.own 3 (rows[k].map eVal)):=by
 unfold cellOf
 rw [remX_at rows k hk]
 rfl
theorem remX_next (rows:List Row) (k:Nat) (hk:k<rows.length):setCell (remX rows k) k 0 .any=remX rows (k+1):=by
 unfold setCell
 have e1:(remX rows k).getD k []=eRowO rows[k]:=by rw [List.getD_eq_getElem?_getD,remX_at rows k hk];rfl
 rw [e1]
 unfold remX eRowO
 rw [List.drop_eq_getElem_cons hk,List.map_cons,List.set_append_right _ _ (by simp),List.length_replicate,Nat.sub_self,List.replicate_succ']
 simp
theorem remX_get (rows:List Row) (k:Nat) (hk:k<rows.length):(remX rows k).getD k []=[.own 3 (rows[k].map eVal)]:=by rw [List.getD_eq_getElem?_getD,remX_at rows k hk];rfl
theorem frzXs_snoc (l:List Row) (r:Row):frzXs (l.map eRow1++[[.own 3 (r.map eVal)]])=(l++[r]).map eRow1:=by
 unfold frzXs
 have h1:(l.map eRow1).map (fun x=>x.map (L.frzN 4))=l.map eRow1:=frz_eRow1 l
 have h2:([[L.own 3 (r.map eVal)]]:List (List L)).map (fun x=>x.map (L.frzN 4))=[r].map eRow1:=by
  show [[L.sl 3 ((r.map eVal).map fun x=>x.map (L.frzN 3))]]=[[L.sl 3 (r.map eVal)]]
  rw [List.map_map]
  rfl
 rw [List.map_append,List.map_append,h1,h2]
theorem delX (x:Row) (q:Nat) (hq:q<x.length) (z:List L):((x.map eVal).take q++(x.map eVal).drop (q+1)++[z]).take (x.length - 1)=(x.take q++x.drop (q+1)).map eVal:=by
 rw [List.take_left' (by simp;omega),←List.map_take,←List.map_drop,←List.map_append]
theorem remO_len (q:Nat) (rows:List Row):(remO q rows).length=rows.length:=List.length_map ..
structure ValFits (v:Val):Prop where
 k0:-9223372036854775808≤v.kind
 k1:v.kind≤9223372036854775807
 i0:-9223372036854775808≤v.int
 i1:v.int≤9223372036854775807
 t:v.text.size≤1048576
structure RowFits (r:Row):Prop where
 n:r.length≤1048576
 v:∀v∈r,ValFits v
theorem itoa_ne (n:Int):Lib.itoa n≠[]:=by
 unfold Lib.itoa
 split
 ·simp
 ·unfold Lib.decDigits
  split<;>simp
theorem okIds_ptr (σb σr:Ids) (i o:Nat):okIds σb σr (.ptr i o)=(look σb i).isSome:=rfl
theorem okIds_byt (σb σr:Ids) (t:TypeId) (l:List UInt8):okIds σb σr (.byt t l)=true:=rfl
def IntB (n:Int):Prop:=-9223372036854775808≤n∧n≤9223372036854775807
structure ConF (c:Con):Prop where
 table:c.table.size≤1048576
 op:c.op.size≤1048576
 left:IntB c.left
 right:IntB c.right
 value:ValFits c.value
theorem ConF.row {c:Con} (h:ConF c):RowFits [c.value]:=⟨by simp,fun v hv=>by rw [List.mem_singleton.1 hv];exact h.value⟩
def RelF (r:Rel):Prop:=r.rows.length≤1048576∧∀x∈r.rows,RowFits x
theorem okIds_nil (σb σr:Ids) (z:Nat):okIds σb σr (.nil z)=true:=rfl
def s0:Sch:=⟨[peopleT],[],[]⟩
def u0:Sch:=⟨[⟨bPeople,[⟨bId,1,false⟩],[0]⟩],[],[]⟩
def k0B:ByteArray:=⟨#[107,48]⟩
def pI (r:List Row):Inst:=[⟨bPeople,r⟩]
def rAnn:Row:=[⟨1,1,ByteArray.empty⟩,⟨3,0,⟨#[97,110,110]⟩⟩]
def rOne:Row:=[⟨1,1,ByteArray.empty⟩]
theorem b0a:Bounds0 s0 (pI [rAnn]):=⟨by decide,by decide,by decide,by decide,by decide,by decide⟩
theorem b0c:Bounds0 u0 (pI [rOne]):=⟨by decide,by decide,by decide,by decide,by decide,by decide⟩
section
open Go.ChangeShapes Go.RowKit Go.Proofs.YtdnapljegcihiaaGreatDoor Go.Proofs
theorem gPow:Tryz.prog.globalNamed "internal/strconv.uint64pow10"=some 1:=by kernel_rfl
theorem gSyn:Tryz.prog.globalNamed "strconv.ErrSyntax"=some 4:=by kernel_rfl
theorem gRng:Tryz.prog.globalNamed "strconv.ErrRange"=some 5:=by kernel_rfl
theorem tPow:(Tryz.prog.globals[1]?).map (·.type)=some 242:=by kernel_rfl
theorem tSyn:(Tryz.prog.globals[4]?).map (·.type)=some 118:=by kernel_rfl
theorem tRng:(Tryz.prog.globals[5]?).map (·.type)=some 118:=by kernel_rfl
theorem errStar:"*"++"errors.errorString"="*errors.errorString":=by decide
theorem errRow (u:TypeId) (h:Tryz.prog.typeName? 3 u=some "*errors.errorString"):u=281 :=
 typeName_ptr_named (nm:="errors.errorString") (by rw [errStar];kernel_rfl) (by kernel_rfl) (by decide) u (by rw [errStar];exact h)
theorem errCells:Tryz.prog.cellsOf 283=1:=by kernel_rfl
theorem strCells:Tryz.prog.cellsOf 9=1:=by kernel_rfl
theorem laidW_vals {W:World} (h:laidMet Tryz.prog Rows.evolutionValidRow.laid W):LaidW Tryz.prog W where
 pow:=fun _=>Lib.tabIs_of_head (k:=.u64) (zs:=(List.range 20).map fun i=>((10 ^ i:Nat):Int)) gPow tPow Tryz.underlying242 Tryz.underlying220 (by kernel_rfl) (by kernel_rfl) h.tail.tail
 rng:=fun _=>let ⟨_,_,h,_⟩:=(laid_sentinel h.tail.tail.tail gRng tRng Tryz.underlying118 errRow Tryz.underlying281 Tryz.underlying283 rfl rfl Tryz.underlying9 errCells strCells);⟨_,_,h⟩
 syn:=fun _=>let ⟨_,_,h,_⟩:=(laid_sentinel h.tail.tail.tail.tail gSyn tSyn Tryz.underlying118 errRow Tryz.underlying281 Tryz.underlying283 rfl rfl Tryz.underlying9 errCells strCells);⟨_,_,h⟩
end
end Go.Bw
