/-
  WHAT IS PROVED HERE, of this translation: chunks_one, eq_of_take, ne_of_get, ne_of_len, bytes_ext, cloneCons_own, cloneCols_own, cloneCols_sat, cloneInts_own, cloneInts_sat, cloneTable_sat, deleteFKs_own, .., takeWhile_stop, takeWhile_all, frz_eHp, natI_len, natI_snoc, revTo_len, revTo_at, revTo_succ, hp_eq, noOwn_eHp, elem_natI.
  A theorem that ends in sat says what the function it names returns, whatever the state it is called in; the bounds on its arguments stand ahead of it.
-/
import Derived.Test.YtdnapljegcihiaaGreatWc
set_option linter.unusedSimpArgs false
set_option linter.unusedVariables false
namespace Go.Bw
open Go.Proofs
theorem chunks_one {α:Type} (f:α→L):∀(l:List α),chunks 1 l.length (l.map f)=l.map fun x=>[f x]
 | []=>rfl
 | x::l=>by
  simp only [List.length_cons,List.map_cons,chunks]
  rw [List.drop_succ_cons,List.drop_zero,chunks_one f l]
  rfl
theorem eq_of_take {α:Type} {a b:List α} {k:Nat} (h1:a.length≤k) (h2:b.length≤k) (h:a.take k=b.take k):a=b:=by
 rwa [List.take_of_length_le h1,List.take_of_length_le h2] at h
theorem ne_of_get {α:Type} {a b:List α} {k:Nat} (h1:k<a.length) (h2:k<b.length) (h:¬ a[k]=b[k]):¬ a=b:=fun e=>h (by subst e;rfl)
theorem ne_of_len {α:Type} {a b:List α} (h:¬ (a.length:Int)=b.length):¬ a=b:=fun e=>h (by rw [e])
theorem bytes_ext {a b:ByteArray} (h:a.toList=b.toList):a=b:=by
 rw [ByteArray.toList_eq,ByteArray.toList_eq] at h
 obtain ⟨⟨x⟩⟩:=a
 obtain ⟨⟨y⟩⟩:=b
 have h:x=y:=h
 rw [h]
set_option maxHeartbeats 8000000 in
theorem cloneCons_own (r:List Con) (h1:r.length≤1099511627776):SatM Tryz.prog 44 [.one (eCons r)] [] [] (.v (.one (.ref 2 0 r.length))) [] [(2,⟨7,r.map eCon,[]⟩)]:=by
 refine sM tyOk [] [2] Tryz.func44 fun w0 m0 F0=>?_
 simp only [Tryz.ntmps44,envOf,Nat.reduceAdd]
 repeat' (first|((with_reducible refine qV tyOk fun K hK=>?_)<;>simp -dsimp (disch:=first|exact D|fail) only [go_sem,↓reduceIte,seval])|((with_reducible refine hK _ ?_);clear hK K)|refine Q1 ?_|fail)
 intro b hb
 refine hK _ ?_
 clear hK K
 repeat' (first|((with_reducible refine qV tyOk fun K hK=>?_)<;>simp -dsimp (disch:=first|exact D|fail) only [go_sem,↓reduceIte,seval])|((with_reducible refine hK _ ?_);clear hK K)|refine Q1 ?_|((with_reducible refine qW (T:=TT) (b:=?_) ?_ ?_);rotate_left;exact rfl)|((with_reducible refine yS ?_ ?_)<;>(intro h;try simp only [NM] at h))|fail)
 all_goals simp -dsimp (disch:=first|exact D|fail) only [retQ,Tryz.results44,resVals,cellRV,resOf,St.rest,St.freeze,RT,go_sem,↓reduceIte,seval]
 have h2:r=[]:=by
  cases r with
  | nil=>rfl
  | cons x r=>exact absurd ((hb _ rfl (by simp)).symm.trans ‹b=true›) (by decide)
 subst h2
 exact ⟨rfl,rfl⟩
set_option maxHeartbeats 8000000 in
theorem cloneCols_own (r:List Col) (h1:r.length≤1099511627776):SatM Tryz.prog 58 [.one (eCols r)] [] [] (.v (.one (.ref 2 0 r.length))) [] [(2,⟨3,r.map eCol,[]⟩)]:=by
 refine sM tyOk [] [2] Tryz.func58 fun w0 m0 F0=>?_
 simp only [Tryz.ntmps58,envOf,Nat.reduceAdd]
 repeat' (first|((with_reducible refine qV tyOk fun K hK=>?_)<;>simp -dsimp (disch:=first|exact D|fail) only [go_sem,↓reduceIte,seval])|((with_reducible refine hK _ ?_);clear hK K)|refine Q1 ?_|fail)
 intro b hb
 refine hK _ ?_
 clear hK K
 repeat' (first|((with_reducible refine qV tyOk fun K hK=>?_)<;>simp -dsimp (disch:=first|exact D|fail) only [go_sem,↓reduceIte,seval])|((with_reducible refine hK _ ?_);clear hK K)|refine Q1 ?_|((with_reducible refine qW (T:=TT) (b:=?_) ?_ ?_);rotate_left;exact rfl)|((with_reducible refine yS ?_ ?_)<;>(intro h;try simp only [NM] at h))|fail)
 all_goals simp -dsimp (disch:=first|exact D|fail) only [retQ,Tryz.results58,resVals,cellRV,resOf,St.rest,St.freeze,RT,go_sem,↓reduceIte,seval]
 have h2:r=[]:=by
  cases r with
  | nil=>rfl
  | cons x r=>exact absurd ((hb _ rfl (by simp)).symm.trans ‹b=true›) (by decide)
 subst h2
 exact ⟨rfl,rfl⟩
theorem cloneCols_sat (r:List Col) (h1:r.length≤1099511627776):Sat Tryz.prog 58 [.one (eCols r)] (.v (.one (eCols r))) :=
 (cloneCols_own r h1).frz (by
  simp -dsimp (disch:=first|exact D|fail) only [go_sem,↓reduceIte,seval,topL_ref,St.rest,roots,dropL_nil,eCols]
  )
set_option maxHeartbeats 8000000 in
theorem cloneInts_own (r:List Int) (h1:r.length≤1099511627776):SatM Tryz.prog 35 [.one (eInts r)] [] [] (.v (.one (.ref 2 0 r.length))) [] [(2,⟨1,r.map eInt1,[]⟩)]:=by
 refine sM tyOk [] [2] Tryz.func35 fun w0 m0 F0=>?_
 simp only [Tryz.ntmps35,envOf,Nat.reduceAdd]
 repeat' (first|((with_reducible refine qV tyOk fun K hK=>?_)<;>simp -dsimp (disch:=first|exact D|fail) only [go_sem,↓reduceIte,seval])|((with_reducible refine hK _ ?_);clear hK K)|refine Q1 ?_|fail)
 intro b hb
 refine hK _ ?_
 clear hK K
 repeat' (first|((with_reducible refine qV tyOk fun K hK=>?_)<;>simp -dsimp (disch:=first|exact D|fail) only [go_sem,↓reduceIte,seval])|((with_reducible refine hK _ ?_);clear hK K)|refine Q1 ?_|((with_reducible refine qW (T:=TT) (b:=?_) ?_ ?_);rotate_left;exact rfl)|((with_reducible refine yS ?_ ?_)<;>(intro h;try simp only [NM] at h))|fail)
 all_goals simp -dsimp (disch:=first|exact D|fail) only [retQ,Tryz.results35,resVals,cellRV,resOf,St.rest,St.freeze,RT,go_sem,↓reduceIte,seval]
 have h2:r=[]:=by
  cases r with
  | nil=>rfl
  | cons x r=>exact absurd ((hb _ rfl (by simp)).symm.trans ‹b=true›) (by decide)
 subst h2
 exact ⟨rfl,rfl⟩
theorem cloneInts_sat (r:List Int) (h1:r.length≤1099511627776):Sat Tryz.prog 35 [.one (eInts r)] (.v (.one (eInts r))) :=
 (cloneInts_own r h1).frz (by
  simp -dsimp (disch:=first|exact D|fail) only [go_sem,↓reduceIte,seval,topL_ref,St.rest,roots,dropL_nil,eInts]
  )
set_option maxHeartbeats 8000000 in
theorem cloneTable_sat (t:Tbl) (h1:t.cols.length≤1099511627776) (h2:t.pk.length≤1099511627776):Sat Tryz.prog 36 [.agg (eTbl t)] (.v (.agg (eTbl t))):=by
 refine sS tyOk Tryz.func36 fun w0 m0 F0=>?_
 simp only [Tryz.ntmps36,envOf,Nat.reduceAdd]
 repeat' (first|((with_reducible refine qV tyOk fun K hK=>?_)<;>simp -dsimp (disch:=first|exact D|fail) only [go_sem,↓reduceIte,seval])|((with_reducible refine hK _ ?_);clear hK K)|refine Q1 ?_|fail)
 refine AWP.drawT tyOk mixed 9 8 (by kernel_rfl) rfl rfl fun K hK=>?_
 simp -dsimp (disch:=first|exact D|fail) only [go_sem,↓reduceIte,seval]
 repeat' (first|((((with_reducible refine CallH.is ?_);(first|refine CallH.intro (cloneCols_sat t.cols h1) ?_|refine CallH.intro (cloneInts_sat t.pk h2) ?_)))<;>simp -dsimp (disch:=first|exact D|fail) only [go_sem,↓reduceIte,seval])|((with_reducible refine hK _ ?_);clear hK K)|fail)
 intro K hK
 simp -dsimp (disch:=first|exact D|fail) only [go_sem,↓reduceIte,seval]
 repeat' (first|((with_reducible refine hK _ ?_);clear hK K)|refine Q1 ?_|fail)
 all_goals simp -dsimp (disch:=first|exact D|fail) only [retQ,Tryz.results36,resVals,cellRV,resOf,St.rest,St.freeze,RT,go_sem,↓reduceIte,seval]
set_option maxHeartbeats 8000000 in
theorem deleteFKs_own (xs:List (List L)) (k:Nat) (hk:k<xs.length) (h1:xs.length≤1099511627776) (hno:noOwn xs):SatM Tryz.prog 93 [.one (.ref 1000 0 xs.length),oI k,oI ((k:Int)+1)] [] [(1000,⟨3,xs,[]⟩)] (.v (.one (.ref 6 0 (xs.length - 1)))) [] [(6,⟨3,xs.take k++xs.drop (k+1)++[[.str ByteArray.empty,.sl 1 [],.str ByteArray.empty]],[]⟩)]:=by
 have w1:((k:Int)+1).toNat=k+1:=by omega
 refine sM tyOk [] [6] Tryz.func93 fun w0 m0 F0=>?_
 simp only [Tryz.ntmps93,envOf,Nat.reduceAdd]
 repeat' (first|((with_reducible refine qV tyOk fun K hK=>?_)<;>simp -dsimp (disch:=first|exact D|fail) only [go_sem,↓reduceIte,seval,w1])|((with_reducible refine hK _ ?_);clear hK K)|refine Q1 ?_|((with_reducible refine qW (T:=TT) (b:=?_) ?_ ?_);rotate_left;exact rfl)|fail)
 refine AWP.drawT tyOk mixed 6 8 (by kernel_rfl) rfl rfl fun K hK=>?_
 simp -dsimp (disch:=first|exact D|fail) only [go_sem,↓reduceIte,seval,w1]
 repeat' (first|((with_reducible refine hK _ ?_);clear hK K)|refine Q1 ?_|fail)
 intro K hK
 simp -dsimp (disch:=first|exact D|fail) only [go_sem,↓reduceIte,seval,w1]
 repeat' (first|((with_reducible refine qV tyOk fun K hK=>?_)<;>simp -dsimp (disch:=first|exact D|fail) only [go_sem,↓reduceIte,seval,w1])|((with_reducible refine hK _ ?_);clear hK K)|refine Q1 ?_|fail)
 have e1:k - 0+(xs.length - (k+1))=xs.length - 1:=by omega
 have e2:xs.length - (xs.length - 1)=1:=by omega
 have e3:(xs.take (k - 0)++xs.drop (k+1)++xs.drop (xs.length - 1)).take (xs.length - 1)=xs.take k++xs.drop (k+1):=List.take_left' (by simp;omega)
 have e4:(xs.take (k - 0)++xs.drop (k+1)++xs.drop (xs.length - 1)).drop (xs.length - 1+1)=[]:=List.drop_of_length_le (by simp;omega)
 simp only [e1,e2,e3,e4,List.replicate_succ,List.replicate_zero,List.append_nil]
 simp -dsimp (disch:=first|exact D|fail) only [retQ,Tryz.results93,resVals,cellRV,resOf,St.rest,St.freeze,RT,go_sem,↓reduceIte,seval]
set_option maxHeartbeats 8000000 in
theorem deleteCons_own (xs:List (List L)) (k:Nat) (hk:k<xs.length) (h1:xs.length≤1099511627776) (hno:noOwn xs):SatM Tryz.prog 91 [.one (.ref 1000 0 xs.length),oI k,oI ((k:Int)+1)] [] [(1000,⟨7,xs,[]⟩)] (.v (.one (.ref 6 0 (xs.length - 1)))) [] [(6,⟨7,xs.take k++xs.drop (k+1)++[[.str ByteArray.empty,.int .i64 0,.str ByteArray.empty,.int .i64 0,.int .i64 0,.int .i64 0,.str ByteArray.empty]],[]⟩)]:=by
 have w1:((k:Int)+1).toNat=k+1:=by omega
 refine sM tyOk [] [6] Tryz.func91 fun w0 m0 F0=>?_
 simp only [Tryz.ntmps91,envOf,Nat.reduceAdd]
 repeat' (first|((with_reducible refine qV tyOk fun K hK=>?_)<;>simp -dsimp (disch:=first|exact D|fail) only [go_sem,↓reduceIte,seval,w1])|((with_reducible refine hK _ ?_);clear hK K)|refine Q1 ?_|((with_reducible refine qW (T:=TT) (b:=?_) ?_ ?_);rotate_left;exact rfl)|fail)
 refine AWP.drawT tyOk mixed 6 8 (by kernel_rfl) rfl rfl fun K hK=>?_
 simp -dsimp (disch:=first|exact D|fail) only [go_sem,↓reduceIte,seval,w1]
 repeat' (first|((with_reducible refine hK _ ?_);clear hK K)|refine Q1 ?_|fail)
 intro K hK
 simp -dsimp (disch:=first|exact D|fail) only [go_sem,↓reduceIte,seval,w1]
 repeat' (first|((with_reducible refine qV tyOk fun K hK=>?_)<;>simp -dsimp (disch:=first|exact D|fail) only [go_sem,↓reduceIte,seval,w1])|((with_reducible refine hK _ ?_);clear hK K)|refine Q1 ?_|fail)
 have e1:k - 0+(xs.length - (k+1))=xs.length - 1:=by omega
 have e2:xs.length - (xs.length - 1)=1:=by omega
 have e3:(xs.take (k - 0)++xs.drop (k+1)++xs.drop (xs.length - 1)).take (xs.length - 1)=xs.take k++xs.drop (k+1):=List.take_left' (by simp;omega)
 have e4:(xs.take (k - 0)++xs.drop (k+1)++xs.drop (xs.length - 1)).drop (xs.length - 1+1)=[]:=List.drop_of_length_le (by simp;omega)
 simp only [e1,e2,e3,e4,List.replicate_succ,List.replicate_zero,List.append_nil]
 simp -dsimp (disch:=first|exact D|fail) only [retQ,Tryz.results91,resVals,cellRV,resOf,St.rest,St.freeze,RT,go_sem,↓reduceIte,seval]
theorem get_of_eq {α:Type} {a b:List α} {k:Nat} (ha:k<a.length) (hb:k<b.length) (h:a=b):a[k]=b[k]:=by subst h;rfl
def keptR {α:Type} (e:α→List L) (p:α→Bool) (l:List α) (j:Nat):List (List L):=(((l.take j).filter fun x=>!p x)++l.drop ((l.take j).filter fun x=>!p x).length).map e
theorem setL_all':∀(vs ls:List L),vs.length=ls.length→setL 0 vs ls=vs
 | [],[],_=>rfl
 | v::vs,l::ls,h=>by rw [setL,setL_all' vs ls (by simpa using h)]
 | [],_::_,h=>by simp at h
 | _::_,[],h=>by simp at h
def zTbls:List L:=[.str ByteArray.empty,.sl 3 [],.sl 1 []]
def zFKs:List L:=[.str ByteArray.empty,.sl 1 [],.str ByteArray.empty]
def zCons:List L:=[.str ByteArray.empty,.int .i64 0,.str ByteArray.empty,.int .i64 0,.int .i64 0,.int .i64 0,.str ByteArray.empty]
set_option maxHeartbeats 8000000 in
theorem cloneTable_own (t:Tbl) (h1:t.cols.length≤1099511627776) (h2:t.pk.length≤1099511627776):SatM Tryz.prog 36 [.agg (eTbl t)] [] [] (.v (.agg [.str t.name,.ref 7 0 t.cols.length,.ref 10 0 t.pk.length])) [] [(7,⟨3,t.cols.map eCol,[]⟩),(10,⟨1,t.pk.map eInt1,[]⟩)]:=by
 refine sM tyOk [] [7,10] Tryz.func36 fun w0 m0 F0=>?_
 simp only [Tryz.ntmps36,envOf,Nat.reduceAdd]
 repeat' (first|((with_reducible refine qV tyOk fun K hK=>?_)<;>simp -dsimp (disch:=first|exact D|fail) only [go_sem,↓reduceIte,seval])|((with_reducible refine hK _ ?_);clear hK K)|refine Q1 ?_|fail)
 refine dX tyOk mixed [(0,4),(5,2)] [(4,[],[(0,2),(5,2)]),(7,[(8,1)],[(0,2)]),(9,[],[])] [4,7,9] 8 fun K hK=>?_
 simp only [SG,segs] at hK ⊢
 simp -dsimp (disch:=first|exact D|fail) only [go_sem,↓reduceIte,seval,Option.getD_none]
 repeat' (first|((first|((with_reducible refine CallJ.is ?_);refine CallJ.io [] [] [] [(2,7)] [] [7] [] [7] (cloneCols_own t.cols h1) rfl ⟨rfl,rfl,rfl,rfl⟩ ?_ ?_ ?_)|((with_reducible refine CallJ.is ?_);refine CallJ.io [] [] [] [(2,10)] [] [10] [] [10] (cloneInts_own t.pk h2) rfl ⟨rfl,rfl,rfl,rfl⟩ ?_ ?_ ?_)|(with_reducible first|refine VCy.some fun K hK=>?_|refine VCy.step fun K hK=>?_))<;>simp -dsimp (disch:=first|exact D|fail) only [go_sem,↓reduceIte,seval,dropL_nil,dropL_nil',dropL_cons])|((with_reducible refine hK _ ?_);clear hK K)|(with_reducible refine VCy.intro fun K0 hK0=>?_)|((with_reducible refine VCy.fin ?_);(refine hK0 _ ?_);clear hK0 K0)|(with_reducible first|refine VCy.quiet ?_|refine VCy.none ?_)|((with_reducible refine VCy.keep ?_ ?_);focus ((simp -dsimp (disch:=first|exact D|fail) only [go_sem,↓reduceIte,seval,Stable_cons,Stable_nil,sameA_some,sameA_none,dropL_nil,dropL_nil',dropL_cons]);first|done|exact E|fail))|refine Q1 ?_|fail)
 simp -dsimp (disch:=first|exact D|fail) only [retQ,Tryz.results36,resVals,cellRV,resOf,St.rest,St.freeze,RT,go_sem,↓reduceIte,seval]
theorem setCell_last {α:Type} (e:α→List L) (l:List α) (k:Nat) (hk:k=l.length) (x:List L) (j:Nat) (u:L):setCell (l.map e++[x]) k j u=l.map e++[x.set j u]:=by
 subst hk
 unfold setCell
 have e1:(l.map e++[x]).getD l.length []=x:=by
  rw [List.getD_eq_getElem?_getD,List.getElem?_append_right (by simp)]
  simp
 rw [e1,List.set_append_right _ _ (by simp)]
 simp
def fR (s:Sch):Rows:=[(1000,⟨3,s.tables.map eTbl,[]⟩),(1001,⟨3,s.fks.map eFK,[]⟩),(1002,⟨7,s.cons.map eCon,[]⟩)]
def oB1 (s:Sch):Boxes:=[(1000,[.ref 1 0 s.tables.length,.ref 2 0 s.fks.length,.ref 3 0 s.cons.length])]
def oR1 (s:Sch):Rows:=[(1,⟨3,s.tables.map eTbl,[]⟩),(2,⟨3,s.fks.map eFK,[]⟩),(3,⟨7,s.cons.map eCon,[]⟩)]
theorem frz3 {α:Type} {e:α→List L} (h:∀x,(e x).map (L.frzN 3)=e x) (l:List α):(l.map e).map (fun x=>x.map (L.frzN 3))=l.map e:=by
 rw [List.map_map]
 exact List.map_congr_left fun x _=>h x
theorem frzTbl (l:List Tbl):frzXs (l.map eTbl)=l.map eTbl:=frz_eTbl l
theorem cut_map {α:Type} (e:α→List L) (l:List α) (k:Nat) (h:k<l.length) (z:List L):((l.map e).take k++(l.map e).drop (k+1)++[z]).take (l.length - 1)=(l.take k++l.drop (k+1)).map e:=by
 rw [List.take_left' (by simp;omega),List.map_append,List.map_take,List.map_drop]
theorem cut_len {α:Type} (l:List α) (k:Nat) (h:k<l.length):(l.take k++l.drop (k+1)).length=l.length - 1:=by simp;omega
structure SmallS (s:Sch):Prop where
 tables:s.tables.length≤6
 table:∀t∈s.tables,t.cols.length≤6∧t.pk.length≤6∧∀c∈t.pk,0≤c∧c≤6
 fks:s.fks.length≤8
 fk:∀f∈s.fks,f.cols.length≤6∧∀c∈f.cols,0≤c∧c≤6
 cons:s.cons.length≤8
 con:∀c∈s.cons,0≤c.left∧c.left≤6∧-1≤c.right∧c.right≤6
theorem find_take {α:Type} {p:α→Bool} {l:List α} {k:Nat} (hk:k<l.length) (h:∀x∈l.take k,p x=false) (hx:p l[k]=true):l.find? p=some l[k]:=by
 rw [List.find?_eq_some_iff_getElem]
 refine ⟨hx,k,hk,rfl,fun j hj=>?_⟩
 have:=h l[j] (List.mem_take_iff_getElem.2 ⟨j,by omega,rfl⟩)
 simp [this]
def updT (table:ByteArray) (f:FK):FK:={f with table:=table}
def updC (table:ByteArray) (c:Con):Con:={c with table:=table}
theorem takeM {α β:Type} (e:α→β) (l:List α):List.take l.length (l.map e)=l.map e:=List.take_of_length_le (by simp)
theorem any_of_at {α:Type} {p:α→Bool} {l:List α} {k:Nat} (hk:k<l.length) (h:p l[k]=true):l.any p=true:=List.any_eq_true.2 ⟨_,List.getElem_mem hk,h⟩
theorem take_no {α:Type} {p:α→Bool} {l:List α} {k:Nat} (hk:k<l.length) (hi:(l.take k).any p=false) (h:p l[k]=false):(l.take (k+1)).any p=false:=by
 rw [List.take_succ_eq_append_getElem hk,List.any_append,hi,List.any_cons,List.any_nil,h];rfl
theorem takeM' {α β:Type} (e:α→β) (l:List α):List.take l.length (l.map e)=l.map e:=List.take_of_length_le (by simp)
theorem peekXs_len (xs:List (List L)):(peekXs xs).length=xs.length:=List.length_map ..
theorem frzXs_set (xs:List (List L)) (i:Nat) (x:List L):frzXs (xs.set i x)=(frzXs xs).set i (x.map (L.frzN 4)):=by
 unfold frzXs
 rw [List.map_set]
theorem getD_set1 (l:List (List L)) (i:Nat) (x:List L) (h:i<l.length):(l.set i x).getD i []=x:=by
 rw [List.getD_eq_getElem?_getD,List.getElem?_set_self h,Option.getD_some]
theorem frz3c (l:List Col):(l.map eCol).map (fun x=>x.map (L.frzN 3))=l.map eCol:=frz3 (fun _=>rfl) l
theorem frz3i (l:List Int):(l.map eInt1).map (fun x=>x.map (L.frzN 3))=l.map eInt1:=frz3 (fun _=>rfl) l
def PkOk (t:Tbl):Prop:=∀c∈t.pk,0≤c∧c<(t.cols.length:Int)
theorem any_false_of {α:Type} {p:α→Bool} {l:List α} (h:¬ l.any p=true):l.any p=false:=by simpa using h
def eSchs (l:List Sch):L:=.sl 3 (l.map eSch)
theorem frz_eSch (l:List Sch):(l.map eSch).map (fun x=>x.map (L.frzN 4))=l.map eSch:=frz_map (fun _=>rfl) l
def zSch:Sch:=⟨[],[],[]⟩
abbrev ResL:=Except Int (List Sch)
structure Hp where
 edge:Nat
 back:Bool
deriving DecidableEq
def anc (P:Nat→Nat) (v:Nat):List Nat:=if h:0<v∧P v<v then v::anc P (P v) else [v]
termination_by v
decreasing_by exact h.2
def climb (P:Nat→Nat) (u:List Nat) (m:Nat):List Nat×Nat:=if h:m ∉ u∧0<m∧P m<m then ((m - 1)::(climb P u (P m)).1,(climb P u (P m)).2) else ([],m)
termination_by m
decreasing_by all_goals exact h.2.2
def pathL (P:Nat→Nat) (a b:Nat):List Hp :=
 ((anc P a).takeWhile fun v=>v != (climb P (anc P a) b).2).map (fun v=>⟨v - 1,true⟩)++(climb P (anc P a) b).1.reverse.map fun e=>⟨e,false⟩
theorem anc_zero (P:Nat→Nat):anc P 0=[0]:=by rw [anc,dif_neg (by omega)]
theorem anc_succ {P:Nat→Nat} {v:Nat} (h0:0<v) (h:P v<v):anc P v=v::anc P (P v):=by rw [anc,dif_pos ⟨h0,h⟩]
theorem anc_len (P:Nat→Nat) (v:Nat):(anc P v).length≤v+1:=by
 induction v using Nat.strongRecOn with
 | _ v ih =>
  rw [anc]
  split
  ·rename_i h
   have:=ih _ h.2
   simp only [List.length_cons]
   omega
  ·simp
theorem anc_le {P:Nat→Nat} {v x:Nat} (h:x∈anc P v):x≤v:=by
 induction v using Nat.strongRecOn with
 | _ v ih =>
  rw [anc] at h
  split at h
  ·rename_i q
   rcases List.mem_cons.1 h with h|h
   ·omega
   ·have:=ih _ q.2 h
    omega
  ·have:=List.mem_singleton.1 h
   omega
def Falls (P:Nat→Nat) (n:Nat):Prop:=∀v,0<v→v≤n→P v<v
theorem anc_has0 {P:Nat→Nat} {n v:Nat} (hP:Falls P n) (hv:v≤n):0∈anc P v:=by
 induction v using Nat.strongRecOn with
 | _ v ih =>
  rcases Nat.eq_zero_or_pos v with h0|h0
  ·subst h0;rw [anc_zero];exact List.mem_singleton.2 rfl
  ·have:=hP v h0 hv
   rw [anc_succ h0 this]
   exact List.mem_cons_of_mem _ (ih _ this (by omega))
theorem climb_in {P:Nat→Nat} {u:List Nat} {m:Nat} (h:m∈u):climb P u m=([],m):=by rw [climb,dif_neg (fun q=>q.1 h)]
theorem climb_out {P:Nat→Nat} {u:List Nat} {m:Nat} (h:m ∉ u) (h0:0<m) (h1:P m<m):climb P u m=((m - 1)::(climb P u (P m)).1,(climb P u (P m)).2):=by rw [climb,dif_pos ⟨h,h0,h1⟩]
theorem climb_len {P:Nat→Nat} {u:List Nat} (m:Nat):(climb P u m).1.length≤m:=by
 induction m using Nat.strongRecOn with
 | _ m ih =>
  rw [climb]
  split
  ·rename_i h
   have:=ih _ h.2.2
   simp only [List.length_cons]
   omega
  ·simp
theorem climb_end {P:Nat→Nat} {n:Nat} {u:List Nat} (hP:Falls P n) (u0:0∈u) {m:Nat} (hm:m≤n):(climb P u m).2∈u:=by
 induction m using Nat.strongRecOn with
 | _ m ih =>
  by_cases hin:m∈u
  ·rw [climb_in hin];exact hin
  ·have m0:0<m:=by
    rcases Nat.eq_zero_or_pos m with h0|h0
    ·exact absurd (h0▸u0) hin
    ·exact h0
   have hp:=hP m m0 hm
   rw [climb_out hin m0 hp]
   exact ih _ hp (by omega)
theorem anc_down {P:Nat→Nat} (v:Nat):(anc P v).Pairwise (· > ·):=by
 induction v using Nat.strongRecOn with
 | _ v ih =>
  rw [anc]
  split
  ·rename_i h
   refine List.pairwise_cons.2 ⟨fun x hx=>?_,ih _ h.2⟩
   have:=anc_le hx
   omega
  ·exact List.pairwise_singleton _ _
theorem takeWhile_stop {α:Type} {p:α→Bool} {l:List α} {k:Nat} (hk:k<l.length) (h:∀j,∀q:j<k,p (l[j]'(by omega))=true) (hs:p l[k]=false):l.takeWhile p=l.take k:=by
 induction l generalizing k with
 | nil=>simp at hk
 | cons x r ih =>
  cases k with
  | zero=>simp only [List.getElem_cons_zero] at hs;simp [List.takeWhile_cons,hs]
  | succ k =>
   have h0:=h 0 (by omega)
   simp only [List.getElem_cons_zero] at h0
   rw [List.takeWhile_cons,if_pos h0,List.take_succ_cons,ih (by simpa using hk) (fun j q=>by have:=h (j+1) (by omega);simpa using this) (by simpa using hs)]
theorem takeWhile_all {α:Type} {p:α→Bool} {l:List α} (h:∀j,∀q:j<l.length,p l[j]=true):l.takeWhile p=l:=by
 induction l with
 | nil=>rfl
 | cons x r ih =>
  have h0:=h 0 (by simp)
  simp only [List.getElem_cons_zero] at h0
  rw [List.takeWhile_cons,if_pos h0,ih fun j q=>by have:=h (j+1) (by simpa using q);simpa using this]
def eHp (h:Hp):List L:=[.int .i64 (h.edge:Int),.bool h.back]
def eHps (l:List Hp):L:=.sl 2 (l.map eHp)
theorem frz_eHp (l:List Hp):(l.map eHp).map (fun x=>x.map (L.frzN 4))=l.map eHp:=frz_map (fun _=>rfl) l
def natI (l:List Nat):List Int:=l.map fun (n:Nat)=>(n:Int)
theorem natI_len (l:List Nat):(natI l).length=l.length:=List.length_map ..
theorem natI_snoc (l:List Nat) (u:Nat):(natI (l++[u])).map eInt1=(natI l).map eInt1++[[.int .i64 (u:Int)]]:=by
 unfold natI
 rw [List.map_append,List.map_append]
 rfl
def zHp:Hp:=⟨0,false⟩
def revTo (l:List Hp) (k:Nat):List Hp:=(List.range l.length).map fun j=>if j<k∨l.length≤j+k then l.getD (l.length - 1 - j) zHp else l.getD j zHp
theorem revTo_len (l:List Hp) (k:Nat):(revTo l k).length=l.length:=by simp [revTo]
theorem revTo_at {l:List Hp} {k j:Nat} (h:j<l.length):(revTo l k)[j]'(by rw [revTo_len];exact h)=if j<k∨l.length≤j+k then l.getD (l.length - 1 - j) zHp else l.getD j zHp:=by simp [revTo]
theorem revTo_succ (l:List Hp) {k:Nat} (h:2 * k+1<l.length):((revTo l k).set k (l.getD (l.length - 1 - k) zHp)).set (l.length - 1 - k) (l.getD k zHp)=revTo l (k+1):=by
 refine List.ext_getElem (by simp [revTo_len]) fun j h1 h2=>?_
 rw [revTo_len] at h2
 rw [List.getElem_set,List.getElem_set,revTo_at h2,revTo_at h2]
 by_cases e1:l.length - 1 - k=j
 ·subst e1
  rw [if_pos rfl,if_pos (by omega),show l.length - 1 - (l.length - 1 - k)=k by omega]
 rw [if_neg e1]
 by_cases e2:k=j
 ·subst e2
  rw [if_pos rfl,if_pos (by omega)]
 rw [if_neg e2]
 by_cases hj:j<k∨l.length≤j+k
 ·rw [if_pos hj,if_pos (by omega)]
 ·rw [if_neg hj,if_neg (by omega)]
theorem hp_eq {a b:Hp}:a=b↔(a.edge:Int)=b.edge∧a.back=b.back:=by
 constructor
 ·rintro rfl;exact ⟨rfl,rfl⟩
 ·rintro ⟨h1,h2⟩
  cases a;cases b
  simp only at h1 h2
  have h1:=Int.ofNat.inj h1
  rw [h1,h2]
abbrev ResH:=Except Int (List Hp)
theorem noOwn_eHp (l:List Hp):noOwn (l.map eHp)=True:=noOwn_map (fun _=>rfl) l
theorem elem_natI (l:List Nat) (m:Nat):(natI l).elem (m:Int)=decide (m∈l):=by
 rw [Bool.eq_iff_iff]
 simp only [natI,List.elem_eq_mem,decide_eq_true_eq,List.mem_map]
 constructor
 ·rintro ⟨a,h,e⟩
  have:=Int.ofNat.inj e
  subst this
  exact h
 ·intro h
  exact ⟨m,h,rfl⟩
end Go.Bw
