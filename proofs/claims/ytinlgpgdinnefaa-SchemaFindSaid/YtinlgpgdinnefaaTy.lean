/-
  THE TYPES OF THIS TRANSLATION, AS THE ABSTRACT LAYER WANTS THEM (printed by program).
-/
import Derived.Test.YtinlgpgdinnefaaProg
import Derived.KernelRfl
import Derived.Test.YtinlgpgdinnefaaB17
namespace Go.Bw
open Go.Proofs
def tyTab : List (Nat × TI) := [
  (2, { size := 1, bytes := 8, agg := false, elem := none, fields := none, isStr := false, zero := some [.int .i64 0] }),
  (3, { size := 1, bytes := 8, agg := false, elem := none, fields := none, isStr := false, zero := some [.int .i64 0] }),
  (4, { size := 1, bytes := 1, agg := false, elem := none, fields := none, isStr := false, zero := some [.bool false] }),
  (5, { size := 1, bytes := 1, agg := false, elem := none, fields := none, isStr := false, zero := some [.int .u8 0] }),
  (9, { size := 1, bytes := 16, agg := false, elem := none, fields := none, isStr := true, zero := some [.str ByteArray.empty] }),
  (12, { size := 1, bytes := 8, agg := false, elem := none, fields := none, isStr := false, zero := some [.int .u64 0] }),
  (13, { size := 2, bytes := 24, agg := true, elem := none, fields := some [(0, 9), (1, 12)], isStr := false, zero := some [.str ByteArray.empty, .int .u64 0] }),
  (21, { size := 1, bytes := 4, agg := false, elem := none, fields := none, isStr := false, zero := some [.int .i32 0] }),
  (22, { size := 1, bytes := 24, agg := false, elem := some 33, fields := none, isStr := false, zero := some [.nil 3] }),
  (23, { size := 1, bytes := 24, agg := false, elem := some 55, fields := none, isStr := false, zero := some [.nil 3] }),
  (24, { size := 1, bytes := 24, agg := false, elem := some 61, fields := none, isStr := false, zero := some [.nil 7] }),
  (25, { size := 3, bytes := 72, agg := true, elem := none, fields := some [(0, 22), (1, 23), (2, 24)], isStr := false, zero := some [.nil 3, .nil 3, .nil 7] }),
  (26, { size := 3, bytes := 72, agg := true, elem := none, fields := some [(0, 22), (1, 23), (2, 24)], isStr := false, zero := some [.nil 3, .nil 3, .nil 7] }),
  (28, { size := 1, bytes := 8, agg := false, elem := none, fields := none, isStr := false, zero := some [.int .i64 0] }),
  (30, { size := 1, bytes := 24, agg := false, elem := some 38, fields := none, isStr := false, zero := some [.nil 3] }),
  (31, { size := 1, bytes := 24, agg := false, elem := some 3, fields := none, isStr := false, zero := some [.nil 1] }),
  (32, { size := 3, bytes := 64, agg := true, elem := none, fields := some [(0, 9), (1, 30), (2, 31)], isStr := false, zero := some [.str ByteArray.empty, .nil 3, .nil 1] }),
  (33, { size := 3, bytes := 64, agg := true, elem := none, fields := some [(0, 9), (1, 30), (2, 31)], isStr := false, zero := some [.str ByteArray.empty, .nil 3, .nil 1] }),
  (37, { size := 3, bytes := 32, agg := true, elem := none, fields := some [(0, 9), (1, 3), (2, 4)], isStr := false, zero := some [.str ByteArray.empty, .int .i64 0, .bool false] }),
  (38, { size := 3, bytes := 32, agg := true, elem := none, fields := some [(0, 9), (1, 3), (2, 4)], isStr := false, zero := some [.str ByteArray.empty, .int .i64 0, .bool false] }),
  (41, { size := 1, bytes := 24, agg := false, elem := some 43, fields := none, isStr := false, zero := some [.nil 1] }),
  (42, { size := 1, bytes := 24, agg := false, elem := some 59, fields := none, isStr := false, zero := some [.nil 3] }),
  (43, { size := 1, bytes := 24, agg := false, elem := some 59, fields := none, isStr := false, zero := some [.nil 3] }),
  (54, { size := 3, bytes := 56, agg := true, elem := none, fields := some [(0, 9), (1, 31), (2, 9)], isStr := false, zero := some [.str ByteArray.empty, .nil 1, .str ByteArray.empty] }),
  (55, { size := 3, bytes := 56, agg := true, elem := none, fields := some [(0, 9), (1, 31), (2, 9)], isStr := false, zero := some [.str ByteArray.empty, .nil 1, .str ByteArray.empty] }),
  (58, { size := 3, bytes := 32, agg := true, elem := none, fields := some [(0, 3), (1, 3), (2, 9)], isStr := false, zero := some [.int .i64 0, .int .i64 0, .str ByteArray.empty] }),
  (59, { size := 3, bytes := 32, agg := true, elem := none, fields := some [(0, 3), (1, 3), (2, 9)], isStr := false, zero := some [.int .i64 0, .int .i64 0, .str ByteArray.empty] }),
  (60, { size := 7, bytes := 80, agg := true, elem := none, fields := some [(0, 9), (1, 3), (2, 9), (3, 3), (4, 59)], isStr := false, zero := some [.str ByteArray.empty, .int .i64 0, .str ByteArray.empty, .int .i64 0, .int .i64 0, .int .i64 0, .str ByteArray.empty] }),
  (61, { size := 7, bytes := 80, agg := true, elem := none, fields := some [(0, 9), (1, 3), (2, 9), (3, 3), (4, 59)], isStr := false, zero := some [.str ByteArray.empty, .int .i64 0, .str ByteArray.empty, .int .i64 0, .int .i64 0, .int .i64 0, .str ByteArray.empty] }),
  (65, { size := 1, bytes := 24, agg := false, elem := some 71, fields := none, isStr := false, zero := some [.nil 2] }),
  (66, { size := 1, bytes := 24, agg := false, elem := some 71, fields := none, isStr := false, zero := some [.nil 2] }),
  (70, { size := 2, bytes := 40, agg := true, elem := none, fields := some [(0, 9), (1, 41)], isStr := false, zero := some [.str ByteArray.empty, .nil 1] }),
  (71, { size := 2, bytes := 40, agg := true, elem := none, fields := some [(0, 9), (1, 41)], isStr := false, zero := some [.str ByteArray.empty, .nil 1] }),
  (78, { size := 1, bytes := 24, agg := false, elem := some 83, fields := none, isStr := false, zero := some [.nil 4] }),
  (82, { size := 4, bytes := 72, agg := true, elem := none, fields := some [(0, 3), (1, 9), (2, 43), (3, 43)], isStr := false, zero := some [.int .i64 0, .str ByteArray.empty, .nil 3, .nil 3] }),
  (83, { size := 4, bytes := 72, agg := true, elem := none, fields := some [(0, 3), (1, 9), (2, 43), (3, 43)], isStr := false, zero := some [.int .i64 0, .str ByteArray.empty, .nil 3, .nil 3] }),
  (102, { size := 1, bytes := 24, agg := false, elem := some 5, fields := none, isStr := false, zero := some [.nil 1] }),
  (126, { size := 1, bytes := 24, agg := false, elem := some 78, fields := none, isStr := false, zero := some [.nil 1] }),
  (130, { size := 1, bytes := 24, agg := false, elem := some 66, fields := none, isStr := false, zero := some [.nil 1] }),
  (156, { size := 1, bytes := 8, agg := false, elem := none, fields := none, isStr := false, zero := some [.int .u64 0] }),
  (164, { size := 1, bytes := 4, agg := false, elem := none, fields := none, isStr := false, zero := some [.int .u32 0] })]
def TT (t : TypeId) : Option TI := look tyTab t
theorem look_mem {α : Type} {x : α} : ∀ (e : List (Nat × α)) (i : Nat), look e i = some x → (i, x) ∈ e
  | [], _, h => by cases h
  | (t, y) :: e, i, h => by
    simp only [look] at h
    split at h
    · injection h with h; subst h; subst t; simp
    · exact List.mem_cons_of_mem _ (look_mem e i h)
theorem tyAll : (tyTab.all fun p => tiOk Try.prog p.1 p.2) = true := by kernel_rfl
theorem tyOk : TabOk Try.prog TT := fun t i h => List.all_eq_true.1 tyAll (t, i) (look_mem tyTab t h)
theorem TT_2 : TT 2 = some { size := 1, bytes := 8, agg := false, elem := none, fields := none, isStr := false, zero := some [.int .i64 0] } := rfl
theorem TT_3 : TT 3 = some { size := 1, bytes := 8, agg := false, elem := none, fields := none, isStr := false, zero := some [.int .i64 0] } := rfl
theorem TT_4 : TT 4 = some { size := 1, bytes := 1, agg := false, elem := none, fields := none, isStr := false, zero := some [.bool false] } := rfl
theorem TT_5 : TT 5 = some { size := 1, bytes := 1, agg := false, elem := none, fields := none, isStr := false, zero := some [.int .u8 0] } := rfl
theorem TT_9 : TT 9 = some { size := 1, bytes := 16, agg := false, elem := none, fields := none, isStr := true, zero := some [.str ByteArray.empty] } := rfl
theorem TT_12 : TT 12 = some { size := 1, bytes := 8, agg := false, elem := none, fields := none, isStr := false, zero := some [.int .u64 0] } := rfl
theorem TT_13 : TT 13 = some { size := 2, bytes := 24, agg := true, elem := none, fields := some [(0, 9), (1, 12)], isStr := false, zero := some [.str ByteArray.empty, .int .u64 0] } := rfl
theorem TT_21 : TT 21 = some { size := 1, bytes := 4, agg := false, elem := none, fields := none, isStr := false, zero := some [.int .i32 0] } := rfl
theorem TT_22 : TT 22 = some { size := 1, bytes := 24, agg := false, elem := some 33, fields := none, isStr := false, zero := some [.nil 3] } := rfl
theorem TT_23 : TT 23 = some { size := 1, bytes := 24, agg := false, elem := some 55, fields := none, isStr := false, zero := some [.nil 3] } := rfl
theorem TT_24 : TT 24 = some { size := 1, bytes := 24, agg := false, elem := some 61, fields := none, isStr := false, zero := some [.nil 7] } := rfl
theorem TT_25 : TT 25 = some { size := 3, bytes := 72, agg := true, elem := none, fields := some [(0, 22), (1, 23), (2, 24)], isStr := false, zero := some [.nil 3, .nil 3, .nil 7] } := rfl
theorem TT_26 : TT 26 = some { size := 3, bytes := 72, agg := true, elem := none, fields := some [(0, 22), (1, 23), (2, 24)], isStr := false, zero := some [.nil 3, .nil 3, .nil 7] } := rfl
theorem TT_28 : TT 28 = some { size := 1, bytes := 8, agg := false, elem := none, fields := none, isStr := false, zero := some [.int .i64 0] } := rfl
theorem TT_30 : TT 30 = some { size := 1, bytes := 24, agg := false, elem := some 38, fields := none, isStr := false, zero := some [.nil 3] } := rfl
theorem TT_31 : TT 31 = some { size := 1, bytes := 24, agg := false, elem := some 3, fields := none, isStr := false, zero := some [.nil 1] } := rfl
theorem TT_32 : TT 32 = some { size := 3, bytes := 64, agg := true, elem := none, fields := some [(0, 9), (1, 30), (2, 31)], isStr := false, zero := some [.str ByteArray.empty, .nil 3, .nil 1] } := rfl
theorem TT_33 : TT 33 = some { size := 3, bytes := 64, agg := true, elem := none, fields := some [(0, 9), (1, 30), (2, 31)], isStr := false, zero := some [.str ByteArray.empty, .nil 3, .nil 1] } := rfl
theorem TT_37 : TT 37 = some { size := 3, bytes := 32, agg := true, elem := none, fields := some [(0, 9), (1, 3), (2, 4)], isStr := false, zero := some [.str ByteArray.empty, .int .i64 0, .bool false] } := rfl
theorem TT_38 : TT 38 = some { size := 3, bytes := 32, agg := true, elem := none, fields := some [(0, 9), (1, 3), (2, 4)], isStr := false, zero := some [.str ByteArray.empty, .int .i64 0, .bool false] } := rfl
theorem TT_41 : TT 41 = some { size := 1, bytes := 24, agg := false, elem := some 43, fields := none, isStr := false, zero := some [.nil 1] } := rfl
theorem TT_42 : TT 42 = some { size := 1, bytes := 24, agg := false, elem := some 59, fields := none, isStr := false, zero := some [.nil 3] } := rfl
theorem TT_43 : TT 43 = some { size := 1, bytes := 24, agg := false, elem := some 59, fields := none, isStr := false, zero := some [.nil 3] } := rfl
theorem TT_54 : TT 54 = some { size := 3, bytes := 56, agg := true, elem := none, fields := some [(0, 9), (1, 31), (2, 9)], isStr := false, zero := some [.str ByteArray.empty, .nil 1, .str ByteArray.empty] } := rfl
theorem TT_55 : TT 55 = some { size := 3, bytes := 56, agg := true, elem := none, fields := some [(0, 9), (1, 31), (2, 9)], isStr := false, zero := some [.str ByteArray.empty, .nil 1, .str ByteArray.empty] } := rfl
theorem TT_58 : TT 58 = some { size := 3, bytes := 32, agg := true, elem := none, fields := some [(0, 3), (1, 3), (2, 9)], isStr := false, zero := some [.int .i64 0, .int .i64 0, .str ByteArray.empty] } := rfl
theorem TT_59 : TT 59 = some { size := 3, bytes := 32, agg := true, elem := none, fields := some [(0, 3), (1, 3), (2, 9)], isStr := false, zero := some [.int .i64 0, .int .i64 0, .str ByteArray.empty] } := rfl
theorem TT_60 : TT 60 = some { size := 7, bytes := 80, agg := true, elem := none, fields := some [(0, 9), (1, 3), (2, 9), (3, 3), (4, 59)], isStr := false, zero := some [.str ByteArray.empty, .int .i64 0, .str ByteArray.empty, .int .i64 0, .int .i64 0, .int .i64 0, .str ByteArray.empty] } := rfl
theorem TT_61 : TT 61 = some { size := 7, bytes := 80, agg := true, elem := none, fields := some [(0, 9), (1, 3), (2, 9), (3, 3), (4, 59)], isStr := false, zero := some [.str ByteArray.empty, .int .i64 0, .str ByteArray.empty, .int .i64 0, .int .i64 0, .int .i64 0, .str ByteArray.empty] } := rfl
theorem TT_65 : TT 65 = some { size := 1, bytes := 24, agg := false, elem := some 71, fields := none, isStr := false, zero := some [.nil 2] } := rfl
theorem TT_66 : TT 66 = some { size := 1, bytes := 24, agg := false, elem := some 71, fields := none, isStr := false, zero := some [.nil 2] } := rfl
theorem TT_70 : TT 70 = some { size := 2, bytes := 40, agg := true, elem := none, fields := some [(0, 9), (1, 41)], isStr := false, zero := some [.str ByteArray.empty, .nil 1] } := rfl
theorem TT_71 : TT 71 = some { size := 2, bytes := 40, agg := true, elem := none, fields := some [(0, 9), (1, 41)], isStr := false, zero := some [.str ByteArray.empty, .nil 1] } := rfl
theorem TT_78 : TT 78 = some { size := 1, bytes := 24, agg := false, elem := some 83, fields := none, isStr := false, zero := some [.nil 4] } := rfl
theorem TT_82 : TT 82 = some { size := 4, bytes := 72, agg := true, elem := none, fields := some [(0, 3), (1, 9), (2, 43), (3, 43)], isStr := false, zero := some [.int .i64 0, .str ByteArray.empty, .nil 3, .nil 3] } := rfl
theorem TT_83 : TT 83 = some { size := 4, bytes := 72, agg := true, elem := none, fields := some [(0, 3), (1, 9), (2, 43), (3, 43)], isStr := false, zero := some [.int .i64 0, .str ByteArray.empty, .nil 3, .nil 3] } := rfl
theorem TT_102 : TT 102 = some { size := 1, bytes := 24, agg := false, elem := some 5, fields := none, isStr := false, zero := some [.nil 1] } := rfl
theorem TT_126 : TT 126 = some { size := 1, bytes := 24, agg := false, elem := some 78, fields := none, isStr := false, zero := some [.nil 1] } := rfl
theorem TT_130 : TT 130 = some { size := 1, bytes := 24, agg := false, elem := some 66, fields := none, isStr := false, zero := some [.nil 1] } := rfl
theorem TT_156 : TT 156 = some { size := 1, bytes := 8, agg := false, elem := none, fields := none, isStr := false, zero := some [.int .u64 0] } := rfl
theorem TT_164 : TT 164 = some { size := 1, bytes := 4, agg := false, elem := none, fields := none, isStr := false, zero := some [.int .u32 0] } := rfl
theorem eqK_38 : eqK Try.prog 38 = some [2, 0, 1] := by kernel_rfl
theorem eqK_59 : eqK Try.prog 59 = some [0, 0, 2] := by kernel_rfl
theorem eqK_61 : eqK Try.prog 61 = some [2, 0, 2, 0, 0, 0, 2] := by kernel_rfl
theorem convK_2 : convK Try.prog 2 = some .i64 := by kernel_rfl
theorem convK_3 : convK Try.prog 3 = some .i64 := by kernel_rfl
theorem convK_5 : convK Try.prog 5 = some .u8 := by kernel_rfl
theorem convK_12 : convK Try.prog 12 = some .u64 := by kernel_rfl
theorem convK_21 : convK Try.prog 21 = some .i32 := by kernel_rfl
theorem convK_28 : convK Try.prog 28 = some .i64 := by kernel_rfl
theorem convK_156 : convK Try.prog 156 = some .u64 := by kernel_rfl
theorem convK_164 : convK Try.prog 164 = some .u32 := by kernel_rfl
theorem boolTy_4 : boolTy Try.prog 4 = true := by kernel_rfl
theorem mixed : Try.prog.follows .mixedOrders = true := by kernel_rfl
end Go.Bw
