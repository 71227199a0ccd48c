import Derived.Test.YtlicnnoljbfhfaaDoorSxX
import Derived.Test.YtlicnnoljbfhfaaDoorRows
import Derived.KernelRfl

namespace Go.Sx
open Go.Proofs
def tb : TB := [(2, ⟨.int .i64, 1, 8, (.cons (.int .i64 0) .nil), false⟩),
  (2, ⟨.int .i64, 1, 8, (.cons (.int .i64 0) .nil), false⟩),
  (3, ⟨.int .i64, 1, 8, (.cons (.int .i64 0) .nil), false⟩),
  (4, ⟨.bool, 1, 1, (.cons (.bool false) .nil), false⟩),
  (5, ⟨.int .u8, 1, 1, (.cons (.int .u8 0) .nil), false⟩),
  (6, ⟨.int .u8, 1, 1, (.cons (.int .u8 0) .nil), false⟩),
  (7, ⟨.struct [(0, 2), (1, 3), (2, 4), (3, 6)], 4, 24, (.cons (.int .i64 0) (.cons (.int .i64 0) (.cons (.bool false) (.cons (.int .u8 0) .nil)))), false⟩),
  (8, ⟨.struct [(0, 2), (1, 3), (2, 4), (3, 6)], 4, 24, (.cons (.int .i64 0) (.cons (.int .i64 0) (.cons (.bool false) (.cons (.int .u8 0) .nil)))), false⟩),
  (9, ⟨.str, 1, 16, (.cons (.string ⟨#[]⟩) .nil), false⟩),
  (10, ⟨.str, 1, 16, (.cons (.string ⟨#[]⟩) .nil), false⟩),
  (11, ⟨.str, 1, 16, (.cons (.string ⟨#[]⟩) .nil), false⟩),
  (12, ⟨.int .u64, 1, 8, (.cons (.int .u64 0) .nil), false⟩),
  (13, ⟨.struct [(0, 9), (1, 12)], 2, 24, (.cons (.string ⟨#[]⟩) (.cons (.int .u64 0) .nil)), false⟩),
  (14, ⟨.struct [(0, 9), (1, 12)], 2, 24, (.cons (.string ⟨#[]⟩) (.cons (.int .u64 0) .nil)), false⟩),
  (15, ⟨.ptr 81, 1, 8, (.cons (.pointer none) .nil), false⟩),
  (16, ⟨.ptr 84, 1, 8, (.cons (.pointer none) .nil), false⟩),
  (17, ⟨.ptr 93, 1, 8, (.cons (.pointer none) .nil), false⟩),
  (18, ⟨.struct [(0, 17)], 1, 8, (.cons (.pointer none) .nil), false⟩),
  (19, ⟨.struct [(0, 17)], 1, 8, (.cons (.pointer none) .nil), false⟩),
  (21, ⟨.int .i32, 1, 4, (.cons (.int .i32 0) .nil), false⟩),
  (22, ⟨.slice 3, 1, 24, (.cons (.slice none 0 0) .nil), false⟩),
  (23, ⟨.struct [(0, 5), (1, 22), (2, 22), (3, 3)], 4, 64, (.cons (.int .u8 0) (.cons (.slice none 0 0) (.cons (.slice none 0 0) (.cons (.int .i64 0) .nil)))), false⟩),
  (24, ⟨.struct [(0, 5), (1, 22), (2, 22), (3, 3)], 4, 64, (.cons (.int .u8 0) (.cons (.slice none 0 0) (.cons (.slice none 0 0) (.cons (.int .i64 0) .nil)))), false⟩),
  (26, ⟨.ptr 59, 1, 8, (.cons (.pointer none) .nil), false⟩),
  (27, ⟨.ptr 38, 1, 8, (.cons (.pointer none) .nil), false⟩),
  (31, ⟨.int .i64, 1, 8, (.cons (.int .i64 0) .nil), false⟩),
  (36, ⟨.slice 41, 1, 24, (.cons (.slice none 0 0) .nil), false⟩),
  (37, ⟨.struct [(0, 3), (1, 3), (2, 22), (3, 22), (4, 22), (5, 22)], 6, 112, (.cons (.int .i64 0) (.cons (.int .i64 0) (.cons (.slice none 0 0) (.cons (.slice none 0 0) (.cons (.slice none 0 0) (.cons (.slice none 0 0) .nil)))))), false⟩),
  (38, ⟨.struct [(0, 3), (1, 3), (2, 22), (3, 22), (4, 22), (5, 22)], 6, 112, (.cons (.int .i64 0) (.cons (.int .i64 0) (.cons (.slice none 0 0) (.cons (.slice none 0 0) (.cons (.slice none 0 0) (.cons (.slice none 0 0) .nil)))))), false⟩),
  (40, ⟨.struct [(0, 3), (1, 3)], 2, 16, (.cons (.int .i64 0) (.cons (.int .i64 0) .nil)), false⟩),
  (41, ⟨.struct [(0, 3), (1, 3)], 2, 16, (.cons (.int .i64 0) (.cons (.int .i64 0) .nil)), true⟩),
  (44, ⟨.ptr 65, 1, 8, (.cons (.pointer none) .nil), false⟩),
  (57, ⟨.array 4 44, 4, 32, (.rep 1 4 (.cons (.pointer none) .nil) .nil), false⟩),
  (58, ⟨.struct [(0, 3), (1, 57)], 5, 40, (.cons (.int .i64 0) (.rep 1 4 (.cons (.pointer none) .nil) .nil)), false⟩),
  (59, ⟨.struct [(0, 3), (1, 57)], 5, 40, (.cons (.int .i64 0) (.rep 1 4 (.cons (.pointer none) .nil) .nil)), false⟩),
  (63, ⟨.slice 66, 1, 24, (.cons (.slice none 0 0) .nil), false⟩),
  (64, ⟨.struct [(0, 3), (1, 63)], 2, 32, (.cons (.int .i64 0) (.cons (.slice none 0 0) .nil)), false⟩),
  (65, ⟨.struct [(0, 3), (1, 63)], 2, 32, (.cons (.int .i64 0) (.cons (.slice none 0 0) .nil)), false⟩),
  (66, ⟨.int .u64, 1, 8, (.cons (.int .u64 0) .nil), false⟩),
  (72, ⟨.array 3 3, 3, 24, (.rep 1 3 (.cons (.int .i64 0) .nil) .nil), true⟩),
  (74, ⟨.slice 44, 1, 24, (.cons (.slice none 0 0) .nil), false⟩),
  (75, ⟨.array 64 5, 64, 64, (.rep 1 64 (.cons (.int .u8 0) .nil) .nil), true⟩),
  (76, ⟨.int .u64, 1, 8, (.cons (.int .u64 0) .nil), false⟩),
  (80, ⟨.struct [(0, 17), (1, 17), (2, 17), (3, 9)], 4, 40, (.cons (.pointer none) (.cons (.pointer none) (.cons (.pointer none) (.cons (.string ⟨#[]⟩) .nil)))), false⟩),
  (81, ⟨.struct [(0, 17), (1, 17), (2, 17), (3, 9)], 4, 40, (.cons (.pointer none) (.cons (.pointer none) (.cons (.pointer none) (.cons (.string ⟨#[]⟩) .nil)))), false⟩),
  (82, ⟨.array 0 16, 0, 0, (.rep 1 0 (.cons (.pointer none) .nil) .nil), false⟩),
  (83, ⟨.struct [(0, 82)], 0, 0, (.rep 1 0 (.cons (.pointer none) .nil) .nil), false⟩),
  (84, ⟨.struct [(0, 82)], 0, 0, (.rep 1 0 (.cons (.pointer none) .nil) .nil), false⟩),
  (85, ⟨.int .u32, 1, 4, (.cons (.int .u32 0) .nil), false⟩),
  (86, ⟨.int .u8, 1, 1, (.cons (.int .u8 0) .nil), false⟩),
  (87, ⟨.int .u8, 1, 1, (.cons (.int .u8 0) .nil), false⟩),
  (89, ⟨.ptr 5, 1, 8, (.cons (.pointer none) .nil), false⟩),
  (90, ⟨.int .i32, 1, 4, (.cons (.int .i32 0) .nil), false⟩),
  (91, ⟨.int .i32, 1, 4, (.cons (.int .i32 0) .nil), false⟩)]
theorem tb_ok0 : TBok0 Tryd.prog tb :=
  TBok0.cons ⟨by show _ = _; kernel_rfl, by kernel_rfl, by decide, by kernel_rfl⟩ <|
  TBok0.cons ⟨by show _ = _; kernel_rfl, by kernel_rfl, by decide, by kernel_rfl⟩ <|
  TBok0.cons ⟨by show _ = _; kernel_rfl, by kernel_rfl, by decide, by kernel_rfl⟩ <|
  TBok0.cons ⟨by show _ = _; kernel_rfl, by kernel_rfl, by decide, by kernel_rfl⟩ <|
  TBok0.cons ⟨by show _ = _; kernel_rfl, by kernel_rfl, by decide, by kernel_rfl⟩ <|
  TBok0.cons ⟨by show _ = _; kernel_rfl, by kernel_rfl, by decide, by kernel_rfl⟩ <|
  TBok0.cons ⟨by show _ = _; kernel_rfl, by kernel_rfl, by decide, by kernel_rfl⟩ <|
  TBok0.cons ⟨by show _ = _; kernel_rfl, by kernel_rfl, by decide, by kernel_rfl⟩ <|
  TBok0.cons ⟨by show _ = _; kernel_rfl, by kernel_rfl, by decide, by kernel_rfl⟩ <|
  TBok0.cons ⟨by show _ = _; kernel_rfl, by kernel_rfl, by decide, by kernel_rfl⟩ <|
  TBok0.cons ⟨by show _ = _; kernel_rfl, by kernel_rfl, by decide, by kernel_rfl⟩ <|
  TBok0.cons ⟨by show _ = _; kernel_rfl, by kernel_rfl, by decide, by kernel_rfl⟩ <|
  TBok0.cons ⟨by show _ = _; kernel_rfl, by kernel_rfl, by decide, by kernel_rfl⟩ <|
  TBok0.cons ⟨by show _ = _; kernel_rfl, by kernel_rfl, by decide, by kernel_rfl⟩ <|
  TBok0.cons ⟨by show _ = _; kernel_rfl, by kernel_rfl, by decide, by kernel_rfl⟩ <|
  TBok0.cons ⟨by show _ = _; kernel_rfl, by kernel_rfl, by decide, by kernel_rfl⟩ <|
  TBok0.cons ⟨by show _ = _; kernel_rfl, by kernel_rfl, by decide, by kernel_rfl⟩ <|
  TBok0.cons ⟨by show _ = _; kernel_rfl, by kernel_rfl, by decide, by kernel_rfl⟩ <|
  TBok0.cons ⟨by show _ = _; kernel_rfl, by kernel_rfl, by decide, by kernel_rfl⟩ <|
  TBok0.cons ⟨by show _ = _; kernel_rfl, by kernel_rfl, by decide, by kernel_rfl⟩ <|
  TBok0.cons ⟨by show _ = _; kernel_rfl, by kernel_rfl, by decide, by kernel_rfl⟩ <|
  TBok0.cons ⟨by show _ = _; kernel_rfl, by kernel_rfl, by decide, by kernel_rfl⟩ <|
  TBok0.cons ⟨by show _ = _; kernel_rfl, by kernel_rfl, by decide, by kernel_rfl⟩ <|
  TBok0.cons ⟨by show _ = _; kernel_rfl, by kernel_rfl, by decide, by kernel_rfl⟩ <|
  TBok0.cons ⟨by show _ = _; kernel_rfl, by kernel_rfl, by decide, by kernel_rfl⟩ <|
  TBok0.cons ⟨by show _ = _; kernel_rfl, by kernel_rfl, by decide, by kernel_rfl⟩ <|
  TBok0.cons ⟨by show _ = _; kernel_rfl, by kernel_rfl, by decide, by kernel_rfl⟩ <|
  TBok0.cons ⟨by show _ = _; kernel_rfl, by kernel_rfl, by decide, by kernel_rfl⟩ <|
  TBok0.cons ⟨by show _ = _; kernel_rfl, by kernel_rfl, by decide, by kernel_rfl⟩ <|
  TBok0.cons ⟨by show _ = _; kernel_rfl, by kernel_rfl, by decide, by kernel_rfl⟩ <|
  TBok0.cons ⟨by show _ = _; kernel_rfl, by kernel_rfl, by decide, by kernel_rfl⟩ <|
  TBok0.cons ⟨by show _ = _; kernel_rfl, by kernel_rfl, by decide, by kernel_rfl⟩ <|
  TBok0.cons ⟨by show _ = _; kernel_rfl, by kernel_rfl, by decide, by kernel_rfl⟩ <|
  TBok0.cons ⟨by show _ = _; kernel_rfl, by kernel_rfl, by decide, by kernel_rfl⟩ <|
  TBok0.cons ⟨by show _ = _; kernel_rfl, by kernel_rfl, by decide, by kernel_rfl⟩ <|
  TBok0.cons ⟨by show _ = _; kernel_rfl, by kernel_rfl, by decide, by kernel_rfl⟩ <|
  TBok0.cons ⟨by show _ = _; kernel_rfl, by kernel_rfl, by decide, by kernel_rfl⟩ <|
  TBok0.cons ⟨by show _ = _; kernel_rfl, by kernel_rfl, by decide, by kernel_rfl⟩ <|
  TBok0.cons ⟨by show _ = _; kernel_rfl, by kernel_rfl, by decide, by kernel_rfl⟩ <|
  TBok0.cons ⟨by show _ = _; kernel_rfl, by kernel_rfl, by decide, by kernel_rfl⟩ <|
  TBok0.cons ⟨by show _ = _; kernel_rfl, by kernel_rfl, by decide, by kernel_rfl⟩ <|
  TBok0.cons ⟨by show _ = _; kernel_rfl, by kernel_rfl, by decide, by kernel_rfl⟩ <|
  TBok0.cons ⟨by show _ = _; kernel_rfl, by kernel_rfl, by decide, by kernel_rfl⟩ <|
  TBok0.cons ⟨by show _ = _; kernel_rfl, by kernel_rfl, by decide, by kernel_rfl⟩ <|
  TBok0.cons ⟨by show _ = _; kernel_rfl, by kernel_rfl, by decide, by kernel_rfl⟩ <|
  TBok0.cons ⟨by show _ = _; kernel_rfl, by kernel_rfl, by decide, by kernel_rfl⟩ <|
  TBok0.cons ⟨by show _ = _; kernel_rfl, by kernel_rfl, by decide, by kernel_rfl⟩ <|
  TBok0.cons ⟨by show _ = _; kernel_rfl, by kernel_rfl, by decide, by kernel_rfl⟩ <|
  TBok0.cons ⟨by show _ = _; kernel_rfl, by kernel_rfl, by decide, by kernel_rfl⟩ <|
  TBok0.cons ⟨by show _ = _; kernel_rfl, by kernel_rfl, by decide, by kernel_rfl⟩ <|
  TBok0.cons ⟨by show _ = _; kernel_rfl, by kernel_rfl, by decide, by kernel_rfl⟩ <|
  TBok0.cons ⟨by show _ = _; kernel_rfl, by kernel_rfl, by decide, by kernel_rfl⟩ <|
  TBok0.cons ⟨by show _ = _; kernel_rfl, by kernel_rfl, by decide, by kernel_rfl⟩ <|
  TBok0.cons ⟨by show _ = _; kernel_rfl, by kernel_rfl, by decide, by kernel_rfl⟩ <|
  TBok0.nil
theorem tb_ok : TBok Tryd.prog tb := ⟨tb_ok0, fun _ => by kernel_rfl⟩
theorem mixed : Tryd.prog.follows .mixedOrders = true := by kernel_rfl
end Go.Sx
