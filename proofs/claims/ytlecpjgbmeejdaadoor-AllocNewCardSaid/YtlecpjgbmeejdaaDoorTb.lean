/- The types of the program. -/
import Derived.Test.YtlecpjgbmeejdaaDoorSxT
import Derived.Test.YtlecpjgbmeejdaaDoorRows
import Derived.KernelRfl
namespace Go.Sx
open Go.Proofs
def tb : TB := [(2, ⟨.int .i64, 1, 8, (.cons (.int .i64 0) .nil), false⟩),
  (2, ⟨.int .i64, 1, 8, (.cons (.int .i64 0) .nil), false⟩),
  (3, ⟨.int .i64, 1, 8, (.cons (.int .i64 0) .nil), false⟩),
  (4, ⟨.bool, 1, 1, (.cons (.bool false) .nil), false⟩),
  (5, ⟨.int .u8, 1, 1, (.cons (.int .u8 0) .nil), false⟩),
  (6, ⟨.int .u8, 1, 1, (.cons (.int .u8 0) .nil), false⟩),
  (7, ⟨.struct [(0, 2), (1, 3), (2, 4), (3, 6)], 4, 24, (.cons (.int .i64 0) (.cons (.int .i64 0) (.cons (.bool false) (.cons (.int .u8 0) .nil)))), false⟩),
  (8, ⟨.struct [(0, 2), (1, 3), (2, 4), (3, 6)], 4, 24, (.cons (.int .i64 0) (.cons (.int .i64 0) (.cons (.bool false) (.cons (.int .u8 0) .nil)))), false⟩),
  (9, ⟨.str, 1, 16, (.cons (.string ⟨#[]⟩) .nil), false⟩),
  (10, ⟨.str, 1, 16, (.cons (.string ⟨#[]⟩) .nil), false⟩),
  (11, ⟨.str, 1, 16, (.cons (.string ⟨#[]⟩) .nil), false⟩),
  (12, ⟨.int .u64, 1, 8, (.cons (.int .u64 0) .nil), false⟩),
  (13, ⟨.struct [(0, 9), (1, 12)], 2, 24, (.cons (.string ⟨#[]⟩) (.cons (.int .u64 0) .nil)), false⟩),
  (14, ⟨.struct [(0, 9), (1, 12)], 2, 24, (.cons (.string ⟨#[]⟩) (.cons (.int .u64 0) .nil)), false⟩),
  (15, ⟨.ptr 113, 1, 8, (.cons (.pointer none) .nil), false⟩),
  (16, ⟨.ptr 116, 1, 8, (.cons (.pointer none) .nil), false⟩),
  (17, ⟨.ptr 125, 1, 8, (.cons (.pointer none) .nil), false⟩),
  (18, ⟨.struct [(0, 17)], 1, 8, (.cons (.pointer none) .nil), false⟩),
  (19, ⟨.struct [(0, 17)], 1, 8, (.cons (.pointer none) .nil), false⟩),
  (21, ⟨.int .i32, 1, 4, (.cons (.int .i32 0) .nil), false⟩),
  (22, ⟨.slice 3, 1, 24, (.cons (.slice none 0 0) .nil), false⟩),
  (25, ⟨.ptr 85, 1, 8, (.cons (.pointer none) .nil), false⟩),
  (31, ⟨.slice 33, 1, 24, (.cons (.slice none 0 0) .nil), false⟩),
  (32, ⟨.struct [(0, 4), (1, 22)], 2, 32, (.cons (.bool false) (.cons (.slice none 0 0) .nil)), false⟩),
  (33, ⟨.struct [(0, 4), (1, 22)], 2, 32, (.cons (.bool false) (.cons (.slice none 0 0) .nil)), false⟩),
  (41, ⟨.struct [(0, 5), (1, 22), (2, 22), (3, 3)], 4, 64, (.cons (.int .u8 0) (.cons (.slice none 0 0) (.cons (.slice none 0 0) (.cons (.int .i64 0) .nil)))), false⟩),
  (42, ⟨.struct [(0, 5), (1, 22), (2, 22), (3, 3)], 4, 64, (.cons (.int .u8 0) (.cons (.slice none 0 0) (.cons (.slice none 0 0) (.cons (.int .i64 0) .nil)))), false⟩),
  (43, ⟨.ptr 92, 1, 8, (.cons (.pointer none) .nil), false⟩),
  (44, ⟨.ptr 71, 1, 8, (.cons (.pointer none) .nil), false⟩),
  (47, ⟨.int .i64, 1, 8, (.cons (.int .i64 0) .nil), false⟩),
  (51, ⟨.array 2 3, 2, 16, (.rep 1 2 (.cons (.int .i64 0) .nil) .nil), true⟩),
  (55, ⟨.slice 82, 1, 24, (.cons (.slice none 0 0) .nil), false⟩),
  (69, ⟨.slice 74, 1, 24, (.cons (.slice none 0 0) .nil), false⟩),
  (70, ⟨.struct [(0, 3), (1, 3), (2, 22), (3, 22), (4, 22), (5, 22)], 6, 112, (.cons (.int .i64 0) (.cons (.int .i64 0) (.cons (.slice none 0 0) (.cons (.slice none 0 0) (.cons (.slice none 0 0) (.cons (.slice none 0 0) .nil)))))), false⟩),
  (71, ⟨.struct [(0, 3), (1, 3), (2, 22), (3, 22), (4, 22), (5, 22)], 6, 112, (.cons (.int .i64 0) (.cons (.int .i64 0) (.cons (.slice none 0 0) (.cons (.slice none 0 0) (.cons (.slice none 0 0) (.cons (.slice none 0 0) .nil)))))), false⟩),
  (73, ⟨.struct [(0, 3), (1, 3)], 2, 16, (.cons (.int .i64 0) (.cons (.int .i64 0) .nil)), false⟩),
  (74, ⟨.struct [(0, 3), (1, 3)], 2, 16, (.cons (.int .i64 0) (.cons (.int .i64 0) .nil)), true⟩),
  (80, ⟨.array 48 5, 48, 48, (.rep 1 48 (.cons (.int .u8 0) .nil) .nil), true⟩),
  (81, ⟨.struct [(0, 3), (1, 80)], 49, 56, (.cons (.int .i64 0) (.rep 1 48 (.cons (.int .u8 0) .nil) .nil)), false⟩),
  (82, ⟨.struct [(0, 3), (1, 80)], 49, 56, (.cons (.int .i64 0) (.rep 1 48 (.cons (.int .u8 0) .nil) .nil)), true⟩),
  (83, ⟨.slice 86, 1, 24, (.cons (.slice none 0 0) .nil), false⟩),
  (84, ⟨.struct [(0, 3), (1, 83)], 2, 32, (.cons (.int .i64 0) (.cons (.slice none 0 0) .nil)), false⟩),
  (85, ⟨.struct [(0, 3), (1, 83)], 2, 32, (.cons (.int .i64 0) (.cons (.slice none 0 0) .nil)), false⟩),
  (86, ⟨.int .u64, 1, 8, (.cons (.int .u64 0) .nil), false⟩),
  (90, ⟨.array 4 25, 4, 32, (.rep 1 4 (.cons (.pointer none) .nil) .nil), false⟩),
  (91, ⟨.struct [(0, 3), (1, 90)], 5, 40, (.cons (.int .i64 0) (.rep 1 4 (.cons (.pointer none) .nil) .nil)), false⟩),
  (92, ⟨.struct [(0, 3), (1, 90)], 5, 40, (.cons (.int .i64 0) (.rep 1 4 (.cons (.pointer none) .nil) .nil)), false⟩),
  (93, ⟨.array 3 3, 3, 24, (.rep 1 3 (.cons (.int .i64 0) .nil) .nil), true⟩),
  (103, ⟨.int .u64, 1, 8, (.cons (.int .u64 0) .nil), false⟩),
  (104, ⟨.array 64 5, 64, 64, (.rep 1 64 (.cons (.int .u8 0) .nil) .nil), true⟩),
  (105, ⟨.slice 25, 1, 24, (.cons (.slice none 0 0) .nil), false⟩),
  (112, ⟨.struct [(0, 17), (1, 17), (2, 17), (3, 9)], 4, 40, (.cons (.pointer none) (.cons (.pointer none) (.cons (.pointer none) (.cons (.string ⟨#[]⟩) .nil)))), false⟩),
  (113, ⟨.struct [(0, 17), (1, 17), (2, 17), (3, 9)], 4, 40, (.cons (.pointer none) (.cons (.pointer none) (.cons (.pointer none) (.cons (.string ⟨#[]⟩) .nil)))), false⟩),
  (114, ⟨.array 0 16, 0, 0, (.rep 1 0 (.cons (.pointer none) .nil) .nil), false⟩),
  (115, ⟨.struct [(0, 114)], 0, 0, (.rep 1 0 (.cons (.pointer none) .nil) .nil), false⟩),
  (116, ⟨.struct [(0, 114)], 0, 0, (.rep 1 0 (.cons (.pointer none) .nil) .nil), false⟩),
  (117, ⟨.int .u32, 1, 4, (.cons (.int .u32 0) .nil), false⟩),
  (118, ⟨.int .u8, 1, 1, (.cons (.int .u8 0) .nil), false⟩),
  (119, ⟨.int .u8, 1, 1, (.cons (.int .u8 0) .nil), false⟩),
  (121, ⟨.ptr 5, 1, 8, (.cons (.pointer none) .nil), false⟩),
  (122, ⟨.int .i32, 1, 4, (.cons (.int .i32 0) .nil), false⟩),
  (123, ⟨.int .i32, 1, 4, (.cons (.int .i32 0) .nil), false⟩)]
theorem tb_ok0 : TBok0 Tryd.prog tb :=
  TBok0.cons ⟨by show _ = _; kernel_rfl, by kernel_rfl, by decide, by kernel_rfl⟩ <|
  TBok0.cons ⟨by show _ = _; kernel_rfl, by kernel_rfl, by decide, by kernel_rfl⟩ <|
  TBok0.cons ⟨by show _ = _; kernel_rfl, by kernel_rfl, by decide, by kernel_rfl⟩ <|
  TBok0.cons ⟨by show _ = _; kernel_rfl, by kernel_rfl, by decide, by kernel_rfl⟩ <|
  TBok0.cons ⟨by show _ = _; kernel_rfl, by kernel_rfl, by decide, by kernel_rfl⟩ <|
  TBok0.cons ⟨by show _ = _; kernel_rfl, by kernel_rfl, by decide, by kernel_rfl⟩ <|
  TBok0.cons ⟨by show _ = _; kernel_rfl, by kernel_rfl, by decide, by kernel_rfl⟩ <|
  TBok0.cons ⟨by show _ = _; kernel_rfl, by kernel_rfl, by decide, by kernel_rfl⟩ <|
  TBok0.cons ⟨by show _ = _; kernel_rfl, by kernel_rfl, by decide, by kernel_rfl⟩ <|
  TBok0.cons ⟨by show _ = _; kernel_rfl, by kernel_rfl, by decide, by kernel_rfl⟩ <|
  TBok0.cons ⟨by show _ = _; kernel_rfl, by kernel_rfl, by decide, by kernel_rfl⟩ <|
  TBok0.cons ⟨by show _ = _; kernel_rfl, by kernel_rfl, by decide, by kernel_rfl⟩ <|
  TBok0.cons ⟨by show _ = _; kernel_rfl, by kernel_rfl, by decide, by kernel_rfl⟩ <|
  TBok0.cons ⟨by show _ = _; kernel_rfl, by kernel_rfl, by decide, by kernel_rfl⟩ <|
  TBok0.cons ⟨by show _ = _; kernel_rfl, by kernel_rfl, by decide, by kernel_rfl⟩ <|
  TBok0.cons ⟨by show _ = _; kernel_rfl, by kernel_rfl, by decide, by kernel_rfl⟩ <|
  TBok0.cons ⟨by show _ = _; kernel_rfl, by kernel_rfl, by decide, by kernel_rfl⟩ <|
  TBok0.cons ⟨by show _ = _; kernel_rfl, by kernel_rfl, by decide, by kernel_rfl⟩ <|
  TBok0.cons ⟨by show _ = _; kernel_rfl, by kernel_rfl, by decide, by kernel_rfl⟩ <|
  TBok0.cons ⟨by show _ = _; kernel_rfl, by kernel_rfl, by decide, by kernel_rfl⟩ <|
  TBok0.cons ⟨by show _ = _; kernel_rfl, by kernel_rfl, by decide, by kernel_rfl⟩ <|
  TBok0.cons ⟨by show _ = _; kernel_rfl, by kernel_rfl, by decide, by kernel_rfl⟩ <|
  TBok0.cons ⟨by show _ = _; kernel_rfl, by kernel_rfl, by decide, by kernel_rfl⟩ <|
  TBok0.cons ⟨by show _ = _; kernel_rfl, by kernel_rfl, by decide, by kernel_rfl⟩ <|
  TBok0.cons ⟨by show _ = _; kernel_rfl, by kernel_rfl, by decide, by kernel_rfl⟩ <|
  TBok0.cons ⟨by show _ = _; kernel_rfl, by kernel_rfl, by decide, by kernel_rfl⟩ <|
  TBok0.cons ⟨by show _ = _; kernel_rfl, by kernel_rfl, by decide, by kernel_rfl⟩ <|
  TBok0.cons ⟨by show _ = _; kernel_rfl, by kernel_rfl, by decide, by kernel_rfl⟩ <|
  TBok0.cons ⟨by show _ = _; kernel_rfl, by kernel_rfl, by decide, by kernel_rfl⟩ <|
  TBok0.cons ⟨by show _ = _; kernel_rfl, by kernel_rfl, by decide, by kernel_rfl⟩ <|
  TBok0.cons ⟨by show _ = _; kernel_rfl, by kernel_rfl, by decide, by kernel_rfl⟩ <|
  TBok0.cons ⟨by show _ = _; kernel_rfl, by kernel_rfl, by decide, by kernel_rfl⟩ <|
  TBok0.cons ⟨by show _ = _; kernel_rfl, by kernel_rfl, by decide, by kernel_rfl⟩ <|
  TBok0.cons ⟨by show _ = _; kernel_rfl, by kernel_rfl, by decide, by kernel_rfl⟩ <|
  TBok0.cons ⟨by show _ = _; kernel_rfl, by kernel_rfl, by decide, by kernel_rfl⟩ <|
  TBok0.cons ⟨by show _ = _; kernel_rfl, by kernel_rfl, by decide, by kernel_rfl⟩ <|
  TBok0.cons ⟨by show _ = _; kernel_rfl, by kernel_rfl, by decide, by kernel_rfl⟩ <|
  TBok0.cons ⟨by show _ = _; kernel_rfl, by kernel_rfl, by decide, by kernel_rfl⟩ <|
  TBok0.cons ⟨by show _ = _; kernel_rfl, by kernel_rfl, by decide, by kernel_rfl⟩ <|
  TBok0.cons ⟨by show _ = _; kernel_rfl, by kernel_rfl, by decide, by kernel_rfl⟩ <|
  TBok0.cons ⟨by show _ = _; kernel_rfl, by kernel_rfl, by decide, by kernel_rfl⟩ <|
  TBok0.cons ⟨by show _ = _; kernel_rfl, by kernel_rfl, by decide, by kernel_rfl⟩ <|
  TBok0.cons ⟨by show _ = _; kernel_rfl, by kernel_rfl, by decide, by kernel_rfl⟩ <|
  TBok0.cons ⟨by show _ = _; kernel_rfl, by kernel_rfl, by decide, by kernel_rfl⟩ <|
  TBok0.cons ⟨by show _ = _; kernel_rfl, by kernel_rfl, by decide, by kernel_rfl⟩ <|
  TBok0.cons ⟨by show _ = _; kernel_rfl, by kernel_rfl, by decide, by kernel_rfl⟩ <|
  TBok0.cons ⟨by show _ = _; kernel_rfl, by kernel_rfl, by decide, by kernel_rfl⟩ <|
  TBok0.cons ⟨by show _ = _; kernel_rfl, by kernel_rfl, by decide, by kernel_rfl⟩ <|
  TBok0.cons ⟨by show _ = _; kernel_rfl, by kernel_rfl, by decide, by kernel_rfl⟩ <|
  TBok0.cons ⟨by show _ = _; kernel_rfl, by kernel_rfl, by decide, by kernel_rfl⟩ <|
  TBok0.cons ⟨by show _ = _; kernel_rfl, by kernel_rfl, by decide, by kernel_rfl⟩ <|
  TBok0.cons ⟨by show _ = _; kernel_rfl, by kernel_rfl, by decide, by kernel_rfl⟩ <|
  TBok0.cons ⟨by show _ = _; kernel_rfl, by kernel_rfl, by decide, by kernel_rfl⟩ <|
  TBok0.cons ⟨by show _ = _; kernel_rfl, by kernel_rfl, by decide, by kernel_rfl⟩ <|
  TBok0.cons ⟨by show _ = _; kernel_rfl, by kernel_rfl, by decide, by kernel_rfl⟩ <|
  TBok0.cons ⟨by show _ = _; kernel_rfl, by kernel_rfl, by decide, by kernel_rfl⟩ <|
  TBok0.cons ⟨by show _ = _; kernel_rfl, by kernel_rfl, by decide, by kernel_rfl⟩ <|
  TBok0.cons ⟨by show _ = _; kernel_rfl, by kernel_rfl, by decide, by kernel_rfl⟩ <|
  TBok0.cons ⟨by show _ = _; kernel_rfl, by kernel_rfl, by decide, by kernel_rfl⟩ <|
  TBok0.cons ⟨by show _ = _; kernel_rfl, by kernel_rfl, by decide, by kernel_rfl⟩ <|
  TBok0.cons ⟨by show _ = _; kernel_rfl, by kernel_rfl, by decide, by kernel_rfl⟩ <|
  TBok0.cons ⟨by show _ = _; kernel_rfl, by kernel_rfl, by decide, by kernel_rfl⟩ <|
  TBok0.nil
theorem tb_ok : TBok Tryd.prog tb := ⟨tb_ok0, fun _ => by kernel_rfl⟩
theorem mixed : Tryd.prog.follows .mixedOrders = true := by kernel_rfl
end Go.Sx
