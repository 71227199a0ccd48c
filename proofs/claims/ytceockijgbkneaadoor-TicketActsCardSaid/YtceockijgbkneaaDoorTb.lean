import Derived.Test.YtceockijgbkneaaDoorSxX
import Derived.Test.YtceockijgbkneaaDoorRows
import Derived.KernelRfl

namespace Go.Sx
open Go.Proofs
def tb : TB := [(2, ⟨.int .i64, 1, 8, (.cons (.int .i64 0) .nil), false⟩),
  (2, ⟨.int .i64, 1, 8, (.cons (.int .i64 0) .nil), false⟩),
  (3, ⟨.int .i64, 1, 8, (.cons (.int .i64 0) .nil), false⟩),
  (4, ⟨.bool, 1, 1, (.cons (.bool false) .nil), false⟩),
  (5, ⟨.int .u8, 1, 1, (.cons (.int .u8 0) .nil), false⟩),
  (6, ⟨.int .u8, 1, 1, (.cons (.int .u8 0) .nil), false⟩),
  (7, ⟨.struct [(0, 2), (1, 3), (2, 4), (3, 6)], 4, 24, (.cons (.int .i64 0) (.cons (.int .i64 0) (.cons (.bool false) (.cons (.int .u8 0) .nil)))), false⟩),
  (8, ⟨.struct [(0, 2), (1, 3), (2, 4), (3, 6)], 4, 24, (.cons (.int .i64 0) (.cons (.int .i64 0) (.cons (.bool false) (.cons (.int .u8 0) .nil)))), false⟩),
  (9, ⟨.str, 1, 16, (.cons (.string ⟨#[]⟩) .nil), false⟩),
  (10, ⟨.str, 1, 16, (.cons (.string ⟨#[]⟩) .nil), false⟩),
  (11, ⟨.str, 1, 16, (.cons (.string ⟨#[]⟩) .nil), false⟩),
  (12, ⟨.int .u64, 1, 8, (.cons (.int .u64 0) .nil), false⟩),
  (13, ⟨.struct [(0, 9), (1, 12)], 2, 24, (.cons (.string ⟨#[]⟩) (.cons (.int .u64 0) .nil)), false⟩),
  (14, ⟨.struct [(0, 9), (1, 12)], 2, 24, (.cons (.string ⟨#[]⟩) (.cons (.int .u64 0) .nil)), false⟩),
  (15, ⟨.ptr 185, 1, 8, (.cons (.pointer none) .nil), false⟩),
  (16, ⟨.ptr 188, 1, 8, (.cons (.pointer none) .nil), false⟩),
  (17, ⟨.ptr 196, 1, 8, (.cons (.pointer none) .nil), false⟩),
  (18, ⟨.struct [(0, 17)], 1, 8, (.cons (.pointer none) .nil), false⟩),
  (19, ⟨.struct [(0, 17)], 1, 8, (.cons (.pointer none) .nil), false⟩),
  (21, ⟨.int .i32, 1, 4, (.cons (.int .i32 0) .nil), false⟩),
  (22, ⟨.slice 38, 1, 24, (.cons (.slice none 0 0) .nil), false⟩),
  (24, ⟨.ptr 105, 1, 8, (.cons (.pointer none) .nil), false⟩),
  (25, ⟨.ptr 92, 1, 8, (.cons (.pointer none) .nil), false⟩),
  (26, ⟨.ptr 96, 1, 8, (.cons (.pointer none) .nil), false⟩),
  (29, ⟨.struct [(0, 3), (1, 3), (2, 3)], 3, 24, (.cons (.int .i64 0) (.cons (.int .i64 0) (.cons (.int .i64 0) .nil))), false⟩),
  (30, ⟨.struct [(0, 3), (1, 3), (2, 3)], 3, 24, (.cons (.int .i64 0) (.cons (.int .i64 0) (.cons (.int .i64 0) .nil))), true⟩),
  (31, ⟨.struct [(0, 30), (3, 3), (4, 3), (5, 3)], 6, 48, (.cons (.int .i64 0) (.cons (.int .i64 0) (.cons (.int .i64 0) (.cons (.int .i64 0) (.cons (.int .i64 0) (.cons (.int .i64 0) .nil)))))), true⟩),
  (32, ⟨.struct [(0, 30), (3, 3), (4, 3), (5, 3)], 6, 48, (.cons (.int .i64 0) (.cons (.int .i64 0) (.cons (.int .i64 0) (.cons (.int .i64 0) (.cons (.int .i64 0) (.cons (.int .i64 0) .nil)))))), true⟩),
  (34, ⟨.slice 36, 1, 24, (.cons (.slice none 0 0) .nil), false⟩),
  (35, ⟨.struct [(0, 3), (1, 3)], 2, 16, (.cons (.int .i64 0) (.cons (.int .i64 0) .nil)), false⟩),
  (36, ⟨.struct [(0, 3), (1, 3)], 2, 16, (.cons (.int .i64 0) (.cons (.int .i64 0) .nil)), true⟩),
  (37, ⟨.struct [(0, 3), (1, 3), (2, 36), (4, 4)], 5, 40, (.cons (.int .i64 0) (.cons (.int .i64 0) (.cons (.int .i64 0) (.cons (.int .i64 0) (.cons (.bool false) .nil))))), true⟩),
  (38, ⟨.struct [(0, 3), (1, 3), (2, 36), (4, 4)], 5, 40, (.cons (.int .i64 0) (.cons (.int .i64 0) (.cons (.int .i64 0) (.cons (.int .i64 0) (.cons (.bool false) .nil))))), true⟩),
  (39, ⟨.int .i64, 1, 8, (.cons (.int .i64 0) .nil), false⟩),
  (50, ⟨.slice 5, 1, 24, (.cons (.slice none 0 0) .nil), false⟩),
  (51, ⟨.slice 3, 1, 24, (.cons (.slice none 0 0) .nil), false⟩),
  (58, ⟨.ptr 60, 1, 8, (.cons (.pointer none) .nil), false⟩),
  (59, ⟨.struct [(0, 30), (3, 51), (4, 51), (5, 51)], 6, 96, (.cons (.int .i64 0) (.cons (.int .i64 0) (.cons (.int .i64 0) (.cons (.slice none 0 0) (.cons (.slice none 0 0) (.cons (.slice none 0 0) .nil)))))), false⟩),
  (60, ⟨.struct [(0, 30), (3, 51), (4, 51), (5, 51)], 6, 96, (.cons (.int .i64 0) (.cons (.int .i64 0) (.cons (.int .i64 0) (.cons (.slice none 0 0) (.cons (.slice none 0 0) (.cons (.slice none 0 0) .nil)))))), false⟩),
  (69, ⟨.ptr 101, 1, 8, (.cons (.pointer none) .nil), false⟩),
  (76, ⟨.struct [(0, 4), (1, 3), (2, 3)], 3, 24, (.cons (.bool false) (.cons (.int .i64 0) (.cons (.int .i64 0) .nil))), false⟩),
  (77, ⟨.struct [(0, 4), (1, 3), (2, 3)], 3, 24, (.cons (.bool false) (.cons (.int .i64 0) (.cons (.int .i64 0) .nil))), true⟩),
  (88, ⟨.slice 176, 1, 24, (.cons (.slice none 0 0) .nil), false⟩),
  (89, ⟨.struct [(0, 51), (1, 3)], 2, 32, (.cons (.slice none 0 0) (.cons (.int .i64 0) .nil)), false⟩),
  (90, ⟨.struct [(0, 51), (1, 3)], 2, 32, (.cons (.slice none 0 0) (.cons (.int .i64 0) .nil)), false⟩),
  (91, ⟨.struct [(0, 88), (1, 90), (3, 4), (4, 4), (5, 3), (6, 3)], 7, 80, (.cons (.slice none 0 0) (.cons (.slice none 0 0) (.cons (.int .i64 0) (.cons (.bool false) (.cons (.bool false) (.cons (.int .i64 0) (.cons (.int .i64 0) .nil))))))), false⟩),
  (92, ⟨.struct [(0, 88), (1, 90), (3, 4), (4, 4), (5, 3), (6, 3)], 7, 80, (.cons (.slice none 0 0) (.cons (.slice none 0 0) (.cons (.int .i64 0) (.cons (.bool false) (.cons (.bool false) (.cons (.int .i64 0) (.cons (.int .i64 0) .nil))))))), false⟩),
  (94, ⟨.array 4 69, 4, 32, (.rep 1 4 (.cons (.pointer none) .nil) .nil), false⟩),
  (95, ⟨.struct [(0, 3), (1, 94)], 5, 40, (.cons (.int .i64 0) (.rep 1 4 (.cons (.pointer none) .nil) .nil)), false⟩),
  (96, ⟨.struct [(0, 3), (1, 94)], 5, 40, (.cons (.int .i64 0) (.rep 1 4 (.cons (.pointer none) .nil) .nil)), false⟩),
  (98, ⟨.array 3 3, 3, 24, (.rep 1 3 (.cons (.int .i64 0) .nil) .nil), true⟩),
  (99, ⟨.slice 109, 1, 24, (.cons (.slice none 0 0) .nil), false⟩),
  (100, ⟨.struct [(0, 3), (1, 99)], 2, 32, (.cons (.int .i64 0) (.cons (.slice none 0 0) .nil)), false⟩),
  (101, ⟨.struct [(0, 3), (1, 99)], 2, 32, (.cons (.int .i64 0) (.cons (.slice none 0 0) .nil)), false⟩),
  (104, ⟨.struct [(0, 25), (1, 26)], 2, 16, (.cons (.pointer none) (.cons (.pointer none) .nil)), false⟩),
  (105, ⟨.struct [(0, 25), (1, 26)], 2, 16, (.cons (.pointer none) (.cons (.pointer none) .nil)), false⟩),
  (109, ⟨.int .u64, 1, 8, (.cons (.int .u64 0) .nil), false⟩),
  (110, ⟨.array 16 3, 16, 128, (.rep 1 16 (.cons (.int .i64 0) .nil) .nil), true⟩),
  (111, ⟨.struct [(0, 110)], 16, 128, (.rep 1 16 (.cons (.int .i64 0) .nil) .nil), false⟩),
  (112, ⟨.struct [(0, 110)], 16, 128, (.rep 1 16 (.cons (.int .i64 0) .nil) .nil), true⟩),
  (113, ⟨.array 7 77, 21, 168, (.rep 3 7 (.cons (.bool false) (.cons (.int .i64 0) (.cons (.int .i64 0) .nil))) .nil), true⟩),
  (114, ⟨.struct [(0, 113)], 21, 168, (.rep 3 7 (.cons (.bool false) (.cons (.int .i64 0) (.cons (.int .i64 0) .nil))) .nil), true⟩),
  (115, ⟨.struct [(0, 113)], 21, 168, (.rep 3 7 (.cons (.bool false) (.cons (.int .i64 0) (.cons (.int .i64 0) .nil))) .nil), true⟩),
  (116, ⟨.struct [(0, 98), (3, 98), (6, 112), (22, 112), (38, 115)], 59, 472, (.rep 1 3 (.cons (.int .i64 0) .nil) (.rep 1 3 (.cons (.int .i64 0) .nil) (.rep 1 16 (.cons (.int .i64 0) .nil) (.rep 1 16 (.cons (.int .i64 0) .nil) (.rep 3 7 (.cons (.bool false) (.cons (.int .i64 0) (.cons (.int .i64 0) .nil))) .nil))))), true⟩),
  (117, ⟨.struct [(0, 98), (3, 98), (6, 112), (22, 112), (38, 115)], 59, 472, (.rep 1 3 (.cons (.int .i64 0) .nil) (.rep 1 3 (.cons (.int .i64 0) .nil) (.rep 1 16 (.cons (.int .i64 0) .nil) (.rep 1 16 (.cons (.int .i64 0) .nil) (.rep 3 7 (.cons (.bool false) (.cons (.int .i64 0) (.cons (.int .i64 0) .nil))) .nil))))), false⟩),
  (146, ⟨.int .u64, 1, 8, (.cons (.int .u64 0) .nil), false⟩),
  (147, ⟨.int .u32, 1, 4, (.cons (.int .u32 0) .nil), false⟩),
  (151, ⟨.array 64 5, 64, 64, (.rep 1 64 (.cons (.int .u8 0) .nil) .nil), true⟩),
  (157, ⟨.slice 50, 1, 24, (.cons (.slice none 0 0) .nil), false⟩),
  (158, ⟨.array 16 147, 16, 64, (.rep 1 16 (.cons (.int .u32 0) .nil) .nil), true⟩),
  (161, ⟨.ptr 158, 1, 8, (.cons (.pointer none) .nil), false⟩),
  (165, ⟨.array 8 109, 8, 64, (.rep 1 8 (.cons (.int .u64 0) .nil) .nil), true⟩),
  (175, ⟨.struct [(0, 109), (1, 109), (2, 109), (3, 4)], 4, 32, (.cons (.int .u64 0) (.cons (.int .u64 0) (.cons (.int .u64 0) (.cons (.bool false) .nil)))), false⟩),
  (176, ⟨.struct [(0, 109), (1, 109), (2, 109), (3, 4)], 4, 32, (.cons (.int .u64 0) (.cons (.int .u64 0) (.cons (.int .u64 0) (.cons (.bool false) .nil)))), false⟩),
  (178, ⟨.slice 69, 1, 24, (.cons (.slice none 0 0) .nil), false⟩),
  (180, ⟨.ptr 176, 1, 8, (.cons (.pointer none) .nil), false⟩),
  (182, ⟨.ptr 90, 1, 8, (.cons (.pointer none) .nil), false⟩),
  (184, ⟨.struct [(0, 17), (1, 17), (2, 17), (3, 9)], 4, 40, (.cons (.pointer none) (.cons (.pointer none) (.cons (.pointer none) (.cons (.string ⟨#[]⟩) .nil)))), false⟩),
  (185, ⟨.struct [(0, 17), (1, 17), (2, 17), (3, 9)], 4, 40, (.cons (.pointer none) (.cons (.pointer none) (.cons (.pointer none) (.cons (.string ⟨#[]⟩) .nil)))), false⟩),
  (186, ⟨.array 0 16, 0, 0, (.rep 1 0 (.cons (.pointer none) .nil) .nil), false⟩),
  (187, ⟨.struct [(0, 186)], 0, 0, (.rep 1 0 (.cons (.pointer none) .nil) .nil), false⟩),
  (188, ⟨.struct [(0, 186)], 0, 0, (.rep 1 0 (.cons (.pointer none) .nil) .nil), false⟩),
  (189, ⟨.int .u8, 1, 1, (.cons (.int .u8 0) .nil), false⟩),
  (190, ⟨.int .u8, 1, 1, (.cons (.int .u8 0) .nil), false⟩),
  (192, ⟨.ptr 5, 1, 8, (.cons (.pointer none) .nil), false⟩),
  (193, ⟨.int .i32, 1, 4, (.cons (.int .i32 0) .nil), false⟩),
  (194, ⟨.int .i32, 1, 4, (.cons (.int .i32 0) .nil), false⟩)]
theorem tb_ok0 : TBok0 Tryd.prog tb :=
  TBok0.cons ⟨by show _ = _; kernel_rfl, by kernel_rfl, by decide, by kernel_rfl⟩ <|
  TBok0.cons ⟨by show _ = _; kernel_rfl, by kernel_rfl, by decide, by kernel_rfl⟩ <|
  TBok0.cons ⟨by show _ = _; kernel_rfl, by kernel_rfl, by decide, by kernel_rfl⟩ <|
  TBok0.cons ⟨by show _ = _; kernel_rfl, by kernel_rfl, by decide, by kernel_rfl⟩ <|
  TBok0.cons ⟨by show _ = _; kernel_rfl, by kernel_rfl, by decide, by kernel_rfl⟩ <|
  TBok0.cons ⟨by show _ = _; kernel_rfl, by kernel_rfl, by decide, by kernel_rfl⟩ <|
  TBok0.cons ⟨by show _ = _; kernel_rfl, by kernel_rfl, by decide, by kernel_rfl⟩ <|
  TBok0.cons ⟨by show _ = _; kernel_rfl, by kernel_rfl, by decide, by kernel_rfl⟩ <|
  TBok0.cons ⟨by show _ = _; kernel_rfl, by kernel_rfl, by decide, by kernel_rfl⟩ <|
  TBok0.cons ⟨by show _ = _; kernel_rfl, by kernel_rfl, by decide, by kernel_rfl⟩ <|
  TBok0.cons ⟨by show _ = _; kernel_rfl, by kernel_rfl, by decide, by kernel_rfl⟩ <|
  TBok0.cons ⟨by show _ = _; kernel_rfl, by kernel_rfl, by decide, by kernel_rfl⟩ <|
  TBok0.cons ⟨by show _ = _; kernel_rfl, by kernel_rfl, by decide, by kernel_rfl⟩ <|
  TBok0.cons ⟨by show _ = _; kernel_rfl, by kernel_rfl, by decide, by kernel_rfl⟩ <|
  TBok0.cons ⟨by show _ = _; kernel_rfl, by kernel_rfl, by decide, by kernel_rfl⟩ <|
  TBok0.cons ⟨by show _ = _; kernel_rfl, by kernel_rfl, by decide, by kernel_rfl⟩ <|
  TBok0.cons ⟨by show _ = _; kernel_rfl, by kernel_rfl, by decide, by kernel_rfl⟩ <|
  TBok0.cons ⟨by show _ = _; kernel_rfl, by kernel_rfl, by decide, by kernel_rfl⟩ <|
  TBok0.cons ⟨by show _ = _; kernel_rfl, by kernel_rfl, by decide, by kernel_rfl⟩ <|
  TBok0.cons ⟨by show _ = _; kernel_rfl, by kernel_rfl, by decide, by kernel_rfl⟩ <|
  TBok0.cons ⟨by show _ = _; kernel_rfl, by kernel_rfl, by decide, by kernel_rfl⟩ <|
  TBok0.cons ⟨by show _ = _; kernel_rfl, by kernel_rfl, by decide, by kernel_rfl⟩ <|
  TBok0.cons ⟨by show _ = _; kernel_rfl, by kernel_rfl, by decide, by kernel_rfl⟩ <|
  TBok0.cons ⟨by show _ = _; kernel_rfl, by kernel_rfl, by decide, by kernel_rfl⟩ <|
  TBok0.cons ⟨by show _ = _; kernel_rfl, by kernel_rfl, by decide, by kernel_rfl⟩ <|
  TBok0.cons ⟨by show _ = _; kernel_rfl, by kernel_rfl, by decide, by kernel_rfl⟩ <|
  TBok0.cons ⟨by show _ = _; kernel_rfl, by kernel_rfl, by decide, by kernel_rfl⟩ <|
  TBok0.cons ⟨by show _ = _; kernel_rfl, by kernel_rfl, by decide, by kernel_rfl⟩ <|
  TBok0.cons ⟨by show _ = _; kernel_rfl, by kernel_rfl, by decide, by kernel_rfl⟩ <|
  TBok0.cons ⟨by show _ = _; kernel_rfl, by kernel_rfl, by decide, by kernel_rfl⟩ <|
  TBok0.cons ⟨by show _ = _; kernel_rfl, by kernel_rfl, by decide, by kernel_rfl⟩ <|
  TBok0.cons ⟨by show _ = _; kernel_rfl, by kernel_rfl, by decide, by kernel_rfl⟩ <|
  TBok0.cons ⟨by show _ = _; kernel_rfl, by kernel_rfl, by decide, by kernel_rfl⟩ <|
  TBok0.cons ⟨by show _ = _; kernel_rfl, by kernel_rfl, by decide, by kernel_rfl⟩ <|
  TBok0.cons ⟨by show _ = _; kernel_rfl, by kernel_rfl, by decide, by kernel_rfl⟩ <|
  TBok0.cons ⟨by show _ = _; kernel_rfl, by kernel_rfl, by decide, by kernel_rfl⟩ <|
  TBok0.cons ⟨by show _ = _; kernel_rfl, by kernel_rfl, by decide, by kernel_rfl⟩ <|
  TBok0.cons ⟨by show _ = _; kernel_rfl, by kernel_rfl, by decide, by kernel_rfl⟩ <|
  TBok0.cons ⟨by show _ = _; kernel_rfl, by kernel_rfl, by decide, by kernel_rfl⟩ <|
  TBok0.cons ⟨by show _ = _; kernel_rfl, by kernel_rfl, by decide, by kernel_rfl⟩ <|
  TBok0.cons ⟨by show _ = _; kernel_rfl, by kernel_rfl, by decide, by kernel_rfl⟩ <|
  TBok0.cons ⟨by show _ = _; kernel_rfl, by kernel_rfl, by decide, by kernel_rfl⟩ <|
  TBok0.cons ⟨by show _ = _; kernel_rfl, by kernel_rfl, by decide, by kernel_rfl⟩ <|
  TBok0.cons ⟨by show _ = _; kernel_rfl, by kernel_rfl, by decide, by kernel_rfl⟩ <|
  TBok0.cons ⟨by show _ = _; kernel_rfl, by kernel_rfl, by decide, by kernel_rfl⟩ <|
  TBok0.cons ⟨by show _ = _; kernel_rfl, by kernel_rfl, by decide, by kernel_rfl⟩ <|
  TBok0.cons ⟨by show _ = _; kernel_rfl, by kernel_rfl, by decide, by kernel_rfl⟩ <|
  TBok0.cons ⟨by show _ = _; kernel_rfl, by kernel_rfl, by decide, by kernel_rfl⟩ <|
  TBok0.cons ⟨by show _ = _; kernel_rfl, by kernel_rfl, by decide, by kernel_rfl⟩ <|
  TBok0.cons ⟨by show _ = _; kernel_rfl, by kernel_rfl, by decide, by kernel_rfl⟩ <|
  TBok0.cons ⟨by show _ = _; kernel_rfl, by kernel_rfl, by decide, by kernel_rfl⟩ <|
  TBok0.cons ⟨by show _ = _; kernel_rfl, by kernel_rfl, by decide, by kernel_rfl⟩ <|
  TBok0.cons ⟨by show _ = _; kernel_rfl, by kernel_rfl, by decide, by kernel_rfl⟩ <|
  TBok0.cons ⟨by show _ = _; kernel_rfl, by kernel_rfl, by decide, by kernel_rfl⟩ <|
  TBok0.cons ⟨by show _ = _; kernel_rfl, by kernel_rfl, by decide, by kernel_rfl⟩ <|
  TBok0.cons ⟨by show _ = _; kernel_rfl, by kernel_rfl, by decide, by kernel_rfl⟩ <|
  TBok0.cons ⟨by show _ = _; kernel_rfl, by kernel_rfl, by decide, by kernel_rfl⟩ <|
  TBok0.cons ⟨by show _ = _; kernel_rfl, by kernel_rfl, by decide, by kernel_rfl⟩ <|
  TBok0.cons ⟨by show _ = _; kernel_rfl, by kernel_rfl, by decide, by kernel_rfl⟩ <|
  TBok0.cons ⟨by show _ = _; kernel_rfl, by kernel_rfl, by decide, by kernel_rfl⟩ <|
  TBok0.cons ⟨by show _ = _; kernel_rfl, by kernel_rfl, by decide, by kernel_rfl⟩ <|
  TBok0.cons ⟨by show _ = _; kernel_rfl, by kernel_rfl, by decide, by kernel_rfl⟩ <|
  TBok0.cons ⟨by show _ = _; kernel_rfl, by kernel_rfl, by decide, by kernel_rfl⟩ <|
  TBok0.cons ⟨by show _ = _; kernel_rfl, by kernel_rfl, by decide, by kernel_rfl⟩ <|
  TBok0.cons ⟨by show _ = _; kernel_rfl, by kernel_rfl, by decide, by kernel_rfl⟩ <|
  TBok0.cons ⟨by show _ = _; kernel_rfl, by kernel_rfl, by decide, by kernel_rfl⟩ <|
  TBok0.cons ⟨by show _ = _; kernel_rfl, by kernel_rfl, by decide, by kernel_rfl⟩ <|
  TBok0.cons ⟨by show _ = _; kernel_rfl, by kernel_rfl, by decide, by kernel_rfl⟩ <|
  TBok0.cons ⟨by show _ = _; kernel_rfl, by kernel_rfl, by decide, by kernel_rfl⟩ <|
  TBok0.cons ⟨by show _ = _; kernel_rfl, by kernel_rfl, by decide, by kernel_rfl⟩ <|
  TBok0.cons ⟨by show _ = _; kernel_rfl, by kernel_rfl, by decide, by kernel_rfl⟩ <|
  TBok0.cons ⟨by show _ = _; kernel_rfl, by kernel_rfl, by decide, by kernel_rfl⟩ <|
  TBok0.cons ⟨by show _ = _; kernel_rfl, by kernel_rfl, by decide, by kernel_rfl⟩ <|
  TBok0.cons ⟨by show _ = _; kernel_rfl, by kernel_rfl, by decide, by kernel_rfl⟩ <|
  TBok0.cons ⟨by show _ = _; kernel_rfl, by kernel_rfl, by decide, by kernel_rfl⟩ <|
  TBok0.cons ⟨by show _ = _; kernel_rfl, by kernel_rfl, by decide, by kernel_rfl⟩ <|
  TBok0.cons ⟨by show _ = _; kernel_rfl, by kernel_rfl, by decide, by kernel_rfl⟩ <|
  TBok0.cons ⟨by show _ = _; kernel_rfl, by kernel_rfl, by decide, by kernel_rfl⟩ <|
  TBok0.cons ⟨by show _ = _; kernel_rfl, by kernel_rfl, by decide, by kernel_rfl⟩ <|
  TBok0.cons ⟨by show _ = _; kernel_rfl, by kernel_rfl, by decide, by kernel_rfl⟩ <|
  TBok0.cons ⟨by show _ = _; kernel_rfl, by kernel_rfl, by decide, by kernel_rfl⟩ <|
  TBok0.cons ⟨by show _ = _; kernel_rfl, by kernel_rfl, by decide, by kernel_rfl⟩ <|
  TBok0.cons ⟨by show _ = _; kernel_rfl, by kernel_rfl, by decide, by kernel_rfl⟩ <|
  TBok0.cons ⟨by show _ = _; kernel_rfl, by kernel_rfl, by decide, by kernel_rfl⟩ <|
  TBok0.cons ⟨by show _ = _; kernel_rfl, by kernel_rfl, by decide, by kernel_rfl⟩ <|
  TBok0.cons ⟨by show _ = _; kernel_rfl, by kernel_rfl, by decide, by kernel_rfl⟩ <|
  TBok0.cons ⟨by show _ = _; kernel_rfl, by kernel_rfl, by decide, by kernel_rfl⟩ <|
  TBok0.nil
theorem tb_ok : TBok Tryd.prog tb := ⟨tb_ok0, fun _ => by kernel_rfl⟩
theorem mixed : Tryd.prog.follows .mixedOrders = true := by kernel_rfl
end Go.Sx
