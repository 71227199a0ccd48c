import Derived.Test.YtobpnkcgolkbiaaDoorSxX
import Derived.Test.YtobpnkcgolkbiaaDoorRows
import Derived.KernelRfl
/- The types of the program. -/
namespace Go.Sx
open Go.Proofs
def tb : TB := [(2, ⟨.int .i64, 1, 8, (.cons (.int .i64 0) .nil), false⟩),
  (2, ⟨.int .i64, 1, 8, (.cons (.int .i64 0) .nil), false⟩),
  (3, ⟨.int .i64, 1, 8, (.cons (.int .i64 0) .nil), false⟩),
  (4, ⟨.bool, 1, 1, (.cons (.bool false) .nil), false⟩),
  (5, ⟨.int .u8, 1, 1, (.cons (.int .u8 0) .nil), false⟩),
  (6, ⟨.int .u8, 1, 1, (.cons (.int .u8 0) .nil), false⟩),
  (7, ⟨.struct [(0, 2), (1, 3), (2, 4), (3, 6)], 4, 24, (.cons (.int .i64 0) (.cons (.int .i64 0) (.cons (.bool false) (.cons (.int .u8 0) .nil)))), false⟩),
  (8, ⟨.struct [(0, 2), (1, 3), (2, 4), (3, 6)], 4, 24, (.cons (.int .i64 0) (.cons (.int .i64 0) (.cons (.bool false) (.cons (.int .u8 0) .nil)))), false⟩),
  (9, ⟨.str, 1, 16, (.cons (.string ⟨#[]⟩) .nil), false⟩),
  (10, ⟨.str, 1, 16, (.cons (.string ⟨#[]⟩) .nil), false⟩),
  (11, ⟨.str, 1, 16, (.cons (.string ⟨#[]⟩) .nil), false⟩),
  (12, ⟨.int .u64, 1, 8, (.cons (.int .u64 0) .nil), false⟩),
  (13, ⟨.struct [(0, 9), (1, 12)], 2, 24, (.cons (.string ⟨#[]⟩) (.cons (.int .u64 0) .nil)), false⟩),
  (14, ⟨.struct [(0, 9), (1, 12)], 2, 24, (.cons (.string ⟨#[]⟩) (.cons (.int .u64 0) .nil)), false⟩),
  (15, ⟨.ptr 196, 1, 8, (.cons (.pointer none) .nil), false⟩),
  (16, ⟨.ptr 199, 1, 8, (.cons (.pointer none) .nil), false⟩),
  (17, ⟨.ptr 207, 1, 8, (.cons (.pointer none) .nil), false⟩),
  (18, ⟨.struct [(0, 17)], 1, 8, (.cons (.pointer none) .nil), false⟩),
  (19, ⟨.struct [(0, 17)], 1, 8, (.cons (.pointer none) .nil), false⟩),
  (21, ⟨.int .i32, 1, 4, (.cons (.int .i32 0) .nil), false⟩),
  (22, ⟨.slice 32, 1, 24, (.cons (.slice none 0 0) .nil), false⟩),
  (24, ⟨.ptr 139, 1, 8, (.cons (.pointer none) .nil), false⟩),
  (25, ⟨.ptr 136, 1, 8, (.cons (.pointer none) .nil), false⟩),
  (26, ⟨.ptr 116, 1, 8, (.cons (.pointer none) .nil), false⟩),
  (29, ⟨.struct [(0, 4), (1, 3), (2, 3)], 3, 24, (.cons (.bool false) (.cons (.int .i64 0) (.cons (.int .i64 0) .nil))), false⟩),
  (30, ⟨.struct [(0, 4), (1, 3), (2, 3)], 3, 24, (.cons (.bool false) (.cons (.int .i64 0) (.cons (.int .i64 0) .nil))), true⟩),
  (31, ⟨.struct [(0, 3), (1, 30), (4, 4)], 5, 40, (.cons (.int .i64 0) (.cons (.bool false) (.cons (.int .i64 0) (.cons (.int .i64 0) (.cons (.bool false) .nil))))), true⟩),
  (32, ⟨.struct [(0, 3), (1, 30), (4, 4)], 5, 40, (.cons (.int .i64 0) (.cons (.bool false) (.cons (.int .i64 0) (.cons (.int .i64 0) (.cons (.bool false) .nil))))), true⟩),
  (33, ⟨.int .i64, 1, 8, (.cons (.int .i64 0) .nil), false⟩),
  (44, ⟨.slice 3, 1, 24, (.cons (.slice none 0 0) .nil), false⟩),
  (48, ⟨.ptr 119, 1, 8, (.cons (.pointer none) .nil), false⟩),
  (52, ⟨.slice 62, 1, 24, (.cons (.slice none 0 0) .nil), false⟩),
  (53, ⟨.struct [(0, 3), (1, 3), (2, 3)], 3, 24, (.cons (.int .i64 0) (.cons (.int .i64 0) (.cons (.int .i64 0) .nil))), false⟩),
  (54, ⟨.struct [(0, 3), (1, 3), (2, 3)], 3, 24, (.cons (.int .i64 0) (.cons (.int .i64 0) (.cons (.int .i64 0) .nil))), true⟩),
  (55, ⟨.struct [(0, 54), (3, 3), (4, 3), (5, 3)], 6, 48, (.cons (.int .i64 0) (.cons (.int .i64 0) (.cons (.int .i64 0) (.cons (.int .i64 0) (.cons (.int .i64 0) (.cons (.int .i64 0) .nil)))))), true⟩),
  (56, ⟨.struct [(0, 54), (3, 3), (4, 3), (5, 3)], 6, 48, (.cons (.int .i64 0) (.cons (.int .i64 0) (.cons (.int .i64 0) (.cons (.int .i64 0) (.cons (.int .i64 0) (.cons (.int .i64 0) .nil)))))), true⟩),
  (58, ⟨.slice 60, 1, 24, (.cons (.slice none 0 0) .nil), false⟩),
  (59, ⟨.struct [(0, 3), (1, 3)], 2, 16, (.cons (.int .i64 0) (.cons (.int .i64 0) .nil)), false⟩),
  (60, ⟨.struct [(0, 3), (1, 3)], 2, 16, (.cons (.int .i64 0) (.cons (.int .i64 0) .nil)), true⟩),
  (61, ⟨.struct [(0, 3), (1, 3), (2, 60), (4, 4)], 5, 40, (.cons (.int .i64 0) (.cons (.int .i64 0) (.cons (.int .i64 0) (.cons (.int .i64 0) (.cons (.bool false) .nil))))), true⟩),
  (62, ⟨.struct [(0, 3), (1, 3), (2, 60), (4, 4)], 5, 40, (.cons (.int .i64 0) (.cons (.int .i64 0) (.cons (.int .i64 0) (.cons (.int .i64 0) (.cons (.bool false) .nil))))), true⟩),
  (72, ⟨.slice 5, 1, 24, (.cons (.slice none 0 0) .nil), false⟩),
  (79, ⟨.ptr 81, 1, 8, (.cons (.pointer none) .nil), false⟩),
  (80, ⟨.struct [(0, 54), (3, 44), (4, 44), (5, 44)], 6, 96, (.cons (.int .i64 0) (.cons (.int .i64 0) (.cons (.int .i64 0) (.cons (.slice none 0 0) (.cons (.slice none 0 0) (.cons (.slice none 0 0) .nil)))))), false⟩),
  (81, ⟨.struct [(0, 54), (3, 44), (4, 44), (5, 44)], 6, 96, (.cons (.int .i64 0) (.cons (.int .i64 0) (.cons (.int .i64 0) (.cons (.slice none 0 0) (.cons (.slice none 0 0) (.cons (.slice none 0 0) .nil)))))), false⟩),
  (94, ⟨.array 3 3, 3, 24, (.rep 1 3 (.cons (.int .i64 0) .nil) .nil), true⟩),
  (95, ⟨.array 16 3, 16, 128, (.rep 1 16 (.cons (.int .i64 0) .nil) .nil), true⟩),
  (96, ⟨.struct [(0, 95)], 16, 128, (.rep 1 16 (.cons (.int .i64 0) .nil) .nil), false⟩),
  (97, ⟨.struct [(0, 95)], 16, 128, (.rep 1 16 (.cons (.int .i64 0) .nil) .nil), true⟩),
  (98, ⟨.array 7 30, 21, 168, (.rep 3 7 (.cons (.bool false) (.cons (.int .i64 0) (.cons (.int .i64 0) .nil))) .nil), true⟩),
  (99, ⟨.struct [(0, 98)], 21, 168, (.rep 3 7 (.cons (.bool false) (.cons (.int .i64 0) (.cons (.int .i64 0) .nil))) .nil), true⟩),
  (100, ⟨.struct [(0, 98)], 21, 168, (.rep 3 7 (.cons (.bool false) (.cons (.int .i64 0) (.cons (.int .i64 0) .nil))) .nil), true⟩),
  (101, ⟨.struct [(0, 94), (3, 94), (6, 97), (22, 97), (38, 100)], 59, 472, (.rep 1 3 (.cons (.int .i64 0) .nil) (.rep 1 3 (.cons (.int .i64 0) .nil) (.rep 1 16 (.cons (.int .i64 0) .nil) (.rep 1 16 (.cons (.int .i64 0) .nil) (.rep 3 7 (.cons (.bool false) (.cons (.int .i64 0) (.cons (.int .i64 0) .nil))) .nil))))), true⟩),
  (102, ⟨.struct [(0, 94), (3, 94), (6, 97), (22, 97), (38, 100)], 59, 472, (.rep 1 3 (.cons (.int .i64 0) .nil) (.rep 1 3 (.cons (.int .i64 0) .nil) (.rep 1 16 (.cons (.int .i64 0) .nil) (.rep 1 16 (.cons (.int .i64 0) .nil) (.rep 3 7 (.cons (.bool false) (.cons (.int .i64 0) (.cons (.int .i64 0) .nil))) .nil))))), false⟩),
  (114, ⟨.array 4 48, 4, 32, (.rep 1 4 (.cons (.pointer none) .nil) .nil), false⟩),
  (115, ⟨.struct [(0, 3), (1, 114)], 5, 40, (.cons (.int .i64 0) (.rep 1 4 (.cons (.pointer none) .nil) .nil)), false⟩),
  (116, ⟨.struct [(0, 3), (1, 114)], 5, 40, (.cons (.int .i64 0) (.rep 1 4 (.cons (.pointer none) .nil) .nil)), false⟩),
  (117, ⟨.slice 120, 1, 24, (.cons (.slice none 0 0) .nil), false⟩),
  (118, ⟨.struct [(0, 3), (1, 117)], 2, 32, (.cons (.int .i64 0) (.cons (.slice none 0 0) .nil)), false⟩),
  (119, ⟨.struct [(0, 3), (1, 117)], 2, 32, (.cons (.int .i64 0) (.cons (.slice none 0 0) .nil)), false⟩),
  (120, ⟨.int .u64, 1, 8, (.cons (.int .u64 0) .nil), false⟩),
  (132, ⟨.slice 188, 1, 24, (.cons (.slice none 0 0) .nil), false⟩),
  (133, ⟨.struct [(0, 44), (1, 3)], 2, 32, (.cons (.slice none 0 0) (.cons (.int .i64 0) .nil)), false⟩),
  (134, ⟨.struct [(0, 44), (1, 3)], 2, 32, (.cons (.slice none 0 0) (.cons (.int .i64 0) .nil)), false⟩),
  (135, ⟨.struct [(0, 132), (1, 134), (3, 4), (4, 4), (5, 3), (6, 3)], 7, 80, (.cons (.slice none 0 0) (.cons (.slice none 0 0) (.cons (.int .i64 0) (.cons (.bool false) (.cons (.bool false) (.cons (.int .i64 0) (.cons (.int .i64 0) .nil))))))), false⟩),
  (136, ⟨.struct [(0, 132), (1, 134), (3, 4), (4, 4), (5, 3), (6, 3)], 7, 80, (.cons (.slice none 0 0) (.cons (.slice none 0 0) (.cons (.int .i64 0) (.cons (.bool false) (.cons (.bool false) (.cons (.int .i64 0) (.cons (.int .i64 0) .nil))))))), false⟩),
  (138, ⟨.struct [(0, 25), (1, 26)], 2, 16, (.cons (.pointer none) (.cons (.pointer none) .nil)), false⟩),
  (139, ⟨.struct [(0, 25), (1, 26)], 2, 16, (.cons (.pointer none) (.cons (.pointer none) .nil)), false⟩),
  (148, ⟨.slice 48, 1, 24, (.cons (.slice none 0 0) .nil), false⟩),
  (155, ⟨.int .u64, 1, 8, (.cons (.int .u64 0) .nil), false⟩),
  (157, ⟨.int .u32, 1, 4, (.cons (.int .u32 0) .nil), false⟩),
  (167, ⟨.slice 72, 1, 24, (.cons (.slice none 0 0) .nil), false⟩),
  (168, ⟨.array 16 157, 16, 64, (.rep 1 16 (.cons (.int .u32 0) .nil) .nil), true⟩),
  (171, ⟨.ptr 168, 1, 8, (.cons (.pointer none) .nil), false⟩),
  (176, ⟨.array 8 120, 8, 64, (.rep 1 8 (.cons (.int .u64 0) .nil) .nil), true⟩),
  (185, ⟨.array 64 5, 64, 64, (.rep 1 64 (.cons (.int .u8 0) .nil) .nil), true⟩),
  (187, ⟨.struct [(0, 120), (1, 120), (2, 120), (3, 4)], 4, 32, (.cons (.int .u64 0) (.cons (.int .u64 0) (.cons (.int .u64 0) (.cons (.bool false) .nil)))), false⟩),
  (188, ⟨.struct [(0, 120), (1, 120), (2, 120), (3, 4)], 4, 32, (.cons (.int .u64 0) (.cons (.int .u64 0) (.cons (.int .u64 0) (.cons (.bool false) .nil)))), false⟩),
  (191, ⟨.ptr 188, 1, 8, (.cons (.pointer none) .nil), false⟩),
  (193, ⟨.ptr 134, 1, 8, (.cons (.pointer none) .nil), false⟩),
  (195, ⟨.struct [(0, 17), (1, 17), (2, 17), (3, 9)], 4, 40, (.cons (.pointer none) (.cons (.pointer none) (.cons (.pointer none) (.cons (.string ⟨#[]⟩) .nil)))), false⟩),
  (196, ⟨.struct [(0, 17), (1, 17), (2, 17), (3, 9)], 4, 40, (.cons (.pointer none) (.cons (.pointer none) (.cons (.pointer none) (.cons (.string ⟨#[]⟩) .nil)))), false⟩),
  (197, ⟨.array 0 16, 0, 0, (.rep 1 0 (.cons (.pointer none) .nil) .nil), false⟩),
  (198, ⟨.struct [(0, 197)], 0, 0, (.rep 1 0 (.cons (.pointer none) .nil) .nil), false⟩),
  (199, ⟨.struct [(0, 197)], 0, 0, (.rep 1 0 (.cons (.pointer none) .nil) .nil), false⟩),
  (200, ⟨.int .u8, 1, 1, (.cons (.int .u8 0) .nil), false⟩),
  (201, ⟨.int .u8, 1, 1, (.cons (.int .u8 0) .nil), false⟩),
  (203, ⟨.ptr 5, 1, 8, (.cons (.pointer none) .nil), false⟩),
  (204, ⟨.int .i32, 1, 4, (.cons (.int .i32 0) .nil), false⟩),
  (205, ⟨.int .i32, 1, 4, (.cons (.int .i32 0) .nil), false⟩)]
theorem tb_ok0 : TBok0 Tryd.prog tb :=
  TBok0.cons ⟨by show _ = _; kernel_rfl, by kernel_rfl, by decide, by kernel_rfl⟩ <|
  TBok0.cons ⟨by show _ = _; kernel_rfl, by kernel_rfl, by decide, by kernel_rfl⟩ <|
  TBok0.cons ⟨by show _ = _; kernel_rfl, by kernel_rfl, by decide, by kernel_rfl⟩ <|
  TBok0.cons ⟨by show _ = _; kernel_rfl, by kernel_rfl, by decide, by kernel_rfl⟩ <|
  TBok0.cons ⟨by show _ = _; kernel_rfl, by kernel_rfl, by decide, by kernel_rfl⟩ <|
  TBok0.cons ⟨by show _ = _; kernel_rfl, by kernel_rfl, by decide, by kernel_rfl⟩ <|
  TBok0.cons ⟨by show _ = _; kernel_rfl, by kernel_rfl, by decide, by kernel_rfl⟩ <|
  TBok0.cons ⟨by show _ = _; kernel_rfl, by kernel_rfl, by decide, by kernel_rfl⟩ <|
  TBok0.cons ⟨by show _ = _; kernel_rfl, by kernel_rfl, by decide, by kernel_rfl⟩ <|
  TBok0.cons ⟨by show _ = _; kernel_rfl, by kernel_rfl, by decide, by kernel_rfl⟩ <|
  TBok0.cons ⟨by show _ = _; kernel_rfl, by kernel_rfl, by decide, by kernel_rfl⟩ <|
  TBok0.cons ⟨by show _ = _; kernel_rfl, by kernel_rfl, by decide, by kernel_rfl⟩ <|
  TBok0.cons ⟨by show _ = _; kernel_rfl, by kernel_rfl, by decide, by kernel_rfl⟩ <|
  TBok0.cons ⟨by show _ = _; kernel_rfl, by kernel_rfl, by decide, by kernel_rfl⟩ <|
  TBok0.cons ⟨by show _ = _; kernel_rfl, by kernel_rfl, by decide, by kernel_rfl⟩ <|
  TBok0.cons ⟨by show _ = _; kernel_rfl, by kernel_rfl, by decide, by kernel_rfl⟩ <|
  TBok0.cons ⟨by show _ = _; kernel_rfl, by kernel_rfl, by decide, by kernel_rfl⟩ <|
  TBok0.cons ⟨by show _ = _; kernel_rfl, by kernel_rfl, by decide, by kernel_rfl⟩ <|
  TBok0.cons ⟨by show _ = _; kernel_rfl, by kernel_rfl, by decide, by kernel_rfl⟩ <|
  TBok0.cons ⟨by show _ = _; kernel_rfl, by kernel_rfl, by decide, by kernel_rfl⟩ <|
  TBok0.cons ⟨by show _ = _; kernel_rfl, by kernel_rfl, by decide, by kernel_rfl⟩ <|
  TBok0.cons ⟨by show _ = _; kernel_rfl, by kernel_rfl, by decide, by kernel_rfl⟩ <|
  TBok0.cons ⟨by show _ = _; kernel_rfl, by kernel_rfl, by decide, by kernel_rfl⟩ <|
  TBok0.cons ⟨by show _ = _; kernel_rfl, by kernel_rfl, by decide, by kernel_rfl⟩ <|
  TBok0.cons ⟨by show _ = _; kernel_rfl, by kernel_rfl, by decide, by kernel_rfl⟩ <|
  TBok0.cons ⟨by show _ = _; kernel_rfl, by kernel_rfl, by decide, by kernel_rfl⟩ <|
  TBok0.cons ⟨by show _ = _; kernel_rfl, by kernel_rfl, by decide, by kernel_rfl⟩ <|
  TBok0.cons ⟨by show _ = _; kernel_rfl, by kernel_rfl, by decide, by kernel_rfl⟩ <|
  TBok0.cons ⟨by show _ = _; kernel_rfl, by kernel_rfl, by decide, by kernel_rfl⟩ <|
  TBok0.cons ⟨by show _ = _; kernel_rfl, by kernel_rfl, by decide, by kernel_rfl⟩ <|
  TBok0.cons ⟨by show _ = _; kernel_rfl, by kernel_rfl, by decide, by kernel_rfl⟩ <|
  TBok0.cons ⟨by show _ = _; kernel_rfl, by kernel_rfl, by decide, by kernel_rfl⟩ <|
  TBok0.cons ⟨by show _ = _; kernel_rfl, by kernel_rfl, by decide, by kernel_rfl⟩ <|
  TBok0.cons ⟨by show _ = _; kernel_rfl, by kernel_rfl, by decide, by kernel_rfl⟩ <|
  TBok0.cons ⟨by show _ = _; kernel_rfl, by kernel_rfl, by decide, by kernel_rfl⟩ <|
  TBok0.cons ⟨by show _ = _; kernel_rfl, by kernel_rfl, by decide, by kernel_rfl⟩ <|
  TBok0.cons ⟨by show _ = _; kernel_rfl, by kernel_rfl, by decide, by kernel_rfl⟩ <|
  TBok0.cons ⟨by show _ = _; kernel_rfl, by kernel_rfl, by decide, by kernel_rfl⟩ <|
  TBok0.cons ⟨by show _ = _; kernel_rfl, by kernel_rfl, by decide, by kernel_rfl⟩ <|
  TBok0.cons ⟨by show _ = _; kernel_rfl, by kernel_rfl, by decide, by kernel_rfl⟩ <|
  TBok0.cons ⟨by show _ = _; kernel_rfl, by kernel_rfl, by decide, by kernel_rfl⟩ <|
  TBok0.cons ⟨by show _ = _; kernel_rfl, by kernel_rfl, by decide, by kernel_rfl⟩ <|
  TBok0.cons ⟨by show _ = _; kernel_rfl, by kernel_rfl, by decide, by kernel_rfl⟩ <|
  TBok0.cons ⟨by show _ = _; kernel_rfl, by kernel_rfl, by decide, by kernel_rfl⟩ <|
  TBok0.cons ⟨by show _ = _; kernel_rfl, by kernel_rfl, by decide, by kernel_rfl⟩ <|
  TBok0.cons ⟨by show _ = _; kernel_rfl, by kernel_rfl, by decide, by kernel_rfl⟩ <|
  TBok0.cons ⟨by show _ = _; kernel_rfl, by kernel_rfl, by decide, by kernel_rfl⟩ <|
  TBok0.cons ⟨by show _ = _; kernel_rfl, by kernel_rfl, by decide, by kernel_rfl⟩ <|
  TBok0.cons ⟨by show _ = _; kernel_rfl, by kernel_rfl, by decide, by kernel_rfl⟩ <|
  TBok0.cons ⟨by show _ = _; kernel_rfl, by kernel_rfl, by decide, by kernel_rfl⟩ <|
  TBok0.cons ⟨by show _ = _; kernel_rfl, by kernel_rfl, by decide, by kernel_rfl⟩ <|
  TBok0.cons ⟨by show _ = _; kernel_rfl, by kernel_rfl, by decide, by kernel_rfl⟩ <|
  TBok0.cons ⟨by show _ = _; kernel_rfl, by kernel_rfl, by decide, by kernel_rfl⟩ <|
  TBok0.cons ⟨by show _ = _; kernel_rfl, by kernel_rfl, by decide, by kernel_rfl⟩ <|
  TBok0.cons ⟨by show _ = _; kernel_rfl, by kernel_rfl, by decide, by kernel_rfl⟩ <|
  TBok0.cons ⟨by show _ = _; kernel_rfl, by kernel_rfl, by decide, by kernel_rfl⟩ <|
  TBok0.cons ⟨by show _ = _; kernel_rfl, by kernel_rfl, by decide, by kernel_rfl⟩ <|
  TBok0.cons ⟨by show _ = _; kernel_rfl, by kernel_rfl, by decide, by kernel_rfl⟩ <|
  TBok0.cons ⟨by show _ = _; kernel_rfl, by kernel_rfl, by decide, by kernel_rfl⟩ <|
  TBok0.cons ⟨by show _ = _; kernel_rfl, by kernel_rfl, by decide, by kernel_rfl⟩ <|
  TBok0.cons ⟨by show _ = _; kernel_rfl, by kernel_rfl, by decide, by kernel_rfl⟩ <|
  TBok0.cons ⟨by show _ = _; kernel_rfl, by kernel_rfl, by decide, by kernel_rfl⟩ <|
  TBok0.cons ⟨by show _ = _; kernel_rfl, by kernel_rfl, by decide, by kernel_rfl⟩ <|
  TBok0.cons ⟨by show _ = _; kernel_rfl, by kernel_rfl, by decide, by kernel_rfl⟩ <|
  TBok0.cons ⟨by show _ = _; kernel_rfl, by kernel_rfl, by decide, by kernel_rfl⟩ <|
  TBok0.cons ⟨by show _ = _; kernel_rfl, by kernel_rfl, by decide, by kernel_rfl⟩ <|
  TBok0.cons ⟨by show _ = _; kernel_rfl, by kernel_rfl, by decide, by kernel_rfl⟩ <|
  TBok0.cons ⟨by show _ = _; kernel_rfl, by kernel_rfl, by decide, by kernel_rfl⟩ <|
  TBok0.cons ⟨by show _ = _; kernel_rfl, by kernel_rfl, by decide, by kernel_rfl⟩ <|
  TBok0.cons ⟨by show _ = _; kernel_rfl, by kernel_rfl, by decide, by kernel_rfl⟩ <|
  TBok0.cons ⟨by show _ = _; kernel_rfl, by kernel_rfl, by decide, by kernel_rfl⟩ <|
  TBok0.cons ⟨by show _ = _; kernel_rfl, by kernel_rfl, by decide, by kernel_rfl⟩ <|
  TBok0.cons ⟨by show _ = _; kernel_rfl, by kernel_rfl, by decide, by kernel_rfl⟩ <|
  TBok0.cons ⟨by show _ = _; kernel_rfl, by kernel_rfl, by decide, by kernel_rfl⟩ <|
  TBok0.cons ⟨by show _ = _; kernel_rfl, by kernel_rfl, by decide, by kernel_rfl⟩ <|
  TBok0.cons ⟨by show _ = _; kernel_rfl, by kernel_rfl, by decide, by kernel_rfl⟩ <|
  TBok0.cons ⟨by show _ = _; kernel_rfl, by kernel_rfl, by decide, by kernel_rfl⟩ <|
  TBok0.cons ⟨by show _ = _; kernel_rfl, by kernel_rfl, by decide, by kernel_rfl⟩ <|
  TBok0.cons ⟨by show _ = _; kernel_rfl, by kernel_rfl, by decide, by kernel_rfl⟩ <|
  TBok0.cons ⟨by show _ = _; kernel_rfl, by kernel_rfl, by decide, by kernel_rfl⟩ <|
  TBok0.cons ⟨by show _ = _; kernel_rfl, by kernel_rfl, by decide, by kernel_rfl⟩ <|
  TBok0.cons ⟨by show _ = _; kernel_rfl, by kernel_rfl, by decide, by kernel_rfl⟩ <|
  TBok0.cons ⟨by show _ = _; kernel_rfl, by kernel_rfl, by decide, by kernel_rfl⟩ <|
  TBok0.cons ⟨by show _ = _; kernel_rfl, by kernel_rfl, by decide, by kernel_rfl⟩ <|
  TBok0.cons ⟨by show _ = _; kernel_rfl, by kernel_rfl, by decide, by kernel_rfl⟩ <|
  TBok0.cons ⟨by show _ = _; kernel_rfl, by kernel_rfl, by decide, by kernel_rfl⟩ <|
  TBok0.cons ⟨by show _ = _; kernel_rfl, by kernel_rfl, by decide, by kernel_rfl⟩ <|
  TBok0.cons ⟨by show _ = _; kernel_rfl, by kernel_rfl, by decide, by kernel_rfl⟩ <|
  TBok0.cons ⟨by show _ = _; kernel_rfl, by kernel_rfl, by decide, by kernel_rfl⟩ <|
  TBok0.cons ⟨by show _ = _; kernel_rfl, by kernel_rfl, by decide, by kernel_rfl⟩ <|
  TBok0.nil
theorem tb_ok : TBok Tryd.prog tb := ⟨tb_ok0, fun _ => by kernel_rfl⟩
theorem mixed : Tryd.prog.follows .mixedOrders = true := by kernel_rfl
end Go.Sx
