import Derived.Test.YtkdppdofkkakaaaGreatDoorSxX
import Derived.Test.YtkdppdofkkakaaaGreatDoorRows
import Derived.KernelRfl

namespace Go.Sx
open Go.Proofs
def tb : TB := [(2, ⟨.int .i64, 1, 8, (.cons (.int .i64 0) .nil), false⟩),
 (2, ⟨.int .i64, 1, 8, (.cons (.int .i64 0) .nil), false⟩),
 (3, ⟨.int .i64, 1, 8, (.cons (.int .i64 0) .nil), false⟩),
 (4, ⟨.bool, 1, 1, (.cons (.bool false) .nil), false⟩),
 (5, ⟨.int .u8, 1, 1, (.cons (.int .u8 0) .nil), false⟩),
 (6, ⟨.int .u8, 1, 1, (.cons (.int .u8 0) .nil), false⟩),
 (7, ⟨.struct [(0, 2), (1, 3), (2, 4), (3, 6)], 4, 24, (.cons (.int .i64 0) (.cons (.int .i64 0) (.cons (.bool false) (.cons (.int .u8 0) .nil)))), false⟩),
 (8, ⟨.struct [(0, 2), (1, 3), (2, 4), (3, 6)], 4, 24, (.cons (.int .i64 0) (.cons (.int .i64 0) (.cons (.bool false) (.cons (.int .u8 0) .nil)))), false⟩),
 (9, ⟨.str, 1, 16, (.cons (.string ⟨#[]⟩) .nil), false⟩),
 (10, ⟨.str, 1, 16, (.cons (.string ⟨#[]⟩) .nil), false⟩),
 (11, ⟨.str, 1, 16, (.cons (.string ⟨#[]⟩) .nil), false⟩),
 (12, ⟨.int .u64, 1, 8, (.cons (.int .u64 0) .nil), false⟩),
 (13, ⟨.struct [(0, 9), (1, 12)], 2, 24, (.cons (.string ⟨#[]⟩) (.cons (.int .u64 0) .nil)), false⟩),
 (14, ⟨.struct [(0, 9), (1, 12)], 2, 24, (.cons (.string ⟨#[]⟩) (.cons (.int .u64 0) .nil)), false⟩),
 (15, ⟨.ptr 244, 1, 8, (.cons (.pointer none) .nil), false⟩),
 (16, ⟨.ptr 247, 1, 8, (.cons (.pointer none) .nil), false⟩),
 (17, ⟨.ptr 255, 1, 8, (.cons (.pointer none) .nil), false⟩),
 (18, ⟨.struct [(0, 17)], 1, 8, (.cons (.pointer none) .nil), false⟩),
 (19, ⟨.struct [(0, 17)], 1, 8, (.cons (.pointer none) .nil), false⟩),
 (21, ⟨.int .i32, 1, 4, (.cons (.int .i32 0) .nil), false⟩),
 (22, ⟨.slice 38, 1, 24, (.cons (.slice none 0 0) .nil), false⟩),
 (23, ⟨.slice 5, 1, 24, (.cons (.slice none 0 0) .nil), false⟩),
 (24, ⟨.struct [(0, 22), (1, 5), (2, 23), (3, 3)], 4, 64, (.cons (.slice none 0 0) (.cons (.int .u8 0) (.cons (.slice none 0 0) (.cons (.int .i64 0) .nil)))), false⟩),
 (25, ⟨.struct [(0, 22), (1, 5), (2, 23), (3, 3)], 4, 64, (.cons (.slice none 0 0) (.cons (.int .u8 0) (.cons (.slice none 0 0) (.cons (.int .i64 0) .nil)))), false⟩),
 (27, ⟨.ptr 146, 1, 8, (.cons (.pointer none) .nil), false⟩),
 (28, ⟨.ptr 135, 1, 8, (.cons (.pointer none) .nil), false⟩),
 (29, ⟨.ptr 140, 1, 8, (.cons (.pointer none) .nil), false⟩),
 (32, ⟨.int .i64, 1, 8, (.cons (.int .i64 0) .nil), false⟩),
 (35, ⟨.struct [(0, 4), (1, 3), (2, 3)], 3, 24, (.cons (.bool false) (.cons (.int .i64 0) (.cons (.int .i64 0) .nil))), false⟩),
 (36, ⟨.struct [(0, 4), (1, 3), (2, 3)], 3, 24, (.cons (.bool false) (.cons (.int .i64 0) (.cons (.int .i64 0) .nil))), true⟩),
 (37, ⟨.struct [(0, 3), (1, 36), (4, 4)], 5, 40, (.cons (.int .i64 0) (.cons (.bool false) (.cons (.int .i64 0) (.cons (.int .i64 0) (.cons (.bool false) .nil))))), true⟩),
 (38, ⟨.struct [(0, 3), (1, 36), (4, 4)], 5, 40, (.cons (.int .i64 0) (.cons (.bool false) (.cons (.int .i64 0) (.cons (.int .i64 0) (.cons (.bool false) .nil))))), true⟩),
 (43, ⟨.ptr 143, 1, 8, (.cons (.pointer none) .nil), false⟩),
 (47, ⟨.slice 3, 1, 24, (.cons (.slice none 0 0) .nil), false⟩),
 (59, ⟨.array 3 3, 3, 24, (.rep 1 3 (.cons (.int .i64 0) .nil) .nil), true⟩),
 (60, ⟨.ptr 71, 1, 8, (.cons (.pointer none) .nil), false⟩),
 (62, ⟨.struct [(0, 3), (1, 3), (2, 3)], 3, 24, (.cons (.int .i64 0) (.cons (.int .i64 0) (.cons (.int .i64 0) .nil))), false⟩),
 (63, ⟨.struct [(0, 3), (1, 3), (2, 3)], 3, 24, (.cons (.int .i64 0) (.cons (.int .i64 0) (.cons (.int .i64 0) .nil))), true⟩),
 (64, ⟨.struct [(0, 63), (3, 3), (4, 3), (5, 3)], 6, 48, (.cons (.int .i64 0) (.cons (.int .i64 0) (.cons (.int .i64 0) (.cons (.int .i64 0) (.cons (.int .i64 0) (.cons (.int .i64 0) .nil)))))), true⟩),
 (65, ⟨.struct [(0, 63), (3, 3), (4, 3), (5, 3)], 6, 48, (.cons (.int .i64 0) (.cons (.int .i64 0) (.cons (.int .i64 0) (.cons (.int .i64 0) (.cons (.int .i64 0) (.cons (.int .i64 0) .nil)))))), true⟩),
 (66, ⟨.struct [(0, 3), (1, 3)], 2, 16, (.cons (.int .i64 0) (.cons (.int .i64 0) .nil)), false⟩),
 (67, ⟨.struct [(0, 3), (1, 3)], 2, 16, (.cons (.int .i64 0) (.cons (.int .i64 0) .nil)), true⟩),
 (70, ⟨.struct [(0, 27), (1, 28), (2, 29), (3, 65)], 9, 72, (.cons (.pointer none) (.cons (.pointer none) (.cons (.pointer none) (.cons (.int .i64 0) (.cons (.int .i64 0) (.cons (.int .i64 0) (.cons (.int .i64 0) (.cons (.int .i64 0) (.cons (.int .i64 0) .nil))))))))), false⟩),
 (71, ⟨.struct [(0, 27), (1, 28), (2, 29), (3, 65)], 9, 72, (.cons (.pointer none) (.cons (.pointer none) (.cons (.pointer none) (.cons (.int .i64 0) (.cons (.int .i64 0) (.cons (.int .i64 0) (.cons (.int .i64 0) (.cons (.int .i64 0) (.cons (.int .i64 0) .nil))))))))), false⟩),
 (75, ⟨.array 2 3, 2, 16, (.rep 1 2 (.cons (.int .i64 0) .nil) .nil), true⟩),
 (76, ⟨.struct [(0, 67), (2, 3), (3, 3)], 4, 32, (.cons (.int .i64 0) (.cons (.int .i64 0) (.cons (.int .i64 0) (.cons (.int .i64 0) .nil)))), true⟩),
 (77, ⟨.struct [(0, 67), (2, 3), (3, 3)], 4, 32, (.cons (.int .i64 0) (.cons (.int .i64 0) (.cons (.int .i64 0) (.cons (.int .i64 0) .nil)))), true⟩),
 (78, ⟨.struct [(0, 77), (4, 47)], 5, 56, (.cons (.int .i64 0) (.cons (.int .i64 0) (.cons (.int .i64 0) (.cons (.int .i64 0) (.cons (.slice none 0 0) .nil))))), false⟩),
 (79, ⟨.struct [(0, 77), (4, 47)], 5, 56, (.cons (.int .i64 0) (.cons (.int .i64 0) (.cons (.int .i64 0) (.cons (.int .i64 0) (.cons (.slice none 0 0) .nil))))), false⟩),
 (87, ⟨.slice 23, 1, 24, (.cons (.slice none 0 0) .nil), false⟩),
 (90, ⟨.slice 77, 1, 24, (.cons (.slice none 0 0) .nil), false⟩),
 (97, ⟨.slice 75, 1, 24, (.cons (.slice none 0 0) .nil), false⟩),
 (111, ⟨.array 16 3, 16, 128, (.rep 1 16 (.cons (.int .i64 0) .nil) .nil), true⟩),
 (112, ⟨.struct [(0, 111)], 16, 128, (.rep 1 16 (.cons (.int .i64 0) .nil) .nil), false⟩),
 (113, ⟨.struct [(0, 111)], 16, 128, (.rep 1 16 (.cons (.int .i64 0) .nil) .nil), true⟩),
 (114, ⟨.array 7 36, 21, 168, (.rep 3 7 (.cons (.bool false) (.cons (.int .i64 0) (.cons (.int .i64 0) .nil))) .nil), true⟩),
 (115, ⟨.struct [(0, 114)], 21, 168, (.rep 3 7 (.cons (.bool false) (.cons (.int .i64 0) (.cons (.int .i64 0) .nil))) .nil), true⟩),
 (116, ⟨.struct [(0, 114)], 21, 168, (.rep 3 7 (.cons (.bool false) (.cons (.int .i64 0) (.cons (.int .i64 0) .nil))) .nil), true⟩),
 (117, ⟨.struct [(0, 59), (3, 59), (6, 113), (22, 113), (38, 116)], 59, 472, (.rep 1 3 (.cons (.int .i64 0) .nil) (.rep 1 3 (.cons (.int .i64 0) .nil) (.rep 1 16 (.cons (.int .i64 0) .nil) (.rep 1 16 (.cons (.int .i64 0) .nil) (.rep 3 7 (.cons (.bool false) (.cons (.int .i64 0) (.cons (.int .i64 0) .nil))) .nil))))), true⟩),
 (118, ⟨.struct [(0, 59), (3, 59), (6, 113), (22, 113), (38, 116)], 59, 472, (.rep 1 3 (.cons (.int .i64 0) .nil) (.rep 1 3 (.cons (.int .i64 0) .nil) (.rep 1 16 (.cons (.int .i64 0) .nil) (.rep 1 16 (.cons (.int .i64 0) .nil) (.rep 3 7 (.cons (.bool false) (.cons (.int .i64 0) (.cons (.int .i64 0) .nil))) .nil))))), false⟩),
 (126, ⟨.ptr 129, 1, 8, (.cons (.pointer none) .nil), false⟩),
 (127, ⟨.int .u64, 1, 8, (.cons (.int .u64 0) .nil), false⟩),
 (128, ⟨.struct [(0, 127), (1, 127), (2, 127), (3, 4)], 4, 32, (.cons (.int .u64 0) (.cons (.int .u64 0) (.cons (.int .u64 0) (.cons (.bool false) .nil)))), false⟩),
 (129, ⟨.struct [(0, 127), (1, 127), (2, 127), (3, 4)], 4, 32, (.cons (.int .u64 0) (.cons (.int .u64 0) (.cons (.int .u64 0) (.cons (.bool false) .nil)))), false⟩),
 (131, ⟨.slice 129, 1, 24, (.cons (.slice none 0 0) .nil), false⟩),
 (132, ⟨.struct [(0, 47), (1, 3)], 2, 32, (.cons (.slice none 0 0) (.cons (.int .i64 0) .nil)), false⟩),
 (133, ⟨.struct [(0, 47), (1, 3)], 2, 32, (.cons (.slice none 0 0) (.cons (.int .i64 0) .nil)), false⟩),
 (134, ⟨.struct [(0, 131), (1, 133), (3, 4), (4, 4), (5, 3), (6, 3)], 7, 80, (.cons (.slice none 0 0) (.cons (.slice none 0 0) (.cons (.int .i64 0) (.cons (.bool false) (.cons (.bool false) (.cons (.int .i64 0) (.cons (.int .i64 0) .nil))))))), false⟩),
 (135, ⟨.struct [(0, 131), (1, 133), (3, 4), (4, 4), (5, 3), (6, 3)], 7, 80, (.cons (.slice none 0 0) (.cons (.slice none 0 0) (.cons (.int .i64 0) (.cons (.bool false) (.cons (.bool false) (.cons (.int .i64 0) (.cons (.int .i64 0) .nil))))))), false⟩),
 (136, ⟨.slice 127, 1, 24, (.cons (.slice none 0 0) .nil), false⟩),
 (138, ⟨.array 4 43, 4, 32, (.rep 1 4 (.cons (.pointer none) .nil) .nil), false⟩),
 (139, ⟨.struct [(0, 3), (1, 138)], 5, 40, (.cons (.int .i64 0) (.rep 1 4 (.cons (.pointer none) .nil) .nil)), false⟩),
 (140, ⟨.struct [(0, 3), (1, 138)], 5, 40, (.cons (.int .i64 0) (.rep 1 4 (.cons (.pointer none) .nil) .nil)), false⟩),
 (142, ⟨.struct [(0, 3), (1, 136)], 2, 32, (.cons (.int .i64 0) (.cons (.slice none 0 0) .nil)), false⟩),
 (143, ⟨.struct [(0, 3), (1, 136)], 2, 32, (.cons (.int .i64 0) (.cons (.slice none 0 0) .nil)), false⟩),
 (145, ⟨.struct [(0, 28), (1, 29)], 2, 16, (.cons (.pointer none) (.cons (.pointer none) .nil)), false⟩),
 (146, ⟨.struct [(0, 28), (1, 29)], 2, 16, (.cons (.pointer none) (.cons (.pointer none) .nil)), false⟩),
 (200, ⟨.int .u64, 1, 8, (.cons (.int .u64 0) .nil), false⟩),
 (201, ⟨.int .u32, 1, 4, (.cons (.int .u32 0) .nil), false⟩),
 (212, ⟨.array 8 127, 8, 64, (.rep 1 8 (.cons (.int .u64 0) .nil) .nil), true⟩),
 (222, ⟨.array 16 201, 16, 64, (.rep 1 16 (.cons (.int .u32 0) .nil) .nil), true⟩),
 (225, ⟨.ptr 222, 1, 8, (.cons (.pointer none) .nil), false⟩),
 (237, ⟨.array 64 5, 64, 64, (.rep 1 64 (.cons (.int .u8 0) .nil) .nil), true⟩),
 (238, ⟨.slice 43, 1, 24, (.cons (.slice none 0 0) .nil), false⟩),
 (242, ⟨.ptr 133, 1, 8, (.cons (.pointer none) .nil), false⟩),
 (243, ⟨.struct [(0, 17), (1, 17), (2, 17), (3, 9)], 4, 40, (.cons (.pointer none) (.cons (.pointer none) (.cons (.pointer none) (.cons (.string ⟨#[]⟩) .nil)))), false⟩),
 (244, ⟨.struct [(0, 17), (1, 17), (2, 17), (3, 9)], 4, 40, (.cons (.pointer none) (.cons (.pointer none) (.cons (.pointer none) (.cons (.string ⟨#[]⟩) .nil)))), false⟩),
 (245, ⟨.array 0 16, 0, 0, (.rep 1 0 (.cons (.pointer none) .nil) .nil), false⟩),
 (246, ⟨.struct [(0, 245)], 0, 0, (.rep 1 0 (.cons (.pointer none) .nil) .nil), false⟩),
 (247, ⟨.struct [(0, 245)], 0, 0, (.rep 1 0 (.cons (.pointer none) .nil) .nil), false⟩),
 (248, ⟨.int .u8, 1, 1, (.cons (.int .u8 0) .nil), false⟩),
 (249, ⟨.int .u8, 1, 1, (.cons (.int .u8 0) .nil), false⟩),
 (251, ⟨.ptr 5, 1, 8, (.cons (.pointer none) .nil), false⟩),
 (252, ⟨.int .i32, 1, 4, (.cons (.int .i32 0) .nil), false⟩),
 (253, ⟨.int .i32, 1, 4, (.cons (.int .i32 0) .nil), false⟩)]
theorem tb_ok0 : TBok0 Tryz.prog tb :=
 TBok0.cons ⟨by show _ = _; kernel_rfl, by kernel_rfl, by decide, by kernel_rfl⟩ <|
 TBok0.cons ⟨by show _ = _; kernel_rfl, by kernel_rfl, by decide, by kernel_rfl⟩ <|
 TBok0.cons ⟨by show _ = _; kernel_rfl, by kernel_rfl, by decide, by kernel_rfl⟩ <|
 TBok0.cons ⟨by show _ = _; kernel_rfl, by kernel_rfl, by decide, by kernel_rfl⟩ <|
 TBok0.cons ⟨by show _ = _; kernel_rfl, by kernel_rfl, by decide, by kernel_rfl⟩ <|
 TBok0.cons ⟨by show _ = _; kernel_rfl, by kernel_rfl, by decide, by kernel_rfl⟩ <|
 TBok0.cons ⟨by show _ = _; kernel_rfl, by kernel_rfl, by decide, by kernel_rfl⟩ <|
 TBok0.cons ⟨by show _ = _; kernel_rfl, by kernel_rfl, by decide, by kernel_rfl⟩ <|
 TBok0.cons ⟨by show _ = _; kernel_rfl, by kernel_rfl, by decide, by kernel_rfl⟩ <|
 TBok0.cons ⟨by show _ = _; kernel_rfl, by kernel_rfl, by decide, by kernel_rfl⟩ <|
 TBok0.cons ⟨by show _ = _; kernel_rfl, by kernel_rfl, by decide, by kernel_rfl⟩ <|
 TBok0.cons ⟨by show _ = _; kernel_rfl, by kernel_rfl, by decide, by kernel_rfl⟩ <|
 TBok0.cons ⟨by show _ = _; kernel_rfl, by kernel_rfl, by decide, by kernel_rfl⟩ <|
 TBok0.cons ⟨by show _ = _; kernel_rfl, by kernel_rfl, by decide, by kernel_rfl⟩ <|
 TBok0.cons ⟨by show _ = _; kernel_rfl, by kernel_rfl, by decide, by kernel_rfl⟩ <|
 TBok0.cons ⟨by show _ = _; kernel_rfl, by kernel_rfl, by decide, by kernel_rfl⟩ <|
 TBok0.cons ⟨by show _ = _; kernel_rfl, by kernel_rfl, by decide, by kernel_rfl⟩ <|
 TBok0.cons ⟨by show _ = _; kernel_rfl, by kernel_rfl, by decide, by kernel_rfl⟩ <|
 TBok0.cons ⟨by show _ = _; kernel_rfl, by kernel_rfl, by decide, by kernel_rfl⟩ <|
 TBok0.cons ⟨by show _ = _; kernel_rfl, by kernel_rfl, by decide, by kernel_rfl⟩ <|
 TBok0.cons ⟨by show _ = _; kernel_rfl, by kernel_rfl, by decide, by kernel_rfl⟩ <|
 TBok0.cons ⟨by show _ = _; kernel_rfl, by kernel_rfl, by decide, by kernel_rfl⟩ <|
 TBok0.cons ⟨by show _ = _; kernel_rfl, by kernel_rfl, by decide, by kernel_rfl⟩ <|
 TBok0.cons ⟨by show _ = _; kernel_rfl, by kernel_rfl, by decide, by kernel_rfl⟩ <|
 TBok0.cons ⟨by show _ = _; kernel_rfl, by kernel_rfl, by decide, by kernel_rfl⟩ <|
 TBok0.cons ⟨by show _ = _; kernel_rfl, by kernel_rfl, by decide, by kernel_rfl⟩ <|
 TBok0.cons ⟨by show _ = _; kernel_rfl, by kernel_rfl, by decide, by kernel_rfl⟩ <|
 TBok0.cons ⟨by show _ = _; kernel_rfl, by kernel_rfl, by decide, by kernel_rfl⟩ <|
 TBok0.cons ⟨by show _ = _; kernel_rfl, by kernel_rfl, by decide, by kernel_rfl⟩ <|
 TBok0.cons ⟨by show _ = _; kernel_rfl, by kernel_rfl, by decide, by kernel_rfl⟩ <|
 TBok0.cons ⟨by show _ = _; kernel_rfl, by kernel_rfl, by decide, by kernel_rfl⟩ <|
 TBok0.cons ⟨by show _ = _; kernel_rfl, by kernel_rfl, by decide, by kernel_rfl⟩ <|
 TBok0.cons ⟨by show _ = _; kernel_rfl, by kernel_rfl, by decide, by kernel_rfl⟩ <|
 TBok0.cons ⟨by show _ = _; kernel_rfl, by kernel_rfl, by decide, by kernel_rfl⟩ <|
 TBok0.cons ⟨by show _ = _; kernel_rfl, by kernel_rfl, by decide, by kernel_rfl⟩ <|
 TBok0.cons ⟨by show _ = _; kernel_rfl, by kernel_rfl, by decide, by kernel_rfl⟩ <|
 TBok0.cons ⟨by show _ = _; kernel_rfl, by kernel_rfl, by decide, by kernel_rfl⟩ <|
 TBok0.cons ⟨by show _ = _; kernel_rfl, by kernel_rfl, by decide, by kernel_rfl⟩ <|
 TBok0.cons ⟨by show _ = _; kernel_rfl, by kernel_rfl, by decide, by kernel_rfl⟩ <|
 TBok0.cons ⟨by show _ = _; kernel_rfl, by kernel_rfl, by decide, by kernel_rfl⟩ <|
 TBok0.cons ⟨by show _ = _; kernel_rfl, by kernel_rfl, by decide, by kernel_rfl⟩ <|
 TBok0.cons ⟨by show _ = _; kernel_rfl, by kernel_rfl, by decide, by kernel_rfl⟩ <|
 TBok0.cons ⟨by show _ = _; kernel_rfl, by kernel_rfl, by decide, by kernel_rfl⟩ <|
 TBok0.cons ⟨by show _ = _; kernel_rfl, by kernel_rfl, by decide, by kernel_rfl⟩ <|
 TBok0.cons ⟨by show _ = _; kernel_rfl, by kernel_rfl, by decide, by kernel_rfl⟩ <|
 TBok0.cons ⟨by show _ = _; kernel_rfl, by kernel_rfl, by decide, by kernel_rfl⟩ <|
 TBok0.cons ⟨by show _ = _; kernel_rfl, by kernel_rfl, by decide, by kernel_rfl⟩ <|
 TBok0.cons ⟨by show _ = _; kernel_rfl, by kernel_rfl, by decide, by kernel_rfl⟩ <|
 TBok0.cons ⟨by show _ = _; kernel_rfl, by kernel_rfl, by decide, by kernel_rfl⟩ <|
 TBok0.cons ⟨by show _ = _; kernel_rfl, by kernel_rfl, by decide, by kernel_rfl⟩ <|
 TBok0.cons ⟨by show _ = _; kernel_rfl, by kernel_rfl, by decide, by kernel_rfl⟩ <|
 TBok0.cons ⟨by show _ = _; kernel_rfl, by kernel_rfl, by decide, by kernel_rfl⟩ <|
 TBok0.cons ⟨by show _ = _; kernel_rfl, by kernel_rfl, by decide, by kernel_rfl⟩ <|
 TBok0.cons ⟨by show _ = _; kernel_rfl, by kernel_rfl, by decide, by kernel_rfl⟩ <|
 TBok0.cons ⟨by show _ = _; kernel_rfl, by kernel_rfl, by decide, by kernel_rfl⟩ <|
 TBok0.cons ⟨by show _ = _; kernel_rfl, by kernel_rfl, by decide, by kernel_rfl⟩ <|
 TBok0.cons ⟨by show _ = _; kernel_rfl, by kernel_rfl, by decide, by kernel_rfl⟩ <|
 TBok0.cons ⟨by show _ = _; kernel_rfl, by kernel_rfl, by decide, by kernel_rfl⟩ <|
 TBok0.cons ⟨by show _ = _; kernel_rfl, by kernel_rfl, by decide, by kernel_rfl⟩ <|
 TBok0.cons ⟨by show _ = _; kernel_rfl, by kernel_rfl, by decide, by kernel_rfl⟩ <|
 TBok0.cons ⟨by show _ = _; kernel_rfl, by kernel_rfl, by decide, by kernel_rfl⟩ <|
 TBok0.cons ⟨by show _ = _; kernel_rfl, by kernel_rfl, by decide, by kernel_rfl⟩ <|
 TBok0.cons ⟨by show _ = _; kernel_rfl, by kernel_rfl, by decide, by kernel_rfl⟩ <|
 TBok0.cons ⟨by show _ = _; kernel_rfl, by kernel_rfl, by decide, by kernel_rfl⟩ <|
 TBok0.cons ⟨by show _ = _; kernel_rfl, by kernel_rfl, by decide, by kernel_rfl⟩ <|
 TBok0.cons ⟨by show _ = _; kernel_rfl, by kernel_rfl, by decide, by kernel_rfl⟩ <|
 TBok0.cons ⟨by show _ = _; kernel_rfl, by kernel_rfl, by decide, by kernel_rfl⟩ <|
 TBok0.cons ⟨by show _ = _; kernel_rfl, by kernel_rfl, by decide, by kernel_rfl⟩ <|
 TBok0.cons ⟨by show _ = _; kernel_rfl, by kernel_rfl, by decide, by kernel_rfl⟩ <|
 TBok0.cons ⟨by show _ = _; kernel_rfl, by kernel_rfl, by decide, by kernel_rfl⟩ <|
 TBok0.cons ⟨by show _ = _; kernel_rfl, by kernel_rfl, by decide, by kernel_rfl⟩ <|
 TBok0.cons ⟨by show _ = _; kernel_rfl, by kernel_rfl, by decide, by kernel_rfl⟩ <|
 TBok0.cons ⟨by show _ = _; kernel_rfl, by kernel_rfl, by decide, by kernel_rfl⟩ <|
 TBok0.cons ⟨by show _ = _; kernel_rfl, by kernel_rfl, by decide, by kernel_rfl⟩ <|
 TBok0.cons ⟨by show _ = _; kernel_rfl, by kernel_rfl, by decide, by kernel_rfl⟩ <|
 TBok0.cons ⟨by show _ = _; kernel_rfl, by kernel_rfl, by decide, by kernel_rfl⟩ <|
 TBok0.cons ⟨by show _ = _; kernel_rfl, by kernel_rfl, by decide, by kernel_rfl⟩ <|
 TBok0.cons ⟨by show _ = _; kernel_rfl, by kernel_rfl, by decide, by kernel_rfl⟩ <|
 TBok0.cons ⟨by show _ = _; kernel_rfl, by kernel_rfl, by decide, by kernel_rfl⟩ <|
 TBok0.cons ⟨by show _ = _; kernel_rfl, by kernel_rfl, by decide, by kernel_rfl⟩ <|
 TBok0.cons ⟨by show _ = _; kernel_rfl, by kernel_rfl, by decide, by kernel_rfl⟩ <|
 TBok0.cons ⟨by show _ = _; kernel_rfl, by kernel_rfl, by decide, by kernel_rfl⟩ <|
 TBok0.cons ⟨by show _ = _; kernel_rfl, by kernel_rfl, by decide, by kernel_rfl⟩ <|
 TBok0.cons ⟨by show _ = _; kernel_rfl, by kernel_rfl, by decide, by kernel_rfl⟩ <|
 TBok0.cons ⟨by show _ = _; kernel_rfl, by kernel_rfl, by decide, by kernel_rfl⟩ <|
 TBok0.cons ⟨by show _ = _; kernel_rfl, by kernel_rfl, by decide, by kernel_rfl⟩ <|
 TBok0.cons ⟨by show _ = _; kernel_rfl, by kernel_rfl, by decide, by kernel_rfl⟩ <|
 TBok0.cons ⟨by show _ = _; kernel_rfl, by kernel_rfl, by decide, by kernel_rfl⟩ <|
 TBok0.cons ⟨by show _ = _; kernel_rfl, by kernel_rfl, by decide, by kernel_rfl⟩ <|
 TBok0.cons ⟨by show _ = _; kernel_rfl, by kernel_rfl, by decide, by kernel_rfl⟩ <|
 TBok0.cons ⟨by show _ = _; kernel_rfl, by kernel_rfl, by decide, by kernel_rfl⟩ <|
 TBok0.cons ⟨by show _ = _; kernel_rfl, by kernel_rfl, by decide, by kernel_rfl⟩ <|
 TBok0.cons ⟨by show _ = _; kernel_rfl, by kernel_rfl, by decide, by kernel_rfl⟩ <|
 TBok0.cons ⟨by show _ = _; kernel_rfl, by kernel_rfl, by decide, by kernel_rfl⟩ <|
 TBok0.cons ⟨by show _ = _; kernel_rfl, by kernel_rfl, by decide, by kernel_rfl⟩ <|
 TBok0.nil
theorem zaG : TBok Tryz.prog tb := ⟨tb_ok0, fun _ => by kernel_rfl⟩
theorem zaH : Tryz.prog.follows .mixedOrders = true := by kernel_rfl
end Go.Sx
