/- The types of the program. -/
import Derived.Test.YtoajfhpiepkjkaaSxT
import Derived.Test.YtoajfhpiepkjkaaRows
import Derived.KernelRfl
namespace Go.Sx
open Go.Proofs
def tb : TB := [(2, ⟨.int .i64, 1, 8, (.cons (.int .i64 0) .nil)⟩),
  (3, ⟨.int .i64, 1, 8, (.cons (.int .i64 0) .nil)⟩),
  (4, ⟨.bool, 1, 1, (.cons (.bool false) .nil)⟩),
  (5, ⟨.int .u8, 1, 1, (.cons (.int .u8 0) .nil)⟩),
  (6, ⟨.int .u8, 1, 1, (.cons (.int .u8 0) .nil)⟩),
  (7, ⟨.struct [(0, 2), (1, 3), (2, 4), (3, 6)], 4, 24, (.cons (.int .i64 0) (.cons (.int .i64 0) (.cons (.bool false) (.cons (.int .u8 0) .nil))))⟩),
  (8, ⟨.struct [(0, 2), (1, 3), (2, 4), (3, 6)], 4, 24, (.cons (.int .i64 0) (.cons (.int .i64 0) (.cons (.bool false) (.cons (.int .u8 0) .nil))))⟩),
  (9, ⟨.str, 1, 16, (.cons (.string ⟨#[]⟩) .nil)⟩),
  (10, ⟨.str, 1, 16, (.cons (.string ⟨#[]⟩) .nil)⟩),
  (11, ⟨.str, 1, 16, (.cons (.string ⟨#[]⟩) .nil)⟩),
  (12, ⟨.int .u64, 1, 8, (.cons (.int .u64 0) .nil)⟩),
  (13, ⟨.struct [(0, 9), (1, 12)], 2, 24, (.cons (.string ⟨#[]⟩) (.cons (.int .u64 0) .nil))⟩),
  (14, ⟨.struct [(0, 9), (1, 12)], 2, 24, (.cons (.string ⟨#[]⟩) (.cons (.int .u64 0) .nil))⟩),
  (15, ⟨.ptr 77, 1, 8, (.cons (.pointer none) .nil)⟩),
  (16, ⟨.ptr 80, 1, 8, (.cons (.pointer none) .nil)⟩),
  (17, ⟨.ptr 89, 1, 8, (.cons (.pointer none) .nil)⟩),
  (18, ⟨.struct [(0, 17)], 1, 8, (.cons (.pointer none) .nil)⟩),
  (19, ⟨.struct [(0, 17)], 1, 8, (.cons (.pointer none) .nil)⟩),
  (21, ⟨.int .i32, 1, 4, (.cons (.int .i32 0) .nil)⟩),
  (24, ⟨.int .u32, 1, 4, (.cons (.int .u32 0) .nil)⟩),
  (25, ⟨.array 16 24, 16, 64, (.rep 1 16 (.cons (.int .u32 0) .nil) .nil)⟩),
  (29, ⟨.slice 5, 1, 24, (.cons (.slice none 0 0) .nil)⟩),
  (33, ⟨.slice 29, 1, 24, (.cons (.slice none 0 0) .nil)⟩),
  (37, ⟨.int .u64, 1, 8, (.cons (.int .u64 0) .nil)⟩),
  (47, ⟨.struct [(0, 3), (1, 3), (2, 3)], 3, 24, (.cons (.int .i64 0) (.cons (.int .i64 0) (.cons (.int .i64 0) .nil)))⟩),
  (48, ⟨.struct [(0, 3), (1, 3), (2, 3)], 3, 24, (.cons (.int .i64 0) (.cons (.int .i64 0) (.cons (.int .i64 0) .nil)))⟩),
  (57, ⟨.slice 37, 1, 24, (.cons (.slice none 0 0) .nil)⟩),
  (61, ⟨.array 2 3, 2, 16, (.rep 1 2 (.cons (.int .i64 0) .nil) .nil)⟩),
  (68, ⟨.array 2 37, 2, 16, (.rep 1 2 (.cons (.int .u64 0) .nil) .nil)⟩),
  (72, ⟨.ptr 25, 1, 8, (.cons (.pointer none) .nil)⟩),
  (73, ⟨.int .u64, 1, 8, (.cons (.int .u64 0) .nil)⟩),
  (76, ⟨.struct [(0, 17), (1, 17), (2, 17), (3, 9)], 4, 40, (.cons (.pointer none) (.cons (.pointer none) (.cons (.pointer none) (.cons (.string ⟨#[]⟩) .nil))))⟩),
  (77, ⟨.struct [(0, 17), (1, 17), (2, 17), (3, 9)], 4, 40, (.cons (.pointer none) (.cons (.pointer none) (.cons (.pointer none) (.cons (.string ⟨#[]⟩) .nil))))⟩),
  (78, ⟨.array 0 16, 0, 0, (.rep 1 0 (.cons (.pointer none) .nil) .nil)⟩),
  (79, ⟨.struct [(0, 78)], 0, 0, (.rep 1 0 (.cons (.pointer none) .nil) .nil)⟩),
  (80, ⟨.struct [(0, 78)], 0, 0, (.rep 1 0 (.cons (.pointer none) .nil) .nil)⟩),
  (82, ⟨.int .u8, 1, 1, (.cons (.int .u8 0) .nil)⟩),
  (83, ⟨.int .u8, 1, 1, (.cons (.int .u8 0) .nil)⟩),
  (85, ⟨.ptr 5, 1, 8, (.cons (.pointer none) .nil)⟩),
  (86, ⟨.int .i32, 1, 4, (.cons (.int .i32 0) .nil)⟩),
  (87, ⟨.int .i32, 1, 4, (.cons (.int .i32 0) .nil)⟩)]
theorem tb_ok0 : TBok0 Try.prog tb :=
  TBok0.cons ⟨by show _ = _; kernel_rfl, by kernel_rfl, by decide, by decide⟩ <|
  TBok0.cons ⟨by show _ = _; kernel_rfl, by kernel_rfl, by decide, by decide⟩ <|
  TBok0.cons ⟨by show _ = _; kernel_rfl, by kernel_rfl, by decide, by decide⟩ <|
  TBok0.cons ⟨by show _ = _; kernel_rfl, by kernel_rfl, by decide, by decide⟩ <|
  TBok0.cons ⟨by show _ = _; kernel_rfl, by kernel_rfl, by decide, by decide⟩ <|
  TBok0.cons ⟨by show _ = _; kernel_rfl, by kernel_rfl, by decide, by decide⟩ <|
  TBok0.cons ⟨by show _ = _; kernel_rfl, by kernel_rfl, by decide, by decide⟩ <|
  TBok0.cons ⟨by show _ = _; kernel_rfl, by kernel_rfl, by decide, by decide⟩ <|
  TBok0.cons ⟨by show _ = _; kernel_rfl, by kernel_rfl, by decide, by decide⟩ <|
  TBok0.cons ⟨by show _ = _; kernel_rfl, by kernel_rfl, by decide, by decide⟩ <|
  TBok0.cons ⟨by show _ = _; kernel_rfl, by kernel_rfl, by decide, by decide⟩ <|
  TBok0.cons ⟨by show _ = _; kernel_rfl, by kernel_rfl, by decide, by decide⟩ <|
  TBok0.cons ⟨by show _ = _; kernel_rfl, by kernel_rfl, by decide, by decide⟩ <|
  TBok0.cons ⟨by show _ = _; kernel_rfl, by kernel_rfl, by decide, by decide⟩ <|
  TBok0.cons ⟨by show _ = _; kernel_rfl, by kernel_rfl, by decide, by decide⟩ <|
  TBok0.cons ⟨by show _ = _; kernel_rfl, by kernel_rfl, by decide, by decide⟩ <|
  TBok0.cons ⟨by show _ = _; kernel_rfl, by kernel_rfl, by decide, by decide⟩ <|
  TBok0.cons ⟨by show _ = _; kernel_rfl, by kernel_rfl, by decide, by decide⟩ <|
  TBok0.cons ⟨by show _ = _; kernel_rfl, by kernel_rfl, by decide, by decide⟩ <|
  TBok0.cons ⟨by show _ = _; kernel_rfl, by kernel_rfl, by decide, by decide⟩ <|
  TBok0.cons ⟨by show _ = _; kernel_rfl, by kernel_rfl, by decide, by decide⟩ <|
  TBok0.cons ⟨by show _ = _; kernel_rfl, by kernel_rfl, by decide, by decide⟩ <|
  TBok0.cons ⟨by show _ = _; kernel_rfl, by kernel_rfl, by decide, by decide⟩ <|
  TBok0.cons ⟨by show _ = _; kernel_rfl, by kernel_rfl, by decide, by decide⟩ <|
  TBok0.cons ⟨by show _ = _; kernel_rfl, by kernel_rfl, by decide, by decide⟩ <|
  TBok0.cons ⟨by show _ = _; kernel_rfl, by kernel_rfl, by decide, by decide⟩ <|
  TBok0.cons ⟨by show _ = _; kernel_rfl, by kernel_rfl, by decide, by decide⟩ <|
  TBok0.cons ⟨by show _ = _; kernel_rfl, by kernel_rfl, by decide, by decide⟩ <|
  TBok0.cons ⟨by show _ = _; kernel_rfl, by kernel_rfl, by decide, by decide⟩ <|
  TBok0.cons ⟨by show _ = _; kernel_rfl, by kernel_rfl, by decide, by decide⟩ <|
  TBok0.cons ⟨by show _ = _; kernel_rfl, by kernel_rfl, by decide, by decide⟩ <|
  TBok0.cons ⟨by show _ = _; kernel_rfl, by kernel_rfl, by decide, by decide⟩ <|
  TBok0.cons ⟨by show _ = _; kernel_rfl, by kernel_rfl, by decide, by decide⟩ <|
  TBok0.cons ⟨by show _ = _; kernel_rfl, by kernel_rfl, by decide, by decide⟩ <|
  TBok0.cons ⟨by show _ = _; kernel_rfl, by kernel_rfl, by decide, by decide⟩ <|
  TBok0.cons ⟨by show _ = _; kernel_rfl, by kernel_rfl, by decide, by decide⟩ <|
  TBok0.cons ⟨by show _ = _; kernel_rfl, by kernel_rfl, by decide, by decide⟩ <|
  TBok0.cons ⟨by show _ = _; kernel_rfl, by kernel_rfl, by decide, by decide⟩ <|
  TBok0.cons ⟨by show _ = _; kernel_rfl, by kernel_rfl, by decide, by decide⟩ <|
  TBok0.cons ⟨by show _ = _; kernel_rfl, by kernel_rfl, by decide, by decide⟩ <|
  TBok0.cons ⟨by show _ = _; kernel_rfl, by kernel_rfl, by decide, by decide⟩ <|
  TBok0.nil
theorem tb_ok : TBok Try.prog tb := ⟨tb_ok0, fun h => absurd h (by decide)⟩
theorem mixed : Try.prog.follows .mixedOrders = true := by kernel_rfl
end Go.Sx
