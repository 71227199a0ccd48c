import Derived.Test.YtlihikockhjodaaGreatDoorSxX
import Derived.Test.YtlihikockhjodaaGreatDoorRows
import Derived.KernelRfl

namespace Go.Sx
open Go.Proofs
def tb:TB:=[(2,⟨.int .i64,1,8,(.cons (.int .i64 0) .nil),false⟩),
 (2,⟨.int .i64,1,8,(.cons (.int .i64 0) .nil),false⟩),
 (3,⟨.int .i64,1,8,(.cons (.int .i64 0) .nil),false⟩),
 (4,⟨.bool,1,1,(.cons (.bool false) .nil),false⟩),
 (5,⟨.int .u8,1,1,(.cons (.int .u8 0) .nil),false⟩),
 (6,⟨.int .u8,1,1,(.cons (.int .u8 0) .nil),false⟩),
 (7,⟨.struct [(0,2),(1,3),(2,4),(3,6)],4,24,(.cons (.int .i64 0) (.cons (.int .i64 0) (.cons (.bool false) (.cons (.int .u8 0) .nil)))),false⟩),
 (8,⟨.struct [(0,2),(1,3),(2,4),(3,6)],4,24,(.cons (.int .i64 0) (.cons (.int .i64 0) (.cons (.bool false) (.cons (.int .u8 0) .nil)))),false⟩),
 (9,⟨.str,1,16,(.cons (.string ⟨#[]⟩) .nil),false⟩),
 (10,⟨.str,1,16,(.cons (.string ⟨#[]⟩) .nil),false⟩),
 (11,⟨.str,1,16,(.cons (.string ⟨#[]⟩) .nil),false⟩),
 (12,⟨.int .u64,1,8,(.cons (.int .u64 0) .nil),false⟩),
 (13,⟨.struct [(0,9),(1,12)],2,24,(.cons (.string ⟨#[]⟩) (.cons (.int .u64 0) .nil)),false⟩),
 (14,⟨.struct [(0,9),(1,12)],2,24,(.cons (.string ⟨#[]⟩) (.cons (.int .u64 0) .nil)),false⟩),
 (15,⟨.ptr 317,1,8,(.cons (.pointer none) .nil),false⟩),
 (16,⟨.ptr 320,1,8,(.cons (.pointer none) .nil),false⟩),
 (17,⟨.ptr 328,1,8,(.cons (.pointer none) .nil),false⟩),
 (18,⟨.struct [(0,17)],1,8,(.cons (.pointer none) .nil),false⟩),
 (19,⟨.struct [(0,17)],1,8,(.cons (.pointer none) .nil),false⟩),
 (21,⟨.int .i32,1,4,(.cons (.int .i32 0) .nil),false⟩),
 (23,⟨.ptr 42,1,8,(.cons (.pointer none) .nil),false⟩),
 (25,⟨.slice 3,1,24,(.cons (.slice none 0 0) .nil),false⟩),
 (26,⟨.struct [(0,3),(1,3)],2,16,(.cons (.int .i64 0) (.cons (.int .i64 0) .nil)),false⟩),
 (27,⟨.struct [(0,3),(1,3)],2,16,(.cons (.int .i64 0) (.cons (.int .i64 0) .nil)),true⟩),
 (28,⟨.struct [(0,27),(2,3),(3,3)],4,32,(.cons (.int .i64 0) (.cons (.int .i64 0) (.cons (.int .i64 0) (.cons (.int .i64 0) .nil)))),true⟩),
 (29,⟨.struct [(0,27),(2,3),(3,3)],4,32,(.cons (.int .i64 0) (.cons (.int .i64 0) (.cons (.int .i64 0) (.cons (.int .i64 0) .nil)))),true⟩),
 (30,⟨.struct [(0,29),(4,25)],5,56,(.cons (.int .i64 0) (.cons (.int .i64 0) (.cons (.int .i64 0) (.cons (.int .i64 0) (.cons (.slice none 0 0) .nil))))),false⟩),
 (31,⟨.struct [(0,29),(4,25)],5,56,(.cons (.int .i64 0) (.cons (.int .i64 0) (.cons (.int .i64 0) (.cons (.int .i64 0) (.cons (.slice none 0 0) .nil))))),false⟩),
 (32,⟨.int .i64,1,8,(.cons (.int .i64 0) .nil),false⟩),
 (34,⟨.ptr 107,1,8,(.cons (.pointer none) .nil),false⟩),
 (35,⟨.ptr 221,1,8,(.cons (.pointer none) .nil),false⟩),
 (36,⟨.ptr 160,1,8,(.cons (.pointer none) .nil),false⟩),
 (37,⟨.struct [(0,3),(1,3),(2,3)],3,24,(.cons (.int .i64 0) (.cons (.int .i64 0) (.cons (.int .i64 0) .nil))),false⟩),
 (38,⟨.struct [(0,3),(1,3),(2,3)],3,24,(.cons (.int .i64 0) (.cons (.int .i64 0) (.cons (.int .i64 0) .nil))),true⟩),
 (39,⟨.struct [(0,38),(3,3),(4,3),(5,3)],6,48,(.cons (.int .i64 0) (.cons (.int .i64 0) (.cons (.int .i64 0) (.cons (.int .i64 0) (.cons (.int .i64 0) (.cons (.int .i64 0) .nil)))))),true⟩),
 (40,⟨.struct [(0,38),(3,3),(4,3),(5,3)],6,48,(.cons (.int .i64 0) (.cons (.int .i64 0) (.cons (.int .i64 0) (.cons (.int .i64 0) (.cons (.int .i64 0) (.cons (.int .i64 0) .nil)))))),true⟩),
 (41,⟨.struct [(0,34),(1,35),(2,36),(3,40)],9,72,(.cons (.pointer none) (.cons (.pointer none) (.cons (.pointer none) (.cons (.int .i64 0) (.cons (.int .i64 0) (.cons (.int .i64 0) (.cons (.int .i64 0) (.cons (.int .i64 0) (.cons (.int .i64 0) .nil))))))))),false⟩),
 (42,⟨.struct [(0,34),(1,35),(2,36),(3,40)],9,72,(.cons (.pointer none) (.cons (.pointer none) (.cons (.pointer none) (.cons (.int .i64 0) (.cons (.int .i64 0) (.cons (.int .i64 0) (.cons (.int .i64 0) (.cons (.int .i64 0) (.cons (.int .i64 0) .nil))))))))),false⟩),
 (44,⟨.slice 5,1,24,(.cons (.slice none 0 0) .nil),false⟩),
 (46,⟨.array 12 3,12,96,(.rep 1 12 (.cons (.int .i64 0) .nil) .nil),true⟩),
 (47,⟨.array 12 3,12,96,(.rep 1 12 (.cons (.int .i64 0) .nil) .nil),true⟩),
 (51,⟨.slice 54,1,24,(.cons (.slice none 0 0) .nil),false⟩),
 (54,⟨.array 2 3,2,16,(.rep 1 2 (.cons (.int .i64 0) .nil) .nil),true⟩),
 (55,⟨.slice 4,1,24,(.cons (.slice none 0 0) .nil),false⟩),
 (62,⟨.array 2 47,24,192,(.rep 12 2 (.rep 1 12 (.cons (.int .i64 0) .nil) .nil) .nil),true⟩),
 (63,⟨.slice 29,1,24,(.cons (.slice none 0 0) .nil),false⟩),
 (66,⟨.slice 70,1,24,(.cons (.slice none 0 0) .nil),false⟩),
 (69,⟨.struct [(0,4),(1,4),(2,3),(3,3)],4,24,(.cons (.bool false) (.cons (.bool false) (.cons (.int .i64 0) (.cons (.int .i64 0) .nil)))),false⟩),
 (70,⟨.struct [(0,4),(1,4),(2,3),(3,3)],4,24,(.cons (.bool false) (.cons (.bool false) (.cons (.int .i64 0) (.cons (.int .i64 0) .nil)))),true⟩),
 (83,⟨.slice 89,1,24,(.cons (.slice none 0 0) .nil),false⟩),
 (84,⟨.ptr 86,1,8,(.cons (.pointer none) .nil),false⟩),
 (85,⟨.struct [(0,23),(1,47),(13,63)],14,128,(.cons (.pointer none) (.rep 1 12 (.cons (.int .i64 0) .nil) (.cons (.slice none 0 0) .nil))),false⟩),
 (86,⟨.struct [(0,23),(1,47),(13,63)],14,128,(.cons (.pointer none) (.rep 1 12 (.cons (.int .i64 0) .nil) (.cons (.slice none 0 0) .nil))),false⟩),
 (88,⟨.struct [(0,3),(1,4),(2,4),(3,27),(5,3),(6,3)],7,48,(.cons (.int .i64 0) (.cons (.bool false) (.cons (.bool false) (.cons (.int .i64 0) (.cons (.int .i64 0) (.cons (.int .i64 0) (.cons (.int .i64 0) .nil))))))),true⟩),
 (89,⟨.struct [(0,3),(1,4),(2,4),(3,27),(5,3),(6,3)],7,48,(.cons (.int .i64 0) (.cons (.bool false) (.cons (.bool false) (.cons (.int .i64 0) (.cons (.int .i64 0) (.cons (.int .i64 0) (.cons (.int .i64 0) .nil))))))),true⟩),
 (106,⟨.struct [(0,35),(1,36)],2,16,(.cons (.pointer none) (.cons (.pointer none) .nil)),false⟩),
 (107,⟨.struct [(0,35),(1,36)],2,16,(.cons (.pointer none) (.cons (.pointer none) .nil)),false⟩),
 (111,⟨.int .u64,1,8,(.cons (.int .u64 0) .nil),false⟩),
 (129,⟨.ptr 198,1,8,(.cons (.pointer none) .nil),false⟩),
 (137,⟨.slice 143,1,24,(.cons (.slice none 0 0) .nil),false⟩),
 (142,⟨.struct [(0,3),(1,31),(6,3)],7,72,(.cons (.int .i64 0) (.cons (.int .i64 0) (.cons (.int .i64 0) (.cons (.int .i64 0) (.cons (.int .i64 0) (.cons (.slice none 0 0) (.cons (.int .i64 0) .nil))))))),false⟩),
 (143,⟨.struct [(0,3),(1,31),(6,3)],7,72,(.cons (.int .i64 0) (.cons (.int .i64 0) (.cons (.int .i64 0) (.cons (.int .i64 0) (.cons (.int .i64 0) (.cons (.slice none 0 0) (.cons (.int .i64 0) .nil))))))),false⟩),
 (158,⟨.array 4 129,4,32,(.rep 1 4 (.cons (.pointer none) .nil) .nil),false⟩),
 (159,⟨.struct [(0,3),(1,158)],5,40,(.cons (.int .i64 0) (.rep 1 4 (.cons (.pointer none) .nil) .nil)),false⟩),
 (160,⟨.struct [(0,3),(1,158)],5,40,(.cons (.int .i64 0) (.rep 1 4 (.cons (.pointer none) .nil) .nil)),false⟩),
 (164,⟨.int .u32,1,4,(.cons (.int .u32 0) .nil),false⟩),
 (177,⟨.struct [(0,4),(1,3),(2,3)],3,24,(.cons (.bool false) (.cons (.int .i64 0) (.cons (.int .i64 0) .nil))),false⟩),
 (178,⟨.struct [(0,4),(1,3),(2,3)],3,24,(.cons (.bool false) (.cons (.int .i64 0) (.cons (.int .i64 0) .nil))),true⟩),
 (182,⟨.array 16 3,16,128,(.rep 1 16 (.cons (.int .i64 0) .nil) .nil),true⟩),
 (183,⟨.struct [(0,182)],16,128,(.rep 1 16 (.cons (.int .i64 0) .nil) .nil),false⟩),
 (184,⟨.struct [(0,182)],16,128,(.rep 1 16 (.cons (.int .i64 0) .nil) .nil),true⟩),
 (187,⟨.array 7 178,21,168,(.rep 3 7 (.cons (.bool false) (.cons (.int .i64 0) (.cons (.int .i64 0) .nil))) .nil),true⟩),
 (188,⟨.struct [(0,187)],21,168,(.rep 3 7 (.cons (.bool false) (.cons (.int .i64 0) (.cons (.int .i64 0) .nil))) .nil),true⟩),
 (189,⟨.struct [(0,187)],21,168,(.rep 3 7 (.cons (.bool false) (.cons (.int .i64 0) (.cons (.int .i64 0) .nil))) .nil),true⟩),
 (196,⟨.slice 111,1,24,(.cons (.slice none 0 0) .nil),false⟩),
 (197,⟨.struct [(0,3),(1,196)],2,32,(.cons (.int .i64 0) (.cons (.slice none 0 0) .nil)),false⟩),
 (198,⟨.struct [(0,3),(1,196)],2,32,(.cons (.int .i64 0) (.cons (.slice none 0 0) .nil)),false⟩),
 (205,⟨.int .u64,1,8,(.cons (.int .u64 0) .nil),false⟩),
 (208,⟨.ptr 210,1,8,(.cons (.pointer none) .nil),false⟩),
 (209,⟨.struct [(0,111),(1,111),(2,111),(3,4)],4,32,(.cons (.int .u64 0) (.cons (.int .u64 0) (.cons (.int .u64 0) (.cons (.bool false) .nil)))),false⟩),
 (210,⟨.struct [(0,111),(1,111),(2,111),(3,4)],4,32,(.cons (.int .u64 0) (.cons (.int .u64 0) (.cons (.int .u64 0) (.cons (.bool false) .nil)))),false⟩),
 (213,⟨.slice 215,1,24,(.cons (.slice none 0 0) .nil),false⟩),
 (214,⟨.struct [(0,3),(1,3),(2,3)],3,24,(.cons (.int .i64 0) (.cons (.int .i64 0) (.cons (.int .i64 0) .nil))),false⟩),
 (215,⟨.struct [(0,3),(1,3),(2,3)],3,24,(.cons (.int .i64 0) (.cons (.int .i64 0) (.cons (.int .i64 0) .nil))),true⟩),
 (217,⟨.slice 210,1,24,(.cons (.slice none 0 0) .nil),false⟩),
 (218,⟨.struct [(0,25),(1,3)],2,32,(.cons (.slice none 0 0) (.cons (.int .i64 0) .nil)),false⟩),
 (219,⟨.struct [(0,25),(1,3)],2,32,(.cons (.slice none 0 0) (.cons (.int .i64 0) .nil)),false⟩),
 (220,⟨.struct [(0,217),(1,219),(3,4),(4,4),(5,3),(6,3)],7,80,(.cons (.slice none 0 0) (.cons (.slice none 0 0) (.cons (.int .i64 0) (.cons (.bool false) (.cons (.bool false) (.cons (.int .i64 0) (.cons (.int .i64 0) .nil))))))),false⟩),
 (221,⟨.struct [(0,217),(1,219),(3,4),(4,4),(5,3),(6,3)],7,80,(.cons (.slice none 0 0) (.cons (.slice none 0 0) (.cons (.int .i64 0) (.cons (.bool false) (.cons (.bool false) (.cons (.int .i64 0) (.cons (.int .i64 0) .nil))))))),false⟩),
 (222,⟨.array 3 3,3,24,(.rep 1 3 (.cons (.int .i64 0) .nil) .nil),true⟩),
 (249,⟨.int .i64,1,8,(.cons (.int .i64 0) .nil),false⟩),
 (257,⟨.slice 129,1,24,(.cons (.slice none 0 0) .nil),false⟩),
 (261,⟨.array 8 111,8,64,(.rep 1 8 (.cons (.int .u64 0) .nil) .nil),true⟩),
 (271,⟨.struct [(0,222),(3,222),(6,184),(22,184),(38,189)],59,472,(.rep 1 3 (.cons (.int .i64 0) .nil) (.rep 1 3 (.cons (.int .i64 0) .nil) (.rep 1 16 (.cons (.int .i64 0) .nil) (.rep 1 16 (.cons (.int .i64 0) .nil) (.rep 3 7 (.cons (.bool false) (.cons (.int .i64 0) (.cons (.int .i64 0) .nil))) .nil))))),true⟩),
 (272,⟨.struct [(0,222),(3,222),(6,184),(22,184),(38,189)],59,472,(.rep 1 3 (.cons (.int .i64 0) .nil) (.rep 1 3 (.cons (.int .i64 0) .nil) (.rep 1 16 (.cons (.int .i64 0) .nil) (.rep 1 16 (.cons (.int .i64 0) .nil) (.rep 3 7 (.cons (.bool false) (.cons (.int .i64 0) (.cons (.int .i64 0) .nil))) .nil))))),false⟩),
 (286,⟨.int .u64,1,8,(.cons (.int .u64 0) .nil),false⟩),
 (290,⟨.ptr 3,1,8,(.cons (.pointer none) .nil),false⟩),
 (294,⟨.slice 44,1,24,(.cons (.slice none 0 0) .nil),false⟩),
 (295,⟨.array 16 164,16,64,(.rep 1 16 (.cons (.int .u32 0) .nil) .nil),true⟩),
 (298,⟨.ptr 295,1,8,(.cons (.pointer none) .nil),false⟩),
 (310,⟨.ptr 286,1,8,(.cons (.pointer none) .nil),false⟩),
 (314,⟨.array 64 5,64,64,(.rep 1 64 (.cons (.int .u8 0) .nil) .nil),true⟩),
 (315,⟨.ptr 219,1,8,(.cons (.pointer none) .nil),false⟩),
 (316,⟨.struct [(0,17),(1,17),(2,17),(3,9)],4,40,(.cons (.pointer none) (.cons (.pointer none) (.cons (.pointer none) (.cons (.string ⟨#[]⟩) .nil)))),false⟩),
 (317,⟨.struct [(0,17),(1,17),(2,17),(3,9)],4,40,(.cons (.pointer none) (.cons (.pointer none) (.cons (.pointer none) (.cons (.string ⟨#[]⟩) .nil)))),false⟩),
 (318,⟨.array 0 16,0,0,(.rep 1 0 (.cons (.pointer none) .nil) .nil),false⟩),
 (319,⟨.struct [(0,318)],0,0,(.rep 1 0 (.cons (.pointer none) .nil) .nil),false⟩),
 (320,⟨.struct [(0,318)],0,0,(.rep 1 0 (.cons (.pointer none) .nil) .nil),false⟩),
 (321,⟨.int .u8,1,1,(.cons (.int .u8 0) .nil),false⟩),
 (322,⟨.int .u8,1,1,(.cons (.int .u8 0) .nil),false⟩),
 (324,⟨.ptr 5,1,8,(.cons (.pointer none) .nil),false⟩),
 (325,⟨.int .i32,1,4,(.cons (.int .i32 0) .nil),false⟩),
 (326,⟨.int .i32,1,4,(.cons (.int .i32 0) .nil),false⟩)]
theorem tb_ok0:TBok0 Tryz.prog tb :=
 TBok0.cons ⟨by show _=_; kernel_rfl,by kernel_rfl,by decide,by kernel_rfl⟩ <|
 TBok0.cons ⟨by show _=_; kernel_rfl,by kernel_rfl,by decide,by kernel_rfl⟩ <|
 TBok0.cons ⟨by show _=_; kernel_rfl,by kernel_rfl,by decide,by kernel_rfl⟩ <|
 TBok0.cons ⟨by show _=_; kernel_rfl,by kernel_rfl,by decide,by kernel_rfl⟩ <|
 TBok0.cons ⟨by show _=_; kernel_rfl,by kernel_rfl,by decide,by kernel_rfl⟩ <|
 TBok0.cons ⟨by show _=_; kernel_rfl,by kernel_rfl,by decide,by kernel_rfl⟩ <|
 TBok0.cons ⟨by show _=_; kernel_rfl,by kernel_rfl,by decide,by kernel_rfl⟩ <|
 TBok0.cons ⟨by show _=_; kernel_rfl,by kernel_rfl,by decide,by kernel_rfl⟩ <|
 TBok0.cons ⟨by show _=_; kernel_rfl,by kernel_rfl,by decide,by kernel_rfl⟩ <|
 TBok0.cons ⟨by show _=_; kernel_rfl,by kernel_rfl,by decide,by kernel_rfl⟩ <|
 TBok0.cons ⟨by show _=_; kernel_rfl,by kernel_rfl,by decide,by kernel_rfl⟩ <|
 TBok0.cons ⟨by show _=_; kernel_rfl,by kernel_rfl,by decide,by kernel_rfl⟩ <|
 TBok0.cons ⟨by show _=_; kernel_rfl,by kernel_rfl,by decide,by kernel_rfl⟩ <|
 TBok0.cons ⟨by show _=_; kernel_rfl,by kernel_rfl,by decide,by kernel_rfl⟩ <|
 TBok0.cons ⟨by show _=_; kernel_rfl,by kernel_rfl,by decide,by kernel_rfl⟩ <|
 TBok0.cons ⟨by show _=_; kernel_rfl,by kernel_rfl,by decide,by kernel_rfl⟩ <|
 TBok0.cons ⟨by show _=_; kernel_rfl,by kernel_rfl,by decide,by kernel_rfl⟩ <|
 TBok0.cons ⟨by show _=_; kernel_rfl,by kernel_rfl,by decide,by kernel_rfl⟩ <|
 TBok0.cons ⟨by show _=_; kernel_rfl,by kernel_rfl,by decide,by kernel_rfl⟩ <|
 TBok0.cons ⟨by show _=_; kernel_rfl,by kernel_rfl,by decide,by kernel_rfl⟩ <|
 TBok0.cons ⟨by show _=_; kernel_rfl,by kernel_rfl,by decide,by kernel_rfl⟩ <|
 TBok0.cons ⟨by show _=_; kernel_rfl,by kernel_rfl,by decide,by kernel_rfl⟩ <|
 TBok0.cons ⟨by show _=_; kernel_rfl,by kernel_rfl,by decide,by kernel_rfl⟩ <|
 TBok0.cons ⟨by show _=_; kernel_rfl,by kernel_rfl,by decide,by kernel_rfl⟩ <|
 TBok0.cons ⟨by show _=_; kernel_rfl,by kernel_rfl,by decide,by kernel_rfl⟩ <|
 TBok0.cons ⟨by show _=_; kernel_rfl,by kernel_rfl,by decide,by kernel_rfl⟩ <|
 TBok0.cons ⟨by show _=_; kernel_rfl,by kernel_rfl,by decide,by kernel_rfl⟩ <|
 TBok0.cons ⟨by show _=_; kernel_rfl,by kernel_rfl,by decide,by kernel_rfl⟩ <|
 TBok0.cons ⟨by show _=_; kernel_rfl,by kernel_rfl,by decide,by kernel_rfl⟩ <|
 TBok0.cons ⟨by show _=_; kernel_rfl,by kernel_rfl,by decide,by kernel_rfl⟩ <|
 TBok0.cons ⟨by show _=_; kernel_rfl,by kernel_rfl,by decide,by kernel_rfl⟩ <|
 TBok0.cons ⟨by show _=_; kernel_rfl,by kernel_rfl,by decide,by kernel_rfl⟩ <|
 TBok0.cons ⟨by show _=_; kernel_rfl,by kernel_rfl,by decide,by kernel_rfl⟩ <|
 TBok0.cons ⟨by show _=_; kernel_rfl,by kernel_rfl,by decide,by kernel_rfl⟩ <|
 TBok0.cons ⟨by show _=_; kernel_rfl,by kernel_rfl,by decide,by kernel_rfl⟩ <|
 TBok0.cons ⟨by show _=_; kernel_rfl,by kernel_rfl,by decide,by kernel_rfl⟩ <|
 TBok0.cons ⟨by show _=_; kernel_rfl,by kernel_rfl,by decide,by kernel_rfl⟩ <|
 TBok0.cons ⟨by show _=_; kernel_rfl,by kernel_rfl,by decide,by kernel_rfl⟩ <|
 TBok0.cons ⟨by show _=_; kernel_rfl,by kernel_rfl,by decide,by kernel_rfl⟩ <|
 TBok0.cons ⟨by show _=_; kernel_rfl,by kernel_rfl,by decide,by kernel_rfl⟩ <|
 TBok0.cons ⟨by show _=_; kernel_rfl,by kernel_rfl,by decide,by kernel_rfl⟩ <|
 TBok0.cons ⟨by show _=_; kernel_rfl,by kernel_rfl,by decide,by kernel_rfl⟩ <|
 TBok0.cons ⟨by show _=_; kernel_rfl,by kernel_rfl,by decide,by kernel_rfl⟩ <|
 TBok0.cons ⟨by show _=_; kernel_rfl,by kernel_rfl,by decide,by kernel_rfl⟩ <|
 TBok0.cons ⟨by show _=_; kernel_rfl,by kernel_rfl,by decide,by kernel_rfl⟩ <|
 TBok0.cons ⟨by show _=_; kernel_rfl,by kernel_rfl,by decide,by kernel_rfl⟩ <|
 TBok0.cons ⟨by show _=_; kernel_rfl,by kernel_rfl,by decide,by kernel_rfl⟩ <|
 TBok0.cons ⟨by show _=_; kernel_rfl,by kernel_rfl,by decide,by kernel_rfl⟩ <|
 TBok0.cons ⟨by show _=_; kernel_rfl,by kernel_rfl,by decide,by kernel_rfl⟩ <|
 TBok0.cons ⟨by show _=_; kernel_rfl,by kernel_rfl,by decide,by kernel_rfl⟩ <|
 TBok0.cons ⟨by show _=_; kernel_rfl,by kernel_rfl,by decide,by kernel_rfl⟩ <|
 TBok0.cons ⟨by show _=_; kernel_rfl,by kernel_rfl,by decide,by kernel_rfl⟩ <|
 TBok0.cons ⟨by show _=_; kernel_rfl,by kernel_rfl,by decide,by kernel_rfl⟩ <|
 TBok0.cons ⟨by show _=_; kernel_rfl,by kernel_rfl,by decide,by kernel_rfl⟩ <|
 TBok0.cons ⟨by show _=_; kernel_rfl,by kernel_rfl,by decide,by kernel_rfl⟩ <|
 TBok0.cons ⟨by show _=_; kernel_rfl,by kernel_rfl,by decide,by kernel_rfl⟩ <|
 TBok0.cons ⟨by show _=_; kernel_rfl,by kernel_rfl,by decide,by kernel_rfl⟩ <|
 TBok0.cons ⟨by show _=_; kernel_rfl,by kernel_rfl,by decide,by kernel_rfl⟩ <|
 TBok0.cons ⟨by show _=_; kernel_rfl,by kernel_rfl,by decide,by kernel_rfl⟩ <|
 TBok0.cons ⟨by show _=_; kernel_rfl,by kernel_rfl,by decide,by kernel_rfl⟩ <|
 TBok0.cons ⟨by show _=_; kernel_rfl,by kernel_rfl,by decide,by kernel_rfl⟩ <|
 TBok0.cons ⟨by show _=_; kernel_rfl,by kernel_rfl,by decide,by kernel_rfl⟩ <|
 TBok0.cons ⟨by show _=_; kernel_rfl,by kernel_rfl,by decide,by kernel_rfl⟩ <|
 TBok0.cons ⟨by show _=_; kernel_rfl,by kernel_rfl,by decide,by kernel_rfl⟩ <|
 TBok0.cons ⟨by show _=_; kernel_rfl,by kernel_rfl,by decide,by kernel_rfl⟩ <|
 TBok0.cons ⟨by show _=_; kernel_rfl,by kernel_rfl,by decide,by kernel_rfl⟩ <|
 TBok0.cons ⟨by show _=_; kernel_rfl,by kernel_rfl,by decide,by kernel_rfl⟩ <|
 TBok0.cons ⟨by show _=_; kernel_rfl,by kernel_rfl,by decide,by kernel_rfl⟩ <|
 TBok0.cons ⟨by show _=_; kernel_rfl,by kernel_rfl,by decide,by kernel_rfl⟩ <|
 TBok0.cons ⟨by show _=_; kernel_rfl,by kernel_rfl,by decide,by kernel_rfl⟩ <|
 TBok0.cons ⟨by show _=_; kernel_rfl,by kernel_rfl,by decide,by kernel_rfl⟩ <|
 TBok0.cons ⟨by show _=_; kernel_rfl,by kernel_rfl,by decide,by kernel_rfl⟩ <|
 TBok0.cons ⟨by show _=_; kernel_rfl,by kernel_rfl,by decide,by kernel_rfl⟩ <|
 TBok0.cons ⟨by show _=_; kernel_rfl,by kernel_rfl,by decide,by kernel_rfl⟩ <|
 TBok0.cons ⟨by show _=_; kernel_rfl,by kernel_rfl,by decide,by kernel_rfl⟩ <|
 TBok0.cons ⟨by show _=_; kernel_rfl,by kernel_rfl,by decide,by kernel_rfl⟩ <|
 TBok0.cons ⟨by show _=_; kernel_rfl,by kernel_rfl,by decide,by kernel_rfl⟩ <|
 TBok0.cons ⟨by show _=_; kernel_rfl,by kernel_rfl,by decide,by kernel_rfl⟩ <|
 TBok0.cons ⟨by show _=_; kernel_rfl,by kernel_rfl,by decide,by kernel_rfl⟩ <|
 TBok0.cons ⟨by show _=_; kernel_rfl,by kernel_rfl,by decide,by kernel_rfl⟩ <|
 TBok0.cons ⟨by show _=_; kernel_rfl,by kernel_rfl,by decide,by kernel_rfl⟩ <|
 TBok0.cons ⟨by show _=_; kernel_rfl,by kernel_rfl,by decide,by kernel_rfl⟩ <|
 TBok0.cons ⟨by show _=_; kernel_rfl,by kernel_rfl,by decide,by kernel_rfl⟩ <|
 TBok0.cons ⟨by show _=_; kernel_rfl,by kernel_rfl,by decide,by kernel_rfl⟩ <|
 TBok0.cons ⟨by show _=_; kernel_rfl,by kernel_rfl,by decide,by kernel_rfl⟩ <|
 TBok0.cons ⟨by show _=_; kernel_rfl,by kernel_rfl,by decide,by kernel_rfl⟩ <|
 TBok0.cons ⟨by show _=_; kernel_rfl,by kernel_rfl,by decide,by kernel_rfl⟩ <|
 TBok0.cons ⟨by show _=_; kernel_rfl,by kernel_rfl,by decide,by kernel_rfl⟩ <|
 TBok0.cons ⟨by show _=_; kernel_rfl,by kernel_rfl,by decide,by kernel_rfl⟩ <|
 TBok0.cons ⟨by show _=_; kernel_rfl,by kernel_rfl,by decide,by kernel_rfl⟩ <|
 TBok0.cons ⟨by show _=_; kernel_rfl,by kernel_rfl,by decide,by kernel_rfl⟩ <|
 TBok0.cons ⟨by show _=_; kernel_rfl,by kernel_rfl,by decide,by kernel_rfl⟩ <|
 TBok0.cons ⟨by show _=_; kernel_rfl,by kernel_rfl,by decide,by kernel_rfl⟩ <|
 TBok0.cons ⟨by show _=_; kernel_rfl,by kernel_rfl,by decide,by kernel_rfl⟩ <|
 TBok0.cons ⟨by show _=_; kernel_rfl,by kernel_rfl,by decide,by kernel_rfl⟩ <|
 TBok0.cons ⟨by show _=_; kernel_rfl,by kernel_rfl,by decide,by kernel_rfl⟩ <|
 TBok0.cons ⟨by show _=_; kernel_rfl,by kernel_rfl,by decide,by kernel_rfl⟩ <|
 TBok0.cons ⟨by show _=_; kernel_rfl,by kernel_rfl,by decide,by kernel_rfl⟩ <|
 TBok0.cons ⟨by show _=_; kernel_rfl,by kernel_rfl,by decide,by kernel_rfl⟩ <|
 TBok0.cons ⟨by show _=_; kernel_rfl,by kernel_rfl,by decide,by kernel_rfl⟩ <|
 TBok0.cons ⟨by show _=_; kernel_rfl,by kernel_rfl,by decide,by kernel_rfl⟩ <|
 TBok0.cons ⟨by show _=_; kernel_rfl,by kernel_rfl,by decide,by kernel_rfl⟩ <|
 TBok0.cons ⟨by show _=_; kernel_rfl,by kernel_rfl,by decide,by kernel_rfl⟩ <|
 TBok0.cons ⟨by show _=_; kernel_rfl,by kernel_rfl,by decide,by kernel_rfl⟩ <|
 TBok0.cons ⟨by show _=_; kernel_rfl,by kernel_rfl,by decide,by kernel_rfl⟩ <|
 TBok0.cons ⟨by show _=_; kernel_rfl,by kernel_rfl,by decide,by kernel_rfl⟩ <|
 TBok0.cons ⟨by show _=_; kernel_rfl,by kernel_rfl,by decide,by kernel_rfl⟩ <|
 TBok0.cons ⟨by show _=_; kernel_rfl,by kernel_rfl,by decide,by kernel_rfl⟩ <|
 TBok0.cons ⟨by show _=_; kernel_rfl,by kernel_rfl,by decide,by kernel_rfl⟩ <|
 TBok0.cons ⟨by show _=_; kernel_rfl,by kernel_rfl,by decide,by kernel_rfl⟩ <|
 TBok0.cons ⟨by show _=_; kernel_rfl,by kernel_rfl,by decide,by kernel_rfl⟩ <|
 TBok0.cons ⟨by show _=_; kernel_rfl,by kernel_rfl,by decide,by kernel_rfl⟩ <|
 TBok0.cons ⟨by show _=_; kernel_rfl,by kernel_rfl,by decide,by kernel_rfl⟩ <|
 TBok0.nil
theorem zaL:TBok Tryz.prog tb:=⟨tb_ok0,fun _=>by kernel_rfl⟩
theorem zaM:Tryz.prog.follows .mixedOrders=true:=by kernel_rfl
end Go.Sx
